import Derived.Test.YtecgdgjlmlpcnaaCmb
namespace Go.Proofs.Ytecgdgjlmlpcnaa
open Go.RowKit
set_option linter.unusedSimpArgs false
set_option linter.unusedVariables false
set_option maxHeartbeats 4000000 in
set_option maxRecDepth 100000 in
theorem index16_c (Au : Option Addr) (u : List Nat) (cu : Nat) (x : Nat) (w : World) (hru : SRow w .u16 Au u cu) (hx : x < 65536) : Calls Try.prog 101 #[sv Au u cu, .int .u16 (x : Int)] w (IsRet (iv (idxF (fun y : Nat => decide ((x : Int) = (y : Int))) u)) w) := by
  refine enter_abs Try.func101 rfl fun a0 hs0 hd0 hp => ?_
  have hs0 : a0.tmps.size = 19 := hs0
  have hN0 : New w w := Upd.refl _ _
  have hp0 : a0.eval (.tmp 0) = sv Au u cu := hp 0 _ rfl
  have hp1 : a0.eval (.tmp 1) = .int .u16 (x : Int) := hp 1 _ rfl
  have hmx := hru.max
  refine wp_seq_k fun K1 hK1 => ?_
  refine wp_g0 [true] [] 19
    [ve (iv 0)] hs0 (.eq (.nil)) ?_ ?_
  refine .o1 (tk rfl rfl fun _ w hn k => ⟨_, v_assign rfl rfl, rfl⟩) ?_
  exact .nil
  intro a2 w3 hn4 ha5
  obtain ⟨hs6, hd7, hN10⟩ := aft ha5 hs0 hd0 hN0 hn4
  have h8 := ha5.fx 0 hp0
  have h9 := ha5.fx 1 hp1
  refine st_nil (hK1 _ _ ?_)
  refine wp_seq_k fun K11 hK11 => ?_
  refine wp_seq_k fun K12 hK12 => ?_
  refine wp_g0 [true, true, true] [] 19
    [ve (sv Au u cu),
     ve (iv (u.length : Int)),
     ve (iv 0)] hs6 (.eq (.eq (.eq (.nil)))) ?_ ?_
  refine .o1 (tk rfl rfl fun _ w hn k => ⟨_, v_move rfl (k.fx 0 h8), rfl⟩) ?_
  refine .o1 (tk rfl rfl fun _ w hn k => ⟨_, v_lenR rfl elU (k.eq1 0 6 rfl), rfl⟩) ?_
  refine .o1 (tk rfl rfl fun _ w hn k => ⟨_, v_move rfl rfl, rfl⟩) ?_
  exact .nil
  intro a13 w14 hn15 ha16
  obtain ⟨hs17, hd18, hN23⟩ := aft ha16 hs6 hd7 hN10 hn15
  have h19 := ha16.fx 0 h8
  have h20 := ha16.fx 1 h9
  have h21 := ha16.ge 1 7 rfl
  have h22 := ha16.ge 2 8 rfl
  refine st_nil (hK12 _ _ ?_)
  refine wp_block ?_
  refine wp_loopX (fun (mm : Nat) (aa : Act) (ww : World) => ∃ (i : Nat), mm = u.length - i ∧ aa.tmps.size = 19 ∧ aa.defers = [] ∧ New w ww ∧ aa.eval (.tmp 8) = iv (i : Int) ∧ aa.eval (.tmp 0) = sv Au u cu ∧ aa.eval (.tmp 1) = .int .u16 (x : Int) ∧ aa.eval (.tmp 7) = iv (u.length : Int) ∧ (i ≤ u.length) ∧ (∀ j, j < i → (fun y : Nat => decide ((x : Int) = (y : Int))) (u.getD j 0) = false)) (fun mm => mm) ⟨_, ⟨0, rfl, hs17, hd18, hN23, h22, h19, h20, h21, (Nat.zero_le _), (fun j h => absurd h (Nat.not_lt_zero _))⟩⟩ ?_
  rintro mm a24 w25 ⟨i, hmm, hs26, hd27, hN28, h29, h30, h31, h32, hi, hno⟩
  refine wp_seq_k fun K33 hK33 => ?_
  refine wp_g0 [true] [] 19
    [ve (.bool (decide ((i : Int) < (u.length : Int))))] hs26 (.eq (.nil)) ?_ ?_
  refine .o1 (tk rfl rfl fun _ w hn k => ⟨_, v_bin rfl (k.fx 8 h29) (k.fx 7 h32) (fun _ => rfl) (r_lssK rfl), rfl⟩) ?_
  exact .nil
  intro a34 w35 hn36 ha37
  obtain ⟨hs38, hd39, hN45⟩ := aft ha37 hs26 hd27 hN28 hn36
  have h40 := ha37.fx 8 h29
  have h41 := ha37.fx 0 h30
  have h42 := ha37.fx 1 h31
  have h43 := ha37.fx 7 h32
  have h44 := ha37.ge 0 9 rfl
  refine st_nil (hK33 _ _ ?_)
  refine wp_seq_k fun K46 hK46 => ?_
  rcases Bool.eq_false_or_eq_true (decide ((i : Int) < (u.length : Int))) with ht47 | ht47
  have ht47d := of_decide_eq_true ht47
  have hv48 := hB h44 ht47
  refine wp_cond_true hv48 ?_
  refine wp_skip ?_
  refine hK46 _ _ ?_
  refine wp_seq_k fun K49 hK49 => ?_
  refine wp_block ?_
  refine wp_seq_k fun K50 hK50 => ?_
  refine wp_g0 [true, true] [] 19
    [ve (iv (i : Int)),
     ve (iv (i : Int))] hs38 (.eq (.eq (.nil))) ?_ ?_
  refine .o1 (tk rfl rfl fun _ w hn k => ⟨_, v_move rfl (k.fx 8 h40), rfl⟩) ?_
  refine .o1 (tk rfl rfl fun _ w hn k => ⟨_, v_assign rfl (k.eq1 0 10 rfl), rfl⟩) ?_
  exact .nil
  intro a51 w52 hn53 ha54
  obtain ⟨hs55, hd56, hN62⟩ := aft ha54 hs38 hd39 hN45 hn53
  have h57 := ha54.fx 8 h40
  have h58 := ha54.fx 0 h41
  have h59 := ha54.fx 1 h42
  have h60 := ha54.fx 7 h43
  have h61 := ha54.ge 1 5 rfl
  refine st_nil (hK50 _ _ ?_)
  refine wp_seq_k fun K63 hK63 => ?_
  refine wp_g0 [true, true, true, true, true, true] [] 19
    [ve (.int .u16 (x : Int)),
     ve (sv Au u cu),
     ve (iv (i : Int)),
     (fun (v_ : Value) (W : World) => ∃ (b3 : Nat) (o4 : Nat), v_ = .pointer (some ⟨b3, o4, none⟩) ∧ SElem W b3 o4 (.int .u16 ((u.getD i 0 : Nat) : Int))),
     ve (.int .u16 ((u.getD i 0 : Nat) : Int)),
     ve (.bool (decide ((x : Int) = ((u.getD i 0 : Nat) : Int))))] hs55 (.eq (.eq (.eq (.cons (fun v W W' hn ⟨b3, o4, he, h0⟩ => ⟨b3, o4, he, h0.new_ hn⟩) (.eq (.eq (.nil))))))) ?_ ?_
  refine .o1 (tk rfl rfl fun _ w hn k => ⟨_, v_move rfl (k.fx 1 h59), rfl⟩) ?_
  refine .o1 (tk rfl rfl fun _ w hn k => ⟨_, v_move rfl (k.fx 0 h58), rfl⟩) ?_
  refine .o1 (tk rfl rfl fun _ w hn k => ⟨_, v_move rfl (k.fx 5 h61), rfl⟩) ?_
  refine .o1 (tk rfl rfl fun _ w hn k => (by
        exact x_eaddr (k := .u16) rfl elU (k.eq1 1 12 rfl) (k.eq1 2 13 rfl) (hru.new_ (hN62.transNew hn)) (by omega) fun b1 o2 hme => ⟨b1, o2, rfl, hme⟩)) ?_
  refine .o1 (tk rfl rfl fun _ w hn k => (by
        obtain ⟨b5, o6, e7, hx8⟩ : (fun (v_ : Value) (W : World) => ∃ (b3 : Nat) (o4 : Nat), v_ = .pointer (some ⟨b3, o4, none⟩) ∧ SElem W b3 o4 (.int .u16 ((u.getD i 0 : Nat) : Int))) _ _ := k.dep 3 14 (by kernel_rfl) (by kernel_rfl)
        exact ⟨_, v_load rfl e7 (l_one Try.isAgg66 hx8.1), rfl⟩)) ?_
  refine .o1 (tk rfl rfl fun _ w hn k => ⟨_, v_bin rfl (k.eq1 0 11 rfl) (k.eq1 4 15 rfl) (fun _ => rfl) (r_eql rfl), rfl⟩) ?_
  exact .nil
  intro a64 w65 hn66 ha67
  obtain ⟨hs68, hd69, hN76⟩ := aft ha67 hs55 hd56 hN62 hn66
  have h70 := ha67.fx 8 h57
  have h71 := ha67.fx 0 h58
  have h72 := ha67.fx 1 h59
  have h73 := ha67.fx 7 h60
  have h74 := ha67.fx 5 h61
  have h75 := ha67.ge 5 16 rfl
  refine st_nil (hK63 _ _ ?_)
  rcases Bool.eq_false_or_eq_true (decide ((x : Int) = ((u.getD i 0 : Nat) : Int))) with ht77 | ht77
  have ht77d := of_decide_eq_true ht77
  have hv78 := hB h75 ht77
  refine wp_cond_true hv78 ?_
  refine wp_seq_k fun K79 hK79 => ?_
  refine wp_g0 [true, true] [] 19
    [ve (iv (i : Int)),
     ve (iv (i : Int))] hs68 (.eq (.eq (.nil))) ?_ ?_
  refine .o1 (tk rfl rfl fun _ w hn k => ⟨_, v_move rfl (k.fx 5 h74), rfl⟩) ?_
  refine .o1 (tk rfl rfl fun _ w hn k => ⟨_, v_assign rfl (k.eq1 0 17 rfl), rfl⟩) ?_
  exact .nil
  intro a80 w81 hn82 ha83
  obtain ⟨hs84, hd85, hN87⟩ := aft ha83 hs68 hd69 hN76 hn82
  have h86 := ha83.ge 1 4 rfl
  refine st_nil (hK79 _ _ ?_)
  refine wp_ret (ret_k hd85 (v := iv (i : Int)) (res_t rfl h86 _) ?_)
  exact ⟨by rw [idxF_at (fun y : Nat => decide ((x : Int) = (y : Int))) u i (by omega) hno ht77], hN87⟩
  have ht77d := of_decide_eq_false ht77
  have hv88 := hB h75 ht77
  refine wp_cond_false hv88 ?_
  refine wp_skip ?_
  refine hK49 _ _ ?_
  refine wp_g0 [true, false] [(1, true)] 19
    [ve (iv ((i + 1 : Nat) : Int)),
     vt] hs68 (.eq (.tt (.nil))) ?_ ?_
  refine .o1 (tk rfl rfl fun _ w hn k => ⟨_, v_bin rfl (k.fx 8 h70) rfl (fun _ => rfl) (n_add (by omega) (IntWalk.i64_in _ (by omega))), rfl⟩) ?_
  refine .off ?_
  exact .nil
  intro a89 w90 hn91 ha92
  obtain ⟨hs93, hd94, hN100⟩ := aft ha92 hs68 hd69 hN76 hn91
  have h95 := ha92.fx 8 h70
  have h96 := ha92.fx 0 h71
  have h97 := ha92.fx 1 h72
  have h98 := ha92.fx 7 h73
  have h99 := ha92.ge 0 18 rfl
  refine st_take rfl rfl (y_move (v := iv ((i + 1 : Nat) : Int)) rfl h99) rfl ?_
  obtain ⟨a101, ha102⟩ : ∃ a', a' = a89.put (some 8) (iv ((i + 1 : Nat) : Int)) := ⟨_, rfl⟩
  have hs103 : a101.tmps.size = 19 := by rw [ha102, put_size]; exact hs93
  have hd104 : a101.defers = [] := by rw [ha102, put_defers]; exact hd94
  have h105 := pn ha102 h96 (by decide)
  have h106 := pn ha102 h97 (by decide)
  have h107 := pn ha102 h98 (by decide)
  have h108 := pn ha102 h99 (by decide)
  have h109 : a101.eval (.tmp 8) = iv ((i + 1 : Nat) : Int) := by rw [ha102]; exact put_same _ _ _ (by rw [hs93]; decide)
  show stepsTo _ _ _ _ _ (a89.put (some 8) (iv ((i + 1 : Nat) : Int))) _
  rw [← ha102]
  refine st_nil ?_
  refine then_n ?_
  exact ⟨_, ⟨i + 1, rfl, hs103, hd104, hN100, (h109.trans (congrArg (Value.int .i64) (by omega))), h105, h106, h107, (by omega), (up_false (p := (fun y : Nat => decide ((x : Int) = (y : Int)))) hno ht77)⟩, (by omega)⟩
  have ht47d := of_decide_eq_false ht47
  have hv110 := hB h44 ht47
  refine wp_cond_false hv110 ?_
  refine wp_exit ?_
  refine hK11 _ _ ?_
  refine wp_seq_k fun K111 hK111 => ?_
  refine wp_g0 [true] [] 19
    [ve (iv (-1))] hs38 (.eq (.nil)) ?_ ?_
  refine .o1 (tk rfl rfl fun _ w hn k => ⟨_, v_assign rfl rfl, rfl⟩) ?_
  exact .nil
  intro a112 w113 hn114 ha115
  obtain ⟨hs116, hd117, hN119⟩ := aft ha115 hs38 hd39 hN45 hn114
  have h118 := ha115.ge 0 4 rfl
  refine st_nil (hK111 _ _ ?_)
  refine wp_ret (ret_k hd117 (v := iv (-1)) (res_t rfl h118 _) ?_)
  exact ⟨by rw [idxF_none (fun y : Nat => decide ((x : Int) = (y : Int))) u (fun j hj => hno j (by omega))], hN119⟩
set_option maxHeartbeats 4000000 in
set_option maxRecDepth 100000 in
theorem contains16_c (Au : Option Addr) (u : List Nat) (cu : Nat) (x : Nat) (w : World) (hru : SRow w .u16 Au u cu) (hx : x < 65536) : Calls Try.prog 85 #[sv Au u cu, .int .u16 (x : Int)] w (IsRet (.bool (u.any (fun y : Nat => decide ((x : Int) = (y : Int))))) w) := by
  refine enter_abs Try.func85 rfl fun a0 hs0 hd0 hp => ?_
  have hs0 : a0.tmps.size = 9 := hs0
  have hN0 : New w w := Upd.refl _ _
  have hp0 : a0.eval (.tmp 0) = sv Au u cu := hp 0 _ rfl
  have hp1 : a0.eval (.tmp 1) = .int .u16 (x : Int) := hp 1 _ rfl
  refine wp_seq_k fun K1 hK1 => ?_
  refine wp_g0 [true] [] 9
    [ve (.bool false)] hs0 (.eq (.nil)) ?_ ?_
  refine .o1 (tk rfl rfl fun _ w hn k => ⟨_, v_assign rfl rfl, rfl⟩) ?_
  exact .nil
  intro a2 w3 hn4 ha5
  obtain ⟨hs6, hd7, hN10⟩ := aft ha5 hs0 hd0 hN0 hn4
  have h8 := ha5.fx 0 hp0
  have h9 := ha5.fx 1 hp1
  refine st_nil (hK1 _ _ ?_)
  refine wp_seq_k fun K11 hK11 => ?_
  rcases Bool.eq_false_or_eq_true (decide ((idxF (fun y : Nat => decide ((x : Int) = (y : Int))) u) < 0)) with ht12 | ht12
  have ht12d := of_decide_eq_true ht12
  refine wp_g0 [true, true, true, true, true] [] 9
    [ve (sv Au u cu),
     ve (.int .u16 (x : Int)),
     ve (iv (idxF (fun y : Nat => decide ((x : Int) = (y : Int))) u)),
     ve (.bool false),
     ve (.bool false)] hs6 (.eq (.eq (.eq (.eq (.eq (.nil)))))) ?_ ?_
  refine .o1 (tk rfl rfl fun _ w hn k => ⟨_, v_move rfl (k.fx 0 h8), rfl⟩) ?_
  refine .o1 (tk rfl rfl fun _ w hn k => ⟨_, v_move rfl (k.fx 1 h9), rfl⟩) ?_
  refine .o1 (ck rfl rfl rfl (fun _ w hn k => ⟨#[sv Au u cu, .int .u16 (x : Int)], args2 (k.eq1 0 5 rfl) (k.eq1 1 6 rfl), fun _ => by kernel_rfl, index16_c _ u _ x _ (hru.new_ (hN10.transNew hn)) (by omega)⟩) fun _ => rfl) ?_
  refine .o1 (tk rfl rfl fun _ w hn k => ⟨_, v_bin rfl (k.eq1 2 7 rfl) rfl (fun _ => rfl) (r_geqK ht12), rfl⟩) ?_
  refine .o1 (tk rfl rfl fun _ w hn k => ⟨_, v_assign rfl (k.eq1 3 8 rfl), rfl⟩) ?_
  exact .nil
  intro a13 w14 hn15 ha16
  obtain ⟨hs17, hd18, hN20⟩ := aft ha16 hs6 hd7 hN10 hn15
  have h19 := ha16.ge 4 4 rfl
  refine st_nil (hK11 _ _ ?_)
  refine wp_ret (ret_k hd18 (v := .bool false) (res_t rfl h19 _) ?_)
  exact ⟨by rw [← idxF_any (fun y : Nat => decide ((x : Int) = (y : Int))) u, ht12]; rfl, hN20⟩
  have ht12d := of_decide_eq_false ht12
  refine wp_g0 [true, true, true, true, true] [] 9
    [ve (sv Au u cu),
     ve (.int .u16 (x : Int)),
     ve (iv (idxF (fun y : Nat => decide ((x : Int) = (y : Int))) u)),
     ve (.bool true),
     ve (.bool true)] hs6 (.eq (.eq (.eq (.eq (.eq (.nil)))))) ?_ ?_
  refine .o1 (tk rfl rfl fun _ w hn k => ⟨_, v_move rfl (k.fx 0 h8), rfl⟩) ?_
  refine .o1 (tk rfl rfl fun _ w hn k => ⟨_, v_move rfl (k.fx 1 h9), rfl⟩) ?_
  refine .o1 (ck rfl rfl rfl (fun _ w hn k => ⟨#[sv Au u cu, .int .u16 (x : Int)], args2 (k.eq1 0 5 rfl) (k.eq1 1 6 rfl), fun _ => by kernel_rfl, index16_c _ u _ x _ (hru.new_ (hN10.transNew hn)) (by omega)⟩) fun _ => rfl) ?_
  refine .o1 (tk rfl rfl fun _ w hn k => ⟨_, v_bin rfl (k.eq1 2 7 rfl) rfl (fun _ => rfl) (r_geqK ht12), rfl⟩) ?_
  refine .o1 (tk rfl rfl fun _ w hn k => ⟨_, v_assign rfl (k.eq1 3 8 rfl), rfl⟩) ?_
  exact .nil
  intro a21 w22 hn23 ha24
  obtain ⟨hs25, hd26, hN28⟩ := aft ha24 hs6 hd7 hN10 hn23
  have h27 := ha24.ge 4 4 rfl
  refine st_nil (hK11 _ _ ?_)
  refine wp_ret (ret_k hd26 (v := .bool true) (res_t rfl h27 _) ?_)
  exact ⟨by rw [← idxF_any (fun y : Nat => decide ((x : Int) = (y : Int))) u, ht12]; rfl, hN28⟩
set_option maxHeartbeats 4000000 in
set_option maxRecDepth 100000 in
theorem nodigit_c (x : Nat) (w : World) (hx : x < 65536) : Calls Try.prog 68 #[.int .u16 (x : Int)] w (IsRet (.bool (!dgtN x)) w) := by
  refine enter_abs Try.func68 rfl fun a0 hs0 hd0 hp => ?_
  have hs0 : a0.tmps.size = 6 := hs0
  have hN0 : New w w := Upd.refl _ _
  have hp0 : a0.eval (.tmp 0) = .int .u16 (x : Int) := hp 0 _ rfl
  refine wp_seq_k fun K1 hK1 => ?_
  refine wp_g0 [true] [] 6
    [ve (.bool false)] hs0 (.eq (.nil)) ?_ ?_
  refine .o1 (tk rfl rfl fun _ w hn k => ⟨_, v_assign rfl rfl, rfl⟩) ?_
  exact .nil
  intro a2 w3 hn4 ha5
  obtain ⟨hs6, hd7, hN9⟩ := aft ha5 hs0 hd0 hN0 hn4
  have h8 := ha5.fx 0 hp0
  refine st_nil (hK1 _ _ ?_)
  refine wp_seq_k fun K10 hK10 => ?_
  rcases Bool.eq_false_or_eq_true (dgtN x) with ht11 | ht11
  refine wp_g0 [true, true, true, true] [] 6
    [ve (.int .u16 (x : Int)),
     ve (.bool true),
     ve (.bool false),
     ve (.bool false)] hs6 (.eq (.eq (.eq (.eq (.nil))))) ?_ ?_
  refine .o1 (tk rfl rfl fun _ w hn k => ⟨_, v_move rfl (k.fx 0 h8), rfl⟩) ?_
  refine .o1 (ck rfl rfl rfl (fun _ w hn k => ⟨#[.int .u16 (x : Int)], args1 (k.eq1 0 3 rfl), fun _ => by kernel_rfl, digit_c x _ (by omega)⟩) fun _ => congrArg Value.bool ht11) ?_
  refine .o1 (tk rfl rfl fun _ w hn k => ⟨_, v_not rfl (k.eq1 1 4 rfl), rfl⟩) ?_
  refine .o1 (tk rfl rfl fun _ w hn k => ⟨_, v_assign rfl (k.eq1 2 5 rfl), rfl⟩) ?_
  exact .nil
  intro a12 w13 hn14 ha15
  obtain ⟨hs16, hd17, hN19⟩ := aft ha15 hs6 hd7 hN9 hn14
  have h18 := ha15.ge 3 2 rfl
  refine st_nil (hK10 _ _ ?_)
  refine wp_ret (ret_k hd17 (v := .bool false) (res_t rfl h18 _) ?_)
  refine ⟨?_, hN19⟩
  show Ending.returned (.bool false) = Ending.returned (.bool (!dgtN x))
  first | rfl | (simp only [ht11, bsm] <;> rfl) | (simp [ht11]; done) | (exfalso; omega)
  refine wp_g0 [true, true, true, true] [] 6
    [ve (.int .u16 (x : Int)),
     ve (.bool false),
     ve (.bool true),
     ve (.bool true)] hs6 (.eq (.eq (.eq (.eq (.nil))))) ?_ ?_
  refine .o1 (tk rfl rfl fun _ w hn k => ⟨_, v_move rfl (k.fx 0 h8), rfl⟩) ?_
  refine .o1 (ck rfl rfl rfl (fun _ w hn k => ⟨#[.int .u16 (x : Int)], args1 (k.eq1 0 3 rfl), fun _ => by kernel_rfl, digit_c x _ (by omega)⟩) fun _ => congrArg Value.bool ht11) ?_
  refine .o1 (tk rfl rfl fun _ w hn k => ⟨_, v_not rfl (k.eq1 1 4 rfl), rfl⟩) ?_
  refine .o1 (tk rfl rfl fun _ w hn k => ⟨_, v_assign rfl (k.eq1 2 5 rfl), rfl⟩) ?_
  exact .nil
  intro a20 w21 hn22 ha23
  obtain ⟨hs24, hd25, hN27⟩ := aft ha23 hs6 hd7 hN9 hn22
  have h26 := ha23.ge 3 2 rfl
  refine st_nil (hK10 _ _ ?_)
  refine wp_ret (ret_k hd25 (v := .bool true) (res_t rfl h26 _) ?_)
  refine ⟨?_, hN27⟩
  show Ending.returned (.bool true) = Ending.returned (.bool (!dgtN x))
  first | rfl | (simp only [ht11, bsm] <;> rfl) | (simp [ht11]; done) | (exfalso; omega)
set_option maxHeartbeats 4000000 in
set_option maxRecDepth 100000 in
theorem indexf_c (Au : Option Addr) (u : List Nat) (cu : Nat) (w : World) (hru : SRow w .u16 Au u cu) (hu : U16s u) : Calls Try.prog 86 #[sv Au u cu, .func (.func 68) #[] #[]] w (IsRet (iv (idxF (fun y : Nat => !dgtN y) u)) w) := by
  refine enter_abs Try.func86 rfl fun a0 hs0 hd0 hp => ?_
  have hs0 : a0.tmps.size = 19 := hs0
  have hN0 : New w w := Upd.refl _ _
  have hp0 : a0.eval (.tmp 0) = sv Au u cu := hp 0 _ rfl
  have hp1 : a0.eval (.tmp 1) = .func (.func 68) #[] #[] := hp 1 _ rfl
  have hmx := hru.max
  refine wp_seq_k fun K1 hK1 => ?_
  refine wp_g0 [true] [] 19
    [ve (iv 0)] hs0 (.eq (.nil)) ?_ ?_
  refine .o1 (tk rfl rfl fun _ w hn k => ⟨_, v_assign rfl rfl, rfl⟩) ?_
  exact .nil
  intro a2 w3 hn4 ha5
  obtain ⟨hs6, hd7, hN10⟩ := aft ha5 hs0 hd0 hN0 hn4
  have h8 := ha5.fx 0 hp0
  have h9 := ha5.fx 1 hp1
  refine st_nil (hK1 _ _ ?_)
  refine wp_seq_k fun K11 hK11 => ?_
  refine wp_seq_k fun K12 hK12 => ?_
  refine wp_g0 [true, true, true] [] 19
    [ve (sv Au u cu),
     ve (iv (u.length : Int)),
     ve (iv 0)] hs6 (.eq (.eq (.eq (.nil)))) ?_ ?_
  refine .o1 (tk rfl rfl fun _ w hn k => ⟨_, v_move rfl (k.fx 0 h8), rfl⟩) ?_
  refine .o1 (tk rfl rfl fun _ w hn k => ⟨_, v_lenR rfl elU (k.eq1 0 6 rfl), rfl⟩) ?_
  refine .o1 (tk rfl rfl fun _ w hn k => ⟨_, v_move rfl rfl, rfl⟩) ?_
  exact .nil
  intro a13 w14 hn15 ha16
  obtain ⟨hs17, hd18, hN23⟩ := aft ha16 hs6 hd7 hN10 hn15
  have h19 := ha16.fx 0 h8
  have h20 := ha16.fx 1 h9
  have h21 := ha16.ge 1 7 rfl
  have h22 := ha16.ge 2 8 rfl
  refine st_nil (hK12 _ _ ?_)
  refine wp_block ?_
  refine wp_loopX (fun (mm : Nat) (aa : Act) (ww : World) => ∃ (i : Nat), mm = u.length - i ∧ aa.tmps.size = 19 ∧ aa.defers = [] ∧ New w ww ∧ aa.eval (.tmp 8) = iv (i : Int) ∧ aa.eval (.tmp 0) = sv Au u cu ∧ aa.eval (.tmp 1) = .func (.func 68) #[] #[] ∧ aa.eval (.tmp 7) = iv (u.length : Int) ∧ (i ≤ u.length) ∧ (∀ j, j < i → (fun y : Nat => !dgtN y) (u.getD j 0) = false)) (fun mm => mm) ⟨_, ⟨0, rfl, hs17, hd18, hN23, h22, h19, h20, h21, (Nat.zero_le _), (fun j h => absurd h (Nat.not_lt_zero _))⟩⟩ ?_
  rintro mm a24 w25 ⟨i, hmm, hs26, hd27, hN28, h29, h30, h31, h32, hi, hno⟩
  refine wp_seq_k fun K33 hK33 => ?_
  refine wp_g0 [true] [] 19
    [ve (.bool (decide ((i : Int) < (u.length : Int))))] hs26 (.eq (.nil)) ?_ ?_
  refine .o1 (tk rfl rfl fun _ w hn k => ⟨_, v_bin rfl (k.fx 8 h29) (k.fx 7 h32) (fun _ => rfl) (r_lssK rfl), rfl⟩) ?_
  exact .nil
  intro a34 w35 hn36 ha37
  obtain ⟨hs38, hd39, hN45⟩ := aft ha37 hs26 hd27 hN28 hn36
  have h40 := ha37.fx 8 h29
  have h41 := ha37.fx 0 h30
  have h42 := ha37.fx 1 h31
  have h43 := ha37.fx 7 h32
  have h44 := ha37.ge 0 9 rfl
  refine st_nil (hK33 _ _ ?_)
  refine wp_seq_k fun K46 hK46 => ?_
  rcases Bool.eq_false_or_eq_true (decide ((i : Int) < (u.length : Int))) with ht47 | ht47
  have ht47d := of_decide_eq_true ht47
  have hv48 := hB h44 ht47
  refine wp_cond_true hv48 ?_
  refine wp_skip ?_
  refine hK46 _ _ ?_
  refine wp_seq_k fun K49 hK49 => ?_
  refine wp_block ?_
  refine wp_seq_k fun K50 hK50 => ?_
  refine wp_g0 [true, true] [] 19
    [ve (iv (i : Int)),
     ve (iv (i : Int))] hs38 (.eq (.eq (.nil))) ?_ ?_
  refine .o1 (tk rfl rfl fun _ w hn k => ⟨_, v_move rfl (k.fx 8 h40), rfl⟩) ?_
  refine .o1 (tk rfl rfl fun _ w hn k => ⟨_, v_assign rfl (k.eq1 0 10 rfl), rfl⟩) ?_
  exact .nil
  intro a51 w52 hn53 ha54
  obtain ⟨hs55, hd56, hN62⟩ := aft ha54 hs38 hd39 hN45 hn53
  have h57 := ha54.fx 8 h40
  have h58 := ha54.fx 0 h41
  have h59 := ha54.fx 1 h42
  have h60 := ha54.fx 7 h43
  have h61 := ha54.ge 1 5 rfl
  refine st_nil (hK50 _ _ ?_)
  refine wp_seq_k fun K63 hK63 => ?_
  have hb := hu.at16 i
  refine wp_g0 [true, true, true, true, true, true] [] 19
    [ve (.func (.func 68) #[] #[]),
     ve (sv Au u cu),
     ve (iv (i : Int)),
     (fun (v_ : Value) (W : World) => ∃ (b3 : Nat) (o4 : Nat), v_ = .pointer (some ⟨b3, o4, none⟩) ∧ SElem W b3 o4 (.int .u16 ((u.getD i 0 : Nat) : Int))),
     ve (.int .u16 ((u.getD i 0 : Nat) : Int)),
     ve (.bool (!dgtN (u.getD i 0)))] hs55 (.eq (.eq (.eq (.cons (fun v W W' hn ⟨b3, o4, he, h0⟩ => ⟨b3, o4, he, h0.new_ hn⟩) (.eq (.eq (.nil))))))) ?_ ?_
  refine .o1 (tk rfl rfl fun _ w hn k => ⟨_, v_move rfl (k.fx 1 h59), rfl⟩) ?_
  refine .o1 (tk rfl rfl fun _ w hn k => ⟨_, v_move rfl (k.fx 0 h58), rfl⟩) ?_
  refine .o1 (tk rfl rfl fun _ w hn k => ⟨_, v_move rfl (k.fx 5 h61), rfl⟩) ?_
  refine .o1 (tk rfl rfl fun _ w hn k => (by
        exact x_eaddr (k := .u16) rfl elU (k.eq1 1 12 rfl) (k.eq1 2 13 rfl) (hru.new_ (hN62.transNew hn)) (by omega) fun b1 o2 hme => ⟨b1, o2, rfl, hme⟩)) ?_
  refine .o1 (tk rfl rfl fun _ w hn k => (by
        obtain ⟨b5, o6, e7, hx8⟩ : (fun (v_ : Value) (W : World) => ∃ (b3 : Nat) (o4 : Nat), v_ = .pointer (some ⟨b3, o4, none⟩) ∧ SElem W b3 o4 (.int .u16 ((u.getD i 0 : Nat) : Int))) _ _ := k.dep 3 14 (by kernel_rfl) (by kernel_rfl)
        exact ⟨_, v_load rfl e7 (l_one Try.isAgg66 hx8.1), rfl⟩)) ?_
  refine .o1 (tkV rfl (noG rfl) rfl fun _ w hn k => (by
        refine ⟨68, #[.int .u16 ((u.getD i 0 : Nat) : Int)], _, (k.eq1 0 11 rfl), args1 (k.eq1 4 15 rfl), fun w => by kernel_rfl, nodigit_c (u.getD i 0) _ (by omega), ?_⟩
        rintro e w' ⟨rfl, hm⟩
        exact ⟨_, rfl, hm, rfl⟩)) ?_
  exact .nil
  intro a64 w65 hn66 ha67
  obtain ⟨hs68, hd69, hN76⟩ := aft ha67 hs55 hd56 hN62 hn66
  have h70 := ha67.fx 8 h57
  have h71 := ha67.fx 0 h58
  have h72 := ha67.fx 1 h59
  have h73 := ha67.fx 7 h60
  have h74 := ha67.fx 5 h61
  have h75 := ha67.ge 5 16 rfl
  refine st_nil (hK63 _ _ ?_)
  rcases Bool.eq_false_or_eq_true ((!dgtN (u.getD i 0))) with ht77 | ht77
  have hv78 := hB h75 ht77
  refine wp_cond_true hv78 ?_
  refine wp_seq_k fun K79 hK79 => ?_
  refine wp_g0 [true, true] [] 19
    [ve (iv (i : Int)),
     ve (iv (i : Int))] hs68 (.eq (.eq (.nil))) ?_ ?_
  refine .o1 (tk rfl rfl fun _ w hn k => ⟨_, v_move rfl (k.fx 5 h74), rfl⟩) ?_
  refine .o1 (tk rfl rfl fun _ w hn k => ⟨_, v_assign rfl (k.eq1 0 17 rfl), rfl⟩) ?_
  exact .nil
  intro a80 w81 hn82 ha83
  obtain ⟨hs84, hd85, hN87⟩ := aft ha83 hs68 hd69 hN76 hn82
  have h86 := ha83.ge 1 4 rfl
  refine st_nil (hK79 _ _ ?_)
  refine wp_ret (ret_k hd85 (v := iv (i : Int)) (res_t rfl h86 _) ?_)
  exact ⟨by rw [idxF_at (fun y : Nat => !dgtN y) u i (by omega) hno ht77], hN87⟩
  have hv88 := hB h75 ht77
  refine wp_cond_false hv88 ?_
  refine wp_skip ?_
  refine hK49 _ _ ?_
  refine wp_g0 [true, false] [(1, true)] 19
    [ve (iv ((i + 1 : Nat) : Int)),
     vt] hs68 (.eq (.tt (.nil))) ?_ ?_
  refine .o1 (tk rfl rfl fun _ w hn k => ⟨_, v_bin rfl (k.fx 8 h70) rfl (fun _ => rfl) (n_add (by omega) (IntWalk.i64_in _ (by omega))), rfl⟩) ?_
  refine .off ?_
  exact .nil
  intro a89 w90 hn91 ha92
  obtain ⟨hs93, hd94, hN100⟩ := aft ha92 hs68 hd69 hN76 hn91
  have h95 := ha92.fx 8 h70
  have h96 := ha92.fx 0 h71
  have h97 := ha92.fx 1 h72
  have h98 := ha92.fx 7 h73
  have h99 := ha92.ge 0 18 rfl
  refine st_take rfl rfl (y_move (v := iv ((i + 1 : Nat) : Int)) rfl h99) rfl ?_
  obtain ⟨a101, ha102⟩ : ∃ a', a' = a89.put (some 8) (iv ((i + 1 : Nat) : Int)) := ⟨_, rfl⟩
  have hs103 : a101.tmps.size = 19 := by rw [ha102, put_size]; exact hs93
  have hd104 : a101.defers = [] := by rw [ha102, put_defers]; exact hd94
  have h105 := pn ha102 h96 (by decide)
  have h106 := pn ha102 h97 (by decide)
  have h107 := pn ha102 h98 (by decide)
  have h108 := pn ha102 h99 (by decide)
  have h109 : a101.eval (.tmp 8) = iv ((i + 1 : Nat) : Int) := by rw [ha102]; exact put_same _ _ _ (by rw [hs93]; decide)
  show stepsTo _ _ _ _ _ (a89.put (some 8) (iv ((i + 1 : Nat) : Int))) _
  rw [← ha102]
  refine st_nil ?_
  refine then_n ?_
  exact ⟨_, ⟨i + 1, rfl, hs103, hd104, hN100, (h109.trans (congrArg (Value.int .i64) (by omega))), h105, h106, h107, (by omega), (up_false (p := (fun y : Nat => !dgtN y)) hno ht77)⟩, (by omega)⟩
  have ht47d := of_decide_eq_false ht47
  have hv110 := hB h44 ht47
  refine wp_cond_false hv110 ?_
  refine wp_exit ?_
  refine hK11 _ _ ?_
  refine wp_seq_k fun K111 hK111 => ?_
  refine wp_g0 [true] [] 19
    [ve (iv (-1))] hs38 (.eq (.nil)) ?_ ?_
  refine .o1 (tk rfl rfl fun _ w hn k => ⟨_, v_assign rfl rfl, rfl⟩) ?_
  exact .nil
  intro a112 w113 hn114 ha115
  obtain ⟨hs116, hd117, hN119⟩ := aft ha115 hs38 hd39 hN45 hn114
  have h118 := ha115.ge 0 4 rfl
  refine st_nil (hK111 _ _ ?_)
  refine wp_ret (ret_k hd117 (v := iv (-1)) (res_t rfl h118 _) ?_)
  exact ⟨by rw [idxF_none (fun y : Nat => !dgtN y) u (fun j hj => hno j (by omega))], hN119⟩
set_option maxHeartbeats 4000000 in
set_option maxRecDepth 100000 in
theorem containsf_c (Au : Option Addr) (u : List Nat) (cu : Nat) (w : World) (hru : SRow w .u16 Au u cu) (hu : U16s u) : Calls Try.prog 67 #[sv Au u cu, .func (.func 68) #[] #[]] w (IsRet (.bool (u.any (fun y : Nat => !dgtN y))) w) := by
  refine enter_abs Try.func67 rfl fun a0 hs0 hd0 hp => ?_
  have hs0 : a0.tmps.size = 9 := hs0
  have hN0 : New w w := Upd.refl _ _
  have hp0 : a0.eval (.tmp 0) = sv Au u cu := hp 0 _ rfl
  have hp1 : a0.eval (.tmp 1) = .func (.func 68) #[] #[] := hp 1 _ rfl
  have hmx := hru.max
  refine wp_seq_k fun K1 hK1 => ?_
  refine wp_g0 [true] [] 9
    [ve (.bool false)] hs0 (.eq (.nil)) ?_ ?_
  refine .o1 (tk rfl rfl fun _ w hn k => ⟨_, v_assign rfl rfl, rfl⟩) ?_
  exact .nil
  intro a2 w3 hn4 ha5
  obtain ⟨hs6, hd7, hN10⟩ := aft ha5 hs0 hd0 hN0 hn4
  have h8 := ha5.fx 0 hp0
  have h9 := ha5.fx 1 hp1
  refine st_nil (hK1 _ _ ?_)
  refine wp_seq_k fun K11 hK11 => ?_
  rcases Bool.eq_false_or_eq_true (decide ((idxF (fun y : Nat => !dgtN y) u) < 0)) with ht12 | ht12
  have ht12d := of_decide_eq_true ht12
  refine wp_g0 [true, true, true, true, true] [] 9
    [ve (sv Au u cu),
     ve (.func (.func 68) #[] #[]),
     ve (iv (idxF (fun y : Nat => !dgtN y) u)),
     ve (.bool false),
     ve (.bool false)] hs6 (.eq (.eq (.eq (.eq (.eq (.nil)))))) ?_ ?_
  refine .o1 (tk rfl rfl fun _ w hn k => ⟨_, v_move rfl (k.fx 0 h8), rfl⟩) ?_
  refine .o1 (tk rfl rfl fun _ w hn k => ⟨_, v_move rfl (k.fx 1 h9), rfl⟩) ?_
  refine .o1 (ck rfl rfl rfl (fun _ w hn k => ⟨#[sv Au u cu, .func (.func 68) #[] #[]], args2 (k.eq1 0 5 rfl) (k.eq1 1 6 rfl), fun _ => by kernel_rfl, indexf_c _ u _ _ (hru.new_ (hN10.transNew hn)) hu⟩) fun _ => rfl) ?_
  refine .o1 (tk rfl rfl fun _ w hn k => ⟨_, v_bin rfl (k.eq1 2 7 rfl) rfl (fun _ => rfl) (r_geqK ht12), rfl⟩) ?_
  refine .o1 (tk rfl rfl fun _ w hn k => ⟨_, v_assign rfl (k.eq1 3 8 rfl), rfl⟩) ?_
  exact .nil
  intro a13 w14 hn15 ha16
  obtain ⟨hs17, hd18, hN20⟩ := aft ha16 hs6 hd7 hN10 hn15
  have h19 := ha16.ge 4 4 rfl
  refine st_nil (hK11 _ _ ?_)
  refine wp_ret (ret_k hd18 (v := .bool false) (res_t rfl h19 _) ?_)
  exact ⟨by rw [← idxF_any (fun y : Nat => !dgtN y) u, ht12]; rfl, hN20⟩
  have ht12d := of_decide_eq_false ht12
  refine wp_g0 [true, true, true, true, true] [] 9
    [ve (sv Au u cu),
     ve (.func (.func 68) #[] #[]),
     ve (iv (idxF (fun y : Nat => !dgtN y) u)),
     ve (.bool true),
     ve (.bool true)] hs6 (.eq (.eq (.eq (.eq (.eq (.nil)))))) ?_ ?_
  refine .o1 (tk rfl rfl fun _ w hn k => ⟨_, v_move rfl (k.fx 0 h8), rfl⟩) ?_
  refine .o1 (tk rfl rfl fun _ w hn k => ⟨_, v_move rfl (k.fx 1 h9), rfl⟩) ?_
  refine .o1 (ck rfl rfl rfl (fun _ w hn k => ⟨#[sv Au u cu, .func (.func 68) #[] #[]], args2 (k.eq1 0 5 rfl) (k.eq1 1 6 rfl), fun _ => by kernel_rfl, indexf_c _ u _ _ (hru.new_ (hN10.transNew hn)) hu⟩) fun _ => rfl) ?_
  refine .o1 (tk rfl rfl fun _ w hn k => ⟨_, v_bin rfl (k.eq1 2 7 rfl) rfl (fun _ => rfl) (r_geqK ht12), rfl⟩) ?_
  refine .o1 (tk rfl rfl fun _ w hn k => ⟨_, v_assign rfl (k.eq1 3 8 rfl), rfl⟩) ?_
  exact .nil
  intro a21 w22 hn23 ha24
  obtain ⟨hs25, hd26, hN28⟩ := aft ha24 hs6 hd7 hN10 hn23
  have h27 := ha24.ge 4 4 rfl
  refine st_nil (hK11 _ _ ?_)
  refine wp_ret (ret_k hd26 (v := .bool true) (res_t rfl h27 _) ?_)
  exact ⟨by rw [← idxF_any (fun y : Nat => !dgtN y) u, ht12]; rfl, hN28⟩
set_option maxHeartbeats 4000000 in
set_option maxRecDepth 100000 in
theorem strange_c (Au : Option Addr) (u : List Nat) (cu : Nat) (w : World) (hru : SRow w .u16 Au u cu) (hu : U16s u) : Calls Try.prog 64 #[sv Au u cu] w (IsRet (.bool (strangeN u)) w) := by
  refine enter_abs Try.func64 rfl fun a0 hs0 hd0 hp => ?_
  have hs0 : a0.tmps.size = 38 := hs0
  have hN0 : New w w := Upd.refl _ _
  have hp0 : a0.eval (.tmp 0) = sv Au u cu := hp 0 _ rfl
  have hmx := hru.max
  refine wp_seq_k fun K1 hK1 => ?_
  refine wp_g0 [true] [] 38
    [ve (.bool false)] hs0 (.eq (.nil)) ?_ ?_
  refine .o1 (tk rfl rfl fun _ w hn k => ⟨_, v_assign rfl rfl, rfl⟩) ?_
  exact .nil
  intro a2 w3 hn4 ha5
  obtain ⟨hs6, hd7, hN9⟩ := aft ha5 hs0 hd0 hN0 hn4
  have h8 := ha5.fx 0 hp0
  refine st_nil (hK1 _ _ ?_)
  refine wp_seq_k fun K10 hK10 => ?_
  refine wp_g0 [true] [] 38
    [ve (.bool false)] hs6 (.eq (.nil)) ?_ ?_
  refine .o1 (tk rfl rfl fun _ w hn k => ⟨_, v_assign rfl rfl, rfl⟩) ?_
  exact .nil
  intro a11 w12 hn13 ha14
  obtain ⟨hs15, hd16, hN19⟩ := aft ha14 hs6 hd7 hN9 hn13
  have h17 := ha14.fx 0 h8
  have h18 := ha14.ge 0 3 rfl
  refine st_nil (hK10 _ _ ?_)
  refine wp_seq_k fun K20 hK20 => ?_
  refine wp_seq_k fun K21 hK21 => ?_
  refine wp_g0 [true, true, true] [] 38
    [ve (sv Au u cu),
     ve (iv (u.length : Int)),
     ve (iv 0)] hs15 (.eq (.eq (.eq (.nil)))) ?_ ?_
  refine .o1 (tk rfl rfl fun _ w hn k => ⟨_, v_move rfl (k.fx 0 h17), rfl⟩) ?_
  refine .o1 (tk rfl rfl fun _ w hn k => ⟨_, v_lenR rfl elU (k.eq1 0 6 rfl), rfl⟩) ?_
  refine .o1 (tk rfl rfl fun _ w hn k => ⟨_, v_move rfl rfl, rfl⟩) ?_
  exact .nil
  intro a22 w23 hn24 ha25
  obtain ⟨hs26, hd27, hN32⟩ := aft ha25 hs15 hd16 hN19 hn24
  have h28 := ha25.fx 3 h18
  have h29 := ha25.ge 0 6 rfl
  have h30 := ha25.ge 1 7 rfl
  have h31 := ha25.ge 2 8 rfl
  refine st_nil (hK21 _ _ ?_)
  refine wp_block ?_
  refine wp_loopX (fun (mm : Nat) (aa : Act) (ww : World) => ∃ (i : Nat), mm = u.length - i ∧ aa.tmps.size = 38 ∧ aa.defers = [] ∧ New w ww ∧ aa.eval (.tmp 3) = .bool ((u.take i).any dgtN) ∧ aa.eval (.tmp 8) = iv (i : Int) ∧ aa.eval (.tmp 6) = sv Au u cu ∧ aa.eval (.tmp 7) = iv (u.length : Int) ∧ (i ≤ u.length) ∧ ((u.take i).all okcN = true)) (fun mm => mm) ⟨_, ⟨0, rfl, hs26, hd27, hN32, (h28.trans rfl), h31, h29, h30, (Nat.zero_le _), rfl⟩⟩ ?_
  rintro mm a33 w34 ⟨i, hmm, hs35, hd36, hN37, h38, h39, h40, h41, hi, hall⟩
  refine wp_seq_k fun K42 hK42 => ?_
  refine wp_g0 [true] [] 38
    [ve (.bool (decide ((i : Int) < (u.length : Int))))] hs35 (.eq (.nil)) ?_ ?_
  refine .o1 (tk rfl rfl fun _ w hn k => ⟨_, v_bin rfl (k.fx 8 h39) (k.fx 7 h41) (fun _ => rfl) (r_lssK rfl), rfl⟩) ?_
  exact .nil
  intro a43 w44 hn45 ha46
  obtain ⟨hs47, hd48, hN54⟩ := aft ha46 hs35 hd36 hN37 hn45
  have h49 := ha46.fx 3 h38
  have h50 := ha46.fx 8 h39
  have h51 := ha46.fx 6 h40
  have h52 := ha46.fx 7 h41
  have h53 := ha46.ge 0 9 rfl
  refine st_nil (hK42 _ _ ?_)
  refine wp_seq_k fun K55 hK55 => ?_
  rcases Bool.eq_false_or_eq_true (decide ((i : Int) < (u.length : Int))) with ht56 | ht56
  have ht56d := of_decide_eq_true ht56
  have hv57 := hB h53 ht56
  refine wp_cond_true hv57 ?_
  refine wp_skip ?_
  refine hK55 _ _ ?_
  refine wp_seq_k fun K58 hK58 => ?_
  refine wp_block ?_
  refine wp_seq_k fun K59 hK59 => ?_
  have hb := hu.at16 i
  refine wp_g0 [true, true, true] [] 38
    [(fun (v_ : Value) (W : World) => ∃ (b3 : Nat) (o4 : Nat), v_ = .pointer (some ⟨b3, o4, none⟩) ∧ SElem W b3 o4 (.int .u16 ((u.getD i 0 : Nat) : Int))),
     ve (.int .u16 ((u.getD i 0 : Nat) : Int)),
     ve (.int .u16 ((u.getD i 0 : Nat) : Int))] hs47 (.cons (fun v W W' hn ⟨b3, o4, he, h0⟩ => ⟨b3, o4, he, h0.new_ hn⟩) (.eq (.eq (.nil)))) ?_ ?_
  refine .o1 (tk rfl rfl fun _ w hn k => (by
        exact x_eaddr (k := .u16) rfl elU (k.fx 6 h51) (k.fx 8 h50) (hru.new_ (hN54.transNew hn)) (by omega) fun b1 o2 hme => ⟨b1, o2, rfl, hme⟩)) ?_
  refine .o1 (tk rfl rfl fun _ w hn k => (by
        obtain ⟨b5, o6, e7, hx8⟩ : (fun (v_ : Value) (W : World) => ∃ (b3 : Nat) (o4 : Nat), v_ = .pointer (some ⟨b3, o4, none⟩) ∧ SElem W b3 o4 (.int .u16 ((u.getD i 0 : Nat) : Int))) _ _ := k.dep 0 10 (by kernel_rfl) (by kernel_rfl)
        exact ⟨_, v_load rfl e7 (l_one Try.isAgg66 hx8.1), rfl⟩)) ?_
  refine .o1 (tk rfl rfl fun _ w hn k => ⟨_, v_assign rfl (k.eq1 1 11 rfl), rfl⟩) ?_
  exact .nil
  intro a60 w61 hn62 ha63
  obtain ⟨hs64, hd65, hN71⟩ := aft ha63 hs47 hd48 hN54 hn62
  have h66 := ha63.fx 3 h49
  have h67 := ha63.fx 8 h50
  have h68 := ha63.fx 6 h51
  have h69 := ha63.fx 7 h52
  have h70 := ha63.ge 2 5 rfl
  refine st_nil (hK59 _ _ ?_)
  refine wp_seq_k fun K72 hK72 => ?_
  rcases Bool.eq_false_or_eq_true (((u.take i).any dgtN)) with ht73 | ht73
  have hv74 := hB h66 ht73
  have hb := hu.at16 i
  refine wp_g0 [true, true, true, true, true, false] [(5, true)] 38
    [ve (.bool true),
     ve (.bool true),
     ve undef,
     ve undef,
     ve (.bool true),
     vt] hs64 (.eq (.eq (.eq (.eq (.eq (.tt (.nil))))))) ?_ ?_
  refine .o1 (tk rfl rfl fun _ w hn k => ⟨_, v_move rfl (k.fx 3 hv74), rfl⟩) ?_
  refine .o1 (tk rfl rfl fun _ w hn k => ⟨_, v_move rfl (k.eq1 0 12 rfl), rfl⟩) ?_
  refine .o1 (sk rfl rfl rfl (fun _ _ _ k => k.eq1 1 13 rfl) (fun _ => rfl)) ?_
  refine .o1 (sk rfl rfl rfl (fun _ _ _ k => k.eq1 1 13 rfl) (fun _ => rfl)) ?_
  refine .o1 (tk rfl rfl fun _ w hn k => ⟨_, v_pickT rfl (k.eq1 1 13 rfl) rfl, rfl⟩) ?_
  refine .off ?_
  exact .nil
  intro a75 w76 hn77 ha78
  obtain ⟨hs79, hd80, hN87⟩ := aft ha78 hs64 hd65 hN71 hn77
  have h81 := ha78.fx 3 hv74
  have h82 := ha78.fx 8 h67
  have h83 := ha78.fx 6 h68
  have h84 := ha78.fx 7 h69
  have h85 := ha78.fx 5 h70
  have h86 := ha78.ge 4 16 rfl
  refine st_take rfl rfl (y_assign (v := .bool true) rfl h86) rfl ?_
  obtain ⟨a88, ha89⟩ : ∃ a', a' = a75.put (some 3) (.bool true) := ⟨_, rfl⟩
  have hs90 : a88.tmps.size = 38 := by rw [ha89, put_size]; exact hs79
  have hd91 : a88.defers = [] := by rw [ha89, put_defers]; exact hd80
  have h92 := pn ha89 h82 (by decide)
  have h93 := pn ha89 h83 (by decide)
  have h94 := pn ha89 h84 (by decide)
  have h95 := pn ha89 h85 (by decide)
  have h96 := pn ha89 h86 (by decide)
  have h97 : a88.eval (.tmp 3) = .bool true := by rw [ha89]; exact put_same _ _ _ (by rw [hs79]; decide)
  show stepsTo _ _ _ _ _ (a75.put (some 3) (.bool true)) _
  rw [← ha89]
  refine st_nil (hK72 _ _ ?_)
  refine wp_block ?_
  refine wp_seq_k fun K98 hK98 => ?_
  refine wp_seq_k fun K99 hK99 => ?_
  have hb := hu.at16 i
  refine wp_g0 [true, true, true] [] 38
    [ve (.int .u16 ((u.getD i 0 : Nat) : Int)),
     ve (.bool (dgtN (u.getD i 0))),
     ve (.bool (dgtN (u.getD i 0)))] hs90 (.eq (.eq (.eq (.nil)))) ?_ ?_
  refine .o1 (tk rfl rfl fun _ w hn k => ⟨_, v_move rfl (k.fx 5 h95), rfl⟩) ?_
  refine .o1 (ck rfl rfl rfl (fun _ w hn k => ⟨#[.int .u16 ((u.getD i 0 : Nat) : Int)], args1 (k.eq1 0 18 rfl), fun _ => by kernel_rfl, digit_c (u.getD i 0) _ (by omega)⟩) fun _ => rfl) ?_
  refine .o1 (tk rfl rfl fun _ w hn k => ⟨_, v_assign rfl (k.eq1 1 19 rfl), rfl⟩) ?_
  exact .nil
  intro a100 w101 hn102 ha103
  obtain ⟨hs104, hd105, hN112⟩ := aft ha103 hs90 hd91 hN87 hn102
  have h106 := ha103.fx 8 h92
  have h107 := ha103.fx 6 h93
  have h108 := ha103.fx 7 h94
  have h109 := ha103.fx 5 h95
  have h110 := ha103.fx 3 h97
  have h111 := ha103.ge 2 17 rfl
  refine st_nil (hK99 _ _ ?_)
  rcases Bool.eq_false_or_eq_true (dgtN (u.getD i 0)) with ht113 | ht113
  have hv114 := hB h111 ht113
  refine wp_cond_true hv114 ?_
  refine wp_skip ?_
  refine hK98 _ _ ?_
  refine wp_cond_true hv114 ?_
  refine wp_skip ?_
  refine hK58 _ _ ?_
  refine wp_g0 [true, false] [(1, true)] 38
    [ve (iv ((i + 1 : Nat) : Int)),
     vt] hs104 (.eq (.tt (.nil))) ?_ ?_
  refine .o1 (tk rfl rfl fun _ w hn k => ⟨_, v_bin rfl (k.fx 8 h106) rfl (fun _ => rfl) (n_add (by omega) (IntWalk.i64_in _ (by omega))), rfl⟩) ?_
  refine .off ?_
  exact .nil
  intro a115 w116 hn117 ha118
  obtain ⟨hs119, hd120, hN126⟩ := aft ha118 hs104 hd105 hN112 hn117
  have h121 := ha118.fx 8 h106
  have h122 := ha118.fx 6 h107
  have h123 := ha118.fx 7 h108
  have h124 := ha118.fx 3 h110
  have h125 := ha118.ge 0 36 rfl
  refine st_take rfl rfl (y_move (v := iv ((i + 1 : Nat) : Int)) rfl h125) rfl ?_
  obtain ⟨a127, ha128⟩ : ∃ a', a' = a115.put (some 8) (iv ((i + 1 : Nat) : Int)) := ⟨_, rfl⟩
  have hs129 : a127.tmps.size = 38 := by rw [ha128, put_size]; exact hs119
  have hd130 : a127.defers = [] := by rw [ha128, put_defers]; exact hd120
  have h131 := pn ha128 h122 (by decide)
  have h132 := pn ha128 h123 (by decide)
  have h133 := pn ha128 h124 (by decide)
  have h134 := pn ha128 h125 (by decide)
  have h135 : a127.eval (.tmp 8) = iv ((i + 1 : Nat) : Int) := by rw [ha128]; exact put_same _ _ _ (by rw [hs119]; decide)
  show stepsTo _ _ _ _ _ (a115.put (some 8) (iv ((i + 1 : Nat) : Int))) _
  rw [← ha128]
  refine st_nil ?_
  refine then_n ?_
  exact ⟨_, ⟨i + 1, rfl, hs129, hd130, hN126, (h133.trans (congrArg Value.bool (by rw [any_up (by omega)]; simp only [ht73, ht113, bsm]))), (h135.trans (congrArg (Value.int .i64) (by omega))), h131, h132, (by omega), (all_up (by omega) hall (by unfold okcN; simp only [ht113, bsm]))⟩, (by omega)⟩
  have hv136 := hB h111 ht113
  refine wp_cond_false hv136 ?_
  refine wp_seq_k fun K137 hK137 => ?_
  rcases Bool.eq_false_or_eq_true (decide (((u.getD i 0 : Nat) : Int) < 97)) with ht138 | ht138
  have ht138d := of_decide_eq_true ht138
  refine wp_g0 [true, true, true, true, true, true, true] [] 38
    [ve (.int .u16 ((u.getD i 0 : Nat) : Int)),
     ve (.bool false),
     ve (.bool false),
     ve undef,
     ve undef,
     ve (.bool false),
     ve (.bool false)] hs104 (.eq (.eq (.eq (.eq (.eq (.eq (.eq (.nil)))))))) ?_ ?_
  refine .o1 (tk rfl rfl fun _ w hn k => ⟨_, v_move rfl (k.fx 5 h109), rfl⟩) ?_
  refine .o1 (tk rfl rfl fun _ w hn k => ⟨_, v_bin rfl (k.eq1 0 20 rfl) rfl (fun _ => rfl) (r_geqK ht138), rfl⟩) ?_
  refine .o1 (tk rfl rfl fun _ w hn k => ⟨_, v_move rfl (k.eq1 1 21 rfl), rfl⟩) ?_
  refine .o1 (sk rfl rfl rfl (fun _ _ _ k => k.eq1 2 22 rfl) (fun _ => rfl)) ?_
  refine .o1 (sk rfl rfl rfl (fun _ _ _ k => k.eq1 2 22 rfl) (fun _ => rfl)) ?_
  refine .o1 (tk rfl rfl fun _ w hn k => ⟨_, v_pickF rfl (k.eq1 2 22 rfl) rfl, rfl⟩) ?_
  refine .o1 (tk rfl rfl fun _ w hn k => ⟨_, v_assign rfl (k.eq1 5 25 rfl), rfl⟩) ?_
  exact .nil
  intro a139 w140 hn141 ha142
  obtain ⟨hs143, hd144, hN151⟩ := aft ha142 hs104 hd105 hN112 hn141
  have h145 := ha142.fx 8 h106
  have h146 := ha142.fx 6 h107
  have h147 := ha142.fx 7 h108
  have h148 := ha142.fx 5 h109
  have h149 := ha142.fx 3 h110
  have h150 := ha142.ge 6 17 rfl
  refine st_nil (hK137 _ _ ?_)
  refine wp_cond_false h150 ?_
  rcases Bool.eq_false_or_eq_true (decide (((u.getD i 0 : Nat) : Int) < 65)) with ht152 | ht152
  have ht152d := of_decide_eq_true ht152
  refine wp_g0 [true, true, true, true, true, true, true] [] 38
    [ve (.int .u16 ((u.getD i 0 : Nat) : Int)),
     ve (.bool false),
     ve (.bool false),
     ve undef,
     ve undef,
     ve (.bool false),
     ve (.bool false)] hs143 (.eq (.eq (.eq (.eq (.eq (.eq (.eq (.nil)))))))) ?_ ?_
  refine .o1 (tk rfl rfl fun _ w hn k => ⟨_, v_move rfl (k.fx 5 h148), rfl⟩) ?_
  refine .o1 (tk rfl rfl fun _ w hn k => ⟨_, v_bin rfl (k.eq1 0 26 rfl) rfl (fun _ => rfl) (r_geqK ht152), rfl⟩) ?_
  refine .o1 (tk rfl rfl fun _ w hn k => ⟨_, v_move rfl (k.eq1 1 27 rfl), rfl⟩) ?_
  refine .o1 (sk rfl rfl rfl (fun _ _ _ k => k.eq1 2 28 rfl) (fun _ => rfl)) ?_
  refine .o1 (sk rfl rfl rfl (fun _ _ _ k => k.eq1 2 28 rfl) (fun _ => rfl)) ?_
  refine .o1 (tk rfl rfl fun _ w hn k => ⟨_, v_pickF rfl (k.eq1 2 28 rfl) rfl, rfl⟩) ?_
  refine .o1 (tk rfl rfl fun _ w hn k => ⟨_, v_assign rfl (k.eq1 5 31 rfl), rfl⟩) ?_
  exact .nil
  intro a153 w154 hn155 ha156
  obtain ⟨hs157, hd158, hN165⟩ := aft ha156 hs143 hd144 hN151 hn155
  have h159 := ha156.fx 8 h145
  have h160 := ha156.fx 6 h146
  have h161 := ha156.fx 7 h147
  have h162 := ha156.fx 5 h148
  have h163 := ha156.fx 3 h149
  have h164 := ha156.ge 6 17 rfl
  refine st_nil (hK98 _ _ ?_)
  refine wp_cond_false h164 ?_
  refine wp_seq_k fun K166 hK166 => ?_
  have hb := hu.at16 i
  refine wp_g0 [true, true, true, true] [] 38
    [(fun (v_ : Value) (W : World) => ∃ (A11 : Option Addr) (c12 : Nat), v_ = sv A11 (asc ⟨#[120, 88, 111, 79, 46, 43, 45, 95]⟩) c12 ∧ SOwn W w154.heap.size 66 .u16 A11 (asc ⟨#[120, 88, 111, 79, 46, 43, 45, 95]⟩) c12),
     ve (.int .u16 ((u.getD i 0 : Nat) : Int)),
     ve (.bool ((asc ⟨#[120, 88, 111, 79, 46, 43, 45, 95]⟩).any (fun y : Nat => decide (((u.getD i 0) : Int) = (y : Int))))),
     ve (.bool ((asc ⟨#[120, 88, 111, 79, 46, 43, 45, 95]⟩).any (fun y : Nat => decide (((u.getD i 0) : Int) = (y : Int)))))] hs157 (.cons (fun v W W' hn ⟨A11, c12, he, h0⟩ => ⟨A11, c12, he, h0.new_ hn⟩) (.eq (.eq (.eq (.nil))))) ?_ ?_
  refine .o1 (tkC rfl (noG rfl) rfl fun _ w hn k => (by
        refine ⟨#[.string ⟨#[120, 88, 111, 79, 46, 43, 45, 95]⟩], _, args1 rfl, fun w => by kernel_rfl, ascii_c ⟨#[120, 88, 111, 79, 46, 43, 45, 95]⟩ _ (by first | omega | (show (_ : Nat) ≤ _; decide)), ?_⟩
        rintro e w' ⟨A9, c10, rfl, hmo0, hm⟩
        exact ⟨_, rfl, hm, ⟨A9, c10, rfl, (hmo0.more hn.size)⟩⟩)) ?_
  refine .o1 (tk rfl rfl fun _ w hn k => ⟨_, v_move rfl (k.fx 5 h162), rfl⟩) ?_
  refine .o1 (tkC rfl (noG rfl) rfl fun _ w hn k => (by
        obtain ⟨A13, c14, e15, hx16⟩ : (fun (v_ : Value) (W : World) => ∃ (A11 : Option Addr) (c12 : Nat), v_ = sv A11 (asc ⟨#[120, 88, 111, 79, 46, 43, 45, 95]⟩) c12 ∧ SOwn W w154.heap.size 66 .u16 A11 (asc ⟨#[120, 88, 111, 79, 46, 43, 45, 95]⟩) c12) _ _ := k.dep 0 33 (by kernel_rfl) (by kernel_rfl)
        refine ⟨#[sv A13 (asc ⟨#[120, 88, 111, 79, 46, 43, 45, 95]⟩) c14, .int .u16 ((u.getD i 0 : Nat) : Int)], _, args2 e15 (k.eq1 1 34 rfl), fun w => by kernel_rfl, contains16_c _ (asc ⟨#[120, 88, 111, 79, 46, 43, 45, 95]⟩) _ (u.getD i 0) _ hx16.row (by omega), ?_⟩
        rintro e w' ⟨rfl, hm⟩
        exact ⟨_, rfl, hm, rfl⟩)) ?_
  refine .o1 (tk rfl rfl fun _ w hn k => ⟨_, v_assign rfl (k.eq1 2 35 rfl), rfl⟩) ?_
  exact .nil
  intro a167 w168 hn169 ha170
  obtain ⟨hs171, hd172, hN178⟩ := aft ha170 hs157 hd158 hN165 hn169
  have h173 := ha170.fx 8 h159
  have h174 := ha170.fx 6 h160
  have h175 := ha170.fx 7 h161
  have h176 := ha170.fx 3 h163
  have h177 := ha170.ge 3 32 rfl
  refine st_nil (hK166 _ _ ?_)
  rcases Bool.eq_false_or_eq_true (((asc ⟨#[120, 88, 111, 79, 46, 43, 45, 95]⟩).any (fun y : Nat => decide (((u.getD i 0) : Int) = (y : Int))))) with ht179 | ht179
  have hv180 := hB h177 ht179
  refine wp_cond_true hv180 ?_
  refine wp_skip ?_
  refine hK58 _ _ ?_
  refine wp_g0 [true, false] [(1, true)] 38
    [ve (iv ((i + 1 : Nat) : Int)),
     vt] hs171 (.eq (.tt (.nil))) ?_ ?_
  refine .o1 (tk rfl rfl fun _ w hn k => ⟨_, v_bin rfl (k.fx 8 h173) rfl (fun _ => rfl) (n_add (by omega) (IntWalk.i64_in _ (by omega))), rfl⟩) ?_
  refine .off ?_
  exact .nil
  intro a181 w182 hn183 ha184
  obtain ⟨hs185, hd186, hN192⟩ := aft ha184 hs171 hd172 hN178 hn183
  have h187 := ha184.fx 8 h173
  have h188 := ha184.fx 6 h174
  have h189 := ha184.fx 7 h175
  have h190 := ha184.fx 3 h176
  have h191 := ha184.ge 0 36 rfl
  refine st_take rfl rfl (y_move (v := iv ((i + 1 : Nat) : Int)) rfl h191) rfl ?_
  obtain ⟨a193, ha194⟩ : ∃ a', a' = a181.put (some 8) (iv ((i + 1 : Nat) : Int)) := ⟨_, rfl⟩
  have hs195 : a193.tmps.size = 38 := by rw [ha194, put_size]; exact hs185
  have hd196 : a193.defers = [] := by rw [ha194, put_defers]; exact hd186
  have h197 := pn ha194 h188 (by decide)
  have h198 := pn ha194 h189 (by decide)
  have h199 := pn ha194 h190 (by decide)
  have h200 := pn ha194 h191 (by decide)
  have h201 : a193.eval (.tmp 8) = iv ((i + 1 : Nat) : Int) := by rw [ha194]; exact put_same _ _ _ (by rw [hs185]; decide)
  show stepsTo _ _ _ _ _ (a181.put (some 8) (iv ((i + 1 : Nat) : Int))) _
  rw [← ha194]
  refine st_nil ?_
  refine then_n ?_
  exact ⟨_, ⟨i + 1, rfl, hs195, hd196, hN192, (h199.trans (congrArg Value.bool (by rw [any_up (by omega)]; simp only [ht73, ht113, bsm]))), (h201.trans (congrArg (Value.int .i64) (by omega))), h197, h198, (by omega), (all_up (by omega) hall (by unfold okcN; simp only [ht113, ht138, ht152, ht179, bsm]))⟩, (by omega)⟩
  have hv202 := hB h177 ht179
  refine wp_cond_false hv202 ?_
  refine wp_seq_k fun K203 hK203 => ?_
  refine wp_g0 [true] [] 38
    [ve (.bool false)] hs171 (.eq (.nil)) ?_ ?_
  refine .o1 (tk rfl rfl fun _ w hn k => ⟨_, v_assign rfl rfl, rfl⟩) ?_
  exact .nil
  intro a204 w205 hn206 ha207
  obtain ⟨hs208, hd209, hN211⟩ := aft ha207 hs171 hd172 hN178 hn206
  have h210 := ha207.ge 0 2 rfl
  refine st_nil (hK203 _ _ ?_)
  refine wp_ret (ret_k hd209 (v := .bool false) (res_t rfl h210 _) ?_)
  exact ⟨by rw [show strangeN u = false from by unfold strangeN; rw [all_bad (i := i) (by omega) (by unfold okcN; simp only [ht113, ht138, ht152, ht179, bsm]), Bool.false_and]], hN211⟩
  have ht152d := of_decide_eq_false ht152
  refine wp_g0 [true, true, true, true, true, true, true] [] 38
    [ve (.int .u16 ((u.getD i 0 : Nat) : Int)),
     ve (.bool true),
     ve (.bool true),
     ve (.int .u16 ((u.getD i 0 : Nat) : Int)),
     ve (.bool (decide (((u.getD i 0 : Nat) : Int) ≤ 70))),
     ve (.bool (decide (((u.getD i 0 : Nat) : Int) ≤ 70))),
     ve (.bool (decide (((u.getD i 0 : Nat) : Int) ≤ 70)))] hs143 (.eq (.eq (.eq (.eq (.eq (.eq (.eq (.nil)))))))) ?_ ?_
  refine .o1 (tk rfl rfl fun _ w hn k => ⟨_, v_move rfl (k.fx 5 h148), rfl⟩) ?_
  refine .o1 (tk rfl rfl fun _ w hn k => ⟨_, v_bin rfl (k.eq1 0 26 rfl) rfl (fun _ => rfl) (r_geqK ht152), rfl⟩) ?_
  refine .o1 (tk rfl rfl fun _ w hn k => ⟨_, v_move rfl (k.eq1 1 27 rfl), rfl⟩) ?_
  refine .o1 (tg rfl rfl rfl (fun _ _ k => k.eq1 2 28 rfl) fun _ w hn k => ⟨_, v_move rfl (k.fx 5 h148), rfl⟩) ?_
  refine .o1 (tg rfl rfl rfl (fun _ _ k => k.eq1 2 28 rfl) fun _ w hn k => ⟨_, v_bin rfl (k.eq1 3 29 rfl) rfl (fun _ => rfl) (r_leqK rfl), rfl⟩) ?_
  refine .o1 (tk rfl rfl fun _ w hn k => ⟨_, v_pickT rfl (k.eq1 2 28 rfl) (k.eq1 4 30 rfl), rfl⟩) ?_
  refine .o1 (tk rfl rfl fun _ w hn k => ⟨_, v_assign rfl (k.eq1 5 31 rfl), rfl⟩) ?_
  exact .nil
  intro a212 w213 hn214 ha215
  obtain ⟨hs216, hd217, hN224⟩ := aft ha215 hs143 hd144 hN151 hn214
  have h218 := ha215.fx 8 h145
  have h219 := ha215.fx 6 h146
  have h220 := ha215.fx 7 h147
  have h221 := ha215.fx 5 h148
  have h222 := ha215.fx 3 h149
  have h223 := ha215.ge 6 17 rfl
  refine st_nil (hK98 _ _ ?_)
  rcases Bool.eq_false_or_eq_true (decide (((u.getD i 0 : Nat) : Int) ≤ 70)) with ht225 | ht225
  have ht225d := of_decide_eq_true ht225
  have hv226 := hB h223 ht225
  refine wp_cond_true hv226 ?_
  refine wp_skip ?_
  refine hK58 _ _ ?_
  refine wp_g0 [true, false] [(1, true)] 38
    [ve (iv ((i + 1 : Nat) : Int)),
     vt] hs216 (.eq (.tt (.nil))) ?_ ?_
  refine .o1 (tk rfl rfl fun _ w hn k => ⟨_, v_bin rfl (k.fx 8 h218) rfl (fun _ => rfl) (n_add (by omega) (IntWalk.i64_in _ (by omega))), rfl⟩) ?_
  refine .off ?_
  exact .nil
  intro a227 w228 hn229 ha230
  obtain ⟨hs231, hd232, hN238⟩ := aft ha230 hs216 hd217 hN224 hn229
  have h233 := ha230.fx 8 h218
  have h234 := ha230.fx 6 h219
  have h235 := ha230.fx 7 h220
  have h236 := ha230.fx 3 h222
  have h237 := ha230.ge 0 36 rfl
  refine st_take rfl rfl (y_move (v := iv ((i + 1 : Nat) : Int)) rfl h237) rfl ?_
  obtain ⟨a239, ha240⟩ : ∃ a', a' = a227.put (some 8) (iv ((i + 1 : Nat) : Int)) := ⟨_, rfl⟩
  have hs241 : a239.tmps.size = 38 := by rw [ha240, put_size]; exact hs231
  have hd242 : a239.defers = [] := by rw [ha240, put_defers]; exact hd232
  have h243 := pn ha240 h234 (by decide)
  have h244 := pn ha240 h235 (by decide)
  have h245 := pn ha240 h236 (by decide)
  have h246 := pn ha240 h237 (by decide)
  have h247 : a239.eval (.tmp 8) = iv ((i + 1 : Nat) : Int) := by rw [ha240]; exact put_same _ _ _ (by rw [hs231]; decide)
  show stepsTo _ _ _ _ _ (a227.put (some 8) (iv ((i + 1 : Nat) : Int))) _
  rw [← ha240]
  refine st_nil ?_
  refine then_n ?_
  exact ⟨_, ⟨i + 1, rfl, hs241, hd242, hN238, (h245.trans (congrArg Value.bool (by rw [any_up (by omega)]; simp only [ht73, ht113, bsm]))), (h247.trans (congrArg (Value.int .i64) (by omega))), h243, h244, (by omega), (all_up (by omega) hall (by unfold okcN; simp only [ht113, ht138, ht152, ht225, bsm]))⟩, (by omega)⟩
  have ht225d := of_decide_eq_false ht225
  have hv248 := hB h223 ht225
  refine wp_cond_false hv248 ?_
  refine wp_seq_k fun K249 hK249 => ?_
  have hb := hu.at16 i
  refine wp_g0 [true, true, true, true] [] 38
    [(fun (v_ : Value) (W : World) => ∃ (A19 : Option Addr) (c20 : Nat), v_ = sv A19 (asc ⟨#[120, 88, 111, 79, 46, 43, 45, 95]⟩) c20 ∧ SOwn W w213.heap.size 66 .u16 A19 (asc ⟨#[120, 88, 111, 79, 46, 43, 45, 95]⟩) c20),
     ve (.int .u16 ((u.getD i 0 : Nat) : Int)),
     ve (.bool ((asc ⟨#[120, 88, 111, 79, 46, 43, 45, 95]⟩).any (fun y : Nat => decide (((u.getD i 0) : Int) = (y : Int))))),
     ve (.bool ((asc ⟨#[120, 88, 111, 79, 46, 43, 45, 95]⟩).any (fun y : Nat => decide (((u.getD i 0) : Int) = (y : Int)))))] hs216 (.cons (fun v W W' hn ⟨A19, c20, he, h0⟩ => ⟨A19, c20, he, h0.new_ hn⟩) (.eq (.eq (.eq (.nil))))) ?_ ?_
  refine .o1 (tkC rfl (noG rfl) rfl fun _ w hn k => (by
        refine ⟨#[.string ⟨#[120, 88, 111, 79, 46, 43, 45, 95]⟩], _, args1 rfl, fun w => by kernel_rfl, ascii_c ⟨#[120, 88, 111, 79, 46, 43, 45, 95]⟩ _ (by first | omega | (show (_ : Nat) ≤ _; decide)), ?_⟩
        rintro e w' ⟨A17, c18, rfl, hmo0, hm⟩
        exact ⟨_, rfl, hm, ⟨A17, c18, rfl, (hmo0.more hn.size)⟩⟩)) ?_
  refine .o1 (tk rfl rfl fun _ w hn k => ⟨_, v_move rfl (k.fx 5 h221), rfl⟩) ?_
  refine .o1 (tkC rfl (noG rfl) rfl fun _ w hn k => (by
        obtain ⟨A21, c22, e23, hx24⟩ : (fun (v_ : Value) (W : World) => ∃ (A19 : Option Addr) (c20 : Nat), v_ = sv A19 (asc ⟨#[120, 88, 111, 79, 46, 43, 45, 95]⟩) c20 ∧ SOwn W w213.heap.size 66 .u16 A19 (asc ⟨#[120, 88, 111, 79, 46, 43, 45, 95]⟩) c20) _ _ := k.dep 0 33 (by kernel_rfl) (by kernel_rfl)
        refine ⟨#[sv A21 (asc ⟨#[120, 88, 111, 79, 46, 43, 45, 95]⟩) c22, .int .u16 ((u.getD i 0 : Nat) : Int)], _, args2 e23 (k.eq1 1 34 rfl), fun w => by kernel_rfl, contains16_c _ (asc ⟨#[120, 88, 111, 79, 46, 43, 45, 95]⟩) _ (u.getD i 0) _ hx24.row (by omega), ?_⟩
        rintro e w' ⟨rfl, hm⟩
        exact ⟨_, rfl, hm, rfl⟩)) ?_
  refine .o1 (tk rfl rfl fun _ w hn k => ⟨_, v_assign rfl (k.eq1 2 35 rfl), rfl⟩) ?_
  exact .nil
  intro a250 w251 hn252 ha253
  obtain ⟨hs254, hd255, hN261⟩ := aft ha253 hs216 hd217 hN224 hn252
  have h256 := ha253.fx 8 h218
  have h257 := ha253.fx 6 h219
  have h258 := ha253.fx 7 h220
  have h259 := ha253.fx 3 h222
  have h260 := ha253.ge 3 32 rfl
  refine st_nil (hK249 _ _ ?_)
  rcases Bool.eq_false_or_eq_true (((asc ⟨#[120, 88, 111, 79, 46, 43, 45, 95]⟩).any (fun y : Nat => decide (((u.getD i 0) : Int) = (y : Int))))) with ht262 | ht262
  have hv263 := hB h260 ht262
  refine wp_cond_true hv263 ?_
  refine wp_skip ?_
  refine hK58 _ _ ?_
  refine wp_g0 [true, false] [(1, true)] 38
    [ve (iv ((i + 1 : Nat) : Int)),
     vt] hs254 (.eq (.tt (.nil))) ?_ ?_
  refine .o1 (tk rfl rfl fun _ w hn k => ⟨_, v_bin rfl (k.fx 8 h256) rfl (fun _ => rfl) (n_add (by omega) (IntWalk.i64_in _ (by omega))), rfl⟩) ?_
  refine .off ?_
  exact .nil
  intro a264 w265 hn266 ha267
  obtain ⟨hs268, hd269, hN275⟩ := aft ha267 hs254 hd255 hN261 hn266
  have h270 := ha267.fx 8 h256
  have h271 := ha267.fx 6 h257
  have h272 := ha267.fx 7 h258
  have h273 := ha267.fx 3 h259
  have h274 := ha267.ge 0 36 rfl
  refine st_take rfl rfl (y_move (v := iv ((i + 1 : Nat) : Int)) rfl h274) rfl ?_
  obtain ⟨a276, ha277⟩ : ∃ a', a' = a264.put (some 8) (iv ((i + 1 : Nat) : Int)) := ⟨_, rfl⟩
  have hs278 : a276.tmps.size = 38 := by rw [ha277, put_size]; exact hs268
  have hd279 : a276.defers = [] := by rw [ha277, put_defers]; exact hd269
  have h280 := pn ha277 h271 (by decide)
  have h281 := pn ha277 h272 (by decide)
  have h282 := pn ha277 h273 (by decide)
  have h283 := pn ha277 h274 (by decide)
  have h284 : a276.eval (.tmp 8) = iv ((i + 1 : Nat) : Int) := by rw [ha277]; exact put_same _ _ _ (by rw [hs268]; decide)
  show stepsTo _ _ _ _ _ (a264.put (some 8) (iv ((i + 1 : Nat) : Int))) _
  rw [← ha277]
  refine st_nil ?_
  refine then_n ?_
  exact ⟨_, ⟨i + 1, rfl, hs278, hd279, hN275, (h282.trans (congrArg Value.bool (by rw [any_up (by omega)]; simp only [ht73, ht113, bsm]))), (h284.trans (congrArg (Value.int .i64) (by omega))), h280, h281, (by omega), (all_up (by omega) hall (by unfold okcN; simp only [ht113, ht138, ht152, ht225, ht262, bsm]))⟩, (by omega)⟩
  have hv285 := hB h260 ht262
  refine wp_cond_false hv285 ?_
  refine wp_seq_k fun K286 hK286 => ?_
  refine wp_g0 [true] [] 38
    [ve (.bool false)] hs254 (.eq (.nil)) ?_ ?_
  refine .o1 (tk rfl rfl fun _ w hn k => ⟨_, v_assign rfl rfl, rfl⟩) ?_
  exact .nil
  intro a287 w288 hn289 ha290
  obtain ⟨hs291, hd292, hN294⟩ := aft ha290 hs254 hd255 hN261 hn289
  have h293 := ha290.ge 0 2 rfl
  refine st_nil (hK286 _ _ ?_)
  refine wp_ret (ret_k hd292 (v := .bool false) (res_t rfl h293 _) ?_)
  exact ⟨by rw [show strangeN u = false from by unfold strangeN; rw [all_bad (i := i) (by omega) (by unfold okcN; simp only [ht113, ht138, ht152, ht225, ht262, bsm]), Bool.false_and]], hN294⟩
  have ht138d := of_decide_eq_false ht138
  refine wp_g0 [true, true, true, true, true, true, true] [] 38
    [ve (.int .u16 ((u.getD i 0 : Nat) : Int)),
     ve (.bool true),
     ve (.bool true),
     ve (.int .u16 ((u.getD i 0 : Nat) : Int)),
     ve (.bool (decide (((u.getD i 0 : Nat) : Int) ≤ 102))),
     ve (.bool (decide (((u.getD i 0 : Nat) : Int) ≤ 102))),
     ve (.bool (decide (((u.getD i 0 : Nat) : Int) ≤ 102)))] hs104 (.eq (.eq (.eq (.eq (.eq (.eq (.eq (.nil)))))))) ?_ ?_
  refine .o1 (tk rfl rfl fun _ w hn k => ⟨_, v_move rfl (k.fx 5 h109), rfl⟩) ?_
  refine .o1 (tk rfl rfl fun _ w hn k => ⟨_, v_bin rfl (k.eq1 0 20 rfl) rfl (fun _ => rfl) (r_geqK ht138), rfl⟩) ?_
  refine .o1 (tk rfl rfl fun _ w hn k => ⟨_, v_move rfl (k.eq1 1 21 rfl), rfl⟩) ?_
  refine .o1 (tg rfl rfl rfl (fun _ _ k => k.eq1 2 22 rfl) fun _ w hn k => ⟨_, v_move rfl (k.fx 5 h109), rfl⟩) ?_
  refine .o1 (tg rfl rfl rfl (fun _ _ k => k.eq1 2 22 rfl) fun _ w hn k => ⟨_, v_bin rfl (k.eq1 3 23 rfl) rfl (fun _ => rfl) (r_leqK rfl), rfl⟩) ?_
  refine .o1 (tk rfl rfl fun _ w hn k => ⟨_, v_pickT rfl (k.eq1 2 22 rfl) (k.eq1 4 24 rfl), rfl⟩) ?_
  refine .o1 (tk rfl rfl fun _ w hn k => ⟨_, v_assign rfl (k.eq1 5 25 rfl), rfl⟩) ?_
  exact .nil
  intro a295 w296 hn297 ha298
  obtain ⟨hs299, hd300, hN307⟩ := aft ha298 hs104 hd105 hN112 hn297
  have h301 := ha298.fx 8 h106
  have h302 := ha298.fx 6 h107
  have h303 := ha298.fx 7 h108
  have h304 := ha298.fx 5 h109
  have h305 := ha298.fx 3 h110
  have h306 := ha298.ge 6 17 rfl
  refine st_nil (hK137 _ _ ?_)
  rcases Bool.eq_false_or_eq_true (decide (((u.getD i 0 : Nat) : Int) ≤ 102)) with ht308 | ht308
  have ht308d := of_decide_eq_true ht308
  have hv309 := hB h306 ht308
  refine wp_cond_true hv309 ?_
  refine wp_skip ?_
  refine hK98 _ _ ?_
  refine wp_cond_true hv309 ?_
  refine wp_skip ?_
  refine hK58 _ _ ?_
  refine wp_g0 [true, false] [(1, true)] 38
    [ve (iv ((i + 1 : Nat) : Int)),
     vt] hs299 (.eq (.tt (.nil))) ?_ ?_
  refine .o1 (tk rfl rfl fun _ w hn k => ⟨_, v_bin rfl (k.fx 8 h301) rfl (fun _ => rfl) (n_add (by omega) (IntWalk.i64_in _ (by omega))), rfl⟩) ?_
  refine .off ?_
  exact .nil
  intro a310 w311 hn312 ha313
  obtain ⟨hs314, hd315, hN321⟩ := aft ha313 hs299 hd300 hN307 hn312
  have h316 := ha313.fx 8 h301
  have h317 := ha313.fx 6 h302
  have h318 := ha313.fx 7 h303
  have h319 := ha313.fx 3 h305
  have h320 := ha313.ge 0 36 rfl
  refine st_take rfl rfl (y_move (v := iv ((i + 1 : Nat) : Int)) rfl h320) rfl ?_
  obtain ⟨a322, ha323⟩ : ∃ a', a' = a310.put (some 8) (iv ((i + 1 : Nat) : Int)) := ⟨_, rfl⟩
  have hs324 : a322.tmps.size = 38 := by rw [ha323, put_size]; exact hs314
  have hd325 : a322.defers = [] := by rw [ha323, put_defers]; exact hd315
  have h326 := pn ha323 h317 (by decide)
  have h327 := pn ha323 h318 (by decide)
  have h328 := pn ha323 h319 (by decide)
  have h329 := pn ha323 h320 (by decide)
  have h330 : a322.eval (.tmp 8) = iv ((i + 1 : Nat) : Int) := by rw [ha323]; exact put_same _ _ _ (by rw [hs314]; decide)
  show stepsTo _ _ _ _ _ (a310.put (some 8) (iv ((i + 1 : Nat) : Int))) _
  rw [← ha323]
  refine st_nil ?_
  refine then_n ?_
  exact ⟨_, ⟨i + 1, rfl, hs324, hd325, hN321, (h328.trans (congrArg Value.bool (by rw [any_up (by omega)]; simp only [ht73, ht113, bsm]))), (h330.trans (congrArg (Value.int .i64) (by omega))), h326, h327, (by omega), (all_up (by omega) hall (by unfold okcN; simp only [ht113, ht138, ht308, bsm]))⟩, (by omega)⟩
  have ht308d := of_decide_eq_false ht308
  have hv331 := hB h306 ht308
  refine wp_cond_false hv331 ?_
  rcases Bool.eq_false_or_eq_true (decide (((u.getD i 0 : Nat) : Int) < 65)) with ht332 | ht332
  have ht332d := of_decide_eq_true ht332
  refine wp_g0 [true, true, true, true, true, true, true] [] 38
    [ve (.int .u16 ((u.getD i 0 : Nat) : Int)),
     ve (.bool false),
     ve (.bool false),
     ve undef,
     ve undef,
     ve (.bool false),
     ve (.bool false)] hs299 (.eq (.eq (.eq (.eq (.eq (.eq (.eq (.nil)))))))) ?_ ?_
  refine .o1 (tk rfl rfl fun _ w hn k => ⟨_, v_move rfl (k.fx 5 h304), rfl⟩) ?_
  refine .o1 (tk rfl rfl fun _ w hn k => ⟨_, v_bin rfl (k.eq1 0 26 rfl) rfl (fun _ => rfl) (r_geqK ht332), rfl⟩) ?_
  refine .o1 (tk rfl rfl fun _ w hn k => ⟨_, v_move rfl (k.eq1 1 27 rfl), rfl⟩) ?_
  refine .o1 (sk rfl rfl rfl (fun _ _ _ k => k.eq1 2 28 rfl) (fun _ => rfl)) ?_
  refine .o1 (sk rfl rfl rfl (fun _ _ _ k => k.eq1 2 28 rfl) (fun _ => rfl)) ?_
  refine .o1 (tk rfl rfl fun _ w hn k => ⟨_, v_pickF rfl (k.eq1 2 28 rfl) rfl, rfl⟩) ?_
  refine .o1 (tk rfl rfl fun _ w hn k => ⟨_, v_assign rfl (k.eq1 5 31 rfl), rfl⟩) ?_
  exact .nil
  intro a333 w334 hn335 ha336
  obtain ⟨hs337, hd338, hN345⟩ := aft ha336 hs299 hd300 hN307 hn335
  have h339 := ha336.fx 8 h301
  have h340 := ha336.fx 6 h302
  have h341 := ha336.fx 7 h303
  have h342 := ha336.fx 5 h304
  have h343 := ha336.fx 3 h305
  have h344 := ha336.ge 6 17 rfl
  refine st_nil (hK98 _ _ ?_)
  refine wp_cond_false h344 ?_
  refine wp_seq_k fun K346 hK346 => ?_
  have hb := hu.at16 i
  refine wp_g0 [true, true, true, true] [] 38
    [(fun (v_ : Value) (W : World) => ∃ (A27 : Option Addr) (c28 : Nat), v_ = sv A27 (asc ⟨#[120, 88, 111, 79, 46, 43, 45, 95]⟩) c28 ∧ SOwn W w334.heap.size 66 .u16 A27 (asc ⟨#[120, 88, 111, 79, 46, 43, 45, 95]⟩) c28),
     ve (.int .u16 ((u.getD i 0 : Nat) : Int)),
     ve (.bool ((asc ⟨#[120, 88, 111, 79, 46, 43, 45, 95]⟩).any (fun y : Nat => decide (((u.getD i 0) : Int) = (y : Int))))),
     ve (.bool ((asc ⟨#[120, 88, 111, 79, 46, 43, 45, 95]⟩).any (fun y : Nat => decide (((u.getD i 0) : Int) = (y : Int)))))] hs337 (.cons (fun v W W' hn ⟨A27, c28, he, h0⟩ => ⟨A27, c28, he, h0.new_ hn⟩) (.eq (.eq (.eq (.nil))))) ?_ ?_
  refine .o1 (tkC rfl (noG rfl) rfl fun _ w hn k => (by
        refine ⟨#[.string ⟨#[120, 88, 111, 79, 46, 43, 45, 95]⟩], _, args1 rfl, fun w => by kernel_rfl, ascii_c ⟨#[120, 88, 111, 79, 46, 43, 45, 95]⟩ _ (by first | omega | (show (_ : Nat) ≤ _; decide)), ?_⟩
        rintro e w' ⟨A25, c26, rfl, hmo0, hm⟩
        exact ⟨_, rfl, hm, ⟨A25, c26, rfl, (hmo0.more hn.size)⟩⟩)) ?_
  refine .o1 (tk rfl rfl fun _ w hn k => ⟨_, v_move rfl (k.fx 5 h342), rfl⟩) ?_
  refine .o1 (tkC rfl (noG rfl) rfl fun _ w hn k => (by
        obtain ⟨A29, c30, e31, hx32⟩ : (fun (v_ : Value) (W : World) => ∃ (A27 : Option Addr) (c28 : Nat), v_ = sv A27 (asc ⟨#[120, 88, 111, 79, 46, 43, 45, 95]⟩) c28 ∧ SOwn W w334.heap.size 66 .u16 A27 (asc ⟨#[120, 88, 111, 79, 46, 43, 45, 95]⟩) c28) _ _ := k.dep 0 33 (by kernel_rfl) (by kernel_rfl)
        refine ⟨#[sv A29 (asc ⟨#[120, 88, 111, 79, 46, 43, 45, 95]⟩) c30, .int .u16 ((u.getD i 0 : Nat) : Int)], _, args2 e31 (k.eq1 1 34 rfl), fun w => by kernel_rfl, contains16_c _ (asc ⟨#[120, 88, 111, 79, 46, 43, 45, 95]⟩) _ (u.getD i 0) _ hx32.row (by omega), ?_⟩
        rintro e w' ⟨rfl, hm⟩
        exact ⟨_, rfl, hm, rfl⟩)) ?_
  refine .o1 (tk rfl rfl fun _ w hn k => ⟨_, v_assign rfl (k.eq1 2 35 rfl), rfl⟩) ?_
  exact .nil
  intro a347 w348 hn349 ha350
  obtain ⟨hs351, hd352, hN358⟩ := aft ha350 hs337 hd338 hN345 hn349
  have h353 := ha350.fx 8 h339
  have h354 := ha350.fx 6 h340
  have h355 := ha350.fx 7 h341
  have h356 := ha350.fx 3 h343
  have h357 := ha350.ge 3 32 rfl
  refine st_nil (hK346 _ _ ?_)
  rcases Bool.eq_false_or_eq_true (((asc ⟨#[120, 88, 111, 79, 46, 43, 45, 95]⟩).any (fun y : Nat => decide (((u.getD i 0) : Int) = (y : Int))))) with ht359 | ht359
  have hv360 := hB h357 ht359
  refine wp_cond_true hv360 ?_
  refine wp_skip ?_
  refine hK58 _ _ ?_
  refine wp_g0 [true, false] [(1, true)] 38
    [ve (iv ((i + 1 : Nat) : Int)),
     vt] hs351 (.eq (.tt (.nil))) ?_ ?_
  refine .o1 (tk rfl rfl fun _ w hn k => ⟨_, v_bin rfl (k.fx 8 h353) rfl (fun _ => rfl) (n_add (by omega) (IntWalk.i64_in _ (by omega))), rfl⟩) ?_
  refine .off ?_
  exact .nil
  intro a361 w362 hn363 ha364
  obtain ⟨hs365, hd366, hN372⟩ := aft ha364 hs351 hd352 hN358 hn363
  have h367 := ha364.fx 8 h353
  have h368 := ha364.fx 6 h354
  have h369 := ha364.fx 7 h355
  have h370 := ha364.fx 3 h356
  have h371 := ha364.ge 0 36 rfl
  refine st_take rfl rfl (y_move (v := iv ((i + 1 : Nat) : Int)) rfl h371) rfl ?_
  obtain ⟨a373, ha374⟩ : ∃ a', a' = a361.put (some 8) (iv ((i + 1 : Nat) : Int)) := ⟨_, rfl⟩
  have hs375 : a373.tmps.size = 38 := by rw [ha374, put_size]; exact hs365
  have hd376 : a373.defers = [] := by rw [ha374, put_defers]; exact hd366
  have h377 := pn ha374 h368 (by decide)
  have h378 := pn ha374 h369 (by decide)
  have h379 := pn ha374 h370 (by decide)
  have h380 := pn ha374 h371 (by decide)
  have h381 : a373.eval (.tmp 8) = iv ((i + 1 : Nat) : Int) := by rw [ha374]; exact put_same _ _ _ (by rw [hs365]; decide)
  show stepsTo _ _ _ _ _ (a361.put (some 8) (iv ((i + 1 : Nat) : Int))) _
  rw [← ha374]
  refine st_nil ?_
  refine then_n ?_
  exact ⟨_, ⟨i + 1, rfl, hs375, hd376, hN372, (h379.trans (congrArg Value.bool (by rw [any_up (by omega)]; simp only [ht73, ht113, bsm]))), (h381.trans (congrArg (Value.int .i64) (by omega))), h377, h378, (by omega), (all_up (by omega) hall (by unfold okcN; simp only [ht113, ht138, ht308, ht332, ht359, bsm]))⟩, (by omega)⟩
  have hv382 := hB h357 ht359
  refine wp_cond_false hv382 ?_
  refine wp_seq_k fun K383 hK383 => ?_
  refine wp_g0 [true] [] 38
    [ve (.bool false)] hs351 (.eq (.nil)) ?_ ?_
  refine .o1 (tk rfl rfl fun _ w hn k => ⟨_, v_assign rfl rfl, rfl⟩) ?_
  exact .nil
  intro a384 w385 hn386 ha387
  obtain ⟨hs388, hd389, hN391⟩ := aft ha387 hs351 hd352 hN358 hn386
  have h390 := ha387.ge 0 2 rfl
  refine st_nil (hK383 _ _ ?_)
  refine wp_ret (ret_k hd389 (v := .bool false) (res_t rfl h390 _) ?_)
  exact ⟨by rw [show strangeN u = false from by unfold strangeN; rw [all_bad (i := i) (by omega) (by unfold okcN; simp only [ht113, ht138, ht308, ht332, ht359, bsm]), Bool.false_and]], hN391⟩
  have ht332d := of_decide_eq_false ht332
  refine wp_g0 [true, true, true, true, true, true, true] [] 38
    [ve (.int .u16 ((u.getD i 0 : Nat) : Int)),
     ve (.bool true),
     ve (.bool true),
     ve (.int .u16 ((u.getD i 0 : Nat) : Int)),
     ve (.bool (decide (((u.getD i 0 : Nat) : Int) ≤ 70))),
     ve (.bool (decide (((u.getD i 0 : Nat) : Int) ≤ 70))),
     ve (.bool (decide (((u.getD i 0 : Nat) : Int) ≤ 70)))] hs299 (.eq (.eq (.eq (.eq (.eq (.eq (.eq (.nil)))))))) ?_ ?_
  refine .o1 (tk rfl rfl fun _ w hn k => ⟨_, v_move rfl (k.fx 5 h304), rfl⟩) ?_
  refine .o1 (tk rfl rfl fun _ w hn k => ⟨_, v_bin rfl (k.eq1 0 26 rfl) rfl (fun _ => rfl) (r_geqK ht332), rfl⟩) ?_
  refine .o1 (tk rfl rfl fun _ w hn k => ⟨_, v_move rfl (k.eq1 1 27 rfl), rfl⟩) ?_
  refine .o1 (tg rfl rfl rfl (fun _ _ k => k.eq1 2 28 rfl) fun _ w hn k => ⟨_, v_move rfl (k.fx 5 h304), rfl⟩) ?_
  refine .o1 (tg rfl rfl rfl (fun _ _ k => k.eq1 2 28 rfl) fun _ w hn k => ⟨_, v_bin rfl (k.eq1 3 29 rfl) rfl (fun _ => rfl) (r_leqK rfl), rfl⟩) ?_
  refine .o1 (tk rfl rfl fun _ w hn k => ⟨_, v_pickT rfl (k.eq1 2 28 rfl) (k.eq1 4 30 rfl), rfl⟩) ?_
  refine .o1 (tk rfl rfl fun _ w hn k => ⟨_, v_assign rfl (k.eq1 5 31 rfl), rfl⟩) ?_
  exact .nil
  intro a392 w393 hn394 ha395
  obtain ⟨hs396, hd397, hN404⟩ := aft ha395 hs299 hd300 hN307 hn394
  have h398 := ha395.fx 8 h301
  have h399 := ha395.fx 6 h302
  have h400 := ha395.fx 7 h303
  have h401 := ha395.fx 5 h304
  have h402 := ha395.fx 3 h305
  have h403 := ha395.ge 6 17 rfl
  refine st_nil (hK98 _ _ ?_)
  rcases Bool.eq_false_or_eq_true (decide (((u.getD i 0 : Nat) : Int) ≤ 70)) with ht405 | ht405
  have ht405d := of_decide_eq_true ht405
  have hv406 := hB h403 ht405
  refine wp_cond_true hv406 ?_
  refine wp_skip ?_
  refine hK58 _ _ ?_
  refine wp_g0 [true, false] [(1, true)] 38
    [ve (iv ((i + 1 : Nat) : Int)),
     vt] hs396 (.eq (.tt (.nil))) ?_ ?_
  refine .o1 (tk rfl rfl fun _ w hn k => ⟨_, v_bin rfl (k.fx 8 h398) rfl (fun _ => rfl) (n_add (by omega) (IntWalk.i64_in _ (by omega))), rfl⟩) ?_
  refine .off ?_
  exact .nil
  intro a407 w408 hn409 ha410
  obtain ⟨hs411, hd412, hN418⟩ := aft ha410 hs396 hd397 hN404 hn409
  have h413 := ha410.fx 8 h398
  have h414 := ha410.fx 6 h399
  have h415 := ha410.fx 7 h400
  have h416 := ha410.fx 3 h402
  have h417 := ha410.ge 0 36 rfl
  refine st_take rfl rfl (y_move (v := iv ((i + 1 : Nat) : Int)) rfl h417) rfl ?_
  obtain ⟨a419, ha420⟩ : ∃ a', a' = a407.put (some 8) (iv ((i + 1 : Nat) : Int)) := ⟨_, rfl⟩
  have hs421 : a419.tmps.size = 38 := by rw [ha420, put_size]; exact hs411
  have hd422 : a419.defers = [] := by rw [ha420, put_defers]; exact hd412
  have h423 := pn ha420 h414 (by decide)
  have h424 := pn ha420 h415 (by decide)
  have h425 := pn ha420 h416 (by decide)
  have h426 := pn ha420 h417 (by decide)
  have h427 : a419.eval (.tmp 8) = iv ((i + 1 : Nat) : Int) := by rw [ha420]; exact put_same _ _ _ (by rw [hs411]; decide)
  show stepsTo _ _ _ _ _ (a407.put (some 8) (iv ((i + 1 : Nat) : Int))) _
  rw [← ha420]
  refine st_nil ?_
  refine then_n ?_
  exact ⟨_, ⟨i + 1, rfl, hs421, hd422, hN418, (h425.trans (congrArg Value.bool (by rw [any_up (by omega)]; simp only [ht73, ht113, bsm]))), (h427.trans (congrArg (Value.int .i64) (by omega))), h423, h424, (by omega), (all_up (by omega) hall (by unfold okcN; simp only [ht113, ht138, ht308, ht332, ht405, bsm]))⟩, (by omega)⟩
  have ht405d := of_decide_eq_false ht405
  have hv428 := hB h403 ht405
  refine wp_cond_false hv428 ?_
  refine wp_seq_k fun K429 hK429 => ?_
  have hb := hu.at16 i
  refine wp_g0 [true, true, true, true] [] 38
    [(fun (v_ : Value) (W : World) => ∃ (A35 : Option Addr) (c36 : Nat), v_ = sv A35 (asc ⟨#[120, 88, 111, 79, 46, 43, 45, 95]⟩) c36 ∧ SOwn W w393.heap.size 66 .u16 A35 (asc ⟨#[120, 88, 111, 79, 46, 43, 45, 95]⟩) c36),
     ve (.int .u16 ((u.getD i 0 : Nat) : Int)),
     ve (.bool ((asc ⟨#[120, 88, 111, 79, 46, 43, 45, 95]⟩).any (fun y : Nat => decide (((u.getD i 0) : Int) = (y : Int))))),
     ve (.bool ((asc ⟨#[120, 88, 111, 79, 46, 43, 45, 95]⟩).any (fun y : Nat => decide (((u.getD i 0) : Int) = (y : Int)))))] hs396 (.cons (fun v W W' hn ⟨A35, c36, he, h0⟩ => ⟨A35, c36, he, h0.new_ hn⟩) (.eq (.eq (.eq (.nil))))) ?_ ?_
  refine .o1 (tkC rfl (noG rfl) rfl fun _ w hn k => (by
        refine ⟨#[.string ⟨#[120, 88, 111, 79, 46, 43, 45, 95]⟩], _, args1 rfl, fun w => by kernel_rfl, ascii_c ⟨#[120, 88, 111, 79, 46, 43, 45, 95]⟩ _ (by first | omega | (show (_ : Nat) ≤ _; decide)), ?_⟩
        rintro e w' ⟨A33, c34, rfl, hmo0, hm⟩
        exact ⟨_, rfl, hm, ⟨A33, c34, rfl, (hmo0.more hn.size)⟩⟩)) ?_
  refine .o1 (tk rfl rfl fun _ w hn k => ⟨_, v_move rfl (k.fx 5 h401), rfl⟩) ?_
  refine .o1 (tkC rfl (noG rfl) rfl fun _ w hn k => (by
        obtain ⟨A37, c38, e39, hx40⟩ : (fun (v_ : Value) (W : World) => ∃ (A35 : Option Addr) (c36 : Nat), v_ = sv A35 (asc ⟨#[120, 88, 111, 79, 46, 43, 45, 95]⟩) c36 ∧ SOwn W w393.heap.size 66 .u16 A35 (asc ⟨#[120, 88, 111, 79, 46, 43, 45, 95]⟩) c36) _ _ := k.dep 0 33 (by kernel_rfl) (by kernel_rfl)
        refine ⟨#[sv A37 (asc ⟨#[120, 88, 111, 79, 46, 43, 45, 95]⟩) c38, .int .u16 ((u.getD i 0 : Nat) : Int)], _, args2 e39 (k.eq1 1 34 rfl), fun w => by kernel_rfl, contains16_c _ (asc ⟨#[120, 88, 111, 79, 46, 43, 45, 95]⟩) _ (u.getD i 0) _ hx40.row (by omega), ?_⟩
        rintro e w' ⟨rfl, hm⟩
        exact ⟨_, rfl, hm, rfl⟩)) ?_
  refine .o1 (tk rfl rfl fun _ w hn k => ⟨_, v_assign rfl (k.eq1 2 35 rfl), rfl⟩) ?_
  exact .nil
  intro a430 w431 hn432 ha433
  obtain ⟨hs434, hd435, hN441⟩ := aft ha433 hs396 hd397 hN404 hn432
  have h436 := ha433.fx 8 h398
  have h437 := ha433.fx 6 h399
  have h438 := ha433.fx 7 h400
  have h439 := ha433.fx 3 h402
  have h440 := ha433.ge 3 32 rfl
  refine st_nil (hK429 _ _ ?_)
  rcases Bool.eq_false_or_eq_true (((asc ⟨#[120, 88, 111, 79, 46, 43, 45, 95]⟩).any (fun y : Nat => decide (((u.getD i 0) : Int) = (y : Int))))) with ht442 | ht442
  have hv443 := hB h440 ht442
  refine wp_cond_true hv443 ?_
  refine wp_skip ?_
  refine hK58 _ _ ?_
  refine wp_g0 [true, false] [(1, true)] 38
    [ve (iv ((i + 1 : Nat) : Int)),
     vt] hs434 (.eq (.tt (.nil))) ?_ ?_
  refine .o1 (tk rfl rfl fun _ w hn k => ⟨_, v_bin rfl (k.fx 8 h436) rfl (fun _ => rfl) (n_add (by omega) (IntWalk.i64_in _ (by omega))), rfl⟩) ?_
  refine .off ?_
  exact .nil
  intro a444 w445 hn446 ha447
  obtain ⟨hs448, hd449, hN455⟩ := aft ha447 hs434 hd435 hN441 hn446
  have h450 := ha447.fx 8 h436
  have h451 := ha447.fx 6 h437
  have h452 := ha447.fx 7 h438
  have h453 := ha447.fx 3 h439
  have h454 := ha447.ge 0 36 rfl
  refine st_take rfl rfl (y_move (v := iv ((i + 1 : Nat) : Int)) rfl h454) rfl ?_
  obtain ⟨a456, ha457⟩ : ∃ a', a' = a444.put (some 8) (iv ((i + 1 : Nat) : Int)) := ⟨_, rfl⟩
  have hs458 : a456.tmps.size = 38 := by rw [ha457, put_size]; exact hs448
  have hd459 : a456.defers = [] := by rw [ha457, put_defers]; exact hd449
  have h460 := pn ha457 h451 (by decide)
  have h461 := pn ha457 h452 (by decide)
  have h462 := pn ha457 h453 (by decide)
  have h463 := pn ha457 h454 (by decide)
  have h464 : a456.eval (.tmp 8) = iv ((i + 1 : Nat) : Int) := by rw [ha457]; exact put_same _ _ _ (by rw [hs448]; decide)
  show stepsTo _ _ _ _ _ (a444.put (some 8) (iv ((i + 1 : Nat) : Int))) _
  rw [← ha457]
  refine st_nil ?_
  refine then_n ?_
  exact ⟨_, ⟨i + 1, rfl, hs458, hd459, hN455, (h462.trans (congrArg Value.bool (by rw [any_up (by omega)]; simp only [ht73, ht113, bsm]))), (h464.trans (congrArg (Value.int .i64) (by omega))), h460, h461, (by omega), (all_up (by omega) hall (by unfold okcN; simp only [ht113, ht138, ht308, ht332, ht405, ht442, bsm]))⟩, (by omega)⟩
  have hv465 := hB h440 ht442
  refine wp_cond_false hv465 ?_
  refine wp_seq_k fun K466 hK466 => ?_
  refine wp_g0 [true] [] 38
    [ve (.bool false)] hs434 (.eq (.nil)) ?_ ?_
  refine .o1 (tk rfl rfl fun _ w hn k => ⟨_, v_assign rfl rfl, rfl⟩) ?_
  exact .nil
  intro a467 w468 hn469 ha470
  obtain ⟨hs471, hd472, hN474⟩ := aft ha470 hs434 hd435 hN441 hn469
  have h473 := ha470.ge 0 2 rfl
  refine st_nil (hK466 _ _ ?_)
  refine wp_ret (ret_k hd472 (v := .bool false) (res_t rfl h473 _) ?_)
  exact ⟨by rw [show strangeN u = false from by unfold strangeN; rw [all_bad (i := i) (by omega) (by unfold okcN; simp only [ht113, ht138, ht308, ht332, ht405, ht442, bsm]), Bool.false_and]], hN474⟩
  have hv475 := hB h66 ht73
  have hb := hu.at16 i
  refine wp_g0 [true, true, true, true, true, false] [(5, true)] 38
    [ve (.bool false),
     ve (.bool false),
     ve (.int .u16 ((u.getD i 0 : Nat) : Int)),
     ve (.bool (dgtN (u.getD i 0))),
     ve (.bool (dgtN (u.getD i 0))),
     vt] hs64 (.eq (.eq (.eq (.eq (.eq (.tt (.nil))))))) ?_ ?_
  refine .o1 (tk rfl rfl fun _ w hn k => ⟨_, v_move rfl (k.fx 3 hv475), rfl⟩) ?_
  refine .o1 (tk rfl rfl fun _ w hn k => ⟨_, v_move rfl (k.eq1 0 12 rfl), rfl⟩) ?_
  refine .o1 (tg rfl rfl rfl (fun _ _ k => k.eq1 1 13 rfl) fun _ w hn k => ⟨_, v_move rfl (k.fx 5 h70), rfl⟩) ?_
  refine .o1 (cg rfl rfl rfl (fun _ _ k => k.eq1 1 13 rfl) rfl (fun _ w hn k => ⟨#[.int .u16 ((u.getD i 0 : Nat) : Int)], args1 (k.eq1 2 14 rfl), fun _ => by kernel_rfl, digit_c (u.getD i 0) _ (by omega)⟩) fun _ => rfl) ?_
  refine .o1 (tk rfl rfl fun _ w hn k => ⟨_, v_pickF rfl (k.eq1 1 13 rfl) (k.eq1 3 15 rfl), rfl⟩) ?_
  refine .off ?_
  exact .nil
  intro a476 w477 hn478 ha479
  obtain ⟨hs480, hd481, hN488⟩ := aft ha479 hs64 hd65 hN71 hn478
  have h482 := ha479.fx 3 hv475
  have h483 := ha479.fx 8 h67
  have h484 := ha479.fx 6 h68
  have h485 := ha479.fx 7 h69
  have h486 := ha479.fx 5 h70
  have h487 := ha479.ge 4 16 rfl
  refine st_take rfl rfl (y_assign (v := .bool (dgtN (u.getD i 0))) rfl h487) rfl ?_
  obtain ⟨a489, ha490⟩ : ∃ a', a' = a476.put (some 3) (.bool (dgtN (u.getD i 0))) := ⟨_, rfl⟩
  have hs491 : a489.tmps.size = 38 := by rw [ha490, put_size]; exact hs480
  have hd492 : a489.defers = [] := by rw [ha490, put_defers]; exact hd481
  have h493 := pn ha490 h483 (by decide)
  have h494 := pn ha490 h484 (by decide)
  have h495 := pn ha490 h485 (by decide)
  have h496 := pn ha490 h486 (by decide)
  have h497 := pn ha490 h487 (by decide)
  have h498 : a489.eval (.tmp 3) = .bool (dgtN (u.getD i 0)) := by rw [ha490]; exact put_same _ _ _ (by rw [hs480]; decide)
  show stepsTo _ _ _ _ _ (a476.put (some 3) (.bool (dgtN (u.getD i 0)))) _
  rw [← ha490]
  refine st_nil (hK72 _ _ ?_)
  refine wp_block ?_
  refine wp_seq_k fun K499 hK499 => ?_
  refine wp_seq_k fun K500 hK500 => ?_
  have hb := hu.at16 i
  refine wp_g0 [true, true, true] [] 38
    [ve (.int .u16 ((u.getD i 0 : Nat) : Int)),
     ve (.bool (dgtN (u.getD i 0))),
     ve (.bool (dgtN (u.getD i 0)))] hs491 (.eq (.eq (.eq (.nil)))) ?_ ?_
  refine .o1 (tk rfl rfl fun _ w hn k => ⟨_, v_move rfl (k.fx 5 h496), rfl⟩) ?_
  refine .o1 (ck rfl rfl rfl (fun _ w hn k => ⟨#[.int .u16 ((u.getD i 0 : Nat) : Int)], args1 (k.eq1 0 18 rfl), fun _ => by kernel_rfl, digit_c (u.getD i 0) _ (by omega)⟩) fun _ => rfl) ?_
  refine .o1 (tk rfl rfl fun _ w hn k => ⟨_, v_assign rfl (k.eq1 1 19 rfl), rfl⟩) ?_
  exact .nil
  intro a501 w502 hn503 ha504
  obtain ⟨hs505, hd506, hN513⟩ := aft ha504 hs491 hd492 hN488 hn503
  have h507 := ha504.fx 8 h493
  have h508 := ha504.fx 6 h494
  have h509 := ha504.fx 7 h495
  have h510 := ha504.fx 5 h496
  have h511 := ha504.fx 3 h498
  have h512 := ha504.ge 2 17 rfl
  refine st_nil (hK500 _ _ ?_)
  rcases Bool.eq_false_or_eq_true (dgtN (u.getD i 0)) with ht514 | ht514
  have hv515 := hB h511 ht514
  have hv516 := hB h512 ht514
  refine wp_cond_true hv516 ?_
  refine wp_skip ?_
  refine hK499 _ _ ?_
  refine wp_cond_true hv516 ?_
  refine wp_skip ?_
  refine hK58 _ _ ?_
  refine wp_g0 [true, false] [(1, true)] 38
    [ve (iv ((i + 1 : Nat) : Int)),
     vt] hs505 (.eq (.tt (.nil))) ?_ ?_
  refine .o1 (tk rfl rfl fun _ w hn k => ⟨_, v_bin rfl (k.fx 8 h507) rfl (fun _ => rfl) (n_add (by omega) (IntWalk.i64_in _ (by omega))), rfl⟩) ?_
  refine .off ?_
  exact .nil
  intro a517 w518 hn519 ha520
  obtain ⟨hs521, hd522, hN528⟩ := aft ha520 hs505 hd506 hN513 hn519
  have h523 := ha520.fx 8 h507
  have h524 := ha520.fx 6 h508
  have h525 := ha520.fx 7 h509
  have h526 := ha520.fx 3 hv515
  have h527 := ha520.ge 0 36 rfl
  refine st_take rfl rfl (y_move (v := iv ((i + 1 : Nat) : Int)) rfl h527) rfl ?_
  obtain ⟨a529, ha530⟩ : ∃ a', a' = a517.put (some 8) (iv ((i + 1 : Nat) : Int)) := ⟨_, rfl⟩
  have hs531 : a529.tmps.size = 38 := by rw [ha530, put_size]; exact hs521
  have hd532 : a529.defers = [] := by rw [ha530, put_defers]; exact hd522
  have h533 := pn ha530 h524 (by decide)
  have h534 := pn ha530 h525 (by decide)
  have h535 := pn ha530 h526 (by decide)
  have h536 := pn ha530 h527 (by decide)
  have h537 : a529.eval (.tmp 8) = iv ((i + 1 : Nat) : Int) := by rw [ha530]; exact put_same _ _ _ (by rw [hs521]; decide)
  show stepsTo _ _ _ _ _ (a517.put (some 8) (iv ((i + 1 : Nat) : Int))) _
  rw [← ha530]
  refine st_nil ?_
  refine then_n ?_
  exact ⟨_, ⟨i + 1, rfl, hs531, hd532, hN528, (h535.trans (congrArg Value.bool (by rw [any_up (by omega)]; simp only [ht73, ht514, bsm]))), (h537.trans (congrArg (Value.int .i64) (by omega))), h533, h534, (by omega), (all_up (by omega) hall (by unfold okcN; simp only [ht514, bsm]))⟩, (by omega)⟩
  have hv538 := hB h511 ht514
  have hv539 := hB h512 ht514
  refine wp_cond_false hv539 ?_
  refine wp_seq_k fun K540 hK540 => ?_
  rcases Bool.eq_false_or_eq_true (decide (((u.getD i 0 : Nat) : Int) < 97)) with ht541 | ht541
  have ht541d := of_decide_eq_true ht541
  refine wp_g0 [true, true, true, true, true, true, true] [] 38
    [ve (.int .u16 ((u.getD i 0 : Nat) : Int)),
     ve (.bool false),
     ve (.bool false),
     ve undef,
     ve undef,
     ve (.bool false),
     ve (.bool false)] hs505 (.eq (.eq (.eq (.eq (.eq (.eq (.eq (.nil)))))))) ?_ ?_
  refine .o1 (tk rfl rfl fun _ w hn k => ⟨_, v_move rfl (k.fx 5 h510), rfl⟩) ?_
  refine .o1 (tk rfl rfl fun _ w hn k => ⟨_, v_bin rfl (k.eq1 0 20 rfl) rfl (fun _ => rfl) (r_geqK ht541), rfl⟩) ?_
  refine .o1 (tk rfl rfl fun _ w hn k => ⟨_, v_move rfl (k.eq1 1 21 rfl), rfl⟩) ?_
  refine .o1 (sk rfl rfl rfl (fun _ _ _ k => k.eq1 2 22 rfl) (fun _ => rfl)) ?_
  refine .o1 (sk rfl rfl rfl (fun _ _ _ k => k.eq1 2 22 rfl) (fun _ => rfl)) ?_
  refine .o1 (tk rfl rfl fun _ w hn k => ⟨_, v_pickF rfl (k.eq1 2 22 rfl) rfl, rfl⟩) ?_
  refine .o1 (tk rfl rfl fun _ w hn k => ⟨_, v_assign rfl (k.eq1 5 25 rfl), rfl⟩) ?_
  exact .nil
  intro a542 w543 hn544 ha545
  obtain ⟨hs546, hd547, hN554⟩ := aft ha545 hs505 hd506 hN513 hn544
  have h548 := ha545.fx 8 h507
  have h549 := ha545.fx 6 h508
  have h550 := ha545.fx 7 h509
  have h551 := ha545.fx 5 h510
  have h552 := ha545.fx 3 hv538
  have h553 := ha545.ge 6 17 rfl
  refine st_nil (hK540 _ _ ?_)
  refine wp_cond_false h553 ?_
  rcases Bool.eq_false_or_eq_true (decide (((u.getD i 0 : Nat) : Int) < 65)) with ht555 | ht555
  have ht555d := of_decide_eq_true ht555
  refine wp_g0 [true, true, true, true, true, true, true] [] 38
    [ve (.int .u16 ((u.getD i 0 : Nat) : Int)),
     ve (.bool false),
     ve (.bool false),
     ve undef,
     ve undef,
     ve (.bool false),
     ve (.bool false)] hs546 (.eq (.eq (.eq (.eq (.eq (.eq (.eq (.nil)))))))) ?_ ?_
  refine .o1 (tk rfl rfl fun _ w hn k => ⟨_, v_move rfl (k.fx 5 h551), rfl⟩) ?_
  refine .o1 (tk rfl rfl fun _ w hn k => ⟨_, v_bin rfl (k.eq1 0 26 rfl) rfl (fun _ => rfl) (r_geqK ht555), rfl⟩) ?_
  refine .o1 (tk rfl rfl fun _ w hn k => ⟨_, v_move rfl (k.eq1 1 27 rfl), rfl⟩) ?_
  refine .o1 (sk rfl rfl rfl (fun _ _ _ k => k.eq1 2 28 rfl) (fun _ => rfl)) ?_
  refine .o1 (sk rfl rfl rfl (fun _ _ _ k => k.eq1 2 28 rfl) (fun _ => rfl)) ?_
  refine .o1 (tk rfl rfl fun _ w hn k => ⟨_, v_pickF rfl (k.eq1 2 28 rfl) rfl, rfl⟩) ?_
  refine .o1 (tk rfl rfl fun _ w hn k => ⟨_, v_assign rfl (k.eq1 5 31 rfl), rfl⟩) ?_
  exact .nil
  intro a556 w557 hn558 ha559
  obtain ⟨hs560, hd561, hN568⟩ := aft ha559 hs546 hd547 hN554 hn558
  have h562 := ha559.fx 8 h548
  have h563 := ha559.fx 6 h549
  have h564 := ha559.fx 7 h550
  have h565 := ha559.fx 5 h551
  have h566 := ha559.fx 3 h552
  have h567 := ha559.ge 6 17 rfl
  refine st_nil (hK499 _ _ ?_)
  refine wp_cond_false h567 ?_
  refine wp_seq_k fun K569 hK569 => ?_
  have hb := hu.at16 i
  refine wp_g0 [true, true, true, true] [] 38
    [(fun (v_ : Value) (W : World) => ∃ (A43 : Option Addr) (c44 : Nat), v_ = sv A43 (asc ⟨#[120, 88, 111, 79, 46, 43, 45, 95]⟩) c44 ∧ SOwn W w557.heap.size 66 .u16 A43 (asc ⟨#[120, 88, 111, 79, 46, 43, 45, 95]⟩) c44),
     ve (.int .u16 ((u.getD i 0 : Nat) : Int)),
     ve (.bool ((asc ⟨#[120, 88, 111, 79, 46, 43, 45, 95]⟩).any (fun y : Nat => decide (((u.getD i 0) : Int) = (y : Int))))),
     ve (.bool ((asc ⟨#[120, 88, 111, 79, 46, 43, 45, 95]⟩).any (fun y : Nat => decide (((u.getD i 0) : Int) = (y : Int)))))] hs560 (.cons (fun v W W' hn ⟨A43, c44, he, h0⟩ => ⟨A43, c44, he, h0.new_ hn⟩) (.eq (.eq (.eq (.nil))))) ?_ ?_
  refine .o1 (tkC rfl (noG rfl) rfl fun _ w hn k => (by
        refine ⟨#[.string ⟨#[120, 88, 111, 79, 46, 43, 45, 95]⟩], _, args1 rfl, fun w => by kernel_rfl, ascii_c ⟨#[120, 88, 111, 79, 46, 43, 45, 95]⟩ _ (by first | omega | (show (_ : Nat) ≤ _; decide)), ?_⟩
        rintro e w' ⟨A41, c42, rfl, hmo0, hm⟩
        exact ⟨_, rfl, hm, ⟨A41, c42, rfl, (hmo0.more hn.size)⟩⟩)) ?_
  refine .o1 (tk rfl rfl fun _ w hn k => ⟨_, v_move rfl (k.fx 5 h565), rfl⟩) ?_
  refine .o1 (tkC rfl (noG rfl) rfl fun _ w hn k => (by
        obtain ⟨A45, c46, e47, hx48⟩ : (fun (v_ : Value) (W : World) => ∃ (A43 : Option Addr) (c44 : Nat), v_ = sv A43 (asc ⟨#[120, 88, 111, 79, 46, 43, 45, 95]⟩) c44 ∧ SOwn W w557.heap.size 66 .u16 A43 (asc ⟨#[120, 88, 111, 79, 46, 43, 45, 95]⟩) c44) _ _ := k.dep 0 33 (by kernel_rfl) (by kernel_rfl)
        refine ⟨#[sv A45 (asc ⟨#[120, 88, 111, 79, 46, 43, 45, 95]⟩) c46, .int .u16 ((u.getD i 0 : Nat) : Int)], _, args2 e47 (k.eq1 1 34 rfl), fun w => by kernel_rfl, contains16_c _ (asc ⟨#[120, 88, 111, 79, 46, 43, 45, 95]⟩) _ (u.getD i 0) _ hx48.row (by omega), ?_⟩
        rintro e w' ⟨rfl, hm⟩
        exact ⟨_, rfl, hm, rfl⟩)) ?_
  refine .o1 (tk rfl rfl fun _ w hn k => ⟨_, v_assign rfl (k.eq1 2 35 rfl), rfl⟩) ?_
  exact .nil
  intro a570 w571 hn572 ha573
  obtain ⟨hs574, hd575, hN581⟩ := aft ha573 hs560 hd561 hN568 hn572
  have h576 := ha573.fx 8 h562
  have h577 := ha573.fx 6 h563
  have h578 := ha573.fx 7 h564
  have h579 := ha573.fx 3 h566
  have h580 := ha573.ge 3 32 rfl
  refine st_nil (hK569 _ _ ?_)
  rcases Bool.eq_false_or_eq_true (((asc ⟨#[120, 88, 111, 79, 46, 43, 45, 95]⟩).any (fun y : Nat => decide (((u.getD i 0) : Int) = (y : Int))))) with ht582 | ht582
  have hv583 := hB h580 ht582
  refine wp_cond_true hv583 ?_
  refine wp_skip ?_
  refine hK58 _ _ ?_
  refine wp_g0 [true, false] [(1, true)] 38
    [ve (iv ((i + 1 : Nat) : Int)),
     vt] hs574 (.eq (.tt (.nil))) ?_ ?_
  refine .o1 (tk rfl rfl fun _ w hn k => ⟨_, v_bin rfl (k.fx 8 h576) rfl (fun _ => rfl) (n_add (by omega) (IntWalk.i64_in _ (by omega))), rfl⟩) ?_
  refine .off ?_
  exact .nil
  intro a584 w585 hn586 ha587
  obtain ⟨hs588, hd589, hN595⟩ := aft ha587 hs574 hd575 hN581 hn586
  have h590 := ha587.fx 8 h576
  have h591 := ha587.fx 6 h577
  have h592 := ha587.fx 7 h578
  have h593 := ha587.fx 3 h579
  have h594 := ha587.ge 0 36 rfl
  refine st_take rfl rfl (y_move (v := iv ((i + 1 : Nat) : Int)) rfl h594) rfl ?_
  obtain ⟨a596, ha597⟩ : ∃ a', a' = a584.put (some 8) (iv ((i + 1 : Nat) : Int)) := ⟨_, rfl⟩
  have hs598 : a596.tmps.size = 38 := by rw [ha597, put_size]; exact hs588
  have hd599 : a596.defers = [] := by rw [ha597, put_defers]; exact hd589
  have h600 := pn ha597 h591 (by decide)
  have h601 := pn ha597 h592 (by decide)
  have h602 := pn ha597 h593 (by decide)
  have h603 := pn ha597 h594 (by decide)
  have h604 : a596.eval (.tmp 8) = iv ((i + 1 : Nat) : Int) := by rw [ha597]; exact put_same _ _ _ (by rw [hs588]; decide)
  show stepsTo _ _ _ _ _ (a584.put (some 8) (iv ((i + 1 : Nat) : Int))) _
  rw [← ha597]
  refine st_nil ?_
  refine then_n ?_
  exact ⟨_, ⟨i + 1, rfl, hs598, hd599, hN595, (h602.trans (congrArg Value.bool (by rw [any_up (by omega)]; simp only [ht73, ht514, bsm]))), (h604.trans (congrArg (Value.int .i64) (by omega))), h600, h601, (by omega), (all_up (by omega) hall (by unfold okcN; simp only [ht514, ht541, ht555, ht582, bsm]))⟩, (by omega)⟩
  have hv605 := hB h580 ht582
  refine wp_cond_false hv605 ?_
  refine wp_seq_k fun K606 hK606 => ?_
  refine wp_g0 [true] [] 38
    [ve (.bool false)] hs574 (.eq (.nil)) ?_ ?_
  refine .o1 (tk rfl rfl fun _ w hn k => ⟨_, v_assign rfl rfl, rfl⟩) ?_
  exact .nil
  intro a607 w608 hn609 ha610
  obtain ⟨hs611, hd612, hN614⟩ := aft ha610 hs574 hd575 hN581 hn609
  have h613 := ha610.ge 0 2 rfl
  refine st_nil (hK606 _ _ ?_)
  refine wp_ret (ret_k hd612 (v := .bool false) (res_t rfl h613 _) ?_)
  exact ⟨by rw [show strangeN u = false from by unfold strangeN; rw [all_bad (i := i) (by omega) (by unfold okcN; simp only [ht514, ht541, ht555, ht582, bsm]), Bool.false_and]], hN614⟩
  have ht555d := of_decide_eq_false ht555
  refine wp_g0 [true, true, true, true, true, true, true] [] 38
    [ve (.int .u16 ((u.getD i 0 : Nat) : Int)),
     ve (.bool true),
     ve (.bool true),
     ve (.int .u16 ((u.getD i 0 : Nat) : Int)),
     ve (.bool (decide (((u.getD i 0 : Nat) : Int) ≤ 70))),
     ve (.bool (decide (((u.getD i 0 : Nat) : Int) ≤ 70))),
     ve (.bool (decide (((u.getD i 0 : Nat) : Int) ≤ 70)))] hs546 (.eq (.eq (.eq (.eq (.eq (.eq (.eq (.nil)))))))) ?_ ?_
  refine .o1 (tk rfl rfl fun _ w hn k => ⟨_, v_move rfl (k.fx 5 h551), rfl⟩) ?_
  refine .o1 (tk rfl rfl fun _ w hn k => ⟨_, v_bin rfl (k.eq1 0 26 rfl) rfl (fun _ => rfl) (r_geqK ht555), rfl⟩) ?_
  refine .o1 (tk rfl rfl fun _ w hn k => ⟨_, v_move rfl (k.eq1 1 27 rfl), rfl⟩) ?_
  refine .o1 (tg rfl rfl rfl (fun _ _ k => k.eq1 2 28 rfl) fun _ w hn k => ⟨_, v_move rfl (k.fx 5 h551), rfl⟩) ?_
  refine .o1 (tg rfl rfl rfl (fun _ _ k => k.eq1 2 28 rfl) fun _ w hn k => ⟨_, v_bin rfl (k.eq1 3 29 rfl) rfl (fun _ => rfl) (r_leqK rfl), rfl⟩) ?_
  refine .o1 (tk rfl rfl fun _ w hn k => ⟨_, v_pickT rfl (k.eq1 2 28 rfl) (k.eq1 4 30 rfl), rfl⟩) ?_
  refine .o1 (tk rfl rfl fun _ w hn k => ⟨_, v_assign rfl (k.eq1 5 31 rfl), rfl⟩) ?_
  exact .nil
  intro a615 w616 hn617 ha618
  obtain ⟨hs619, hd620, hN627⟩ := aft ha618 hs546 hd547 hN554 hn617
  have h621 := ha618.fx 8 h548
  have h622 := ha618.fx 6 h549
  have h623 := ha618.fx 7 h550
  have h624 := ha618.fx 5 h551
  have h625 := ha618.fx 3 h552
  have h626 := ha618.ge 6 17 rfl
  refine st_nil (hK499 _ _ ?_)
  rcases Bool.eq_false_or_eq_true (decide (((u.getD i 0 : Nat) : Int) ≤ 70)) with ht628 | ht628
  have ht628d := of_decide_eq_true ht628
  have hv629 := hB h626 ht628
  refine wp_cond_true hv629 ?_
  refine wp_skip ?_
  refine hK58 _ _ ?_
  refine wp_g0 [true, false] [(1, true)] 38
    [ve (iv ((i + 1 : Nat) : Int)),
     vt] hs619 (.eq (.tt (.nil))) ?_ ?_
  refine .o1 (tk rfl rfl fun _ w hn k => ⟨_, v_bin rfl (k.fx 8 h621) rfl (fun _ => rfl) (n_add (by omega) (IntWalk.i64_in _ (by omega))), rfl⟩) ?_
  refine .off ?_
  exact .nil
  intro a630 w631 hn632 ha633
  obtain ⟨hs634, hd635, hN641⟩ := aft ha633 hs619 hd620 hN627 hn632
  have h636 := ha633.fx 8 h621
  have h637 := ha633.fx 6 h622
  have h638 := ha633.fx 7 h623
  have h639 := ha633.fx 3 h625
  have h640 := ha633.ge 0 36 rfl
  refine st_take rfl rfl (y_move (v := iv ((i + 1 : Nat) : Int)) rfl h640) rfl ?_
  obtain ⟨a642, ha643⟩ : ∃ a', a' = a630.put (some 8) (iv ((i + 1 : Nat) : Int)) := ⟨_, rfl⟩
  have hs644 : a642.tmps.size = 38 := by rw [ha643, put_size]; exact hs634
  have hd645 : a642.defers = [] := by rw [ha643, put_defers]; exact hd635
  have h646 := pn ha643 h637 (by decide)
  have h647 := pn ha643 h638 (by decide)
  have h648 := pn ha643 h639 (by decide)
  have h649 := pn ha643 h640 (by decide)
  have h650 : a642.eval (.tmp 8) = iv ((i + 1 : Nat) : Int) := by rw [ha643]; exact put_same _ _ _ (by rw [hs634]; decide)
  show stepsTo _ _ _ _ _ (a630.put (some 8) (iv ((i + 1 : Nat) : Int))) _
  rw [← ha643]
  refine st_nil ?_
  refine then_n ?_
  exact ⟨_, ⟨i + 1, rfl, hs644, hd645, hN641, (h648.trans (congrArg Value.bool (by rw [any_up (by omega)]; simp only [ht73, ht514, bsm]))), (h650.trans (congrArg (Value.int .i64) (by omega))), h646, h647, (by omega), (all_up (by omega) hall (by unfold okcN; simp only [ht514, ht541, ht555, ht628, bsm]))⟩, (by omega)⟩
  have ht628d := of_decide_eq_false ht628
  have hv651 := hB h626 ht628
  refine wp_cond_false hv651 ?_
  refine wp_seq_k fun K652 hK652 => ?_
  have hb := hu.at16 i
  refine wp_g0 [true, true, true, true] [] 38
    [(fun (v_ : Value) (W : World) => ∃ (A51 : Option Addr) (c52 : Nat), v_ = sv A51 (asc ⟨#[120, 88, 111, 79, 46, 43, 45, 95]⟩) c52 ∧ SOwn W w616.heap.size 66 .u16 A51 (asc ⟨#[120, 88, 111, 79, 46, 43, 45, 95]⟩) c52),
     ve (.int .u16 ((u.getD i 0 : Nat) : Int)),
     ve (.bool ((asc ⟨#[120, 88, 111, 79, 46, 43, 45, 95]⟩).any (fun y : Nat => decide (((u.getD i 0) : Int) = (y : Int))))),
     ve (.bool ((asc ⟨#[120, 88, 111, 79, 46, 43, 45, 95]⟩).any (fun y : Nat => decide (((u.getD i 0) : Int) = (y : Int)))))] hs619 (.cons (fun v W W' hn ⟨A51, c52, he, h0⟩ => ⟨A51, c52, he, h0.new_ hn⟩) (.eq (.eq (.eq (.nil))))) ?_ ?_
  refine .o1 (tkC rfl (noG rfl) rfl fun _ w hn k => (by
        refine ⟨#[.string ⟨#[120, 88, 111, 79, 46, 43, 45, 95]⟩], _, args1 rfl, fun w => by kernel_rfl, ascii_c ⟨#[120, 88, 111, 79, 46, 43, 45, 95]⟩ _ (by first | omega | (show (_ : Nat) ≤ _; decide)), ?_⟩
        rintro e w' ⟨A49, c50, rfl, hmo0, hm⟩
        exact ⟨_, rfl, hm, ⟨A49, c50, rfl, (hmo0.more hn.size)⟩⟩)) ?_
  refine .o1 (tk rfl rfl fun _ w hn k => ⟨_, v_move rfl (k.fx 5 h624), rfl⟩) ?_
  refine .o1 (tkC rfl (noG rfl) rfl fun _ w hn k => (by
        obtain ⟨A53, c54, e55, hx56⟩ : (fun (v_ : Value) (W : World) => ∃ (A51 : Option Addr) (c52 : Nat), v_ = sv A51 (asc ⟨#[120, 88, 111, 79, 46, 43, 45, 95]⟩) c52 ∧ SOwn W w616.heap.size 66 .u16 A51 (asc ⟨#[120, 88, 111, 79, 46, 43, 45, 95]⟩) c52) _ _ := k.dep 0 33 (by kernel_rfl) (by kernel_rfl)
        refine ⟨#[sv A53 (asc ⟨#[120, 88, 111, 79, 46, 43, 45, 95]⟩) c54, .int .u16 ((u.getD i 0 : Nat) : Int)], _, args2 e55 (k.eq1 1 34 rfl), fun w => by kernel_rfl, contains16_c _ (asc ⟨#[120, 88, 111, 79, 46, 43, 45, 95]⟩) _ (u.getD i 0) _ hx56.row (by omega), ?_⟩
        rintro e w' ⟨rfl, hm⟩
        exact ⟨_, rfl, hm, rfl⟩)) ?_
  refine .o1 (tk rfl rfl fun _ w hn k => ⟨_, v_assign rfl (k.eq1 2 35 rfl), rfl⟩) ?_
  exact .nil
  intro a653 w654 hn655 ha656
  obtain ⟨hs657, hd658, hN664⟩ := aft ha656 hs619 hd620 hN627 hn655
  have h659 := ha656.fx 8 h621
  have h660 := ha656.fx 6 h622
  have h661 := ha656.fx 7 h623
  have h662 := ha656.fx 3 h625
  have h663 := ha656.ge 3 32 rfl
  refine st_nil (hK652 _ _ ?_)
  rcases Bool.eq_false_or_eq_true (((asc ⟨#[120, 88, 111, 79, 46, 43, 45, 95]⟩).any (fun y : Nat => decide (((u.getD i 0) : Int) = (y : Int))))) with ht665 | ht665
  have hv666 := hB h663 ht665
  refine wp_cond_true hv666 ?_
  refine wp_skip ?_
  refine hK58 _ _ ?_
  refine wp_g0 [true, false] [(1, true)] 38
    [ve (iv ((i + 1 : Nat) : Int)),
     vt] hs657 (.eq (.tt (.nil))) ?_ ?_
  refine .o1 (tk rfl rfl fun _ w hn k => ⟨_, v_bin rfl (k.fx 8 h659) rfl (fun _ => rfl) (n_add (by omega) (IntWalk.i64_in _ (by omega))), rfl⟩) ?_
  refine .off ?_
  exact .nil
  intro a667 w668 hn669 ha670
  obtain ⟨hs671, hd672, hN678⟩ := aft ha670 hs657 hd658 hN664 hn669
  have h673 := ha670.fx 8 h659
  have h674 := ha670.fx 6 h660
  have h675 := ha670.fx 7 h661
  have h676 := ha670.fx 3 h662
  have h677 := ha670.ge 0 36 rfl
  refine st_take rfl rfl (y_move (v := iv ((i + 1 : Nat) : Int)) rfl h677) rfl ?_
  obtain ⟨a679, ha680⟩ : ∃ a', a' = a667.put (some 8) (iv ((i + 1 : Nat) : Int)) := ⟨_, rfl⟩
  have hs681 : a679.tmps.size = 38 := by rw [ha680, put_size]; exact hs671
  have hd682 : a679.defers = [] := by rw [ha680, put_defers]; exact hd672
  have h683 := pn ha680 h674 (by decide)
  have h684 := pn ha680 h675 (by decide)
  have h685 := pn ha680 h676 (by decide)
  have h686 := pn ha680 h677 (by decide)
  have h687 : a679.eval (.tmp 8) = iv ((i + 1 : Nat) : Int) := by rw [ha680]; exact put_same _ _ _ (by rw [hs671]; decide)
  show stepsTo _ _ _ _ _ (a667.put (some 8) (iv ((i + 1 : Nat) : Int))) _
  rw [← ha680]
  refine st_nil ?_
  refine then_n ?_
  exact ⟨_, ⟨i + 1, rfl, hs681, hd682, hN678, (h685.trans (congrArg Value.bool (by rw [any_up (by omega)]; simp only [ht73, ht514, bsm]))), (h687.trans (congrArg (Value.int .i64) (by omega))), h683, h684, (by omega), (all_up (by omega) hall (by unfold okcN; simp only [ht514, ht541, ht555, ht628, ht665, bsm]))⟩, (by omega)⟩
  have hv688 := hB h663 ht665
  refine wp_cond_false hv688 ?_
  refine wp_seq_k fun K689 hK689 => ?_
  refine wp_g0 [true] [] 38
    [ve (.bool false)] hs657 (.eq (.nil)) ?_ ?_
  refine .o1 (tk rfl rfl fun _ w hn k => ⟨_, v_assign rfl rfl, rfl⟩) ?_
  exact .nil
  intro a690 w691 hn692 ha693
  obtain ⟨hs694, hd695, hN697⟩ := aft ha693 hs657 hd658 hN664 hn692
  have h696 := ha693.ge 0 2 rfl
  refine st_nil (hK689 _ _ ?_)
  refine wp_ret (ret_k hd695 (v := .bool false) (res_t rfl h696 _) ?_)
  exact ⟨by rw [show strangeN u = false from by unfold strangeN; rw [all_bad (i := i) (by omega) (by unfold okcN; simp only [ht514, ht541, ht555, ht628, ht665, bsm]), Bool.false_and]], hN697⟩
  have ht541d := of_decide_eq_false ht541
  refine wp_g0 [true, true, true, true, true, true, true] [] 38
    [ve (.int .u16 ((u.getD i 0 : Nat) : Int)),
     ve (.bool true),
     ve (.bool true),
     ve (.int .u16 ((u.getD i 0 : Nat) : Int)),
     ve (.bool (decide (((u.getD i 0 : Nat) : Int) ≤ 102))),
     ve (.bool (decide (((u.getD i 0 : Nat) : Int) ≤ 102))),
     ve (.bool (decide (((u.getD i 0 : Nat) : Int) ≤ 102)))] hs505 (.eq (.eq (.eq (.eq (.eq (.eq (.eq (.nil)))))))) ?_ ?_
  refine .o1 (tk rfl rfl fun _ w hn k => ⟨_, v_move rfl (k.fx 5 h510), rfl⟩) ?_
  refine .o1 (tk rfl rfl fun _ w hn k => ⟨_, v_bin rfl (k.eq1 0 20 rfl) rfl (fun _ => rfl) (r_geqK ht541), rfl⟩) ?_
  refine .o1 (tk rfl rfl fun _ w hn k => ⟨_, v_move rfl (k.eq1 1 21 rfl), rfl⟩) ?_
  refine .o1 (tg rfl rfl rfl (fun _ _ k => k.eq1 2 22 rfl) fun _ w hn k => ⟨_, v_move rfl (k.fx 5 h510), rfl⟩) ?_
  refine .o1 (tg rfl rfl rfl (fun _ _ k => k.eq1 2 22 rfl) fun _ w hn k => ⟨_, v_bin rfl (k.eq1 3 23 rfl) rfl (fun _ => rfl) (r_leqK rfl), rfl⟩) ?_
  refine .o1 (tk rfl rfl fun _ w hn k => ⟨_, v_pickT rfl (k.eq1 2 22 rfl) (k.eq1 4 24 rfl), rfl⟩) ?_
  refine .o1 (tk rfl rfl fun _ w hn k => ⟨_, v_assign rfl (k.eq1 5 25 rfl), rfl⟩) ?_
  exact .nil
  intro a698 w699 hn700 ha701
  obtain ⟨hs702, hd703, hN710⟩ := aft ha701 hs505 hd506 hN513 hn700
  have h704 := ha701.fx 8 h507
  have h705 := ha701.fx 6 h508
  have h706 := ha701.fx 7 h509
  have h707 := ha701.fx 5 h510
  have h708 := ha701.fx 3 hv538
  have h709 := ha701.ge 6 17 rfl
  refine st_nil (hK540 _ _ ?_)
  rcases Bool.eq_false_or_eq_true (decide (((u.getD i 0 : Nat) : Int) ≤ 102)) with ht711 | ht711
  have ht711d := of_decide_eq_true ht711
  have hv712 := hB h709 ht711
  refine wp_cond_true hv712 ?_
  refine wp_skip ?_
  refine hK499 _ _ ?_
  refine wp_cond_true hv712 ?_
  refine wp_skip ?_
  refine hK58 _ _ ?_
  refine wp_g0 [true, false] [(1, true)] 38
    [ve (iv ((i + 1 : Nat) : Int)),
     vt] hs702 (.eq (.tt (.nil))) ?_ ?_
  refine .o1 (tk rfl rfl fun _ w hn k => ⟨_, v_bin rfl (k.fx 8 h704) rfl (fun _ => rfl) (n_add (by omega) (IntWalk.i64_in _ (by omega))), rfl⟩) ?_
  refine .off ?_
  exact .nil
  intro a713 w714 hn715 ha716
  obtain ⟨hs717, hd718, hN724⟩ := aft ha716 hs702 hd703 hN710 hn715
  have h719 := ha716.fx 8 h704
  have h720 := ha716.fx 6 h705
  have h721 := ha716.fx 7 h706
  have h722 := ha716.fx 3 h708
  have h723 := ha716.ge 0 36 rfl
  refine st_take rfl rfl (y_move (v := iv ((i + 1 : Nat) : Int)) rfl h723) rfl ?_
  obtain ⟨a725, ha726⟩ : ∃ a', a' = a713.put (some 8) (iv ((i + 1 : Nat) : Int)) := ⟨_, rfl⟩
  have hs727 : a725.tmps.size = 38 := by rw [ha726, put_size]; exact hs717
  have hd728 : a725.defers = [] := by rw [ha726, put_defers]; exact hd718
  have h729 := pn ha726 h720 (by decide)
  have h730 := pn ha726 h721 (by decide)
  have h731 := pn ha726 h722 (by decide)
  have h732 := pn ha726 h723 (by decide)
  have h733 : a725.eval (.tmp 8) = iv ((i + 1 : Nat) : Int) := by rw [ha726]; exact put_same _ _ _ (by rw [hs717]; decide)
  show stepsTo _ _ _ _ _ (a713.put (some 8) (iv ((i + 1 : Nat) : Int))) _
  rw [← ha726]
  refine st_nil ?_
  refine then_n ?_
  exact ⟨_, ⟨i + 1, rfl, hs727, hd728, hN724, (h731.trans (congrArg Value.bool (by rw [any_up (by omega)]; simp only [ht73, ht514, bsm]))), (h733.trans (congrArg (Value.int .i64) (by omega))), h729, h730, (by omega), (all_up (by omega) hall (by unfold okcN; simp only [ht514, ht541, ht711, bsm]))⟩, (by omega)⟩
  have ht711d := of_decide_eq_false ht711
  have hv734 := hB h709 ht711
  refine wp_cond_false hv734 ?_
  rcases Bool.eq_false_or_eq_true (decide (((u.getD i 0 : Nat) : Int) < 65)) with ht735 | ht735
  have ht735d := of_decide_eq_true ht735
  refine wp_g0 [true, true, true, true, true, true, true] [] 38
    [ve (.int .u16 ((u.getD i 0 : Nat) : Int)),
     ve (.bool false),
     ve (.bool false),
     ve undef,
     ve undef,
     ve (.bool false),
     ve (.bool false)] hs702 (.eq (.eq (.eq (.eq (.eq (.eq (.eq (.nil)))))))) ?_ ?_
  refine .o1 (tk rfl rfl fun _ w hn k => ⟨_, v_move rfl (k.fx 5 h707), rfl⟩) ?_
  refine .o1 (tk rfl rfl fun _ w hn k => ⟨_, v_bin rfl (k.eq1 0 26 rfl) rfl (fun _ => rfl) (r_geqK ht735), rfl⟩) ?_
  refine .o1 (tk rfl rfl fun _ w hn k => ⟨_, v_move rfl (k.eq1 1 27 rfl), rfl⟩) ?_
  refine .o1 (sk rfl rfl rfl (fun _ _ _ k => k.eq1 2 28 rfl) (fun _ => rfl)) ?_
  refine .o1 (sk rfl rfl rfl (fun _ _ _ k => k.eq1 2 28 rfl) (fun _ => rfl)) ?_
  refine .o1 (tk rfl rfl fun _ w hn k => ⟨_, v_pickF rfl (k.eq1 2 28 rfl) rfl, rfl⟩) ?_
  refine .o1 (tk rfl rfl fun _ w hn k => ⟨_, v_assign rfl (k.eq1 5 31 rfl), rfl⟩) ?_
  exact .nil
  intro a736 w737 hn738 ha739
  obtain ⟨hs740, hd741, hN748⟩ := aft ha739 hs702 hd703 hN710 hn738
  have h742 := ha739.fx 8 h704
  have h743 := ha739.fx 6 h705
  have h744 := ha739.fx 7 h706
  have h745 := ha739.fx 5 h707
  have h746 := ha739.fx 3 h708
  have h747 := ha739.ge 6 17 rfl
  refine st_nil (hK499 _ _ ?_)
  refine wp_cond_false h747 ?_
  refine wp_seq_k fun K749 hK749 => ?_
  have hb := hu.at16 i
  refine wp_g0 [true, true, true, true] [] 38
    [(fun (v_ : Value) (W : World) => ∃ (A59 : Option Addr) (c60 : Nat), v_ = sv A59 (asc ⟨#[120, 88, 111, 79, 46, 43, 45, 95]⟩) c60 ∧ SOwn W w737.heap.size 66 .u16 A59 (asc ⟨#[120, 88, 111, 79, 46, 43, 45, 95]⟩) c60),
     ve (.int .u16 ((u.getD i 0 : Nat) : Int)),
     ve (.bool ((asc ⟨#[120, 88, 111, 79, 46, 43, 45, 95]⟩).any (fun y : Nat => decide (((u.getD i 0) : Int) = (y : Int))))),
     ve (.bool ((asc ⟨#[120, 88, 111, 79, 46, 43, 45, 95]⟩).any (fun y : Nat => decide (((u.getD i 0) : Int) = (y : Int)))))] hs740 (.cons (fun v W W' hn ⟨A59, c60, he, h0⟩ => ⟨A59, c60, he, h0.new_ hn⟩) (.eq (.eq (.eq (.nil))))) ?_ ?_
  refine .o1 (tkC rfl (noG rfl) rfl fun _ w hn k => (by
        refine ⟨#[.string ⟨#[120, 88, 111, 79, 46, 43, 45, 95]⟩], _, args1 rfl, fun w => by kernel_rfl, ascii_c ⟨#[120, 88, 111, 79, 46, 43, 45, 95]⟩ _ (by first | omega | (show (_ : Nat) ≤ _; decide)), ?_⟩
        rintro e w' ⟨A57, c58, rfl, hmo0, hm⟩
        exact ⟨_, rfl, hm, ⟨A57, c58, rfl, (hmo0.more hn.size)⟩⟩)) ?_
  refine .o1 (tk rfl rfl fun _ w hn k => ⟨_, v_move rfl (k.fx 5 h745), rfl⟩) ?_
  refine .o1 (tkC rfl (noG rfl) rfl fun _ w hn k => (by
        obtain ⟨A61, c62, e63, hx64⟩ : (fun (v_ : Value) (W : World) => ∃ (A59 : Option Addr) (c60 : Nat), v_ = sv A59 (asc ⟨#[120, 88, 111, 79, 46, 43, 45, 95]⟩) c60 ∧ SOwn W w737.heap.size 66 .u16 A59 (asc ⟨#[120, 88, 111, 79, 46, 43, 45, 95]⟩) c60) _ _ := k.dep 0 33 (by kernel_rfl) (by kernel_rfl)
        refine ⟨#[sv A61 (asc ⟨#[120, 88, 111, 79, 46, 43, 45, 95]⟩) c62, .int .u16 ((u.getD i 0 : Nat) : Int)], _, args2 e63 (k.eq1 1 34 rfl), fun w => by kernel_rfl, contains16_c _ (asc ⟨#[120, 88, 111, 79, 46, 43, 45, 95]⟩) _ (u.getD i 0) _ hx64.row (by omega), ?_⟩
        rintro e w' ⟨rfl, hm⟩
        exact ⟨_, rfl, hm, rfl⟩)) ?_
  refine .o1 (tk rfl rfl fun _ w hn k => ⟨_, v_assign rfl (k.eq1 2 35 rfl), rfl⟩) ?_
  exact .nil
  intro a750 w751 hn752 ha753
  obtain ⟨hs754, hd755, hN761⟩ := aft ha753 hs740 hd741 hN748 hn752
  have h756 := ha753.fx 8 h742
  have h757 := ha753.fx 6 h743
  have h758 := ha753.fx 7 h744
  have h759 := ha753.fx 3 h746
  have h760 := ha753.ge 3 32 rfl
  refine st_nil (hK749 _ _ ?_)
  rcases Bool.eq_false_or_eq_true (((asc ⟨#[120, 88, 111, 79, 46, 43, 45, 95]⟩).any (fun y : Nat => decide (((u.getD i 0) : Int) = (y : Int))))) with ht762 | ht762
  have hv763 := hB h760 ht762
  refine wp_cond_true hv763 ?_
  refine wp_skip ?_
  refine hK58 _ _ ?_
  refine wp_g0 [true, false] [(1, true)] 38
    [ve (iv ((i + 1 : Nat) : Int)),
     vt] hs754 (.eq (.tt (.nil))) ?_ ?_
  refine .o1 (tk rfl rfl fun _ w hn k => ⟨_, v_bin rfl (k.fx 8 h756) rfl (fun _ => rfl) (n_add (by omega) (IntWalk.i64_in _ (by omega))), rfl⟩) ?_
  refine .off ?_
  exact .nil
  intro a764 w765 hn766 ha767
  obtain ⟨hs768, hd769, hN775⟩ := aft ha767 hs754 hd755 hN761 hn766
  have h770 := ha767.fx 8 h756
  have h771 := ha767.fx 6 h757
  have h772 := ha767.fx 7 h758
  have h773 := ha767.fx 3 h759
  have h774 := ha767.ge 0 36 rfl
  refine st_take rfl rfl (y_move (v := iv ((i + 1 : Nat) : Int)) rfl h774) rfl ?_
  obtain ⟨a776, ha777⟩ : ∃ a', a' = a764.put (some 8) (iv ((i + 1 : Nat) : Int)) := ⟨_, rfl⟩
  have hs778 : a776.tmps.size = 38 := by rw [ha777, put_size]; exact hs768
  have hd779 : a776.defers = [] := by rw [ha777, put_defers]; exact hd769
  have h780 := pn ha777 h771 (by decide)
  have h781 := pn ha777 h772 (by decide)
  have h782 := pn ha777 h773 (by decide)
  have h783 := pn ha777 h774 (by decide)
  have h784 : a776.eval (.tmp 8) = iv ((i + 1 : Nat) : Int) := by rw [ha777]; exact put_same _ _ _ (by rw [hs768]; decide)
  show stepsTo _ _ _ _ _ (a764.put (some 8) (iv ((i + 1 : Nat) : Int))) _
  rw [← ha777]
  refine st_nil ?_
  refine then_n ?_
  exact ⟨_, ⟨i + 1, rfl, hs778, hd779, hN775, (h782.trans (congrArg Value.bool (by rw [any_up (by omega)]; simp only [ht73, ht514, bsm]))), (h784.trans (congrArg (Value.int .i64) (by omega))), h780, h781, (by omega), (all_up (by omega) hall (by unfold okcN; simp only [ht514, ht541, ht711, ht735, ht762, bsm]))⟩, (by omega)⟩
  have hv785 := hB h760 ht762
  refine wp_cond_false hv785 ?_
  refine wp_seq_k fun K786 hK786 => ?_
  refine wp_g0 [true] [] 38
    [ve (.bool false)] hs754 (.eq (.nil)) ?_ ?_
  refine .o1 (tk rfl rfl fun _ w hn k => ⟨_, v_assign rfl rfl, rfl⟩) ?_
  exact .nil
  intro a787 w788 hn789 ha790
  obtain ⟨hs791, hd792, hN794⟩ := aft ha790 hs754 hd755 hN761 hn789
  have h793 := ha790.ge 0 2 rfl
  refine st_nil (hK786 _ _ ?_)
  refine wp_ret (ret_k hd792 (v := .bool false) (res_t rfl h793 _) ?_)
  exact ⟨by rw [show strangeN u = false from by unfold strangeN; rw [all_bad (i := i) (by omega) (by unfold okcN; simp only [ht514, ht541, ht711, ht735, ht762, bsm]), Bool.false_and]], hN794⟩
  have ht735d := of_decide_eq_false ht735
  refine wp_g0 [true, true, true, true, true, true, true] [] 38
    [ve (.int .u16 ((u.getD i 0 : Nat) : Int)),
     ve (.bool true),
     ve (.bool true),
     ve (.int .u16 ((u.getD i 0 : Nat) : Int)),
     ve (.bool (decide (((u.getD i 0 : Nat) : Int) ≤ 70))),
     ve (.bool (decide (((u.getD i 0 : Nat) : Int) ≤ 70))),
     ve (.bool (decide (((u.getD i 0 : Nat) : Int) ≤ 70)))] hs702 (.eq (.eq (.eq (.eq (.eq (.eq (.eq (.nil)))))))) ?_ ?_
  refine .o1 (tk rfl rfl fun _ w hn k => ⟨_, v_move rfl (k.fx 5 h707), rfl⟩) ?_
  refine .o1 (tk rfl rfl fun _ w hn k => ⟨_, v_bin rfl (k.eq1 0 26 rfl) rfl (fun _ => rfl) (r_geqK ht735), rfl⟩) ?_
  refine .o1 (tk rfl rfl fun _ w hn k => ⟨_, v_move rfl (k.eq1 1 27 rfl), rfl⟩) ?_
  refine .o1 (tg rfl rfl rfl (fun _ _ k => k.eq1 2 28 rfl) fun _ w hn k => ⟨_, v_move rfl (k.fx 5 h707), rfl⟩) ?_
  refine .o1 (tg rfl rfl rfl (fun _ _ k => k.eq1 2 28 rfl) fun _ w hn k => ⟨_, v_bin rfl (k.eq1 3 29 rfl) rfl (fun _ => rfl) (r_leqK rfl), rfl⟩) ?_
  refine .o1 (tk rfl rfl fun _ w hn k => ⟨_, v_pickT rfl (k.eq1 2 28 rfl) (k.eq1 4 30 rfl), rfl⟩) ?_
  refine .o1 (tk rfl rfl fun _ w hn k => ⟨_, v_assign rfl (k.eq1 5 31 rfl), rfl⟩) ?_
  exact .nil
  intro a795 w796 hn797 ha798
  obtain ⟨hs799, hd800, hN807⟩ := aft ha798 hs702 hd703 hN710 hn797
  have h801 := ha798.fx 8 h704
  have h802 := ha798.fx 6 h705
  have h803 := ha798.fx 7 h706
  have h804 := ha798.fx 5 h707
  have h805 := ha798.fx 3 h708
  have h806 := ha798.ge 6 17 rfl
  refine st_nil (hK499 _ _ ?_)
  rcases Bool.eq_false_or_eq_true (decide (((u.getD i 0 : Nat) : Int) ≤ 70)) with ht808 | ht808
  have ht808d := of_decide_eq_true ht808
  have hv809 := hB h806 ht808
  refine wp_cond_true hv809 ?_
  refine wp_skip ?_
  refine hK58 _ _ ?_
  refine wp_g0 [true, false] [(1, true)] 38
    [ve (iv ((i + 1 : Nat) : Int)),
     vt] hs799 (.eq (.tt (.nil))) ?_ ?_
  refine .o1 (tk rfl rfl fun _ w hn k => ⟨_, v_bin rfl (k.fx 8 h801) rfl (fun _ => rfl) (n_add (by omega) (IntWalk.i64_in _ (by omega))), rfl⟩) ?_
  refine .off ?_
  exact .nil
  intro a810 w811 hn812 ha813
  obtain ⟨hs814, hd815, hN821⟩ := aft ha813 hs799 hd800 hN807 hn812
  have h816 := ha813.fx 8 h801
  have h817 := ha813.fx 6 h802
  have h818 := ha813.fx 7 h803
  have h819 := ha813.fx 3 h805
  have h820 := ha813.ge 0 36 rfl
  refine st_take rfl rfl (y_move (v := iv ((i + 1 : Nat) : Int)) rfl h820) rfl ?_
  obtain ⟨a822, ha823⟩ : ∃ a', a' = a810.put (some 8) (iv ((i + 1 : Nat) : Int)) := ⟨_, rfl⟩
  have hs824 : a822.tmps.size = 38 := by rw [ha823, put_size]; exact hs814
  have hd825 : a822.defers = [] := by rw [ha823, put_defers]; exact hd815
  have h826 := pn ha823 h817 (by decide)
  have h827 := pn ha823 h818 (by decide)
  have h828 := pn ha823 h819 (by decide)
  have h829 := pn ha823 h820 (by decide)
  have h830 : a822.eval (.tmp 8) = iv ((i + 1 : Nat) : Int) := by rw [ha823]; exact put_same _ _ _ (by rw [hs814]; decide)
  show stepsTo _ _ _ _ _ (a810.put (some 8) (iv ((i + 1 : Nat) : Int))) _
  rw [← ha823]
  refine st_nil ?_
  refine then_n ?_
  exact ⟨_, ⟨i + 1, rfl, hs824, hd825, hN821, (h828.trans (congrArg Value.bool (by rw [any_up (by omega)]; simp only [ht73, ht514, bsm]))), (h830.trans (congrArg (Value.int .i64) (by omega))), h826, h827, (by omega), (all_up (by omega) hall (by unfold okcN; simp only [ht514, ht541, ht711, ht735, ht808, bsm]))⟩, (by omega)⟩
  have ht808d := of_decide_eq_false ht808
  have hv831 := hB h806 ht808
  refine wp_cond_false hv831 ?_
  refine wp_seq_k fun K832 hK832 => ?_
  have hb := hu.at16 i
  refine wp_g0 [true, true, true, true] [] 38
    [(fun (v_ : Value) (W : World) => ∃ (A67 : Option Addr) (c68 : Nat), v_ = sv A67 (asc ⟨#[120, 88, 111, 79, 46, 43, 45, 95]⟩) c68 ∧ SOwn W w796.heap.size 66 .u16 A67 (asc ⟨#[120, 88, 111, 79, 46, 43, 45, 95]⟩) c68),
     ve (.int .u16 ((u.getD i 0 : Nat) : Int)),
     ve (.bool ((asc ⟨#[120, 88, 111, 79, 46, 43, 45, 95]⟩).any (fun y : Nat => decide (((u.getD i 0) : Int) = (y : Int))))),
     ve (.bool ((asc ⟨#[120, 88, 111, 79, 46, 43, 45, 95]⟩).any (fun y : Nat => decide (((u.getD i 0) : Int) = (y : Int)))))] hs799 (.cons (fun v W W' hn ⟨A67, c68, he, h0⟩ => ⟨A67, c68, he, h0.new_ hn⟩) (.eq (.eq (.eq (.nil))))) ?_ ?_
  refine .o1 (tkC rfl (noG rfl) rfl fun _ w hn k => (by
        refine ⟨#[.string ⟨#[120, 88, 111, 79, 46, 43, 45, 95]⟩], _, args1 rfl, fun w => by kernel_rfl, ascii_c ⟨#[120, 88, 111, 79, 46, 43, 45, 95]⟩ _ (by first | omega | (show (_ : Nat) ≤ _; decide)), ?_⟩
        rintro e w' ⟨A65, c66, rfl, hmo0, hm⟩
        exact ⟨_, rfl, hm, ⟨A65, c66, rfl, (hmo0.more hn.size)⟩⟩)) ?_
  refine .o1 (tk rfl rfl fun _ w hn k => ⟨_, v_move rfl (k.fx 5 h804), rfl⟩) ?_
  refine .o1 (tkC rfl (noG rfl) rfl fun _ w hn k => (by
        obtain ⟨A69, c70, e71, hx72⟩ : (fun (v_ : Value) (W : World) => ∃ (A67 : Option Addr) (c68 : Nat), v_ = sv A67 (asc ⟨#[120, 88, 111, 79, 46, 43, 45, 95]⟩) c68 ∧ SOwn W w796.heap.size 66 .u16 A67 (asc ⟨#[120, 88, 111, 79, 46, 43, 45, 95]⟩) c68) _ _ := k.dep 0 33 (by kernel_rfl) (by kernel_rfl)
        refine ⟨#[sv A69 (asc ⟨#[120, 88, 111, 79, 46, 43, 45, 95]⟩) c70, .int .u16 ((u.getD i 0 : Nat) : Int)], _, args2 e71 (k.eq1 1 34 rfl), fun w => by kernel_rfl, contains16_c _ (asc ⟨#[120, 88, 111, 79, 46, 43, 45, 95]⟩) _ (u.getD i 0) _ hx72.row (by omega), ?_⟩
        rintro e w' ⟨rfl, hm⟩
        exact ⟨_, rfl, hm, rfl⟩)) ?_
  refine .o1 (tk rfl rfl fun _ w hn k => ⟨_, v_assign rfl (k.eq1 2 35 rfl), rfl⟩) ?_
  exact .nil
  intro a833 w834 hn835 ha836
  obtain ⟨hs837, hd838, hN844⟩ := aft ha836 hs799 hd800 hN807 hn835
  have h839 := ha836.fx 8 h801
  have h840 := ha836.fx 6 h802
  have h841 := ha836.fx 7 h803
  have h842 := ha836.fx 3 h805
  have h843 := ha836.ge 3 32 rfl
  refine st_nil (hK832 _ _ ?_)
  rcases Bool.eq_false_or_eq_true (((asc ⟨#[120, 88, 111, 79, 46, 43, 45, 95]⟩).any (fun y : Nat => decide (((u.getD i 0) : Int) = (y : Int))))) with ht845 | ht845
  have hv846 := hB h843 ht845
  refine wp_cond_true hv846 ?_
  refine wp_skip ?_
  refine hK58 _ _ ?_
  refine wp_g0 [true, false] [(1, true)] 38
    [ve (iv ((i + 1 : Nat) : Int)),
     vt] hs837 (.eq (.tt (.nil))) ?_ ?_
  refine .o1 (tk rfl rfl fun _ w hn k => ⟨_, v_bin rfl (k.fx 8 h839) rfl (fun _ => rfl) (n_add (by omega) (IntWalk.i64_in _ (by omega))), rfl⟩) ?_
  refine .off ?_
  exact .nil
  intro a847 w848 hn849 ha850
  obtain ⟨hs851, hd852, hN858⟩ := aft ha850 hs837 hd838 hN844 hn849
  have h853 := ha850.fx 8 h839
  have h854 := ha850.fx 6 h840
  have h855 := ha850.fx 7 h841
  have h856 := ha850.fx 3 h842
  have h857 := ha850.ge 0 36 rfl
  refine st_take rfl rfl (y_move (v := iv ((i + 1 : Nat) : Int)) rfl h857) rfl ?_
  obtain ⟨a859, ha860⟩ : ∃ a', a' = a847.put (some 8) (iv ((i + 1 : Nat) : Int)) := ⟨_, rfl⟩
  have hs861 : a859.tmps.size = 38 := by rw [ha860, put_size]; exact hs851
  have hd862 : a859.defers = [] := by rw [ha860, put_defers]; exact hd852
  have h863 := pn ha860 h854 (by decide)
  have h864 := pn ha860 h855 (by decide)
  have h865 := pn ha860 h856 (by decide)
  have h866 := pn ha860 h857 (by decide)
  have h867 : a859.eval (.tmp 8) = iv ((i + 1 : Nat) : Int) := by rw [ha860]; exact put_same _ _ _ (by rw [hs851]; decide)
  show stepsTo _ _ _ _ _ (a847.put (some 8) (iv ((i + 1 : Nat) : Int))) _
  rw [← ha860]
  refine st_nil ?_
  refine then_n ?_
  exact ⟨_, ⟨i + 1, rfl, hs861, hd862, hN858, (h865.trans (congrArg Value.bool (by rw [any_up (by omega)]; simp only [ht73, ht514, bsm]))), (h867.trans (congrArg (Value.int .i64) (by omega))), h863, h864, (by omega), (all_up (by omega) hall (by unfold okcN; simp only [ht514, ht541, ht711, ht735, ht808, ht845, bsm]))⟩, (by omega)⟩
  have hv868 := hB h843 ht845
  refine wp_cond_false hv868 ?_
  refine wp_seq_k fun K869 hK869 => ?_
  refine wp_g0 [true] [] 38
    [ve (.bool false)] hs837 (.eq (.nil)) ?_ ?_
  refine .o1 (tk rfl rfl fun _ w hn k => ⟨_, v_assign rfl rfl, rfl⟩) ?_
  exact .nil
  intro a870 w871 hn872 ha873
  obtain ⟨hs874, hd875, hN877⟩ := aft ha873 hs837 hd838 hN844 hn872
  have h876 := ha873.ge 0 2 rfl
  refine st_nil (hK869 _ _ ?_)
  refine wp_ret (ret_k hd875 (v := .bool false) (res_t rfl h876 _) ?_)
  exact ⟨by rw [show strangeN u = false from by unfold strangeN; rw [all_bad (i := i) (by omega) (by unfold okcN; simp only [ht514, ht541, ht711, ht735, ht808, ht845, bsm]), Bool.false_and]], hN877⟩
  have ht56d := of_decide_eq_false ht56
  have hv878 := hB h53 ht56
  refine wp_cond_false hv878 ?_
  refine wp_exit ?_
  refine hK20 _ _ ?_
  refine wp_seq_k fun K879 hK879 => ?_
  refine wp_g0 [true, true] [] 38
    [ve (.bool ((u.take i).any dgtN)),
     ve (.bool ((u.take i).any dgtN))] hs47 (.eq (.eq (.nil))) ?_ ?_
  refine .o1 (tk rfl rfl fun _ w hn k => ⟨_, v_move rfl (k.fx 3 h49), rfl⟩) ?_
  refine .o1 (tk rfl rfl fun _ w hn k => ⟨_, v_assign rfl (k.eq1 0 37 rfl), rfl⟩) ?_
  exact .nil
  intro a880 w881 hn882 ha883
  obtain ⟨hs884, hd885, hN887⟩ := aft ha883 hs47 hd48 hN54 hn882
  have h886 := ha883.ge 1 2 rfl
  refine st_nil (hK879 _ _ ?_)
  refine wp_ret (ret_k hd885 (v := .bool ((u.take i).any dgtN)) (res_t rfl h886 _) ?_)
  exact ⟨by rw [show strangeN u = ((u.take i).any dgtN) from by unfold strangeN; rw [List.take_of_length_le (by omega)] at hall; rw [hall, Bool.true_and, List.take_of_length_le (by omega)]], hN887⟩
set_option maxHeartbeats 4000000 in
set_option maxRecDepth 100000 in
theorem value_c (Au : Option Addr) (u : List Nat) (cu : Nat) (w : World) (hru : SRow w .u16 Au u cu) (hu : U16s u) (hd : ∀ j, j < u.length → 48 ≤ u.getD j 0 ∧ u.getD j 0 ≤ 57) : Calls Try.prog 70 #[sv Au u cu] w (IsRet (.tuple #[iv ((valR u 0).1), .bool ((valR u 0).2)]) w) := by
  refine enter_abs Try.func70 rfl fun a0 hs0 hd0 hp => ?_
  have hs0 : a0.tmps.size = 25 := hs0
  have hN0 : New w w := Upd.refl _ _
  have hp0 : a0.eval (.tmp 0) = sv Au u cu := hp 0 _ rfl
  have hmx := hru.max
  refine wp_seq_k fun K1 hK1 => ?_
  refine wp_g0 [true, true] [] 25
    [ve (iv 0),
     ve (.bool false)] hs0 (.eq (.eq (.nil))) ?_ ?_
  refine .o1 (tk rfl rfl fun _ w hn k => ⟨_, v_assign rfl rfl, rfl⟩) ?_
  refine .o1 (tk rfl rfl fun _ w hn k => ⟨_, v_assign rfl rfl, rfl⟩) ?_
  exact .nil
  intro a2 w3 hn4 ha5
  obtain ⟨hs6, hd7, hN9⟩ := aft ha5 hs0 hd0 hN0 hn4
  have h8 := ha5.fx 0 hp0
  refine st_nil (hK1 _ _ ?_)
  refine wp_seq_k fun K10 hK10 => ?_
  refine wp_g0 [true] [] 25
    [ve (iv 0)] hs6 (.eq (.nil)) ?_ ?_
  refine .o1 (tk rfl rfl fun _ w hn k => ⟨_, v_assign rfl rfl, rfl⟩) ?_
  exact .nil
  intro a11 w12 hn13 ha14
  obtain ⟨hs15, hd16, hN19⟩ := aft ha14 hs6 hd7 hN9 hn13
  have h17 := ha14.fx 0 h8
  have h18 := ha14.ge 0 4 rfl
  refine st_nil (hK10 _ _ ?_)
  refine wp_seq_k fun K20 hK20 => ?_
  refine wp_seq_k fun K21 hK21 => ?_
  refine wp_g0 [true, true, true] [] 25
    [ve (sv Au u cu),
     ve (iv (u.length : Int)),
     ve (iv 0)] hs15 (.eq (.eq (.eq (.nil)))) ?_ ?_
  refine .o1 (tk rfl rfl fun _ w hn k => ⟨_, v_move rfl (k.fx 0 h17), rfl⟩) ?_
  refine .o1 (tk rfl rfl fun _ w hn k => ⟨_, v_lenR rfl elU (k.eq1 0 7 rfl), rfl⟩) ?_
  refine .o1 (tk rfl rfl fun _ w hn k => ⟨_, v_move rfl rfl, rfl⟩) ?_
  exact .nil
  intro a22 w23 hn24 ha25
  obtain ⟨hs26, hd27, hN32⟩ := aft ha25 hs15 hd16 hN19 hn24
  have h28 := ha25.fx 4 h18
  have h29 := ha25.ge 0 7 rfl
  have h30 := ha25.ge 1 8 rfl
  have h31 := ha25.ge 2 9 rfl
  refine st_nil (hK21 _ _ ?_)
  refine wp_block ?_
  refine wp_loopX (fun (mm : Nat) (aa : Act) (ww : World) => ∃ (i : Nat) (n : Int), mm = u.length - i ∧ aa.tmps.size = 25 ∧ aa.defers = [] ∧ New w ww ∧ aa.eval (.tmp 4) = iv n ∧ aa.eval (.tmp 9) = iv (i : Int) ∧ aa.eval (.tmp 7) = sv Au u cu ∧ aa.eval (.tmp 8) = iv (u.length : Int) ∧ (i ≤ u.length) ∧ (0 ≤ n ∧ n ≤ 9007199254741000) ∧ (valR u 0 = valR (u.drop i) n)) (fun mm => mm) ⟨_, ⟨0, 0, rfl, hs26, hd27, hN32, h28, h31, h29, h30, (Nat.zero_le _), (by omega), (by rw [List.drop_zero])⟩⟩ ?_
  rintro mm a33 w34 ⟨i, n, hmm, hs35, hd36, hN37, h38, h39, h40, h41, hi, hn, hv⟩
  refine wp_seq_k fun K42 hK42 => ?_
  refine wp_g0 [true] [] 25
    [ve (.bool (decide ((i : Int) < (u.length : Int))))] hs35 (.eq (.nil)) ?_ ?_
  refine .o1 (tk rfl rfl fun _ w hn k => ⟨_, v_bin rfl (k.fx 9 h39) (k.fx 8 h41) (fun _ => rfl) (r_lssK rfl), rfl⟩) ?_
  exact .nil
  intro a43 w44 hn45 ha46
  obtain ⟨hs47, hd48, hN54⟩ := aft ha46 hs35 hd36 hN37 hn45
  have h49 := ha46.fx 4 h38
  have h50 := ha46.fx 9 h39
  have h51 := ha46.fx 7 h40
  have h52 := ha46.fx 8 h41
  have h53 := ha46.ge 0 10 rfl
  refine st_nil (hK42 _ _ ?_)
  refine wp_seq_k fun K55 hK55 => ?_
  rcases Bool.eq_false_or_eq_true (decide ((i : Int) < (u.length : Int))) with ht56 | ht56
  have ht56d := of_decide_eq_true ht56
  have hv57 := hB h53 ht56
  refine wp_cond_true hv57 ?_
  refine wp_skip ?_
  refine hK55 _ _ ?_
  refine wp_seq_k fun K58 hK58 => ?_
  refine wp_block ?_
  refine wp_seq_k fun K59 hK59 => ?_
  have hb := hu.at16 i
  refine wp_g0 [true, true, true] [] 25
    [(fun (v_ : Value) (W : World) => ∃ (b3 : Nat) (o4 : Nat), v_ = .pointer (some ⟨b3, o4, none⟩) ∧ SElem W b3 o4 (.int .u16 ((u.getD i 0 : Nat) : Int))),
     ve (.int .u16 ((u.getD i 0 : Nat) : Int)),
     ve (.int .u16 ((u.getD i 0 : Nat) : Int))] hs47 (.cons (fun v W W' hn ⟨b3, o4, he, h0⟩ => ⟨b3, o4, he, h0.new_ hn⟩) (.eq (.eq (.nil)))) ?_ ?_
  refine .o1 (tk rfl rfl fun _ w hn k => (by
        exact x_eaddr (k := .u16) rfl elU (k.fx 7 h51) (k.fx 9 h50) (hru.new_ (hN54.transNew hn)) (by omega) fun b1 o2 hme => ⟨b1, o2, rfl, hme⟩)) ?_
  refine .o1 (tk rfl rfl fun _ w hn k => (by
        obtain ⟨b5, o6, e7, hx8⟩ : (fun (v_ : Value) (W : World) => ∃ (b3 : Nat) (o4 : Nat), v_ = .pointer (some ⟨b3, o4, none⟩) ∧ SElem W b3 o4 (.int .u16 ((u.getD i 0 : Nat) : Int))) _ _ := k.dep 0 11 (by kernel_rfl) (by kernel_rfl)
        exact ⟨_, v_load rfl e7 (l_one Try.isAgg66 hx8.1), rfl⟩)) ?_
  refine .o1 (tk rfl rfl fun _ w hn k => ⟨_, v_assign rfl (k.eq1 1 12 rfl), rfl⟩) ?_
  exact .nil
  intro a60 w61 hn62 ha63
  obtain ⟨hs64, hd65, hN71⟩ := aft ha63 hs47 hd48 hN54 hn62
  have h66 := ha63.fx 4 h49
  have h67 := ha63.fx 9 h50
  have h68 := ha63.fx 7 h51
  have h69 := ha63.fx 8 h52
  have h70 := ha63.ge 2 6 rfl
  refine st_nil (hK59 _ _ ?_)
  refine wp_seq_k fun K72 hK72 => ?_
  refine wp_seq_k fun K73 hK73 => ?_
  rcases Bool.eq_false_or_eq_true (decide (n ≤ 900719925474099)) with ht74 | ht74
  have ht74d := of_decide_eq_true ht74
  refine wp_g0 [true, true] [] 25
    [ve (iv n),
     ve (.bool false)] hs64 (.eq (.eq (.nil))) ?_ ?_
  refine .o1 (tk rfl rfl fun _ w hn k => ⟨_, v_move rfl (k.fx 4 h66), rfl⟩) ?_
  refine .o1 (tk rfl rfl fun _ w hn k => ⟨_, v_bin rfl (k.eq1 0 13 rfl) rfl (fun _ => rfl) (r_gtrK ht74), rfl⟩) ?_
  exact .nil
  intro a75 w76 hn77 ha78
  obtain ⟨hs79, hd80, hN87⟩ := aft ha78 hs64 hd65 hN71 hn77
  have h81 := ha78.fx 4 h66
  have h82 := ha78.fx 9 h67
  have h83 := ha78.fx 7 h68
  have h84 := ha78.fx 8 h69
  have h85 := ha78.fx 6 h70
  have h86 := ha78.ge 1 14 rfl
  refine st_nil (hK73 _ _ ?_)
  refine wp_cond_false h86 ?_
  refine wp_skip ?_
  refine hK72 _ _ ?_
  have hdg := hd i (by omega)
  have hb := hu.at16 i
  refine wp_g0 [true, true, true, true, true, true, false] [(6, true)] 25
    [ve (iv n),
     ve (iv (10 * n)),
     ve (.int .u16 ((u.getD i 0 : Nat) : Int)),
     ve (.int .u16 (((u.getD i 0) - 48 : Nat) : Int)),
     ve (iv (((u.getD i 0) - 48 : Nat) : Int)),
     ve (iv ((10 * n) + (((u.getD i 0) - 48 : Nat) : Int))),
     vt] hs79 (.eq (.eq (.eq (.eq (.eq (.eq (.tt (.nil)))))))) ?_ ?_
  refine .o1 (tk rfl rfl fun _ w hn k => ⟨_, v_move rfl (k.fx 4 h81), rfl⟩) ?_
  refine .o1 (tk rfl rfl fun _ w hn k => ⟨_, v_bin rfl rfl (k.eq1 0 15 rfl) (fun _ => rfl) (n_mul rfl (IntWalk.i64_in _ (by omega))), rfl⟩) ?_
  refine .o1 (tk rfl rfl fun _ w hn k => ⟨_, v_move rfl (k.fx 6 h85), rfl⟩) ?_
  refine .o1 (tk rfl rfl fun _ w hn k => ⟨_, v_bin rfl (k.eq1 2 17 rfl) rfl (fun _ => rfl) (n_sub (by omega) (IntWalk.u16_in _ (by omega))), rfl⟩) ?_
  refine .o1 (tk rfl rfl fun _ w hn k => ⟨_, v_conv rfl (k.eq1 3 18 rfl) (n_conv (by kernel_rfl) (by kernel_rfl) (by kernel_rfl) (IntWalk.i64_in _ (by omega))), rfl⟩) ?_
  refine .o1 (tk rfl rfl fun _ w hn k => ⟨_, v_bin rfl (k.eq1 1 16 rfl) (k.eq1 4 19 rfl) (fun _ => rfl) (r_add rfl (by omega)), rfl⟩) ?_
  refine .off ?_
  exact .nil
  intro a88 w89 hn90 ha91
  obtain ⟨hs92, hd93, hN99⟩ := aft ha91 hs79 hd80 hN87 hn90
  have h94 := ha91.fx 4 h81
  have h95 := ha91.fx 9 h82
  have h96 := ha91.fx 7 h83
  have h97 := ha91.fx 8 h84
  have h98 := ha91.ge 5 20 rfl
  refine st_take rfl rfl (y_assign (v := iv ((10 * n) + (((u.getD i 0) - 48 : Nat) : Int))) rfl h98) rfl ?_
  obtain ⟨a100, ha101⟩ : ∃ a', a' = a88.put (some 4) (iv ((10 * n) + (((u.getD i 0) - 48 : Nat) : Int))) := ⟨_, rfl⟩
  have hs102 : a100.tmps.size = 25 := by rw [ha101, put_size]; exact hs92
  have hd103 : a100.defers = [] := by rw [ha101, put_defers]; exact hd93
  have h104 := pn ha101 h95 (by decide)
  have h105 := pn ha101 h96 (by decide)
  have h106 := pn ha101 h97 (by decide)
  have h107 := pn ha101 h98 (by decide)
  have h108 : a100.eval (.tmp 4) = iv ((10 * n) + (((u.getD i 0) - 48 : Nat) : Int)) := by rw [ha101]; exact put_same _ _ _ (by rw [hs92]; decide)
  show stepsTo _ _ _ _ _ (a88.put (some 4) (iv ((10 * n) + (((u.getD i 0) - 48 : Nat) : Int)))) _
  rw [← ha101]
  refine st_nil (hK58 _ _ ?_)
  refine wp_g0 [true, false] [(1, true)] 25
    [ve (iv ((i + 1 : Nat) : Int)),
     vt] hs102 (.eq (.tt (.nil))) ?_ ?_
  refine .o1 (tk rfl rfl fun _ w hn k => ⟨_, v_bin rfl (k.fx 9 h104) rfl (fun _ => rfl) (n_add (by omega) (IntWalk.i64_in _ (by omega))), rfl⟩) ?_
  refine .off ?_
  exact .nil
  intro a109 w110 hn111 ha112
  obtain ⟨hs113, hd114, hN120⟩ := aft ha112 hs102 hd103 hN99 hn111
  have h115 := ha112.fx 9 h104
  have h116 := ha112.fx 7 h105
  have h117 := ha112.fx 8 h106
  have h118 := ha112.fx 4 h108
  have h119 := ha112.ge 0 21 rfl
  refine st_take rfl rfl (y_move (v := iv ((i + 1 : Nat) : Int)) rfl h119) rfl ?_
  obtain ⟨a121, ha122⟩ : ∃ a', a' = a109.put (some 9) (iv ((i + 1 : Nat) : Int)) := ⟨_, rfl⟩
  have hs123 : a121.tmps.size = 25 := by rw [ha122, put_size]; exact hs113
  have hd124 : a121.defers = [] := by rw [ha122, put_defers]; exact hd114
  have h125 := pn ha122 h116 (by decide)
  have h126 := pn ha122 h117 (by decide)
  have h127 := pn ha122 h118 (by decide)
  have h128 := pn ha122 h119 (by decide)
  have h129 : a121.eval (.tmp 9) = iv ((i + 1 : Nat) : Int) := by rw [ha122]; exact put_same _ _ _ (by rw [hs113]; decide)
  show stepsTo _ _ _ _ _ (a109.put (some 9) (iv ((i + 1 : Nat) : Int))) _
  rw [← ha122]
  refine st_nil ?_
  refine then_n ?_
  exact ⟨_, ⟨i + 1, 10 * n + (((u.getD i 0 : Nat) : Int) - 48), rfl, hs123, hd124, hN120, (h127.trans (congrArg (Value.int .i64) (by omega))), (h129.trans (congrArg (Value.int .i64) (by omega))), h125, h126, (by omega), (by omega), (hv.trans (by rw [drop_at (by omega)]; simp only [valR, ht74]; rfl))⟩, (by omega)⟩
  have ht74d := of_decide_eq_false ht74
  refine wp_g0 [true, true] [] 25
    [ve (iv n),
     ve (.bool true)] hs64 (.eq (.eq (.nil))) ?_ ?_
  refine .o1 (tk rfl rfl fun _ w hn k => ⟨_, v_move rfl (k.fx 4 h66), rfl⟩) ?_
  refine .o1 (tk rfl rfl fun _ w hn k => ⟨_, v_bin rfl (k.eq1 0 13 rfl) rfl (fun _ => rfl) (r_gtrK ht74), rfl⟩) ?_
  exact .nil
  intro a130 w131 hn132 ha133
  obtain ⟨hs134, hd135, hN142⟩ := aft ha133 hs64 hd65 hN71 hn132
  have h136 := ha133.fx 4 h66
  have h137 := ha133.fx 9 h67
  have h138 := ha133.fx 7 h68
  have h139 := ha133.fx 8 h69
  have h140 := ha133.fx 6 h70
  have h141 := ha133.ge 1 14 rfl
  refine st_nil (hK73 _ _ ?_)
  refine wp_cond_true h141 ?_
  refine wp_seq_k fun K143 hK143 => ?_
  refine wp_g0 [true, true] [] 25
    [ve (iv 0),
     ve (.bool false)] hs134 (.eq (.eq (.nil))) ?_ ?_
  refine .o1 (tk rfl rfl fun _ w hn k => ⟨_, v_assign rfl rfl, rfl⟩) ?_
  refine .o1 (tk rfl rfl fun _ w hn k => ⟨_, v_assign rfl rfl, rfl⟩) ?_
  exact .nil
  intro a144 w145 hn146 ha147
  obtain ⟨hs148, hd149, hN152⟩ := aft ha147 hs134 hd135 hN142 hn146
  have h150 := ha147.ge 0 2 rfl
  have h151 := ha147.ge 1 3 rfl
  refine st_nil (hK143 _ _ ?_)
  refine wp_ret (ret_k hd149 (v := .tuple #[iv 0, .bool false]) (res_tt rfl h150 h151 _) ?_)
  exact ⟨by rw [show valR u 0 = (0, false) from hv.trans (by rw [drop_at (by omega)]; simp only [valR, ht74]; rfl)], hN152⟩
  have ht56d := of_decide_eq_false ht56
  have hv153 := hB h53 ht56
  refine wp_cond_false hv153 ?_
  refine wp_exit ?_
  refine hK20 _ _ ?_
  refine wp_seq_k fun K154 hK154 => ?_
  refine wp_g0 [true, true, true, true, true] [] 25
    [ve (iv n),
     ve (iv n),
     ve (.bool (decide (n ≤ 9007199254740991))),
     ve (iv n),
     ve (.bool (decide (n ≤ 9007199254740991)))] hs47 (.eq (.eq (.eq (.eq (.eq (.nil)))))) ?_ ?_
  refine .o1 (tk rfl rfl fun _ w hn k => ⟨_, v_move rfl (k.fx 4 h49), rfl⟩) ?_
  refine .o1 (tk rfl rfl fun _ w hn k => ⟨_, v_move rfl (k.fx 4 h49), rfl⟩) ?_
  refine .o1 (tk rfl rfl fun _ w hn k => ⟨_, v_bin rfl (k.eq1 1 23 rfl) rfl (fun _ => rfl) (r_leqK rfl), rfl⟩) ?_
  refine .o1 (tk rfl rfl fun _ w hn k => ⟨_, v_assign rfl (k.eq1 0 22 rfl), rfl⟩) ?_
  refine .o1 (tk rfl rfl fun _ w hn k => ⟨_, v_assign rfl (k.eq1 2 24 rfl), rfl⟩) ?_
  exact .nil
  intro a155 w156 hn157 ha158
  obtain ⟨hs159, hd160, hN163⟩ := aft ha158 hs47 hd48 hN54 hn157
  have h161 := ha158.ge 3 2 rfl
  have h162 := ha158.ge 4 3 rfl
  refine st_nil (hK154 _ _ ?_)
  refine wp_ret (ret_k hd160 (v := .tuple #[iv n, .bool (decide (n ≤ 9007199254740991))]) (res_tt rfl h161 h162 _) ?_)
  exact ⟨by rw [show valR u 0 = (n, decide (n ≤ 9007199254740991)) from hv.trans (by rw [List.drop_eq_nil_of_le (by omega)]; rfl)], hN163⟩
theorem tk_min (u : List Nat) : u.take ((min (u.length : Int) 4096).toNat) = u.take 4096 := by
  rw [show (min (u.length : Int) 4096).toNat = min u.length 4096 by omega]
  rcases Nat.le_total u.length 4096 with h | h
  · rw [Nat.min_eq_left h, List.take_length, List.take_of_length_le h]
  · rw [Nat.min_eq_right h]
set_option maxHeartbeats 16000000 in
set_option maxRecDepth 100000 in
theorem tnumber_c (Au : Option Addr) (u : List Nat) (cu : Nat) (w : World) (hru : SRow w .u16 Au u cu) (hu : U16s u) : Calls Try.prog 45 #[sv Au u cu] w (IsRet (.tuple #[nv ((numT u).1), .bool ((numT u).2)]) w) := by
  refine enter_abs Try.func45 rfl fun a0 hs0 hd0 hp => ?_
  have hs0 : a0.tmps.size = 91 := hs0
  have hN0 : New w w := Upd.refl _ _
  have hp0 : a0.eval (.tmp 0) = sv Au u cu := hp 0 _ rfl
  have hmx := hru.max
  refine wp_seq_k fun K1 hK1 => ?_
  refine wp_g [true, true] [] [] 91
    [IsNew w 23 [iv 0, iv 0],
     ve (.bool false)]
    [0] (newsCons (fun v w h => IsNew.old h) newsNil) hs0 (.nw (.eq (.nil))) ?_ (fun i h => by cases h) ?_
  refine .o2 (step_allocN (cs := [iv 0, iv 0]) (t := 23) rfl (noG rfl) (fun _ w hn k => rfl) (fun q _ hq hb => ⟨q, rfl, hq, hb⟩)) ?_
  refine .o1 (tk rfl rfl fun _ w hn k => ⟨_, v_assign rfl rfl, rfl⟩) ?_
  exact .nil
  intro a2 w3 hn4 ha5
  obtain ⟨hs6, hd7, hN14⟩ := aft ha5 hs0 hd0 hN0 hn4
  have h8 := ha5.fx 0 hp0
  obtain ⟨q10, h9, hq11, hb12⟩ : IsNew _ _ _ _ _ := ha5.got 0 2 rfl (by kernel_rfl)
  have hq13 := Nat.le_trans hN0.size hq11
  refine st_nil (hK1 _ _ ?_)
  refine wp_seq_j (fun (aa : Act) (ww : World) => ∃ (A3 : Option Addr), ∃ (c3 : Nat), aa.tmps.size = 91 ∧ aa.defers = [] ∧ New w ww ∧ aa.eval (.tmp 0) = sv A3 (u.dropWhile blankN) c3 ∧ aa.eval (.tmp 2) = pv q10 ∧ Blk ww q10 23 [iv 0, iv 0] ∧ SRow ww .u16 A3 (u.dropWhile blankN) c3) ?_ ?_
  rintro a15 w16 ⟨A3, c3, hs17, hd18, hN19, h20, h21, hb22, hr23⟩
  refine wp_seq_j (fun (aa : Act) (ww : World) => ∃ (A4 : Option Addr), ∃ (c4 : Nat), aa.tmps.size = 91 ∧ aa.defers = [] ∧ New w ww ∧ aa.eval (.tmp 0) = sv A4 (trimN u) c4 ∧ aa.eval (.tmp 2) = pv q10 ∧ Blk ww q10 23 [iv 0, iv 0] ∧ SRow ww .u16 A4 (trimN u) c4) ?_ ?_
  rintro a24 w25 ⟨A4, c4, hs26, hd27, hN28, h29, h30, hb31, hr32⟩
  have hut := hu.trim
  refine wp_seq_k fun K33 hK33 => ?_
  refine wp_g [true, true, false] [] [(2, false)] 91
    [ve (nv (Nm.mk 2 0)),
     IsNew w25 23 [iv 0, iv 0],
     vt]
    [1] (newsCons (fun v w h => IsNew.old h) newsNil) hs26 (.eq (.nw (.tt (.nil)))) ?_ (fun i h => by cases h) ?_
  refine .o1 (tk rfl rfl fun _ w hn k => ⟨_, v_build (ps := [(0, iv 2)]) rfl (parts1 rfl) (by kernel_rfl), rfl⟩) ?_
  refine .o2 (step_allocN (cs := [iv 0, iv 0]) (t := 23) rfl (noG rfl) (fun _ w hn k => rfl) (fun q _ hq hb => ⟨q, rfl, hq, hb⟩)) ?_
  refine .off ?_
  exact .nil
  intro a34 w35 hn36 ha37
  obtain ⟨hs38, hd39, hN51⟩ := aft ha37 hs26 hd27 hN28 hn36
  have h40 := ha37.fx 0 h29
  have h41 := ha37.fx 2 h30
  have h42 := ha37.ge 0 39 rfl
  obtain ⟨q44, h43, hq45, hb46⟩ : IsNew _ _ _ _ _ := ha37.got 1 4 rfl (by kernel_rfl)
  have hb47 := hb31.new_ hn36
  have hne48 : q10 ≠ q44 := by have h1 := hb31.lt; have h2 := hq45; omega
  have hq49 := Nat.le_trans hN28.size hq45
  have hr50 := hr32.new_ hn36
  obtain ⟨w52, -, hst53, hb54, hu55, hf56⟩ := s_two (v0 := iv 2) (v1 := iv 0) Try.sizeOf23 rfl rfl rfl hb46
  refine st_act rfl rfl fun K57 hL58 => a_store' rfl h43 h42 hst53 (hL58 _ _ trivial ?_)
  have hr59 := hr50.far hb46 hu55 (by first | rfl | decide | simp [notK])
  have hb60 := hf56 _ _ _ (hne48) hb47
  have hN61 := hN51.trans hu55 (fun k hk hkb => by subst hkb; omega)
  refine st_nil (hK33 _ _ ?_)
  refine wp_seq_k fun K62 hK62 => ?_
  refine wp_seq_k fun K63 hK63 => ?_
  refine wp_g0 [true, true, true] [] 91
    [ve (sv A4 (trimN u) c4),
     ve (iv ((trimN u).length : Int)),
     ve (.bool (decide (((trimN u).length : Int) = 0)))] hs38 (.eq (.eq (.eq (.nil)))) ?_ ?_
  refine .o1 (tk rfl rfl fun _ w hn k => ⟨_, v_move rfl (k.fx 0 h40), rfl⟩) ?_
  refine .o1 (tk rfl rfl fun _ w hn k => ⟨_, v_lenR rfl elU (k.eq1 0 40 rfl), rfl⟩) ?_
  refine .o1 (tk rfl rfl fun _ w hn k => ⟨_, v_bin rfl (k.eq1 1 41 rfl) rfl (fun _ => rfl) (r_eql rfl), rfl⟩) ?_
  exact .nil
  intro a64 w65 hn66 ha67
  obtain ⟨hs68, hd69, hN77⟩ := aft ha67 hs38 hd39 hN61 hn66
  have h70 := ha67.fx 0 h40
  have h71 := ha67.fx 2 h41
  have h72 := ha67.fx 4 h43
  have h73 := ha67.ge 2 42 rfl
  have hb74 := hb60.new_ hn66
  have hb75 := hb54.new_ hn66
  have hr76 := hr59.new_ hn66
  refine st_nil (hK63 _ _ ?_)
  rcases Bool.eq_false_or_eq_true (decide (((trimN u).length : Int) = 0)) with ht78 | ht78
  have ht78d := of_decide_eq_true ht78
  have hv79 := hB h73 ht78
  refine wp_cond_true hv79 ?_
  refine wp_seq_k fun K80 hK80 => ?_
  refine wp_g0 [true, false, false] [(1, false), (2, true)] 91
    [ve (nv (Nm.mk 0 0)),
     vt,
     vt] hs68 (.eq (.tt (.tt (.nil)))) ?_ ?_
  refine .o1 (tk rfl rfl fun _ w hn k => ⟨_, v_build (ps := []) rfl parts0 (by kernel_rfl), rfl⟩) ?_
  refine .off ?_
  refine .off ?_
  exact .nil
  intro a81 w82 hn83 ha84
  obtain ⟨hs85, hd86, hN90⟩ := aft ha84 hs68 hd69 hN77 hn83
  have h87 := ha84.fx 2 h71
  have h88 := ha84.ge 0 43 rfl
  have hb89 := hb74.new_ hn83
  obtain ⟨w91, -, hst92, hb93, hu94, hf95⟩ := s_two (v0 := iv 0) (v1 := iv 0) Try.sizeOf23 rfl rfl rfl hb89
  refine st_act rfl rfl fun K96 hL97 => a_store' rfl h87 h88 hst92 (hL97 _ _ trivial ?_)
  have hN98 := hN90.trans hu94 (fun k hk hkb => by subst hkb; omega)
  refine st_take rfl rfl (y_assign (v := .bool true) rfl rfl) rfl ?_
  obtain ⟨a99, ha100⟩ : ∃ a', a' = a81.put (some 3) (.bool true) := ⟨_, rfl⟩
  have hs101 : a99.tmps.size = 91 := by rw [ha100, put_size]; exact hs85
  have hd102 : a99.defers = [] := by rw [ha100, put_defers]; exact hd86
  have h103 := pn ha100 h87 (by decide)
  have h104 := pn ha100 h88 (by decide)
  have h105 : a99.eval (.tmp 3) = .bool true := by rw [ha100]; exact put_same _ _ _ (by rw [hs85]; decide)
  show stepsTo _ _ _ _ _ (a81.put (some 3) (.bool true)) _
  rw [← ha100]
  refine st_nil (hK80 _ _ ?_)
  refine wp_ret (ret_k hd102 (v := .tuple #[nv (Nm.mk 0 0), .bool true]) (res_ct rfl h103 h105 (l_two Try.isAgg23 Try.sizeOf23 hb93)) ?_)
  refine ⟨?_, hN98⟩
  show Ending.returned (.tuple #[nv (Nm.mk 0 0), .bool true]) = Ending.returned (.tuple #[nv ((numT u).1), .bool ((numT u).2)])
  first | rfl | (simp only [numT, bodyT, ht78, bsm] <;> rfl) | (simp [numT, bodyT, ht78]; done) | (exfalso; omega)
  have ht78d := of_decide_eq_false ht78
  have hv106 := hB h73 ht78
  refine wp_cond_false hv106 ?_
  refine wp_skip ?_
  refine hK62 _ _ ?_
  refine wp_seq_k fun K107 hK107 => ?_
  refine wp_g0 [true, true, true, true, true, true, true] [] 91
    [ve (sv A4 (trimN u) c4),
     ve (sv A4 (trimN u) c4),
     (fun (v_ : Value) (W : World) => ∃ (b3 : Nat) (o4 : Nat), v_ = .pointer (some ⟨b3, o4, none⟩) ∧ SElem W b3 o4 (.int .u16 (((trimN u).getD 0 0 : Nat) : Int))),
     ve (.int .u16 (((trimN u).getD 0 0 : Nat) : Int)),
     ve (.bool (decide ((((trimN u).getD 0 0 : Nat) : Int) = 45))),
     ve (sv A4 (trimN u) c4),
     ve (.bool (decide ((((trimN u).getD 0 0 : Nat) : Int) = 45)))] hs68 (.eq (.eq (.cons (fun v W W' hn ⟨b3, o4, he, h0⟩ => ⟨b3, o4, he, h0.new_ hn⟩) (.eq (.eq (.eq (.eq (.nil)))))))) ?_ ?_
  refine .o1 (tk rfl rfl fun _ w hn k => ⟨_, v_move rfl (k.fx 0 h70), rfl⟩) ?_
  refine .o1 (tk rfl rfl fun _ w hn k => ⟨_, v_move rfl (k.fx 0 h70), rfl⟩) ?_
  refine .o1 (tk rfl rfl fun _ w hn k => (by
        exact x_eaddr (k := .u16) rfl elU (k.eq1 1 45 rfl) rfl (hr76.new_ hn) (by omega) fun b1 o2 hme => ⟨b1, o2, rfl, hme⟩)) ?_
  refine .o1 (tk rfl rfl fun _ w hn k => (by
        obtain ⟨b5, o6, e7, hx8⟩ : (fun (v_ : Value) (W : World) => ∃ (b3 : Nat) (o4 : Nat), v_ = .pointer (some ⟨b3, o4, none⟩) ∧ SElem W b3 o4 (.int .u16 (((trimN u).getD 0 0 : Nat) : Int))) _ _ := k.dep 2 46 (by kernel_rfl) (by kernel_rfl)
        exact ⟨_, v_load rfl e7 (l_one Try.isAgg66 hx8.1), rfl⟩)) ?_
  refine .o1 (tk rfl rfl fun _ w hn k => ⟨_, v_bin rfl (k.eq1 3 47 rfl) rfl (fun _ => rfl) (r_eql rfl), rfl⟩) ?_
  refine .o1 (tk rfl rfl fun _ w hn k => ⟨_, v_assign rfl (k.eq1 0 44 rfl), rfl⟩) ?_
  refine .o1 (tk rfl rfl fun _ w hn k => ⟨_, v_assign rfl (k.eq1 4 48 rfl), rfl⟩) ?_
  exact .nil
  intro a108 w109 hn110 ha111
  obtain ⟨hs112, hd113, hN122⟩ := aft ha111 hs68 hd69 hN77 hn110
  have h114 := ha111.fx 0 h70
  have h115 := ha111.fx 2 h71
  have h116 := ha111.fx 4 h72
  have h117 := ha111.ge 5 5 rfl
  have h118 := ha111.ge 6 6 rfl
  have hb119 := hb74.new_ hn110
  have hb120 := hb75.new_ hn110
  have hr121 := hr76.new_ hn110
  refine st_nil (hK107 _ _ ?_)
  refine wp_seq_k fun K123 hK123 => ?_
  refine wp_seq_k fun K124 hK124 => ?_
  rcases Bool.eq_false_or_eq_true (decide ((((trimN u).getD 0 0 : Nat) : Int) = 45)) with ht125 | ht125
  have ht125d := of_decide_eq_true ht125
  have hv126 := hB h118 ht125
  refine wp_g0 [true, true, true, true, true, true, true] [] 91
    [ve (.bool true),
     ve (.bool true),
     ve undef,
     ve undef,
     ve undef,
     ve undef,
     ve (.bool true)] hs112 (.eq (.eq (.eq (.eq (.eq (.eq (.eq (.nil)))))))) ?_ ?_
  refine .o1 (tk rfl rfl fun _ w hn k => ⟨_, v_move rfl (k.fx 6 hv126), rfl⟩) ?_
  refine .o1 (tk rfl rfl fun _ w hn k => ⟨_, v_move rfl (k.eq1 0 49 rfl), rfl⟩) ?_
  refine .o1 (sk rfl rfl rfl (fun _ _ _ k => k.eq1 1 50 rfl) (fun _ => rfl)) ?_
  refine .o1 (sk rfl rfl rfl (fun _ _ _ k => k.eq1 1 50 rfl) (fun _ => rfl)) ?_
  refine .o1 (sk rfl rfl rfl (fun _ _ _ k => k.eq1 1 50 rfl) (fun _ => rfl)) ?_
  refine .o1 (sk rfl rfl rfl (fun _ _ _ k => k.eq1 1 50 rfl) (fun _ => rfl)) ?_
  refine .o1 (tk rfl rfl fun _ w hn k => ⟨_, v_pickT rfl (k.eq1 1 50 rfl) rfl, rfl⟩) ?_
  exact .nil
  intro a127 w128 hn129 ha130
  obtain ⟨hs131, hd132, hN142⟩ := aft ha130 hs112 hd113 hN122 hn129
  have h133 := ha130.fx 0 h114
  have h134 := ha130.fx 2 h115
  have h135 := ha130.fx 4 h116
  have h136 := ha130.fx 5 h117
  have h137 := ha130.fx 6 hv126
  have h138 := ha130.ge 6 55 rfl
  have hb139 := hb119.new_ hn129
  have hb140 := hb120.new_ hn129
  have hr141 := hr121.new_ hn129
  refine st_nil (hK124 _ _ ?_)
  refine wp_cond_true h138 ?_
  refine wp_g0 [true, true, true] [] 91
    [ve (sv A4 (trimN u) c4),
     (fun (v_ : Value) (W : World) => ∃ (A11 : Option Addr) (c12 : Nat), v_ = sv A11 ((trimN u).drop 1) c12 ∧ SRow W .u16 A11 ((trimN u).drop 1) c12),
     (fun (v_ : Value) (W : World) => ∃ (A17 : Option Addr) (c18 : Nat), v_ = sv A17 ((trimN u).drop 1) c18 ∧ SRow W .u16 A17 ((trimN u).drop 1) c18)] hs131 (.eq (.cons (fun v W W' hn ⟨A11, c12, he, h0⟩ => ⟨A11, c12, he, h0.new_ hn⟩) (.cons (fun v W W' hn ⟨A17, c18, he, h0⟩ => ⟨A17, c18, he, h0.new_ hn⟩) (.nil)))) ?_ ?_
  refine .o1 (tk rfl rfl fun _ w hn k => ⟨_, v_move rfl (k.fx 0 h133), rfl⟩) ?_
  refine .o1 (tk rfl rfl fun _ w hn k => (by
        exact x_cutL (k := .u16) rfl elU (k.eq1 0 56 rfl) rfl (hr141.new_ hn) (by omega) fun A9 c10 hmr => ⟨A9, c10, rfl, hmr⟩)) ?_
  refine .o1 (tk rfl rfl fun _ w hn k => (by
        obtain ⟨A13, c14, e15, hx16⟩ : (fun (v_ : Value) (W : World) => ∃ (A11 : Option Addr) (c12 : Nat), v_ = sv A11 ((trimN u).drop 1) c12 ∧ SRow W .u16 A11 ((trimN u).drop 1) c12) _ _ := k.dep 1 57 (by kernel_rfl) (by kernel_rfl)
        exact ⟨_, v_assign rfl e15, ⟨A13, c14, rfl, hx16⟩⟩)) ?_
  exact .nil
  intro a143 w144 hn145 ha146
  obtain ⟨hs147, hd148, hN160⟩ := aft ha146 hs131 hd132 hN142 hn145
  have h149 := ha146.fx 0 h133
  have h150 := ha146.fx 2 h134
  have h151 := ha146.fx 4 h135
  have h152 := ha146.fx 6 h137
  obtain ⟨A154, cc155, h153, hr156⟩ : (fun (v_ : Value) (W : World) => ∃ (A17 : Option Addr) (c18 : Nat), v_ = sv A17 ((trimN u).drop 1) c18 ∧ SRow W .u16 A17 ((trimN u).drop 1) c18) _ _ := ha146.got 2 5 rfl (by kernel_rfl)
  have h153 : a143.eval (.tmp 5) = sv A154 ((trimN u).drop 1) cc155 := h153
  have hb157 := hb139.new_ hn145
  have hb158 := hb140.new_ hn145
  have hr159 := hr141.new_ hn145
  refine st_nil (hK123 _ _ ?_)
  refine wp_seq_k fun K161 hK161 => ?_
  refine wp_g [true, true, true, true, true, false, false] [3] [(5, false), (6, true)] 91
    [ve (nv (Nm.mk 2 0)),
     ve (sv A4 (trimN u) c4),
     ve (.bool (strangeN (trimN u))),
     ve (.bool (!(strangeN (trimN u)))),
     IsNew w144 23 [iv 0, iv 0],
     vt,
     vt]
    [4] (newsCons (fun v w h => IsNew.old h) newsNil) hs147 (.eq (.eq (.eq (.eq (.nw (.tt (.tt (.nil)))))))) ?_ ?_ ?_
  refine .o1 (tk rfl rfl fun _ w hn k => ⟨_, v_load rfl (k.fx 4 h151) (l_two Try.isAgg23 Try.sizeOf23 (hb158.new_ hn)), rfl⟩) ?_
  refine .o1 (tk rfl rfl fun _ w hn k => ⟨_, v_move rfl (k.fx 0 h149), rfl⟩) ?_
  refine .o1 (ck rfl rfl rfl (fun _ w hn k => ⟨#[sv A4 (trimN u) c4], args1 (k.eq1 1 59 rfl), fun _ => by kernel_rfl, strange_c _ (trimN u) _ _ (hr159.new_ hn) hut⟩) fun _ => rfl) ?_
  refine .o3 ?_
  refine .o2 (step_allocN (cs := [iv 0, iv 0]) (t := 23) rfl (noG rfl) (fun _ w hn k => rfl) (fun q _ hq hb => ⟨q, rfl, hq, hb⟩)) ?_
  refine .off ?_
  refine .off ?_
  exact .nil
  intro i h
  simp only [List.contains_eq_mem, List.mem_cons, List.not_mem_nil, or_false, decide_eq_true_eq] at h
  subst h
  exact eager_take rfl rfl fun _ w hn k => ⟨.bool (!(strangeN (trimN u))), fun w => v_not rfl (k.eq1 2 60 rfl), rfl⟩
  intro a162 w163 hn164 ha165
  obtain ⟨hs166, hd167, hN184⟩ := aft ha165 hs147 hd148 hN160 hn164
  have h168 := ha165.fx 2 h150
  have h169 := ha165.fx 4 h151
  have h170 := ha165.fx 6 h152
  have h171 := ha165.fx 5 h153
  have h172 := ha165.ge 0 58 rfl
  have h173 := ha165.ge 3 61 rfl
  obtain ⟨q175, h174, hq176, hb177⟩ : IsNew _ _ _ _ _ := ha165.got 4 7 rfl (by kernel_rfl)
  have hb178 := hb157.new_ hn164
  have hb179 := hb158.new_ hn164
  have hne180 : q10 ≠ q175 := by have h1 := hb157.lt; have h2 := hq176; omega
  have hne181 : q44 ≠ q175 := by have h1 := hb158.lt; have h2 := hq176; omega
  have hq182 := Nat.le_trans hN160.size hq176
  have hr183 := hr156.new_ hn164
  obtain ⟨w185, -, hst186, hb187, hu188, hf189⟩ := s_two (v0 := iv 2) (v1 := iv 0) Try.sizeOf23 rfl rfl rfl hb177
  refine st_act rfl rfl fun K190 hL191 => a_store' rfl h174 h172 hst186 (hL191 _ _ trivial ?_)
  have hr192 := hr183.far hb177 hu188 (by first | rfl | decide | simp [notK])
  have hb193 := hf189 _ _ _ (hne180) hb178
  have hb194 := hf189 _ _ _ (hne181) hb179
  have hN195 := hN184.trans hu188 (fun k hk hkb => by subst hkb; omega)
  refine st_take rfl rfl (y_assign (v := .bool (!(strangeN (trimN u)))) rfl h173) rfl ?_
  obtain ⟨a196, ha197⟩ : ∃ a', a' = a162.put (some 8) (.bool (!(strangeN (trimN u)))) := ⟨_, rfl⟩
  have hs198 : a196.tmps.size = 91 := by rw [ha197, put_size]; exact hs166
  have hd199 : a196.defers = [] := by rw [ha197, put_defers]; exact hd167
  have h200 := pn ha197 h168 (by decide)
  have h201 := pn ha197 h169 (by decide)
  have h202 := pn ha197 h170 (by decide)
  have h203 := pn ha197 h171 (by decide)
  have h204 := pn ha197 h172 (by decide)
  have h205 := pn ha197 h173 (by decide)
  have h206 := pn ha197 h174 (by decide)
  have h207 : a196.eval (.tmp 8) = .bool (!(strangeN (trimN u))) := by rw [ha197]; exact put_same _ _ _ (by rw [hs166]; decide)
  show stepsTo _ _ _ _ _ (a162.put (some 8) (.bool (!(strangeN (trimN u))))) _
  rw [← ha197]
  refine st_nil (hK161 _ _ ?_)
  refine wp_seq_k fun K208 hK208 => ?_
  refine wp_block ?_
  refine wp_seq_k fun K209 hK209 => ?_
  refine wp_g0 [true, true, true, true] [] 91
    [ve (sv A154 ((trimN u).drop 1) cc155),
     (fun (v_ : Value) (W : World) => ∃ (A21 : Option Addr) (c22 : Nat), v_ = sv A21 (asc ⟨#[73, 110, 102, 105, 110, 105, 116, 121]⟩) c22 ∧ SOwn W w185.heap.size 66 .u16 A21 (asc ⟨#[73, 110, 102, 105, 110, 105, 116, 121]⟩) c22),
     ve (.bool (decide (((trimN u).drop 1) = (asc ⟨#[73, 110, 102, 105, 110, 105, 116, 121]⟩)))),
     ve (.bool (decide (((trimN u).drop 1) = (asc ⟨#[73, 110, 102, 105, 110, 105, 116, 121]⟩))))] hs198 (.eq (.cons (fun v W W' hn ⟨A21, c22, he, h0⟩ => ⟨A21, c22, he, h0.new_ hn⟩) (.eq (.eq (.nil))))) ?_ ?_
  refine .o1 (tk rfl rfl fun _ w hn k => ⟨_, v_move rfl (k.fx 5 h203), rfl⟩) ?_
  refine .o1 (tkC rfl (noG rfl) rfl fun _ w hn k => (by
        refine ⟨#[.string ⟨#[73, 110, 102, 105, 110, 105, 116, 121]⟩], _, args1 rfl, fun w => by kernel_rfl, ascii_c ⟨#[73, 110, 102, 105, 110, 105, 116, 121]⟩ _ (by first | omega | (show (_ : Nat) ≤ _; decide)), ?_⟩
        rintro e w' ⟨A19, c20, rfl, hmo0, hm⟩
        exact ⟨_, rfl, hm, ⟨A19, c20, rfl, (hmo0.more hn.size)⟩⟩)) ?_
  refine .o1 (tkC rfl (noG rfl) rfl fun _ w hn k => (by
        obtain ⟨A23, c24, e25, hx26⟩ : (fun (v_ : Value) (W : World) => ∃ (A21 : Option Addr) (c22 : Nat), v_ = sv A21 (asc ⟨#[73, 110, 102, 105, 110, 105, 116, 121]⟩) c22 ∧ SOwn W w185.heap.size 66 .u16 A21 (asc ⟨#[73, 110, 102, 105, 110, 105, 116, 121]⟩) c22) _ _ := k.dep 1 64 (by kernel_rfl) (by kernel_rfl)
        refine ⟨#[sv A154 ((trimN u).drop 1) cc155, sv A23 (asc ⟨#[73, 110, 102, 105, 110, 105, 116, 121]⟩) c24], _, args2 (k.eq1 0 63 rfl) e25, fun w => by kernel_rfl, tsame_c _ ((trimN u).drop 1) _ _ (asc ⟨#[73, 110, 102, 105, 110, 105, 116, 121]⟩) _ _ (hr192.new_ hn) hx26.row, ?_⟩
        rintro e w' ⟨rfl, hm⟩
        exact ⟨_, rfl, hm, rfl⟩)) ?_
  refine .o1 (tk rfl rfl fun _ w hn k => ⟨_, v_assign rfl (k.eq1 2 65 rfl), rfl⟩) ?_
  exact .nil
  intro a210 w211 hn212 ha213
  obtain ⟨hs214, hd215, hN227⟩ := aft ha213 hs198 hd199 hN195 hn212
  have h216 := ha213.fx 2 h200
  have h217 := ha213.fx 4 h201
  have h218 := ha213.fx 6 h202
  have h219 := ha213.fx 5 h203
  have h220 := ha213.fx 7 h206
  have h221 := ha213.fx 8 h207
  have h222 := ha213.ge 3 62 rfl
  have hb223 := hb193.new_ hn212
  have hb224 := hb194.new_ hn212
  have hb225 := hb187.new_ hn212
  have hr226 := hr192.new_ hn212
  refine st_nil (hK209 _ _ ?_)
  rcases Bool.eq_false_or_eq_true (decide (((trimN u).drop 1) = (asc ⟨#[73, 110, 102, 105, 110, 105, 116, 121]⟩))) with ht228 | ht228
  have ht228d := of_decide_eq_true ht228
  have hv229 := hB h222 ht228
  refine wp_cond_true hv229 ?_
  refine wp_g0 [true, false] [(1, false)] 91
    [ve (nv (Nm.mk 3 0)),
     vt] hs214 (.eq (.tt (.nil))) ?_ ?_
  refine .o1 (tk rfl rfl fun _ w hn k => ⟨_, v_build (ps := [(0, iv 3)]) rfl (parts1 rfl) (by kernel_rfl), rfl⟩) ?_
  refine .off ?_
  exact .nil
  intro a230 w231 hn232 ha233
  obtain ⟨hs234, hd235, hN243⟩ := aft ha233 hs214 hd215 hN227 hn232
  have h236 := ha233.fx 2 h216
  have h237 := ha233.fx 6 h218
  have h238 := ha233.fx 7 h220
  have h239 := ha233.fx 8 h221
  have h240 := ha233.ge 0 66 rfl
  have hb241 := hb223.new_ hn232
  have hb242 := hb225.new_ hn232
  obtain ⟨w244, -, hst245, hb246, hu247, hf248⟩ := s_two (v0 := iv 3) (v1 := iv 0) Try.sizeOf23 rfl rfl rfl hb242
  refine st_act rfl rfl fun K249 hL250 => a_store' rfl h238 h240 hst245 (hL250 _ _ trivial ?_)
  have hb251 := hf248 _ _ _ (hne180) hb241
  have hN252 := hN243.trans hu247 (fun k hk hkb => by subst hkb; omega)
  refine st_nil (hK208 _ _ ?_)
  refine wp_seq_k fun K253 hK253 => ?_
  refine wp_seq_k fun K254 hK254 => ?_
  refine wp_g0 [true] [] 91
    [ve (.bool true)] hs234 (.eq (.nil)) ?_ ?_
  refine .o1 (tk rfl rfl fun _ w hn k => ⟨_, v_move rfl (k.fx 6 h237), rfl⟩) ?_
  exact .nil
  intro a255 w256 hn257 ha258
  obtain ⟨hs259, hd260, hN267⟩ := aft ha258 hs234 hd235 hN252 hn257
  have h261 := ha258.fx 2 h236
  have h262 := ha258.fx 7 h238
  have h263 := ha258.fx 8 h239
  have h264 := ha258.ge 0 86 rfl
  have hb265 := hb251.new_ hn257
  have hb266 := hb246.new_ hn257
  refine st_nil (hK254 _ _ ?_)
  refine wp_cond_true h264 ?_
  refine wp_g0 [true, true, false] [(2, false)] 91
    [ve (nv (Nm.mk 3 0)),
     ve (nv (negM (Nm.mk 3 0))),
     vt] hs259 (.eq (.eq (.tt (.nil)))) ?_ ?_
  refine .o1 (tk rfl rfl fun _ w hn k => ⟨_, v_load rfl (k.fx 7 h262) (l_two Try.isAgg23 Try.sizeOf23 (hb266.new_ hn)), rfl⟩) ?_
  refine .o1 (ck rfl rfl rfl (fun _ w hn k => ⟨#[nv (Nm.mk 3 0)], args1 (k.eq1 0 87 rfl), fun _ => by kernel_rfl, nneg_c (Nm.mk 3 0) _ ⟩) fun _ => rfl) ?_
  refine .off ?_
  exact .nil
  intro a268 w269 hn270 ha271
  obtain ⟨hs272, hd273, hN280⟩ := aft ha271 hs259 hd260 hN267 hn270
  have h274 := ha271.fx 2 h261
  have h275 := ha271.fx 7 h262
  have h276 := ha271.fx 8 h263
  have h277 := ha271.ge 1 88 rfl
  have hb278 := hb265.new_ hn270
  have hb279 := hb266.new_ hn270
  obtain ⟨w281, -, hst282, hb283, hu284, hf285⟩ := s_two (v0 := iv ((negM (Nm.mk 3 0)).k)) (v1 := iv ((negM (Nm.mk 3 0)).n)) Try.sizeOf23 rfl rfl rfl hb279
  refine st_act rfl rfl fun K286 hL287 => a_store' rfl h275 h277 hst282 (hL287 _ _ trivial ?_)
  have hb288 := hf285 _ _ _ (hne180) hb278
  have hN289 := hN280.trans hu284 (fun k hk hkb => by subst hkb; omega)
  refine st_nil (hK253 _ _ ?_)
  refine wp_seq_k fun K290 hK290 => ?_
  refine wp_g [true, true, false, false] [1] [(2, false), (3, true)] 91
    [ve (nv (negM (Nm.mk 3 0))),
     ve (.bool (!(strangeN (trimN u)))),
     vt,
     vt]
    [] newsNil hs272 (.eq (.eq (.tt (.tt (.nil))))) ?_ ?_ ?_
  refine .o1 (tk rfl rfl fun _ w hn k => ⟨_, v_load rfl (k.fx 7 h275) (l_two Try.isAgg23 Try.sizeOf23 (hb283.new_ hn)), rfl⟩) ?_
  refine .o3 ?_
  refine .off ?_
  refine .off ?_
  exact .nil
  intro i h
  simp only [List.contains_eq_mem, List.mem_cons, List.not_mem_nil, or_false, decide_eq_true_eq] at h
  subst h
  exact eager_take rfl rfl fun _ w hn k => ⟨.bool (!(strangeN (trimN u))), fun w => v_move rfl (k.fx 8 h276), rfl⟩
  intro a291 w292 hn293 ha294
  obtain ⟨hs295, hd296, hN301⟩ := aft ha294 hs272 hd273 hN289 hn293
  have h297 := ha294.fx 2 h274
  have h298 := ha294.ge 0 89 rfl
  have h299 := ha294.ge 1 90 rfl
  have hb300 := hb288.new_ hn293
  obtain ⟨w302, -, hst303, hb304, hu305, hf306⟩ := s_two (v0 := iv ((negM (Nm.mk 3 0)).k)) (v1 := iv ((negM (Nm.mk 3 0)).n)) Try.sizeOf23 rfl rfl rfl hb300
  refine st_act rfl rfl fun K307 hL308 => a_store' rfl h297 h298 hst303 (hL308 _ _ trivial ?_)
  have hN309 := hN301.trans hu305 (fun k hk hkb => by subst hkb; omega)
  refine st_take rfl rfl (y_assign (v := .bool (!(strangeN (trimN u)))) rfl h299) rfl ?_
  obtain ⟨a310, ha311⟩ : ∃ a', a' = a291.put (some 3) (.bool (!(strangeN (trimN u)))) := ⟨_, rfl⟩
  have hs312 : a310.tmps.size = 91 := by rw [ha311, put_size]; exact hs295
  have hd313 : a310.defers = [] := by rw [ha311, put_defers]; exact hd296
  have h314 := pn ha311 h297 (by decide)
  have h315 := pn ha311 h298 (by decide)
  have h316 := pn ha311 h299 (by decide)
  have h317 : a310.eval (.tmp 3) = .bool (!(strangeN (trimN u))) := by rw [ha311]; exact put_same _ _ _ (by rw [hs295]; decide)
  show stepsTo _ _ _ _ _ (a291.put (some 3) (.bool (!(strangeN (trimN u))))) _
  rw [← ha311]
  refine st_nil (hK290 _ _ ?_)
  refine wp_ret (ret_k hd313 (v := .tuple #[nv (negM (Nm.mk 3 0)), .bool (!(strangeN (trimN u)))]) (res_ct rfl h314 h317 (l_two Try.isAgg23 Try.sizeOf23 hb304)) ?_)
  refine ⟨?_, hN309⟩
  show Ending.returned (.tuple #[nv (negM (Nm.mk 3 0)), .bool (!(strangeN (trimN u)))]) = Ending.returned (.tuple #[nv ((numT u).1), .bool ((numT u).2)])
  first | rfl | (simp only [numT, bodyT, ht78, ht125, ht228, bsm] <;> rfl) | (simp [numT, bodyT, ht78, ht125, ht228]; done) | (exfalso; omega)
  have ht228d := of_decide_eq_false ht228
  have hv318 := hB h222 ht228
  refine wp_cond_false hv318 ?_
  refine wp_seq_k fun K319 hK319 => ?_
  rcases Bool.eq_false_or_eq_true (decide ((((trimN u).drop 1).length : Int) ≤ 0)) with ht320 | ht320
  have ht320d := of_decide_eq_true ht320
  refine wp_g0 [true, true, true, true, true, true, true, true, true] [] 91
    [ve (sv A154 ((trimN u).drop 1) cc155),
     ve (iv (((trimN u).drop 1).length : Int)),
     ve (.bool false),
     ve (.bool false),
     ve undef,
     ve undef,
     ve undef,
     ve (.bool false),
     ve (.bool false)] hs214 (.eq (.eq (.eq (.eq (.eq (.eq (.eq (.eq (.eq (.nil)))))))))) ?_ ?_
  refine .o1 (tk rfl rfl fun _ w hn k => ⟨_, v_move rfl (k.fx 5 h219), rfl⟩) ?_
  refine .o1 (tk rfl rfl fun _ w hn k => ⟨_, v_lenR rfl elU (k.eq1 0 68 rfl), rfl⟩) ?_
  refine .o1 (tk rfl rfl fun _ w hn k => ⟨_, v_bin rfl (k.eq1 1 69 rfl) rfl (fun _ => rfl) (r_gtrK ht320), rfl⟩) ?_
  refine .o1 (tk rfl rfl fun _ w hn k => ⟨_, v_move rfl (k.eq1 2 70 rfl), rfl⟩) ?_
  refine .o1 (sk rfl rfl rfl (fun _ _ _ k => k.eq1 3 71 rfl) (fun _ => rfl)) ?_
  refine .o1 (sk rfl rfl rfl (fun _ _ _ k => k.eq1 3 71 rfl) (fun _ => rfl)) ?_
  refine .o1 (sk rfl rfl rfl (fun _ _ _ k => k.eq1 3 71 rfl) (fun _ => rfl)) ?_
  refine .o1 (tk rfl rfl fun _ w hn k => ⟨_, v_pickF rfl (k.eq1 3 71 rfl) rfl, rfl⟩) ?_
  refine .o1 (tk rfl rfl fun _ w hn k => ⟨_, v_assign rfl (k.eq1 7 75 rfl), rfl⟩) ?_
  exact .nil
  intro a321 w322 hn323 ha324
  obtain ⟨hs325, hd326, hN338⟩ := aft ha324 hs214 hd215 hN227 hn323
  have h327 := ha324.fx 2 h216
  have h328 := ha324.fx 4 h217
  have h329 := ha324.fx 6 h218
  have h330 := ha324.fx 5 h219
  have h331 := ha324.fx 7 h220
  have h332 := ha324.fx 8 h221
  have h333 := ha324.ge 8 67 rfl
  have hb334 := hb223.new_ hn323
  have hb335 := hb224.new_ hn323
  have hb336 := hb225.new_ hn323
  have hr337 := hr226.new_ hn323
  refine st_nil (hK319 _ _ ?_)
  refine wp_cond_false h333 ?_
  refine wp_skip ?_
  refine hK208 _ _ ?_
  refine wp_seq_k fun K339 hK339 => ?_
  refine wp_seq_k fun K340 hK340 => ?_
  refine wp_g0 [true] [] 91
    [ve (.bool true)] hs325 (.eq (.nil)) ?_ ?_
  refine .o1 (tk rfl rfl fun _ w hn k => ⟨_, v_move rfl (k.fx 6 h329), rfl⟩) ?_
  exact .nil
  intro a341 w342 hn343 ha344
  obtain ⟨hs345, hd346, hN353⟩ := aft ha344 hs325 hd326 hN338 hn343
  have h347 := ha344.fx 2 h327
  have h348 := ha344.fx 7 h331
  have h349 := ha344.fx 8 h332
  have h350 := ha344.ge 0 86 rfl
  have hb351 := hb334.new_ hn343
  have hb352 := hb336.new_ hn343
  refine st_nil (hK340 _ _ ?_)
  refine wp_cond_true h350 ?_
  refine wp_g0 [true, true, false] [(2, false)] 91
    [ve (nv (Nm.mk 2 0)),
     ve (nv (negM (Nm.mk 2 0))),
     vt] hs345 (.eq (.eq (.tt (.nil)))) ?_ ?_
  refine .o1 (tk rfl rfl fun _ w hn k => ⟨_, v_load rfl (k.fx 7 h348) (l_two Try.isAgg23 Try.sizeOf23 (hb352.new_ hn)), rfl⟩) ?_
  refine .o1 (ck rfl rfl rfl (fun _ w hn k => ⟨#[nv (Nm.mk 2 0)], args1 (k.eq1 0 87 rfl), fun _ => by kernel_rfl, nneg_c (Nm.mk 2 0) _ ⟩) fun _ => rfl) ?_
  refine .off ?_
  exact .nil
  intro a354 w355 hn356 ha357
  obtain ⟨hs358, hd359, hN366⟩ := aft ha357 hs345 hd346 hN353 hn356
  have h360 := ha357.fx 2 h347
  have h361 := ha357.fx 7 h348
  have h362 := ha357.fx 8 h349
  have h363 := ha357.ge 1 88 rfl
  have hb364 := hb351.new_ hn356
  have hb365 := hb352.new_ hn356
  obtain ⟨w367, -, hst368, hb369, hu370, hf371⟩ := s_two (v0 := iv ((negM (Nm.mk 2 0)).k)) (v1 := iv ((negM (Nm.mk 2 0)).n)) Try.sizeOf23 rfl rfl rfl hb365
  refine st_act rfl rfl fun K372 hL373 => a_store' rfl h361 h363 hst368 (hL373 _ _ trivial ?_)
  have hb374 := hf371 _ _ _ (hne180) hb364
  have hN375 := hN366.trans hu370 (fun k hk hkb => by subst hkb; omega)
  refine st_nil (hK339 _ _ ?_)
  refine wp_seq_k fun K376 hK376 => ?_
  refine wp_g [true, true, false, false] [1] [(2, false), (3, true)] 91
    [ve (nv (negM (Nm.mk 2 0))),
     ve (.bool (!(strangeN (trimN u)))),
     vt,
     vt]
    [] newsNil hs358 (.eq (.eq (.tt (.tt (.nil))))) ?_ ?_ ?_
  refine .o1 (tk rfl rfl fun _ w hn k => ⟨_, v_load rfl (k.fx 7 h361) (l_two Try.isAgg23 Try.sizeOf23 (hb369.new_ hn)), rfl⟩) ?_
  refine .o3 ?_
  refine .off ?_
  refine .off ?_
  exact .nil
  intro i h
  simp only [List.contains_eq_mem, List.mem_cons, List.not_mem_nil, or_false, decide_eq_true_eq] at h
  subst h
  exact eager_take rfl rfl fun _ w hn k => ⟨.bool (!(strangeN (trimN u))), fun w => v_move rfl (k.fx 8 h362), rfl⟩
  intro a377 w378 hn379 ha380
  obtain ⟨hs381, hd382, hN387⟩ := aft ha380 hs358 hd359 hN375 hn379
  have h383 := ha380.fx 2 h360
  have h384 := ha380.ge 0 89 rfl
  have h385 := ha380.ge 1 90 rfl
  have hb386 := hb374.new_ hn379
  obtain ⟨w388, -, hst389, hb390, hu391, hf392⟩ := s_two (v0 := iv ((negM (Nm.mk 2 0)).k)) (v1 := iv ((negM (Nm.mk 2 0)).n)) Try.sizeOf23 rfl rfl rfl hb386
  refine st_act rfl rfl fun K393 hL394 => a_store' rfl h383 h384 hst389 (hL394 _ _ trivial ?_)
  have hN395 := hN387.trans hu391 (fun k hk hkb => by subst hkb; omega)
  refine st_take rfl rfl (y_assign (v := .bool (!(strangeN (trimN u)))) rfl h385) rfl ?_
  obtain ⟨a396, ha397⟩ : ∃ a', a' = a377.put (some 3) (.bool (!(strangeN (trimN u)))) := ⟨_, rfl⟩
  have hs398 : a396.tmps.size = 91 := by rw [ha397, put_size]; exact hs381
  have hd399 : a396.defers = [] := by rw [ha397, put_defers]; exact hd382
  have h400 := pn ha397 h383 (by decide)
  have h401 := pn ha397 h384 (by decide)
  have h402 := pn ha397 h385 (by decide)
  have h403 : a396.eval (.tmp 3) = .bool (!(strangeN (trimN u))) := by rw [ha397]; exact put_same _ _ _ (by rw [hs381]; decide)
  show stepsTo _ _ _ _ _ (a377.put (some 3) (.bool (!(strangeN (trimN u))))) _
  rw [← ha397]
  refine st_nil (hK376 _ _ ?_)
  refine wp_ret (ret_k hd399 (v := .tuple #[nv (negM (Nm.mk 2 0)), .bool (!(strangeN (trimN u)))]) (res_ct rfl h400 h403 (l_two Try.isAgg23 Try.sizeOf23 hb390)) ?_)
  refine ⟨?_, hN395⟩
  show Ending.returned (.tuple #[nv (negM (Nm.mk 2 0)), .bool (!(strangeN (trimN u)))]) = Ending.returned (.tuple #[nv ((numT u).1), .bool ((numT u).2)])
  first | rfl | (simp only [numT, bodyT, ht78, ht125, ht228, ht320, bsm] <;> rfl) | (simp [numT, bodyT, ht78, ht125, ht228, ht320]; done) | (exfalso; omega)
  have ht320d := of_decide_eq_false ht320
  refine wp_g0 [true, true, true, true, true, true, true, true, true] [] 91
    [ve (sv A154 ((trimN u).drop 1) cc155),
     ve (iv (((trimN u).drop 1).length : Int)),
     ve (.bool true),
     ve (.bool true),
     ve (sv A154 ((trimN u).drop 1) cc155),
     ve (.bool (((trimN u).drop 1).any (fun y : Nat => !dgtN y))),
     ve (.bool (!(((trimN u).drop 1).any (fun y : Nat => !dgtN y)))),
     ve (.bool (!(((trimN u).drop 1).any (fun y : Nat => !dgtN y)))),
     ve (.bool (!(((trimN u).drop 1).any (fun y : Nat => !dgtN y))))] hs214 (.eq (.eq (.eq (.eq (.eq (.eq (.eq (.eq (.eq (.nil)))))))))) ?_ ?_
  refine .o1 (tk rfl rfl fun _ w hn k => ⟨_, v_move rfl (k.fx 5 h219), rfl⟩) ?_
  refine .o1 (tk rfl rfl fun _ w hn k => ⟨_, v_lenR rfl elU (k.eq1 0 68 rfl), rfl⟩) ?_
  refine .o1 (tk rfl rfl fun _ w hn k => ⟨_, v_bin rfl (k.eq1 1 69 rfl) rfl (fun _ => rfl) (r_gtrK ht320), rfl⟩) ?_
  refine .o1 (tk rfl rfl fun _ w hn k => ⟨_, v_move rfl (k.eq1 2 70 rfl), rfl⟩) ?_
  refine .o1 (tg rfl rfl rfl (fun _ _ k => k.eq1 3 71 rfl) fun _ w hn k => ⟨_, v_move rfl (k.fx 5 h219), rfl⟩) ?_
  refine .o1 (cg rfl rfl rfl (fun _ _ k => k.eq1 3 71 rfl) rfl (fun _ w hn k => ⟨#[sv A154 ((trimN u).drop 1) cc155, .func (.func 68) #[] #[]], args2 (k.eq1 4 72 rfl) rfl, fun _ => by kernel_rfl, containsf_c _ ((trimN u).drop 1) _ _ (hr226.new_ hn) (hut.drop 1)⟩) fun _ => rfl) ?_
  refine .o1 (tg rfl rfl rfl (fun _ _ k => k.eq1 3 71 rfl) fun _ w hn k => ⟨_, v_not rfl (k.eq1 5 73 rfl), rfl⟩) ?_
  refine .o1 (tk rfl rfl fun _ w hn k => ⟨_, v_pickT rfl (k.eq1 3 71 rfl) (k.eq1 6 74 rfl), rfl⟩) ?_
  refine .o1 (tk rfl rfl fun _ w hn k => ⟨_, v_assign rfl (k.eq1 7 75 rfl), rfl⟩) ?_
  exact .nil
  intro a404 w405 hn406 ha407
  obtain ⟨hs408, hd409, hN421⟩ := aft ha407 hs214 hd215 hN227 hn406
  have h410 := ha407.fx 2 h216
  have h411 := ha407.fx 4 h217
  have h412 := ha407.fx 6 h218
  have h413 := ha407.fx 5 h219
  have h414 := ha407.fx 7 h220
  have h415 := ha407.fx 8 h221
  have h416 := ha407.ge 8 67 rfl
  have hb417 := hb223.new_ hn406
  have hb418 := hb224.new_ hn406
  have hb419 := hb225.new_ hn406
  have hr420 := hr226.new_ hn406
  refine st_nil (hK319 _ _ ?_)
  rcases Bool.eq_false_or_eq_true (((trimN u).drop 1).any (fun y : Nat => !dgtN y)) with ht422 | ht422
  have hv423 : a404.eval (.tmp 67) = .bool false := h416.trans (congrArg Value.bool (by rw [ht422]; rfl))
  refine wp_cond_false hv423 ?_
  refine wp_skip ?_
  refine hK208 _ _ ?_
  refine wp_seq_k fun K424 hK424 => ?_
  refine wp_seq_k fun K425 hK425 => ?_
  refine wp_g0 [true] [] 91
    [ve (.bool true)] hs408 (.eq (.nil)) ?_ ?_
  refine .o1 (tk rfl rfl fun _ w hn k => ⟨_, v_move rfl (k.fx 6 h412), rfl⟩) ?_
  exact .nil
  intro a426 w427 hn428 ha429
  obtain ⟨hs430, hd431, hN438⟩ := aft ha429 hs408 hd409 hN421 hn428
  have h432 := ha429.fx 2 h410
  have h433 := ha429.fx 7 h414
  have h434 := ha429.fx 8 h415
  have h435 := ha429.ge 0 86 rfl
  have hb436 := hb417.new_ hn428
  have hb437 := hb419.new_ hn428
  refine st_nil (hK425 _ _ ?_)
  refine wp_cond_true h435 ?_
  refine wp_g0 [true, true, false] [(2, false)] 91
    [ve (nv (Nm.mk 2 0)),
     ve (nv (negM (Nm.mk 2 0))),
     vt] hs430 (.eq (.eq (.tt (.nil)))) ?_ ?_
  refine .o1 (tk rfl rfl fun _ w hn k => ⟨_, v_load rfl (k.fx 7 h433) (l_two Try.isAgg23 Try.sizeOf23 (hb437.new_ hn)), rfl⟩) ?_
  refine .o1 (ck rfl rfl rfl (fun _ w hn k => ⟨#[nv (Nm.mk 2 0)], args1 (k.eq1 0 87 rfl), fun _ => by kernel_rfl, nneg_c (Nm.mk 2 0) _ ⟩) fun _ => rfl) ?_
  refine .off ?_
  exact .nil
  intro a439 w440 hn441 ha442
  obtain ⟨hs443, hd444, hN451⟩ := aft ha442 hs430 hd431 hN438 hn441
  have h445 := ha442.fx 2 h432
  have h446 := ha442.fx 7 h433
  have h447 := ha442.fx 8 h434
  have h448 := ha442.ge 1 88 rfl
  have hb449 := hb436.new_ hn441
  have hb450 := hb437.new_ hn441
  obtain ⟨w452, -, hst453, hb454, hu455, hf456⟩ := s_two (v0 := iv ((negM (Nm.mk 2 0)).k)) (v1 := iv ((negM (Nm.mk 2 0)).n)) Try.sizeOf23 rfl rfl rfl hb450
  refine st_act rfl rfl fun K457 hL458 => a_store' rfl h446 h448 hst453 (hL458 _ _ trivial ?_)
  have hb459 := hf456 _ _ _ (hne180) hb449
  have hN460 := hN451.trans hu455 (fun k hk hkb => by subst hkb; omega)
  refine st_nil (hK424 _ _ ?_)
  refine wp_seq_k fun K461 hK461 => ?_
  refine wp_g [true, true, false, false] [1] [(2, false), (3, true)] 91
    [ve (nv (negM (Nm.mk 2 0))),
     ve (.bool (!(strangeN (trimN u)))),
     vt,
     vt]
    [] newsNil hs443 (.eq (.eq (.tt (.tt (.nil))))) ?_ ?_ ?_
  refine .o1 (tk rfl rfl fun _ w hn k => ⟨_, v_load rfl (k.fx 7 h446) (l_two Try.isAgg23 Try.sizeOf23 (hb454.new_ hn)), rfl⟩) ?_
  refine .o3 ?_
  refine .off ?_
  refine .off ?_
  exact .nil
  intro i h
  simp only [List.contains_eq_mem, List.mem_cons, List.not_mem_nil, or_false, decide_eq_true_eq] at h
  subst h
  exact eager_take rfl rfl fun _ w hn k => ⟨.bool (!(strangeN (trimN u))), fun w => v_move rfl (k.fx 8 h447), rfl⟩
  intro a462 w463 hn464 ha465
  obtain ⟨hs466, hd467, hN472⟩ := aft ha465 hs443 hd444 hN460 hn464
  have h468 := ha465.fx 2 h445
  have h469 := ha465.ge 0 89 rfl
  have h470 := ha465.ge 1 90 rfl
  have hb471 := hb459.new_ hn464
  obtain ⟨w473, -, hst474, hb475, hu476, hf477⟩ := s_two (v0 := iv ((negM (Nm.mk 2 0)).k)) (v1 := iv ((negM (Nm.mk 2 0)).n)) Try.sizeOf23 rfl rfl rfl hb471
  refine st_act rfl rfl fun K478 hL479 => a_store' rfl h468 h469 hst474 (hL479 _ _ trivial ?_)
  have hN480 := hN472.trans hu476 (fun k hk hkb => by subst hkb; omega)
  refine st_take rfl rfl (y_assign (v := .bool (!(strangeN (trimN u)))) rfl h470) rfl ?_
  obtain ⟨a481, ha482⟩ : ∃ a', a' = a462.put (some 3) (.bool (!(strangeN (trimN u)))) := ⟨_, rfl⟩
  have hs483 : a481.tmps.size = 91 := by rw [ha482, put_size]; exact hs466
  have hd484 : a481.defers = [] := by rw [ha482, put_defers]; exact hd467
  have h485 := pn ha482 h468 (by decide)
  have h486 := pn ha482 h469 (by decide)
  have h487 := pn ha482 h470 (by decide)
  have h488 : a481.eval (.tmp 3) = .bool (!(strangeN (trimN u))) := by rw [ha482]; exact put_same _ _ _ (by rw [hs466]; decide)
  show stepsTo _ _ _ _ _ (a462.put (some 3) (.bool (!(strangeN (trimN u))))) _
  rw [← ha482]
  refine st_nil (hK461 _ _ ?_)
  refine wp_ret (ret_k hd484 (v := .tuple #[nv (negM (Nm.mk 2 0)), .bool (!(strangeN (trimN u)))]) (res_ct rfl h485 h488 (l_two Try.isAgg23 Try.sizeOf23 hb475)) ?_)
  refine ⟨?_, hN480⟩
  show Ending.returned (.tuple #[nv (negM (Nm.mk 2 0)), .bool (!(strangeN (trimN u)))]) = Ending.returned (.tuple #[nv ((numT u).1), .bool ((numT u).2)])
  first | rfl | (simp only [numT, bodyT, ht78, ht125, ht228, ht320, ht422, bsm] <;> rfl) | (simp [numT, bodyT, ht78, ht125, ht228, ht320, ht422]; done) | (exfalso; omega)
  have hv489 : a404.eval (.tmp 67) = .bool true := h416.trans (congrArg Value.bool (by rw [ht422]; rfl))
  refine wp_cond_true hv489 ?_
  refine wp_seq_k fun K490 hK490 => ?_
  refine wp_g0 [true, true, true, true, true, true, true] [] 91
    [ve (sv A154 ((trimN u).drop 1) cc155),
     ve (.tuple #[iv ((valR ((trimN u).drop 1) 0).1), .bool ((valR ((trimN u).drop 1) 0).2)]),
     ve (.tuple #[iv ((valR ((trimN u).drop 1) 0).1), .bool ((valR ((trimN u).drop 1) 0).2)]),
     ve (iv ((valR ((trimN u).drop 1) 0).1)),
     ve (.bool ((valR ((trimN u).drop 1) 0).2)),
     ve (iv ((valR ((trimN u).drop 1) 0).1)),
     ve (.bool ((valR ((trimN u).drop 1) 0).2))] hs408 (.eq (.eq (.eq (.eq (.eq (.eq (.eq (.nil)))))))) ?_ ?_
  refine .o1 (tk rfl rfl fun _ w hn k => ⟨_, v_move rfl (k.fx 5 h413), rfl⟩) ?_
  refine .o1 (ck rfl rfl rfl (fun _ w hn k => ⟨#[sv A154 ((trimN u).drop 1) cc155], args1 (k.eq1 0 77 rfl), fun _ => by kernel_rfl, value_c _ ((trimN u).drop 1) _ _ (hr420.new_ hn) (hut.drop 1) (digs_of ht422)⟩) fun _ => rfl) ?_
  refine .o1 (tk rfl rfl fun _ w hn k => ⟨_, v_move rfl (k.eq1 1 78 rfl), rfl⟩) ?_
  refine .o1 (tk rfl rfl fun _ w hn k => ⟨_, v_extract rfl (k.eq1 2 76 rfl) rfl, rfl⟩) ?_
  refine .o1 (tk rfl rfl fun _ w hn k => ⟨_, v_extract rfl (k.eq1 2 76 rfl) rfl, rfl⟩) ?_
  refine .o1 (tk rfl rfl fun _ w hn k => ⟨_, v_assign rfl (k.eq1 3 79 rfl), rfl⟩) ?_
  refine .o1 (tk rfl rfl fun _ w hn k => ⟨_, v_assign rfl (k.eq1 4 80 rfl), rfl⟩) ?_
  exact .nil
  intro a491 w492 hn493 ha494
  obtain ⟨hs495, hd496, hN506⟩ := aft ha494 hs408 hd409 hN421 hn493
  have h497 := ha494.fx 2 h410
  have h498 := ha494.fx 4 h411
  have h499 := ha494.fx 6 h412
  have h500 := ha494.fx 7 h414
  have h501 := ha494.ge 5 9 rfl
  have h502 := ha494.ge 6 10 rfl
  have hb503 := hb417.new_ hn493
  have hb504 := hb418.new_ hn493
  have hb505 := hb419.new_ hn493
  refine st_nil (hK490 _ _ ?_)
  refine wp_seq_k fun K507 hK507 => ?_
  refine wp_seq_k fun K508 hK508 => ?_
  refine wp_g0 [true, true] [] 91
    [ve (.bool ((valR ((trimN u).drop 1) 0).2)),
     ve (.bool (!((valR ((trimN u).drop 1) 0).2)))] hs495 (.eq (.eq (.nil))) ?_ ?_
  refine .o1 (tk rfl rfl fun _ w hn k => ⟨_, v_move rfl (k.fx 10 h502), rfl⟩) ?_
  refine .o1 (tk rfl rfl fun _ w hn k => ⟨_, v_not rfl (k.eq1 0 81 rfl), rfl⟩) ?_
  exact .nil
  intro a509 w510 hn511 ha512
  obtain ⟨hs513, hd514, hN524⟩ := aft ha512 hs495 hd496 hN506 hn511
  have h515 := ha512.fx 2 h497
  have h516 := ha512.fx 4 h498
  have h517 := ha512.fx 6 h499
  have h518 := ha512.fx 7 h500
  have h519 := ha512.fx 9 h501
  have h520 := ha512.ge 1 82 rfl
  have hb521 := hb503.new_ hn511
  have hb522 := hb504.new_ hn511
  have hb523 := hb505.new_ hn511
  refine st_nil (hK508 _ _ ?_)
  rcases Bool.eq_false_or_eq_true ((valR ((trimN u).drop 1) 0).2) with ht525 | ht525
  have hv526 : a509.eval (.tmp 82) = .bool false := h520.trans (congrArg Value.bool (by rw [ht525]; rfl))
  refine wp_cond_false hv526 ?_
  refine wp_skip ?_
  refine hK507 _ _ ?_
  refine wp_g0 [true, true, false, false] [(2, false), (3, true)] 91
    [ve (iv ((valR ((trimN u).drop 1) 0).1)),
     ve (nv (Nm.mk 0 ((valR ((trimN u).drop 1) 0).1))),
     vt,
     vt] hs513 (.eq (.eq (.tt (.tt (.nil))))) ?_ ?_
  refine .o1 (tk rfl rfl fun _ w hn k => ⟨_, v_move rfl (k.fx 9 h519), rfl⟩) ?_
  refine .o1 (tk rfl rfl fun _ w hn k => ⟨_, v_build (ps := [(1, iv ((valR ((trimN u).drop 1) 0).1))]) rfl (parts1 (k.eq1 0 84 rfl)) (by kernel_rfl), rfl⟩) ?_
  refine .off ?_
  refine .off ?_
  exact .nil
  intro a527 w528 hn529 ha530
  obtain ⟨hs531, hd532, hN539⟩ := aft ha530 hs513 hd514 hN524 hn529
  have h533 := ha530.fx 2 h515
  have h534 := ha530.fx 6 h517
  have h535 := ha530.fx 7 h518
  have h536 := ha530.ge 1 85 rfl
  have hb537 := hb521.new_ hn529
  have hb538 := hb523.new_ hn529
  obtain ⟨w540, -, hst541, hb542, hu543, hf544⟩ := s_two (v0 := iv 0) (v1 := iv ((valR ((trimN u).drop 1) 0).1)) Try.sizeOf23 rfl rfl rfl hb538
  refine st_act rfl rfl fun K545 hL546 => a_store' rfl h535 h536 hst541 (hL546 _ _ trivial ?_)
  have hb547 := hf544 _ _ _ (hne180) hb537
  have hN548 := hN539.trans hu543 (fun k hk hkb => by subst hkb; omega)
  refine st_take rfl rfl (y_assign (v := .bool true) rfl rfl) rfl ?_
  obtain ⟨a549, ha550⟩ : ∃ a', a' = a527.put (some 8) (.bool true) := ⟨_, rfl⟩
  have hs551 : a549.tmps.size = 91 := by rw [ha550, put_size]; exact hs531
  have hd552 : a549.defers = [] := by rw [ha550, put_defers]; exact hd532
  have h553 := pn ha550 h533 (by decide)
  have h554 := pn ha550 h534 (by decide)
  have h555 := pn ha550 h535 (by decide)
  have h556 := pn ha550 h536 (by decide)
  have h557 : a549.eval (.tmp 8) = .bool true := by rw [ha550]; exact put_same _ _ _ (by rw [hs531]; decide)
  show stepsTo _ _ _ _ _ (a527.put (some 8) (.bool true)) _
  rw [← ha550]
  refine st_nil (hK208 _ _ ?_)
  refine wp_seq_k fun K558 hK558 => ?_
  refine wp_seq_k fun K559 hK559 => ?_
  refine wp_g0 [true] [] 91
    [ve (.bool true)] hs551 (.eq (.nil)) ?_ ?_
  refine .o1 (tk rfl rfl fun _ w hn k => ⟨_, v_move rfl (k.fx 6 h554), rfl⟩) ?_
  exact .nil
  intro a560 w561 hn562 ha563
  obtain ⟨hs564, hd565, hN572⟩ := aft ha563 hs551 hd552 hN548 hn562
  have h566 := ha563.fx 2 h553
  have h567 := ha563.fx 7 h555
  have h568 := ha563.fx 8 h557
  have h569 := ha563.ge 0 86 rfl
  have hb570 := hb547.new_ hn562
  have hb571 := hb542.new_ hn562
  refine st_nil (hK559 _ _ ?_)
  refine wp_cond_true h569 ?_
  refine wp_g0 [true, true, false] [(2, false)] 91
    [ve (nv (Nm.mk 0 ((valR ((trimN u).drop 1) 0).1))),
     ve (nv (negM (Nm.mk 0 ((valR ((trimN u).drop 1) 0).1)))),
     vt] hs564 (.eq (.eq (.tt (.nil)))) ?_ ?_
  refine .o1 (tk rfl rfl fun _ w hn k => ⟨_, v_load rfl (k.fx 7 h567) (l_two Try.isAgg23 Try.sizeOf23 (hb571.new_ hn)), rfl⟩) ?_
  refine .o1 (ck rfl rfl rfl (fun _ w hn k => ⟨#[nv (Nm.mk 0 ((valR ((trimN u).drop 1) 0).1))], args1 (k.eq1 0 87 rfl), fun _ => by kernel_rfl, nneg_c (Nm.mk 0 ((valR ((trimN u).drop 1) 0).1)) _ ⟩) fun _ => rfl) ?_
  refine .off ?_
  exact .nil
  intro a573 w574 hn575 ha576
  obtain ⟨hs577, hd578, hN585⟩ := aft ha576 hs564 hd565 hN572 hn575
  have h579 := ha576.fx 2 h566
  have h580 := ha576.fx 7 h567
  have h581 := ha576.fx 8 h568
  have h582 := ha576.ge 1 88 rfl
  have hb583 := hb570.new_ hn575
  have hb584 := hb571.new_ hn575
  obtain ⟨w586, -, hst587, hb588, hu589, hf590⟩ := s_two (v0 := iv ((negM (Nm.mk 0 ((valR ((trimN u).drop 1) 0).1))).k)) (v1 := iv ((negM (Nm.mk 0 ((valR ((trimN u).drop 1) 0).1))).n)) Try.sizeOf23 rfl rfl rfl hb584
  refine st_act rfl rfl fun K591 hL592 => a_store' rfl h580 h582 hst587 (hL592 _ _ trivial ?_)
  have hb593 := hf590 _ _ _ (hne180) hb583
  have hN594 := hN585.trans hu589 (fun k hk hkb => by subst hkb; omega)
  refine st_nil (hK558 _ _ ?_)
  refine wp_seq_k fun K595 hK595 => ?_
  refine wp_g [true, true, false, false] [1] [(2, false), (3, true)] 91
    [ve (nv (negM (Nm.mk 0 ((valR ((trimN u).drop 1) 0).1)))),
     ve (.bool true),
     vt,
     vt]
    [] newsNil hs577 (.eq (.eq (.tt (.tt (.nil))))) ?_ ?_ ?_
  refine .o1 (tk rfl rfl fun _ w hn k => ⟨_, v_load rfl (k.fx 7 h580) (l_two Try.isAgg23 Try.sizeOf23 (hb588.new_ hn)), rfl⟩) ?_
  refine .o3 ?_
  refine .off ?_
  refine .off ?_
  exact .nil
  intro i h
  simp only [List.contains_eq_mem, List.mem_cons, List.not_mem_nil, or_false, decide_eq_true_eq] at h
  subst h
  exact eager_take rfl rfl fun _ w hn k => ⟨.bool true, fun w => v_move rfl (k.fx 8 h581), rfl⟩
  intro a596 w597 hn598 ha599
  obtain ⟨hs600, hd601, hN606⟩ := aft ha599 hs577 hd578 hN594 hn598
  have h602 := ha599.fx 2 h579
  have h603 := ha599.ge 0 89 rfl
  have h604 := ha599.ge 1 90 rfl
  have hb605 := hb593.new_ hn598
  obtain ⟨w607, -, hst608, hb609, hu610, hf611⟩ := s_two (v0 := iv ((negM (Nm.mk 0 ((valR ((trimN u).drop 1) 0).1))).k)) (v1 := iv ((negM (Nm.mk 0 ((valR ((trimN u).drop 1) 0).1))).n)) Try.sizeOf23 rfl rfl rfl hb605
  refine st_act rfl rfl fun K612 hL613 => a_store' rfl h602 h603 hst608 (hL613 _ _ trivial ?_)
  have hN614 := hN606.trans hu610 (fun k hk hkb => by subst hkb; omega)
  refine st_take rfl rfl (y_assign (v := .bool true) rfl h604) rfl ?_
  obtain ⟨a615, ha616⟩ : ∃ a', a' = a596.put (some 3) (.bool true) := ⟨_, rfl⟩
  have hs617 : a615.tmps.size = 91 := by rw [ha616, put_size]; exact hs600
  have hd618 : a615.defers = [] := by rw [ha616, put_defers]; exact hd601
  have h619 := pn ha616 h602 (by decide)
  have h620 := pn ha616 h603 (by decide)
  have h621 := pn ha616 h604 (by decide)
  have h622 : a615.eval (.tmp 3) = .bool true := by rw [ha616]; exact put_same _ _ _ (by rw [hs600]; decide)
  show stepsTo _ _ _ _ _ (a596.put (some 3) (.bool true)) _
  rw [← ha616]
  refine st_nil (hK595 _ _ ?_)
  refine wp_ret (ret_k hd618 (v := .tuple #[nv (negM (Nm.mk 0 ((valR ((trimN u).drop 1) 0).1))), .bool true]) (res_ct rfl h619 h622 (l_two Try.isAgg23 Try.sizeOf23 hb609)) ?_)
  refine ⟨?_, hN614⟩
  show Ending.returned (.tuple #[nv (negM (Nm.mk 0 ((valR ((trimN u).drop 1) 0).1))), .bool true]) = Ending.returned (.tuple #[nv ((numT u).1), .bool ((numT u).2)])
  first | rfl | (simp only [numT, bodyT, ht78, ht125, ht228, ht320, ht422, ht525, bsm] <;> rfl) | (simp [numT, bodyT, ht78, ht125, ht228, ht320, ht422, ht525]; done) | (exfalso; omega)
  have hv623 : a509.eval (.tmp 82) = .bool true := h520.trans (congrArg Value.bool (by rw [ht525]; rfl))
  refine wp_cond_true hv623 ?_
  refine wp_seq_k fun K624 hK624 => ?_
  refine wp_g0 [true, false, false] [(1, false), (2, true)] 91
    [ve (nv (Nm.mk 2 0)),
     vt,
     vt] hs513 (.eq (.tt (.tt (.nil)))) ?_ ?_
  refine .o1 (tk rfl rfl fun _ w hn k => ⟨_, v_load rfl (k.fx 4 h516) (l_two Try.isAgg23 Try.sizeOf23 (hb522.new_ hn)), rfl⟩) ?_
  refine .off ?_
  refine .off ?_
  exact .nil
  intro a625 w626 hn627 ha628
  obtain ⟨hs629, hd630, hN634⟩ := aft ha628 hs513 hd514 hN524 hn627
  have h631 := ha628.fx 2 h515
  have h632 := ha628.ge 0 83 rfl
  have hb633 := hb521.new_ hn627
  obtain ⟨w635, -, hst636, hb637, hu638, hf639⟩ := s_two (v0 := iv 2) (v1 := iv 0) Try.sizeOf23 rfl rfl rfl hb633
  refine st_act rfl rfl fun K640 hL641 => a_store' rfl h631 h632 hst636 (hL641 _ _ trivial ?_)
  have hN642 := hN634.trans hu638 (fun k hk hkb => by subst hkb; omega)
  refine st_take rfl rfl (y_assign (v := .bool false) rfl rfl) rfl ?_
  obtain ⟨a643, ha644⟩ : ∃ a', a' = a625.put (some 3) (.bool false) := ⟨_, rfl⟩
  have hs645 : a643.tmps.size = 91 := by rw [ha644, put_size]; exact hs629
  have hd646 : a643.defers = [] := by rw [ha644, put_defers]; exact hd630
  have h647 := pn ha644 h631 (by decide)
  have h648 := pn ha644 h632 (by decide)
  have h649 : a643.eval (.tmp 3) = .bool false := by rw [ha644]; exact put_same _ _ _ (by rw [hs629]; decide)
  show stepsTo _ _ _ _ _ (a625.put (some 3) (.bool false)) _
  rw [← ha644]
  refine st_nil (hK624 _ _ ?_)
  refine wp_ret (ret_k hd646 (v := .tuple #[nv (Nm.mk 2 0), .bool false]) (res_ct rfl h647 h649 (l_two Try.isAgg23 Try.sizeOf23 hb637)) ?_)
  refine ⟨?_, hN642⟩
  show Ending.returned (.tuple #[nv (Nm.mk 2 0), .bool false]) = Ending.returned (.tuple #[nv ((numT u).1), .bool ((numT u).2)])
  first | rfl | (simp only [numT, bodyT, ht78, ht125, ht228, ht320, ht422, ht525, bsm] <;> rfl) | (simp [numT, bodyT, ht78, ht125, ht228, ht320, ht422, ht525]; done) | (exfalso; omega)
  have ht125d := of_decide_eq_false ht125
  have hv650 := hB h118 ht125
  refine wp_g0 [true, true, true, true, true, true, true] [] 91
    [ve (.bool false),
     ve (.bool false),
     ve (sv A4 (trimN u) c4),
     (fun (v_ : Value) (W : World) => ∃ (b29 : Nat) (o30 : Nat), v_ = .pointer (some ⟨b29, o30, none⟩) ∧ SElem W b29 o30 (.int .u16 (((trimN u).getD 0 0 : Nat) : Int))),
     ve (.int .u16 (((trimN u).getD 0 0 : Nat) : Int)),
     ve (.bool (decide ((((trimN u).getD 0 0 : Nat) : Int) = 43))),
     ve (.bool (decide ((((trimN u).getD 0 0 : Nat) : Int) = 43)))] hs112 (.eq (.eq (.eq (.cons (fun v W W' hn ⟨b29, o30, he, h0⟩ => ⟨b29, o30, he, h0.new_ hn⟩) (.eq (.eq (.eq (.nil)))))))) ?_ ?_
  refine .o1 (tk rfl rfl fun _ w hn k => ⟨_, v_move rfl (k.fx 6 hv650), rfl⟩) ?_
  refine .o1 (tk rfl rfl fun _ w hn k => ⟨_, v_move rfl (k.eq1 0 49 rfl), rfl⟩) ?_
  refine .o1 (tg rfl rfl rfl (fun _ _ k => k.eq1 1 50 rfl) fun _ w hn k => ⟨_, v_move rfl (k.fx 0 h114), rfl⟩) ?_
  refine .o1 (tg rfl rfl rfl (fun _ _ k => k.eq1 1 50 rfl) fun _ w hn k => (by
        exact x_eaddr (k := .u16) rfl elU (k.eq1 2 51 rfl) rfl (hr121.new_ hn) (by omega) fun b27 o28 hme => ⟨b27, o28, rfl, hme⟩)) ?_
  refine .o1 (tg rfl rfl rfl (fun _ _ k => k.eq1 1 50 rfl) fun _ w hn k => (by
        obtain ⟨b31, o32, e33, hx34⟩ : (fun (v_ : Value) (W : World) => ∃ (b29 : Nat) (o30 : Nat), v_ = .pointer (some ⟨b29, o30, none⟩) ∧ SElem W b29 o30 (.int .u16 (((trimN u).getD 0 0 : Nat) : Int))) _ _ := k.dep 3 52 (by kernel_rfl) (by kernel_rfl)
        exact ⟨_, v_load rfl e33 (l_one Try.isAgg66 hx34.1), rfl⟩)) ?_
  refine .o1 (tg rfl rfl rfl (fun _ _ k => k.eq1 1 50 rfl) fun _ w hn k => ⟨_, v_bin rfl (k.eq1 4 53 rfl) rfl (fun _ => rfl) (r_eql rfl), rfl⟩) ?_
  refine .o1 (tk rfl rfl fun _ w hn k => ⟨_, v_pickF rfl (k.eq1 1 50 rfl) (k.eq1 5 54 rfl), rfl⟩) ?_
  exact .nil
  intro a651 w652 hn653 ha654
  obtain ⟨hs655, hd656, hN666⟩ := aft ha654 hs112 hd113 hN122 hn653
  have h657 := ha654.fx 0 h114
  have h658 := ha654.fx 2 h115
  have h659 := ha654.fx 4 h116
  have h660 := ha654.fx 5 h117
  have h661 := ha654.fx 6 hv650
  have h662 := ha654.ge 6 55 rfl
  have hb663 := hb119.new_ hn653
  have hb664 := hb120.new_ hn653
  have hr665 := hr121.new_ hn653
  refine st_nil (hK124 _ _ ?_)
  rcases Bool.eq_false_or_eq_true (decide ((((trimN u).getD 0 0 : Nat) : Int) = 43)) with ht667 | ht667
  have ht667d := of_decide_eq_true ht667
  have hv668 := hB h662 ht667
  refine wp_cond_true hv668 ?_
  refine wp_g0 [true, true, true] [] 91
    [ve (sv A4 (trimN u) c4),
     (fun (v_ : Value) (W : World) => ∃ (A37 : Option Addr) (c38 : Nat), v_ = sv A37 ((trimN u).drop 1) c38 ∧ SRow W .u16 A37 ((trimN u).drop 1) c38),
     (fun (v_ : Value) (W : World) => ∃ (A43 : Option Addr) (c44 : Nat), v_ = sv A43 ((trimN u).drop 1) c44 ∧ SRow W .u16 A43 ((trimN u).drop 1) c44)] hs655 (.eq (.cons (fun v W W' hn ⟨A37, c38, he, h0⟩ => ⟨A37, c38, he, h0.new_ hn⟩) (.cons (fun v W W' hn ⟨A43, c44, he, h0⟩ => ⟨A43, c44, he, h0.new_ hn⟩) (.nil)))) ?_ ?_
  refine .o1 (tk rfl rfl fun _ w hn k => ⟨_, v_move rfl (k.fx 0 h657), rfl⟩) ?_
  refine .o1 (tk rfl rfl fun _ w hn k => (by
        exact x_cutL (k := .u16) rfl elU (k.eq1 0 56 rfl) rfl (hr665.new_ hn) (by omega) fun A35 c36 hmr => ⟨A35, c36, rfl, hmr⟩)) ?_
  refine .o1 (tk rfl rfl fun _ w hn k => (by
        obtain ⟨A39, c40, e41, hx42⟩ : (fun (v_ : Value) (W : World) => ∃ (A37 : Option Addr) (c38 : Nat), v_ = sv A37 ((trimN u).drop 1) c38 ∧ SRow W .u16 A37 ((trimN u).drop 1) c38) _ _ := k.dep 1 57 (by kernel_rfl) (by kernel_rfl)
        exact ⟨_, v_assign rfl e41, ⟨A39, c40, rfl, hx42⟩⟩)) ?_
  exact .nil
  intro a669 w670 hn671 ha672
  obtain ⟨hs673, hd674, hN686⟩ := aft ha672 hs655 hd656 hN666 hn671
  have h675 := ha672.fx 0 h657
  have h676 := ha672.fx 2 h658
  have h677 := ha672.fx 4 h659
  have h678 := ha672.fx 6 h661
  obtain ⟨A680, cc681, h679, hr682⟩ : (fun (v_ : Value) (W : World) => ∃ (A43 : Option Addr) (c44 : Nat), v_ = sv A43 ((trimN u).drop 1) c44 ∧ SRow W .u16 A43 ((trimN u).drop 1) c44) _ _ := ha672.got 2 5 rfl (by kernel_rfl)
  have h679 : a669.eval (.tmp 5) = sv A680 ((trimN u).drop 1) cc681 := h679
  have hb683 := hb663.new_ hn671
  have hb684 := hb664.new_ hn671
  have hr685 := hr665.new_ hn671
  refine st_nil (hK123 _ _ ?_)
  refine wp_seq_k fun K687 hK687 => ?_
  refine wp_g [true, true, true, true, true, false, false] [3] [(5, false), (6, true)] 91
    [ve (nv (Nm.mk 2 0)),
     ve (sv A4 (trimN u) c4),
     ve (.bool (strangeN (trimN u))),
     ve (.bool (!(strangeN (trimN u)))),
     IsNew w670 23 [iv 0, iv 0],
     vt,
     vt]
    [4] (newsCons (fun v w h => IsNew.old h) newsNil) hs673 (.eq (.eq (.eq (.eq (.nw (.tt (.tt (.nil)))))))) ?_ ?_ ?_
  refine .o1 (tk rfl rfl fun _ w hn k => ⟨_, v_load rfl (k.fx 4 h677) (l_two Try.isAgg23 Try.sizeOf23 (hb684.new_ hn)), rfl⟩) ?_
  refine .o1 (tk rfl rfl fun _ w hn k => ⟨_, v_move rfl (k.fx 0 h675), rfl⟩) ?_
  refine .o1 (ck rfl rfl rfl (fun _ w hn k => ⟨#[sv A4 (trimN u) c4], args1 (k.eq1 1 59 rfl), fun _ => by kernel_rfl, strange_c _ (trimN u) _ _ (hr685.new_ hn) hut⟩) fun _ => rfl) ?_
  refine .o3 ?_
  refine .o2 (step_allocN (cs := [iv 0, iv 0]) (t := 23) rfl (noG rfl) (fun _ w hn k => rfl) (fun q _ hq hb => ⟨q, rfl, hq, hb⟩)) ?_
  refine .off ?_
  refine .off ?_
  exact .nil
  intro i h
  simp only [List.contains_eq_mem, List.mem_cons, List.not_mem_nil, or_false, decide_eq_true_eq] at h
  subst h
  exact eager_take rfl rfl fun _ w hn k => ⟨.bool (!(strangeN (trimN u))), fun w => v_not rfl (k.eq1 2 60 rfl), rfl⟩
  intro a688 w689 hn690 ha691
  obtain ⟨hs692, hd693, hN710⟩ := aft ha691 hs673 hd674 hN686 hn690
  have h694 := ha691.fx 2 h676
  have h695 := ha691.fx 4 h677
  have h696 := ha691.fx 6 h678
  have h697 := ha691.fx 5 h679
  have h698 := ha691.ge 0 58 rfl
  have h699 := ha691.ge 3 61 rfl
  obtain ⟨q701, h700, hq702, hb703⟩ : IsNew _ _ _ _ _ := ha691.got 4 7 rfl (by kernel_rfl)
  have hb704 := hb683.new_ hn690
  have hb705 := hb684.new_ hn690
  have hne706 : q10 ≠ q701 := by have h1 := hb683.lt; have h2 := hq702; omega
  have hne707 : q44 ≠ q701 := by have h1 := hb684.lt; have h2 := hq702; omega
  have hq708 := Nat.le_trans hN686.size hq702
  have hr709 := hr682.new_ hn690
  obtain ⟨w711, -, hst712, hb713, hu714, hf715⟩ := s_two (v0 := iv 2) (v1 := iv 0) Try.sizeOf23 rfl rfl rfl hb703
  refine st_act rfl rfl fun K716 hL717 => a_store' rfl h700 h698 hst712 (hL717 _ _ trivial ?_)
  have hr718 := hr709.far hb703 hu714 (by first | rfl | decide | simp [notK])
  have hb719 := hf715 _ _ _ (hne706) hb704
  have hb720 := hf715 _ _ _ (hne707) hb705
  have hN721 := hN710.trans hu714 (fun k hk hkb => by subst hkb; omega)
  refine st_take rfl rfl (y_assign (v := .bool (!(strangeN (trimN u)))) rfl h699) rfl ?_
  obtain ⟨a722, ha723⟩ : ∃ a', a' = a688.put (some 8) (.bool (!(strangeN (trimN u)))) := ⟨_, rfl⟩
  have hs724 : a722.tmps.size = 91 := by rw [ha723, put_size]; exact hs692
  have hd725 : a722.defers = [] := by rw [ha723, put_defers]; exact hd693
  have h726 := pn ha723 h694 (by decide)
  have h727 := pn ha723 h695 (by decide)
  have h728 := pn ha723 h696 (by decide)
  have h729 := pn ha723 h697 (by decide)
  have h730 := pn ha723 h698 (by decide)
  have h731 := pn ha723 h699 (by decide)
  have h732 := pn ha723 h700 (by decide)
  have h733 : a722.eval (.tmp 8) = .bool (!(strangeN (trimN u))) := by rw [ha723]; exact put_same _ _ _ (by rw [hs692]; decide)
  show stepsTo _ _ _ _ _ (a688.put (some 8) (.bool (!(strangeN (trimN u))))) _
  rw [← ha723]
  refine st_nil (hK687 _ _ ?_)
  refine wp_seq_k fun K734 hK734 => ?_
  refine wp_block ?_
  refine wp_seq_k fun K735 hK735 => ?_
  refine wp_g0 [true, true, true, true] [] 91
    [ve (sv A680 ((trimN u).drop 1) cc681),
     (fun (v_ : Value) (W : World) => ∃ (A47 : Option Addr) (c48 : Nat), v_ = sv A47 (asc ⟨#[73, 110, 102, 105, 110, 105, 116, 121]⟩) c48 ∧ SOwn W w711.heap.size 66 .u16 A47 (asc ⟨#[73, 110, 102, 105, 110, 105, 116, 121]⟩) c48),
     ve (.bool (decide (((trimN u).drop 1) = (asc ⟨#[73, 110, 102, 105, 110, 105, 116, 121]⟩)))),
     ve (.bool (decide (((trimN u).drop 1) = (asc ⟨#[73, 110, 102, 105, 110, 105, 116, 121]⟩))))] hs724 (.eq (.cons (fun v W W' hn ⟨A47, c48, he, h0⟩ => ⟨A47, c48, he, h0.new_ hn⟩) (.eq (.eq (.nil))))) ?_ ?_
  refine .o1 (tk rfl rfl fun _ w hn k => ⟨_, v_move rfl (k.fx 5 h729), rfl⟩) ?_
  refine .o1 (tkC rfl (noG rfl) rfl fun _ w hn k => (by
        refine ⟨#[.string ⟨#[73, 110, 102, 105, 110, 105, 116, 121]⟩], _, args1 rfl, fun w => by kernel_rfl, ascii_c ⟨#[73, 110, 102, 105, 110, 105, 116, 121]⟩ _ (by first | omega | (show (_ : Nat) ≤ _; decide)), ?_⟩
        rintro e w' ⟨A45, c46, rfl, hmo0, hm⟩
        exact ⟨_, rfl, hm, ⟨A45, c46, rfl, (hmo0.more hn.size)⟩⟩)) ?_
  refine .o1 (tkC rfl (noG rfl) rfl fun _ w hn k => (by
        obtain ⟨A49, c50, e51, hx52⟩ : (fun (v_ : Value) (W : World) => ∃ (A47 : Option Addr) (c48 : Nat), v_ = sv A47 (asc ⟨#[73, 110, 102, 105, 110, 105, 116, 121]⟩) c48 ∧ SOwn W w711.heap.size 66 .u16 A47 (asc ⟨#[73, 110, 102, 105, 110, 105, 116, 121]⟩) c48) _ _ := k.dep 1 64 (by kernel_rfl) (by kernel_rfl)
        refine ⟨#[sv A680 ((trimN u).drop 1) cc681, sv A49 (asc ⟨#[73, 110, 102, 105, 110, 105, 116, 121]⟩) c50], _, args2 (k.eq1 0 63 rfl) e51, fun w => by kernel_rfl, tsame_c _ ((trimN u).drop 1) _ _ (asc ⟨#[73, 110, 102, 105, 110, 105, 116, 121]⟩) _ _ (hr718.new_ hn) hx52.row, ?_⟩
        rintro e w' ⟨rfl, hm⟩
        exact ⟨_, rfl, hm, rfl⟩)) ?_
  refine .o1 (tk rfl rfl fun _ w hn k => ⟨_, v_assign rfl (k.eq1 2 65 rfl), rfl⟩) ?_
  exact .nil
  intro a736 w737 hn738 ha739
  obtain ⟨hs740, hd741, hN753⟩ := aft ha739 hs724 hd725 hN721 hn738
  have h742 := ha739.fx 2 h726
  have h743 := ha739.fx 4 h727
  have h744 := ha739.fx 6 h728
  have h745 := ha739.fx 5 h729
  have h746 := ha739.fx 7 h732
  have h747 := ha739.fx 8 h733
  have h748 := ha739.ge 3 62 rfl
  have hb749 := hb719.new_ hn738
  have hb750 := hb720.new_ hn738
  have hb751 := hb713.new_ hn738
  have hr752 := hr718.new_ hn738
  refine st_nil (hK735 _ _ ?_)
  rcases Bool.eq_false_or_eq_true (decide (((trimN u).drop 1) = (asc ⟨#[73, 110, 102, 105, 110, 105, 116, 121]⟩))) with ht754 | ht754
  have ht754d := of_decide_eq_true ht754
  have hv755 := hB h748 ht754
  refine wp_cond_true hv755 ?_
  refine wp_g0 [true, false] [(1, false)] 91
    [ve (nv (Nm.mk 3 0)),
     vt] hs740 (.eq (.tt (.nil))) ?_ ?_
  refine .o1 (tk rfl rfl fun _ w hn k => ⟨_, v_build (ps := [(0, iv 3)]) rfl (parts1 rfl) (by kernel_rfl), rfl⟩) ?_
  refine .off ?_
  exact .nil
  intro a756 w757 hn758 ha759
  obtain ⟨hs760, hd761, hN769⟩ := aft ha759 hs740 hd741 hN753 hn758
  have h762 := ha759.fx 2 h742
  have h763 := ha759.fx 6 h744
  have h764 := ha759.fx 7 h746
  have h765 := ha759.fx 8 h747
  have h766 := ha759.ge 0 66 rfl
  have hb767 := hb749.new_ hn758
  have hb768 := hb751.new_ hn758
  obtain ⟨w770, -, hst771, hb772, hu773, hf774⟩ := s_two (v0 := iv 3) (v1 := iv 0) Try.sizeOf23 rfl rfl rfl hb768
  refine st_act rfl rfl fun K775 hL776 => a_store' rfl h764 h766 hst771 (hL776 _ _ trivial ?_)
  have hb777 := hf774 _ _ _ (hne706) hb767
  have hN778 := hN769.trans hu773 (fun k hk hkb => by subst hkb; omega)
  refine st_nil (hK734 _ _ ?_)
  refine wp_seq_k fun K779 hK779 => ?_
  refine wp_seq_k fun K780 hK780 => ?_
  refine wp_g0 [true] [] 91
    [ve (.bool false)] hs760 (.eq (.nil)) ?_ ?_
  refine .o1 (tk rfl rfl fun _ w hn k => ⟨_, v_move rfl (k.fx 6 h763), rfl⟩) ?_
  exact .nil
  intro a781 w782 hn783 ha784
  obtain ⟨hs785, hd786, hN793⟩ := aft ha784 hs760 hd761 hN778 hn783
  have h787 := ha784.fx 2 h762
  have h788 := ha784.fx 7 h764
  have h789 := ha784.fx 8 h765
  have h790 := ha784.ge 0 86 rfl
  have hb791 := hb777.new_ hn783
  have hb792 := hb772.new_ hn783
  refine st_nil (hK780 _ _ ?_)
  refine wp_cond_false h790 ?_
  refine wp_skip ?_
  refine hK779 _ _ ?_
  refine wp_seq_k fun K794 hK794 => ?_
  refine wp_g [true, true, false, false] [1] [(2, false), (3, true)] 91
    [ve (nv (Nm.mk 3 0)),
     ve (.bool (!(strangeN (trimN u)))),
     vt,
     vt]
    [] newsNil hs785 (.eq (.eq (.tt (.tt (.nil))))) ?_ ?_ ?_
  refine .o1 (tk rfl rfl fun _ w hn k => ⟨_, v_load rfl (k.fx 7 h788) (l_two Try.isAgg23 Try.sizeOf23 (hb792.new_ hn)), rfl⟩) ?_
  refine .o3 ?_
  refine .off ?_
  refine .off ?_
  exact .nil
  intro i h
  simp only [List.contains_eq_mem, List.mem_cons, List.not_mem_nil, or_false, decide_eq_true_eq] at h
  subst h
  exact eager_take rfl rfl fun _ w hn k => ⟨.bool (!(strangeN (trimN u))), fun w => v_move rfl (k.fx 8 h789), rfl⟩
  intro a795 w796 hn797 ha798
  obtain ⟨hs799, hd800, hN805⟩ := aft ha798 hs785 hd786 hN793 hn797
  have h801 := ha798.fx 2 h787
  have h802 := ha798.ge 0 89 rfl
  have h803 := ha798.ge 1 90 rfl
  have hb804 := hb791.new_ hn797
  obtain ⟨w806, -, hst807, hb808, hu809, hf810⟩ := s_two (v0 := iv 3) (v1 := iv 0) Try.sizeOf23 rfl rfl rfl hb804
  refine st_act rfl rfl fun K811 hL812 => a_store' rfl h801 h802 hst807 (hL812 _ _ trivial ?_)
  have hN813 := hN805.trans hu809 (fun k hk hkb => by subst hkb; omega)
  refine st_take rfl rfl (y_assign (v := .bool (!(strangeN (trimN u)))) rfl h803) rfl ?_
  obtain ⟨a814, ha815⟩ : ∃ a', a' = a795.put (some 3) (.bool (!(strangeN (trimN u)))) := ⟨_, rfl⟩
  have hs816 : a814.tmps.size = 91 := by rw [ha815, put_size]; exact hs799
  have hd817 : a814.defers = [] := by rw [ha815, put_defers]; exact hd800
  have h818 := pn ha815 h801 (by decide)
  have h819 := pn ha815 h802 (by decide)
  have h820 := pn ha815 h803 (by decide)
  have h821 : a814.eval (.tmp 3) = .bool (!(strangeN (trimN u))) := by rw [ha815]; exact put_same _ _ _ (by rw [hs799]; decide)
  show stepsTo _ _ _ _ _ (a795.put (some 3) (.bool (!(strangeN (trimN u))))) _
  rw [← ha815]
  refine st_nil (hK794 _ _ ?_)
  refine wp_ret (ret_k hd817 (v := .tuple #[nv (Nm.mk 3 0), .bool (!(strangeN (trimN u)))]) (res_ct rfl h818 h821 (l_two Try.isAgg23 Try.sizeOf23 hb808)) ?_)
  refine ⟨?_, hN813⟩
  show Ending.returned (.tuple #[nv (Nm.mk 3 0), .bool (!(strangeN (trimN u)))]) = Ending.returned (.tuple #[nv ((numT u).1), .bool ((numT u).2)])
  first | rfl | (simp only [numT, bodyT, ht78, ht125, ht667, ht754, bsm] <;> rfl) | (simp [numT, bodyT, ht78, ht125, ht667, ht754]; done) | (exfalso; omega)
  have ht754d := of_decide_eq_false ht754
  have hv822 := hB h748 ht754
  refine wp_cond_false hv822 ?_
  refine wp_seq_k fun K823 hK823 => ?_
  rcases Bool.eq_false_or_eq_true (decide ((((trimN u).drop 1).length : Int) ≤ 0)) with ht824 | ht824
  have ht824d := of_decide_eq_true ht824
  refine wp_g0 [true, true, true, true, true, true, true, true, true] [] 91
    [ve (sv A680 ((trimN u).drop 1) cc681),
     ve (iv (((trimN u).drop 1).length : Int)),
     ve (.bool false),
     ve (.bool false),
     ve undef,
     ve undef,
     ve undef,
     ve (.bool false),
     ve (.bool false)] hs740 (.eq (.eq (.eq (.eq (.eq (.eq (.eq (.eq (.eq (.nil)))))))))) ?_ ?_
  refine .o1 (tk rfl rfl fun _ w hn k => ⟨_, v_move rfl (k.fx 5 h745), rfl⟩) ?_
  refine .o1 (tk rfl rfl fun _ w hn k => ⟨_, v_lenR rfl elU (k.eq1 0 68 rfl), rfl⟩) ?_
  refine .o1 (tk rfl rfl fun _ w hn k => ⟨_, v_bin rfl (k.eq1 1 69 rfl) rfl (fun _ => rfl) (r_gtrK ht824), rfl⟩) ?_
  refine .o1 (tk rfl rfl fun _ w hn k => ⟨_, v_move rfl (k.eq1 2 70 rfl), rfl⟩) ?_
  refine .o1 (sk rfl rfl rfl (fun _ _ _ k => k.eq1 3 71 rfl) (fun _ => rfl)) ?_
  refine .o1 (sk rfl rfl rfl (fun _ _ _ k => k.eq1 3 71 rfl) (fun _ => rfl)) ?_
  refine .o1 (sk rfl rfl rfl (fun _ _ _ k => k.eq1 3 71 rfl) (fun _ => rfl)) ?_
  refine .o1 (tk rfl rfl fun _ w hn k => ⟨_, v_pickF rfl (k.eq1 3 71 rfl) rfl, rfl⟩) ?_
  refine .o1 (tk rfl rfl fun _ w hn k => ⟨_, v_assign rfl (k.eq1 7 75 rfl), rfl⟩) ?_
  exact .nil
  intro a825 w826 hn827 ha828
  obtain ⟨hs829, hd830, hN842⟩ := aft ha828 hs740 hd741 hN753 hn827
  have h831 := ha828.fx 2 h742
  have h832 := ha828.fx 4 h743
  have h833 := ha828.fx 6 h744
  have h834 := ha828.fx 5 h745
  have h835 := ha828.fx 7 h746
  have h836 := ha828.fx 8 h747
  have h837 := ha828.ge 8 67 rfl
  have hb838 := hb749.new_ hn827
  have hb839 := hb750.new_ hn827
  have hb840 := hb751.new_ hn827
  have hr841 := hr752.new_ hn827
  refine st_nil (hK823 _ _ ?_)
  refine wp_cond_false h837 ?_
  refine wp_skip ?_
  refine hK734 _ _ ?_
  refine wp_seq_k fun K843 hK843 => ?_
  refine wp_seq_k fun K844 hK844 => ?_
  refine wp_g0 [true] [] 91
    [ve (.bool false)] hs829 (.eq (.nil)) ?_ ?_
  refine .o1 (tk rfl rfl fun _ w hn k => ⟨_, v_move rfl (k.fx 6 h833), rfl⟩) ?_
  exact .nil
  intro a845 w846 hn847 ha848
  obtain ⟨hs849, hd850, hN857⟩ := aft ha848 hs829 hd830 hN842 hn847
  have h851 := ha848.fx 2 h831
  have h852 := ha848.fx 7 h835
  have h853 := ha848.fx 8 h836
  have h854 := ha848.ge 0 86 rfl
  have hb855 := hb838.new_ hn847
  have hb856 := hb840.new_ hn847
  refine st_nil (hK844 _ _ ?_)
  refine wp_cond_false h854 ?_
  refine wp_skip ?_
  refine hK843 _ _ ?_
  refine wp_seq_k fun K858 hK858 => ?_
  refine wp_g [true, true, false, false] [1] [(2, false), (3, true)] 91
    [ve (nv (Nm.mk 2 0)),
     ve (.bool (!(strangeN (trimN u)))),
     vt,
     vt]
    [] newsNil hs849 (.eq (.eq (.tt (.tt (.nil))))) ?_ ?_ ?_
  refine .o1 (tk rfl rfl fun _ w hn k => ⟨_, v_load rfl (k.fx 7 h852) (l_two Try.isAgg23 Try.sizeOf23 (hb856.new_ hn)), rfl⟩) ?_
  refine .o3 ?_
  refine .off ?_
  refine .off ?_
  exact .nil
  intro i h
  simp only [List.contains_eq_mem, List.mem_cons, List.not_mem_nil, or_false, decide_eq_true_eq] at h
  subst h
  exact eager_take rfl rfl fun _ w hn k => ⟨.bool (!(strangeN (trimN u))), fun w => v_move rfl (k.fx 8 h853), rfl⟩
  intro a859 w860 hn861 ha862
  obtain ⟨hs863, hd864, hN869⟩ := aft ha862 hs849 hd850 hN857 hn861
  have h865 := ha862.fx 2 h851
  have h866 := ha862.ge 0 89 rfl
  have h867 := ha862.ge 1 90 rfl
  have hb868 := hb855.new_ hn861
  obtain ⟨w870, -, hst871, hb872, hu873, hf874⟩ := s_two (v0 := iv 2) (v1 := iv 0) Try.sizeOf23 rfl rfl rfl hb868
  refine st_act rfl rfl fun K875 hL876 => a_store' rfl h865 h866 hst871 (hL876 _ _ trivial ?_)
  have hN877 := hN869.trans hu873 (fun k hk hkb => by subst hkb; omega)
  refine st_take rfl rfl (y_assign (v := .bool (!(strangeN (trimN u)))) rfl h867) rfl ?_
  obtain ⟨a878, ha879⟩ : ∃ a', a' = a859.put (some 3) (.bool (!(strangeN (trimN u)))) := ⟨_, rfl⟩
  have hs880 : a878.tmps.size = 91 := by rw [ha879, put_size]; exact hs863
  have hd881 : a878.defers = [] := by rw [ha879, put_defers]; exact hd864
  have h882 := pn ha879 h865 (by decide)
  have h883 := pn ha879 h866 (by decide)
  have h884 := pn ha879 h867 (by decide)
  have h885 : a878.eval (.tmp 3) = .bool (!(strangeN (trimN u))) := by rw [ha879]; exact put_same _ _ _ (by rw [hs863]; decide)
  show stepsTo _ _ _ _ _ (a859.put (some 3) (.bool (!(strangeN (trimN u))))) _
  rw [← ha879]
  refine st_nil (hK858 _ _ ?_)
  refine wp_ret (ret_k hd881 (v := .tuple #[nv (Nm.mk 2 0), .bool (!(strangeN (trimN u)))]) (res_ct rfl h882 h885 (l_two Try.isAgg23 Try.sizeOf23 hb872)) ?_)
  refine ⟨?_, hN877⟩
  show Ending.returned (.tuple #[nv (Nm.mk 2 0), .bool (!(strangeN (trimN u)))]) = Ending.returned (.tuple #[nv ((numT u).1), .bool ((numT u).2)])
  first | rfl | (simp only [numT, bodyT, ht78, ht125, ht667, ht754, ht824, bsm] <;> rfl) | (simp [numT, bodyT, ht78, ht125, ht667, ht754, ht824]; done) | (exfalso; omega)
  have ht824d := of_decide_eq_false ht824
  refine wp_g0 [true, true, true, true, true, true, true, true, true] [] 91
    [ve (sv A680 ((trimN u).drop 1) cc681),
     ve (iv (((trimN u).drop 1).length : Int)),
     ve (.bool true),
     ve (.bool true),
     ve (sv A680 ((trimN u).drop 1) cc681),
     ve (.bool (((trimN u).drop 1).any (fun y : Nat => !dgtN y))),
     ve (.bool (!(((trimN u).drop 1).any (fun y : Nat => !dgtN y)))),
     ve (.bool (!(((trimN u).drop 1).any (fun y : Nat => !dgtN y)))),
     ve (.bool (!(((trimN u).drop 1).any (fun y : Nat => !dgtN y))))] hs740 (.eq (.eq (.eq (.eq (.eq (.eq (.eq (.eq (.eq (.nil)))))))))) ?_ ?_
  refine .o1 (tk rfl rfl fun _ w hn k => ⟨_, v_move rfl (k.fx 5 h745), rfl⟩) ?_
  refine .o1 (tk rfl rfl fun _ w hn k => ⟨_, v_lenR rfl elU (k.eq1 0 68 rfl), rfl⟩) ?_
  refine .o1 (tk rfl rfl fun _ w hn k => ⟨_, v_bin rfl (k.eq1 1 69 rfl) rfl (fun _ => rfl) (r_gtrK ht824), rfl⟩) ?_
  refine .o1 (tk rfl rfl fun _ w hn k => ⟨_, v_move rfl (k.eq1 2 70 rfl), rfl⟩) ?_
  refine .o1 (tg rfl rfl rfl (fun _ _ k => k.eq1 3 71 rfl) fun _ w hn k => ⟨_, v_move rfl (k.fx 5 h745), rfl⟩) ?_
  refine .o1 (cg rfl rfl rfl (fun _ _ k => k.eq1 3 71 rfl) rfl (fun _ w hn k => ⟨#[sv A680 ((trimN u).drop 1) cc681, .func (.func 68) #[] #[]], args2 (k.eq1 4 72 rfl) rfl, fun _ => by kernel_rfl, containsf_c _ ((trimN u).drop 1) _ _ (hr752.new_ hn) (hut.drop 1)⟩) fun _ => rfl) ?_
  refine .o1 (tg rfl rfl rfl (fun _ _ k => k.eq1 3 71 rfl) fun _ w hn k => ⟨_, v_not rfl (k.eq1 5 73 rfl), rfl⟩) ?_
  refine .o1 (tk rfl rfl fun _ w hn k => ⟨_, v_pickT rfl (k.eq1 3 71 rfl) (k.eq1 6 74 rfl), rfl⟩) ?_
  refine .o1 (tk rfl rfl fun _ w hn k => ⟨_, v_assign rfl (k.eq1 7 75 rfl), rfl⟩) ?_
  exact .nil
  intro a886 w887 hn888 ha889
  obtain ⟨hs890, hd891, hN903⟩ := aft ha889 hs740 hd741 hN753 hn888
  have h892 := ha889.fx 2 h742
  have h893 := ha889.fx 4 h743
  have h894 := ha889.fx 6 h744
  have h895 := ha889.fx 5 h745
  have h896 := ha889.fx 7 h746
  have h897 := ha889.fx 8 h747
  have h898 := ha889.ge 8 67 rfl
  have hb899 := hb749.new_ hn888
  have hb900 := hb750.new_ hn888
  have hb901 := hb751.new_ hn888
  have hr902 := hr752.new_ hn888
  refine st_nil (hK823 _ _ ?_)
  rcases Bool.eq_false_or_eq_true (((trimN u).drop 1).any (fun y : Nat => !dgtN y)) with ht904 | ht904
  have hv905 : a886.eval (.tmp 67) = .bool false := h898.trans (congrArg Value.bool (by rw [ht904]; rfl))
  refine wp_cond_false hv905 ?_
  refine wp_skip ?_
  refine hK734 _ _ ?_
  refine wp_seq_k fun K906 hK906 => ?_
  refine wp_seq_k fun K907 hK907 => ?_
  refine wp_g0 [true] [] 91
    [ve (.bool false)] hs890 (.eq (.nil)) ?_ ?_
  refine .o1 (tk rfl rfl fun _ w hn k => ⟨_, v_move rfl (k.fx 6 h894), rfl⟩) ?_
  exact .nil
  intro a908 w909 hn910 ha911
  obtain ⟨hs912, hd913, hN920⟩ := aft ha911 hs890 hd891 hN903 hn910
  have h914 := ha911.fx 2 h892
  have h915 := ha911.fx 7 h896
  have h916 := ha911.fx 8 h897
  have h917 := ha911.ge 0 86 rfl
  have hb918 := hb899.new_ hn910
  have hb919 := hb901.new_ hn910
  refine st_nil (hK907 _ _ ?_)
  refine wp_cond_false h917 ?_
  refine wp_skip ?_
  refine hK906 _ _ ?_
  refine wp_seq_k fun K921 hK921 => ?_
  refine wp_g [true, true, false, false] [1] [(2, false), (3, true)] 91
    [ve (nv (Nm.mk 2 0)),
     ve (.bool (!(strangeN (trimN u)))),
     vt,
     vt]
    [] newsNil hs912 (.eq (.eq (.tt (.tt (.nil))))) ?_ ?_ ?_
  refine .o1 (tk rfl rfl fun _ w hn k => ⟨_, v_load rfl (k.fx 7 h915) (l_two Try.isAgg23 Try.sizeOf23 (hb919.new_ hn)), rfl⟩) ?_
  refine .o3 ?_
  refine .off ?_
  refine .off ?_
  exact .nil
  intro i h
  simp only [List.contains_eq_mem, List.mem_cons, List.not_mem_nil, or_false, decide_eq_true_eq] at h
  subst h
  exact eager_take rfl rfl fun _ w hn k => ⟨.bool (!(strangeN (trimN u))), fun w => v_move rfl (k.fx 8 h916), rfl⟩
  intro a922 w923 hn924 ha925
  obtain ⟨hs926, hd927, hN932⟩ := aft ha925 hs912 hd913 hN920 hn924
  have h928 := ha925.fx 2 h914
  have h929 := ha925.ge 0 89 rfl
  have h930 := ha925.ge 1 90 rfl
  have hb931 := hb918.new_ hn924
  obtain ⟨w933, -, hst934, hb935, hu936, hf937⟩ := s_two (v0 := iv 2) (v1 := iv 0) Try.sizeOf23 rfl rfl rfl hb931
  refine st_act rfl rfl fun K938 hL939 => a_store' rfl h928 h929 hst934 (hL939 _ _ trivial ?_)
  have hN940 := hN932.trans hu936 (fun k hk hkb => by subst hkb; omega)
  refine st_take rfl rfl (y_assign (v := .bool (!(strangeN (trimN u)))) rfl h930) rfl ?_
  obtain ⟨a941, ha942⟩ : ∃ a', a' = a922.put (some 3) (.bool (!(strangeN (trimN u)))) := ⟨_, rfl⟩
  have hs943 : a941.tmps.size = 91 := by rw [ha942, put_size]; exact hs926
  have hd944 : a941.defers = [] := by rw [ha942, put_defers]; exact hd927
  have h945 := pn ha942 h928 (by decide)
  have h946 := pn ha942 h929 (by decide)
  have h947 := pn ha942 h930 (by decide)
  have h948 : a941.eval (.tmp 3) = .bool (!(strangeN (trimN u))) := by rw [ha942]; exact put_same _ _ _ (by rw [hs926]; decide)
  show stepsTo _ _ _ _ _ (a922.put (some 3) (.bool (!(strangeN (trimN u))))) _
  rw [← ha942]
  refine st_nil (hK921 _ _ ?_)
  refine wp_ret (ret_k hd944 (v := .tuple #[nv (Nm.mk 2 0), .bool (!(strangeN (trimN u)))]) (res_ct rfl h945 h948 (l_two Try.isAgg23 Try.sizeOf23 hb935)) ?_)
  refine ⟨?_, hN940⟩
  show Ending.returned (.tuple #[nv (Nm.mk 2 0), .bool (!(strangeN (trimN u)))]) = Ending.returned (.tuple #[nv ((numT u).1), .bool ((numT u).2)])
  first | rfl | (simp only [numT, bodyT, ht78, ht125, ht667, ht754, ht824, ht904, bsm] <;> rfl) | (simp [numT, bodyT, ht78, ht125, ht667, ht754, ht824, ht904]; done) | (exfalso; omega)
  have hv949 : a886.eval (.tmp 67) = .bool true := h898.trans (congrArg Value.bool (by rw [ht904]; rfl))
  refine wp_cond_true hv949 ?_
  refine wp_seq_k fun K950 hK950 => ?_
  refine wp_g0 [true, true, true, true, true, true, true] [] 91
    [ve (sv A680 ((trimN u).drop 1) cc681),
     ve (.tuple #[iv ((valR ((trimN u).drop 1) 0).1), .bool ((valR ((trimN u).drop 1) 0).2)]),
     ve (.tuple #[iv ((valR ((trimN u).drop 1) 0).1), .bool ((valR ((trimN u).drop 1) 0).2)]),
     ve (iv ((valR ((trimN u).drop 1) 0).1)),
     ve (.bool ((valR ((trimN u).drop 1) 0).2)),
     ve (iv ((valR ((trimN u).drop 1) 0).1)),
     ve (.bool ((valR ((trimN u).drop 1) 0).2))] hs890 (.eq (.eq (.eq (.eq (.eq (.eq (.eq (.nil)))))))) ?_ ?_
  refine .o1 (tk rfl rfl fun _ w hn k => ⟨_, v_move rfl (k.fx 5 h895), rfl⟩) ?_
  refine .o1 (ck rfl rfl rfl (fun _ w hn k => ⟨#[sv A680 ((trimN u).drop 1) cc681], args1 (k.eq1 0 77 rfl), fun _ => by kernel_rfl, value_c _ ((trimN u).drop 1) _ _ (hr902.new_ hn) (hut.drop 1) (digs_of ht904)⟩) fun _ => rfl) ?_
  refine .o1 (tk rfl rfl fun _ w hn k => ⟨_, v_move rfl (k.eq1 1 78 rfl), rfl⟩) ?_
  refine .o1 (tk rfl rfl fun _ w hn k => ⟨_, v_extract rfl (k.eq1 2 76 rfl) rfl, rfl⟩) ?_
  refine .o1 (tk rfl rfl fun _ w hn k => ⟨_, v_extract rfl (k.eq1 2 76 rfl) rfl, rfl⟩) ?_
  refine .o1 (tk rfl rfl fun _ w hn k => ⟨_, v_assign rfl (k.eq1 3 79 rfl), rfl⟩) ?_
  refine .o1 (tk rfl rfl fun _ w hn k => ⟨_, v_assign rfl (k.eq1 4 80 rfl), rfl⟩) ?_
  exact .nil
  intro a951 w952 hn953 ha954
  obtain ⟨hs955, hd956, hN966⟩ := aft ha954 hs890 hd891 hN903 hn953
  have h957 := ha954.fx 2 h892
  have h958 := ha954.fx 4 h893
  have h959 := ha954.fx 6 h894
  have h960 := ha954.fx 7 h896
  have h961 := ha954.ge 5 9 rfl
  have h962 := ha954.ge 6 10 rfl
  have hb963 := hb899.new_ hn953
  have hb964 := hb900.new_ hn953
  have hb965 := hb901.new_ hn953
  refine st_nil (hK950 _ _ ?_)
  refine wp_seq_k fun K967 hK967 => ?_
  refine wp_seq_k fun K968 hK968 => ?_
  refine wp_g0 [true, true] [] 91
    [ve (.bool ((valR ((trimN u).drop 1) 0).2)),
     ve (.bool (!((valR ((trimN u).drop 1) 0).2)))] hs955 (.eq (.eq (.nil))) ?_ ?_
  refine .o1 (tk rfl rfl fun _ w hn k => ⟨_, v_move rfl (k.fx 10 h962), rfl⟩) ?_
  refine .o1 (tk rfl rfl fun _ w hn k => ⟨_, v_not rfl (k.eq1 0 81 rfl), rfl⟩) ?_
  exact .nil
  intro a969 w970 hn971 ha972
  obtain ⟨hs973, hd974, hN984⟩ := aft ha972 hs955 hd956 hN966 hn971
  have h975 := ha972.fx 2 h957
  have h976 := ha972.fx 4 h958
  have h977 := ha972.fx 6 h959
  have h978 := ha972.fx 7 h960
  have h979 := ha972.fx 9 h961
  have h980 := ha972.ge 1 82 rfl
  have hb981 := hb963.new_ hn971
  have hb982 := hb964.new_ hn971
  have hb983 := hb965.new_ hn971
  refine st_nil (hK968 _ _ ?_)
  rcases Bool.eq_false_or_eq_true ((valR ((trimN u).drop 1) 0).2) with ht985 | ht985
  have hv986 : a969.eval (.tmp 82) = .bool false := h980.trans (congrArg Value.bool (by rw [ht985]; rfl))
  refine wp_cond_false hv986 ?_
  refine wp_skip ?_
  refine hK967 _ _ ?_
  refine wp_g0 [true, true, false, false] [(2, false), (3, true)] 91
    [ve (iv ((valR ((trimN u).drop 1) 0).1)),
     ve (nv (Nm.mk 0 ((valR ((trimN u).drop 1) 0).1))),
     vt,
     vt] hs973 (.eq (.eq (.tt (.tt (.nil))))) ?_ ?_
  refine .o1 (tk rfl rfl fun _ w hn k => ⟨_, v_move rfl (k.fx 9 h979), rfl⟩) ?_
  refine .o1 (tk rfl rfl fun _ w hn k => ⟨_, v_build (ps := [(1, iv ((valR ((trimN u).drop 1) 0).1))]) rfl (parts1 (k.eq1 0 84 rfl)) (by kernel_rfl), rfl⟩) ?_
  refine .off ?_
  refine .off ?_
  exact .nil
  intro a987 w988 hn989 ha990
  obtain ⟨hs991, hd992, hN999⟩ := aft ha990 hs973 hd974 hN984 hn989
  have h993 := ha990.fx 2 h975
  have h994 := ha990.fx 6 h977
  have h995 := ha990.fx 7 h978
  have h996 := ha990.ge 1 85 rfl
  have hb997 := hb981.new_ hn989
  have hb998 := hb983.new_ hn989
  obtain ⟨w1000, -, hst1001, hb1002, hu1003, hf1004⟩ := s_two (v0 := iv 0) (v1 := iv ((valR ((trimN u).drop 1) 0).1)) Try.sizeOf23 rfl rfl rfl hb998
  refine st_act rfl rfl fun K1005 hL1006 => a_store' rfl h995 h996 hst1001 (hL1006 _ _ trivial ?_)
  have hb1007 := hf1004 _ _ _ (hne706) hb997
  have hN1008 := hN999.trans hu1003 (fun k hk hkb => by subst hkb; omega)
  refine st_take rfl rfl (y_assign (v := .bool true) rfl rfl) rfl ?_
  obtain ⟨a1009, ha1010⟩ : ∃ a', a' = a987.put (some 8) (.bool true) := ⟨_, rfl⟩
  have hs1011 : a1009.tmps.size = 91 := by rw [ha1010, put_size]; exact hs991
  have hd1012 : a1009.defers = [] := by rw [ha1010, put_defers]; exact hd992
  have h1013 := pn ha1010 h993 (by decide)
  have h1014 := pn ha1010 h994 (by decide)
  have h1015 := pn ha1010 h995 (by decide)
  have h1016 := pn ha1010 h996 (by decide)
  have h1017 : a1009.eval (.tmp 8) = .bool true := by rw [ha1010]; exact put_same _ _ _ (by rw [hs991]; decide)
  show stepsTo _ _ _ _ _ (a987.put (some 8) (.bool true)) _
  rw [← ha1010]
  refine st_nil (hK734 _ _ ?_)
  refine wp_seq_k fun K1018 hK1018 => ?_
  refine wp_seq_k fun K1019 hK1019 => ?_
  refine wp_g0 [true] [] 91
    [ve (.bool false)] hs1011 (.eq (.nil)) ?_ ?_
  refine .o1 (tk rfl rfl fun _ w hn k => ⟨_, v_move rfl (k.fx 6 h1014), rfl⟩) ?_
  exact .nil
  intro a1020 w1021 hn1022 ha1023
  obtain ⟨hs1024, hd1025, hN1032⟩ := aft ha1023 hs1011 hd1012 hN1008 hn1022
  have h1026 := ha1023.fx 2 h1013
  have h1027 := ha1023.fx 7 h1015
  have h1028 := ha1023.fx 8 h1017
  have h1029 := ha1023.ge 0 86 rfl
  have hb1030 := hb1007.new_ hn1022
  have hb1031 := hb1002.new_ hn1022
  refine st_nil (hK1019 _ _ ?_)
  refine wp_cond_false h1029 ?_
  refine wp_skip ?_
  refine hK1018 _ _ ?_
  refine wp_seq_k fun K1033 hK1033 => ?_
  refine wp_g [true, true, false, false] [1] [(2, false), (3, true)] 91
    [ve (nv (Nm.mk 0 ((valR ((trimN u).drop 1) 0).1))),
     ve (.bool true),
     vt,
     vt]
    [] newsNil hs1024 (.eq (.eq (.tt (.tt (.nil))))) ?_ ?_ ?_
  refine .o1 (tk rfl rfl fun _ w hn k => ⟨_, v_load rfl (k.fx 7 h1027) (l_two Try.isAgg23 Try.sizeOf23 (hb1031.new_ hn)), rfl⟩) ?_
  refine .o3 ?_
  refine .off ?_
  refine .off ?_
  exact .nil
  intro i h
  simp only [List.contains_eq_mem, List.mem_cons, List.not_mem_nil, or_false, decide_eq_true_eq] at h
  subst h
  exact eager_take rfl rfl fun _ w hn k => ⟨.bool true, fun w => v_move rfl (k.fx 8 h1028), rfl⟩
  intro a1034 w1035 hn1036 ha1037
  obtain ⟨hs1038, hd1039, hN1044⟩ := aft ha1037 hs1024 hd1025 hN1032 hn1036
  have h1040 := ha1037.fx 2 h1026
  have h1041 := ha1037.ge 0 89 rfl
  have h1042 := ha1037.ge 1 90 rfl
  have hb1043 := hb1030.new_ hn1036
  obtain ⟨w1045, -, hst1046, hb1047, hu1048, hf1049⟩ := s_two (v0 := iv 0) (v1 := iv ((valR ((trimN u).drop 1) 0).1)) Try.sizeOf23 rfl rfl rfl hb1043
  refine st_act rfl rfl fun K1050 hL1051 => a_store' rfl h1040 h1041 hst1046 (hL1051 _ _ trivial ?_)
  have hN1052 := hN1044.trans hu1048 (fun k hk hkb => by subst hkb; omega)
  refine st_take rfl rfl (y_assign (v := .bool true) rfl h1042) rfl ?_
  obtain ⟨a1053, ha1054⟩ : ∃ a', a' = a1034.put (some 3) (.bool true) := ⟨_, rfl⟩
  have hs1055 : a1053.tmps.size = 91 := by rw [ha1054, put_size]; exact hs1038
  have hd1056 : a1053.defers = [] := by rw [ha1054, put_defers]; exact hd1039
  have h1057 := pn ha1054 h1040 (by decide)
  have h1058 := pn ha1054 h1041 (by decide)
  have h1059 := pn ha1054 h1042 (by decide)
  have h1060 : a1053.eval (.tmp 3) = .bool true := by rw [ha1054]; exact put_same _ _ _ (by rw [hs1038]; decide)
  show stepsTo _ _ _ _ _ (a1034.put (some 3) (.bool true)) _
  rw [← ha1054]
  refine st_nil (hK1033 _ _ ?_)
  refine wp_ret (ret_k hd1056 (v := .tuple #[nv (Nm.mk 0 ((valR ((trimN u).drop 1) 0).1)), .bool true]) (res_ct rfl h1057 h1060 (l_two Try.isAgg23 Try.sizeOf23 hb1047)) ?_)
  refine ⟨?_, hN1052⟩
  show Ending.returned (.tuple #[nv (Nm.mk 0 ((valR ((trimN u).drop 1) 0).1)), .bool true]) = Ending.returned (.tuple #[nv ((numT u).1), .bool ((numT u).2)])
  first | rfl | (simp only [numT, bodyT, ht78, ht125, ht667, ht754, ht824, ht904, ht985, bsm] <;> rfl) | (simp [numT, bodyT, ht78, ht125, ht667, ht754, ht824, ht904, ht985]; done) | (exfalso; omega)
  have hv1061 : a969.eval (.tmp 82) = .bool true := h980.trans (congrArg Value.bool (by rw [ht985]; rfl))
  refine wp_cond_true hv1061 ?_
  refine wp_seq_k fun K1062 hK1062 => ?_
  refine wp_g0 [true, false, false] [(1, false), (2, true)] 91
    [ve (nv (Nm.mk 2 0)),
     vt,
     vt] hs973 (.eq (.tt (.tt (.nil)))) ?_ ?_
  refine .o1 (tk rfl rfl fun _ w hn k => ⟨_, v_load rfl (k.fx 4 h976) (l_two Try.isAgg23 Try.sizeOf23 (hb982.new_ hn)), rfl⟩) ?_
  refine .off ?_
  refine .off ?_
  exact .nil
  intro a1063 w1064 hn1065 ha1066
  obtain ⟨hs1067, hd1068, hN1072⟩ := aft ha1066 hs973 hd974 hN984 hn1065
  have h1069 := ha1066.fx 2 h975
  have h1070 := ha1066.ge 0 83 rfl
  have hb1071 := hb981.new_ hn1065
  obtain ⟨w1073, -, hst1074, hb1075, hu1076, hf1077⟩ := s_two (v0 := iv 2) (v1 := iv 0) Try.sizeOf23 rfl rfl rfl hb1071
  refine st_act rfl rfl fun K1078 hL1079 => a_store' rfl h1069 h1070 hst1074 (hL1079 _ _ trivial ?_)
  have hN1080 := hN1072.trans hu1076 (fun k hk hkb => by subst hkb; omega)
  refine st_take rfl rfl (y_assign (v := .bool false) rfl rfl) rfl ?_
  obtain ⟨a1081, ha1082⟩ : ∃ a', a' = a1063.put (some 3) (.bool false) := ⟨_, rfl⟩
  have hs1083 : a1081.tmps.size = 91 := by rw [ha1082, put_size]; exact hs1067
  have hd1084 : a1081.defers = [] := by rw [ha1082, put_defers]; exact hd1068
  have h1085 := pn ha1082 h1069 (by decide)
  have h1086 := pn ha1082 h1070 (by decide)
  have h1087 : a1081.eval (.tmp 3) = .bool false := by rw [ha1082]; exact put_same _ _ _ (by rw [hs1067]; decide)
  show stepsTo _ _ _ _ _ (a1063.put (some 3) (.bool false)) _
  rw [← ha1082]
  refine st_nil (hK1062 _ _ ?_)
  refine wp_ret (ret_k hd1084 (v := .tuple #[nv (Nm.mk 2 0), .bool false]) (res_ct rfl h1085 h1087 (l_two Try.isAgg23 Try.sizeOf23 hb1075)) ?_)
  refine ⟨?_, hN1080⟩
  show Ending.returned (.tuple #[nv (Nm.mk 2 0), .bool false]) = Ending.returned (.tuple #[nv ((numT u).1), .bool ((numT u).2)])
  first | rfl | (simp only [numT, bodyT, ht78, ht125, ht667, ht754, ht824, ht904, ht985, bsm] <;> rfl) | (simp [numT, bodyT, ht78, ht125, ht667, ht754, ht824, ht904, ht985]; done) | (exfalso; omega)
  have ht667d := of_decide_eq_false ht667
  have hv1088 := hB h662 ht667
  refine wp_cond_false hv1088 ?_
  refine wp_skip ?_
  refine hK123 _ _ ?_
  refine wp_seq_k fun K1089 hK1089 => ?_
  refine wp_g [true, true, true, true, true, false, false] [3] [(5, false), (6, true)] 91
    [ve (nv (Nm.mk 2 0)),
     ve (sv A4 (trimN u) c4),
     ve (.bool (strangeN (trimN u))),
     ve (.bool (!(strangeN (trimN u)))),
     IsNew w652 23 [iv 0, iv 0],
     vt,
     vt]
    [4] (newsCons (fun v w h => IsNew.old h) newsNil) hs655 (.eq (.eq (.eq (.eq (.nw (.tt (.tt (.nil)))))))) ?_ ?_ ?_
  refine .o1 (tk rfl rfl fun _ w hn k => ⟨_, v_load rfl (k.fx 4 h659) (l_two Try.isAgg23 Try.sizeOf23 (hb664.new_ hn)), rfl⟩) ?_
  refine .o1 (tk rfl rfl fun _ w hn k => ⟨_, v_move rfl (k.fx 0 h657), rfl⟩) ?_
  refine .o1 (ck rfl rfl rfl (fun _ w hn k => ⟨#[sv A4 (trimN u) c4], args1 (k.eq1 1 59 rfl), fun _ => by kernel_rfl, strange_c _ (trimN u) _ _ (hr665.new_ hn) hut⟩) fun _ => rfl) ?_
  refine .o3 ?_
  refine .o2 (step_allocN (cs := [iv 0, iv 0]) (t := 23) rfl (noG rfl) (fun _ w hn k => rfl) (fun q _ hq hb => ⟨q, rfl, hq, hb⟩)) ?_
  refine .off ?_
  refine .off ?_
  exact .nil
  intro i h
  simp only [List.contains_eq_mem, List.mem_cons, List.not_mem_nil, or_false, decide_eq_true_eq] at h
  subst h
  exact eager_take rfl rfl fun _ w hn k => ⟨.bool (!(strangeN (trimN u))), fun w => v_not rfl (k.eq1 2 60 rfl), rfl⟩
  intro a1090 w1091 hn1092 ha1093
  obtain ⟨hs1094, hd1095, hN1112⟩ := aft ha1093 hs655 hd656 hN666 hn1092
  have h1096 := ha1093.fx 2 h658
  have h1097 := ha1093.fx 4 h659
  have h1098 := ha1093.fx 5 h660
  have h1099 := ha1093.fx 6 h661
  have h1100 := ha1093.ge 0 58 rfl
  have h1101 := ha1093.ge 3 61 rfl
  obtain ⟨q1103, h1102, hq1104, hb1105⟩ : IsNew _ _ _ _ _ := ha1093.got 4 7 rfl (by kernel_rfl)
  have hb1106 := hb663.new_ hn1092
  have hb1107 := hb664.new_ hn1092
  have hne1108 : q10 ≠ q1103 := by have h1 := hb663.lt; have h2 := hq1104; omega
  have hne1109 : q44 ≠ q1103 := by have h1 := hb664.lt; have h2 := hq1104; omega
  have hq1110 := Nat.le_trans hN666.size hq1104
  have hr1111 := hr665.new_ hn1092
  obtain ⟨w1113, -, hst1114, hb1115, hu1116, hf1117⟩ := s_two (v0 := iv 2) (v1 := iv 0) Try.sizeOf23 rfl rfl rfl hb1105
  refine st_act rfl rfl fun K1118 hL1119 => a_store' rfl h1102 h1100 hst1114 (hL1119 _ _ trivial ?_)
  have hr1120 := hr1111.far hb1105 hu1116 (by first | rfl | decide | simp [notK])
  have hb1121 := hf1117 _ _ _ (hne1108) hb1106
  have hb1122 := hf1117 _ _ _ (hne1109) hb1107
  have hN1123 := hN1112.trans hu1116 (fun k hk hkb => by subst hkb; omega)
  refine st_take rfl rfl (y_assign (v := .bool (!(strangeN (trimN u)))) rfl h1101) rfl ?_
  obtain ⟨a1124, ha1125⟩ : ∃ a', a' = a1090.put (some 8) (.bool (!(strangeN (trimN u)))) := ⟨_, rfl⟩
  have hs1126 : a1124.tmps.size = 91 := by rw [ha1125, put_size]; exact hs1094
  have hd1127 : a1124.defers = [] := by rw [ha1125, put_defers]; exact hd1095
  have h1128 := pn ha1125 h1096 (by decide)
  have h1129 := pn ha1125 h1097 (by decide)
  have h1130 := pn ha1125 h1098 (by decide)
  have h1131 := pn ha1125 h1099 (by decide)
  have h1132 := pn ha1125 h1100 (by decide)
  have h1133 := pn ha1125 h1101 (by decide)
  have h1134 := pn ha1125 h1102 (by decide)
  have h1135 : a1124.eval (.tmp 8) = .bool (!(strangeN (trimN u))) := by rw [ha1125]; exact put_same _ _ _ (by rw [hs1094]; decide)
  show stepsTo _ _ _ _ _ (a1090.put (some 8) (.bool (!(strangeN (trimN u))))) _
  rw [← ha1125]
  refine st_nil (hK1089 _ _ ?_)
  refine wp_seq_k fun K1136 hK1136 => ?_
  refine wp_block ?_
  refine wp_seq_k fun K1137 hK1137 => ?_
  refine wp_g0 [true, true, true, true] [] 91
    [ve (sv A4 (trimN u) c4),
     (fun (v_ : Value) (W : World) => ∃ (A55 : Option Addr) (c56 : Nat), v_ = sv A55 (asc ⟨#[73, 110, 102, 105, 110, 105, 116, 121]⟩) c56 ∧ SOwn W w1113.heap.size 66 .u16 A55 (asc ⟨#[73, 110, 102, 105, 110, 105, 116, 121]⟩) c56),
     ve (.bool (decide ((trimN u) = (asc ⟨#[73, 110, 102, 105, 110, 105, 116, 121]⟩)))),
     ve (.bool (decide ((trimN u) = (asc ⟨#[73, 110, 102, 105, 110, 105, 116, 121]⟩))))] hs1126 (.eq (.cons (fun v W W' hn ⟨A55, c56, he, h0⟩ => ⟨A55, c56, he, h0.new_ hn⟩) (.eq (.eq (.nil))))) ?_ ?_
  refine .o1 (tk rfl rfl fun _ w hn k => ⟨_, v_move rfl (k.fx 5 h1130), rfl⟩) ?_
  refine .o1 (tkC rfl (noG rfl) rfl fun _ w hn k => (by
        refine ⟨#[.string ⟨#[73, 110, 102, 105, 110, 105, 116, 121]⟩], _, args1 rfl, fun w => by kernel_rfl, ascii_c ⟨#[73, 110, 102, 105, 110, 105, 116, 121]⟩ _ (by first | omega | (show (_ : Nat) ≤ _; decide)), ?_⟩
        rintro e w' ⟨A53, c54, rfl, hmo0, hm⟩
        exact ⟨_, rfl, hm, ⟨A53, c54, rfl, (hmo0.more hn.size)⟩⟩)) ?_
  refine .o1 (tkC rfl (noG rfl) rfl fun _ w hn k => (by
        obtain ⟨A57, c58, e59, hx60⟩ : (fun (v_ : Value) (W : World) => ∃ (A55 : Option Addr) (c56 : Nat), v_ = sv A55 (asc ⟨#[73, 110, 102, 105, 110, 105, 116, 121]⟩) c56 ∧ SOwn W w1113.heap.size 66 .u16 A55 (asc ⟨#[73, 110, 102, 105, 110, 105, 116, 121]⟩) c56) _ _ := k.dep 1 64 (by kernel_rfl) (by kernel_rfl)
        refine ⟨#[sv A4 (trimN u) c4, sv A57 (asc ⟨#[73, 110, 102, 105, 110, 105, 116, 121]⟩) c58], _, args2 (k.eq1 0 63 rfl) e59, fun w => by kernel_rfl, tsame_c _ (trimN u) _ _ (asc ⟨#[73, 110, 102, 105, 110, 105, 116, 121]⟩) _ _ (hr1120.new_ hn) hx60.row, ?_⟩
        rintro e w' ⟨rfl, hm⟩
        exact ⟨_, rfl, hm, rfl⟩)) ?_
  refine .o1 (tk rfl rfl fun _ w hn k => ⟨_, v_assign rfl (k.eq1 2 65 rfl), rfl⟩) ?_
  exact .nil
  intro a1138 w1139 hn1140 ha1141
  obtain ⟨hs1142, hd1143, hN1155⟩ := aft ha1141 hs1126 hd1127 hN1123 hn1140
  have h1144 := ha1141.fx 2 h1128
  have h1145 := ha1141.fx 4 h1129
  have h1146 := ha1141.fx 5 h1130
  have h1147 := ha1141.fx 6 h1131
  have h1148 := ha1141.fx 7 h1134
  have h1149 := ha1141.fx 8 h1135
  have h1150 := ha1141.ge 3 62 rfl
  have hb1151 := hb1121.new_ hn1140
  have hb1152 := hb1122.new_ hn1140
  have hb1153 := hb1115.new_ hn1140
  have hr1154 := hr1120.new_ hn1140
  refine st_nil (hK1137 _ _ ?_)
  rcases Bool.eq_false_or_eq_true (decide ((trimN u) = (asc ⟨#[73, 110, 102, 105, 110, 105, 116, 121]⟩))) with ht1156 | ht1156
  have ht1156d := of_decide_eq_true ht1156
  have hv1157 := hB h1150 ht1156
  refine wp_cond_true hv1157 ?_
  refine wp_g0 [true, false] [(1, false)] 91
    [ve (nv (Nm.mk 3 0)),
     vt] hs1142 (.eq (.tt (.nil))) ?_ ?_
  refine .o1 (tk rfl rfl fun _ w hn k => ⟨_, v_build (ps := [(0, iv 3)]) rfl (parts1 rfl) (by kernel_rfl), rfl⟩) ?_
  refine .off ?_
  exact .nil
  intro a1158 w1159 hn1160 ha1161
  obtain ⟨hs1162, hd1163, hN1171⟩ := aft ha1161 hs1142 hd1143 hN1155 hn1160
  have h1164 := ha1161.fx 2 h1144
  have h1165 := ha1161.fx 6 h1147
  have h1166 := ha1161.fx 7 h1148
  have h1167 := ha1161.fx 8 h1149
  have h1168 := ha1161.ge 0 66 rfl
  have hb1169 := hb1151.new_ hn1160
  have hb1170 := hb1153.new_ hn1160
  obtain ⟨w1172, -, hst1173, hb1174, hu1175, hf1176⟩ := s_two (v0 := iv 3) (v1 := iv 0) Try.sizeOf23 rfl rfl rfl hb1170
  refine st_act rfl rfl fun K1177 hL1178 => a_store' rfl h1166 h1168 hst1173 (hL1178 _ _ trivial ?_)
  have hb1179 := hf1176 _ _ _ (hne1108) hb1169
  have hN1180 := hN1171.trans hu1175 (fun k hk hkb => by subst hkb; omega)
  refine st_nil (hK1136 _ _ ?_)
  refine wp_seq_k fun K1181 hK1181 => ?_
  refine wp_seq_k fun K1182 hK1182 => ?_
  refine wp_g0 [true] [] 91
    [ve (.bool false)] hs1162 (.eq (.nil)) ?_ ?_
  refine .o1 (tk rfl rfl fun _ w hn k => ⟨_, v_move rfl (k.fx 6 h1165), rfl⟩) ?_
  exact .nil
  intro a1183 w1184 hn1185 ha1186
  obtain ⟨hs1187, hd1188, hN1195⟩ := aft ha1186 hs1162 hd1163 hN1180 hn1185
  have h1189 := ha1186.fx 2 h1164
  have h1190 := ha1186.fx 7 h1166
  have h1191 := ha1186.fx 8 h1167
  have h1192 := ha1186.ge 0 86 rfl
  have hb1193 := hb1179.new_ hn1185
  have hb1194 := hb1174.new_ hn1185
  refine st_nil (hK1182 _ _ ?_)
  refine wp_cond_false h1192 ?_
  refine wp_skip ?_
  refine hK1181 _ _ ?_
  refine wp_seq_k fun K1196 hK1196 => ?_
  refine wp_g [true, true, false, false] [1] [(2, false), (3, true)] 91
    [ve (nv (Nm.mk 3 0)),
     ve (.bool (!(strangeN (trimN u)))),
     vt,
     vt]
    [] newsNil hs1187 (.eq (.eq (.tt (.tt (.nil))))) ?_ ?_ ?_
  refine .o1 (tk rfl rfl fun _ w hn k => ⟨_, v_load rfl (k.fx 7 h1190) (l_two Try.isAgg23 Try.sizeOf23 (hb1194.new_ hn)), rfl⟩) ?_
  refine .o3 ?_
  refine .off ?_
  refine .off ?_
  exact .nil
  intro i h
  simp only [List.contains_eq_mem, List.mem_cons, List.not_mem_nil, or_false, decide_eq_true_eq] at h
  subst h
  exact eager_take rfl rfl fun _ w hn k => ⟨.bool (!(strangeN (trimN u))), fun w => v_move rfl (k.fx 8 h1191), rfl⟩
  intro a1197 w1198 hn1199 ha1200
  obtain ⟨hs1201, hd1202, hN1207⟩ := aft ha1200 hs1187 hd1188 hN1195 hn1199
  have h1203 := ha1200.fx 2 h1189
  have h1204 := ha1200.ge 0 89 rfl
  have h1205 := ha1200.ge 1 90 rfl
  have hb1206 := hb1193.new_ hn1199
  obtain ⟨w1208, -, hst1209, hb1210, hu1211, hf1212⟩ := s_two (v0 := iv 3) (v1 := iv 0) Try.sizeOf23 rfl rfl rfl hb1206
  refine st_act rfl rfl fun K1213 hL1214 => a_store' rfl h1203 h1204 hst1209 (hL1214 _ _ trivial ?_)
  have hN1215 := hN1207.trans hu1211 (fun k hk hkb => by subst hkb; omega)
  refine st_take rfl rfl (y_assign (v := .bool (!(strangeN (trimN u)))) rfl h1205) rfl ?_
  obtain ⟨a1216, ha1217⟩ : ∃ a', a' = a1197.put (some 3) (.bool (!(strangeN (trimN u)))) := ⟨_, rfl⟩
  have hs1218 : a1216.tmps.size = 91 := by rw [ha1217, put_size]; exact hs1201
  have hd1219 : a1216.defers = [] := by rw [ha1217, put_defers]; exact hd1202
  have h1220 := pn ha1217 h1203 (by decide)
  have h1221 := pn ha1217 h1204 (by decide)
  have h1222 := pn ha1217 h1205 (by decide)
  have h1223 : a1216.eval (.tmp 3) = .bool (!(strangeN (trimN u))) := by rw [ha1217]; exact put_same _ _ _ (by rw [hs1201]; decide)
  show stepsTo _ _ _ _ _ (a1197.put (some 3) (.bool (!(strangeN (trimN u))))) _
  rw [← ha1217]
  refine st_nil (hK1196 _ _ ?_)
  refine wp_ret (ret_k hd1219 (v := .tuple #[nv (Nm.mk 3 0), .bool (!(strangeN (trimN u)))]) (res_ct rfl h1220 h1223 (l_two Try.isAgg23 Try.sizeOf23 hb1210)) ?_)
  refine ⟨?_, hN1215⟩
  show Ending.returned (.tuple #[nv (Nm.mk 3 0), .bool (!(strangeN (trimN u)))]) = Ending.returned (.tuple #[nv ((numT u).1), .bool ((numT u).2)])
  first | rfl | (simp only [numT, bodyT, ht78, ht125, ht667, ht1156, bsm] <;> rfl) | (simp [numT, bodyT, ht78, ht125, ht667, ht1156]; done) | (exfalso; omega)
  have ht1156d := of_decide_eq_false ht1156
  have hv1224 := hB h1150 ht1156
  refine wp_cond_false hv1224 ?_
  refine wp_seq_k fun K1225 hK1225 => ?_
  rcases Bool.eq_false_or_eq_true (decide (((trimN u).length : Int) ≤ 0)) with ht1226 | ht1226
  have ht1226d := of_decide_eq_true ht1226
  refine wp_g0 [true, true, true, true, true, true, true, true, true] [] 91
    [ve (sv A4 (trimN u) c4),
     ve (iv ((trimN u).length : Int)),
     ve (.bool false),
     ve (.bool false),
     ve undef,
     ve undef,
     ve undef,
     ve (.bool false),
     ve (.bool false)] hs1142 (.eq (.eq (.eq (.eq (.eq (.eq (.eq (.eq (.eq (.nil)))))))))) ?_ ?_
  refine .o1 (tk rfl rfl fun _ w hn k => ⟨_, v_move rfl (k.fx 5 h1146), rfl⟩) ?_
  refine .o1 (tk rfl rfl fun _ w hn k => ⟨_, v_lenR rfl elU (k.eq1 0 68 rfl), rfl⟩) ?_
  refine .o1 (tk rfl rfl fun _ w hn k => ⟨_, v_bin rfl (k.eq1 1 69 rfl) rfl (fun _ => rfl) (r_gtrK ht1226), rfl⟩) ?_
  refine .o1 (tk rfl rfl fun _ w hn k => ⟨_, v_move rfl (k.eq1 2 70 rfl), rfl⟩) ?_
  refine .o1 (sk rfl rfl rfl (fun _ _ _ k => k.eq1 3 71 rfl) (fun _ => rfl)) ?_
  refine .o1 (sk rfl rfl rfl (fun _ _ _ k => k.eq1 3 71 rfl) (fun _ => rfl)) ?_
  refine .o1 (sk rfl rfl rfl (fun _ _ _ k => k.eq1 3 71 rfl) (fun _ => rfl)) ?_
  refine .o1 (tk rfl rfl fun _ w hn k => ⟨_, v_pickF rfl (k.eq1 3 71 rfl) rfl, rfl⟩) ?_
  refine .o1 (tk rfl rfl fun _ w hn k => ⟨_, v_assign rfl (k.eq1 7 75 rfl), rfl⟩) ?_
  exact .nil
  intro a1227 w1228 hn1229 ha1230
  obtain ⟨hs1231, hd1232, hN1244⟩ := aft ha1230 hs1142 hd1143 hN1155 hn1229
  have h1233 := ha1230.fx 2 h1144
  have h1234 := ha1230.fx 4 h1145
  have h1235 := ha1230.fx 5 h1146
  have h1236 := ha1230.fx 6 h1147
  have h1237 := ha1230.fx 7 h1148
  have h1238 := ha1230.fx 8 h1149
  have h1239 := ha1230.ge 8 67 rfl
  have hb1240 := hb1151.new_ hn1229
  have hb1241 := hb1152.new_ hn1229
  have hb1242 := hb1153.new_ hn1229
  have hr1243 := hr1154.new_ hn1229
  refine st_nil (hK1225 _ _ ?_)
  refine wp_cond_false h1239 ?_
  refine wp_skip ?_
  refine hK1136 _ _ ?_
  refine wp_seq_k fun K1245 hK1245 => ?_
  refine wp_seq_k fun K1246 hK1246 => ?_
  refine wp_g0 [true] [] 91
    [ve (.bool false)] hs1231 (.eq (.nil)) ?_ ?_
  refine .o1 (tk rfl rfl fun _ w hn k => ⟨_, v_move rfl (k.fx 6 h1236), rfl⟩) ?_
  exact .nil
  intro a1247 w1248 hn1249 ha1250
  obtain ⟨hs1251, hd1252, hN1259⟩ := aft ha1250 hs1231 hd1232 hN1244 hn1249
  have h1253 := ha1250.fx 2 h1233
  have h1254 := ha1250.fx 7 h1237
  have h1255 := ha1250.fx 8 h1238
  have h1256 := ha1250.ge 0 86 rfl
  have hb1257 := hb1240.new_ hn1249
  have hb1258 := hb1242.new_ hn1249
  refine st_nil (hK1246 _ _ ?_)
  refine wp_cond_false h1256 ?_
  refine wp_skip ?_
  refine hK1245 _ _ ?_
  refine wp_seq_k fun K1260 hK1260 => ?_
  refine wp_g [true, true, false, false] [1] [(2, false), (3, true)] 91
    [ve (nv (Nm.mk 2 0)),
     ve (.bool (!(strangeN (trimN u)))),
     vt,
     vt]
    [] newsNil hs1251 (.eq (.eq (.tt (.tt (.nil))))) ?_ ?_ ?_
  refine .o1 (tk rfl rfl fun _ w hn k => ⟨_, v_load rfl (k.fx 7 h1254) (l_two Try.isAgg23 Try.sizeOf23 (hb1258.new_ hn)), rfl⟩) ?_
  refine .o3 ?_
  refine .off ?_
  refine .off ?_
  exact .nil
  intro i h
  simp only [List.contains_eq_mem, List.mem_cons, List.not_mem_nil, or_false, decide_eq_true_eq] at h
  subst h
  exact eager_take rfl rfl fun _ w hn k => ⟨.bool (!(strangeN (trimN u))), fun w => v_move rfl (k.fx 8 h1255), rfl⟩
  intro a1261 w1262 hn1263 ha1264
  obtain ⟨hs1265, hd1266, hN1271⟩ := aft ha1264 hs1251 hd1252 hN1259 hn1263
  have h1267 := ha1264.fx 2 h1253
  have h1268 := ha1264.ge 0 89 rfl
  have h1269 := ha1264.ge 1 90 rfl
  have hb1270 := hb1257.new_ hn1263
  obtain ⟨w1272, -, hst1273, hb1274, hu1275, hf1276⟩ := s_two (v0 := iv 2) (v1 := iv 0) Try.sizeOf23 rfl rfl rfl hb1270
  refine st_act rfl rfl fun K1277 hL1278 => a_store' rfl h1267 h1268 hst1273 (hL1278 _ _ trivial ?_)
  have hN1279 := hN1271.trans hu1275 (fun k hk hkb => by subst hkb; omega)
  refine st_take rfl rfl (y_assign (v := .bool (!(strangeN (trimN u)))) rfl h1269) rfl ?_
  obtain ⟨a1280, ha1281⟩ : ∃ a', a' = a1261.put (some 3) (.bool (!(strangeN (trimN u)))) := ⟨_, rfl⟩
  have hs1282 : a1280.tmps.size = 91 := by rw [ha1281, put_size]; exact hs1265
  have hd1283 : a1280.defers = [] := by rw [ha1281, put_defers]; exact hd1266
  have h1284 := pn ha1281 h1267 (by decide)
  have h1285 := pn ha1281 h1268 (by decide)
  have h1286 := pn ha1281 h1269 (by decide)
  have h1287 : a1280.eval (.tmp 3) = .bool (!(strangeN (trimN u))) := by rw [ha1281]; exact put_same _ _ _ (by rw [hs1265]; decide)
  show stepsTo _ _ _ _ _ (a1261.put (some 3) (.bool (!(strangeN (trimN u))))) _
  rw [← ha1281]
  refine st_nil (hK1260 _ _ ?_)
  refine wp_ret (ret_k hd1283 (v := .tuple #[nv (Nm.mk 2 0), .bool (!(strangeN (trimN u)))]) (res_ct rfl h1284 h1287 (l_two Try.isAgg23 Try.sizeOf23 hb1274)) ?_)
  refine ⟨?_, hN1279⟩
  show Ending.returned (.tuple #[nv (Nm.mk 2 0), .bool (!(strangeN (trimN u)))]) = Ending.returned (.tuple #[nv ((numT u).1), .bool ((numT u).2)])
  first | rfl | (simp only [numT, bodyT, ht78, ht125, ht667, ht1156, ht1226, bsm] <;> rfl) | (simp [numT, bodyT, ht78, ht125, ht667, ht1156, ht1226]; done) | (exfalso; omega)
  have ht1226d := of_decide_eq_false ht1226
  refine wp_g0 [true, true, true, true, true, true, true, true, true] [] 91
    [ve (sv A4 (trimN u) c4),
     ve (iv ((trimN u).length : Int)),
     ve (.bool true),
     ve (.bool true),
     ve (sv A4 (trimN u) c4),
     ve (.bool ((trimN u).any (fun y : Nat => !dgtN y))),
     ve (.bool (!((trimN u).any (fun y : Nat => !dgtN y)))),
     ve (.bool (!((trimN u).any (fun y : Nat => !dgtN y)))),
     ve (.bool (!((trimN u).any (fun y : Nat => !dgtN y))))] hs1142 (.eq (.eq (.eq (.eq (.eq (.eq (.eq (.eq (.eq (.nil)))))))))) ?_ ?_
  refine .o1 (tk rfl rfl fun _ w hn k => ⟨_, v_move rfl (k.fx 5 h1146), rfl⟩) ?_
  refine .o1 (tk rfl rfl fun _ w hn k => ⟨_, v_lenR rfl elU (k.eq1 0 68 rfl), rfl⟩) ?_
  refine .o1 (tk rfl rfl fun _ w hn k => ⟨_, v_bin rfl (k.eq1 1 69 rfl) rfl (fun _ => rfl) (r_gtrK ht1226), rfl⟩) ?_
  refine .o1 (tk rfl rfl fun _ w hn k => ⟨_, v_move rfl (k.eq1 2 70 rfl), rfl⟩) ?_
  refine .o1 (tg rfl rfl rfl (fun _ _ k => k.eq1 3 71 rfl) fun _ w hn k => ⟨_, v_move rfl (k.fx 5 h1146), rfl⟩) ?_
  refine .o1 (cg rfl rfl rfl (fun _ _ k => k.eq1 3 71 rfl) rfl (fun _ w hn k => ⟨#[sv A4 (trimN u) c4, .func (.func 68) #[] #[]], args2 (k.eq1 4 72 rfl) rfl, fun _ => by kernel_rfl, containsf_c _ (trimN u) _ _ (hr1154.new_ hn) hut⟩) fun _ => rfl) ?_
  refine .o1 (tg rfl rfl rfl (fun _ _ k => k.eq1 3 71 rfl) fun _ w hn k => ⟨_, v_not rfl (k.eq1 5 73 rfl), rfl⟩) ?_
  refine .o1 (tk rfl rfl fun _ w hn k => ⟨_, v_pickT rfl (k.eq1 3 71 rfl) (k.eq1 6 74 rfl), rfl⟩) ?_
  refine .o1 (tk rfl rfl fun _ w hn k => ⟨_, v_assign rfl (k.eq1 7 75 rfl), rfl⟩) ?_
  exact .nil
  intro a1288 w1289 hn1290 ha1291
  obtain ⟨hs1292, hd1293, hN1305⟩ := aft ha1291 hs1142 hd1143 hN1155 hn1290
  have h1294 := ha1291.fx 2 h1144
  have h1295 := ha1291.fx 4 h1145
  have h1296 := ha1291.fx 5 h1146
  have h1297 := ha1291.fx 6 h1147
  have h1298 := ha1291.fx 7 h1148
  have h1299 := ha1291.fx 8 h1149
  have h1300 := ha1291.ge 8 67 rfl
  have hb1301 := hb1151.new_ hn1290
  have hb1302 := hb1152.new_ hn1290
  have hb1303 := hb1153.new_ hn1290
  have hr1304 := hr1154.new_ hn1290
  refine st_nil (hK1225 _ _ ?_)
  rcases Bool.eq_false_or_eq_true ((trimN u).any (fun y : Nat => !dgtN y)) with ht1306 | ht1306
  have hv1307 : a1288.eval (.tmp 67) = .bool false := h1300.trans (congrArg Value.bool (by rw [ht1306]; rfl))
  refine wp_cond_false hv1307 ?_
  refine wp_skip ?_
  refine hK1136 _ _ ?_
  refine wp_seq_k fun K1308 hK1308 => ?_
  refine wp_seq_k fun K1309 hK1309 => ?_
  refine wp_g0 [true] [] 91
    [ve (.bool false)] hs1292 (.eq (.nil)) ?_ ?_
  refine .o1 (tk rfl rfl fun _ w hn k => ⟨_, v_move rfl (k.fx 6 h1297), rfl⟩) ?_
  exact .nil
  intro a1310 w1311 hn1312 ha1313
  obtain ⟨hs1314, hd1315, hN1322⟩ := aft ha1313 hs1292 hd1293 hN1305 hn1312
  have h1316 := ha1313.fx 2 h1294
  have h1317 := ha1313.fx 7 h1298
  have h1318 := ha1313.fx 8 h1299
  have h1319 := ha1313.ge 0 86 rfl
  have hb1320 := hb1301.new_ hn1312
  have hb1321 := hb1303.new_ hn1312
  refine st_nil (hK1309 _ _ ?_)
  refine wp_cond_false h1319 ?_
  refine wp_skip ?_
  refine hK1308 _ _ ?_
  refine wp_seq_k fun K1323 hK1323 => ?_
  refine wp_g [true, true, false, false] [1] [(2, false), (3, true)] 91
    [ve (nv (Nm.mk 2 0)),
     ve (.bool (!(strangeN (trimN u)))),
     vt,
     vt]
    [] newsNil hs1314 (.eq (.eq (.tt (.tt (.nil))))) ?_ ?_ ?_
  refine .o1 (tk rfl rfl fun _ w hn k => ⟨_, v_load rfl (k.fx 7 h1317) (l_two Try.isAgg23 Try.sizeOf23 (hb1321.new_ hn)), rfl⟩) ?_
  refine .o3 ?_
  refine .off ?_
  refine .off ?_
  exact .nil
  intro i h
  simp only [List.contains_eq_mem, List.mem_cons, List.not_mem_nil, or_false, decide_eq_true_eq] at h
  subst h
  exact eager_take rfl rfl fun _ w hn k => ⟨.bool (!(strangeN (trimN u))), fun w => v_move rfl (k.fx 8 h1318), rfl⟩
  intro a1324 w1325 hn1326 ha1327
  obtain ⟨hs1328, hd1329, hN1334⟩ := aft ha1327 hs1314 hd1315 hN1322 hn1326
  have h1330 := ha1327.fx 2 h1316
  have h1331 := ha1327.ge 0 89 rfl
  have h1332 := ha1327.ge 1 90 rfl
  have hb1333 := hb1320.new_ hn1326
  obtain ⟨w1335, -, hst1336, hb1337, hu1338, hf1339⟩ := s_two (v0 := iv 2) (v1 := iv 0) Try.sizeOf23 rfl rfl rfl hb1333
  refine st_act rfl rfl fun K1340 hL1341 => a_store' rfl h1330 h1331 hst1336 (hL1341 _ _ trivial ?_)
  have hN1342 := hN1334.trans hu1338 (fun k hk hkb => by subst hkb; omega)
  refine st_take rfl rfl (y_assign (v := .bool (!(strangeN (trimN u)))) rfl h1332) rfl ?_
  obtain ⟨a1343, ha1344⟩ : ∃ a', a' = a1324.put (some 3) (.bool (!(strangeN (trimN u)))) := ⟨_, rfl⟩
  have hs1345 : a1343.tmps.size = 91 := by rw [ha1344, put_size]; exact hs1328
  have hd1346 : a1343.defers = [] := by rw [ha1344, put_defers]; exact hd1329
  have h1347 := pn ha1344 h1330 (by decide)
  have h1348 := pn ha1344 h1331 (by decide)
  have h1349 := pn ha1344 h1332 (by decide)
  have h1350 : a1343.eval (.tmp 3) = .bool (!(strangeN (trimN u))) := by rw [ha1344]; exact put_same _ _ _ (by rw [hs1328]; decide)
  show stepsTo _ _ _ _ _ (a1324.put (some 3) (.bool (!(strangeN (trimN u))))) _
  rw [← ha1344]
  refine st_nil (hK1323 _ _ ?_)
  refine wp_ret (ret_k hd1346 (v := .tuple #[nv (Nm.mk 2 0), .bool (!(strangeN (trimN u)))]) (res_ct rfl h1347 h1350 (l_two Try.isAgg23 Try.sizeOf23 hb1337)) ?_)
  refine ⟨?_, hN1342⟩
  show Ending.returned (.tuple #[nv (Nm.mk 2 0), .bool (!(strangeN (trimN u)))]) = Ending.returned (.tuple #[nv ((numT u).1), .bool ((numT u).2)])
  first | rfl | (simp only [numT, bodyT, ht78, ht125, ht667, ht1156, ht1226, ht1306, bsm] <;> rfl) | (simp [numT, bodyT, ht78, ht125, ht667, ht1156, ht1226, ht1306]; done) | (exfalso; omega)
  have hv1351 : a1288.eval (.tmp 67) = .bool true := h1300.trans (congrArg Value.bool (by rw [ht1306]; rfl))
  refine wp_cond_true hv1351 ?_
  refine wp_seq_k fun K1352 hK1352 => ?_
  refine wp_g0 [true, true, true, true, true, true, true] [] 91
    [ve (sv A4 (trimN u) c4),
     ve (.tuple #[iv ((valR (trimN u) 0).1), .bool ((valR (trimN u) 0).2)]),
     ve (.tuple #[iv ((valR (trimN u) 0).1), .bool ((valR (trimN u) 0).2)]),
     ve (iv ((valR (trimN u) 0).1)),
     ve (.bool ((valR (trimN u) 0).2)),
     ve (iv ((valR (trimN u) 0).1)),
     ve (.bool ((valR (trimN u) 0).2))] hs1292 (.eq (.eq (.eq (.eq (.eq (.eq (.eq (.nil)))))))) ?_ ?_
  refine .o1 (tk rfl rfl fun _ w hn k => ⟨_, v_move rfl (k.fx 5 h1296), rfl⟩) ?_
  refine .o1 (ck rfl rfl rfl (fun _ w hn k => ⟨#[sv A4 (trimN u) c4], args1 (k.eq1 0 77 rfl), fun _ => by kernel_rfl, value_c _ (trimN u) _ _ (hr1304.new_ hn) hut (digs_of ht1306)⟩) fun _ => rfl) ?_
  refine .o1 (tk rfl rfl fun _ w hn k => ⟨_, v_move rfl (k.eq1 1 78 rfl), rfl⟩) ?_
  refine .o1 (tk rfl rfl fun _ w hn k => ⟨_, v_extract rfl (k.eq1 2 76 rfl) rfl, rfl⟩) ?_
  refine .o1 (tk rfl rfl fun _ w hn k => ⟨_, v_extract rfl (k.eq1 2 76 rfl) rfl, rfl⟩) ?_
  refine .o1 (tk rfl rfl fun _ w hn k => ⟨_, v_assign rfl (k.eq1 3 79 rfl), rfl⟩) ?_
  refine .o1 (tk rfl rfl fun _ w hn k => ⟨_, v_assign rfl (k.eq1 4 80 rfl), rfl⟩) ?_
  exact .nil
  intro a1353 w1354 hn1355 ha1356
  obtain ⟨hs1357, hd1358, hN1368⟩ := aft ha1356 hs1292 hd1293 hN1305 hn1355
  have h1359 := ha1356.fx 2 h1294
  have h1360 := ha1356.fx 4 h1295
  have h1361 := ha1356.fx 6 h1297
  have h1362 := ha1356.fx 7 h1298
  have h1363 := ha1356.ge 5 9 rfl
  have h1364 := ha1356.ge 6 10 rfl
  have hb1365 := hb1301.new_ hn1355
  have hb1366 := hb1302.new_ hn1355
  have hb1367 := hb1303.new_ hn1355
  refine st_nil (hK1352 _ _ ?_)
  refine wp_seq_k fun K1369 hK1369 => ?_
  refine wp_seq_k fun K1370 hK1370 => ?_
  refine wp_g0 [true, true] [] 91
    [ve (.bool ((valR (trimN u) 0).2)),
     ve (.bool (!((valR (trimN u) 0).2)))] hs1357 (.eq (.eq (.nil))) ?_ ?_
  refine .o1 (tk rfl rfl fun _ w hn k => ⟨_, v_move rfl (k.fx 10 h1364), rfl⟩) ?_
  refine .o1 (tk rfl rfl fun _ w hn k => ⟨_, v_not rfl (k.eq1 0 81 rfl), rfl⟩) ?_
  exact .nil
  intro a1371 w1372 hn1373 ha1374
  obtain ⟨hs1375, hd1376, hN1386⟩ := aft ha1374 hs1357 hd1358 hN1368 hn1373
  have h1377 := ha1374.fx 2 h1359
  have h1378 := ha1374.fx 4 h1360
  have h1379 := ha1374.fx 6 h1361
  have h1380 := ha1374.fx 7 h1362
  have h1381 := ha1374.fx 9 h1363
  have h1382 := ha1374.ge 1 82 rfl
  have hb1383 := hb1365.new_ hn1373
  have hb1384 := hb1366.new_ hn1373
  have hb1385 := hb1367.new_ hn1373
  refine st_nil (hK1370 _ _ ?_)
  rcases Bool.eq_false_or_eq_true ((valR (trimN u) 0).2) with ht1387 | ht1387
  have hv1388 : a1371.eval (.tmp 82) = .bool false := h1382.trans (congrArg Value.bool (by rw [ht1387]; rfl))
  refine wp_cond_false hv1388 ?_
  refine wp_skip ?_
  refine hK1369 _ _ ?_
  refine wp_g0 [true, true, false, false] [(2, false), (3, true)] 91
    [ve (iv ((valR (trimN u) 0).1)),
     ve (nv (Nm.mk 0 ((valR (trimN u) 0).1))),
     vt,
     vt] hs1375 (.eq (.eq (.tt (.tt (.nil))))) ?_ ?_
  refine .o1 (tk rfl rfl fun _ w hn k => ⟨_, v_move rfl (k.fx 9 h1381), rfl⟩) ?_
  refine .o1 (tk rfl rfl fun _ w hn k => ⟨_, v_build (ps := [(1, iv ((valR (trimN u) 0).1))]) rfl (parts1 (k.eq1 0 84 rfl)) (by kernel_rfl), rfl⟩) ?_
  refine .off ?_
  refine .off ?_
  exact .nil
  intro a1389 w1390 hn1391 ha1392
  obtain ⟨hs1393, hd1394, hN1401⟩ := aft ha1392 hs1375 hd1376 hN1386 hn1391
  have h1395 := ha1392.fx 2 h1377
  have h1396 := ha1392.fx 6 h1379
  have h1397 := ha1392.fx 7 h1380
  have h1398 := ha1392.ge 1 85 rfl
  have hb1399 := hb1383.new_ hn1391
  have hb1400 := hb1385.new_ hn1391
  obtain ⟨w1402, -, hst1403, hb1404, hu1405, hf1406⟩ := s_two (v0 := iv 0) (v1 := iv ((valR (trimN u) 0).1)) Try.sizeOf23 rfl rfl rfl hb1400
  refine st_act rfl rfl fun K1407 hL1408 => a_store' rfl h1397 h1398 hst1403 (hL1408 _ _ trivial ?_)
  have hb1409 := hf1406 _ _ _ (hne1108) hb1399
  have hN1410 := hN1401.trans hu1405 (fun k hk hkb => by subst hkb; omega)
  refine st_take rfl rfl (y_assign (v := .bool true) rfl rfl) rfl ?_
  obtain ⟨a1411, ha1412⟩ : ∃ a', a' = a1389.put (some 8) (.bool true) := ⟨_, rfl⟩
  have hs1413 : a1411.tmps.size = 91 := by rw [ha1412, put_size]; exact hs1393
  have hd1414 : a1411.defers = [] := by rw [ha1412, put_defers]; exact hd1394
  have h1415 := pn ha1412 h1395 (by decide)
  have h1416 := pn ha1412 h1396 (by decide)
  have h1417 := pn ha1412 h1397 (by decide)
  have h1418 := pn ha1412 h1398 (by decide)
  have h1419 : a1411.eval (.tmp 8) = .bool true := by rw [ha1412]; exact put_same _ _ _ (by rw [hs1393]; decide)
  show stepsTo _ _ _ _ _ (a1389.put (some 8) (.bool true)) _
  rw [← ha1412]
  refine st_nil (hK1136 _ _ ?_)
  refine wp_seq_k fun K1420 hK1420 => ?_
  refine wp_seq_k fun K1421 hK1421 => ?_
  refine wp_g0 [true] [] 91
    [ve (.bool false)] hs1413 (.eq (.nil)) ?_ ?_
  refine .o1 (tk rfl rfl fun _ w hn k => ⟨_, v_move rfl (k.fx 6 h1416), rfl⟩) ?_
  exact .nil
  intro a1422 w1423 hn1424 ha1425
  obtain ⟨hs1426, hd1427, hN1434⟩ := aft ha1425 hs1413 hd1414 hN1410 hn1424
  have h1428 := ha1425.fx 2 h1415
  have h1429 := ha1425.fx 7 h1417
  have h1430 := ha1425.fx 8 h1419
  have h1431 := ha1425.ge 0 86 rfl
  have hb1432 := hb1409.new_ hn1424
  have hb1433 := hb1404.new_ hn1424
  refine st_nil (hK1421 _ _ ?_)
  refine wp_cond_false h1431 ?_
  refine wp_skip ?_
  refine hK1420 _ _ ?_
  refine wp_seq_k fun K1435 hK1435 => ?_
  refine wp_g [true, true, false, false] [1] [(2, false), (3, true)] 91
    [ve (nv (Nm.mk 0 ((valR (trimN u) 0).1))),
     ve (.bool true),
     vt,
     vt]
    [] newsNil hs1426 (.eq (.eq (.tt (.tt (.nil))))) ?_ ?_ ?_
  refine .o1 (tk rfl rfl fun _ w hn k => ⟨_, v_load rfl (k.fx 7 h1429) (l_two Try.isAgg23 Try.sizeOf23 (hb1433.new_ hn)), rfl⟩) ?_
  refine .o3 ?_
  refine .off ?_
  refine .off ?_
  exact .nil
  intro i h
  simp only [List.contains_eq_mem, List.mem_cons, List.not_mem_nil, or_false, decide_eq_true_eq] at h
  subst h
  exact eager_take rfl rfl fun _ w hn k => ⟨.bool true, fun w => v_move rfl (k.fx 8 h1430), rfl⟩
  intro a1436 w1437 hn1438 ha1439
  obtain ⟨hs1440, hd1441, hN1446⟩ := aft ha1439 hs1426 hd1427 hN1434 hn1438
  have h1442 := ha1439.fx 2 h1428
  have h1443 := ha1439.ge 0 89 rfl
  have h1444 := ha1439.ge 1 90 rfl
  have hb1445 := hb1432.new_ hn1438
  obtain ⟨w1447, -, hst1448, hb1449, hu1450, hf1451⟩ := s_two (v0 := iv 0) (v1 := iv ((valR (trimN u) 0).1)) Try.sizeOf23 rfl rfl rfl hb1445
  refine st_act rfl rfl fun K1452 hL1453 => a_store' rfl h1442 h1443 hst1448 (hL1453 _ _ trivial ?_)
  have hN1454 := hN1446.trans hu1450 (fun k hk hkb => by subst hkb; omega)
  refine st_take rfl rfl (y_assign (v := .bool true) rfl h1444) rfl ?_
  obtain ⟨a1455, ha1456⟩ : ∃ a', a' = a1436.put (some 3) (.bool true) := ⟨_, rfl⟩
  have hs1457 : a1455.tmps.size = 91 := by rw [ha1456, put_size]; exact hs1440
  have hd1458 : a1455.defers = [] := by rw [ha1456, put_defers]; exact hd1441
  have h1459 := pn ha1456 h1442 (by decide)
  have h1460 := pn ha1456 h1443 (by decide)
  have h1461 := pn ha1456 h1444 (by decide)
  have h1462 : a1455.eval (.tmp 3) = .bool true := by rw [ha1456]; exact put_same _ _ _ (by rw [hs1440]; decide)
  show stepsTo _ _ _ _ _ (a1436.put (some 3) (.bool true)) _
  rw [← ha1456]
  refine st_nil (hK1435 _ _ ?_)
  refine wp_ret (ret_k hd1458 (v := .tuple #[nv (Nm.mk 0 ((valR (trimN u) 0).1)), .bool true]) (res_ct rfl h1459 h1462 (l_two Try.isAgg23 Try.sizeOf23 hb1449)) ?_)
  refine ⟨?_, hN1454⟩
  show Ending.returned (.tuple #[nv (Nm.mk 0 ((valR (trimN u) 0).1)), .bool true]) = Ending.returned (.tuple #[nv ((numT u).1), .bool ((numT u).2)])
  first | rfl | (simp only [numT, bodyT, ht78, ht125, ht667, ht1156, ht1226, ht1306, ht1387, bsm] <;> rfl) | (simp [numT, bodyT, ht78, ht125, ht667, ht1156, ht1226, ht1306, ht1387]; done) | (exfalso; omega)
  have hv1463 : a1371.eval (.tmp 82) = .bool true := h1382.trans (congrArg Value.bool (by rw [ht1387]; rfl))
  refine wp_cond_true hv1463 ?_
  refine wp_seq_k fun K1464 hK1464 => ?_
  refine wp_g0 [true, false, false] [(1, false), (2, true)] 91
    [ve (nv (Nm.mk 2 0)),
     vt,
     vt] hs1375 (.eq (.tt (.tt (.nil)))) ?_ ?_
  refine .o1 (tk rfl rfl fun _ w hn k => ⟨_, v_load rfl (k.fx 4 h1378) (l_two Try.isAgg23 Try.sizeOf23 (hb1384.new_ hn)), rfl⟩) ?_
  refine .off ?_
  refine .off ?_
  exact .nil
  intro a1465 w1466 hn1467 ha1468
  obtain ⟨hs1469, hd1470, hN1474⟩ := aft ha1468 hs1375 hd1376 hN1386 hn1467
  have h1471 := ha1468.fx 2 h1377
  have h1472 := ha1468.ge 0 83 rfl
  have hb1473 := hb1383.new_ hn1467
  obtain ⟨w1475, -, hst1476, hb1477, hu1478, hf1479⟩ := s_two (v0 := iv 2) (v1 := iv 0) Try.sizeOf23 rfl rfl rfl hb1473
  refine st_act rfl rfl fun K1480 hL1481 => a_store' rfl h1471 h1472 hst1476 (hL1481 _ _ trivial ?_)
  have hN1482 := hN1474.trans hu1478 (fun k hk hkb => by subst hkb; omega)
  refine st_take rfl rfl (y_assign (v := .bool false) rfl rfl) rfl ?_
  obtain ⟨a1483, ha1484⟩ : ∃ a', a' = a1465.put (some 3) (.bool false) := ⟨_, rfl⟩
  have hs1485 : a1483.tmps.size = 91 := by rw [ha1484, put_size]; exact hs1469
  have hd1486 : a1483.defers = [] := by rw [ha1484, put_defers]; exact hd1470
  have h1487 := pn ha1484 h1471 (by decide)
  have h1488 := pn ha1484 h1472 (by decide)
  have h1489 : a1483.eval (.tmp 3) = .bool false := by rw [ha1484]; exact put_same _ _ _ (by rw [hs1469]; decide)
  show stepsTo _ _ _ _ _ (a1465.put (some 3) (.bool false)) _
  rw [← ha1484]
  refine st_nil (hK1464 _ _ ?_)
  refine wp_ret (ret_k hd1486 (v := .tuple #[nv (Nm.mk 2 0), .bool false]) (res_ct rfl h1487 h1489 (l_two Try.isAgg23 Try.sizeOf23 hb1477)) ?_)
  refine ⟨?_, hN1482⟩
  show Ending.returned (.tuple #[nv (Nm.mk 2 0), .bool false]) = Ending.returned (.tuple #[nv ((numT u).1), .bool ((numT u).2)])
  first | rfl | (simp only [numT, bodyT, ht78, ht125, ht667, ht1156, ht1226, ht1306, ht1387, bsm] <;> rfl) | (simp [numT, bodyT, ht78, ht125, ht667, ht1156, ht1226, ht1306, ht1387]; done) | (exfalso; omega)
  intro K1490 hK1490
  refine wp_block ?_
  refine wp_loopX (fun (mm : Nat) (aa : Act) (ww : World) => ∃ (cu2 : List Nat) (A2 : Option Addr) (c2 : Nat), mm = cu2.length ∧ aa.tmps.size = 91 ∧ aa.defers = [] ∧ New w ww ∧ aa.eval (.tmp 0) = sv A2 cu2 c2 ∧ aa.eval (.tmp 2) = pv q10 ∧ Blk ww q10 23 [iv 0, iv 0] ∧ SRow ww .u16 A2 cu2 c2 ∧ (rtrimN cu2 = trimN u) ∧ (U16s cu2)) (fun mm => mm) ⟨_, ⟨(u.dropWhile blankN), A3, c3, rfl, hs17, hd18, hN19, h20, h21, hb22, hr23, rfl, (hu.dw _)⟩⟩ ?_
  rintro mm a1491 w1492 ⟨cu2, A2, c2, hmm, hs1493, hd1494, hN1495, h1496, h1497, hb1498, hr1499, hc2, hcu2⟩
  refine wp_seq_k fun K1500 hK1500 => ?_
  refine wp_seq_k fun K1501 hK1501 => ?_
  have hix2 : ((cu2.length : Int) - 1).toNat = cu2.length - 1 := by omega
  rcases Bool.eq_false_or_eq_true (decide ((cu2.length : Int) ≤ 0)) with ht1502 | ht1502
  have ht1502d := of_decide_eq_true ht1502
  have hb := hcu2.at16 ((cu2.length : Int) - 1).toNat
  have hm2 := hr1499.max
  refine wp_g0 [true, true, true, true, true, true, true, true, true, true, true, true] [] 91
    [ve (sv A2 cu2 c2),
     ve (iv (cu2.length : Int)),
     ve (.bool false),
     ve (.bool false),
     ve undef,
     ve undef,
     ve undef,
     ve undef,
     ve undef,
     ve undef,
     ve undef,
     ve (.bool false)] hs1493 (.eq (.eq (.eq (.eq (.eq (.eq (.eq (.eq (.eq (.eq (.eq (.eq (.nil))))))))))))) ?_ ?_
  refine .o1 (tk rfl rfl fun _ w hn k => ⟨_, v_move rfl (k.fx 0 h1496), rfl⟩) ?_
  refine .o1 (tk rfl rfl fun _ w hn k => ⟨_, v_lenR rfl elU (k.eq1 0 22 rfl), rfl⟩) ?_
  refine .o1 (tk rfl rfl fun _ w hn k => ⟨_, v_bin rfl (k.eq1 1 23 rfl) rfl (fun _ => rfl) (r_gtrK ht1502), rfl⟩) ?_
  refine .o1 (tk rfl rfl fun _ w hn k => ⟨_, v_move rfl (k.eq1 2 24 rfl), rfl⟩) ?_
  refine .o1 (sk rfl rfl rfl (fun _ _ _ k => k.eq1 3 25 rfl) (fun _ => rfl)) ?_
  refine .o1 (sk rfl rfl rfl (fun _ _ _ k => k.eq1 3 25 rfl) (fun _ => rfl)) ?_
  refine .o1 (sk rfl rfl rfl (fun _ _ _ k => k.eq1 3 25 rfl) (fun _ => rfl)) ?_
  refine .o1 (sk rfl rfl rfl (fun _ _ _ k => k.eq1 3 25 rfl) (fun _ => rfl)) ?_
  refine .o1 (sk rfl rfl rfl (fun _ _ _ k => k.eq1 3 25 rfl) (fun _ => rfl)) ?_
  refine .o1 (sk rfl rfl rfl (fun _ _ _ k => k.eq1 3 25 rfl) (fun _ => rfl)) ?_
  refine .o1 (sk rfl rfl rfl (fun _ _ _ k => k.eq1 3 25 rfl) (fun _ => rfl)) ?_
  refine .o1 (tk rfl rfl fun _ w hn k => ⟨_, v_pickF rfl (k.eq1 3 25 rfl) rfl, rfl⟩) ?_
  exact .nil
  intro a1503 w1504 hn1505 ha1506
  obtain ⟨hs1507, hd1508, hN1514⟩ := aft ha1506 hs1493 hd1494 hN1495 hn1505
  have h1509 := ha1506.fx 0 h1496
  have h1510 := ha1506.fx 2 h1497
  have h1511 := ha1506.ge 11 33 rfl
  have hb1512 := hb1498.new_ hn1505
  have hr1513 := hr1499.new_ hn1505
  refine st_nil (hK1501 _ _ ?_)
  refine wp_cond_false h1511 ?_
  refine wp_exit ?_
  have hrt := rt_end (l := cu2) (Or.inl (by omega))
  have he1515 : cu2 = (trimN u) := hrt.symm.trans hc2
  rw [he1515] at h1509
  rw [he1515] at hr1513
  exact hK1490 _ _ ⟨A2, c2, hs1507, hd1508, hN1514, h1509, h1510, hb1512, hr1513⟩
  have ht1502d := of_decide_eq_false ht1502
  have hb := hcu2.at16 ((cu2.length : Int) - 1).toNat
  have hm2 := hr1499.max
  refine wp_g0 [true, true, true, true, true, true, true, true, true, true, true, true] [] 91
    [ve (sv A2 cu2 c2),
     ve (iv (cu2.length : Int)),
     ve (.bool true),
     ve (.bool true),
     ve (sv A2 cu2 c2),
     ve (sv A2 cu2 c2),
     ve (iv (cu2.length : Int)),
     ve (iv ((cu2.length : Int) - 1)),
     (fun (v_ : Value) (W : World) => ∃ (b63 : Nat) (o64 : Nat), v_ = .pointer (some ⟨b63, o64, none⟩) ∧ SElem W b63 o64 (.int .u16 ((cu2.getD (((cu2.length : Int) - 1 : Int).toNat) 0 : Nat) : Int))),
     ve (.int .u16 ((cu2.getD (((cu2.length : Int) - 1 : Int).toNat) 0 : Nat) : Int)),
     ve (.bool (blankN (cu2.getD (((cu2.length : Int) - 1 : Int).toNat) 0))),
     ve (.bool (blankN (cu2.getD (((cu2.length : Int) - 1 : Int).toNat) 0)))] hs1493 (.eq (.eq (.eq (.eq (.eq (.eq (.eq (.eq (.cons (fun v W W' hn ⟨b63, o64, he, h0⟩ => ⟨b63, o64, he, h0.new_ hn⟩) (.eq (.eq (.eq (.nil))))))))))))) ?_ ?_
  refine .o1 (tk rfl rfl fun _ w hn k => ⟨_, v_move rfl (k.fx 0 h1496), rfl⟩) ?_
  refine .o1 (tk rfl rfl fun _ w hn k => ⟨_, v_lenR rfl elU (k.eq1 0 22 rfl), rfl⟩) ?_
  refine .o1 (tk rfl rfl fun _ w hn k => ⟨_, v_bin rfl (k.eq1 1 23 rfl) rfl (fun _ => rfl) (r_gtrK ht1502), rfl⟩) ?_
  refine .o1 (tk rfl rfl fun _ w hn k => ⟨_, v_move rfl (k.eq1 2 24 rfl), rfl⟩) ?_
  refine .o1 (tg rfl rfl rfl (fun _ _ k => k.eq1 3 25 rfl) fun _ w hn k => ⟨_, v_move rfl (k.fx 0 h1496), rfl⟩) ?_
  refine .o1 (tg rfl rfl rfl (fun _ _ k => k.eq1 3 25 rfl) fun _ w hn k => ⟨_, v_move rfl (k.fx 0 h1496), rfl⟩) ?_
  refine .o1 (tg rfl rfl rfl (fun _ _ k => k.eq1 3 25 rfl) fun _ w hn k => ⟨_, v_lenR rfl elU (k.eq1 5 27 rfl), rfl⟩) ?_
  refine .o1 (tg rfl rfl rfl (fun _ _ k => k.eq1 3 25 rfl) fun _ w hn k => ⟨_, v_bin rfl (k.eq1 6 28 rfl) rfl (fun _ => rfl) (r_sub rfl (by omega)), rfl⟩) ?_
  refine .o1 (tg rfl rfl rfl (fun _ _ k => k.eq1 3 25 rfl) fun _ w hn k => (by
        exact x_eaddr (k := .u16) rfl elU (k.eq1 4 26 rfl) (k.eq1 7 29 rfl) (hr1499.new_ hn) (by omega) fun b61 o62 hme => ⟨b61, o62, rfl, hme⟩)) ?_
  refine .o1 (tg rfl rfl rfl (fun _ _ k => k.eq1 3 25 rfl) fun _ w hn k => (by
        obtain ⟨b65, o66, e67, hx68⟩ : (fun (v_ : Value) (W : World) => ∃ (b63 : Nat) (o64 : Nat), v_ = .pointer (some ⟨b63, o64, none⟩) ∧ SElem W b63 o64 (.int .u16 ((cu2.getD (((cu2.length : Int) - 1 : Int).toNat) 0 : Nat) : Int))) _ _ := k.dep 8 30 (by kernel_rfl) (by kernel_rfl)
        exact ⟨_, v_load rfl e67 (l_one Try.isAgg66 hx68.1), rfl⟩)) ?_
  refine .o1 (cg rfl rfl rfl (fun _ _ k => k.eq1 3 25 rfl) rfl (fun _ w hn k => ⟨#[.int .u16 ((cu2.getD (((cu2.length : Int) - 1 : Int).toNat) 0 : Nat) : Int)], args1 (k.eq1 9 31 rfl), fun _ => by kernel_rfl, blank_c (cu2.getD (((cu2.length : Int) - 1 : Int).toNat) 0) _ (by omega)⟩) fun _ => rfl) ?_
  refine .o1 (tk rfl rfl fun _ w hn k => ⟨_, v_pickT rfl (k.eq1 3 25 rfl) (k.eq1 10 32 rfl), rfl⟩) ?_
  exact .nil
  intro a1516 w1517 hn1518 ha1519
  obtain ⟨hs1520, hd1521, hN1527⟩ := aft ha1519 hs1493 hd1494 hN1495 hn1518
  have h1522 := ha1519.fx 0 h1496
  have h1523 := ha1519.fx 2 h1497
  have h1524 := ha1519.ge 11 33 rfl
  have hb1525 := hb1498.new_ hn1518
  have hr1526 := hr1499.new_ hn1518
  refine st_nil (hK1501 _ _ ?_)
  rcases Bool.eq_false_or_eq_true (blankN (cu2.getD (((cu2.length : Int) - 1 : Int).toNat) 0)) with ht1528 | ht1528
  have hv1529 := hB h1524 ht1528
  refine wp_cond_true hv1529 ?_
  refine wp_skip ?_
  refine hK1500 _ _ ?_
  refine wp_block ?_
  have hm2 := hr1526.max
  refine wp_g0 [true, true, true, true, true, false] [(5, true)] 91
    [ve (sv A2 cu2 c2),
     ve (sv A2 cu2 c2),
     ve (iv (cu2.length : Int)),
     ve (iv ((cu2.length : Int) - 1)),
     (fun (v_ : Value) (W : World) => ∃ (A71 : Option Addr) (c72 : Nat), v_ = sv A71 (cu2.take (((cu2.length : Int) - 1 : Int).toNat)) c72 ∧ SRow W .u16 A71 (cu2.take (((cu2.length : Int) - 1 : Int).toNat)) c72),
     vt] hs1520 (.eq (.eq (.eq (.eq (.cons (fun v W W' hn ⟨A71, c72, he, h0⟩ => ⟨A71, c72, he, h0.new_ hn⟩) (.tt (.nil))))))) ?_ ?_
  refine .o1 (tk rfl rfl fun _ w hn k => ⟨_, v_move rfl (k.fx 0 h1522), rfl⟩) ?_
  refine .o1 (tk rfl rfl fun _ w hn k => ⟨_, v_move rfl (k.fx 0 h1522), rfl⟩) ?_
  refine .o1 (tk rfl rfl fun _ w hn k => ⟨_, v_lenR rfl elU (k.eq1 1 35 rfl), rfl⟩) ?_
  refine .o1 (tk rfl rfl fun _ w hn k => ⟨_, v_bin rfl (k.eq1 2 36 rfl) rfl (fun _ => rfl) (r_sub rfl (by omega)), rfl⟩) ?_
  refine .o1 (tk rfl rfl fun _ w hn k => (by
        exact x_cutH (k := .u16) rfl elU (k.eq1 0 34 rfl) (k.eq1 3 37 rfl) (hr1526.new_ hn) (by omega) fun A69 c70 hmr => ⟨A69, c70, rfl, hmr⟩)) ?_
  refine .off ?_
  exact .nil
  intro a1530 w1531 hn1532 ha1533
  obtain ⟨hs1534, hd1535, hN1544⟩ := aft ha1533 hs1520 hd1521 hN1527 hn1532
  have h1536 := ha1533.fx 0 h1522
  have h1537 := ha1533.fx 2 h1523
  obtain ⟨A1539, cc1540, h1538, hr1541⟩ : (fun (v_ : Value) (W : World) => ∃ (A71 : Option Addr) (c72 : Nat), v_ = sv A71 (cu2.take (((cu2.length : Int) - 1 : Int).toNat)) c72 ∧ SRow W .u16 A71 (cu2.take (((cu2.length : Int) - 1 : Int).toNat)) c72) _ _ := ha1533.got 4 38 rfl (by kernel_rfl)
  have h1538 : a1530.eval (.tmp 38) = sv A1539 (cu2.take (((cu2.length : Int) - 1 : Int).toNat)) cc1540 := h1538
  have hb1542 := hb1525.new_ hn1532
  have hr1543 := hr1526.new_ hn1532
  refine st_take rfl rfl (y_assign (v := sv A1539 (cu2.take (((cu2.length : Int) - 1 : Int).toNat)) cc1540) rfl h1538) rfl ?_
  obtain ⟨a1545, ha1546⟩ : ∃ a', a' = a1530.put (some 0) (sv A1539 (cu2.take (((cu2.length : Int) - 1 : Int).toNat)) cc1540) := ⟨_, rfl⟩
  have hs1547 : a1545.tmps.size = 91 := by rw [ha1546, put_size]; exact hs1534
  have hd1548 : a1545.defers = [] := by rw [ha1546, put_defers]; exact hd1535
  have h1549 := pn ha1546 h1537 (by decide)
  have h1550 := pn ha1546 h1538 (by decide)
  have h1551 : a1545.eval (.tmp 0) = sv A1539 (cu2.take (((cu2.length : Int) - 1 : Int).toNat)) cc1540 := by rw [ha1546]; exact put_same _ _ _ (by rw [hs1534]; decide)
  show stepsTo _ _ _ _ _ (a1530.put (some 0) (sv A1539 (cu2.take (((cu2.length : Int) - 1 : Int).toNat)) cc1540)) _
  rw [← ha1546]
  refine st_nil ?_
  refine blk_n ?_
  refine then_n ?_
  exact ⟨_, ⟨(cu2.take (((cu2.length : Int) - 1 : Int).toNat)), A1539, cc1540, rfl, hs1547, hd1548, hN1544, h1551, h1549, hb1542, hr1541, (by rw [hix2]; rw [hix2] at ht1528; exact (rt_step (by omega) ht1528).trans hc2), (hcu2.take _)⟩, (by rw [List.length_take]; omega)⟩
  have hv1552 := hB h1524 ht1528
  refine wp_cond_false hv1552 ?_
  refine wp_exit ?_
  rw [hix2] at ht1528
  have hrt := rt_end (l := cu2) (Or.inr ⟨by omega, ht1528⟩)
  have he1553 : cu2 = (trimN u) := hrt.symm.trans hc2
  rw [he1553] at h1522
  rw [he1553] at hr1526
  exact hK1490 _ _ ⟨A2, c2, hs1520, hd1521, hN1527, h1522, h1523, hb1525, hr1526⟩
  intro K1554 hK1554
  refine wp_block ?_
  refine wp_loopX (fun (mm : Nat) (aa : Act) (ww : World) => ∃ (cur : List Nat) (A1 : Option Addr) (c1 : Nat), mm = cur.length ∧ aa.tmps.size = 91 ∧ aa.defers = [] ∧ New w ww ∧ aa.eval (.tmp 0) = sv A1 cur c1 ∧ aa.eval (.tmp 2) = pv q10 ∧ Blk ww q10 23 [iv 0, iv 0] ∧ SRow ww .u16 A1 cur c1 ∧ (cur.dropWhile blankN = u.dropWhile blankN) ∧ (U16s cur)) (fun mm => mm) ⟨_, ⟨u, Au, cu, rfl, hs6, hd7, hN14, h8, h9, hb12, (hru.new_ hN14), rfl, hu⟩⟩ ?_
  rintro mm a1555 w1556 ⟨cur, A1, c1, hmm, hs1557, hd1558, hN1559, h1560, h1561, hb1562, hr1563, hcd, hcu⟩
  refine wp_seq_k fun K1564 hK1564 => ?_
  refine wp_seq_k fun K1565 hK1565 => ?_
  rcases Bool.eq_false_or_eq_true (decide ((cur.length : Int) ≤ 0)) with ht1566 | ht1566
  have ht1566d := of_decide_eq_true ht1566
  have hb := hcu.at16 0
  refine wp_g0 [true, true, true, true, true, true, true, true, true] [] 91
    [ve (sv A1 cur c1),
     ve (iv (cur.length : Int)),
     ve (.bool false),
     ve (.bool false),
     ve undef,
     ve undef,
     ve undef,
     ve undef,
     ve (.bool false)] hs1557 (.eq (.eq (.eq (.eq (.eq (.eq (.eq (.eq (.eq (.nil)))))))))) ?_ ?_
  refine .o1 (tk rfl rfl fun _ w hn k => ⟨_, v_move rfl (k.fx 0 h1560), rfl⟩) ?_
  refine .o1 (tk rfl rfl fun _ w hn k => ⟨_, v_lenR rfl elU (k.eq1 0 11 rfl), rfl⟩) ?_
  refine .o1 (tk rfl rfl fun _ w hn k => ⟨_, v_bin rfl (k.eq1 1 12 rfl) rfl (fun _ => rfl) (r_gtrK ht1566), rfl⟩) ?_
  refine .o1 (tk rfl rfl fun _ w hn k => ⟨_, v_move rfl (k.eq1 2 13 rfl), rfl⟩) ?_
  refine .o1 (sk rfl rfl rfl (fun _ _ _ k => k.eq1 3 14 rfl) (fun _ => rfl)) ?_
  refine .o1 (sk rfl rfl rfl (fun _ _ _ k => k.eq1 3 14 rfl) (fun _ => rfl)) ?_
  refine .o1 (sk rfl rfl rfl (fun _ _ _ k => k.eq1 3 14 rfl) (fun _ => rfl)) ?_
  refine .o1 (sk rfl rfl rfl (fun _ _ _ k => k.eq1 3 14 rfl) (fun _ => rfl)) ?_
  refine .o1 (tk rfl rfl fun _ w hn k => ⟨_, v_pickF rfl (k.eq1 3 14 rfl) rfl, rfl⟩) ?_
  exact .nil
  intro a1567 w1568 hn1569 ha1570
  obtain ⟨hs1571, hd1572, hN1578⟩ := aft ha1570 hs1557 hd1558 hN1559 hn1569
  have h1573 := ha1570.fx 0 h1560
  have h1574 := ha1570.fx 2 h1561
  have h1575 := ha1570.ge 8 19 rfl
  have hb1576 := hb1562.new_ hn1569
  have hr1577 := hr1563.new_ hn1569
  refine st_nil (hK1565 _ _ ?_)
  refine wp_cond_false h1575 ?_
  refine wp_exit ?_
  have hdw := dw_end (l := cur) (Or.inl (by omega))
  have he1579 : cur = (u.dropWhile blankN) := hdw.symm.trans hcd
  rw [he1579] at h1573
  rw [he1579] at hr1577
  exact hK1554 _ _ ⟨A1, c1, hs1571, hd1572, hN1578, h1573, h1574, hb1576, hr1577⟩
  have ht1566d := of_decide_eq_false ht1566
  have hb := hcu.at16 0
  refine wp_g0 [true, true, true, true, true, true, true, true, true] [] 91
    [ve (sv A1 cur c1),
     ve (iv (cur.length : Int)),
     ve (.bool true),
     ve (.bool true),
     ve (sv A1 cur c1),
     (fun (v_ : Value) (W : World) => ∃ (b81 : Nat) (o82 : Nat), v_ = .pointer (some ⟨b81, o82, none⟩) ∧ SElem W b81 o82 (.int .u16 ((cur.getD 0 0 : Nat) : Int))),
     ve (.int .u16 ((cur.getD 0 0 : Nat) : Int)),
     ve (.bool (blankN (cur.getD 0 0))),
     ve (.bool (blankN (cur.getD 0 0)))] hs1557 (.eq (.eq (.eq (.eq (.eq (.cons (fun v W W' hn ⟨b81, o82, he, h0⟩ => ⟨b81, o82, he, h0.new_ hn⟩) (.eq (.eq (.eq (.nil)))))))))) ?_ ?_
  refine .o1 (tk rfl rfl fun _ w hn k => ⟨_, v_move rfl (k.fx 0 h1560), rfl⟩) ?_
  refine .o1 (tk rfl rfl fun _ w hn k => ⟨_, v_lenR rfl elU (k.eq1 0 11 rfl), rfl⟩) ?_
  refine .o1 (tk rfl rfl fun _ w hn k => ⟨_, v_bin rfl (k.eq1 1 12 rfl) rfl (fun _ => rfl) (r_gtrK ht1566), rfl⟩) ?_
  refine .o1 (tk rfl rfl fun _ w hn k => ⟨_, v_move rfl (k.eq1 2 13 rfl), rfl⟩) ?_
  refine .o1 (tg rfl rfl rfl (fun _ _ k => k.eq1 3 14 rfl) fun _ w hn k => ⟨_, v_move rfl (k.fx 0 h1560), rfl⟩) ?_
  refine .o1 (tg rfl rfl rfl (fun _ _ k => k.eq1 3 14 rfl) fun _ w hn k => (by
        exact x_eaddr (k := .u16) rfl elU (k.eq1 4 15 rfl) rfl (hr1563.new_ hn) (by omega) fun b79 o80 hme => ⟨b79, o80, rfl, hme⟩)) ?_
  refine .o1 (tg rfl rfl rfl (fun _ _ k => k.eq1 3 14 rfl) fun _ w hn k => (by
        obtain ⟨b83, o84, e85, hx86⟩ : (fun (v_ : Value) (W : World) => ∃ (b81 : Nat) (o82 : Nat), v_ = .pointer (some ⟨b81, o82, none⟩) ∧ SElem W b81 o82 (.int .u16 ((cur.getD 0 0 : Nat) : Int))) _ _ := k.dep 5 16 (by kernel_rfl) (by kernel_rfl)
        exact ⟨_, v_load rfl e85 (l_one Try.isAgg66 hx86.1), rfl⟩)) ?_
  refine .o1 (cg rfl rfl rfl (fun _ _ k => k.eq1 3 14 rfl) rfl (fun _ w hn k => ⟨#[.int .u16 ((cur.getD 0 0 : Nat) : Int)], args1 (k.eq1 6 17 rfl), fun _ => by kernel_rfl, blank_c (cur.getD 0 0) _ (by omega)⟩) fun _ => rfl) ?_
  refine .o1 (tk rfl rfl fun _ w hn k => ⟨_, v_pickT rfl (k.eq1 3 14 rfl) (k.eq1 7 18 rfl), rfl⟩) ?_
  exact .nil
  intro a1580 w1581 hn1582 ha1583
  obtain ⟨hs1584, hd1585, hN1591⟩ := aft ha1583 hs1557 hd1558 hN1559 hn1582
  have h1586 := ha1583.fx 0 h1560
  have h1587 := ha1583.fx 2 h1561
  have h1588 := ha1583.ge 8 19 rfl
  have hb1589 := hb1562.new_ hn1582
  have hr1590 := hr1563.new_ hn1582
  refine st_nil (hK1565 _ _ ?_)
  rcases Bool.eq_false_or_eq_true (blankN (cur.getD 0 0)) with ht1592 | ht1592
  have hv1593 := hB h1588 ht1592
  refine wp_cond_true hv1593 ?_
  refine wp_skip ?_
  refine hK1564 _ _ ?_
  refine wp_block ?_
  refine wp_g0 [true, true, false] [(2, true)] 91
    [ve (sv A1 cur c1),
     (fun (v_ : Value) (W : World) => ∃ (A89 : Option Addr) (c90 : Nat), v_ = sv A89 (cur.drop 1) c90 ∧ SRow W .u16 A89 (cur.drop 1) c90),
     vt] hs1584 (.eq (.cons (fun v W W' hn ⟨A89, c90, he, h0⟩ => ⟨A89, c90, he, h0.new_ hn⟩) (.tt (.nil)))) ?_ ?_
  refine .o1 (tk rfl rfl fun _ w hn k => ⟨_, v_move rfl (k.fx 0 h1586), rfl⟩) ?_
  refine .o1 (tk rfl rfl fun _ w hn k => (by
        exact x_cutL (k := .u16) rfl elU (k.eq1 0 20 rfl) rfl (hr1590.new_ hn) (by omega) fun A87 c88 hmr => ⟨A87, c88, rfl, hmr⟩)) ?_
  refine .off ?_
  exact .nil
  intro a1594 w1595 hn1596 ha1597
  obtain ⟨hs1598, hd1599, hN1608⟩ := aft ha1597 hs1584 hd1585 hN1591 hn1596
  have h1600 := ha1597.fx 0 h1586
  have h1601 := ha1597.fx 2 h1587
  obtain ⟨A1603, cc1604, h1602, hr1605⟩ : (fun (v_ : Value) (W : World) => ∃ (A89 : Option Addr) (c90 : Nat), v_ = sv A89 (cur.drop 1) c90 ∧ SRow W .u16 A89 (cur.drop 1) c90) _ _ := ha1597.got 1 21 rfl (by kernel_rfl)
  have h1602 : a1594.eval (.tmp 21) = sv A1603 (cur.drop 1) cc1604 := h1602
  have hb1606 := hb1589.new_ hn1596
  have hr1607 := hr1590.new_ hn1596
  refine st_take rfl rfl (y_assign (v := sv A1603 (cur.drop 1) cc1604) rfl h1602) rfl ?_
  obtain ⟨a1609, ha1610⟩ : ∃ a', a' = a1594.put (some 0) (sv A1603 (cur.drop 1) cc1604) := ⟨_, rfl⟩
  have hs1611 : a1609.tmps.size = 91 := by rw [ha1610, put_size]; exact hs1598
  have hd1612 : a1609.defers = [] := by rw [ha1610, put_defers]; exact hd1599
  have h1613 := pn ha1610 h1601 (by decide)
  have h1614 := pn ha1610 h1602 (by decide)
  have h1615 : a1609.eval (.tmp 0) = sv A1603 (cur.drop 1) cc1604 := by rw [ha1610]; exact put_same _ _ _ (by rw [hs1598]; decide)
  show stepsTo _ _ _ _ _ (a1594.put (some 0) (sv A1603 (cur.drop 1) cc1604)) _
  rw [← ha1610]
  refine st_nil ?_
  refine blk_n ?_
  refine then_n ?_
  exact ⟨_, ⟨(cur.drop 1), A1603, cc1604, rfl, hs1611, hd1612, hN1608, h1615, h1613, hb1606, hr1605, ((dw_step (by omega) ht1592).trans hcd), (hcu.drop 1)⟩, (by rw [List.length_drop]; omega)⟩
  have hv1616 := hB h1588 ht1592
  refine wp_cond_false hv1616 ?_
  refine wp_exit ?_
  have hdw := dw_end (l := cur) (Or.inr ht1592)
  have he1617 : cur = (u.dropWhile blankN) := hdw.symm.trans hcd
  rw [he1617] at h1586
  rw [he1617] at hr1590
  exact hK1554 _ _ ⟨A1, c1, hs1584, hd1585, hN1591, h1586, h1587, hb1589, hr1590⟩
end Go.Proofs.Ytecgdgjlmlpcnaa
