/- Package renref2: quotients; copies. -/
import Derived.Test.YtfhflpchfgkgcaaRefC
namespace Go.Proofs.Ytfhflpchfgkgcaa
open Go.RowKit
set_option linter.unusedSimpArgs false
set_option linter.unusedVariables false
theorem pow_pos {k : Nat} : 0 < val (canon (val (powL k))) := by rw [val_canon, powL_val]; exact Nat.pow_pos (by omega)
theorem pow_len {k : Nat} (h : k ≤ 256) : (canon (val (powL k))).length ≤ 9 := by
  refine canon_len_le (Nat.lt_of_lt_of_le (val_lt (powL_limbs k)) (Nat.pow_le_pow_right (by omega) ?_))
  rw [powL_len]; omega
theorem quo_len {x : Int} {y : Nat} (hx : x.natAbs < 2 ^ 256) : (canon (val (canon x.natAbs) / y)).length ≤ 8 := by
  rw [val_canon]; exact (canon_len8 _).2 (Nat.lt_of_le_of_lt (Nat.div_le_self _ _) hx)
theorem rem_len8 {x : Int} {y : Nat} (hx : x.natAbs < 2 ^ 256) : (canon (val (canon x.natAbs) % y)).length ≤ 8 := by
  rw [val_canon]; exact (canon_len8 _).2 (Nat.lt_of_le_of_lt (Nat.mod_le _ _) hx)
theorem powsub_len {k y : Nat} (h : k ≤ 256) : (canon (val (powL k) - y)).length ≤ 9 := by
  have h1 := val_lt (powL_limbs k)
  have h2 : 4294967296 ^ (powL k).length ≤ 4294967296 ^ 9 := Nat.pow_le_pow_right (by omega) (by rw [powL_len]; omega)
  exact canon_len_le (by omega)
theorem eq_up {a b : List Nat} {i : Nat} (h : ∀ j, j < i → a.getD j 0 = b.getD j 0) (hi : i < a.length) (h1 : decide (((a.getD i 0 : Nat) : Int) = ((b.getD i 0 : Nat) : Int)) = true) : ∀ j, j < i + 1 → a.getD j 0 = b.getD j 0 := by
  intro j hj
  rcases Nat.lt_or_ge j i with h2 | h2
  · exact h j h2
  · obtain rfl : j = i := by omega
    have := of_decide_eq_true h1
    omega
theorem eq_all {a b : List Nat} {i : Nat} (hl : a.length = b.length) (hi : i = a.length) (h : ∀ j, j < i → a.getD j 0 = b.getD j 0) : a = b := by
  refine List.ext_getElem hl fun j h1 h2 => ?_
  have := h j (by omega)
  simpa [List.getD, h1, h2] using this
set_option maxHeartbeats 4000000 in
set_option maxRecDepth 100000 in
theorem rdivide_0 (A B : Option Addr) (a b : List Nat) (c d : Nat) (w : World) (hra : SRow w .u32 A a c) (hrb : SRow w .u32 B b d) (ha : Limbs a) (hb : Limbs b) (hsa : a.length ≤ 400000) (hsb : b.length ≤ 400000) (h0 : a.length = 0) : Calls Try.prog 62 #[sv A a c, sv B b d] w (RetSS 50 .u32 (canon (val a / val b)) (canon (val a % val b)) w) := by
  refine enter_abs Try.func62 rfl fun a0 hs0 hd0 hp => ?_
  have hs0 : a0.tmps.size = 58 := hs0
  have hN0 : New w w := Upd.refl _ _
  have hp0 : a0.eval (.tmp 0) = sv A a c := hp 0 _ rfl
  have hp1 : a0.eval (.tmp 1) = sv B b d := hp 1 _ rfl
  clear hp
  refine wp_seq_k fun K1 hK1 => ?_
  refine wp_g0 [true, true] [] 58
    [ve (sv none ([]) 0),
     ve (sv none ([]) 0)] hs0 (.eq (.eq (.nil))) ?_ ?_
  · skip
    refine .o1 (tk rfl rfl fun _ w hn k => ⟨_, v_assign rfl rfl, rfl⟩) ?_
    refine .o1 (tk rfl rfl fun _ w hn k => ⟨_, v_assign rfl rfl, rfl⟩) ?_
    exact .nil
  intro a2 w3 hn4 ha5
  have hs6 := ha5.size.trans hs0
  have hd7 := ha5.defers.trans hd0
  have h8 := ha5.fx 0 hp0
  have h9 := ha5.fx 1 hp1
  have hN10 := hN0.transNew hn4
  clear hs0 hd0 hp0 hp1 hN0 ha5 hn4
  refine st_nil ?_
  refine hK1 _ _ ?_
  clear hK1 K1
  refine wp_seq_k fun K11 hK11 => ?_
  refine wp_g0 [true, true, true, true] [] 58
    [ve (sv A a c),
     ve (iv (a.length : Int)),
     (fun (v : Value) (W : World) => ∃ (A3 : Option Addr) (c4 : Nat), v = sv A3 (List.replicate a.length 0) c4 ∧ SOwn W w3.heap.size 50 .u32 A3 (List.replicate a.length 0) c4),
     (fun (v : Value) (W : World) => ∃ (A9 : Option Addr) (c10 : Nat), v = sv A9 (List.replicate a.length 0) c10 ∧ SOwn W w3.heap.size 50 .u32 A9 (List.replicate a.length 0) c10)] hs6 (.eq (.eq (.cons (fun v W W' hn ⟨A3, c4, he, h0⟩ => ⟨A3, c4, he, h0.new_ hn⟩) (.cons (fun v W W' hn ⟨A9, c10, he, h0⟩ => ⟨A9, c10, he, h0.new_ hn⟩) (.nil))))) ?_ ?_
  · skip
    refine .o1 (tk rfl rfl fun _ w hn k => ⟨_, v_move rfl (k.fx 0 h8), rfl⟩) ?_
    refine .o1 (tk rfl rfl fun _ w hn k => ⟨_, v_lenR rfl elW (k.eq1 0 9 rfl), rfl⟩) ?_
    refine .o1 (tkA rfl (noG rfl) fun _ w hn k => (by
          exact x_make .u32 rfl (k.eq1 1 10 rfl) (k.eq1 1 10 rfl) elW (by omega) (by omega) (by omega) fun A1 c2 W' hmo => ⟨A1, c2, rfl, (hmo.more hn.size)⟩)) ?_
    refine .o1 (tk rfl rfl fun _ w hn k => (by
          obtain ⟨A5, c6, e7, hx8⟩ : (fun (v : Value) (W : World) => ∃ (A3 : Option Addr) (c4 : Nat), v = sv A3 (List.replicate a.length 0) c4 ∧ SOwn W w3.heap.size 50 .u32 A3 (List.replicate a.length 0) c4) _ _ := k.dep 2 11 (by kernel_rfl) (by kernel_rfl)
          exact ⟨_, v_assign rfl e7, ⟨A5, c6, rfl, hx8⟩⟩)) ?_
    exact .nil
  intro a12 w13 hn14 ha15
  have hs16 := ha15.size.trans hs6
  have hd17 := ha15.defers.trans hd7
  have h18 := ha15.fx 0 h8
  have h19 := ha15.fx 1 h9
  obtain ⟨A21, cc22, h20, hr23⟩ : (fun (v : Value) (W : World) => ∃ (A9 : Option Addr) (c10 : Nat), v = sv A9 (List.replicate a.length 0) c10 ∧ SOwn W w3.heap.size 50 .u32 A9 (List.replicate a.length 0) c10) _ _ := ha15.got 3 6 rfl (by kernel_rfl)
  have h20 : a12.eval (.tmp 6) = sv A21 (List.replicate a.length 0) cc22 := h20
  have hr24 := hr23.more hN10.size
  have hN25 := hN10.transNew hn14
  clear hs6 hd7 h8 h9 hr23 hN10 ha15 hn14
  refine st_nil ?_
  refine hK11 _ _ ?_
  clear hK11 K11
  refine wp_seq_k fun K26 hK26 => ?_
  refine wp_g0 [true] [] 58
    [ve (sv none ([]) 0)] hs16 (.eq (.nil)) ?_ ?_
  · skip
    refine .o1 (tk rfl rfl fun _ w hn k => ⟨_, v_assign rfl rfl, rfl⟩) ?_
    exact .nil
  intro a27 w28 hn29 ha30
  have hs31 := ha30.size.trans hs16
  have hd32 := ha30.defers.trans hd17
  have h33 := ha30.fx 0 h18
  have h34 := ha30.fx 1 h19
  have h35 := ha30.fx 6 h20
  have h36 := ha30.ge 0 7 rfl
  have hr37 := hr24.new_ hn29
  have hN38 := hN25.transNew hn29
  clear hs16 hd17 h18 h19 h20 hr24 hN25 ha30 hn29
  refine st_nil ?_
  refine hK26 _ _ ?_
  clear hK26 K26
  refine wp_seq_k fun K39 hK39 => ?_
  refine wp_seq_k fun K40 hK40 => ?_
  refine wp_g0 [true, true, true, true, true] [] 58
    [ve (sv A a c),
     ve (iv (a.length : Int)),
     ve (iv ((32 * a.length : Nat) : Int)),
     ve (iv (((32 * a.length : Nat) : Int) - 1)),
     ve (iv (((32 * a.length : Nat) : Int) - 1))] hs31 (.eq (.eq (.eq (.eq (.eq (.nil)))))) ?_ ?_
  · skip
    refine .o1 (tk rfl rfl fun _ w hn k => ⟨_, v_move rfl (k.fx 0 h33), rfl⟩) ?_
    refine .o1 (tk rfl rfl fun _ w hn k => ⟨_, v_lenR rfl elW (k.eq1 0 12 rfl), rfl⟩) ?_
    refine .o1 (tk rfl rfl fun _ w hn k => ⟨_, v_bin rfl rfl (k.eq1 1 13 rfl) (fun _ => rfl) (n_mul (by omega) (IntWalk.i64_in _ (by omega))), rfl⟩) ?_
    refine .o1 (tk rfl rfl fun _ w hn k => ⟨_, v_bin rfl (k.eq1 2 14 rfl) rfl (fun _ => rfl) (r_sub rfl (by omega)), rfl⟩) ?_
    refine .o1 (tk rfl rfl fun _ w hn k => ⟨_, v_assign rfl (k.eq1 3 15 rfl), rfl⟩) ?_
    exact .nil
  intro a41 w42 hn43 ha44
  have hs45 := ha44.size.trans hs31
  have hd46 := ha44.defers.trans hd32
  have h47 := ha44.fx 0 h33
  have h48 := ha44.fx 1 h34
  have h49 := ha44.fx 6 h35
  have h50 := ha44.fx 7 h36
  have h51 := ha44.ge 4 8 rfl
  have hr52 := hr37.new_ hn43
  have hN53 := hN38.transNew hn43
  clear hs31 hd32 h33 h34 h35 h36 hr37 hN38 ha44 hn43
  refine st_nil ?_
  refine hK40 _ _ ?_
  clear hK40 K40
  refine wp_block ?_
  refine wp_loop_rounds 1 ?_
  refine rounds_go ?_
  refine wp_seq_k fun K54 hK54 => ?_
  refine wp_seq_k fun K55 hK55 => ?_
  have ht56 : (decide ((((32 * a.length : Nat) : Int) - 1) < 0)) = true := decide_eq_true (by omega)
  have ht56d := of_decide_eq_true ht56
  refine wp_g0 [true, true] [] 58
    [ve (iv (((32 * a.length : Nat) : Int) - 1)),
     ve (.bool false)] hs45 (.eq (.eq (.nil))) ?_ ?_
  · skip
    refine .o1 (tk rfl rfl fun _ w hn k => ⟨_, v_move rfl (k.fx 8 h51), rfl⟩) ?_
    refine .o1 (tk rfl rfl fun _ w hn k => ⟨_, v_bin rfl (k.eq1 0 16 rfl) rfl (fun _ => rfl) (r_geqK ht56), rfl⟩) ?_
    exact .nil
  intro a57 w58 hn59 ha60
  have hs61 := ha60.size.trans hs45
  have hd62 := ha60.defers.trans hd46
  have h63 := ha60.fx 0 h47
  have h64 := ha60.fx 1 h48
  have h65 := ha60.fx 6 h49
  have h66 := ha60.fx 7 h50
  have h67 := ha60.fx 8 h51
  have h68 := ha60.ge 1 17 rfl
  have hr69 := hr52.new_ hn59
  have hN70 := hN53.transNew hn59
  clear hs45 hd46 h47 h48 h49 h50 h51 hr52 hN53 ha60 hn59
  refine st_nil ?_
  refine hK55 _ _ ?_
  clear hK55 K55
  refine wp_cond_false h68 ?_
  refine wp_exit ?_
  refine hK39 _ _ ?_
  clear hK39 K39 hK54 K54
  refine wp_seq_k fun K71 hK71 => ?_
  refine wp_g0 [true, true, true, true, true] [] 58
    [ve (sv A21 (List.replicate a.length 0) cc22),
     (fun (v : Value) (W : World) => ∃ (A13 : Option Addr) (c14 : Nat), v = sv A13 (canon (val (List.replicate a.length 0))) c14 ∧ SOwn W w58.heap.size 50 .u32 A13 (canon (val (List.replicate a.length 0))) c14),
     ve (sv none ([]) 0),
     (fun (v : Value) (W : World) => ∃ (A19 : Option Addr) (c20 : Nat), v = sv A19 (canon (val (List.replicate a.length 0))) c20 ∧ SOwn W w58.heap.size 50 .u32 A19 (canon (val (List.replicate a.length 0))) c20),
     ve (sv none ([]) 0)] hs61 (.eq (.cons (fun v W W' hn ⟨A13, c14, he, h0⟩ => ⟨A13, c14, he, h0.new_ hn⟩) (.eq (.cons (fun v W W' hn ⟨A19, c20, he, h0⟩ => ⟨A19, c20, he, h0.new_ hn⟩) (.eq (.nil)))))) ?_ ?_
  · skip
    refine .o1 (tk rfl rfl fun _ w hn k => ⟨_, v_move rfl (k.fx 6 h65), rfl⟩) ?_
    refine .o1 (tkC rfl (noG rfl) rfl fun _ w hn k => (by
          refine ⟨#[sv A21 (List.replicate a.length 0) cc22], _, args1 (k.eq1 0 55 rfl), fun w => by kernel_rfl, rtrim_c _ _ _ _ (hr69.new_ hn).row (Limbs.rep _) (by first | omega | (simp only [List.length_nil, List.length_cons, List.length_set, List.length_replicate]; omega)), ?_⟩
          rintro e w' ⟨A11, c12, rfl, hmo, hm⟩
          exact ⟨_, rfl, hm, ⟨A11, c12, rfl, (hmo.more hn.size)⟩⟩)) ?_
    refine .o1 (tk rfl rfl fun _ w hn k => ⟨_, v_move rfl (k.fx 7 h66), rfl⟩) ?_
    refine .o1 (tk rfl rfl fun _ w hn k => (by
          obtain ⟨A15, c16, e17, hx18⟩ : (fun (v : Value) (W : World) => ∃ (A13 : Option Addr) (c14 : Nat), v = sv A13 (canon (val (List.replicate a.length 0))) c14 ∧ SOwn W w58.heap.size 50 .u32 A13 (canon (val (List.replicate a.length 0))) c14) _ _ := k.dep 1 56 (by kernel_rfl) (by kernel_rfl)
          exact ⟨_, v_assign rfl e17, ⟨A15, c16, rfl, hx18⟩⟩)) ?_
    refine .o1 (tk rfl rfl fun _ w hn k => ⟨_, v_assign rfl (k.eq1 2 57 rfl), rfl⟩) ?_
    exact .nil
  intro a72 w73 hn74 ha75
  have hs76 := ha75.size.trans hs61
  have hd77 := ha75.defers.trans hd62
  obtain ⟨A79, cc80, h78, hr81⟩ : (fun (v : Value) (W : World) => ∃ (A19 : Option Addr) (c20 : Nat), v = sv A19 (canon (val (List.replicate a.length 0))) c20 ∧ SOwn W w58.heap.size 50 .u32 A19 (canon (val (List.replicate a.length 0))) c20) _ _ := ha75.got 3 4 rfl (by kernel_rfl)
  have h78 : a72.eval (.tmp 4) = sv A79 (canon (val (List.replicate a.length 0))) cc80 := h78
  have h82 := ha75.ge 4 5 rfl
  have hr83 := hr81.more hN70.size
  have hN84 := hN70.transNew hn74
  clear hs61 hd62 h63 h64 h65 h66 h67 h68 hr69 hr81 hN70 ha75 hn74
  refine st_nil ?_
  refine hK71 _ _ ?_
  clear hK71 K71
  refine wp_ret (ret_k hd77 (v := .tuple #[sv A79 (canon (val (List.replicate a.length 0))) cc80, sv none ([]) 0]) (res_tt rfl h78 h82 _) ?_)
  have e1 : (canon (val (List.replicate a.length 0))) = canon (val a / val b) := by rw [List.eq_nil_of_length_eq_zero h0]; simp [val]
  have e2 : [] = canon (val a % val b) := by rw [List.eq_nil_of_length_eq_zero h0]; simp [val, canon_zero]
  exact ⟨A79, cc80, none, 0, by rw [← e1, ← e2], by rw [← e1]; exact hr83, by rw [← e2]; exact (SOwn.nil _ _ _ _), hN84⟩
theorem rdivide_all (A B : Option Addr) (a b : List Nat) (c d : Nat) (w : World) (hra : SRow w .u32 A a c) (hrb : SRow w .u32 B b d) (ha : Limbs a) (hb : Limbs b) (hsa : a.length ≤ 10000) (hsb : b.length ≤ 10000) (hb0 : 0 < val b) : Calls Try.prog 62 #[sv A a c, sv B b d] w (RetSS 50 .u32 (canon (val a / val b)) (canon (val a % val b)) w) := by
  rcases Nat.eq_zero_or_pos a.length with h0 | h0
  · exact rdivide_0 A B a b c d w hra hrb ha hb (by omega) (by omega) h0
  · exact rdivide_c A B a b c d w hra hrb ha hb hsa hsb hb0 h0
theorem rpower_i (n : Int) (w : World) (hn : 0 ≤ n ∧ n ≤ 256) : Calls Try.prog 68 #[iv n] w (RetS 50 .u32 (powL n.toNat) w) := by
  obtain ⟨k, rfl⟩ : ∃ k : Nat, n = k := ⟨n.toNat, by omega⟩
  exact rpower_c k w (by omega)
set_option maxHeartbeats 4000000 in
set_option maxRecDepth 100000 in
theorem limbs_c (A B : Option Addr) (a b : List Nat) (c d : Nat) (w : World) (hra : SRow w .u32 A a c) (hrb : SRow w .u32 B b d) : Calls Try.prog 64 #[sv A a c, sv B b d] w (IsRet (.bool (decide (a = b))) w) := by
  refine enter_abs Try.func64 rfl fun a0 hs0 hd0 hp => ?_
  have hs0 : a0.tmps.size = 26 := hs0
  have hN0 : New w w := Upd.refl _ _
  have hp0 : a0.eval (.tmp 0) = sv A a c := hp 0 _ rfl
  have hp1 : a0.eval (.tmp 1) = sv B b d := hp 1 _ rfl
  clear hp
  have hmx := hra.max
  have hmy := hrb.max
  refine wp_seq_k fun K1 hK1 => ?_
  refine wp_g0 [true] [] 26
    [ve (.bool false)] hs0 (.eq (.nil)) ?_ ?_
  · skip
    refine .o1 (tk rfl rfl fun _ w hn k => ⟨_, v_assign rfl rfl, rfl⟩) ?_
    exact .nil
  intro a2 w3 hn4 ha5
  have hs6 := ha5.size.trans hs0
  have hd7 := ha5.defers.trans hd0
  have h8 := ha5.fx 0 hp0
  have h9 := ha5.fx 1 hp1
  have hN10 := hN0.transNew hn4
  clear hs0 hd0 hp0 hp1 hN0 ha5 hn4
  refine st_nil ?_
  refine hK1 _ _ ?_
  clear hK1 K1
  refine wp_seq_k fun K11 hK11 => ?_
  refine wp_seq_k fun K12 hK12 => ?_
  rcases Bool.eq_false_or_eq_true (decide ((a.length : Int) = (b.length : Int))) with ht13 | ht13
  · skip
    have ht13d := of_decide_eq_true ht13
    refine wp_g0 [true, true, true, true, true] [] 26
      [ve (sv A a c),
       ve (iv (a.length : Int)),
       ve (sv B b d),
       ve (iv (b.length : Int)),
       ve (.bool false)] hs6 (.eq (.eq (.eq (.eq (.eq (.nil)))))) ?_ ?_
    · skip
      refine .o1 (tk rfl rfl fun _ w hn k => ⟨_, v_move rfl (k.fx 0 h8), rfl⟩) ?_
      refine .o1 (tk rfl rfl fun _ w hn k => ⟨_, v_lenR rfl elW (k.eq1 0 6 rfl), rfl⟩) ?_
      refine .o1 (tk rfl rfl fun _ w hn k => ⟨_, v_move rfl (k.fx 1 h9), rfl⟩) ?_
      refine .o1 (tk rfl rfl fun _ w hn k => ⟨_, v_lenR rfl elW (k.eq1 2 8 rfl), rfl⟩) ?_
      refine .o1 (tk rfl rfl fun _ w hn k => ⟨_, v_bin rfl (k.eq1 1 7 rfl) (k.eq1 3 9 rfl) (fun _ => rfl) (r_neq ht13), rfl⟩) ?_
      exact .nil
    intro a14 w15 hn16 ha17
    have hs18 := ha17.size.trans hs6
    have hd19 := ha17.defers.trans hd7
    have h20 := ha17.fx 0 h8
    have h21 := ha17.fx 1 h9
    have h22 := ha17.ge 4 10 rfl
    have hN23 := hN10.transNew hn16
    clear hs6 hd7 h8 h9 hN10 ha17 hn16
    refine st_nil ?_
    refine hK12 _ _ ?_
    clear hK12 K12
    refine wp_cond_false h22 ?_
    refine wp_skip ?_
    refine hK11 _ _ ?_
    clear hK11 K11
    refine wp_seq_k fun K24 hK24 => ?_
    refine wp_seq_k fun K25 hK25 => ?_
    refine wp_g0 [true] [] 26
      [ve (iv 0)] hs18 (.eq (.nil)) ?_ ?_
    · skip
      refine .o1 (tk rfl rfl fun _ w hn k => ⟨_, v_assign rfl rfl, rfl⟩) ?_
      exact .nil
    intro a26 w27 hn28 ha29
    have hs30 := ha29.size.trans hs18
    have hd31 := ha29.defers.trans hd19
    have h32 := ha29.fx 0 h20
    have h33 := ha29.fx 1 h21
    have h34 := ha29.ge 0 5 rfl
    have hN35 := hN23.transNew hn28
    clear hs18 hd19 h20 h21 h22 hN23 ha29 hn28
    refine st_nil ?_
    refine hK25 _ _ ?_
    clear hK25 K25
    refine wp_block ?_
    refine wp_loopX (fun (mm : Nat) (aa : Act) (ww : World) => ∃ (i : Nat), mm = a.length - i ∧ aa.tmps.size = 26 ∧ aa.defers = [] ∧ New w ww ∧ aa.eval (.tmp 5) = iv (i : Int) ∧ aa.eval (.tmp 0) = sv A a c ∧ aa.eval (.tmp 1) = sv B b d ∧ (i ≤ a.length) ∧ (∀ j, j < i → a.getD j 0 = b.getD j 0)) (fun mm => mm) ⟨_, ⟨0, rfl, hs30, hd31, hN35, h34, h32, h33, (Nat.zero_le _), (fun j h => absurd h (Nat.not_lt_zero _))⟩⟩ ?_
    clear hs30 hd31 hN35 h32 h33 h34
    rintro mm a36 w37 ⟨i, hmm, hs38, hd39, hN40, h41, h42, h43, hi, heq⟩
    refine wp_seq_k fun K44 hK44 => ?_
    refine wp_seq_k fun K45 hK45 => ?_
    refine wp_g0 [true, true, true, true] [] 26
      [ve (iv (i : Int)),
       ve (sv A a c),
       ve (iv (a.length : Int)),
       ve (.bool (decide ((i : Int) < (a.length : Int))))] hs38 (.eq (.eq (.eq (.eq (.nil))))) ?_ ?_
    · skip
      refine .o1 (tk rfl rfl fun _ w hn k => ⟨_, v_move rfl (k.fx 5 h41), rfl⟩) ?_
      refine .o1 (tk rfl rfl fun _ w hn k => ⟨_, v_move rfl (k.fx 0 h42), rfl⟩) ?_
      refine .o1 (tk rfl rfl fun _ w hn k => ⟨_, v_lenR rfl elW (k.eq1 1 12 rfl), rfl⟩) ?_
      refine .o1 (tk rfl rfl fun _ w hn k => ⟨_, v_bin rfl (k.eq1 0 11 rfl) (k.eq1 2 13 rfl) (fun _ => rfl) (r_lssK rfl), rfl⟩) ?_
      exact .nil
    intro a46 w47 hn48 ha49
    have hs50 := ha49.size.trans hs38
    have hd51 := ha49.defers.trans hd39
    have h52 := ha49.fx 5 h41
    have h53 := ha49.fx 0 h42
    have h54 := ha49.fx 1 h43
    have h55 := ha49.ge 3 14 rfl
    have hN56 := hN40.transNew hn48
    clear hs38 hd39 h41 h42 h43 hN40 ha49 hn48
    refine st_nil ?_
    refine hK45 _ _ ?_
    clear hK45 K45
    rcases Bool.eq_false_or_eq_true (decide ((i : Int) < (a.length : Int))) with ht57 | ht57
    · skip
      have ht57d := of_decide_eq_true ht57
      have hv58 : a46.eval (.tmp 14) = .bool true := h55.trans (congrArg Value.bool ht57)
      clear h55
      refine wp_cond_true hv58 ?_
      refine wp_skip ?_
      refine hK44 _ _ ?_
      clear hK44 K44
      refine wp_seq_k fun K59 hK59 => ?_
      refine wp_block ?_
      refine wp_seq_k fun K60 hK60 => ?_
      rcases Bool.eq_false_or_eq_true (decide (((a.getD i 0 : Nat) : Int) = ((b.getD i 0 : Nat) : Int))) with ht61 | ht61
      · skip
        have ht61d := of_decide_eq_true ht61
        refine wp_g0 [true, true, true, true, true, true, true, true, true] [] 26
          [ve (sv A a c),
           ve (iv (i : Int)),
           (fun (v : Value) (W : World) => ∃ (b19 : Nat) (o20 : Nat), v = .pointer (some ⟨b19, o20, none⟩) ∧ SElem W b19 o20 (.int .u32 ((a.getD i 0 : Nat) : Int))),
           ve (.int .u32 ((a.getD i 0 : Nat) : Int)),
           ve (sv B b d),
           ve (iv (i : Int)),
           (fun (v : Value) (W : World) => ∃ (b27 : Nat) (o28 : Nat), v = .pointer (some ⟨b27, o28, none⟩) ∧ SElem W b27 o28 (.int .u32 ((b.getD i 0 : Nat) : Int))),
           ve (.int .u32 ((b.getD i 0 : Nat) : Int)),
           ve (.bool false)] hs50 (.eq (.eq (.cons (fun v W W' hn ⟨b19, o20, he, h0⟩ => ⟨b19, o20, he, h0.new_ hn⟩) (.eq (.eq (.eq (.cons (fun v W W' hn ⟨b27, o28, he, h0⟩ => ⟨b27, o28, he, h0.new_ hn⟩) (.eq (.eq (.nil)))))))))) ?_ ?_
        · skip
          refine .o1 (tk rfl rfl fun _ w hn k => ⟨_, v_move rfl (k.fx 0 h53), rfl⟩) ?_
          refine .o1 (tk rfl rfl fun _ w hn k => ⟨_, v_move rfl (k.fx 5 h52), rfl⟩) ?_
          refine .o1 (tk rfl rfl fun _ w hn k => (by
                exact x_eaddr (k := .u32) rfl elW (k.eq1 0 17 rfl) (k.eq1 1 18 rfl) (hra.new_ (hN56.transNew hn)) (by omega) fun b17 o18 hme => ⟨b17, o18, rfl, hme⟩)) ?_
          refine .o1 (tk rfl rfl fun _ w hn k => (by
                obtain ⟨b21, o22, e23, hx24⟩ : (fun (v : Value) (W : World) => ∃ (b19 : Nat) (o20 : Nat), v = .pointer (some ⟨b19, o20, none⟩) ∧ SElem W b19 o20 (.int .u32 ((a.getD i 0 : Nat) : Int))) _ _ := k.dep 2 19 (by kernel_rfl) (by kernel_rfl)
                exact ⟨_, v_load rfl e23 (l_one Try.isAgg50 hx24.1), rfl⟩)) ?_
          refine .o1 (tk rfl rfl fun _ w hn k => ⟨_, v_move rfl (k.fx 1 h54), rfl⟩) ?_
          refine .o1 (tk rfl rfl fun _ w hn k => ⟨_, v_move rfl (k.fx 5 h52), rfl⟩) ?_
          refine .o1 (tk rfl rfl fun _ w hn k => (by
                exact x_eaddr (k := .u32) rfl elW (k.eq1 4 21 rfl) (k.eq1 5 22 rfl) (hrb.new_ (hN56.transNew hn)) (by omega) fun b25 o26 hme => ⟨b25, o26, rfl, hme⟩)) ?_
          refine .o1 (tk rfl rfl fun _ w hn k => (by
                obtain ⟨b29, o30, e31, hx32⟩ : (fun (v : Value) (W : World) => ∃ (b27 : Nat) (o28 : Nat), v = .pointer (some ⟨b27, o28, none⟩) ∧ SElem W b27 o28 (.int .u32 ((b.getD i 0 : Nat) : Int))) _ _ := k.dep 6 23 (by kernel_rfl) (by kernel_rfl)
                exact ⟨_, v_load rfl e31 (l_one Try.isAgg50 hx32.1), rfl⟩)) ?_
          refine .o1 (tk rfl rfl fun _ w hn k => ⟨_, v_bin rfl (k.eq1 3 20 rfl) (k.eq1 7 24 rfl) (fun _ => rfl) (r_neq ht61), rfl⟩) ?_
          exact .nil
        intro a62 w63 hn64 ha65
        have hs66 := ha65.size.trans hs50
        have hd67 := ha65.defers.trans hd51
        have h68 := ha65.fx 5 h52
        have h69 := ha65.fx 0 h53
        have h70 := ha65.fx 1 h54
        have h71 := ha65.ge 8 25 rfl
        have hN72 := hN56.transNew hn64
        clear hs50 hd51 h52 h53 h54 hv58 hN56 ha65 hn64
        refine st_nil ?_
        refine hK60 _ _ ?_
        clear hK60 K60
        refine wp_cond_false h71 ?_
        refine wp_skip ?_
        refine hK59 _ _ ?_
        clear hK59 K59
        refine wp_g0 [true, true, false] [(2, true)] 26
          [ve (iv (i : Int)),
           ve (iv ((i + 1 : Nat) : Int)),
           vt] hs66 (.eq (.eq (.tt (.nil)))) ?_ ?_
        · skip
          refine .o1 (tk rfl rfl fun _ w hn k => ⟨_, v_move rfl (k.fx 5 h68), rfl⟩) ?_
          refine .o1 (tk rfl rfl fun _ w hn k => ⟨_, v_bin rfl (k.eq1 0 15 rfl) rfl (fun _ => rfl) (n_add (by omega) (IntWalk.i64_in _ (by omega))), rfl⟩) ?_
          refine .off ?_
          exact .nil
        intro a73 w74 hn75 ha76
        have hs77 := ha76.size.trans hs66
        have hd78 := ha76.defers.trans hd67
        have h79 := ha76.fx 5 h68
        have h80 := ha76.fx 0 h69
        have h81 := ha76.fx 1 h70
        have h82 := ha76.ge 1 16 rfl
        have hN83 := hN72.transNew hn75
        clear hs66 hd67 h68 h69 h70 h71 hN72 ha76 hn75
        refine st_take rfl rfl (y_assign (v := iv ((i + 1 : Nat) : Int)) rfl h82) rfl ?_
        obtain ⟨a84, ha85⟩ : ∃ a', a' = a73.put (some 5) (iv ((i + 1 : Nat) : Int)) := ⟨_, rfl⟩
        have hs86 : a84.tmps.size = 26 := by rw [ha85, put_size]; exact hs77
        have hd87 : a84.defers = [] := by rw [ha85, put_defers]; exact hd78
        have h88 : a84.eval (.tmp 0) = sv A a c := by rw [ha85, put_ne _ _ _ _ (by decide)]; exact h80
        have h89 : a84.eval (.tmp 1) = sv B b d := by rw [ha85, put_ne _ _ _ _ (by decide)]; exact h81
        have h90 : a84.eval (.tmp 16) = iv ((i + 1 : Nat) : Int) := by rw [ha85, put_ne _ _ _ _ (by decide)]; exact h82
        have h91 : a84.eval (.tmp 5) = iv ((i + 1 : Nat) : Int) := by rw [ha85]; exact put_same _ _ _ (by rw [hs77]; decide)
        show stepsTo _ _ _ _ _ (a73.put (some 5) (iv ((i + 1 : Nat) : Int))) _
        rw [← ha85]
        clear ha85 hs77 hd78 h79 h80 h81 h82
        refine st_nil ?_
        clear h90
        refine then_n ?_
        exact ⟨_, ⟨i + 1, rfl, hs86, hd87, hN83, (h91.trans (congrArg (Value.int .i64) (by omega))), h88, h89, (by omega), (eq_up heq (by omega) ht61)⟩, (by omega)⟩
      have ht61d := of_decide_eq_false ht61
      refine wp_g0 [true, true, true, true, true, true, true, true, true] [] 26
        [ve (sv A a c),
         ve (iv (i : Int)),
         (fun (v : Value) (W : World) => ∃ (b35 : Nat) (o36 : Nat), v = .pointer (some ⟨b35, o36, none⟩) ∧ SElem W b35 o36 (.int .u32 ((a.getD i 0 : Nat) : Int))),
         ve (.int .u32 ((a.getD i 0 : Nat) : Int)),
         ve (sv B b d),
         ve (iv (i : Int)),
         (fun (v : Value) (W : World) => ∃ (b43 : Nat) (o44 : Nat), v = .pointer (some ⟨b43, o44, none⟩) ∧ SElem W b43 o44 (.int .u32 ((b.getD i 0 : Nat) : Int))),
         ve (.int .u32 ((b.getD i 0 : Nat) : Int)),
         ve (.bool true)] hs50 (.eq (.eq (.cons (fun v W W' hn ⟨b35, o36, he, h0⟩ => ⟨b35, o36, he, h0.new_ hn⟩) (.eq (.eq (.eq (.cons (fun v W W' hn ⟨b43, o44, he, h0⟩ => ⟨b43, o44, he, h0.new_ hn⟩) (.eq (.eq (.nil)))))))))) ?_ ?_
      · skip
        refine .o1 (tk rfl rfl fun _ w hn k => ⟨_, v_move rfl (k.fx 0 h53), rfl⟩) ?_
        refine .o1 (tk rfl rfl fun _ w hn k => ⟨_, v_move rfl (k.fx 5 h52), rfl⟩) ?_
        refine .o1 (tk rfl rfl fun _ w hn k => (by
              exact x_eaddr (k := .u32) rfl elW (k.eq1 0 17 rfl) (k.eq1 1 18 rfl) (hra.new_ (hN56.transNew hn)) (by omega) fun b33 o34 hme => ⟨b33, o34, rfl, hme⟩)) ?_
        refine .o1 (tk rfl rfl fun _ w hn k => (by
              obtain ⟨b37, o38, e39, hx40⟩ : (fun (v : Value) (W : World) => ∃ (b35 : Nat) (o36 : Nat), v = .pointer (some ⟨b35, o36, none⟩) ∧ SElem W b35 o36 (.int .u32 ((a.getD i 0 : Nat) : Int))) _ _ := k.dep 2 19 (by kernel_rfl) (by kernel_rfl)
              exact ⟨_, v_load rfl e39 (l_one Try.isAgg50 hx40.1), rfl⟩)) ?_
        refine .o1 (tk rfl rfl fun _ w hn k => ⟨_, v_move rfl (k.fx 1 h54), rfl⟩) ?_
        refine .o1 (tk rfl rfl fun _ w hn k => ⟨_, v_move rfl (k.fx 5 h52), rfl⟩) ?_
        refine .o1 (tk rfl rfl fun _ w hn k => (by
              exact x_eaddr (k := .u32) rfl elW (k.eq1 4 21 rfl) (k.eq1 5 22 rfl) (hrb.new_ (hN56.transNew hn)) (by omega) fun b41 o42 hme => ⟨b41, o42, rfl, hme⟩)) ?_
        refine .o1 (tk rfl rfl fun _ w hn k => (by
              obtain ⟨b45, o46, e47, hx48⟩ : (fun (v : Value) (W : World) => ∃ (b43 : Nat) (o44 : Nat), v = .pointer (some ⟨b43, o44, none⟩) ∧ SElem W b43 o44 (.int .u32 ((b.getD i 0 : Nat) : Int))) _ _ := k.dep 6 23 (by kernel_rfl) (by kernel_rfl)
              exact ⟨_, v_load rfl e47 (l_one Try.isAgg50 hx48.1), rfl⟩)) ?_
        refine .o1 (tk rfl rfl fun _ w hn k => ⟨_, v_bin rfl (k.eq1 3 20 rfl) (k.eq1 7 24 rfl) (fun _ => rfl) (r_neq ht61), rfl⟩) ?_
        exact .nil
      intro a92 w93 hn94 ha95
      have hs96 := ha95.size.trans hs50
      have hd97 := ha95.defers.trans hd51
      have h98 := ha95.fx 5 h52
      have h99 := ha95.fx 0 h53
      have h100 := ha95.fx 1 h54
      have h101 := ha95.ge 8 25 rfl
      have hN102 := hN56.transNew hn94
      clear hs50 hd51 h52 h53 h54 hv58 hN56 ha95 hn94
      refine st_nil ?_
      refine hK60 _ _ ?_
      clear hK60 K60
      refine wp_cond_true h101 ?_
      refine wp_seq_k fun K103 hK103 => ?_
      refine wp_g0 [true] [] 26
        [ve (.bool false)] hs96 (.eq (.nil)) ?_ ?_
      · skip
        refine .o1 (tk rfl rfl fun _ w hn k => ⟨_, v_assign rfl rfl, rfl⟩) ?_
        exact .nil
      intro a104 w105 hn106 ha107
      have hs108 := ha107.size.trans hs96
      have hd109 := ha107.defers.trans hd97
      have h110 := ha107.ge 0 4 rfl
      have hN111 := hN102.transNew hn106
      clear hs96 hd97 h98 h99 h100 h101 hN102 ha107 hn106
      refine st_nil ?_
      refine hK103 _ _ ?_
      clear hK103 K103
      refine wp_ret (ret_k hd109 (v := .bool false) (res_t rfl h110 _) ?_)
      exact ⟨by rw [decide_eq_false (fun e => by rw [e] at ht61d; exact ht61d rfl)], hN111⟩
    have ht57d := of_decide_eq_false ht57
    have hv112 : a46.eval (.tmp 14) = .bool false := h55.trans (congrArg Value.bool ht57)
    clear h55
    refine wp_cond_false hv112 ?_
    refine wp_exit ?_
    refine hK24 _ _ ?_
    clear hK24 K24 hK44 K44
    refine wp_seq_k fun K113 hK113 => ?_
    refine wp_g0 [true] [] 26
      [ve (.bool true)] hs50 (.eq (.nil)) ?_ ?_
    · skip
      refine .o1 (tk rfl rfl fun _ w hn k => ⟨_, v_assign rfl rfl, rfl⟩) ?_
      exact .nil
    intro a114 w115 hn116 ha117
    have hs118 := ha117.size.trans hs50
    have hd119 := ha117.defers.trans hd51
    have h120 := ha117.ge 0 4 rfl
    have hN121 := hN56.transNew hn116
    clear hs50 hd51 h52 h53 h54 hv112 hN56 ha117 hn116
    refine st_nil ?_
    refine hK113 _ _ ?_
    clear hK113 K113
    refine wp_ret (ret_k hd119 (v := .bool true) (res_t rfl h120 _) ?_)
    exact ⟨by rw [decide_eq_true (eq_all (by omega) (by omega : i = a.length) heq)], hN121⟩
  have ht13d := of_decide_eq_false ht13
  refine wp_g0 [true, true, true, true, true] [] 26
    [ve (sv A a c),
     ve (iv (a.length : Int)),
     ve (sv B b d),
     ve (iv (b.length : Int)),
     ve (.bool true)] hs6 (.eq (.eq (.eq (.eq (.eq (.nil)))))) ?_ ?_
  · skip
    refine .o1 (tk rfl rfl fun _ w hn k => ⟨_, v_move rfl (k.fx 0 h8), rfl⟩) ?_
    refine .o1 (tk rfl rfl fun _ w hn k => ⟨_, v_lenR rfl elW (k.eq1 0 6 rfl), rfl⟩) ?_
    refine .o1 (tk rfl rfl fun _ w hn k => ⟨_, v_move rfl (k.fx 1 h9), rfl⟩) ?_
    refine .o1 (tk rfl rfl fun _ w hn k => ⟨_, v_lenR rfl elW (k.eq1 2 8 rfl), rfl⟩) ?_
    refine .o1 (tk rfl rfl fun _ w hn k => ⟨_, v_bin rfl (k.eq1 1 7 rfl) (k.eq1 3 9 rfl) (fun _ => rfl) (r_neq ht13), rfl⟩) ?_
    exact .nil
  intro a122 w123 hn124 ha125
  have hs126 := ha125.size.trans hs6
  have hd127 := ha125.defers.trans hd7
  have h128 := ha125.fx 0 h8
  have h129 := ha125.fx 1 h9
  have h130 := ha125.ge 4 10 rfl
  have hN131 := hN10.transNew hn124
  clear hs6 hd7 h8 h9 hN10 ha125 hn124
  refine st_nil ?_
  refine hK12 _ _ ?_
  clear hK12 K12
  refine wp_cond_true h130 ?_
  refine wp_seq_k fun K132 hK132 => ?_
  refine wp_g0 [true] [] 26
    [ve (.bool false)] hs126 (.eq (.nil)) ?_ ?_
  · skip
    refine .o1 (tk rfl rfl fun _ w hn k => ⟨_, v_assign rfl rfl, rfl⟩) ?_
    exact .nil
  intro a133 w134 hn135 ha136
  have hs137 := ha136.size.trans hs126
  have hd138 := ha136.defers.trans hd127
  have h139 := ha136.ge 0 4 rfl
  have hN140 := hN131.transNew hn135
  clear hs126 hd127 h128 h129 h130 hN131 ha136 hn135
  refine st_nil ?_
  refine hK132 _ _ ?_
  clear hK132 K132
  refine wp_ret (ret_k hd138 (v := .bool false) (res_t rfl h139 _) ?_)
  exact ⟨by rw [decide_eq_false (fun e => by rw [e] at ht13d; exact ht13d rfl)], hN140⟩
set_option maxHeartbeats 4000000 in
set_option maxRecDepth 100000 in
theorem rbig_c (b1 : Bool) (A : Option Addr) (a : List Nat) (c : Nat) (b2 : Bool) (B : Option Addr) (b : List Nat) (d : Nat) (w : World) (hra : SRow w .u32 A a c) (hrb : SRow w .u32 B b d) : Calls Try.prog 20 #[.agg #[.bool b1, sv A a c], .agg #[.bool b2, sv B b d]] w (IsRet (.bool (b1 == b2 && decide (a = b))) w) := by
  refine enter_abs Try.func20 rfl fun a0 hs0 hd0 hp => ?_
  have hs0 : a0.tmps.size = 17 := hs0
  have hN0 : New w w := Upd.refl _ _
  have hp0 : a0.eval (.tmp 0) = .agg #[.bool b1, sv A a c] := hp 0 _ rfl
  have hp1 : a0.eval (.tmp 1) = .agg #[.bool b2, sv B b d] := hp 1 _ rfl
  clear hp
  refine wp_seq_k fun K1 hK1 => ?_
  refine wp_g [true, true, true] [] [] 17
    [IsNew w 24 [.bool b1, sv A a c],
     IsNew w 24 [.bool b2, sv B b d],
     ve (.bool false)]
    [0, 1] (newsCons (fun v w h => IsNew.old h) (newsCons (fun v w h => IsNew.old h) newsNil)) hs0 (.nw (.nw (.eq (.nil)))) ?_ (fun i h => by cases h) ?_
  · skip
    refine .o2 (step_allocN (cs := [.bool b1, sv A a c]) (t := 24) rfl (noG rfl) (fun _ w hn k => v_box rfl (k.fx 0 hp0) (fun w => rfl)) (fun q _ hq hb => ⟨q, rfl, hq, hb⟩)) ?_
    refine .o2 (step_allocN (cs := [.bool b2, sv B b d]) (t := 24) rfl (noG rfl) (fun _ w hn k => v_box rfl (k.fx 1 hp1) (fun w => rfl)) (fun q _ hq hb => ⟨q, rfl, hq, hb⟩)) ?_
    refine .o1 (tk rfl rfl fun _ w hn k => ⟨_, v_assign rfl rfl, rfl⟩) ?_
    exact .nil
  intro a2 w3 hn4 ha5
  have hs6 := ha5.size.trans hs0
  have hd7 := ha5.defers.trans hd0
  obtain ⟨q9, h8, hq10, hb11⟩ : IsNew _ _ _ _ _ := ha5.got 0 2 rfl (by kernel_rfl)
  obtain ⟨q13, h12, hq14, hb15⟩ : IsNew _ _ _ _ _ := ha5.got 1 3 rfl (by kernel_rfl)
  have hq16 := Nat.le_trans hN0.size hq10
  have hq17 := Nat.le_trans hN0.size hq14
  have hN18 := hN0.transNew hn4
  clear hs0 hd0 hp0 hp1 hq10 hq14 hN0 ha5 hn4
  refine st_nil ?_
  refine hK1 _ _ ?_
  clear hK1 K1
  refine wp_seq_k fun K19 hK19 => ?_
  rcases Bool.eq_false_or_eq_true (b1) with ht20 | ht20
  · skip
    rcases Bool.eq_false_or_eq_true (b2) with ht21 | ht21
    · skip
      refine wp_g0 [true, true, true, true, true, true, true, true, true, true, true, true, true] [] 17
        [ve (pv q9),
         ve (.bool true),
         ve (pv q13),
         ve (.bool true),
         ve (.bool true),
         ve (.bool true),
         ve (.pointer (some ⟨q9, 1, none⟩)),
         ve (sv A a c),
         ve (.pointer (some ⟨q13, 1, none⟩)),
         ve (sv B b d),
         ve (.bool (decide (a = b))),
         ve (.bool (decide (a = b))),
         ve (.bool (decide (a = b)))] hs6 (.eq (.eq (.eq (.eq (.eq (.eq (.eq (.eq (.eq (.eq (.eq (.eq (.eq (.nil)))))))))))))) ?_ ?_
      · skip
        refine .o1 (tk rfl rfl fun _ w hn k => ⟨_, v_field rfl (k.fx 2 h8) (fun w => rfl), rfl⟩) ?_
        refine .o1 (tk rfl rfl fun _ w hn k => ⟨_, v_load rfl (k.eq1 0 5 rfl) (l_one Try.isAgg4 ((hb11.new_ hn).cell 0)), congrArg Value.bool ht20⟩) ?_
        refine .o1 (tk rfl rfl fun _ w hn k => ⟨_, v_field rfl (k.fx 3 h12) (fun w => rfl), rfl⟩) ?_
        refine .o1 (tk rfl rfl fun _ w hn k => ⟨_, v_load rfl (k.eq1 2 7 rfl) (l_one Try.isAgg4 ((hb15.new_ hn).cell 0)), congrArg Value.bool ht21⟩) ?_
        refine .o1 (tk rfl rfl fun _ w hn k => ⟨_, v_bin rfl (k.eq1 1 6 rfl) (k.eq1 3 8 rfl) (fun _ => rfl) (fun w => by kernel_rfl), rfl⟩) ?_
        refine .o1 (tk rfl rfl fun _ w hn k => ⟨_, v_move rfl (k.eq1 4 9 rfl), rfl⟩) ?_
        refine .o1 (tg rfl rfl rfl (fun _ _ k => k.eq1 5 10 rfl) fun _ w hn k => ⟨_, v_field rfl (k.fx 2 h8) (fun w => rfl), rfl⟩) ?_
        refine .o1 (tg rfl rfl rfl (fun _ _ k => k.eq1 5 10 rfl) fun _ w hn k => ⟨_, v_load rfl (k.eq1 6 11 rfl) (l_one Try.isAgg22 ((hb11.new_ hn).cell 1)), rfl⟩) ?_
        refine .o1 (tg rfl rfl rfl (fun _ _ k => k.eq1 5 10 rfl) fun _ w hn k => ⟨_, v_field rfl (k.fx 3 h12) (fun w => rfl), rfl⟩) ?_
        refine .o1 (tg rfl rfl rfl (fun _ _ k => k.eq1 5 10 rfl) fun _ w hn k => ⟨_, v_load rfl (k.eq1 8 13 rfl) (l_one Try.isAgg22 ((hb15.new_ hn).cell 1)), rfl⟩) ?_
        refine .o1 (cg rfl rfl rfl (fun _ _ k => k.eq1 5 10 rfl) rfl (fun _ w hn k => ⟨#[sv A a c, sv B b d], args2 (k.eq1 7 12 rfl) (k.eq1 9 14 rfl), fun _ => by kernel_rfl, limbs_c _ _ _ _ _ _ _ (hra.new_ (hN18.transNew hn)) (hrb.new_ (hN18.transNew hn))⟩) fun _ => rfl) ?_
        refine .o1 (tk rfl rfl fun _ w hn k => ⟨_, v_pickT rfl (k.eq1 5 10 rfl) (k.eq1 10 15 rfl), rfl⟩) ?_
        refine .o1 (tk rfl rfl fun _ w hn k => ⟨_, v_assign rfl (k.eq1 11 16 rfl), rfl⟩) ?_
        exact .nil
      intro a22 w23 hn24 ha25
      have hs26 := ha25.size.trans hs6
      have hd27 := ha25.defers.trans hd7
      have h28 := ha25.ge 12 4 rfl
      have hN29 := hN18.transNew hn24
      clear hs6 hd7 h8 h12 hb11 hq16 hb15 hq17 hN18 ha25 hn24
      refine st_nil ?_
      refine hK19 _ _ ?_
      clear hK19 K19
      refine wp_ret (ret_k hd27 (v := .bool (decide (a = b))) (res_t rfl h28 _) ?_)
      exact ⟨by simp [ht20, ht21], hN29⟩
    refine wp_g0 [true, true, true, true, true, true, true, true, true, true, true, true, true] [] 17
      [ve (pv q9),
       ve (.bool true),
       ve (pv q13),
       ve (.bool false),
       ve (.bool false),
       ve (.bool false),
       ve undef,
       ve undef,
       ve undef,
       ve undef,
       ve undef,
       ve (.bool false),
       ve (.bool false)] hs6 (.eq (.eq (.eq (.eq (.eq (.eq (.eq (.eq (.eq (.eq (.eq (.eq (.eq (.nil)))))))))))))) ?_ ?_
    · skip
      refine .o1 (tk rfl rfl fun _ w hn k => ⟨_, v_field rfl (k.fx 2 h8) (fun w => rfl), rfl⟩) ?_
      refine .o1 (tk rfl rfl fun _ w hn k => ⟨_, v_load rfl (k.eq1 0 5 rfl) (l_one Try.isAgg4 ((hb11.new_ hn).cell 0)), congrArg Value.bool ht20⟩) ?_
      refine .o1 (tk rfl rfl fun _ w hn k => ⟨_, v_field rfl (k.fx 3 h12) (fun w => rfl), rfl⟩) ?_
      refine .o1 (tk rfl rfl fun _ w hn k => ⟨_, v_load rfl (k.eq1 2 7 rfl) (l_one Try.isAgg4 ((hb15.new_ hn).cell 0)), congrArg Value.bool ht21⟩) ?_
      refine .o1 (tk rfl rfl fun _ w hn k => ⟨_, v_bin rfl (k.eq1 1 6 rfl) (k.eq1 3 8 rfl) (fun _ => rfl) (fun w => by kernel_rfl), rfl⟩) ?_
      refine .o1 (tk rfl rfl fun _ w hn k => ⟨_, v_move rfl (k.eq1 4 9 rfl), rfl⟩) ?_
      refine .o1 (sk rfl rfl rfl (fun _ _ _ k => k.eq1 5 10 rfl) (fun _ => rfl)) ?_
      refine .o1 (sk rfl rfl rfl (fun _ _ _ k => k.eq1 5 10 rfl) (fun _ => rfl)) ?_
      refine .o1 (sk rfl rfl rfl (fun _ _ _ k => k.eq1 5 10 rfl) (fun _ => rfl)) ?_
      refine .o1 (sk rfl rfl rfl (fun _ _ _ k => k.eq1 5 10 rfl) (fun _ => rfl)) ?_
      refine .o1 (sk rfl rfl rfl (fun _ _ _ k => k.eq1 5 10 rfl) (fun _ => rfl)) ?_
      refine .o1 (tk rfl rfl fun _ w hn k => ⟨_, v_pickF rfl (k.eq1 5 10 rfl) rfl, rfl⟩) ?_
      refine .o1 (tk rfl rfl fun _ w hn k => ⟨_, v_assign rfl (k.eq1 11 16 rfl), rfl⟩) ?_
      exact .nil
    intro a30 w31 hn32 ha33
    have hs34 := ha33.size.trans hs6
    have hd35 := ha33.defers.trans hd7
    have h36 := ha33.ge 12 4 rfl
    have hN37 := hN18.transNew hn32
    clear hs6 hd7 h8 h12 hb11 hq16 hb15 hq17 hN18 ha33 hn32
    refine st_nil ?_
    refine hK19 _ _ ?_
    clear hK19 K19
    refine wp_ret (ret_k hd35 (v := .bool false) (res_t rfl h36 _) ?_)
    exact ⟨by simp [ht20, ht21], hN37⟩
  rcases Bool.eq_false_or_eq_true (b2) with ht38 | ht38
  · skip
    refine wp_g0 [true, true, true, true, true, true, true, true, true, true, true, true, true] [] 17
      [ve (pv q9),
       ve (.bool false),
       ve (pv q13),
       ve (.bool true),
       ve (.bool false),
       ve (.bool false),
       ve undef,
       ve undef,
       ve undef,
       ve undef,
       ve undef,
       ve (.bool false),
       ve (.bool false)] hs6 (.eq (.eq (.eq (.eq (.eq (.eq (.eq (.eq (.eq (.eq (.eq (.eq (.eq (.nil)))))))))))))) ?_ ?_
    · skip
      refine .o1 (tk rfl rfl fun _ w hn k => ⟨_, v_field rfl (k.fx 2 h8) (fun w => rfl), rfl⟩) ?_
      refine .o1 (tk rfl rfl fun _ w hn k => ⟨_, v_load rfl (k.eq1 0 5 rfl) (l_one Try.isAgg4 ((hb11.new_ hn).cell 0)), congrArg Value.bool ht20⟩) ?_
      refine .o1 (tk rfl rfl fun _ w hn k => ⟨_, v_field rfl (k.fx 3 h12) (fun w => rfl), rfl⟩) ?_
      refine .o1 (tk rfl rfl fun _ w hn k => ⟨_, v_load rfl (k.eq1 2 7 rfl) (l_one Try.isAgg4 ((hb15.new_ hn).cell 0)), congrArg Value.bool ht38⟩) ?_
      refine .o1 (tk rfl rfl fun _ w hn k => ⟨_, v_bin rfl (k.eq1 1 6 rfl) (k.eq1 3 8 rfl) (fun _ => rfl) (fun w => by kernel_rfl), rfl⟩) ?_
      refine .o1 (tk rfl rfl fun _ w hn k => ⟨_, v_move rfl (k.eq1 4 9 rfl), rfl⟩) ?_
      refine .o1 (sk rfl rfl rfl (fun _ _ _ k => k.eq1 5 10 rfl) (fun _ => rfl)) ?_
      refine .o1 (sk rfl rfl rfl (fun _ _ _ k => k.eq1 5 10 rfl) (fun _ => rfl)) ?_
      refine .o1 (sk rfl rfl rfl (fun _ _ _ k => k.eq1 5 10 rfl) (fun _ => rfl)) ?_
      refine .o1 (sk rfl rfl rfl (fun _ _ _ k => k.eq1 5 10 rfl) (fun _ => rfl)) ?_
      refine .o1 (sk rfl rfl rfl (fun _ _ _ k => k.eq1 5 10 rfl) (fun _ => rfl)) ?_
      refine .o1 (tk rfl rfl fun _ w hn k => ⟨_, v_pickF rfl (k.eq1 5 10 rfl) rfl, rfl⟩) ?_
      refine .o1 (tk rfl rfl fun _ w hn k => ⟨_, v_assign rfl (k.eq1 11 16 rfl), rfl⟩) ?_
      exact .nil
    intro a39 w40 hn41 ha42
    have hs43 := ha42.size.trans hs6
    have hd44 := ha42.defers.trans hd7
    have h45 := ha42.ge 12 4 rfl
    have hN46 := hN18.transNew hn41
    clear hs6 hd7 h8 h12 hb11 hq16 hb15 hq17 hN18 ha42 hn41
    refine st_nil ?_
    refine hK19 _ _ ?_
    clear hK19 K19
    refine wp_ret (ret_k hd44 (v := .bool false) (res_t rfl h45 _) ?_)
    exact ⟨by simp [ht20, ht38], hN46⟩
  refine wp_g0 [true, true, true, true, true, true, true, true, true, true, true, true, true] [] 17
    [ve (pv q9),
     ve (.bool false),
     ve (pv q13),
     ve (.bool false),
     ve (.bool true),
     ve (.bool true),
     ve (.pointer (some ⟨q9, 1, none⟩)),
     ve (sv A a c),
     ve (.pointer (some ⟨q13, 1, none⟩)),
     ve (sv B b d),
     ve (.bool (decide (a = b))),
     ve (.bool (decide (a = b))),
     ve (.bool (decide (a = b)))] hs6 (.eq (.eq (.eq (.eq (.eq (.eq (.eq (.eq (.eq (.eq (.eq (.eq (.eq (.nil)))))))))))))) ?_ ?_
  · skip
    refine .o1 (tk rfl rfl fun _ w hn k => ⟨_, v_field rfl (k.fx 2 h8) (fun w => rfl), rfl⟩) ?_
    refine .o1 (tk rfl rfl fun _ w hn k => ⟨_, v_load rfl (k.eq1 0 5 rfl) (l_one Try.isAgg4 ((hb11.new_ hn).cell 0)), congrArg Value.bool ht20⟩) ?_
    refine .o1 (tk rfl rfl fun _ w hn k => ⟨_, v_field rfl (k.fx 3 h12) (fun w => rfl), rfl⟩) ?_
    refine .o1 (tk rfl rfl fun _ w hn k => ⟨_, v_load rfl (k.eq1 2 7 rfl) (l_one Try.isAgg4 ((hb15.new_ hn).cell 0)), congrArg Value.bool ht38⟩) ?_
    refine .o1 (tk rfl rfl fun _ w hn k => ⟨_, v_bin rfl (k.eq1 1 6 rfl) (k.eq1 3 8 rfl) (fun _ => rfl) (fun w => by kernel_rfl), rfl⟩) ?_
    refine .o1 (tk rfl rfl fun _ w hn k => ⟨_, v_move rfl (k.eq1 4 9 rfl), rfl⟩) ?_
    refine .o1 (tg rfl rfl rfl (fun _ _ k => k.eq1 5 10 rfl) fun _ w hn k => ⟨_, v_field rfl (k.fx 2 h8) (fun w => rfl), rfl⟩) ?_
    refine .o1 (tg rfl rfl rfl (fun _ _ k => k.eq1 5 10 rfl) fun _ w hn k => ⟨_, v_load rfl (k.eq1 6 11 rfl) (l_one Try.isAgg22 ((hb11.new_ hn).cell 1)), rfl⟩) ?_
    refine .o1 (tg rfl rfl rfl (fun _ _ k => k.eq1 5 10 rfl) fun _ w hn k => ⟨_, v_field rfl (k.fx 3 h12) (fun w => rfl), rfl⟩) ?_
    refine .o1 (tg rfl rfl rfl (fun _ _ k => k.eq1 5 10 rfl) fun _ w hn k => ⟨_, v_load rfl (k.eq1 8 13 rfl) (l_one Try.isAgg22 ((hb15.new_ hn).cell 1)), rfl⟩) ?_
    refine .o1 (cg rfl rfl rfl (fun _ _ k => k.eq1 5 10 rfl) rfl (fun _ w hn k => ⟨#[sv A a c, sv B b d], args2 (k.eq1 7 12 rfl) (k.eq1 9 14 rfl), fun _ => by kernel_rfl, limbs_c _ _ _ _ _ _ _ (hra.new_ (hN18.transNew hn)) (hrb.new_ (hN18.transNew hn))⟩) fun _ => rfl) ?_
    refine .o1 (tk rfl rfl fun _ w hn k => ⟨_, v_pickT rfl (k.eq1 5 10 rfl) (k.eq1 10 15 rfl), rfl⟩) ?_
    refine .o1 (tk rfl rfl fun _ w hn k => ⟨_, v_assign rfl (k.eq1 11 16 rfl), rfl⟩) ?_
    exact .nil
  intro a47 w48 hn49 ha50
  have hs51 := ha50.size.trans hs6
  have hd52 := ha50.defers.trans hd7
  have h53 := ha50.ge 12 4 rfl
  have hN54 := hN18.transNew hn49
  clear hs6 hd7 h8 h12 hb11 hq16 hb15 hq17 hN18 ha50 hn49
  refine st_nil ?_
  refine hK19 _ _ ?_
  clear hK19 K19
  refine wp_ret (ret_k hd52 (v := .bool (decide (a = b))) (res_t rfl h53 _) ?_)
  exact ⟨by simp [ht20, ht38], hN54⟩
set_option maxHeartbeats 4000000 in
set_option maxRecDepth 100000 in
theorem copyb_c (b : Bool) (A : Option Addr) (m : List Nat) (c : Nat) (w : World) (hr : SRow w .u32 A m c) (hs : m.length ≤ 1000000) : Calls Try.prog 39 #[.agg #[.bool b, sv A m c]] w (RetF (fun r => .agg #[.bool b, r]) .u32 m w) := by
  refine enter_abs Try.func39 rfl fun a0 hs0 hd0 hp => ?_
  have hs0 : a0.tmps.size = 10 := hs0
  have hN0 : New w w := Upd.refl _ _
  have hp0 : a0.eval (.tmp 0) = .agg #[.bool b, sv A m c] := hp 0 _ rfl
  clear hp
  refine wp_seq_k fun K1 hK1 => ?_
  refine wp_g [true, true] [] [] 10
    [IsNew w 24 [.bool b, sv A m c],
     IsNew w 24 [.bool false, sv none ([]) 0]]
    [0, 1] (newsCons (fun v w h => IsNew.old h) (newsCons (fun v w h => IsNew.old h) newsNil)) hs0 (.nw (.nw (.nil))) ?_ (fun i h => by cases h) ?_
  · skip
    refine .o2 (step_allocN (cs := [.bool b, sv A m c]) (t := 24) rfl (noG rfl) (fun _ w hn k => v_box rfl (k.fx 0 hp0) (fun w => rfl)) (fun q _ hq hb => ⟨q, rfl, hq, hb⟩)) ?_
    refine .o2 (step_allocN (cs := [.bool false, sv none ([]) 0]) (t := 24) rfl (noG rfl) (fun _ w hn k => rfl) (fun q _ hq hb => ⟨q, rfl, hq, hb⟩)) ?_
    exact .nil
  intro a2 w3 hn4 ha5
  have hs6 := ha5.size.trans hs0
  have hd7 := ha5.defers.trans hd0
  obtain ⟨q9, h8, hq10, hb11⟩ : IsNew _ _ _ _ _ := ha5.got 0 1 rfl (by kernel_rfl)
  obtain ⟨q13, h12, hq14, hb15⟩ : IsNew _ _ _ _ _ := ha5.got 1 2 rfl (by kernel_rfl)
  have hne16 : q9 ≠ q13 := ha5.ne 0 1 1 2 h8 h12
  have hq17 := Nat.le_trans hN0.size hq10
  have hq18 := Nat.le_trans hN0.size hq14
  have hN19 := hN0.transNew hn4
  clear hs0 hd0 hp0 hq10 hq14 hN0 ha5 hn4
  refine st_nil ?_
  refine hK1 _ _ ?_
  clear hK1 K1
  refine wp_seq_k fun K20 hK20 => ?_
  refine wp_gS (fun W => Blk W q9 24 [.bool b, sv A m c] ∧ True) (fun W W' hn h => ⟨Blk.new_ h.1 hn, trivial⟩) ⟨hb11, trivial⟩ [true, true, true, true, true, false, false, false] [0, 1] [(5, false), (6, true), (7, false)] 10
    [ve (pv q9),
     ve (.bool b),
     (fun (v : Value) (W : World) => ∃ (A3 : Option Addr) (c4 : Nat), v = sv A3 ([]) c4 ∧ SOwn W w3.heap.size 50 .u32 A3 ([]) c4),
     ve (.pointer (some ⟨q9, 1, none⟩)),
     ve (sv A m c),
     vt,
     vt,
     vt]
    [] newsNil hs6 (.eq (.eq (.cons (fun v W W' hn ⟨A3, c4, he, h0⟩ => ⟨A3, c4, he, h0.new_ hn⟩) (.eq (.eq (.tt (.tt (.tt (.nil))))))))) ?_ ?_ ?_
  · skip
    refine .o3 ?_
    refine .o3 ?_
    refine .o1 (tkA rfl (noG rfl) fun _ w hn k => (by
          exact x_bslice0 .u32 rfl parts0 elW fun A1 c2 W' hmo => ⟨A1, c2, rfl, (hmo.more hn.size)⟩)) ?_
    refine .o1 (tk rfl rfl fun _ w hn k => ⟨_, v_field rfl (k.fx 1 h8) (fun w => rfl), rfl⟩) ?_
    refine .o1 (tk rfl rfl fun _ w hn k => ⟨_, v_load rfl (k.eq1 3 6 rfl) (l_one Try.isAgg22 ((hb11.new_ hn).cell 1)), rfl⟩) ?_
    refine .off ?_
    refine .off ?_
    refine .off ?_
    exact .nil
  · skip
    intro i h
    simp only [List.contains_eq_mem, List.mem_cons, List.not_mem_nil, or_false, decide_eq_true_eq] at h
    rcases h with rfl | rfl
    · exact eager_takeG rfl (noG rfl) fun _ w hn k => (by
          exact ⟨_, fun w hS => v_field rfl (k.fx 1 h8) (fun w => rfl), rfl⟩)
    · exact eager_takeG rfl (noG rfl) fun _ w hn k => (by
          exact ⟨_, fun w hS => v_load rfl (k.eq1 0 3 rfl) (l_one Try.isAgg4 (hS.1.cell 0)), rfl⟩)
  intro a21 w22 _ hn23 ha24
  have hs25 := ha24.size.trans hs6
  have hd26 := ha24.defers.trans hd7
  have h27 := ha24.fx 2 h12
  have h28 := ha24.ge 1 4 rfl
  obtain ⟨A30, cc31, h29, hr32⟩ : (fun (v : Value) (W : World) => ∃ (A3 : Option Addr) (c4 : Nat), v = sv A3 ([]) c4 ∧ SOwn W w3.heap.size 50 .u32 A3 ([]) c4) _ _ := ha24.got 2 5 rfl (by kernel_rfl)
  have h29 : a21.eval (.tmp 5) = sv A30 ([]) cc31 := h29
  have h33 := ha24.ge 4 7 rfl
  have hb34 := hb11.new_ hn23
  have hb35 := hb15.new_ hn23
  have hr36 := hr32.more hN19.size
  have hN37 := hN19.transNew hn23
  clear hs6 hd7 h8 h12 hb11 hb15 hr32 hN19 ha24 hn23
  have hw46 := hN37.size
  refine st_act rfl rfl fun K44 hL45 => a_append (k := .u32) (b := w.heap.size) rfl elW h29 hr36 h33 (hr.new_ hN37) (by first | omega | (simp only [List.length_nil, List.length_cons, List.length_append, List.length_take, List.length_drop, List.length_replicate, List.length_set]; omega)) (by first | omega | (simp only [List.length_nil, List.length_cons, List.length_append, List.length_take, List.length_drop, List.length_replicate, List.length_set]; omega)) hw46 fun A38 cc39 w40 hr41 hg42 => hL45 _ _ ⟨(hb34.ownGrown hr36 (by decide) hg42), trivial⟩ ?_
  have hN43 := hN37.ownGrown hr36 hg42
  have hb47 := hb34.ownGrown hr36 (by decide) hg42
  have hb48 := hb35.ownGrown hr36 (by decide) hg42
  clear hg42 K44 hL45 hw46 hN37 hb34 hb35 hr36 h29
  obtain ⟨a49, ha50⟩ : ∃ a', a' = a21.put (some 8) (sv A38 ([] ++ m) cc39) := ⟨_, rfl⟩
  have hs51 : a49.tmps.size = 10 := by rw [ha50, put_size]; exact hs25
  have hd52 : a49.defers = [] := by rw [ha50, put_defers]; exact hd26
  have h53 : a49.eval (.tmp 2) = pv q13 := by rw [ha50, put_ne _ _ _ _ (by decide)]; exact h27
  have h54 : a49.eval (.tmp 4) = .bool b := by rw [ha50, put_ne _ _ _ _ (by decide)]; exact h28
  have h55 : a49.eval (.tmp 7) = sv A m c := by rw [ha50, put_ne _ _ _ _ (by decide)]; exact h33
  have h56 : a49.eval (.tmp 8) = sv A38 ([] ++ m) cc39 := by rw [ha50]; exact put_same _ _ _ (by rw [hs25]; decide)
  show stepsTo _ _ _ _ _ (a21.put (some 8) (sv A38 ([] ++ m) cc39)) _
  rw [← ha50]
  clear ha50 hs25 hd26 h27 h28 h33
  refine st_take rfl rfl (fun w _ => v_build (w := w) (cells := #[.bool b, sv A38 ([] ++ m) cc39]) (ps := [(0, .bool b), (1, sv A38 ([] ++ m) cc39)]) rfl (parts2 h54 h56) (by kernel_rfl)) rfl ?_
  obtain ⟨a57, ha58⟩ : ∃ a', a' = a49.put (some 9) (.agg #[.bool b, sv A38 ([] ++ m) cc39]) := ⟨_, rfl⟩
  have hs59 : a57.tmps.size = 10 := by rw [ha58, put_size]; exact hs51
  have hd60 : a57.defers = [] := by rw [ha58, put_defers]; exact hd52
  have h61 : a57.eval (.tmp 2) = pv q13 := by rw [ha58, put_ne _ _ _ _ (by decide)]; exact h53
  have h62 : a57.eval (.tmp 4) = .bool b := by rw [ha58, put_ne _ _ _ _ (by decide)]; exact h54
  have h63 : a57.eval (.tmp 7) = sv A m c := by rw [ha58, put_ne _ _ _ _ (by decide)]; exact h55
  have h64 : a57.eval (.tmp 8) = sv A38 ([] ++ m) cc39 := by rw [ha58, put_ne _ _ _ _ (by decide)]; exact h56
  have h65 : a57.eval (.tmp 9) = .agg #[.bool b, sv A38 ([] ++ m) cc39] := by rw [ha58]; exact put_same _ _ _ (by rw [hs51]; decide)
  show stepsTo _ _ _ _ _ (a49.put (some 9) (.agg #[.bool b, sv A38 ([] ++ m) cc39])) _
  rw [← ha58]
  clear ha58 hs51 hd52 h53 h54 h55 h56
  obtain ⟨w66, -, hst67, hb68, hu69, hf70⟩ := s_two (v0 := .bool b) (v1 := sv A38 ([] ++ m) cc39) Try.sizeOf24 rfl rfl rfl hb48
  refine st_act rfl rfl fun K71 hL72 => a_store' rfl h61 h65 hst67 (hL72 _ _ ⟨(hf70 _ _ _ (hne16) hb47), trivial⟩ ?_)
  have hr73 := hr41.far hb48 hu69 (by decide)
  have hb74 := hf70 _ _ _ (hne16) hb47
  have hN75 := hN43.trans hu69 (fun k hk hkb => by subst hkb; omega)
  clear hb48 hst67 K71 hL72 hN43 hr41 hb47 hu69 hf70
  refine st_nil ?_
  clear h62 h63 h64 h65
  refine hK20 _ _ ?_
  clear hK20 K20
  refine wp_ret (ret_k hd60 (v := .agg #[.bool b, sv A38 ([] ++ m) cc39]) (res_c rfl h61 (l_two Try.isAgg24 Try.sizeOf24 hb68)) ?_)
  exact ⟨A38, cc39, rfl, hr73.row, hN75⟩
end Go.Proofs.Ytfhflpchfgkgcaa
