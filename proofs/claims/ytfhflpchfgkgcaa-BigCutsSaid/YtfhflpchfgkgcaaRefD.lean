/- Package renref2: quotients, the order; copies. -/
import Derived.Test.YtfhflpchfgkgcaaRefC
import Derived.Test.YtfhflpchfgkgcaaBigL
namespace Go.Proofs.Ytfhflpchfgkgcaa
open Go.RowKit
set_option linter.unusedSimpArgs false
set_option linter.unusedVariables false
theorem pow_pos {k : Nat} : 0 < val (canon (val (powL k))) := by rw [val_canon, powL_val]; exact Nat.pow_pos (by omega)
theorem pow_len {k : Nat} (h : k ≤ 256) : (canon (val (powL k))).length ≤ 9 := by
  refine canon_len_le (Nat.lt_of_lt_of_le (val_lt (powL_limbs k)) (Nat.pow_le_pow_right (by omega) ?_))
  rw [powL_len]; omega
theorem quo_len {x : Int} {y : Nat} (hx : x.natAbs < 2 ^ 256) : (canon (val (canon x.natAbs) / y)).length ≤ 8 := by
  rw [val_canon]; exact (canon_len8 _).2 (Nat.lt_of_le_of_lt (Nat.div_le_self _ _) hx)
theorem rem_len8 {x : Int} {y : Nat} (hx : x.natAbs < 2 ^ 256) : (canon (val (canon x.natAbs) % y)).length ≤ 8 := by
  rw [val_canon]; exact (canon_len8 _).2 (Nat.lt_of_le_of_lt (Nat.mod_le _ _) hx)
theorem powsub_len {k y : Nat} (h : k ≤ 256) : (canon (val (powL k) - y)).length ≤ 9 := by
  have h1 := val_lt (powL_limbs k)
  have h2 : 4294967296 ^ (powL k).length ≤ 4294967296 ^ 9 := Nat.pow_le_pow_right (by omega) (by rw [powL_len]; omega)
  exact canon_len_le (by omega)
theorem nz_pos {x : Nat} (h : decide (((canon x).length : Int) = 0) = false) : 0 < val (canon x) := by
  have h1 := of_decide_eq_false h
  rw [val_canon]
  rcases Nat.eq_zero_or_pos x with h2 | h2
  · rw [h2, canon_zero] at h1; simp at h1
  · exact h2
theorem z_nil {z : Int} (h : decide (((canon z.natAbs).length : Int) = 0) = true) : z = 0 := by
  have h1 := of_decide_eq_true h
  have h2 := canon_nil.1 (List.eq_nil_of_length_eq_zero (l := canon z.natAbs) (by omega))
  omega
theorem z_nnil {z : Int} (h : decide (((canon z.natAbs).length : Int) = 0) = false) : z ≠ 0 := by
  have h1 := nz_pos h
  rw [val_canon] at h1
  omega
theorem zeroE_yes {z : Int} (h : decide (((canon z.natAbs).length : Int) = 0) = true) : 4 = zeroE z := by rw [z_nil h]; rfl
theorem zeroE_no {z : Int} (h : decide (((canon z.natAbs).length : Int) = 0) = false) : 0 = zeroE z := by unfold zeroE; rw [if_neg (z_nnil h)]
theorem divZ_0 {x z : Int} (h : decide (((canon z.natAbs).length : Int) = 0) = true) : divZ x z = 0 := by rw [z_nil h]; rfl
theorem remZ_0 {x z : Int} (h : decide (((canon z.natAbs).length : Int) = 0) = true) : remZ x z = 0 := by rw [z_nil h]; rfl
theorem divZ_sgn {x y : Int} {d d' : Bool} (hx : decide (x < 0) = d) (hy : decide (y < 0) = d') (h : decide (((canon y.natAbs).length : Int) = 0) = false) : sgn (d != d') (val (canon (val (canon x.natAbs) / val (canon y.natAbs)))) = divZ x y := by
  rw [val_canon, val_canon, val_canon, sgn_div hx.symm hy.symm]; unfold divZ; rw [if_neg (z_nnil h)]
theorem remZ_sgn {x y : Int} {d : Bool} (hx : decide (x < 0) = d) (h : decide (((canon y.natAbs).length : Int) = 0) = false) : sgn d (val (canon (val (canon x.natAbs) % val (canon y.natAbs)))) = remZ x y := by
  rw [val_canon, val_canon, val_canon, sgn_rem hx.symm]; unfold remZ; rw [if_neg (z_nnil h)]
theorem cmpN_I (a b : Nat) : cmpN a b = cmpI a b := rfl
theorem cmpZ_nn1 {a b : Int} (ha : decide (a < 0) = true) (hb : decide (b < 0) = true) : cmpN (val (canon b.natAbs)) (val (canon a.natAbs)) = cmpZ a b := by
  rw [val_canon, val_canon, cmpN_I]; exact cmpZ_nn (of_decide_eq_true ha) (of_decide_eq_true hb)
theorem cmpZ_pp1 {a b : Int} (ha : decide (a < 0) = false) (hb : decide (b < 0) = false) : cmpN (val (canon a.natAbs)) (val (canon b.natAbs)) = cmpZ a b := by
  rw [val_canon, val_canon, cmpN_I]; exact cmpZ_pp (of_decide_eq_false ha) (of_decide_eq_false hb)
theorem eq_up {a b : List Nat} {i : Nat} (h : ∀ j, j < i → a.getD j 0 = b.getD j 0) (hi : i < a.length) (h1 : decide (((a.getD i 0 : Nat) : Int) = ((b.getD i 0 : Nat) : Int)) = true) : ∀ j, j < i + 1 → a.getD j 0 = b.getD j 0 := by
  intro j hj
  rcases Nat.lt_or_ge j i with h2 | h2
  · exact h j h2
  · obtain rfl : j = i := by omega
    have := of_decide_eq_true h1
    omega
theorem eq_all {a b : List Nat} {i : Nat} (hl : a.length = b.length) (hi : i = a.length) (h : ∀ j, j < i → a.getD j 0 = b.getD j 0) : a = b := by
  refine List.ext_getElem hl fun j h1 h2 => ?_
  have := h j (by omega)
  simpa [List.getD, h1, h2] using this
theorem same_eq (x y : Int) : decide (x = y) = (decide (x < 0) == decide (y < 0) && decide (canon x.natAbs = canon y.natAbs)) := by
  by_cases h : x = y
  · subst h; simp
  · rw [decide_eq_false h]
    by_cases h2 : canon x.natAbs = canon y.natAbs
    · have h3 := canon_inj h2
      rw [decide_eq_true h2, Bool.and_true]
      by_cases hx : x < 0
      · rw [decide_eq_true hx, decide_eq_false (by omega)]; rfl
      · rw [decide_eq_false hx, decide_eq_true (by omega)]; rfl
    · rw [decide_eq_false h2, Bool.and_false]
set_option maxHeartbeats 4000000 in
set_option maxRecDepth 100000 in
theorem rdivide_0 (A B : Option Addr) (a b : List Nat) (c d : Nat) (w : World) (hra : SRow w .u32 A a c) (hrb : SRow w .u32 B b d) (ha : Limbs a) (hb : Limbs b) (hsa : a.length ≤ 400000) (hsb : b.length ≤ 400000) (h0 : a.length = 0) : Calls Try.prog 62 #[sv A a c, sv B b d] w (RetSS 50 .u32 (canon (val a / val b)) (canon (val a % val b)) w) := by
  refine enter_abs Try.func62 rfl fun a0 hs0 hd0 hp => ?_
  have hs0 : a0.tmps.size = 58 := hs0
  have hN0 : New w w := Upd.refl _ _
  have hp0 : a0.eval (.tmp 0) = sv A a c := hp 0 _ rfl
  have hp1 : a0.eval (.tmp 1) = sv B b d := hp 1 _ rfl
  clear hp
  refine wp_seq_k fun K1 hK1 => ?_
  refine wp_g0 [true, true] [] 58
    [ve (sv none ([]) 0),
     ve (sv none ([]) 0)] hs0 (.eq (.eq (.nil))) ?_ ?_
  · skip
    refine .o1 (tk rfl rfl fun _ w hn k => ⟨_, v_assign rfl rfl, rfl⟩) ?_
    refine .o1 (tk rfl rfl fun _ w hn k => ⟨_, v_assign rfl rfl, rfl⟩) ?_
    exact .nil
  intro a2 w3 hn4 ha5
  have hs6 := ha5.size.trans hs0
  have hd7 := ha5.defers.trans hd0
  have h8 := ha5.fx 0 hp0
  have h9 := ha5.fx 1 hp1
  have hN10 := hN0.transNew hn4
  clear hs0 hd0 hp0 hp1 hN0 ha5 hn4
  refine st_nil ?_
  refine hK1 _ _ ?_
  clear hK1 K1
  refine wp_seq_k fun K11 hK11 => ?_
  refine wp_g0 [true, true, true, true] [] 58
    [ve (sv A a c),
     ve (iv (a.length : Int)),
     (fun (v : Value) (W : World) => ∃ (A3 : Option Addr) (c4 : Nat), v = sv A3 (List.replicate a.length 0) c4 ∧ SOwn W w3.heap.size 50 .u32 A3 (List.replicate a.length 0) c4),
     (fun (v : Value) (W : World) => ∃ (A9 : Option Addr) (c10 : Nat), v = sv A9 (List.replicate a.length 0) c10 ∧ SOwn W w3.heap.size 50 .u32 A9 (List.replicate a.length 0) c10)] hs6 (.eq (.eq (.cons (fun v W W' hn ⟨A3, c4, he, h0⟩ => ⟨A3, c4, he, h0.new_ hn⟩) (.cons (fun v W W' hn ⟨A9, c10, he, h0⟩ => ⟨A9, c10, he, h0.new_ hn⟩) (.nil))))) ?_ ?_
  · skip
    refine .o1 (tk rfl rfl fun _ w hn k => ⟨_, v_move rfl (k.fx 0 h8), rfl⟩) ?_
    refine .o1 (tk rfl rfl fun _ w hn k => ⟨_, v_lenR rfl elW (k.eq1 0 9 rfl), rfl⟩) ?_
    refine .o1 (tkA rfl (noG rfl) fun _ w hn k => (by
          exact x_make .u32 rfl (k.eq1 1 10 rfl) (k.eq1 1 10 rfl) elW (by omega) (by omega) (by omega) fun A1 c2 W' hmo => ⟨A1, c2, rfl, (hmo.more hn.size)⟩)) ?_
    refine .o1 (tk rfl rfl fun _ w hn k => (by
          obtain ⟨A5, c6, e7, hx8⟩ : (fun (v : Value) (W : World) => ∃ (A3 : Option Addr) (c4 : Nat), v = sv A3 (List.replicate a.length 0) c4 ∧ SOwn W w3.heap.size 50 .u32 A3 (List.replicate a.length 0) c4) _ _ := k.dep 2 11 (by kernel_rfl) (by kernel_rfl)
          exact ⟨_, v_assign rfl e7, ⟨A5, c6, rfl, hx8⟩⟩)) ?_
    exact .nil
  intro a12 w13 hn14 ha15
  have hs16 := ha15.size.trans hs6
  have hd17 := ha15.defers.trans hd7
  have h18 := ha15.fx 0 h8
  have h19 := ha15.fx 1 h9
  obtain ⟨A21, cc22, h20, hr23⟩ : (fun (v : Value) (W : World) => ∃ (A9 : Option Addr) (c10 : Nat), v = sv A9 (List.replicate a.length 0) c10 ∧ SOwn W w3.heap.size 50 .u32 A9 (List.replicate a.length 0) c10) _ _ := ha15.got 3 6 rfl (by kernel_rfl)
  have h20 : a12.eval (.tmp 6) = sv A21 (List.replicate a.length 0) cc22 := h20
  have hr24 := hr23.more hN10.size
  have hN25 := hN10.transNew hn14
  clear hs6 hd7 h8 h9 hr23 hN10 ha15 hn14
  refine st_nil ?_
  refine hK11 _ _ ?_
  clear hK11 K11
  refine wp_seq_k fun K26 hK26 => ?_
  refine wp_g0 [true] [] 58
    [ve (sv none ([]) 0)] hs16 (.eq (.nil)) ?_ ?_
  · skip
    refine .o1 (tk rfl rfl fun _ w hn k => ⟨_, v_assign rfl rfl, rfl⟩) ?_
    exact .nil
  intro a27 w28 hn29 ha30
  have hs31 := ha30.size.trans hs16
  have hd32 := ha30.defers.trans hd17
  have h33 := ha30.fx 0 h18
  have h34 := ha30.fx 1 h19
  have h35 := ha30.fx 6 h20
  have h36 := ha30.ge 0 7 rfl
  have hr37 := hr24.new_ hn29
  have hN38 := hN25.transNew hn29
  clear hs16 hd17 h18 h19 h20 hr24 hN25 ha30 hn29
  refine st_nil ?_
  refine hK26 _ _ ?_
  clear hK26 K26
  refine wp_seq_k fun K39 hK39 => ?_
  refine wp_seq_k fun K40 hK40 => ?_
  refine wp_g0 [true, true, true, true, true] [] 58
    [ve (sv A a c),
     ve (iv (a.length : Int)),
     ve (iv ((32 * a.length : Nat) : Int)),
     ve (iv (((32 * a.length : Nat) : Int) - 1)),
     ve (iv (((32 * a.length : Nat) : Int) - 1))] hs31 (.eq (.eq (.eq (.eq (.eq (.nil)))))) ?_ ?_
  · skip
    refine .o1 (tk rfl rfl fun _ w hn k => ⟨_, v_move rfl (k.fx 0 h33), rfl⟩) ?_
    refine .o1 (tk rfl rfl fun _ w hn k => ⟨_, v_lenR rfl elW (k.eq1 0 12 rfl), rfl⟩) ?_
    refine .o1 (tk rfl rfl fun _ w hn k => ⟨_, v_bin rfl rfl (k.eq1 1 13 rfl) (fun _ => rfl) (n_mul (by omega) (IntWalk.i64_in _ (by omega))), rfl⟩) ?_
    refine .o1 (tk rfl rfl fun _ w hn k => ⟨_, v_bin rfl (k.eq1 2 14 rfl) rfl (fun _ => rfl) (r_sub rfl (by omega)), rfl⟩) ?_
    refine .o1 (tk rfl rfl fun _ w hn k => ⟨_, v_assign rfl (k.eq1 3 15 rfl), rfl⟩) ?_
    exact .nil
  intro a41 w42 hn43 ha44
  have hs45 := ha44.size.trans hs31
  have hd46 := ha44.defers.trans hd32
  have h47 := ha44.fx 0 h33
  have h48 := ha44.fx 1 h34
  have h49 := ha44.fx 6 h35
  have h50 := ha44.fx 7 h36
  have h51 := ha44.ge 4 8 rfl
  have hr52 := hr37.new_ hn43
  have hN53 := hN38.transNew hn43
  clear hs31 hd32 h33 h34 h35 h36 hr37 hN38 ha44 hn43
  refine st_nil ?_
  refine hK40 _ _ ?_
  clear hK40 K40
  refine wp_block ?_
  refine wp_loop_rounds 1 ?_
  refine rounds_go ?_
  refine wp_seq_k fun K54 hK54 => ?_
  refine wp_seq_k fun K55 hK55 => ?_
  have ht56 : (decide ((((32 * a.length : Nat) : Int) - 1) < 0)) = true := decide_eq_true (by omega)
  have ht56d := of_decide_eq_true ht56
  refine wp_g0 [true, true] [] 58
    [ve (iv (((32 * a.length : Nat) : Int) - 1)),
     ve (.bool false)] hs45 (.eq (.eq (.nil))) ?_ ?_
  · skip
    refine .o1 (tk rfl rfl fun _ w hn k => ⟨_, v_move rfl (k.fx 8 h51), rfl⟩) ?_
    refine .o1 (tk rfl rfl fun _ w hn k => ⟨_, v_bin rfl (k.eq1 0 16 rfl) rfl (fun _ => rfl) (r_geqK ht56), rfl⟩) ?_
    exact .nil
  intro a57 w58 hn59 ha60
  have hs61 := ha60.size.trans hs45
  have hd62 := ha60.defers.trans hd46
  have h63 := ha60.fx 0 h47
  have h64 := ha60.fx 1 h48
  have h65 := ha60.fx 6 h49
  have h66 := ha60.fx 7 h50
  have h67 := ha60.fx 8 h51
  have h68 := ha60.ge 1 17 rfl
  have hr69 := hr52.new_ hn59
  have hN70 := hN53.transNew hn59
  clear hs45 hd46 h47 h48 h49 h50 h51 hr52 hN53 ha60 hn59
  refine st_nil ?_
  refine hK55 _ _ ?_
  clear hK55 K55
  refine wp_cond_false h68 ?_
  refine wp_exit ?_
  refine hK39 _ _ ?_
  clear hK39 K39 hK54 K54
  refine wp_seq_k fun K71 hK71 => ?_
  refine wp_g0 [true, true, true, true, true] [] 58
    [ve (sv A21 (List.replicate a.length 0) cc22),
     (fun (v : Value) (W : World) => ∃ (A13 : Option Addr) (c14 : Nat), v = sv A13 (canon (val (List.replicate a.length 0))) c14 ∧ SOwn W w58.heap.size 50 .u32 A13 (canon (val (List.replicate a.length 0))) c14),
     ve (sv none ([]) 0),
     (fun (v : Value) (W : World) => ∃ (A19 : Option Addr) (c20 : Nat), v = sv A19 (canon (val (List.replicate a.length 0))) c20 ∧ SOwn W w58.heap.size 50 .u32 A19 (canon (val (List.replicate a.length 0))) c20),
     ve (sv none ([]) 0)] hs61 (.eq (.cons (fun v W W' hn ⟨A13, c14, he, h0⟩ => ⟨A13, c14, he, h0.new_ hn⟩) (.eq (.cons (fun v W W' hn ⟨A19, c20, he, h0⟩ => ⟨A19, c20, he, h0.new_ hn⟩) (.eq (.nil)))))) ?_ ?_
  · skip
    refine .o1 (tk rfl rfl fun _ w hn k => ⟨_, v_move rfl (k.fx 6 h65), rfl⟩) ?_
    refine .o1 (tkC rfl (noG rfl) rfl fun _ w hn k => (by
          refine ⟨#[sv A21 (List.replicate a.length 0) cc22], _, args1 (k.eq1 0 55 rfl), fun w => by kernel_rfl, rtrim_c _ _ _ _ (hr69.new_ hn).row (Limbs.rep _) (by first | omega | (simp only [List.length_nil, List.length_cons, List.length_set, List.length_replicate]; omega)), ?_⟩
          rintro e w' ⟨A11, c12, rfl, hmo, hm⟩
          exact ⟨_, rfl, hm, ⟨A11, c12, rfl, (hmo.more hn.size)⟩⟩)) ?_
    refine .o1 (tk rfl rfl fun _ w hn k => ⟨_, v_move rfl (k.fx 7 h66), rfl⟩) ?_
    refine .o1 (tk rfl rfl fun _ w hn k => (by
          obtain ⟨A15, c16, e17, hx18⟩ : (fun (v : Value) (W : World) => ∃ (A13 : Option Addr) (c14 : Nat), v = sv A13 (canon (val (List.replicate a.length 0))) c14 ∧ SOwn W w58.heap.size 50 .u32 A13 (canon (val (List.replicate a.length 0))) c14) _ _ := k.dep 1 56 (by kernel_rfl) (by kernel_rfl)
          exact ⟨_, v_assign rfl e17, ⟨A15, c16, rfl, hx18⟩⟩)) ?_
    refine .o1 (tk rfl rfl fun _ w hn k => ⟨_, v_assign rfl (k.eq1 2 57 rfl), rfl⟩) ?_
    exact .nil
  intro a72 w73 hn74 ha75
  have hs76 := ha75.size.trans hs61
  have hd77 := ha75.defers.trans hd62
  obtain ⟨A79, cc80, h78, hr81⟩ : (fun (v : Value) (W : World) => ∃ (A19 : Option Addr) (c20 : Nat), v = sv A19 (canon (val (List.replicate a.length 0))) c20 ∧ SOwn W w58.heap.size 50 .u32 A19 (canon (val (List.replicate a.length 0))) c20) _ _ := ha75.got 3 4 rfl (by kernel_rfl)
  have h78 : a72.eval (.tmp 4) = sv A79 (canon (val (List.replicate a.length 0))) cc80 := h78
  have h82 := ha75.ge 4 5 rfl
  have hr83 := hr81.more hN70.size
  have hN84 := hN70.transNew hn74
  clear hs61 hd62 h63 h64 h65 h66 h67 h68 hr69 hr81 hN70 ha75 hn74
  refine st_nil ?_
  refine hK71 _ _ ?_
  clear hK71 K71
  refine wp_ret (ret_k hd77 (v := .tuple #[sv A79 (canon (val (List.replicate a.length 0))) cc80, sv none ([]) 0]) (res_tt rfl h78 h82 _) ?_)
  have e1 : (canon (val (List.replicate a.length 0))) = canon (val a / val b) := by rw [List.eq_nil_of_length_eq_zero h0]; simp [val]
  have e2 : [] = canon (val a % val b) := by rw [List.eq_nil_of_length_eq_zero h0]; simp [val, canon_zero]
  exact ⟨A79, cc80, none, 0, by rw [← e1, ← e2], by rw [← e1]; exact hr83, by rw [← e2]; exact (SOwn.nil _ _ _ _), hN84⟩
theorem rdivide_all (A B : Option Addr) (a b : List Nat) (c d : Nat) (w : World) (hra : SRow w .u32 A a c) (hrb : SRow w .u32 B b d) (ha : Limbs a) (hb : Limbs b) (hsa : a.length ≤ 10000) (hsb : b.length ≤ 10000) (hb0 : 0 < val b) : Calls Try.prog 62 #[sv A a c, sv B b d] w (RetSS 50 .u32 (canon (val a / val b)) (canon (val a % val b)) w) := by
  rcases Nat.eq_zero_or_pos a.length with h0 | h0
  · exact rdivide_0 A B a b c d w hra hrb ha hb (by omega) (by omega) h0
  · exact rdivide_c A B a b c d w hra hrb ha hb hsa hsb hb0 h0
theorem rpower_i (n : Int) (w : World) (hn : 0 ≤ n ∧ n ≤ 256) : Calls Try.prog 68 #[iv n] w (RetS 50 .u32 (powL n.toNat) w) := by
  obtain ⟨k, rfl⟩ : ∃ k : Nat, n = k := ⟨n.toNat, by omega⟩
  exact rpower_c k w (by omega)
set_option maxHeartbeats 4000000 in
set_option maxRecDepth 100000 in
theorem rdiv_c (b1 : Bool) (A : Option Addr) (a : List Nat) (c : Nat) (b2 : Bool) (B : Option Addr) (b : List Nat) (d : Nat) (w : World) (hra : SRow w .u32 A a c) (ha : Limbs a) (hrb : SRow w .u32 B b d) (hb : Limbs b) : Calls Try.prog 43 #[.agg #[.bool b1, sv A a c], .agg #[.bool b2, sv B b d]] w (RetZE (divZ (goodI b1 a) (goodI b2 b)) (zeroE (goodI b2 b)) w) := by
  refine enter_abs Try.func43 rfl fun a0 hs0 hd0 hp => ?_
  have hs0 : a0.tmps.size = 34 := hs0
  have hN0 : New w w := Upd.refl _ _
  have hp0 : a0.eval (.tmp 0) = .agg #[.bool b1, sv A a c] := hp 0 _ rfl
  have hp1 : a0.eval (.tmp 1) = .agg #[.bool b2, sv B b d] := hp 1 _ rfl
  clear hp
  have h8x := (canon_len8 _).2 (good_lt (b := b1) ha)
  have h8y := (canon_len8 _).2 (good_lt (b := b2) hb)
  have hqx : (canon (val (canon (goodI b1 a).natAbs) / val (canon (goodI b2 b).natAbs))).length ≤ 8 := quo_len (good_lt ha)
  have hrx : (canon (val (canon (goodI b1 a).natAbs) % val (canon (goodI b2 b).natAbs))).length ≤ 8 := rem_len8 (good_lt ha)
  refine wp_seq_k fun K1 hK1 => ?_
  refine wp_g [true, true, true, true] [] [] 34
    [IsNew w 24 [.bool b1, sv A a c],
     IsNew w 24 [.bool b2, sv B b d],
     IsNew w 24 [.bool false, sv none ([]) 0],
     ve (iv 0)]
    [0, 1, 2] (newsCons (fun v w h => IsNew.old h) (newsCons (fun v w h => IsNew.old h) (newsCons (fun v w h => IsNew.old h) newsNil))) hs0 (.nw (.nw (.nw (.eq (.nil))))) ?_ (fun i h => by cases h) ?_
  · skip
    refine .o2 (step_allocN (cs := [.bool b1, sv A a c]) (t := 24) rfl (noG rfl) (fun _ w hn k => v_box rfl (k.fx 0 hp0) (fun w => rfl)) (fun q _ hq hb => ⟨q, rfl, hq, hb⟩)) ?_
    refine .o2 (step_allocN (cs := [.bool b2, sv B b d]) (t := 24) rfl (noG rfl) (fun _ w hn k => v_box rfl (k.fx 1 hp1) (fun w => rfl)) (fun q _ hq hb => ⟨q, rfl, hq, hb⟩)) ?_
    refine .o2 (step_allocN (cs := [.bool false, sv none ([]) 0]) (t := 24) rfl (noG rfl) (fun _ w hn k => rfl) (fun q _ hq hb => ⟨q, rfl, hq, hb⟩)) ?_
    refine .o1 (tk rfl rfl fun _ w hn k => ⟨_, v_assign rfl rfl, rfl⟩) ?_
    exact .nil
  intro a2 w3 hn4 ha5
  have hs6 := ha5.size.trans hs0
  have hd7 := ha5.defers.trans hd0
  obtain ⟨q9, h8, hq10, hb11⟩ : IsNew _ _ _ _ _ := ha5.got 0 2 rfl (by kernel_rfl)
  obtain ⟨q13, h12, hq14, hb15⟩ : IsNew _ _ _ _ _ := ha5.got 1 3 rfl (by kernel_rfl)
  obtain ⟨q17, h16, hq18, hb19⟩ : IsNew _ _ _ _ _ := ha5.got 2 4 rfl (by kernel_rfl)
  have hne20 : q9 ≠ q17 := ha5.ne 0 2 2 4 h8 h16
  have hne21 : q13 ≠ q17 := ha5.ne 1 2 3 4 h12 h16
  have hq22 := Nat.le_trans hN0.size hq10
  have hq23 := Nat.le_trans hN0.size hq14
  have hq24 := Nat.le_trans hN0.size hq18
  have hN25 := hN0.transNew hn4
  clear hs0 hd0 hp0 hp1 hq10 hq14 hq18 hN0 ha5 hn4
  refine st_nil ?_
  refine hK1 _ _ ?_
  clear hK1 K1
  refine wp_seq_k fun K26 hK26 => ?_
  refine wp_g [true, true, true, true, true, true, false, false] [] [(6, false), (7, false)] 34
    [ve (.agg #[.bool b1, sv A a c]),
     (fun (v : Value) (W : World) => ∃ (A3 : Option Addr) (c4 : Nat), v = .agg #[.bool (decide (goodI b1 a < 0)), sv A3 (canon (goodI b1 a).natAbs) c4] ∧ SRow W .u32 A3 (canon (goodI b1 a).natAbs) c4),
     ve (.agg #[.bool b2, sv B b d]),
     (fun (v : Value) (W : World) => ∃ (A7 : Option Addr) (c8 : Nat), v = .agg #[.bool (decide (goodI b2 b < 0)), sv A7 (canon (goodI b2 b).natAbs) c8] ∧ SRow W .u32 A7 (canon (goodI b2 b).natAbs) c8),
     IsNew w3 24 [.bool false, sv none ([]) 0],
     IsNew w3 24 [.bool false, sv none ([]) 0],
     vt,
     vt]
    [4, 5] (newsCons (fun v w h => IsNew.old h) (newsCons (fun v w h => IsNew.old h) newsNil)) hs6 (.eq (.cons (fun v W W' hn ⟨A3, c4, he, h0⟩ => ⟨A3, c4, he, h0.new_ hn⟩) (.eq (.cons (fun v W W' hn ⟨A7, c8, he, h0⟩ => ⟨A7, c8, he, h0.new_ hn⟩) (.nw (.nw (.tt (.tt (.nil))))))))) ?_ (fun i h => by cases h) ?_
  · skip
    refine .o1 (tk rfl rfl fun _ w hn k => ⟨_, v_load rfl (k.fx 2 h8) (l_two Try.isAgg24 Try.sizeOf24 (hb11.new_ hn)), rfl⟩) ?_
    refine .o1 (tkC rfl (noG rfl) rfl fun _ w hn k => (by
          refine ⟨#[.agg #[.bool b1, sv A a c]], _, args1 (k.eq1 0 10 rfl), fun w => by kernel_rfl, rgood_c _ _ _ _ _ (hra.new_ (hN25.transNew hn)) ha, ?_⟩
          rintro e w' ⟨A1, c2, rfl, hmo, hm⟩
          exact ⟨_, rfl, hm, ⟨A1, c2, rfl, hmo⟩⟩)) ?_
    refine .o1 (tk rfl rfl fun _ w hn k => ⟨_, v_load rfl (k.fx 3 h12) (l_two Try.isAgg24 Try.sizeOf24 (hb15.new_ hn)), rfl⟩) ?_
    refine .o1 (tkC rfl (noG rfl) rfl fun _ w hn k => (by
          refine ⟨#[.agg #[.bool b2, sv B b d]], _, args1 (k.eq1 2 12 rfl), fun w => by kernel_rfl, rgood_c _ _ _ _ _ (hrb.new_ (hN25.transNew hn)) hb, ?_⟩
          rintro e w' ⟨A5, c6, rfl, hmo, hm⟩
          exact ⟨_, rfl, hm, ⟨A5, c6, rfl, hmo⟩⟩)) ?_
    refine .o2 (step_allocN (cs := [.bool false, sv none ([]) 0]) (t := 24) rfl (noG rfl) (fun _ w hn k => rfl) (fun q _ hq hb => ⟨q, rfl, hq, hb⟩)) ?_
    refine .o2 (step_allocN (cs := [.bool false, sv none ([]) 0]) (t := 24) rfl (noG rfl) (fun _ w hn k => rfl) (fun q _ hq hb => ⟨q, rfl, hq, hb⟩)) ?_
    refine .off ?_
    refine .off ?_
    exact .nil
  intro a27 w28 hn29 ha30
  have hs31 := ha30.size.trans hs6
  have hd32 := ha30.defers.trans hd7
  have h33 := ha30.fx 4 h16
  obtain ⟨A35, cc36, h34, hr37⟩ : (fun (v : Value) (W : World) => ∃ (A3 : Option Addr) (c4 : Nat), v = .agg #[.bool (decide (goodI b1 a < 0)), sv A3 (canon (goodI b1 a).natAbs) c4] ∧ SRow W .u32 A3 (canon (goodI b1 a).natAbs) c4) _ _ := ha30.got 1 11 rfl (by kernel_rfl)
  have h34 : a27.eval (.tmp 11) = .agg #[.bool (decide (goodI b1 a < 0)), sv A35 (canon (goodI b1 a).natAbs) cc36] := h34
  obtain ⟨A39, cc40, h38, hr41⟩ : (fun (v : Value) (W : World) => ∃ (A7 : Option Addr) (c8 : Nat), v = .agg #[.bool (decide (goodI b2 b < 0)), sv A7 (canon (goodI b2 b).natAbs) c8] ∧ SRow W .u32 A7 (canon (goodI b2 b).natAbs) c8) _ _ := ha30.got 3 13 rfl (by kernel_rfl)
  have h38 : a27.eval (.tmp 13) = .agg #[.bool (decide (goodI b2 b < 0)), sv A39 (canon (goodI b2 b).natAbs) cc40] := h38
  obtain ⟨q43, h42, hq44, hb45⟩ : IsNew _ _ _ _ _ := ha30.got 4 6 rfl (by kernel_rfl)
  obtain ⟨q47, h46, hq48, hb49⟩ : IsNew _ _ _ _ _ := ha30.got 5 7 rfl (by kernel_rfl)
  have hb50 := hb19.new_ hn29
  have hne51 : q43 ≠ q47 := ha30.ne 4 5 6 7 h42 h46
  have hne52 : q17 ≠ q43 := by have h1 := hb19.lt; have h2 := hq44; omega
  have hne53 : q17 ≠ q47 := by have h1 := hb19.lt; have h2 := hq48; omega
  have hq54 := Nat.le_trans hN25.size hq44
  have hq55 := Nat.le_trans hN25.size hq48
  have hN56 := hN25.transNew hn29
  clear hs6 hd7 h8 h12 h16 hb11 hq22 hb15 hq23 hb19 hq44 hq48 hN25 ha30 hn29
  obtain ⟨w57, -, hst58, hb59, hu60, hf61⟩ := s_two (v0 := .bool (decide (goodI b1 a < 0))) (v1 := sv A35 (canon (goodI b1 a).natAbs) cc36) Try.sizeOf24 rfl rfl rfl hb45
  refine st_act rfl rfl fun K62 hL63 => a_store' rfl h42 h34 hst58 (hL63 _ _ trivial ?_)
  have hr64 := hr37.far hb45 hu60 (by first | rfl | decide | simp [notK])
  have hr65 := hr41.far hb45 hu60 (by first | rfl | decide | simp [notK])
  have hb66 := hf61 _ _ _ (hne52) hb50
  have hb67 := hf61 _ _ _ (fun h => hne51 h.symm) hb49
  have hN68 := hN56.trans hu60 (fun k hk hkb => by subst hkb; omega)
  clear hb45 hst58 K62 hL63 hN56 hr37 hr41 hb50 hb49 hu60 hf61
  obtain ⟨w69, -, hst70, hb71, hu72, hf73⟩ := s_two (v0 := .bool (decide (goodI b2 b < 0))) (v1 := sv A39 (canon (goodI b2 b).natAbs) cc40) Try.sizeOf24 rfl rfl rfl hb67
  refine st_act rfl rfl fun K74 hL75 => a_store' rfl h46 h38 hst70 (hL75 _ _ trivial ?_)
  have hr76 := hr64.far hb67 hu72 (by first | rfl | decide | simp [notK])
  have hr77 := hr65.far hb67 hu72 (by first | rfl | decide | simp [notK])
  have hb78 := hf73 _ _ _ (hne53) hb66
  have hb79 := hf73 _ _ _ (hne51) hb59
  have hN80 := hN68.trans hu72 (fun k hk hkb => by subst hkb; omega)
  clear hb67 hst70 K74 hL75 hN68 hr64 hr65 hb66 hb59 hu72 hf73
  clear hne51
  refine st_nil ?_
  clear h34 h38
  refine hK26 _ _ ?_
  clear hK26 K26
  refine wp_seq_k fun K81 hK81 => ?_
  refine wp_seq_k fun K82 hK82 => ?_
  refine wp_g0 [true, true, true, true] [] 34
    [ve (.pointer (some ⟨q47, 1, none⟩)),
     ve (sv A39 (canon (goodI b2 b).natAbs) cc40),
     ve (iv ((canon (goodI b2 b).natAbs).length : Int)),
     ve (.bool (decide (((canon (goodI b2 b).natAbs).length : Int) = 0)))] hs31 (.eq (.eq (.eq (.eq (.nil))))) ?_ ?_
  · skip
    refine .o1 (tk rfl rfl fun _ w hn k => ⟨_, v_field rfl (k.fx 7 h46) (fun w => rfl), rfl⟩) ?_
    refine .o1 (tk rfl rfl fun _ w hn k => ⟨_, v_load rfl (k.eq1 0 14 rfl) (l_one Try.isAgg22 ((hb71.new_ hn).cell 1)), rfl⟩) ?_
    refine .o1 (tk rfl rfl fun _ w hn k => ⟨_, v_lenR rfl elW (k.eq1 1 15 rfl), rfl⟩) ?_
    refine .o1 (tk rfl rfl fun _ w hn k => ⟨_, v_bin rfl (k.eq1 2 16 rfl) rfl (fun _ => rfl) (r_eql rfl), rfl⟩) ?_
    exact .nil
  intro a83 w84 hn85 ha86
  have hs87 := ha86.size.trans hs31
  have hd88 := ha86.defers.trans hd32
  have h89 := ha86.fx 4 h33
  have h90 := ha86.fx 6 h42
  have h91 := ha86.fx 7 h46
  have h92 := ha86.ge 3 17 rfl
  have hb93 := hb78.new_ hn85
  have hb94 := hb79.new_ hn85
  have hb95 := hb71.new_ hn85
  have hr96 := hr76.new_ hn85
  have hr97 := hr77.new_ hn85
  have hN98 := hN80.transNew hn85
  clear hs31 hd32 h33 h42 h46 hb78 hb79 hb71 hr76 hr77 hN80 ha86 hn85
  refine st_nil ?_
  refine hK82 _ _ ?_
  clear hK82 K82
  rcases Bool.eq_false_or_eq_true (decide (((canon (goodI b2 b).natAbs).length : Int) = 0)) with ht99 | ht99
  · skip
    have ht99d := of_decide_eq_true ht99
    have hv100 : a83.eval (.tmp 17) = .bool true := h92.trans (congrArg Value.bool ht99)
    clear h92
    refine wp_cond_true hv100 ?_
    refine wp_seq_k fun K101 hK101 => ?_
    refine wp_g0 [true, false, false] [(1, false), (2, true)] 34
      [ve (.agg #[.bool false, sv none ([]) 0]),
       vt,
       vt] hs87 (.eq (.tt (.tt (.nil)))) ?_ ?_
    · skip
      refine .o1 (tk rfl rfl fun _ w hn k => ⟨_, v_build (ps := []) rfl parts0 (by kernel_rfl), rfl⟩) ?_
      refine .off ?_
      refine .off ?_
      exact .nil
    intro a102 w103 hn104 ha105
    have hs106 := ha105.size.trans hs87
    have hd107 := ha105.defers.trans hd88
    have h108 := ha105.fx 4 h89
    have h109 := ha105.ge 0 18 rfl
    have hb110 := hb93.new_ hn104
    have hN111 := hN98.transNew hn104
    clear hs87 hd88 h89 h90 h91 hv100 hb93 hb94 hq54 hb95 hq55 hr96 hr97 hN98 ha105 hn104
    obtain ⟨w112, -, hst113, hb114, hu115, hf116⟩ := s_two (v0 := .bool false) (v1 := sv none ([]) 0) Try.sizeOf24 rfl rfl rfl hb110
    refine st_act rfl rfl fun K117 hL118 => a_store' rfl h108 h109 hst113 (hL118 _ _ trivial ?_)
    have hN119 := hN111.trans hu115 (fun k hk hkb => by subst hkb; omega)
    clear hb110 hst113 K117 hL118 hN111 hu115 hf116
    refine st_take rfl rfl (y_assign (v := iv 4) rfl rfl) rfl ?_
    obtain ⟨a120, ha121⟩ : ∃ a', a' = a102.put (some 5) (iv 4) := ⟨_, rfl⟩
    have hs122 : a120.tmps.size = 34 := by rw [ha121, put_size]; exact hs106
    have hd123 : a120.defers = [] := by rw [ha121, put_defers]; exact hd107
    have h124 : a120.eval (.tmp 4) = pv q17 := by rw [ha121, put_ne _ _ _ _ (by decide)]; exact h108
    have h125 : a120.eval (.tmp 18) = .agg #[.bool false, sv none ([]) 0] := by rw [ha121, put_ne _ _ _ _ (by decide)]; exact h109
    have h126 : a120.eval (.tmp 5) = iv 4 := by rw [ha121]; exact put_same _ _ _ (by rw [hs106]; decide)
    show stepsTo _ _ _ _ _ (a102.put (some 5) (iv 4)) _
    rw [← ha121]
    clear ha121 hs106 hd107 h108 h109
    refine st_nil ?_
    clear h125
    refine hK101 _ _ ?_
    clear hK101 K101
    refine wp_ret (ret_k hd123 (v := .tuple #[.agg #[.bool false, sv none ([]) 0], iv 4]) (res_ct rfl h124 h126 (l_two Try.isAgg24 Try.sizeOf24 hb114)) ?_)
    have hs2 : (iv 4 : Value) = iv (zeroE (goodI b2 b)) := congrArg (Value.int .i64) (zeroE_yes ht99)
    have hz1 : (decide (divZ (goodI b1 a) (goodI b2 b) < 0)) = false := by rw [divZ_0 ht99]; rfl
    have hz2 : canon (divZ (goodI b1 a) (goodI b2 b)).natAbs = [] := by rw [divZ_0 ht99]; exact canon_zero
    exact ⟨none, 0, by rw [hz1, hz2, hs2], by rw [hz2]; exact (SRow.nil _ _), hN119⟩
  have ht99d := of_decide_eq_false ht99
  have hv127 : a83.eval (.tmp 17) = .bool false := h92.trans (congrArg Value.bool ht99)
  clear h92
  refine wp_cond_false hv127 ?_
  refine wp_skip ?_
  refine hK81 _ _ ?_
  clear hK81 K81
  refine wp_seq_k fun K128 hK128 => ?_
  refine wp_g0 [true, true, true, true, true, true, true, true, true, true] [] 34
    [ve (.pointer (some ⟨q43, 1, none⟩)),
     ve (sv A35 (canon (goodI b1 a).natAbs) cc36),
     ve (.pointer (some ⟨q47, 1, none⟩)),
     ve (sv A39 (canon (goodI b2 b).natAbs) cc40),
     (fun (v : Value) (W : World) => ∃ (A21 : Option Addr) (c22 : Nat) (A23 : Option Addr) (c24 : Nat), v = .tuple #[sv A21 (canon (val (canon (goodI b1 a).natAbs) / val (canon (goodI b2 b).natAbs))) c22, sv A23 (canon (val (canon (goodI b1 a).natAbs) % val (canon (goodI b2 b).natAbs))) c24] ∧ SOwn W w84.heap.size 50 .u32 A21 (canon (val (canon (goodI b1 a).natAbs) / val (canon (goodI b2 b).natAbs))) c22 ∧ SOwn W w84.heap.size 50 .u32 A23 (canon (val (canon (goodI b1 a).natAbs) % val (canon (goodI b2 b).natAbs))) c24),
     (fun (v : Value) (W : World) => ∃ (A32 : Option Addr) (c33 : Nat) (A34 : Option Addr) (c35 : Nat), v = .tuple #[sv A32 (canon (val (canon (goodI b1 a).natAbs) / val (canon (goodI b2 b).natAbs))) c33, sv A34 (canon (val (canon (goodI b1 a).natAbs) % val (canon (goodI b2 b).natAbs))) c35] ∧ SOwn W w84.heap.size 50 .u32 A32 (canon (val (canon (goodI b1 a).natAbs) / val (canon (goodI b2 b).natAbs))) c33 ∧ SOwn W w84.heap.size 50 .u32 A34 (canon (val (canon (goodI b1 a).natAbs) % val (canon (goodI b2 b).natAbs))) c35),
     (fun (v : Value) (W : World) => ∃ (A43 : Option Addr) (c44 : Nat), v = sv A43 (canon (val (canon (goodI b1 a).natAbs) / val (canon (goodI b2 b).natAbs))) c44 ∧ SOwn W w84.heap.size 50 .u32 A43 (canon (val (canon (goodI b1 a).natAbs) / val (canon (goodI b2 b).natAbs))) c44),
     (fun (v : Value) (W : World) => ∃ (A52 : Option Addr) (c53 : Nat), v = sv A52 (canon (val (canon (goodI b1 a).natAbs) % val (canon (goodI b2 b).natAbs))) c53 ∧ SOwn W w84.heap.size 50 .u32 A52 (canon (val (canon (goodI b1 a).natAbs) % val (canon (goodI b2 b).natAbs))) c53),
     (fun (v : Value) (W : World) => ∃ (A58 : Option Addr) (c59 : Nat), v = sv A58 (canon (val (canon (goodI b1 a).natAbs) / val (canon (goodI b2 b).natAbs))) c59 ∧ SOwn W w84.heap.size 50 .u32 A58 (canon (val (canon (goodI b1 a).natAbs) / val (canon (goodI b2 b).natAbs))) c59),
     (fun (v : Value) (W : World) => ∃ (A64 : Option Addr) (c65 : Nat), v = sv A64 (canon (val (canon (goodI b1 a).natAbs) % val (canon (goodI b2 b).natAbs))) c65 ∧ SOwn W w84.heap.size 50 .u32 A64 (canon (val (canon (goodI b1 a).natAbs) % val (canon (goodI b2 b).natAbs))) c65)] hs87 (.eq (.eq (.eq (.eq (.cons (fun v W W' hn ⟨A21, c22, A23, c24, he, h0, h1⟩ => ⟨A21, c22, A23, c24, he, h0.new_ hn, h1.new_ hn⟩) (.cons (fun v W W' hn ⟨A32, c33, A34, c35, he, h0, h1⟩ => ⟨A32, c33, A34, c35, he, h0.new_ hn, h1.new_ hn⟩) (.cons (fun v W W' hn ⟨A43, c44, he, h0⟩ => ⟨A43, c44, he, h0.new_ hn⟩) (.cons (fun v W W' hn ⟨A52, c53, he, h0⟩ => ⟨A52, c53, he, h0.new_ hn⟩) (.cons (fun v W W' hn ⟨A58, c59, he, h0⟩ => ⟨A58, c59, he, h0.new_ hn⟩) (.cons (fun v W W' hn ⟨A64, c65, he, h0⟩ => ⟨A64, c65, he, h0.new_ hn⟩) (.nil))))))))))) ?_ ?_
  · skip
    refine .o1 (tk rfl rfl fun _ w hn k => ⟨_, v_field rfl (k.fx 6 h90) (fun w => rfl), rfl⟩) ?_
    refine .o1 (tk rfl rfl fun _ w hn k => ⟨_, v_load rfl (k.eq1 0 20 rfl) (l_one Try.isAgg22 ((hb94.new_ hn).cell 1)), rfl⟩) ?_
    refine .o1 (tk rfl rfl fun _ w hn k => ⟨_, v_field rfl (k.fx 7 h91) (fun w => rfl), rfl⟩) ?_
    refine .o1 (tk rfl rfl fun _ w hn k => ⟨_, v_load rfl (k.eq1 2 22 rfl) (l_one Try.isAgg22 ((hb95.new_ hn).cell 1)), rfl⟩) ?_
    refine .o1 (tkC rfl (noG rfl) rfl fun _ w hn k => (by
          refine ⟨#[sv A35 (canon (goodI b1 a).natAbs) cc36, sv A39 (canon (goodI b2 b).natAbs) cc40], _, args2 (k.eq1 1 21 rfl) (k.eq1 3 23 rfl), fun w => by kernel_rfl, rdivide_all _ _ _ _ _ _ _ (hr96.new_ hn) (hr97.new_ hn) (limbs_canon _) (limbs_canon _) (by first | omega | (simp only [List.length_nil, List.length_cons, List.length_set, List.length_replicate]; omega)) (by first | omega | (simp only [List.length_nil, List.length_cons, List.length_set, List.length_replicate]; omega)) (nz_pos (by assumption)), ?_⟩
          rintro e w' ⟨A17, c18, A19, c20, rfl, hmo, hmp, hm⟩
          exact ⟨_, rfl, hm, ⟨A17, c18, A19, c20, rfl, (hmo.more hn.size), (hmp.more hn.size)⟩⟩)) ?_
    refine .o1 (tk rfl rfl fun _ w hn k => (by
          obtain ⟨A25, c26, A27, c28, e29, hx30, hx31⟩ : (fun (v : Value) (W : World) => ∃ (A21 : Option Addr) (c22 : Nat) (A23 : Option Addr) (c24 : Nat), v = .tuple #[sv A21 (canon (val (canon (goodI b1 a).natAbs) / val (canon (goodI b2 b).natAbs))) c22, sv A23 (canon (val (canon (goodI b1 a).natAbs) % val (canon (goodI b2 b).natAbs))) c24] ∧ SOwn W w84.heap.size 50 .u32 A21 (canon (val (canon (goodI b1 a).natAbs) / val (canon (goodI b2 b).natAbs))) c22 ∧ SOwn W w84.heap.size 50 .u32 A23 (canon (val (canon (goodI b1 a).natAbs) % val (canon (goodI b2 b).natAbs))) c24) _ _ := k.dep 4 24 (by kernel_rfl) (by kernel_rfl)
          exact ⟨_, v_move rfl e29, ⟨A25, c26, A27, c28, rfl, hx30, hx31⟩⟩)) ?_
    refine .o1 (tk rfl rfl fun _ w hn k => (by
          obtain ⟨A36, c37, A38, c39, e40, hx41, hx42⟩ : (fun (v : Value) (W : World) => ∃ (A32 : Option Addr) (c33 : Nat) (A34 : Option Addr) (c35 : Nat), v = .tuple #[sv A32 (canon (val (canon (goodI b1 a).natAbs) / val (canon (goodI b2 b).natAbs))) c33, sv A34 (canon (val (canon (goodI b1 a).natAbs) % val (canon (goodI b2 b).natAbs))) c35] ∧ SOwn W w84.heap.size 50 .u32 A32 (canon (val (canon (goodI b1 a).natAbs) / val (canon (goodI b2 b).natAbs))) c33 ∧ SOwn W w84.heap.size 50 .u32 A34 (canon (val (canon (goodI b1 a).natAbs) % val (canon (goodI b2 b).natAbs))) c35) _ _ := k.dep 5 19 (by kernel_rfl) (by kernel_rfl)
          exact ⟨_, v_extract rfl e40 rfl, ⟨A36, c37, rfl, hx41⟩⟩)) ?_
    refine .o1 (tk rfl rfl fun _ w hn k => (by
          obtain ⟨A45, c46, A47, c48, e49, hx50, hx51⟩ : (fun (v : Value) (W : World) => ∃ (A32 : Option Addr) (c33 : Nat) (A34 : Option Addr) (c35 : Nat), v = .tuple #[sv A32 (canon (val (canon (goodI b1 a).natAbs) / val (canon (goodI b2 b).natAbs))) c33, sv A34 (canon (val (canon (goodI b1 a).natAbs) % val (canon (goodI b2 b).natAbs))) c35] ∧ SOwn W w84.heap.size 50 .u32 A32 (canon (val (canon (goodI b1 a).natAbs) / val (canon (goodI b2 b).natAbs))) c33 ∧ SOwn W w84.heap.size 50 .u32 A34 (canon (val (canon (goodI b1 a).natAbs) % val (canon (goodI b2 b).natAbs))) c35) _ _ := k.dep 5 19 (by kernel_rfl) (by kernel_rfl)
          exact ⟨_, v_extract rfl e49 rfl, ⟨A47, c48, rfl, hx51⟩⟩)) ?_
    refine .o1 (tk rfl rfl fun _ w hn k => (by
          obtain ⟨A54, c55, e56, hx57⟩ : (fun (v : Value) (W : World) => ∃ (A43 : Option Addr) (c44 : Nat), v = sv A43 (canon (val (canon (goodI b1 a).natAbs) / val (canon (goodI b2 b).natAbs))) c44 ∧ SOwn W w84.heap.size 50 .u32 A43 (canon (val (canon (goodI b1 a).natAbs) / val (canon (goodI b2 b).natAbs))) c44) _ _ := k.dep 6 25 (by kernel_rfl) (by kernel_rfl)
          exact ⟨_, v_assign rfl e56, ⟨A54, c55, rfl, hx57⟩⟩)) ?_
    refine .o1 (tk rfl rfl fun _ w hn k => (by
          obtain ⟨A60, c61, e62, hx63⟩ : (fun (v : Value) (W : World) => ∃ (A52 : Option Addr) (c53 : Nat), v = sv A52 (canon (val (canon (goodI b1 a).natAbs) % val (canon (goodI b2 b).natAbs))) c53 ∧ SOwn W w84.heap.size 50 .u32 A52 (canon (val (canon (goodI b1 a).natAbs) % val (canon (goodI b2 b).natAbs))) c53) _ _ := k.dep 7 26 (by kernel_rfl) (by kernel_rfl)
          exact ⟨_, v_assign rfl e62, ⟨A60, c61, rfl, hx63⟩⟩)) ?_
    exact .nil
  intro a129 w130 hn131 ha132
  have hs133 := ha132.size.trans hs87
  have hd134 := ha132.defers.trans hd88
  have h135 := ha132.fx 4 h89
  have h136 := ha132.fx 6 h90
  have h137 := ha132.fx 7 h91
  obtain ⟨A139, cc140, h138, hr141⟩ : (fun (v : Value) (W : World) => ∃ (A58 : Option Addr) (c59 : Nat), v = sv A58 (canon (val (canon (goodI b1 a).natAbs) / val (canon (goodI b2 b).natAbs))) c59 ∧ SOwn W w84.heap.size 50 .u32 A58 (canon (val (canon (goodI b1 a).natAbs) / val (canon (goodI b2 b).natAbs))) c59) _ _ := ha132.got 8 8 rfl (by kernel_rfl)
  have h138 : a129.eval (.tmp 8) = sv A139 (canon (val (canon (goodI b1 a).natAbs) / val (canon (goodI b2 b).natAbs))) cc140 := h138
  have hb142 := hb93.new_ hn131
  have hb143 := hb94.new_ hn131
  have hb144 := hb95.new_ hn131
  have hr145 := hr96.new_ hn131
  have hr146 := hr97.new_ hn131
  have hr147 := hr141.more hN98.size
  have hN148 := hN98.transNew hn131
  clear hs87 hd88 h89 h90 h91 hv127 hb93 hb94 hb95 hr96 hr97 hr141 hN98 ha132 hn131
  refine st_nil ?_
  refine hK128 _ _ ?_
  clear hK128 K128
  refine wp_seq_k fun K149 hK149 => ?_
  rcases Bool.eq_false_or_eq_true (decide (goodI b1 a < 0)) with ht150 | ht150
  · skip
    have ht150d := of_decide_eq_true ht150
    rcases Bool.eq_false_or_eq_true (decide (goodI b2 b < 0)) with ht151 | ht151
    · skip
      have ht151d := of_decide_eq_true ht151
      refine wp_g0 [true, true, true, true, true, true, true, false, false] [(7, false), (8, true)] 34
        [ve (pv q43),
         ve (.bool true),
         ve (pv q47),
         ve (.bool true),
         ve (.bool false),
         ve (sv A139 (canon (val (canon (goodI b1 a).natAbs) / val (canon (goodI b2 b).natAbs))) cc140),
         (fun (v : Value) (W : World) => ∃ (A68 : Option Addr) (c69 : Nat), v = .agg #[.bool (decide (sgn false (val (canon (val (canon (goodI b1 a).natAbs) / val (canon (goodI b2 b).natAbs)))) < 0)), sv A68 (canon (sgn false (val (canon (val (canon (goodI b1 a).natAbs) / val (canon (goodI b2 b).natAbs))))).natAbs) c69] ∧ SRow W .u32 A68 (canon (sgn false (val (canon (val (canon (goodI b1 a).natAbs) / val (canon (goodI b2 b).natAbs))))).natAbs) c69),
         vt,
         vt] hs133 (.eq (.eq (.eq (.eq (.eq (.eq (.cons (fun v W W' hn ⟨A68, c69, he, h0⟩ => ⟨A68, c69, he, h0.new_ hn⟩) (.tt (.tt (.nil)))))))))) ?_ ?_
      · skip
        refine .o1 (tk rfl rfl fun _ w hn k => ⟨_, v_field rfl (k.fx 6 h136) (fun w => rfl), rfl⟩) ?_
        refine .o1 (tk rfl rfl fun _ w hn k => ⟨_, v_load rfl (k.eq1 0 27 rfl) (l_one Try.isAgg4 ((hb143.new_ hn).cell 0)), congrArg Value.bool ht150⟩) ?_
        refine .o1 (tk rfl rfl fun _ w hn k => ⟨_, v_field rfl (k.fx 7 h137) (fun w => rfl), rfl⟩) ?_
        refine .o1 (tk rfl rfl fun _ w hn k => ⟨_, v_load rfl (k.eq1 2 29 rfl) (l_one Try.isAgg4 ((hb144.new_ hn).cell 0)), congrArg Value.bool ht151⟩) ?_
        refine .o1 (tk rfl rfl fun _ w hn k => ⟨_, v_bin rfl (k.eq1 1 28 rfl) (k.eq1 3 30 rfl) (fun _ => rfl) (fun w => by kernel_rfl), rfl⟩) ?_
        refine .o1 (tk rfl rfl fun _ w hn k => ⟨_, v_move rfl (k.fx 8 h138), rfl⟩) ?_
        refine .o1 (tkC rfl (noG rfl) rfl fun _ w hn k => (by
              refine ⟨#[.bool false, sv A139 (canon (val (canon (goodI b1 a).natAbs) / val (canon (goodI b2 b).natAbs))) cc140], _, args2 (k.eq1 4 31 rfl) (k.eq1 5 32 rfl), fun w => by kernel_rfl, rmade_c _ _ _ _ _ (hr147.new_ hn).row (limbs_canon _) (by first | omega | (simp only [List.length_nil, List.length_cons, List.length_set, List.length_replicate]; omega)), ?_⟩
              rintro e w' ⟨A66, c67, rfl, hmo, hm⟩
              exact ⟨_, rfl, hm, ⟨A66, c67, rfl, hmo⟩⟩)) ?_
        refine .off ?_
        refine .off ?_
        exact .nil
      intro a152 w153 hn154 ha155
      have hs156 := ha155.size.trans hs133
      have hd157 := ha155.defers.trans hd134
      have h158 := ha155.fx 4 h135
      obtain ⟨A160, cc161, h159, hr162⟩ : (fun (v : Value) (W : World) => ∃ (A68 : Option Addr) (c69 : Nat), v = .agg #[.bool (decide (sgn false (val (canon (val (canon (goodI b1 a).natAbs) / val (canon (goodI b2 b).natAbs)))) < 0)), sv A68 (canon (sgn false (val (canon (val (canon (goodI b1 a).natAbs) / val (canon (goodI b2 b).natAbs))))).natAbs) c69] ∧ SRow W .u32 A68 (canon (sgn false (val (canon (val (canon (goodI b1 a).natAbs) / val (canon (goodI b2 b).natAbs))))).natAbs) c69) _ _ := ha155.got 6 33 rfl (by kernel_rfl)
      have h159 : a152.eval (.tmp 33) = .agg #[.bool (decide (sgn false (val (canon (val (canon (goodI b1 a).natAbs) / val (canon (goodI b2 b).natAbs)))) < 0)), sv A160 (canon (sgn false (val (canon (val (canon (goodI b1 a).natAbs) / val (canon (goodI b2 b).natAbs))))).natAbs) cc161] := h159
      have hb163 := hb142.new_ hn154
      have hN164 := hN148.transNew hn154
      clear hs133 hd134 h135 h136 h137 h138 hb142 hb143 hq54 hb144 hq55 hr145 hr146 hr147 hN148 ha155 hn154
      obtain ⟨w165, -, hst166, hb167, hu168, hf169⟩ := s_two (v0 := .bool (decide (sgn false (val (canon (val (canon (goodI b1 a).natAbs) / val (canon (goodI b2 b).natAbs)))) < 0))) (v1 := sv A160 (canon (sgn false (val (canon (val (canon (goodI b1 a).natAbs) / val (canon (goodI b2 b).natAbs))))).natAbs) cc161) Try.sizeOf24 rfl rfl rfl hb163
      refine st_act rfl rfl fun K170 hL171 => a_store' rfl h158 h159 hst166 (hL171 _ _ trivial ?_)
      have hr172 := hr162.far hb163 hu168 (by first | rfl | decide | simp [notK])
      have hN173 := hN164.trans hu168 (fun k hk hkb => by subst hkb; omega)
      clear hb163 hst166 K170 hL171 hN164 hr162 hu168 hf169
      refine st_take rfl rfl (y_assign (v := iv 0) rfl rfl) rfl ?_
      obtain ⟨a174, ha175⟩ : ∃ a', a' = a152.put (some 5) (iv 0) := ⟨_, rfl⟩
      have hs176 : a174.tmps.size = 34 := by rw [ha175, put_size]; exact hs156
      have hd177 : a174.defers = [] := by rw [ha175, put_defers]; exact hd157
      have h178 : a174.eval (.tmp 4) = pv q17 := by rw [ha175, put_ne _ _ _ _ (by decide)]; exact h158
      have h179 : a174.eval (.tmp 33) = .agg #[.bool (decide (sgn false (val (canon (val (canon (goodI b1 a).natAbs) / val (canon (goodI b2 b).natAbs)))) < 0)), sv A160 (canon (sgn false (val (canon (val (canon (goodI b1 a).natAbs) / val (canon (goodI b2 b).natAbs))))).natAbs) cc161] := by rw [ha175, put_ne _ _ _ _ (by decide)]; exact h159
      have h180 : a174.eval (.tmp 5) = iv 0 := by rw [ha175]; exact put_same _ _ _ (by rw [hs156]; decide)
      show stepsTo _ _ _ _ _ (a152.put (some 5) (iv 0)) _
      rw [← ha175]
      clear ha175 hs156 hd157 h158 h159
      refine st_nil ?_
      clear h179
      refine hK149 _ _ ?_
      clear hK149 K149
      refine wp_ret (ret_k hd177 (v := .tuple #[.agg #[.bool (decide (sgn false (val (canon (val (canon (goodI b1 a).natAbs) / val (canon (goodI b2 b).natAbs)))) < 0)), sv A160 (canon (sgn false (val (canon (val (canon (goodI b1 a).natAbs) / val (canon (goodI b2 b).natAbs))))).natAbs) cc161], iv 0]) (res_ct rfl h178 h180 (l_two Try.isAgg24 Try.sizeOf24 hb167)) ?_)
      have hs2 : (iv 0 : Value) = iv (zeroE (goodI b2 b)) := congrArg (Value.int .i64) (zeroE_no ht99)
      have hz1 : sgn false (val (canon (val (canon (goodI b1 a).natAbs) / val (canon (goodI b2 b).natAbs)))) = divZ (goodI b1 a) (goodI b2 b) := divZ_sgn (d := true) (d' := true) ht150 ht151 ht99
      exact ⟨A160, cc161, (congrArg (fun z : Int => Ending.returned (Value.tuple #[.agg #[.bool (decide (z < 0)), sv A160 (canon z.natAbs) cc161], iv 0])) hz1).trans (congrArg (fun y => Ending.returned (Value.tuple #[.agg #[.bool (decide (divZ (goodI b1 a) (goodI b2 b) < 0)), sv A160 (canon (divZ (goodI b1 a) (goodI b2 b)).natAbs) cc161], y])) hs2), Eq.mp (congrArg (fun z : Int => SRow _ .u32 A160 (canon z.natAbs) cc161) hz1) hr172, hN173⟩
    have ht151d := of_decide_eq_false ht151
    refine wp_g0 [true, true, true, true, true, true, true, false, false] [(7, false), (8, true)] 34
      [ve (pv q43),
       ve (.bool true),
       ve (pv q47),
       ve (.bool false),
       ve (.bool true),
       ve (sv A139 (canon (val (canon (goodI b1 a).natAbs) / val (canon (goodI b2 b).natAbs))) cc140),
       (fun (v : Value) (W : World) => ∃ (A76 : Option Addr) (c77 : Nat), v = .agg #[.bool (decide (sgn true (val (canon (val (canon (goodI b1 a).natAbs) / val (canon (goodI b2 b).natAbs)))) < 0)), sv A76 (canon (sgn true (val (canon (val (canon (goodI b1 a).natAbs) / val (canon (goodI b2 b).natAbs))))).natAbs) c77] ∧ SRow W .u32 A76 (canon (sgn true (val (canon (val (canon (goodI b1 a).natAbs) / val (canon (goodI b2 b).natAbs))))).natAbs) c77),
       vt,
       vt] hs133 (.eq (.eq (.eq (.eq (.eq (.eq (.cons (fun v W W' hn ⟨A76, c77, he, h0⟩ => ⟨A76, c77, he, h0.new_ hn⟩) (.tt (.tt (.nil)))))))))) ?_ ?_
    · skip
      refine .o1 (tk rfl rfl fun _ w hn k => ⟨_, v_field rfl (k.fx 6 h136) (fun w => rfl), rfl⟩) ?_
      refine .o1 (tk rfl rfl fun _ w hn k => ⟨_, v_load rfl (k.eq1 0 27 rfl) (l_one Try.isAgg4 ((hb143.new_ hn).cell 0)), congrArg Value.bool ht150⟩) ?_
      refine .o1 (tk rfl rfl fun _ w hn k => ⟨_, v_field rfl (k.fx 7 h137) (fun w => rfl), rfl⟩) ?_
      refine .o1 (tk rfl rfl fun _ w hn k => ⟨_, v_load rfl (k.eq1 2 29 rfl) (l_one Try.isAgg4 ((hb144.new_ hn).cell 0)), congrArg Value.bool ht151⟩) ?_
      refine .o1 (tk rfl rfl fun _ w hn k => ⟨_, v_bin rfl (k.eq1 1 28 rfl) (k.eq1 3 30 rfl) (fun _ => rfl) (fun w => by kernel_rfl), rfl⟩) ?_
      refine .o1 (tk rfl rfl fun _ w hn k => ⟨_, v_move rfl (k.fx 8 h138), rfl⟩) ?_
      refine .o1 (tkC rfl (noG rfl) rfl fun _ w hn k => (by
            refine ⟨#[.bool true, sv A139 (canon (val (canon (goodI b1 a).natAbs) / val (canon (goodI b2 b).natAbs))) cc140], _, args2 (k.eq1 4 31 rfl) (k.eq1 5 32 rfl), fun w => by kernel_rfl, rmade_c _ _ _ _ _ (hr147.new_ hn).row (limbs_canon _) (by first | omega | (simp only [List.length_nil, List.length_cons, List.length_set, List.length_replicate]; omega)), ?_⟩
            rintro e w' ⟨A74, c75, rfl, hmo, hm⟩
            exact ⟨_, rfl, hm, ⟨A74, c75, rfl, hmo⟩⟩)) ?_
      refine .off ?_
      refine .off ?_
      exact .nil
    intro a181 w182 hn183 ha184
    have hs185 := ha184.size.trans hs133
    have hd186 := ha184.defers.trans hd134
    have h187 := ha184.fx 4 h135
    obtain ⟨A189, cc190, h188, hr191⟩ : (fun (v : Value) (W : World) => ∃ (A76 : Option Addr) (c77 : Nat), v = .agg #[.bool (decide (sgn true (val (canon (val (canon (goodI b1 a).natAbs) / val (canon (goodI b2 b).natAbs)))) < 0)), sv A76 (canon (sgn true (val (canon (val (canon (goodI b1 a).natAbs) / val (canon (goodI b2 b).natAbs))))).natAbs) c77] ∧ SRow W .u32 A76 (canon (sgn true (val (canon (val (canon (goodI b1 a).natAbs) / val (canon (goodI b2 b).natAbs))))).natAbs) c77) _ _ := ha184.got 6 33 rfl (by kernel_rfl)
    have h188 : a181.eval (.tmp 33) = .agg #[.bool (decide (sgn true (val (canon (val (canon (goodI b1 a).natAbs) / val (canon (goodI b2 b).natAbs)))) < 0)), sv A189 (canon (sgn true (val (canon (val (canon (goodI b1 a).natAbs) / val (canon (goodI b2 b).natAbs))))).natAbs) cc190] := h188
    have hb192 := hb142.new_ hn183
    have hN193 := hN148.transNew hn183
    clear hs133 hd134 h135 h136 h137 h138 hb142 hb143 hq54 hb144 hq55 hr145 hr146 hr147 hN148 ha184 hn183
    obtain ⟨w194, -, hst195, hb196, hu197, hf198⟩ := s_two (v0 := .bool (decide (sgn true (val (canon (val (canon (goodI b1 a).natAbs) / val (canon (goodI b2 b).natAbs)))) < 0))) (v1 := sv A189 (canon (sgn true (val (canon (val (canon (goodI b1 a).natAbs) / val (canon (goodI b2 b).natAbs))))).natAbs) cc190) Try.sizeOf24 rfl rfl rfl hb192
    refine st_act rfl rfl fun K199 hL200 => a_store' rfl h187 h188 hst195 (hL200 _ _ trivial ?_)
    have hr201 := hr191.far hb192 hu197 (by first | rfl | decide | simp [notK])
    have hN202 := hN193.trans hu197 (fun k hk hkb => by subst hkb; omega)
    clear hb192 hst195 K199 hL200 hN193 hr191 hu197 hf198
    refine st_take rfl rfl (y_assign (v := iv 0) rfl rfl) rfl ?_
    obtain ⟨a203, ha204⟩ : ∃ a', a' = a181.put (some 5) (iv 0) := ⟨_, rfl⟩
    have hs205 : a203.tmps.size = 34 := by rw [ha204, put_size]; exact hs185
    have hd206 : a203.defers = [] := by rw [ha204, put_defers]; exact hd186
    have h207 : a203.eval (.tmp 4) = pv q17 := by rw [ha204, put_ne _ _ _ _ (by decide)]; exact h187
    have h208 : a203.eval (.tmp 33) = .agg #[.bool (decide (sgn true (val (canon (val (canon (goodI b1 a).natAbs) / val (canon (goodI b2 b).natAbs)))) < 0)), sv A189 (canon (sgn true (val (canon (val (canon (goodI b1 a).natAbs) / val (canon (goodI b2 b).natAbs))))).natAbs) cc190] := by rw [ha204, put_ne _ _ _ _ (by decide)]; exact h188
    have h209 : a203.eval (.tmp 5) = iv 0 := by rw [ha204]; exact put_same _ _ _ (by rw [hs185]; decide)
    show stepsTo _ _ _ _ _ (a181.put (some 5) (iv 0)) _
    rw [← ha204]
    clear ha204 hs185 hd186 h187 h188
    refine st_nil ?_
    clear h208
    refine hK149 _ _ ?_
    clear hK149 K149
    refine wp_ret (ret_k hd206 (v := .tuple #[.agg #[.bool (decide (sgn true (val (canon (val (canon (goodI b1 a).natAbs) / val (canon (goodI b2 b).natAbs)))) < 0)), sv A189 (canon (sgn true (val (canon (val (canon (goodI b1 a).natAbs) / val (canon (goodI b2 b).natAbs))))).natAbs) cc190], iv 0]) (res_ct rfl h207 h209 (l_two Try.isAgg24 Try.sizeOf24 hb196)) ?_)
    have hs2 : (iv 0 : Value) = iv (zeroE (goodI b2 b)) := congrArg (Value.int .i64) (zeroE_no ht99)
    have hz1 : sgn true (val (canon (val (canon (goodI b1 a).natAbs) / val (canon (goodI b2 b).natAbs)))) = divZ (goodI b1 a) (goodI b2 b) := divZ_sgn (d := true) (d' := false) ht150 ht151 ht99
    exact ⟨A189, cc190, (congrArg (fun z : Int => Ending.returned (Value.tuple #[.agg #[.bool (decide (z < 0)), sv A189 (canon z.natAbs) cc190], iv 0])) hz1).trans (congrArg (fun y => Ending.returned (Value.tuple #[.agg #[.bool (decide (divZ (goodI b1 a) (goodI b2 b) < 0)), sv A189 (canon (divZ (goodI b1 a) (goodI b2 b)).natAbs) cc190], y])) hs2), Eq.mp (congrArg (fun z : Int => SRow _ .u32 A189 (canon z.natAbs) cc190) hz1) hr201, hN202⟩
  have ht150d := of_decide_eq_false ht150
  rcases Bool.eq_false_or_eq_true (decide (goodI b2 b < 0)) with ht210 | ht210
  · skip
    have ht210d := of_decide_eq_true ht210
    refine wp_g0 [true, true, true, true, true, true, true, false, false] [(7, false), (8, true)] 34
      [ve (pv q43),
       ve (.bool false),
       ve (pv q47),
       ve (.bool true),
       ve (.bool true),
       ve (sv A139 (canon (val (canon (goodI b1 a).natAbs) / val (canon (goodI b2 b).natAbs))) cc140),
       (fun (v : Value) (W : World) => ∃ (A84 : Option Addr) (c85 : Nat), v = .agg #[.bool (decide (sgn true (val (canon (val (canon (goodI b1 a).natAbs) / val (canon (goodI b2 b).natAbs)))) < 0)), sv A84 (canon (sgn true (val (canon (val (canon (goodI b1 a).natAbs) / val (canon (goodI b2 b).natAbs))))).natAbs) c85] ∧ SRow W .u32 A84 (canon (sgn true (val (canon (val (canon (goodI b1 a).natAbs) / val (canon (goodI b2 b).natAbs))))).natAbs) c85),
       vt,
       vt] hs133 (.eq (.eq (.eq (.eq (.eq (.eq (.cons (fun v W W' hn ⟨A84, c85, he, h0⟩ => ⟨A84, c85, he, h0.new_ hn⟩) (.tt (.tt (.nil)))))))))) ?_ ?_
    · skip
      refine .o1 (tk rfl rfl fun _ w hn k => ⟨_, v_field rfl (k.fx 6 h136) (fun w => rfl), rfl⟩) ?_
      refine .o1 (tk rfl rfl fun _ w hn k => ⟨_, v_load rfl (k.eq1 0 27 rfl) (l_one Try.isAgg4 ((hb143.new_ hn).cell 0)), congrArg Value.bool ht150⟩) ?_
      refine .o1 (tk rfl rfl fun _ w hn k => ⟨_, v_field rfl (k.fx 7 h137) (fun w => rfl), rfl⟩) ?_
      refine .o1 (tk rfl rfl fun _ w hn k => ⟨_, v_load rfl (k.eq1 2 29 rfl) (l_one Try.isAgg4 ((hb144.new_ hn).cell 0)), congrArg Value.bool ht210⟩) ?_
      refine .o1 (tk rfl rfl fun _ w hn k => ⟨_, v_bin rfl (k.eq1 1 28 rfl) (k.eq1 3 30 rfl) (fun _ => rfl) (fun w => by kernel_rfl), rfl⟩) ?_
      refine .o1 (tk rfl rfl fun _ w hn k => ⟨_, v_move rfl (k.fx 8 h138), rfl⟩) ?_
      refine .o1 (tkC rfl (noG rfl) rfl fun _ w hn k => (by
            refine ⟨#[.bool true, sv A139 (canon (val (canon (goodI b1 a).natAbs) / val (canon (goodI b2 b).natAbs))) cc140], _, args2 (k.eq1 4 31 rfl) (k.eq1 5 32 rfl), fun w => by kernel_rfl, rmade_c _ _ _ _ _ (hr147.new_ hn).row (limbs_canon _) (by first | omega | (simp only [List.length_nil, List.length_cons, List.length_set, List.length_replicate]; omega)), ?_⟩
            rintro e w' ⟨A82, c83, rfl, hmo, hm⟩
            exact ⟨_, rfl, hm, ⟨A82, c83, rfl, hmo⟩⟩)) ?_
      refine .off ?_
      refine .off ?_
      exact .nil
    intro a211 w212 hn213 ha214
    have hs215 := ha214.size.trans hs133
    have hd216 := ha214.defers.trans hd134
    have h217 := ha214.fx 4 h135
    obtain ⟨A219, cc220, h218, hr221⟩ : (fun (v : Value) (W : World) => ∃ (A84 : Option Addr) (c85 : Nat), v = .agg #[.bool (decide (sgn true (val (canon (val (canon (goodI b1 a).natAbs) / val (canon (goodI b2 b).natAbs)))) < 0)), sv A84 (canon (sgn true (val (canon (val (canon (goodI b1 a).natAbs) / val (canon (goodI b2 b).natAbs))))).natAbs) c85] ∧ SRow W .u32 A84 (canon (sgn true (val (canon (val (canon (goodI b1 a).natAbs) / val (canon (goodI b2 b).natAbs))))).natAbs) c85) _ _ := ha214.got 6 33 rfl (by kernel_rfl)
    have h218 : a211.eval (.tmp 33) = .agg #[.bool (decide (sgn true (val (canon (val (canon (goodI b1 a).natAbs) / val (canon (goodI b2 b).natAbs)))) < 0)), sv A219 (canon (sgn true (val (canon (val (canon (goodI b1 a).natAbs) / val (canon (goodI b2 b).natAbs))))).natAbs) cc220] := h218
    have hb222 := hb142.new_ hn213
    have hN223 := hN148.transNew hn213
    clear hs133 hd134 h135 h136 h137 h138 hb142 hb143 hq54 hb144 hq55 hr145 hr146 hr147 hN148 ha214 hn213
    obtain ⟨w224, -, hst225, hb226, hu227, hf228⟩ := s_two (v0 := .bool (decide (sgn true (val (canon (val (canon (goodI b1 a).natAbs) / val (canon (goodI b2 b).natAbs)))) < 0))) (v1 := sv A219 (canon (sgn true (val (canon (val (canon (goodI b1 a).natAbs) / val (canon (goodI b2 b).natAbs))))).natAbs) cc220) Try.sizeOf24 rfl rfl rfl hb222
    refine st_act rfl rfl fun K229 hL230 => a_store' rfl h217 h218 hst225 (hL230 _ _ trivial ?_)
    have hr231 := hr221.far hb222 hu227 (by first | rfl | decide | simp [notK])
    have hN232 := hN223.trans hu227 (fun k hk hkb => by subst hkb; omega)
    clear hb222 hst225 K229 hL230 hN223 hr221 hu227 hf228
    refine st_take rfl rfl (y_assign (v := iv 0) rfl rfl) rfl ?_
    obtain ⟨a233, ha234⟩ : ∃ a', a' = a211.put (some 5) (iv 0) := ⟨_, rfl⟩
    have hs235 : a233.tmps.size = 34 := by rw [ha234, put_size]; exact hs215
    have hd236 : a233.defers = [] := by rw [ha234, put_defers]; exact hd216
    have h237 : a233.eval (.tmp 4) = pv q17 := by rw [ha234, put_ne _ _ _ _ (by decide)]; exact h217
    have h238 : a233.eval (.tmp 33) = .agg #[.bool (decide (sgn true (val (canon (val (canon (goodI b1 a).natAbs) / val (canon (goodI b2 b).natAbs)))) < 0)), sv A219 (canon (sgn true (val (canon (val (canon (goodI b1 a).natAbs) / val (canon (goodI b2 b).natAbs))))).natAbs) cc220] := by rw [ha234, put_ne _ _ _ _ (by decide)]; exact h218
    have h239 : a233.eval (.tmp 5) = iv 0 := by rw [ha234]; exact put_same _ _ _ (by rw [hs215]; decide)
    show stepsTo _ _ _ _ _ (a211.put (some 5) (iv 0)) _
    rw [← ha234]
    clear ha234 hs215 hd216 h217 h218
    refine st_nil ?_
    clear h238
    refine hK149 _ _ ?_
    clear hK149 K149
    refine wp_ret (ret_k hd236 (v := .tuple #[.agg #[.bool (decide (sgn true (val (canon (val (canon (goodI b1 a).natAbs) / val (canon (goodI b2 b).natAbs)))) < 0)), sv A219 (canon (sgn true (val (canon (val (canon (goodI b1 a).natAbs) / val (canon (goodI b2 b).natAbs))))).natAbs) cc220], iv 0]) (res_ct rfl h237 h239 (l_two Try.isAgg24 Try.sizeOf24 hb226)) ?_)
    have hs2 : (iv 0 : Value) = iv (zeroE (goodI b2 b)) := congrArg (Value.int .i64) (zeroE_no ht99)
    have hz1 : sgn true (val (canon (val (canon (goodI b1 a).natAbs) / val (canon (goodI b2 b).natAbs)))) = divZ (goodI b1 a) (goodI b2 b) := divZ_sgn (d := false) (d' := true) ht150 ht210 ht99
    exact ⟨A219, cc220, (congrArg (fun z : Int => Ending.returned (Value.tuple #[.agg #[.bool (decide (z < 0)), sv A219 (canon z.natAbs) cc220], iv 0])) hz1).trans (congrArg (fun y => Ending.returned (Value.tuple #[.agg #[.bool (decide (divZ (goodI b1 a) (goodI b2 b) < 0)), sv A219 (canon (divZ (goodI b1 a) (goodI b2 b)).natAbs) cc220], y])) hs2), Eq.mp (congrArg (fun z : Int => SRow _ .u32 A219 (canon z.natAbs) cc220) hz1) hr231, hN232⟩
  have ht210d := of_decide_eq_false ht210
  refine wp_g0 [true, true, true, true, true, true, true, false, false] [(7, false), (8, true)] 34
    [ve (pv q43),
     ve (.bool false),
     ve (pv q47),
     ve (.bool false),
     ve (.bool false),
     ve (sv A139 (canon (val (canon (goodI b1 a).natAbs) / val (canon (goodI b2 b).natAbs))) cc140),
     (fun (v : Value) (W : World) => ∃ (A92 : Option Addr) (c93 : Nat), v = .agg #[.bool (decide (sgn false (val (canon (val (canon (goodI b1 a).natAbs) / val (canon (goodI b2 b).natAbs)))) < 0)), sv A92 (canon (sgn false (val (canon (val (canon (goodI b1 a).natAbs) / val (canon (goodI b2 b).natAbs))))).natAbs) c93] ∧ SRow W .u32 A92 (canon (sgn false (val (canon (val (canon (goodI b1 a).natAbs) / val (canon (goodI b2 b).natAbs))))).natAbs) c93),
     vt,
     vt] hs133 (.eq (.eq (.eq (.eq (.eq (.eq (.cons (fun v W W' hn ⟨A92, c93, he, h0⟩ => ⟨A92, c93, he, h0.new_ hn⟩) (.tt (.tt (.nil)))))))))) ?_ ?_
  · skip
    refine .o1 (tk rfl rfl fun _ w hn k => ⟨_, v_field rfl (k.fx 6 h136) (fun w => rfl), rfl⟩) ?_
    refine .o1 (tk rfl rfl fun _ w hn k => ⟨_, v_load rfl (k.eq1 0 27 rfl) (l_one Try.isAgg4 ((hb143.new_ hn).cell 0)), congrArg Value.bool ht150⟩) ?_
    refine .o1 (tk rfl rfl fun _ w hn k => ⟨_, v_field rfl (k.fx 7 h137) (fun w => rfl), rfl⟩) ?_
    refine .o1 (tk rfl rfl fun _ w hn k => ⟨_, v_load rfl (k.eq1 2 29 rfl) (l_one Try.isAgg4 ((hb144.new_ hn).cell 0)), congrArg Value.bool ht210⟩) ?_
    refine .o1 (tk rfl rfl fun _ w hn k => ⟨_, v_bin rfl (k.eq1 1 28 rfl) (k.eq1 3 30 rfl) (fun _ => rfl) (fun w => by kernel_rfl), rfl⟩) ?_
    refine .o1 (tk rfl rfl fun _ w hn k => ⟨_, v_move rfl (k.fx 8 h138), rfl⟩) ?_
    refine .o1 (tkC rfl (noG rfl) rfl fun _ w hn k => (by
          refine ⟨#[.bool false, sv A139 (canon (val (canon (goodI b1 a).natAbs) / val (canon (goodI b2 b).natAbs))) cc140], _, args2 (k.eq1 4 31 rfl) (k.eq1 5 32 rfl), fun w => by kernel_rfl, rmade_c _ _ _ _ _ (hr147.new_ hn).row (limbs_canon _) (by first | omega | (simp only [List.length_nil, List.length_cons, List.length_set, List.length_replicate]; omega)), ?_⟩
          rintro e w' ⟨A90, c91, rfl, hmo, hm⟩
          exact ⟨_, rfl, hm, ⟨A90, c91, rfl, hmo⟩⟩)) ?_
    refine .off ?_
    refine .off ?_
    exact .nil
  intro a240 w241 hn242 ha243
  have hs244 := ha243.size.trans hs133
  have hd245 := ha243.defers.trans hd134
  have h246 := ha243.fx 4 h135
  obtain ⟨A248, cc249, h247, hr250⟩ : (fun (v : Value) (W : World) => ∃ (A92 : Option Addr) (c93 : Nat), v = .agg #[.bool (decide (sgn false (val (canon (val (canon (goodI b1 a).natAbs) / val (canon (goodI b2 b).natAbs)))) < 0)), sv A92 (canon (sgn false (val (canon (val (canon (goodI b1 a).natAbs) / val (canon (goodI b2 b).natAbs))))).natAbs) c93] ∧ SRow W .u32 A92 (canon (sgn false (val (canon (val (canon (goodI b1 a).natAbs) / val (canon (goodI b2 b).natAbs))))).natAbs) c93) _ _ := ha243.got 6 33 rfl (by kernel_rfl)
  have h247 : a240.eval (.tmp 33) = .agg #[.bool (decide (sgn false (val (canon (val (canon (goodI b1 a).natAbs) / val (canon (goodI b2 b).natAbs)))) < 0)), sv A248 (canon (sgn false (val (canon (val (canon (goodI b1 a).natAbs) / val (canon (goodI b2 b).natAbs))))).natAbs) cc249] := h247
  have hb251 := hb142.new_ hn242
  have hN252 := hN148.transNew hn242
  clear hs133 hd134 h135 h136 h137 h138 hb142 hb143 hq54 hb144 hq55 hr145 hr146 hr147 hN148 ha243 hn242
  obtain ⟨w253, -, hst254, hb255, hu256, hf257⟩ := s_two (v0 := .bool (decide (sgn false (val (canon (val (canon (goodI b1 a).natAbs) / val (canon (goodI b2 b).natAbs)))) < 0))) (v1 := sv A248 (canon (sgn false (val (canon (val (canon (goodI b1 a).natAbs) / val (canon (goodI b2 b).natAbs))))).natAbs) cc249) Try.sizeOf24 rfl rfl rfl hb251
  refine st_act rfl rfl fun K258 hL259 => a_store' rfl h246 h247 hst254 (hL259 _ _ trivial ?_)
  have hr260 := hr250.far hb251 hu256 (by first | rfl | decide | simp [notK])
  have hN261 := hN252.trans hu256 (fun k hk hkb => by subst hkb; omega)
  clear hb251 hst254 K258 hL259 hN252 hr250 hu256 hf257
  refine st_take rfl rfl (y_assign (v := iv 0) rfl rfl) rfl ?_
  obtain ⟨a262, ha263⟩ : ∃ a', a' = a240.put (some 5) (iv 0) := ⟨_, rfl⟩
  have hs264 : a262.tmps.size = 34 := by rw [ha263, put_size]; exact hs244
  have hd265 : a262.defers = [] := by rw [ha263, put_defers]; exact hd245
  have h266 : a262.eval (.tmp 4) = pv q17 := by rw [ha263, put_ne _ _ _ _ (by decide)]; exact h246
  have h267 : a262.eval (.tmp 33) = .agg #[.bool (decide (sgn false (val (canon (val (canon (goodI b1 a).natAbs) / val (canon (goodI b2 b).natAbs)))) < 0)), sv A248 (canon (sgn false (val (canon (val (canon (goodI b1 a).natAbs) / val (canon (goodI b2 b).natAbs))))).natAbs) cc249] := by rw [ha263, put_ne _ _ _ _ (by decide)]; exact h247
  have h268 : a262.eval (.tmp 5) = iv 0 := by rw [ha263]; exact put_same _ _ _ (by rw [hs244]; decide)
  show stepsTo _ _ _ _ _ (a240.put (some 5) (iv 0)) _
  rw [← ha263]
  clear ha263 hs244 hd245 h246 h247
  refine st_nil ?_
  clear h267
  refine hK149 _ _ ?_
  clear hK149 K149
  refine wp_ret (ret_k hd265 (v := .tuple #[.agg #[.bool (decide (sgn false (val (canon (val (canon (goodI b1 a).natAbs) / val (canon (goodI b2 b).natAbs)))) < 0)), sv A248 (canon (sgn false (val (canon (val (canon (goodI b1 a).natAbs) / val (canon (goodI b2 b).natAbs))))).natAbs) cc249], iv 0]) (res_ct rfl h266 h268 (l_two Try.isAgg24 Try.sizeOf24 hb255)) ?_)
  have hs2 : (iv 0 : Value) = iv (zeroE (goodI b2 b)) := congrArg (Value.int .i64) (zeroE_no ht99)
  have hz1 : sgn false (val (canon (val (canon (goodI b1 a).natAbs) / val (canon (goodI b2 b).natAbs)))) = divZ (goodI b1 a) (goodI b2 b) := divZ_sgn (d := false) (d' := false) ht150 ht210 ht99
  exact ⟨A248, cc249, (congrArg (fun z : Int => Ending.returned (Value.tuple #[.agg #[.bool (decide (z < 0)), sv A248 (canon z.natAbs) cc249], iv 0])) hz1).trans (congrArg (fun y => Ending.returned (Value.tuple #[.agg #[.bool (decide (divZ (goodI b1 a) (goodI b2 b) < 0)), sv A248 (canon (divZ (goodI b1 a) (goodI b2 b)).natAbs) cc249], y])) hs2), Eq.mp (congrArg (fun z : Int => SRow _ .u32 A248 (canon z.natAbs) cc249) hz1) hr260, hN261⟩
set_option maxHeartbeats 4000000 in
set_option maxRecDepth 100000 in
theorem rrem_c (b1 : Bool) (A : Option Addr) (a : List Nat) (c : Nat) (b2 : Bool) (B : Option Addr) (b : List Nat) (d : Nat) (w : World) (hra : SRow w .u32 A a c) (ha : Limbs a) (hrb : SRow w .u32 B b d) (hb : Limbs b) : Calls Try.prog 44 #[.agg #[.bool b1, sv A a c], .agg #[.bool b2, sv B b d]] w (RetZE (remZ (goodI b1 a) (goodI b2 b)) (zeroE (goodI b2 b)) w) := by
  refine enter_abs Try.func44 rfl fun a0 hs0 hd0 hp => ?_
  have hs0 : a0.tmps.size = 31 := hs0
  have hN0 : New w w := Upd.refl _ _
  have hp0 : a0.eval (.tmp 0) = .agg #[.bool b1, sv A a c] := hp 0 _ rfl
  have hp1 : a0.eval (.tmp 1) = .agg #[.bool b2, sv B b d] := hp 1 _ rfl
  clear hp
  have h8x := (canon_len8 _).2 (good_lt (b := b1) ha)
  have h8y := (canon_len8 _).2 (good_lt (b := b2) hb)
  have hqx : (canon (val (canon (goodI b1 a).natAbs) / val (canon (goodI b2 b).natAbs))).length ≤ 8 := quo_len (good_lt ha)
  have hrx : (canon (val (canon (goodI b1 a).natAbs) % val (canon (goodI b2 b).natAbs))).length ≤ 8 := rem_len8 (good_lt ha)
  refine wp_seq_k fun K1 hK1 => ?_
  refine wp_g [true, true, true, true] [] [] 31
    [IsNew w 24 [.bool b1, sv A a c],
     IsNew w 24 [.bool b2, sv B b d],
     IsNew w 24 [.bool false, sv none ([]) 0],
     ve (iv 0)]
    [0, 1, 2] (newsCons (fun v w h => IsNew.old h) (newsCons (fun v w h => IsNew.old h) (newsCons (fun v w h => IsNew.old h) newsNil))) hs0 (.nw (.nw (.nw (.eq (.nil))))) ?_ (fun i h => by cases h) ?_
  · skip
    refine .o2 (step_allocN (cs := [.bool b1, sv A a c]) (t := 24) rfl (noG rfl) (fun _ w hn k => v_box rfl (k.fx 0 hp0) (fun w => rfl)) (fun q _ hq hb => ⟨q, rfl, hq, hb⟩)) ?_
    refine .o2 (step_allocN (cs := [.bool b2, sv B b d]) (t := 24) rfl (noG rfl) (fun _ w hn k => v_box rfl (k.fx 1 hp1) (fun w => rfl)) (fun q _ hq hb => ⟨q, rfl, hq, hb⟩)) ?_
    refine .o2 (step_allocN (cs := [.bool false, sv none ([]) 0]) (t := 24) rfl (noG rfl) (fun _ w hn k => rfl) (fun q _ hq hb => ⟨q, rfl, hq, hb⟩)) ?_
    refine .o1 (tk rfl rfl fun _ w hn k => ⟨_, v_assign rfl rfl, rfl⟩) ?_
    exact .nil
  intro a2 w3 hn4 ha5
  have hs6 := ha5.size.trans hs0
  have hd7 := ha5.defers.trans hd0
  obtain ⟨q9, h8, hq10, hb11⟩ : IsNew _ _ _ _ _ := ha5.got 0 2 rfl (by kernel_rfl)
  obtain ⟨q13, h12, hq14, hb15⟩ : IsNew _ _ _ _ _ := ha5.got 1 3 rfl (by kernel_rfl)
  obtain ⟨q17, h16, hq18, hb19⟩ : IsNew _ _ _ _ _ := ha5.got 2 4 rfl (by kernel_rfl)
  have hne20 : q9 ≠ q17 := ha5.ne 0 2 2 4 h8 h16
  have hne21 : q13 ≠ q17 := ha5.ne 1 2 3 4 h12 h16
  have hq22 := Nat.le_trans hN0.size hq10
  have hq23 := Nat.le_trans hN0.size hq14
  have hq24 := Nat.le_trans hN0.size hq18
  have hN25 := hN0.transNew hn4
  clear hs0 hd0 hp0 hp1 hq10 hq14 hq18 hN0 ha5 hn4
  refine st_nil ?_
  refine hK1 _ _ ?_
  clear hK1 K1
  refine wp_seq_k fun K26 hK26 => ?_
  refine wp_g [true, true, true, true, true, true, false, false] [] [(6, false), (7, false)] 31
    [ve (.agg #[.bool b1, sv A a c]),
     (fun (v : Value) (W : World) => ∃ (A3 : Option Addr) (c4 : Nat), v = .agg #[.bool (decide (goodI b1 a < 0)), sv A3 (canon (goodI b1 a).natAbs) c4] ∧ SRow W .u32 A3 (canon (goodI b1 a).natAbs) c4),
     ve (.agg #[.bool b2, sv B b d]),
     (fun (v : Value) (W : World) => ∃ (A7 : Option Addr) (c8 : Nat), v = .agg #[.bool (decide (goodI b2 b < 0)), sv A7 (canon (goodI b2 b).natAbs) c8] ∧ SRow W .u32 A7 (canon (goodI b2 b).natAbs) c8),
     IsNew w3 24 [.bool false, sv none ([]) 0],
     IsNew w3 24 [.bool false, sv none ([]) 0],
     vt,
     vt]
    [4, 5] (newsCons (fun v w h => IsNew.old h) (newsCons (fun v w h => IsNew.old h) newsNil)) hs6 (.eq (.cons (fun v W W' hn ⟨A3, c4, he, h0⟩ => ⟨A3, c4, he, h0.new_ hn⟩) (.eq (.cons (fun v W W' hn ⟨A7, c8, he, h0⟩ => ⟨A7, c8, he, h0.new_ hn⟩) (.nw (.nw (.tt (.tt (.nil))))))))) ?_ (fun i h => by cases h) ?_
  · skip
    refine .o1 (tk rfl rfl fun _ w hn k => ⟨_, v_load rfl (k.fx 2 h8) (l_two Try.isAgg24 Try.sizeOf24 (hb11.new_ hn)), rfl⟩) ?_
    refine .o1 (tkC rfl (noG rfl) rfl fun _ w hn k => (by
          refine ⟨#[.agg #[.bool b1, sv A a c]], _, args1 (k.eq1 0 10 rfl), fun w => by kernel_rfl, rgood_c _ _ _ _ _ (hra.new_ (hN25.transNew hn)) ha, ?_⟩
          rintro e w' ⟨A1, c2, rfl, hmo, hm⟩
          exact ⟨_, rfl, hm, ⟨A1, c2, rfl, hmo⟩⟩)) ?_
    refine .o1 (tk rfl rfl fun _ w hn k => ⟨_, v_load rfl (k.fx 3 h12) (l_two Try.isAgg24 Try.sizeOf24 (hb15.new_ hn)), rfl⟩) ?_
    refine .o1 (tkC rfl (noG rfl) rfl fun _ w hn k => (by
          refine ⟨#[.agg #[.bool b2, sv B b d]], _, args1 (k.eq1 2 12 rfl), fun w => by kernel_rfl, rgood_c _ _ _ _ _ (hrb.new_ (hN25.transNew hn)) hb, ?_⟩
          rintro e w' ⟨A5, c6, rfl, hmo, hm⟩
          exact ⟨_, rfl, hm, ⟨A5, c6, rfl, hmo⟩⟩)) ?_
    refine .o2 (step_allocN (cs := [.bool false, sv none ([]) 0]) (t := 24) rfl (noG rfl) (fun _ w hn k => rfl) (fun q _ hq hb => ⟨q, rfl, hq, hb⟩)) ?_
    refine .o2 (step_allocN (cs := [.bool false, sv none ([]) 0]) (t := 24) rfl (noG rfl) (fun _ w hn k => rfl) (fun q _ hq hb => ⟨q, rfl, hq, hb⟩)) ?_
    refine .off ?_
    refine .off ?_
    exact .nil
  intro a27 w28 hn29 ha30
  have hs31 := ha30.size.trans hs6
  have hd32 := ha30.defers.trans hd7
  have h33 := ha30.fx 4 h16
  obtain ⟨A35, cc36, h34, hr37⟩ : (fun (v : Value) (W : World) => ∃ (A3 : Option Addr) (c4 : Nat), v = .agg #[.bool (decide (goodI b1 a < 0)), sv A3 (canon (goodI b1 a).natAbs) c4] ∧ SRow W .u32 A3 (canon (goodI b1 a).natAbs) c4) _ _ := ha30.got 1 11 rfl (by kernel_rfl)
  have h34 : a27.eval (.tmp 11) = .agg #[.bool (decide (goodI b1 a < 0)), sv A35 (canon (goodI b1 a).natAbs) cc36] := h34
  obtain ⟨A39, cc40, h38, hr41⟩ : (fun (v : Value) (W : World) => ∃ (A7 : Option Addr) (c8 : Nat), v = .agg #[.bool (decide (goodI b2 b < 0)), sv A7 (canon (goodI b2 b).natAbs) c8] ∧ SRow W .u32 A7 (canon (goodI b2 b).natAbs) c8) _ _ := ha30.got 3 13 rfl (by kernel_rfl)
  have h38 : a27.eval (.tmp 13) = .agg #[.bool (decide (goodI b2 b < 0)), sv A39 (canon (goodI b2 b).natAbs) cc40] := h38
  obtain ⟨q43, h42, hq44, hb45⟩ : IsNew _ _ _ _ _ := ha30.got 4 6 rfl (by kernel_rfl)
  obtain ⟨q47, h46, hq48, hb49⟩ : IsNew _ _ _ _ _ := ha30.got 5 7 rfl (by kernel_rfl)
  have hb50 := hb19.new_ hn29
  have hne51 : q43 ≠ q47 := ha30.ne 4 5 6 7 h42 h46
  have hne52 : q17 ≠ q43 := by have h1 := hb19.lt; have h2 := hq44; omega
  have hne53 : q17 ≠ q47 := by have h1 := hb19.lt; have h2 := hq48; omega
  have hq54 := Nat.le_trans hN25.size hq44
  have hq55 := Nat.le_trans hN25.size hq48
  have hN56 := hN25.transNew hn29
  clear hs6 hd7 h8 h12 h16 hb11 hq22 hb15 hq23 hb19 hq44 hq48 hN25 ha30 hn29
  obtain ⟨w57, -, hst58, hb59, hu60, hf61⟩ := s_two (v0 := .bool (decide (goodI b1 a < 0))) (v1 := sv A35 (canon (goodI b1 a).natAbs) cc36) Try.sizeOf24 rfl rfl rfl hb45
  refine st_act rfl rfl fun K62 hL63 => a_store' rfl h42 h34 hst58 (hL63 _ _ trivial ?_)
  have hr64 := hr37.far hb45 hu60 (by first | rfl | decide | simp [notK])
  have hr65 := hr41.far hb45 hu60 (by first | rfl | decide | simp [notK])
  have hb66 := hf61 _ _ _ (hne52) hb50
  have hb67 := hf61 _ _ _ (fun h => hne51 h.symm) hb49
  have hN68 := hN56.trans hu60 (fun k hk hkb => by subst hkb; omega)
  clear hb45 hst58 K62 hL63 hN56 hr37 hr41 hb50 hb49 hu60 hf61
  obtain ⟨w69, -, hst70, hb71, hu72, hf73⟩ := s_two (v0 := .bool (decide (goodI b2 b < 0))) (v1 := sv A39 (canon (goodI b2 b).natAbs) cc40) Try.sizeOf24 rfl rfl rfl hb67
  refine st_act rfl rfl fun K74 hL75 => a_store' rfl h46 h38 hst70 (hL75 _ _ trivial ?_)
  have hr76 := hr64.far hb67 hu72 (by first | rfl | decide | simp [notK])
  have hr77 := hr65.far hb67 hu72 (by first | rfl | decide | simp [notK])
  have hb78 := hf73 _ _ _ (hne53) hb66
  have hb79 := hf73 _ _ _ (hne51) hb59
  have hN80 := hN68.trans hu72 (fun k hk hkb => by subst hkb; omega)
  clear hb67 hst70 K74 hL75 hN68 hr64 hr65 hb66 hb59 hu72 hf73
  clear hne51
  refine st_nil ?_
  clear h34 h38
  refine hK26 _ _ ?_
  clear hK26 K26
  refine wp_seq_k fun K81 hK81 => ?_
  refine wp_seq_k fun K82 hK82 => ?_
  refine wp_g0 [true, true, true, true] [] 31
    [ve (.pointer (some ⟨q47, 1, none⟩)),
     ve (sv A39 (canon (goodI b2 b).natAbs) cc40),
     ve (iv ((canon (goodI b2 b).natAbs).length : Int)),
     ve (.bool (decide (((canon (goodI b2 b).natAbs).length : Int) = 0)))] hs31 (.eq (.eq (.eq (.eq (.nil))))) ?_ ?_
  · skip
    refine .o1 (tk rfl rfl fun _ w hn k => ⟨_, v_field rfl (k.fx 7 h46) (fun w => rfl), rfl⟩) ?_
    refine .o1 (tk rfl rfl fun _ w hn k => ⟨_, v_load rfl (k.eq1 0 14 rfl) (l_one Try.isAgg22 ((hb71.new_ hn).cell 1)), rfl⟩) ?_
    refine .o1 (tk rfl rfl fun _ w hn k => ⟨_, v_lenR rfl elW (k.eq1 1 15 rfl), rfl⟩) ?_
    refine .o1 (tk rfl rfl fun _ w hn k => ⟨_, v_bin rfl (k.eq1 2 16 rfl) rfl (fun _ => rfl) (r_eql rfl), rfl⟩) ?_
    exact .nil
  intro a83 w84 hn85 ha86
  have hs87 := ha86.size.trans hs31
  have hd88 := ha86.defers.trans hd32
  have h89 := ha86.fx 4 h33
  have h90 := ha86.fx 6 h42
  have h91 := ha86.fx 7 h46
  have h92 := ha86.ge 3 17 rfl
  have hb93 := hb78.new_ hn85
  have hb94 := hb79.new_ hn85
  have hb95 := hb71.new_ hn85
  have hr96 := hr76.new_ hn85
  have hr97 := hr77.new_ hn85
  have hN98 := hN80.transNew hn85
  clear hs31 hd32 h33 h42 h46 hb78 hb79 hb71 hr76 hr77 hN80 ha86 hn85
  refine st_nil ?_
  refine hK82 _ _ ?_
  clear hK82 K82
  rcases Bool.eq_false_or_eq_true (decide (((canon (goodI b2 b).natAbs).length : Int) = 0)) with ht99 | ht99
  · skip
    have ht99d := of_decide_eq_true ht99
    have hv100 : a83.eval (.tmp 17) = .bool true := h92.trans (congrArg Value.bool ht99)
    clear h92
    refine wp_cond_true hv100 ?_
    refine wp_seq_k fun K101 hK101 => ?_
    refine wp_g0 [true, false, false] [(1, false), (2, true)] 31
      [ve (.agg #[.bool false, sv none ([]) 0]),
       vt,
       vt] hs87 (.eq (.tt (.tt (.nil)))) ?_ ?_
    · skip
      refine .o1 (tk rfl rfl fun _ w hn k => ⟨_, v_build (ps := []) rfl parts0 (by kernel_rfl), rfl⟩) ?_
      refine .off ?_
      refine .off ?_
      exact .nil
    intro a102 w103 hn104 ha105
    have hs106 := ha105.size.trans hs87
    have hd107 := ha105.defers.trans hd88
    have h108 := ha105.fx 4 h89
    have h109 := ha105.ge 0 18 rfl
    have hb110 := hb93.new_ hn104
    have hN111 := hN98.transNew hn104
    clear hs87 hd88 h89 h90 h91 hv100 hb93 hb94 hq54 hb95 hq55 hr96 hr97 hN98 ha105 hn104
    obtain ⟨w112, -, hst113, hb114, hu115, hf116⟩ := s_two (v0 := .bool false) (v1 := sv none ([]) 0) Try.sizeOf24 rfl rfl rfl hb110
    refine st_act rfl rfl fun K117 hL118 => a_store' rfl h108 h109 hst113 (hL118 _ _ trivial ?_)
    have hN119 := hN111.trans hu115 (fun k hk hkb => by subst hkb; omega)
    clear hb110 hst113 K117 hL118 hN111 hu115 hf116
    refine st_take rfl rfl (y_assign (v := iv 4) rfl rfl) rfl ?_
    obtain ⟨a120, ha121⟩ : ∃ a', a' = a102.put (some 5) (iv 4) := ⟨_, rfl⟩
    have hs122 : a120.tmps.size = 31 := by rw [ha121, put_size]; exact hs106
    have hd123 : a120.defers = [] := by rw [ha121, put_defers]; exact hd107
    have h124 : a120.eval (.tmp 4) = pv q17 := by rw [ha121, put_ne _ _ _ _ (by decide)]; exact h108
    have h125 : a120.eval (.tmp 18) = .agg #[.bool false, sv none ([]) 0] := by rw [ha121, put_ne _ _ _ _ (by decide)]; exact h109
    have h126 : a120.eval (.tmp 5) = iv 4 := by rw [ha121]; exact put_same _ _ _ (by rw [hs106]; decide)
    show stepsTo _ _ _ _ _ (a102.put (some 5) (iv 4)) _
    rw [← ha121]
    clear ha121 hs106 hd107 h108 h109
    refine st_nil ?_
    clear h125
    refine hK101 _ _ ?_
    clear hK101 K101
    refine wp_ret (ret_k hd123 (v := .tuple #[.agg #[.bool false, sv none ([]) 0], iv 4]) (res_ct rfl h124 h126 (l_two Try.isAgg24 Try.sizeOf24 hb114)) ?_)
    have hs2 : (iv 4 : Value) = iv (zeroE (goodI b2 b)) := congrArg (Value.int .i64) (zeroE_yes ht99)
    have hz1 : (decide (remZ (goodI b1 a) (goodI b2 b) < 0)) = false := by rw [remZ_0 ht99]; rfl
    have hz2 : canon (remZ (goodI b1 a) (goodI b2 b)).natAbs = [] := by rw [remZ_0 ht99]; exact canon_zero
    exact ⟨none, 0, by rw [hz1, hz2, hs2], by rw [hz2]; exact (SRow.nil _ _), hN119⟩
  have ht99d := of_decide_eq_false ht99
  have hv127 : a83.eval (.tmp 17) = .bool false := h92.trans (congrArg Value.bool ht99)
  clear h92
  refine wp_cond_false hv127 ?_
  refine wp_skip ?_
  refine hK81 _ _ ?_
  clear hK81 K81
  refine wp_seq_k fun K128 hK128 => ?_
  refine wp_g0 [true, true, true, true, true, true, true, true, true, true] [] 31
    [ve (.pointer (some ⟨q43, 1, none⟩)),
     ve (sv A35 (canon (goodI b1 a).natAbs) cc36),
     ve (.pointer (some ⟨q47, 1, none⟩)),
     ve (sv A39 (canon (goodI b2 b).natAbs) cc40),
     (fun (v : Value) (W : World) => ∃ (A21 : Option Addr) (c22 : Nat) (A23 : Option Addr) (c24 : Nat), v = .tuple #[sv A21 (canon (val (canon (goodI b1 a).natAbs) / val (canon (goodI b2 b).natAbs))) c22, sv A23 (canon (val (canon (goodI b1 a).natAbs) % val (canon (goodI b2 b).natAbs))) c24] ∧ SOwn W w84.heap.size 50 .u32 A21 (canon (val (canon (goodI b1 a).natAbs) / val (canon (goodI b2 b).natAbs))) c22 ∧ SOwn W w84.heap.size 50 .u32 A23 (canon (val (canon (goodI b1 a).natAbs) % val (canon (goodI b2 b).natAbs))) c24),
     (fun (v : Value) (W : World) => ∃ (A32 : Option Addr) (c33 : Nat) (A34 : Option Addr) (c35 : Nat), v = .tuple #[sv A32 (canon (val (canon (goodI b1 a).natAbs) / val (canon (goodI b2 b).natAbs))) c33, sv A34 (canon (val (canon (goodI b1 a).natAbs) % val (canon (goodI b2 b).natAbs))) c35] ∧ SOwn W w84.heap.size 50 .u32 A32 (canon (val (canon (goodI b1 a).natAbs) / val (canon (goodI b2 b).natAbs))) c33 ∧ SOwn W w84.heap.size 50 .u32 A34 (canon (val (canon (goodI b1 a).natAbs) % val (canon (goodI b2 b).natAbs))) c35),
     (fun (v : Value) (W : World) => ∃ (A43 : Option Addr) (c44 : Nat), v = sv A43 (canon (val (canon (goodI b1 a).natAbs) / val (canon (goodI b2 b).natAbs))) c44 ∧ SOwn W w84.heap.size 50 .u32 A43 (canon (val (canon (goodI b1 a).natAbs) / val (canon (goodI b2 b).natAbs))) c44),
     (fun (v : Value) (W : World) => ∃ (A52 : Option Addr) (c53 : Nat), v = sv A52 (canon (val (canon (goodI b1 a).natAbs) % val (canon (goodI b2 b).natAbs))) c53 ∧ SOwn W w84.heap.size 50 .u32 A52 (canon (val (canon (goodI b1 a).natAbs) % val (canon (goodI b2 b).natAbs))) c53),
     (fun (v : Value) (W : World) => ∃ (A58 : Option Addr) (c59 : Nat), v = sv A58 (canon (val (canon (goodI b1 a).natAbs) / val (canon (goodI b2 b).natAbs))) c59 ∧ SOwn W w84.heap.size 50 .u32 A58 (canon (val (canon (goodI b1 a).natAbs) / val (canon (goodI b2 b).natAbs))) c59),
     (fun (v : Value) (W : World) => ∃ (A64 : Option Addr) (c65 : Nat), v = sv A64 (canon (val (canon (goodI b1 a).natAbs) % val (canon (goodI b2 b).natAbs))) c65 ∧ SOwn W w84.heap.size 50 .u32 A64 (canon (val (canon (goodI b1 a).natAbs) % val (canon (goodI b2 b).natAbs))) c65)] hs87 (.eq (.eq (.eq (.eq (.cons (fun v W W' hn ⟨A21, c22, A23, c24, he, h0, h1⟩ => ⟨A21, c22, A23, c24, he, h0.new_ hn, h1.new_ hn⟩) (.cons (fun v W W' hn ⟨A32, c33, A34, c35, he, h0, h1⟩ => ⟨A32, c33, A34, c35, he, h0.new_ hn, h1.new_ hn⟩) (.cons (fun v W W' hn ⟨A43, c44, he, h0⟩ => ⟨A43, c44, he, h0.new_ hn⟩) (.cons (fun v W W' hn ⟨A52, c53, he, h0⟩ => ⟨A52, c53, he, h0.new_ hn⟩) (.cons (fun v W W' hn ⟨A58, c59, he, h0⟩ => ⟨A58, c59, he, h0.new_ hn⟩) (.cons (fun v W W' hn ⟨A64, c65, he, h0⟩ => ⟨A64, c65, he, h0.new_ hn⟩) (.nil))))))))))) ?_ ?_
  · skip
    refine .o1 (tk rfl rfl fun _ w hn k => ⟨_, v_field rfl (k.fx 6 h90) (fun w => rfl), rfl⟩) ?_
    refine .o1 (tk rfl rfl fun _ w hn k => ⟨_, v_load rfl (k.eq1 0 20 rfl) (l_one Try.isAgg22 ((hb94.new_ hn).cell 1)), rfl⟩) ?_
    refine .o1 (tk rfl rfl fun _ w hn k => ⟨_, v_field rfl (k.fx 7 h91) (fun w => rfl), rfl⟩) ?_
    refine .o1 (tk rfl rfl fun _ w hn k => ⟨_, v_load rfl (k.eq1 2 22 rfl) (l_one Try.isAgg22 ((hb95.new_ hn).cell 1)), rfl⟩) ?_
    refine .o1 (tkC rfl (noG rfl) rfl fun _ w hn k => (by
          refine ⟨#[sv A35 (canon (goodI b1 a).natAbs) cc36, sv A39 (canon (goodI b2 b).natAbs) cc40], _, args2 (k.eq1 1 21 rfl) (k.eq1 3 23 rfl), fun w => by kernel_rfl, rdivide_all _ _ _ _ _ _ _ (hr96.new_ hn) (hr97.new_ hn) (limbs_canon _) (limbs_canon _) (by first | omega | (simp only [List.length_nil, List.length_cons, List.length_set, List.length_replicate]; omega)) (by first | omega | (simp only [List.length_nil, List.length_cons, List.length_set, List.length_replicate]; omega)) (nz_pos (by assumption)), ?_⟩
          rintro e w' ⟨A17, c18, A19, c20, rfl, hmo, hmp, hm⟩
          exact ⟨_, rfl, hm, ⟨A17, c18, A19, c20, rfl, (hmo.more hn.size), (hmp.more hn.size)⟩⟩)) ?_
    refine .o1 (tk rfl rfl fun _ w hn k => (by
          obtain ⟨A25, c26, A27, c28, e29, hx30, hx31⟩ : (fun (v : Value) (W : World) => ∃ (A21 : Option Addr) (c22 : Nat) (A23 : Option Addr) (c24 : Nat), v = .tuple #[sv A21 (canon (val (canon (goodI b1 a).natAbs) / val (canon (goodI b2 b).natAbs))) c22, sv A23 (canon (val (canon (goodI b1 a).natAbs) % val (canon (goodI b2 b).natAbs))) c24] ∧ SOwn W w84.heap.size 50 .u32 A21 (canon (val (canon (goodI b1 a).natAbs) / val (canon (goodI b2 b).natAbs))) c22 ∧ SOwn W w84.heap.size 50 .u32 A23 (canon (val (canon (goodI b1 a).natAbs) % val (canon (goodI b2 b).natAbs))) c24) _ _ := k.dep 4 24 (by kernel_rfl) (by kernel_rfl)
          exact ⟨_, v_move rfl e29, ⟨A25, c26, A27, c28, rfl, hx30, hx31⟩⟩)) ?_
    refine .o1 (tk rfl rfl fun _ w hn k => (by
          obtain ⟨A36, c37, A38, c39, e40, hx41, hx42⟩ : (fun (v : Value) (W : World) => ∃ (A32 : Option Addr) (c33 : Nat) (A34 : Option Addr) (c35 : Nat), v = .tuple #[sv A32 (canon (val (canon (goodI b1 a).natAbs) / val (canon (goodI b2 b).natAbs))) c33, sv A34 (canon (val (canon (goodI b1 a).natAbs) % val (canon (goodI b2 b).natAbs))) c35] ∧ SOwn W w84.heap.size 50 .u32 A32 (canon (val (canon (goodI b1 a).natAbs) / val (canon (goodI b2 b).natAbs))) c33 ∧ SOwn W w84.heap.size 50 .u32 A34 (canon (val (canon (goodI b1 a).natAbs) % val (canon (goodI b2 b).natAbs))) c35) _ _ := k.dep 5 19 (by kernel_rfl) (by kernel_rfl)
          exact ⟨_, v_extract rfl e40 rfl, ⟨A36, c37, rfl, hx41⟩⟩)) ?_
    refine .o1 (tk rfl rfl fun _ w hn k => (by
          obtain ⟨A45, c46, A47, c48, e49, hx50, hx51⟩ : (fun (v : Value) (W : World) => ∃ (A32 : Option Addr) (c33 : Nat) (A34 : Option Addr) (c35 : Nat), v = .tuple #[sv A32 (canon (val (canon (goodI b1 a).natAbs) / val (canon (goodI b2 b).natAbs))) c33, sv A34 (canon (val (canon (goodI b1 a).natAbs) % val (canon (goodI b2 b).natAbs))) c35] ∧ SOwn W w84.heap.size 50 .u32 A32 (canon (val (canon (goodI b1 a).natAbs) / val (canon (goodI b2 b).natAbs))) c33 ∧ SOwn W w84.heap.size 50 .u32 A34 (canon (val (canon (goodI b1 a).natAbs) % val (canon (goodI b2 b).natAbs))) c35) _ _ := k.dep 5 19 (by kernel_rfl) (by kernel_rfl)
          exact ⟨_, v_extract rfl e49 rfl, ⟨A47, c48, rfl, hx51⟩⟩)) ?_
    refine .o1 (tk rfl rfl fun _ w hn k => (by
          obtain ⟨A54, c55, e56, hx57⟩ : (fun (v : Value) (W : World) => ∃ (A43 : Option Addr) (c44 : Nat), v = sv A43 (canon (val (canon (goodI b1 a).natAbs) / val (canon (goodI b2 b).natAbs))) c44 ∧ SOwn W w84.heap.size 50 .u32 A43 (canon (val (canon (goodI b1 a).natAbs) / val (canon (goodI b2 b).natAbs))) c44) _ _ := k.dep 6 25 (by kernel_rfl) (by kernel_rfl)
          exact ⟨_, v_assign rfl e56, ⟨A54, c55, rfl, hx57⟩⟩)) ?_
    refine .o1 (tk rfl rfl fun _ w hn k => (by
          obtain ⟨A60, c61, e62, hx63⟩ : (fun (v : Value) (W : World) => ∃ (A52 : Option Addr) (c53 : Nat), v = sv A52 (canon (val (canon (goodI b1 a).natAbs) % val (canon (goodI b2 b).natAbs))) c53 ∧ SOwn W w84.heap.size 50 .u32 A52 (canon (val (canon (goodI b1 a).natAbs) % val (canon (goodI b2 b).natAbs))) c53) _ _ := k.dep 7 26 (by kernel_rfl) (by kernel_rfl)
          exact ⟨_, v_assign rfl e62, ⟨A60, c61, rfl, hx63⟩⟩)) ?_
    exact .nil
  intro a129 w130 hn131 ha132
  have hs133 := ha132.size.trans hs87
  have hd134 := ha132.defers.trans hd88
  have h135 := ha132.fx 4 h89
  have h136 := ha132.fx 6 h90
  obtain ⟨A138, cc139, h137, hr140⟩ : (fun (v : Value) (W : World) => ∃ (A64 : Option Addr) (c65 : Nat), v = sv A64 (canon (val (canon (goodI b1 a).natAbs) % val (canon (goodI b2 b).natAbs))) c65 ∧ SOwn W w84.heap.size 50 .u32 A64 (canon (val (canon (goodI b1 a).natAbs) % val (canon (goodI b2 b).natAbs))) c65) _ _ := ha132.got 9 9 rfl (by kernel_rfl)
  have h137 : a129.eval (.tmp 9) = sv A138 (canon (val (canon (goodI b1 a).natAbs) % val (canon (goodI b2 b).natAbs))) cc139 := h137
  have hb141 := hb93.new_ hn131
  have hb142 := hb94.new_ hn131
  have hr143 := hr96.new_ hn131
  have hr144 := hr140.more hN98.size
  have hN145 := hN98.transNew hn131
  clear hs87 hd88 h89 h90 h91 hv127 hb93 hb94 hb95 hq55 hr96 hr97 hr140 hN98 ha132 hn131
  refine st_nil ?_
  refine hK128 _ _ ?_
  clear hK128 K128
  refine wp_seq_k fun K146 hK146 => ?_
  refine wp_g0 [true, true, true, true, false, false] [(4, false), (5, true)] 31
    [ve (pv q43),
     ve (.bool (decide (goodI b1 a < 0))),
     ve (sv A138 (canon (val (canon (goodI b1 a).natAbs) % val (canon (goodI b2 b).natAbs))) cc139),
     (fun (v : Value) (W : World) => ∃ (A68 : Option Addr) (c69 : Nat), v = .agg #[.bool (decide (sgn (decide (goodI b1 a < 0)) (val (canon (val (canon (goodI b1 a).natAbs) % val (canon (goodI b2 b).natAbs)))) < 0)), sv A68 (canon (sgn (decide (goodI b1 a < 0)) (val (canon (val (canon (goodI b1 a).natAbs) % val (canon (goodI b2 b).natAbs))))).natAbs) c69] ∧ SRow W .u32 A68 (canon (sgn (decide (goodI b1 a < 0)) (val (canon (val (canon (goodI b1 a).natAbs) % val (canon (goodI b2 b).natAbs))))).natAbs) c69),
     vt,
     vt] hs133 (.eq (.eq (.eq (.cons (fun v W W' hn ⟨A68, c69, he, h0⟩ => ⟨A68, c69, he, h0.new_ hn⟩) (.tt (.tt (.nil))))))) ?_ ?_
  · skip
    refine .o1 (tk rfl rfl fun _ w hn k => ⟨_, v_field rfl (k.fx 6 h136) (fun w => rfl), rfl⟩) ?_
    refine .o1 (tk rfl rfl fun _ w hn k => ⟨_, v_load rfl (k.eq1 0 27 rfl) (l_one Try.isAgg4 ((hb142.new_ hn).cell 0)), rfl⟩) ?_
    refine .o1 (tk rfl rfl fun _ w hn k => ⟨_, v_move rfl (k.fx 9 h137), rfl⟩) ?_
    refine .o1 (tkC rfl (noG rfl) rfl fun _ w hn k => (by
          refine ⟨#[.bool (decide (goodI b1 a < 0)), sv A138 (canon (val (canon (goodI b1 a).natAbs) % val (canon (goodI b2 b).natAbs))) cc139], _, args2 (k.eq1 1 28 rfl) (k.eq1 2 29 rfl), fun w => by kernel_rfl, rmade_c _ _ _ _ _ (hr144.new_ hn).row (limbs_canon _) (by first | omega | (simp only [List.length_nil, List.length_cons, List.length_set, List.length_replicate]; omega)), ?_⟩
          rintro e w' ⟨A66, c67, rfl, hmo, hm⟩
          exact ⟨_, rfl, hm, ⟨A66, c67, rfl, hmo⟩⟩)) ?_
    refine .off ?_
    refine .off ?_
    exact .nil
  intro a147 w148 hn149 ha150
  have hs151 := ha150.size.trans hs133
  have hd152 := ha150.defers.trans hd134
  have h153 := ha150.fx 4 h135
  obtain ⟨A155, cc156, h154, hr157⟩ : (fun (v : Value) (W : World) => ∃ (A68 : Option Addr) (c69 : Nat), v = .agg #[.bool (decide (sgn (decide (goodI b1 a < 0)) (val (canon (val (canon (goodI b1 a).natAbs) % val (canon (goodI b2 b).natAbs)))) < 0)), sv A68 (canon (sgn (decide (goodI b1 a < 0)) (val (canon (val (canon (goodI b1 a).natAbs) % val (canon (goodI b2 b).natAbs))))).natAbs) c69] ∧ SRow W .u32 A68 (canon (sgn (decide (goodI b1 a < 0)) (val (canon (val (canon (goodI b1 a).natAbs) % val (canon (goodI b2 b).natAbs))))).natAbs) c69) _ _ := ha150.got 3 30 rfl (by kernel_rfl)
  have h154 : a147.eval (.tmp 30) = .agg #[.bool (decide (sgn (decide (goodI b1 a < 0)) (val (canon (val (canon (goodI b1 a).natAbs) % val (canon (goodI b2 b).natAbs)))) < 0)), sv A155 (canon (sgn (decide (goodI b1 a < 0)) (val (canon (val (canon (goodI b1 a).natAbs) % val (canon (goodI b2 b).natAbs))))).natAbs) cc156] := h154
  have hb158 := hb141.new_ hn149
  have hN159 := hN145.transNew hn149
  clear hs133 hd134 h135 h136 h137 hb141 hb142 hq54 hr143 hr144 hN145 ha150 hn149
  obtain ⟨w160, -, hst161, hb162, hu163, hf164⟩ := s_two (v0 := .bool (decide (sgn (decide (goodI b1 a < 0)) (val (canon (val (canon (goodI b1 a).natAbs) % val (canon (goodI b2 b).natAbs)))) < 0))) (v1 := sv A155 (canon (sgn (decide (goodI b1 a < 0)) (val (canon (val (canon (goodI b1 a).natAbs) % val (canon (goodI b2 b).natAbs))))).natAbs) cc156) Try.sizeOf24 rfl rfl rfl hb158
  refine st_act rfl rfl fun K165 hL166 => a_store' rfl h153 h154 hst161 (hL166 _ _ trivial ?_)
  have hr167 := hr157.far hb158 hu163 (by first | rfl | decide | simp [notK])
  have hN168 := hN159.trans hu163 (fun k hk hkb => by subst hkb; omega)
  clear hb158 hst161 K165 hL166 hN159 hr157 hu163 hf164
  refine st_take rfl rfl (y_assign (v := iv 0) rfl rfl) rfl ?_
  obtain ⟨a169, ha170⟩ : ∃ a', a' = a147.put (some 5) (iv 0) := ⟨_, rfl⟩
  have hs171 : a169.tmps.size = 31 := by rw [ha170, put_size]; exact hs151
  have hd172 : a169.defers = [] := by rw [ha170, put_defers]; exact hd152
  have h173 : a169.eval (.tmp 4) = pv q17 := by rw [ha170, put_ne _ _ _ _ (by decide)]; exact h153
  have h174 : a169.eval (.tmp 30) = .agg #[.bool (decide (sgn (decide (goodI b1 a < 0)) (val (canon (val (canon (goodI b1 a).natAbs) % val (canon (goodI b2 b).natAbs)))) < 0)), sv A155 (canon (sgn (decide (goodI b1 a < 0)) (val (canon (val (canon (goodI b1 a).natAbs) % val (canon (goodI b2 b).natAbs))))).natAbs) cc156] := by rw [ha170, put_ne _ _ _ _ (by decide)]; exact h154
  have h175 : a169.eval (.tmp 5) = iv 0 := by rw [ha170]; exact put_same _ _ _ (by rw [hs151]; decide)
  show stepsTo _ _ _ _ _ (a147.put (some 5) (iv 0)) _
  rw [← ha170]
  clear ha170 hs151 hd152 h153 h154
  refine st_nil ?_
  clear h174
  refine hK146 _ _ ?_
  clear hK146 K146
  refine wp_ret (ret_k hd172 (v := .tuple #[.agg #[.bool (decide (sgn (decide (goodI b1 a < 0)) (val (canon (val (canon (goodI b1 a).natAbs) % val (canon (goodI b2 b).natAbs)))) < 0)), sv A155 (canon (sgn (decide (goodI b1 a < 0)) (val (canon (val (canon (goodI b1 a).natAbs) % val (canon (goodI b2 b).natAbs))))).natAbs) cc156], iv 0]) (res_ct rfl h173 h175 (l_two Try.isAgg24 Try.sizeOf24 hb162)) ?_)
  have hs2 : (iv 0 : Value) = iv (zeroE (goodI b2 b)) := congrArg (Value.int .i64) (zeroE_no ht99)
  have hz1 : sgn (decide (goodI b1 a < 0)) (val (canon (val (canon (goodI b1 a).natAbs) % val (canon (goodI b2 b).natAbs)))) = remZ (goodI b1 a) (goodI b2 b) := remZ_sgn (d := _) rfl ht99
  exact ⟨A155, cc156, (congrArg (fun z : Int => Ending.returned (Value.tuple #[.agg #[.bool (decide (z < 0)), sv A155 (canon z.natAbs) cc156], iv 0])) hz1).trans (congrArg (fun y => Ending.returned (Value.tuple #[.agg #[.bool (decide (remZ (goodI b1 a) (goodI b2 b) < 0)), sv A155 (canon (remZ (goodI b1 a) (goodI b2 b)).natAbs) cc156], y])) hs2), Eq.mp (congrArg (fun z : Int => SRow _ .u32 A155 (canon z.natAbs) cc156) hz1) hr167, hN168⟩
set_option maxHeartbeats 4000000 in
set_option maxRecDepth 100000 in
theorem rcmpz_c (b1 : Bool) (A : Option Addr) (a : List Nat) (c : Nat) (b2 : Bool) (B : Option Addr) (b : List Nat) (d : Nat) (w : World) (hra : SRow w .u32 A a c) (ha : Limbs a) (hrb : SRow w .u32 B b d) (hb : Limbs b) : Calls Try.prog 45 #[.agg #[.bool b1, sv A a c], .agg #[.bool b2, sv B b d]] w (IsRet (.int .i64 (cmpZ (goodI b1 a) (goodI b2 b))) w) := by
  refine enter_abs Try.func45 rfl fun a0 hs0 hd0 hp => ?_
  have hs0 : a0.tmps.size = 40 := hs0
  have hN0 : New w w := Upd.refl _ _
  have hp0 : a0.eval (.tmp 0) = .agg #[.bool b1, sv A a c] := hp 0 _ rfl
  have hp1 : a0.eval (.tmp 1) = .agg #[.bool b2, sv B b d] := hp 1 _ rfl
  clear hp
  have h8x := (canon_len8 _).2 (good_lt (b := b1) ha)
  have h8y := (canon_len8 _).2 (good_lt (b := b2) hb)
  refine wp_seq_k fun K1 hK1 => ?_
  refine wp_g [true, true, true] [] [] 40
    [IsNew w 24 [.bool b1, sv A a c],
     IsNew w 24 [.bool b2, sv B b d],
     ve (iv 0)]
    [0, 1] (newsCons (fun v w h => IsNew.old h) (newsCons (fun v w h => IsNew.old h) newsNil)) hs0 (.nw (.nw (.eq (.nil)))) ?_ (fun i h => by cases h) ?_
  · skip
    refine .o2 (step_allocN (cs := [.bool b1, sv A a c]) (t := 24) rfl (noG rfl) (fun _ w hn k => v_box rfl (k.fx 0 hp0) (fun w => rfl)) (fun q _ hq hb => ⟨q, rfl, hq, hb⟩)) ?_
    refine .o2 (step_allocN (cs := [.bool b2, sv B b d]) (t := 24) rfl (noG rfl) (fun _ w hn k => v_box rfl (k.fx 1 hp1) (fun w => rfl)) (fun q _ hq hb => ⟨q, rfl, hq, hb⟩)) ?_
    refine .o1 (tk rfl rfl fun _ w hn k => ⟨_, v_assign rfl rfl, rfl⟩) ?_
    exact .nil
  intro a2 w3 hn4 ha5
  have hs6 := ha5.size.trans hs0
  have hd7 := ha5.defers.trans hd0
  obtain ⟨q9, h8, hq10, hb11⟩ : IsNew _ _ _ _ _ := ha5.got 0 2 rfl (by kernel_rfl)
  obtain ⟨q13, h12, hq14, hb15⟩ : IsNew _ _ _ _ _ := ha5.got 1 3 rfl (by kernel_rfl)
  have hq16 := Nat.le_trans hN0.size hq10
  have hq17 := Nat.le_trans hN0.size hq14
  have hN18 := hN0.transNew hn4
  clear hs0 hd0 hp0 hp1 hq10 hq14 hN0 ha5 hn4
  refine st_nil ?_
  refine hK1 _ _ ?_
  clear hK1 K1
  refine wp_seq_k fun K19 hK19 => ?_
  refine wp_g [true, true, true, true, true, true, false, false] [] [(6, false), (7, false)] 40
    [ve (.agg #[.bool b1, sv A a c]),
     (fun (v : Value) (W : World) => ∃ (A3 : Option Addr) (c4 : Nat), v = .agg #[.bool (decide (goodI b1 a < 0)), sv A3 (canon (goodI b1 a).natAbs) c4] ∧ SRow W .u32 A3 (canon (goodI b1 a).natAbs) c4),
     ve (.agg #[.bool b2, sv B b d]),
     (fun (v : Value) (W : World) => ∃ (A7 : Option Addr) (c8 : Nat), v = .agg #[.bool (decide (goodI b2 b < 0)), sv A7 (canon (goodI b2 b).natAbs) c8] ∧ SRow W .u32 A7 (canon (goodI b2 b).natAbs) c8),
     IsNew w3 24 [.bool false, sv none ([]) 0],
     IsNew w3 24 [.bool false, sv none ([]) 0],
     vt,
     vt]
    [4, 5] (newsCons (fun v w h => IsNew.old h) (newsCons (fun v w h => IsNew.old h) newsNil)) hs6 (.eq (.cons (fun v W W' hn ⟨A3, c4, he, h0⟩ => ⟨A3, c4, he, h0.new_ hn⟩) (.eq (.cons (fun v W W' hn ⟨A7, c8, he, h0⟩ => ⟨A7, c8, he, h0.new_ hn⟩) (.nw (.nw (.tt (.tt (.nil))))))))) ?_ (fun i h => by cases h) ?_
  · skip
    refine .o1 (tk rfl rfl fun _ w hn k => ⟨_, v_load rfl (k.fx 2 h8) (l_two Try.isAgg24 Try.sizeOf24 (hb11.new_ hn)), rfl⟩) ?_
    refine .o1 (tkC rfl (noG rfl) rfl fun _ w hn k => (by
          refine ⟨#[.agg #[.bool b1, sv A a c]], _, args1 (k.eq1 0 7 rfl), fun w => by kernel_rfl, rgood_c _ _ _ _ _ (hra.new_ (hN18.transNew hn)) ha, ?_⟩
          rintro e w' ⟨A1, c2, rfl, hmo, hm⟩
          exact ⟨_, rfl, hm, ⟨A1, c2, rfl, hmo⟩⟩)) ?_
    refine .o1 (tk rfl rfl fun _ w hn k => ⟨_, v_load rfl (k.fx 3 h12) (l_two Try.isAgg24 Try.sizeOf24 (hb15.new_ hn)), rfl⟩) ?_
    refine .o1 (tkC rfl (noG rfl) rfl fun _ w hn k => (by
          refine ⟨#[.agg #[.bool b2, sv B b d]], _, args1 (k.eq1 2 9 rfl), fun w => by kernel_rfl, rgood_c _ _ _ _ _ (hrb.new_ (hN18.transNew hn)) hb, ?_⟩
          rintro e w' ⟨A5, c6, rfl, hmo, hm⟩
          exact ⟨_, rfl, hm, ⟨A5, c6, rfl, hmo⟩⟩)) ?_
    refine .o2 (step_allocN (cs := [.bool false, sv none ([]) 0]) (t := 24) rfl (noG rfl) (fun _ w hn k => rfl) (fun q _ hq hb => ⟨q, rfl, hq, hb⟩)) ?_
    refine .o2 (step_allocN (cs := [.bool false, sv none ([]) 0]) (t := 24) rfl (noG rfl) (fun _ w hn k => rfl) (fun q _ hq hb => ⟨q, rfl, hq, hb⟩)) ?_
    refine .off ?_
    refine .off ?_
    exact .nil
  intro a20 w21 hn22 ha23
  have hs24 := ha23.size.trans hs6
  have hd25 := ha23.defers.trans hd7
  obtain ⟨A27, cc28, h26, hr29⟩ : (fun (v : Value) (W : World) => ∃ (A3 : Option Addr) (c4 : Nat), v = .agg #[.bool (decide (goodI b1 a < 0)), sv A3 (canon (goodI b1 a).natAbs) c4] ∧ SRow W .u32 A3 (canon (goodI b1 a).natAbs) c4) _ _ := ha23.got 1 8 rfl (by kernel_rfl)
  have h26 : a20.eval (.tmp 8) = .agg #[.bool (decide (goodI b1 a < 0)), sv A27 (canon (goodI b1 a).natAbs) cc28] := h26
  obtain ⟨A31, cc32, h30, hr33⟩ : (fun (v : Value) (W : World) => ∃ (A7 : Option Addr) (c8 : Nat), v = .agg #[.bool (decide (goodI b2 b < 0)), sv A7 (canon (goodI b2 b).natAbs) c8] ∧ SRow W .u32 A7 (canon (goodI b2 b).natAbs) c8) _ _ := ha23.got 3 10 rfl (by kernel_rfl)
  have h30 : a20.eval (.tmp 10) = .agg #[.bool (decide (goodI b2 b < 0)), sv A31 (canon (goodI b2 b).natAbs) cc32] := h30
  obtain ⟨q35, h34, hq36, hb37⟩ : IsNew _ _ _ _ _ := ha23.got 4 5 rfl (by kernel_rfl)
  obtain ⟨q39, h38, hq40, hb41⟩ : IsNew _ _ _ _ _ := ha23.got 5 6 rfl (by kernel_rfl)
  have hne42 : q35 ≠ q39 := ha23.ne 4 5 5 6 h34 h38
  have hq43 := Nat.le_trans hN18.size hq36
  have hq44 := Nat.le_trans hN18.size hq40
  have hN45 := hN18.transNew hn22
  clear hs6 hd7 h8 h12 hb11 hq16 hb15 hq17 hq36 hq40 hN18 ha23 hn22
  obtain ⟨w46, -, hst47, hb48, hu49, hf50⟩ := s_two (v0 := .bool (decide (goodI b1 a < 0))) (v1 := sv A27 (canon (goodI b1 a).natAbs) cc28) Try.sizeOf24 rfl rfl rfl hb37
  refine st_act rfl rfl fun K51 hL52 => a_store' rfl h34 h26 hst47 (hL52 _ _ trivial ?_)
  have hr53 := hr29.far hb37 hu49 (by first | rfl | decide | simp [notK])
  have hr54 := hr33.far hb37 hu49 (by first | rfl | decide | simp [notK])
  have hb55 := hf50 _ _ _ (fun h => hne42 h.symm) hb41
  have hN56 := hN45.trans hu49 (fun k hk hkb => by subst hkb; omega)
  clear hb37 hst47 K51 hL52 hN45 hr29 hr33 hb41 hu49 hf50
  obtain ⟨w57, -, hst58, hb59, hu60, hf61⟩ := s_two (v0 := .bool (decide (goodI b2 b < 0))) (v1 := sv A31 (canon (goodI b2 b).natAbs) cc32) Try.sizeOf24 rfl rfl rfl hb55
  refine st_act rfl rfl fun K62 hL63 => a_store' rfl h38 h30 hst58 (hL63 _ _ trivial ?_)
  have hr64 := hr53.far hb55 hu60 (by first | rfl | decide | simp [notK])
  have hr65 := hr54.far hb55 hu60 (by first | rfl | decide | simp [notK])
  have hb66 := hf61 _ _ _ (hne42) hb48
  have hN67 := hN56.trans hu60 (fun k hk hkb => by subst hkb; omega)
  clear hb55 hst58 K62 hL63 hN56 hr53 hr54 hb48 hu60 hf61
  clear hne42
  refine st_nil ?_
  clear h26 h30
  refine hK19 _ _ ?_
  clear hK19 K19
  refine wp_seq_k fun K68 hK68 => ?_
  refine wp_block ?_
  refine wp_seq_k fun K69 hK69 => ?_
  rcases Bool.eq_false_or_eq_true (decide (goodI b1 a < 0)) with ht70 | ht70
  · skip
    have ht70d := of_decide_eq_true ht70
    rcases Bool.eq_false_or_eq_true (decide (goodI b2 b < 0)) with ht71 | ht71
    · skip
      have ht71d := of_decide_eq_true ht71
      refine wp_g0 [true, true, true, true, true, true, true, true] [] 40
        [ve (pv q35),
         ve (.bool true),
         ve (.bool true),
         ve (pv q39),
         ve (.bool true),
         ve (.bool false),
         ve (.bool false),
         ve (.bool false)] hs24 (.eq (.eq (.eq (.eq (.eq (.eq (.eq (.eq (.nil))))))))) ?_ ?_
      · skip
        refine .o1 (tk rfl rfl fun _ w hn k => ⟨_, v_field rfl (k.fx 5 h34) (fun w => rfl), rfl⟩) ?_
        refine .o1 (tk rfl rfl fun _ w hn k => ⟨_, v_load rfl (k.eq1 0 12 rfl) (l_one Try.isAgg4 ((hb66.new_ hn).cell 0)), congrArg Value.bool ht70⟩) ?_
        refine .o1 (tk rfl rfl fun _ w hn k => ⟨_, v_move rfl (k.eq1 1 13 rfl), rfl⟩) ?_
        refine .o1 (tg rfl rfl rfl (fun _ _ k => k.eq1 2 14 rfl) fun _ w hn k => ⟨_, v_field rfl (k.fx 6 h38) (fun w => rfl), rfl⟩) ?_
        refine .o1 (tg rfl rfl rfl (fun _ _ k => k.eq1 2 14 rfl) fun _ w hn k => ⟨_, v_load rfl (k.eq1 3 15 rfl) (l_one Try.isAgg4 ((hb59.new_ hn).cell 0)), congrArg Value.bool ht71⟩) ?_
        refine .o1 (tg rfl rfl rfl (fun _ _ k => k.eq1 2 14 rfl) fun _ w hn k => ⟨_, v_not rfl (k.eq1 4 16 rfl), rfl⟩) ?_
        refine .o1 (tk rfl rfl fun _ w hn k => ⟨_, v_pickT rfl (k.eq1 2 14 rfl) (k.eq1 5 17 rfl), rfl⟩) ?_
        refine .o1 (tk rfl rfl fun _ w hn k => ⟨_, v_assign rfl (k.eq1 6 18 rfl), rfl⟩) ?_
        exact .nil
      intro a72 w73 hn74 ha75
      have hs76 := ha75.size.trans hs24
      have hd77 := ha75.defers.trans hd25
      have h78 := ha75.fx 5 h34
      have h79 := ha75.fx 6 h38
      have h80 := ha75.ge 7 11 rfl
      have hb81 := hb66.new_ hn74
      have hb82 := hb59.new_ hn74
      have hr83 := hr64.new_ hn74
      have hr84 := hr65.new_ hn74
      have hN85 := hN67.transNew hn74
      clear hs24 hd25 h34 h38 hb66 hb59 hr64 hr65 hN67 ha75 hn74
      refine st_nil ?_
      refine hK69 _ _ ?_
      clear hK69 K69
      refine wp_cond_false h80 ?_
      refine wp_seq_k fun K86 hK86 => ?_
      refine wp_g0 [true, true, true, true, true, true, true, true] [] 40
        [ve (pv q39),
         ve (.bool true),
         ve (.bool true),
         ve (pv q35),
         ve (.bool true),
         ve (.bool false),
         ve (.bool false),
         ve (.bool false)] hs76 (.eq (.eq (.eq (.eq (.eq (.eq (.eq (.eq (.nil))))))))) ?_ ?_
      · skip
        refine .o1 (tk rfl rfl fun _ w hn k => ⟨_, v_field rfl (k.fx 6 h79) (fun w => rfl), rfl⟩) ?_
        refine .o1 (tk rfl rfl fun _ w hn k => ⟨_, v_load rfl (k.eq1 0 20 rfl) (l_one Try.isAgg4 ((hb82.new_ hn).cell 0)), congrArg Value.bool ht71⟩) ?_
        refine .o1 (tk rfl rfl fun _ w hn k => ⟨_, v_move rfl (k.eq1 1 21 rfl), rfl⟩) ?_
        refine .o1 (tg rfl rfl rfl (fun _ _ k => k.eq1 2 22 rfl) fun _ w hn k => ⟨_, v_field rfl (k.fx 5 h78) (fun w => rfl), rfl⟩) ?_
        refine .o1 (tg rfl rfl rfl (fun _ _ k => k.eq1 2 22 rfl) fun _ w hn k => ⟨_, v_load rfl (k.eq1 3 23 rfl) (l_one Try.isAgg4 ((hb81.new_ hn).cell 0)), congrArg Value.bool ht70⟩) ?_
        refine .o1 (tg rfl rfl rfl (fun _ _ k => k.eq1 2 22 rfl) fun _ w hn k => ⟨_, v_not rfl (k.eq1 4 24 rfl), rfl⟩) ?_
        refine .o1 (tk rfl rfl fun _ w hn k => ⟨_, v_pickT rfl (k.eq1 2 22 rfl) (k.eq1 5 25 rfl), rfl⟩) ?_
        refine .o1 (tk rfl rfl fun _ w hn k => ⟨_, v_assign rfl (k.eq1 6 26 rfl), rfl⟩) ?_
        exact .nil
      intro a87 w88 hn89 ha90
      have hs91 := ha90.size.trans hs76
      have hd92 := ha90.defers.trans hd77
      have h93 := ha90.fx 5 h78
      have h94 := ha90.fx 6 h79
      have h95 := ha90.ge 7 19 rfl
      have hb96 := hb81.new_ hn89
      have hb97 := hb82.new_ hn89
      have hr98 := hr83.new_ hn89
      have hr99 := hr84.new_ hn89
      have hN100 := hN85.transNew hn89
      clear hs76 hd77 h78 h79 h80 hb81 hb82 hr83 hr84 hN85 ha90 hn89
      refine st_nil ?_
      refine hK86 _ _ ?_
      clear hK86 K86
      refine wp_cond_false h95 ?_
      refine wp_seq_k fun K101 hK101 => ?_
      refine wp_g0 [true, true, true] [] 40
        [ve (pv q35),
         ve (.bool true),
         ve (.bool true)] hs91 (.eq (.eq (.eq (.nil)))) ?_ ?_
      · skip
        refine .o1 (tk rfl rfl fun _ w hn k => ⟨_, v_field rfl (k.fx 5 h93) (fun w => rfl), rfl⟩) ?_
        refine .o1 (tk rfl rfl fun _ w hn k => ⟨_, v_load rfl (k.eq1 0 28 rfl) (l_one Try.isAgg4 ((hb96.new_ hn).cell 0)), congrArg Value.bool ht70⟩) ?_
        refine .o1 (tk rfl rfl fun _ w hn k => ⟨_, v_assign rfl (k.eq1 1 29 rfl), rfl⟩) ?_
        exact .nil
      intro a102 w103 hn104 ha105
      have hs106 := ha105.size.trans hs91
      have hd107 := ha105.defers.trans hd92
      have h108 := ha105.fx 5 h93
      have h109 := ha105.fx 6 h94
      have h110 := ha105.ge 2 27 rfl
      have hb111 := hb96.new_ hn104
      have hb112 := hb97.new_ hn104
      have hr113 := hr98.new_ hn104
      have hr114 := hr99.new_ hn104
      have hN115 := hN100.transNew hn104
      clear hs91 hd92 h93 h94 h95 hb96 hb97 hr98 hr99 hN100 ha105 hn104
      refine st_nil ?_
      refine hK101 _ _ ?_
      clear hK101 K101
      refine wp_cond_true h110 ?_
      refine wp_seq_k fun K116 hK116 => ?_
      refine wp_g0 [true, true, true, true, true, true] [] 40
        [ve (.pointer (some ⟨q39, 1, none⟩)),
         ve (sv A31 (canon (goodI b2 b).natAbs) cc32),
         ve (.pointer (some ⟨q35, 1, none⟩)),
         ve (sv A27 (canon (goodI b1 a).natAbs) cc28),
         ve (iv (cmpN (val (canon (goodI b2 b).natAbs)) (val (canon (goodI b1 a).natAbs)))),
         ve (iv (cmpN (val (canon (goodI b2 b).natAbs)) (val (canon (goodI b1 a).natAbs))))] hs106 (.eq (.eq (.eq (.eq (.eq (.eq (.nil))))))) ?_ ?_
      · skip
        refine .o1 (tk rfl rfl fun _ w hn k => ⟨_, v_field rfl (k.fx 6 h109) (fun w => rfl), rfl⟩) ?_
        refine .o1 (tk rfl rfl fun _ w hn k => ⟨_, v_load rfl (k.eq1 0 30 rfl) (l_one Try.isAgg22 ((hb112.new_ hn).cell 1)), rfl⟩) ?_
        refine .o1 (tk rfl rfl fun _ w hn k => ⟨_, v_field rfl (k.fx 5 h108) (fun w => rfl), rfl⟩) ?_
        refine .o1 (tk rfl rfl fun _ w hn k => ⟨_, v_load rfl (k.eq1 2 32 rfl) (l_one Try.isAgg22 ((hb111.new_ hn).cell 1)), rfl⟩) ?_
        refine .o1 (ck rfl rfl rfl (fun _ w hn k => ⟨#[sv A31 (canon (goodI b2 b).natAbs) cc32, sv A27 (canon (goodI b1 a).natAbs) cc28], args2 (k.eq1 1 31 rfl) (k.eq1 3 33 rfl), fun _ => by kernel_rfl, rcmp_c _ _ _ _ _ _ _ (hr114.new_ hn) (hr113.new_ hn) (limbs_canon _) (limbs_canon _) (by first | omega | (simp only [List.length_nil, List.length_cons, List.length_set, List.length_replicate]; omega)) (by first | omega | (simp only [List.length_nil, List.length_cons, List.length_set, List.length_replicate]; omega))⟩) fun _ => rfl) ?_
        refine .o1 (tk rfl rfl fun _ w hn k => ⟨_, v_assign rfl (k.eq1 4 34 rfl), rfl⟩) ?_
        exact .nil
      intro a117 w118 hn119 ha120
      have hs121 := ha120.size.trans hs106
      have hd122 := ha120.defers.trans hd107
      have h123 := ha120.ge 5 4 rfl
      have hN124 := hN115.transNew hn119
      clear hs106 hd107 h108 h109 h110 hb111 hq43 hb112 hq44 hr113 hr114 hN115 ha120 hn119
      refine st_nil ?_
      refine hK116 _ _ ?_
      clear hK116 K116
      refine wp_ret (ret_k hd122 (v := iv (cmpN (val (canon (goodI b2 b).natAbs)) (val (canon (goodI b1 a).natAbs)))) (res_t rfl h123 _) ?_)
      exact ⟨congrArg (fun z => Ending.returned (iv z)) (cmpZ_nn1 ht70 ht71), hN124⟩
    have ht71d := of_decide_eq_false ht71
    refine wp_g0 [true, true, true, true, true, true, true, true] [] 40
      [ve (pv q35),
       ve (.bool true),
       ve (.bool true),
       ve (pv q39),
       ve (.bool false),
       ve (.bool true),
       ve (.bool true),
       ve (.bool true)] hs24 (.eq (.eq (.eq (.eq (.eq (.eq (.eq (.eq (.nil))))))))) ?_ ?_
    · skip
      refine .o1 (tk rfl rfl fun _ w hn k => ⟨_, v_field rfl (k.fx 5 h34) (fun w => rfl), rfl⟩) ?_
      refine .o1 (tk rfl rfl fun _ w hn k => ⟨_, v_load rfl (k.eq1 0 12 rfl) (l_one Try.isAgg4 ((hb66.new_ hn).cell 0)), congrArg Value.bool ht70⟩) ?_
      refine .o1 (tk rfl rfl fun _ w hn k => ⟨_, v_move rfl (k.eq1 1 13 rfl), rfl⟩) ?_
      refine .o1 (tg rfl rfl rfl (fun _ _ k => k.eq1 2 14 rfl) fun _ w hn k => ⟨_, v_field rfl (k.fx 6 h38) (fun w => rfl), rfl⟩) ?_
      refine .o1 (tg rfl rfl rfl (fun _ _ k => k.eq1 2 14 rfl) fun _ w hn k => ⟨_, v_load rfl (k.eq1 3 15 rfl) (l_one Try.isAgg4 ((hb59.new_ hn).cell 0)), congrArg Value.bool ht71⟩) ?_
      refine .o1 (tg rfl rfl rfl (fun _ _ k => k.eq1 2 14 rfl) fun _ w hn k => ⟨_, v_not rfl (k.eq1 4 16 rfl), rfl⟩) ?_
      refine .o1 (tk rfl rfl fun _ w hn k => ⟨_, v_pickT rfl (k.eq1 2 14 rfl) (k.eq1 5 17 rfl), rfl⟩) ?_
      refine .o1 (tk rfl rfl fun _ w hn k => ⟨_, v_assign rfl (k.eq1 6 18 rfl), rfl⟩) ?_
      exact .nil
    intro a125 w126 hn127 ha128
    have hs129 := ha128.size.trans hs24
    have hd130 := ha128.defers.trans hd25
    have h131 := ha128.fx 5 h34
    have h132 := ha128.fx 6 h38
    have h133 := ha128.ge 7 11 rfl
    have hb134 := hb66.new_ hn127
    have hb135 := hb59.new_ hn127
    have hr136 := hr64.new_ hn127
    have hr137 := hr65.new_ hn127
    have hN138 := hN67.transNew hn127
    clear hs24 hd25 h34 h38 hb66 hb59 hr64 hr65 hN67 ha128 hn127
    refine st_nil ?_
    refine hK69 _ _ ?_
    clear hK69 K69
    refine wp_cond_true h133 ?_
    refine wp_seq_k fun K139 hK139 => ?_
    refine wp_g0 [true] [] 40
      [ve (iv (-1))] hs129 (.eq (.nil)) ?_ ?_
    · skip
      refine .o1 (tk rfl rfl fun _ w hn k => ⟨_, v_assign rfl rfl, rfl⟩) ?_
      exact .nil
    intro a140 w141 hn142 ha143
    have hs144 := ha143.size.trans hs129
    have hd145 := ha143.defers.trans hd130
    have h146 := ha143.ge 0 4 rfl
    have hN147 := hN138.transNew hn142
    clear hs129 hd130 h131 h132 h133 hb134 hq43 hb135 hq44 hr136 hr137 hN138 ha143 hn142
    refine st_nil ?_
    refine hK139 _ _ ?_
    clear hK139 K139
    refine wp_ret (ret_k hd145 (v := iv (-1)) (res_t rfl h146 _) ?_)
    exact ⟨by rw [show cmpZ (goodI b1 a) (goodI b2 b) = -1 from cmpZ_np (of_decide_eq_true ht70) (of_decide_eq_false ht71)], hN147⟩
  have ht70d := of_decide_eq_false ht70
  refine wp_g0 [true, true, true, true, true, true, true, true] [] 40
    [ve (pv q35),
     ve (.bool false),
     ve (.bool false),
     ve undef,
     ve undef,
     ve undef,
     ve (.bool false),
     ve (.bool false)] hs24 (.eq (.eq (.eq (.eq (.eq (.eq (.eq (.eq (.nil))))))))) ?_ ?_
  · skip
    refine .o1 (tk rfl rfl fun _ w hn k => ⟨_, v_field rfl (k.fx 5 h34) (fun w => rfl), rfl⟩) ?_
    refine .o1 (tk rfl rfl fun _ w hn k => ⟨_, v_load rfl (k.eq1 0 12 rfl) (l_one Try.isAgg4 ((hb66.new_ hn).cell 0)), congrArg Value.bool ht70⟩) ?_
    refine .o1 (tk rfl rfl fun _ w hn k => ⟨_, v_move rfl (k.eq1 1 13 rfl), rfl⟩) ?_
    refine .o1 (sk rfl rfl rfl (fun _ _ _ k => k.eq1 2 14 rfl) (fun _ => rfl)) ?_
    refine .o1 (sk rfl rfl rfl (fun _ _ _ k => k.eq1 2 14 rfl) (fun _ => rfl)) ?_
    refine .o1 (sk rfl rfl rfl (fun _ _ _ k => k.eq1 2 14 rfl) (fun _ => rfl)) ?_
    refine .o1 (tk rfl rfl fun _ w hn k => ⟨_, v_pickF rfl (k.eq1 2 14 rfl) rfl, rfl⟩) ?_
    refine .o1 (tk rfl rfl fun _ w hn k => ⟨_, v_assign rfl (k.eq1 6 18 rfl), rfl⟩) ?_
    exact .nil
  intro a148 w149 hn150 ha151
  have hs152 := ha151.size.trans hs24
  have hd153 := ha151.defers.trans hd25
  have h154 := ha151.fx 5 h34
  have h155 := ha151.fx 6 h38
  have h156 := ha151.ge 7 11 rfl
  have hb157 := hb66.new_ hn150
  have hb158 := hb59.new_ hn150
  have hr159 := hr64.new_ hn150
  have hr160 := hr65.new_ hn150
  have hN161 := hN67.transNew hn150
  clear hs24 hd25 h34 h38 hb66 hb59 hr64 hr65 hN67 ha151 hn150
  refine st_nil ?_
  refine hK69 _ _ ?_
  clear hK69 K69
  refine wp_cond_false h156 ?_
  refine wp_seq_k fun K162 hK162 => ?_
  rcases Bool.eq_false_or_eq_true (decide (goodI b2 b < 0)) with ht163 | ht163
  · skip
    have ht163d := of_decide_eq_true ht163
    refine wp_g0 [true, true, true, true, true, true, true, true] [] 40
      [ve (pv q39),
       ve (.bool true),
       ve (.bool true),
       ve (pv q35),
       ve (.bool false),
       ve (.bool true),
       ve (.bool true),
       ve (.bool true)] hs152 (.eq (.eq (.eq (.eq (.eq (.eq (.eq (.eq (.nil))))))))) ?_ ?_
    · skip
      refine .o1 (tk rfl rfl fun _ w hn k => ⟨_, v_field rfl (k.fx 6 h155) (fun w => rfl), rfl⟩) ?_
      refine .o1 (tk rfl rfl fun _ w hn k => ⟨_, v_load rfl (k.eq1 0 20 rfl) (l_one Try.isAgg4 ((hb158.new_ hn).cell 0)), congrArg Value.bool ht163⟩) ?_
      refine .o1 (tk rfl rfl fun _ w hn k => ⟨_, v_move rfl (k.eq1 1 21 rfl), rfl⟩) ?_
      refine .o1 (tg rfl rfl rfl (fun _ _ k => k.eq1 2 22 rfl) fun _ w hn k => ⟨_, v_field rfl (k.fx 5 h154) (fun w => rfl), rfl⟩) ?_
      refine .o1 (tg rfl rfl rfl (fun _ _ k => k.eq1 2 22 rfl) fun _ w hn k => ⟨_, v_load rfl (k.eq1 3 23 rfl) (l_one Try.isAgg4 ((hb157.new_ hn).cell 0)), congrArg Value.bool ht70⟩) ?_
      refine .o1 (tg rfl rfl rfl (fun _ _ k => k.eq1 2 22 rfl) fun _ w hn k => ⟨_, v_not rfl (k.eq1 4 24 rfl), rfl⟩) ?_
      refine .o1 (tk rfl rfl fun _ w hn k => ⟨_, v_pickT rfl (k.eq1 2 22 rfl) (k.eq1 5 25 rfl), rfl⟩) ?_
      refine .o1 (tk rfl rfl fun _ w hn k => ⟨_, v_assign rfl (k.eq1 6 26 rfl), rfl⟩) ?_
      exact .nil
    intro a164 w165 hn166 ha167
    have hs168 := ha167.size.trans hs152
    have hd169 := ha167.defers.trans hd153
    have h170 := ha167.fx 5 h154
    have h171 := ha167.fx 6 h155
    have h172 := ha167.ge 7 19 rfl
    have hb173 := hb157.new_ hn166
    have hb174 := hb158.new_ hn166
    have hr175 := hr159.new_ hn166
    have hr176 := hr160.new_ hn166
    have hN177 := hN161.transNew hn166
    clear hs152 hd153 h154 h155 h156 hb157 hb158 hr159 hr160 hN161 ha167 hn166
    refine st_nil ?_
    refine hK162 _ _ ?_
    clear hK162 K162
    refine wp_cond_true h172 ?_
    refine wp_seq_k fun K178 hK178 => ?_
    refine wp_g0 [true] [] 40
      [ve (iv 1)] hs168 (.eq (.nil)) ?_ ?_
    · skip
      refine .o1 (tk rfl rfl fun _ w hn k => ⟨_, v_assign rfl rfl, rfl⟩) ?_
      exact .nil
    intro a179 w180 hn181 ha182
    have hs183 := ha182.size.trans hs168
    have hd184 := ha182.defers.trans hd169
    have h185 := ha182.ge 0 4 rfl
    have hN186 := hN177.transNew hn181
    clear hs168 hd169 h170 h171 h172 hb173 hq43 hb174 hq44 hr175 hr176 hN177 ha182 hn181
    refine st_nil ?_
    refine hK178 _ _ ?_
    clear hK178 K178
    refine wp_ret (ret_k hd184 (v := iv 1) (res_t rfl h185 _) ?_)
    exact ⟨by rw [show cmpZ (goodI b1 a) (goodI b2 b) = 1 from cmpZ_pn (of_decide_eq_false ht70) (of_decide_eq_true ht163)], hN186⟩
  have ht163d := of_decide_eq_false ht163
  refine wp_g0 [true, true, true, true, true, true, true, true] [] 40
    [ve (pv q39),
     ve (.bool false),
     ve (.bool false),
     ve undef,
     ve undef,
     ve undef,
     ve (.bool false),
     ve (.bool false)] hs152 (.eq (.eq (.eq (.eq (.eq (.eq (.eq (.eq (.nil))))))))) ?_ ?_
  · skip
    refine .o1 (tk rfl rfl fun _ w hn k => ⟨_, v_field rfl (k.fx 6 h155) (fun w => rfl), rfl⟩) ?_
    refine .o1 (tk rfl rfl fun _ w hn k => ⟨_, v_load rfl (k.eq1 0 20 rfl) (l_one Try.isAgg4 ((hb158.new_ hn).cell 0)), congrArg Value.bool ht163⟩) ?_
    refine .o1 (tk rfl rfl fun _ w hn k => ⟨_, v_move rfl (k.eq1 1 21 rfl), rfl⟩) ?_
    refine .o1 (sk rfl rfl rfl (fun _ _ _ k => k.eq1 2 22 rfl) (fun _ => rfl)) ?_
    refine .o1 (sk rfl rfl rfl (fun _ _ _ k => k.eq1 2 22 rfl) (fun _ => rfl)) ?_
    refine .o1 (sk rfl rfl rfl (fun _ _ _ k => k.eq1 2 22 rfl) (fun _ => rfl)) ?_
    refine .o1 (tk rfl rfl fun _ w hn k => ⟨_, v_pickF rfl (k.eq1 2 22 rfl) rfl, rfl⟩) ?_
    refine .o1 (tk rfl rfl fun _ w hn k => ⟨_, v_assign rfl (k.eq1 6 26 rfl), rfl⟩) ?_
    exact .nil
  intro a187 w188 hn189 ha190
  have hs191 := ha190.size.trans hs152
  have hd192 := ha190.defers.trans hd153
  have h193 := ha190.fx 5 h154
  have h194 := ha190.fx 6 h155
  have h195 := ha190.ge 7 19 rfl
  have hb196 := hb157.new_ hn189
  have hb197 := hb158.new_ hn189
  have hr198 := hr159.new_ hn189
  have hr199 := hr160.new_ hn189
  have hN200 := hN161.transNew hn189
  clear hs152 hd153 h154 h155 h156 hb157 hb158 hr159 hr160 hN161 ha190 hn189
  refine st_nil ?_
  refine hK162 _ _ ?_
  clear hK162 K162
  refine wp_cond_false h195 ?_
  refine wp_seq_k fun K201 hK201 => ?_
  refine wp_g0 [true, true, true] [] 40
    [ve (pv q35),
     ve (.bool false),
     ve (.bool false)] hs191 (.eq (.eq (.eq (.nil)))) ?_ ?_
  · skip
    refine .o1 (tk rfl rfl fun _ w hn k => ⟨_, v_field rfl (k.fx 5 h193) (fun w => rfl), rfl⟩) ?_
    refine .o1 (tk rfl rfl fun _ w hn k => ⟨_, v_load rfl (k.eq1 0 28 rfl) (l_one Try.isAgg4 ((hb196.new_ hn).cell 0)), congrArg Value.bool ht70⟩) ?_
    refine .o1 (tk rfl rfl fun _ w hn k => ⟨_, v_assign rfl (k.eq1 1 29 rfl), rfl⟩) ?_
    exact .nil
  intro a202 w203 hn204 ha205
  have hs206 := ha205.size.trans hs191
  have hd207 := ha205.defers.trans hd192
  have h208 := ha205.fx 5 h193
  have h209 := ha205.fx 6 h194
  have h210 := ha205.ge 2 27 rfl
  have hb211 := hb196.new_ hn204
  have hb212 := hb197.new_ hn204
  have hr213 := hr198.new_ hn204
  have hr214 := hr199.new_ hn204
  have hN215 := hN200.transNew hn204
  clear hs191 hd192 h193 h194 h195 hb196 hb197 hr198 hr199 hN200 ha205 hn204
  refine st_nil ?_
  refine hK201 _ _ ?_
  clear hK201 K201
  refine wp_cond_false h210 ?_
  refine wp_skip ?_
  refine hK68 _ _ ?_
  clear hK68 K68
  refine wp_seq_k fun K216 hK216 => ?_
  refine wp_g0 [true, true, true, true, true, true] [] 40
    [ve (.pointer (some ⟨q35, 1, none⟩)),
     ve (sv A27 (canon (goodI b1 a).natAbs) cc28),
     ve (.pointer (some ⟨q39, 1, none⟩)),
     ve (sv A31 (canon (goodI b2 b).natAbs) cc32),
     ve (iv (cmpN (val (canon (goodI b1 a).natAbs)) (val (canon (goodI b2 b).natAbs)))),
     ve (iv (cmpN (val (canon (goodI b1 a).natAbs)) (val (canon (goodI b2 b).natAbs))))] hs206 (.eq (.eq (.eq (.eq (.eq (.eq (.nil))))))) ?_ ?_
  · skip
    refine .o1 (tk rfl rfl fun _ w hn k => ⟨_, v_field rfl (k.fx 5 h208) (fun w => rfl), rfl⟩) ?_
    refine .o1 (tk rfl rfl fun _ w hn k => ⟨_, v_load rfl (k.eq1 0 35 rfl) (l_one Try.isAgg22 ((hb211.new_ hn).cell 1)), rfl⟩) ?_
    refine .o1 (tk rfl rfl fun _ w hn k => ⟨_, v_field rfl (k.fx 6 h209) (fun w => rfl), rfl⟩) ?_
    refine .o1 (tk rfl rfl fun _ w hn k => ⟨_, v_load rfl (k.eq1 2 37 rfl) (l_one Try.isAgg22 ((hb212.new_ hn).cell 1)), rfl⟩) ?_
    refine .o1 (ck rfl rfl rfl (fun _ w hn k => ⟨#[sv A27 (canon (goodI b1 a).natAbs) cc28, sv A31 (canon (goodI b2 b).natAbs) cc32], args2 (k.eq1 1 36 rfl) (k.eq1 3 38 rfl), fun _ => by kernel_rfl, rcmp_c _ _ _ _ _ _ _ (hr213.new_ hn) (hr214.new_ hn) (limbs_canon _) (limbs_canon _) (by first | omega | (simp only [List.length_nil, List.length_cons, List.length_set, List.length_replicate]; omega)) (by first | omega | (simp only [List.length_nil, List.length_cons, List.length_set, List.length_replicate]; omega))⟩) fun _ => rfl) ?_
    refine .o1 (tk rfl rfl fun _ w hn k => ⟨_, v_assign rfl (k.eq1 4 39 rfl), rfl⟩) ?_
    exact .nil
  intro a217 w218 hn219 ha220
  have hs221 := ha220.size.trans hs206
  have hd222 := ha220.defers.trans hd207
  have h223 := ha220.ge 5 4 rfl
  have hN224 := hN215.transNew hn219
  clear hs206 hd207 h208 h209 h210 hb211 hq43 hb212 hq44 hr213 hr214 hN215 ha220 hn219
  refine st_nil ?_
  refine hK216 _ _ ?_
  clear hK216 K216
  refine wp_ret (ret_k hd222 (v := iv (cmpN (val (canon (goodI b1 a).natAbs)) (val (canon (goodI b2 b).natAbs)))) (res_t rfl h223 _) ?_)
  exact ⟨congrArg (fun z => Ending.returned (iv z)) (cmpZ_pp1 ht70 ht163), hN224⟩
set_option maxHeartbeats 4000000 in
set_option maxRecDepth 100000 in
theorem limbs_c (A B : Option Addr) (a b : List Nat) (c d : Nat) (w : World) (hra : SRow w .u32 A a c) (hrb : SRow w .u32 B b d) : Calls Try.prog 64 #[sv A a c, sv B b d] w (IsRet (.bool (decide (a = b))) w) := by
  refine enter_abs Try.func64 rfl fun a0 hs0 hd0 hp => ?_
  have hs0 : a0.tmps.size = 26 := hs0
  have hN0 : New w w := Upd.refl _ _
  have hp0 : a0.eval (.tmp 0) = sv A a c := hp 0 _ rfl
  have hp1 : a0.eval (.tmp 1) = sv B b d := hp 1 _ rfl
  clear hp
  have hmx := hra.max
  have hmy := hrb.max
  refine wp_seq_k fun K1 hK1 => ?_
  refine wp_g0 [true] [] 26
    [ve (.bool false)] hs0 (.eq (.nil)) ?_ ?_
  · skip
    refine .o1 (tk rfl rfl fun _ w hn k => ⟨_, v_assign rfl rfl, rfl⟩) ?_
    exact .nil
  intro a2 w3 hn4 ha5
  have hs6 := ha5.size.trans hs0
  have hd7 := ha5.defers.trans hd0
  have h8 := ha5.fx 0 hp0
  have h9 := ha5.fx 1 hp1
  have hN10 := hN0.transNew hn4
  clear hs0 hd0 hp0 hp1 hN0 ha5 hn4
  refine st_nil ?_
  refine hK1 _ _ ?_
  clear hK1 K1
  refine wp_seq_k fun K11 hK11 => ?_
  refine wp_seq_k fun K12 hK12 => ?_
  rcases Bool.eq_false_or_eq_true (decide ((a.length : Int) = (b.length : Int))) with ht13 | ht13
  · skip
    have ht13d := of_decide_eq_true ht13
    refine wp_g0 [true, true, true, true, true] [] 26
      [ve (sv A a c),
       ve (iv (a.length : Int)),
       ve (sv B b d),
       ve (iv (b.length : Int)),
       ve (.bool false)] hs6 (.eq (.eq (.eq (.eq (.eq (.nil)))))) ?_ ?_
    · skip
      refine .o1 (tk rfl rfl fun _ w hn k => ⟨_, v_move rfl (k.fx 0 h8), rfl⟩) ?_
      refine .o1 (tk rfl rfl fun _ w hn k => ⟨_, v_lenR rfl elW (k.eq1 0 6 rfl), rfl⟩) ?_
      refine .o1 (tk rfl rfl fun _ w hn k => ⟨_, v_move rfl (k.fx 1 h9), rfl⟩) ?_
      refine .o1 (tk rfl rfl fun _ w hn k => ⟨_, v_lenR rfl elW (k.eq1 2 8 rfl), rfl⟩) ?_
      refine .o1 (tk rfl rfl fun _ w hn k => ⟨_, v_bin rfl (k.eq1 1 7 rfl) (k.eq1 3 9 rfl) (fun _ => rfl) (r_neq ht13), rfl⟩) ?_
      exact .nil
    intro a14 w15 hn16 ha17
    have hs18 := ha17.size.trans hs6
    have hd19 := ha17.defers.trans hd7
    have h20 := ha17.fx 0 h8
    have h21 := ha17.fx 1 h9
    have h22 := ha17.ge 4 10 rfl
    have hN23 := hN10.transNew hn16
    clear hs6 hd7 h8 h9 hN10 ha17 hn16
    refine st_nil ?_
    refine hK12 _ _ ?_
    clear hK12 K12
    refine wp_cond_false h22 ?_
    refine wp_skip ?_
    refine hK11 _ _ ?_
    clear hK11 K11
    refine wp_seq_k fun K24 hK24 => ?_
    refine wp_seq_k fun K25 hK25 => ?_
    refine wp_g0 [true] [] 26
      [ve (iv 0)] hs18 (.eq (.nil)) ?_ ?_
    · skip
      refine .o1 (tk rfl rfl fun _ w hn k => ⟨_, v_assign rfl rfl, rfl⟩) ?_
      exact .nil
    intro a26 w27 hn28 ha29
    have hs30 := ha29.size.trans hs18
    have hd31 := ha29.defers.trans hd19
    have h32 := ha29.fx 0 h20
    have h33 := ha29.fx 1 h21
    have h34 := ha29.ge 0 5 rfl
    have hN35 := hN23.transNew hn28
    clear hs18 hd19 h20 h21 h22 hN23 ha29 hn28
    refine st_nil ?_
    refine hK25 _ _ ?_
    clear hK25 K25
    refine wp_block ?_
    refine wp_loopX (fun (mm : Nat) (aa : Act) (ww : World) => ∃ (i : Nat), mm = a.length - i ∧ aa.tmps.size = 26 ∧ aa.defers = [] ∧ New w ww ∧ aa.eval (.tmp 5) = iv (i : Int) ∧ aa.eval (.tmp 0) = sv A a c ∧ aa.eval (.tmp 1) = sv B b d ∧ (i ≤ a.length) ∧ (∀ j, j < i → a.getD j 0 = b.getD j 0)) (fun mm => mm) ⟨_, ⟨0, rfl, hs30, hd31, hN35, h34, h32, h33, (Nat.zero_le _), (fun j h => absurd h (Nat.not_lt_zero _))⟩⟩ ?_
    clear hs30 hd31 hN35 h32 h33 h34
    rintro mm a36 w37 ⟨i, hmm, hs38, hd39, hN40, h41, h42, h43, hi, heq⟩
    refine wp_seq_k fun K44 hK44 => ?_
    refine wp_seq_k fun K45 hK45 => ?_
    refine wp_g0 [true, true, true, true] [] 26
      [ve (iv (i : Int)),
       ve (sv A a c),
       ve (iv (a.length : Int)),
       ve (.bool (decide ((i : Int) < (a.length : Int))))] hs38 (.eq (.eq (.eq (.eq (.nil))))) ?_ ?_
    · skip
      refine .o1 (tk rfl rfl fun _ w hn k => ⟨_, v_move rfl (k.fx 5 h41), rfl⟩) ?_
      refine .o1 (tk rfl rfl fun _ w hn k => ⟨_, v_move rfl (k.fx 0 h42), rfl⟩) ?_
      refine .o1 (tk rfl rfl fun _ w hn k => ⟨_, v_lenR rfl elW (k.eq1 1 12 rfl), rfl⟩) ?_
      refine .o1 (tk rfl rfl fun _ w hn k => ⟨_, v_bin rfl (k.eq1 0 11 rfl) (k.eq1 2 13 rfl) (fun _ => rfl) (r_lssK rfl), rfl⟩) ?_
      exact .nil
    intro a46 w47 hn48 ha49
    have hs50 := ha49.size.trans hs38
    have hd51 := ha49.defers.trans hd39
    have h52 := ha49.fx 5 h41
    have h53 := ha49.fx 0 h42
    have h54 := ha49.fx 1 h43
    have h55 := ha49.ge 3 14 rfl
    have hN56 := hN40.transNew hn48
    clear hs38 hd39 h41 h42 h43 hN40 ha49 hn48
    refine st_nil ?_
    refine hK45 _ _ ?_
    clear hK45 K45
    rcases Bool.eq_false_or_eq_true (decide ((i : Int) < (a.length : Int))) with ht57 | ht57
    · skip
      have ht57d := of_decide_eq_true ht57
      have hv58 : a46.eval (.tmp 14) = .bool true := h55.trans (congrArg Value.bool ht57)
      clear h55
      refine wp_cond_true hv58 ?_
      refine wp_skip ?_
      refine hK44 _ _ ?_
      clear hK44 K44
      refine wp_seq_k fun K59 hK59 => ?_
      refine wp_block ?_
      refine wp_seq_k fun K60 hK60 => ?_
      rcases Bool.eq_false_or_eq_true (decide (((a.getD i 0 : Nat) : Int) = ((b.getD i 0 : Nat) : Int))) with ht61 | ht61
      · skip
        have ht61d := of_decide_eq_true ht61
        refine wp_g0 [true, true, true, true, true, true, true, true, true] [] 26
          [ve (sv A a c),
           ve (iv (i : Int)),
           (fun (v : Value) (W : World) => ∃ (b19 : Nat) (o20 : Nat), v = .pointer (some ⟨b19, o20, none⟩) ∧ SElem W b19 o20 (.int .u32 ((a.getD i 0 : Nat) : Int))),
           ve (.int .u32 ((a.getD i 0 : Nat) : Int)),
           ve (sv B b d),
           ve (iv (i : Int)),
           (fun (v : Value) (W : World) => ∃ (b27 : Nat) (o28 : Nat), v = .pointer (some ⟨b27, o28, none⟩) ∧ SElem W b27 o28 (.int .u32 ((b.getD i 0 : Nat) : Int))),
           ve (.int .u32 ((b.getD i 0 : Nat) : Int)),
           ve (.bool false)] hs50 (.eq (.eq (.cons (fun v W W' hn ⟨b19, o20, he, h0⟩ => ⟨b19, o20, he, h0.new_ hn⟩) (.eq (.eq (.eq (.cons (fun v W W' hn ⟨b27, o28, he, h0⟩ => ⟨b27, o28, he, h0.new_ hn⟩) (.eq (.eq (.nil)))))))))) ?_ ?_
        · skip
          refine .o1 (tk rfl rfl fun _ w hn k => ⟨_, v_move rfl (k.fx 0 h53), rfl⟩) ?_
          refine .o1 (tk rfl rfl fun _ w hn k => ⟨_, v_move rfl (k.fx 5 h52), rfl⟩) ?_
          refine .o1 (tk rfl rfl fun _ w hn k => (by
                exact x_eaddr (k := .u32) rfl elW (k.eq1 0 17 rfl) (k.eq1 1 18 rfl) (hra.new_ (hN56.transNew hn)) (by omega) fun b17 o18 hme => ⟨b17, o18, rfl, hme⟩)) ?_
          refine .o1 (tk rfl rfl fun _ w hn k => (by
                obtain ⟨b21, o22, e23, hx24⟩ : (fun (v : Value) (W : World) => ∃ (b19 : Nat) (o20 : Nat), v = .pointer (some ⟨b19, o20, none⟩) ∧ SElem W b19 o20 (.int .u32 ((a.getD i 0 : Nat) : Int))) _ _ := k.dep 2 19 (by kernel_rfl) (by kernel_rfl)
                exact ⟨_, v_load rfl e23 (l_one Try.isAgg50 hx24.1), rfl⟩)) ?_
          refine .o1 (tk rfl rfl fun _ w hn k => ⟨_, v_move rfl (k.fx 1 h54), rfl⟩) ?_
          refine .o1 (tk rfl rfl fun _ w hn k => ⟨_, v_move rfl (k.fx 5 h52), rfl⟩) ?_
          refine .o1 (tk rfl rfl fun _ w hn k => (by
                exact x_eaddr (k := .u32) rfl elW (k.eq1 4 21 rfl) (k.eq1 5 22 rfl) (hrb.new_ (hN56.transNew hn)) (by omega) fun b25 o26 hme => ⟨b25, o26, rfl, hme⟩)) ?_
          refine .o1 (tk rfl rfl fun _ w hn k => (by
                obtain ⟨b29, o30, e31, hx32⟩ : (fun (v : Value) (W : World) => ∃ (b27 : Nat) (o28 : Nat), v = .pointer (some ⟨b27, o28, none⟩) ∧ SElem W b27 o28 (.int .u32 ((b.getD i 0 : Nat) : Int))) _ _ := k.dep 6 23 (by kernel_rfl) (by kernel_rfl)
                exact ⟨_, v_load rfl e31 (l_one Try.isAgg50 hx32.1), rfl⟩)) ?_
          refine .o1 (tk rfl rfl fun _ w hn k => ⟨_, v_bin rfl (k.eq1 3 20 rfl) (k.eq1 7 24 rfl) (fun _ => rfl) (r_neq ht61), rfl⟩) ?_
          exact .nil
        intro a62 w63 hn64 ha65
        have hs66 := ha65.size.trans hs50
        have hd67 := ha65.defers.trans hd51
        have h68 := ha65.fx 5 h52
        have h69 := ha65.fx 0 h53
        have h70 := ha65.fx 1 h54
        have h71 := ha65.ge 8 25 rfl
        have hN72 := hN56.transNew hn64
        clear hs50 hd51 h52 h53 h54 hv58 hN56 ha65 hn64
        refine st_nil ?_
        refine hK60 _ _ ?_
        clear hK60 K60
        refine wp_cond_false h71 ?_
        refine wp_skip ?_
        refine hK59 _ _ ?_
        clear hK59 K59
        refine wp_g0 [true, true, false] [(2, true)] 26
          [ve (iv (i : Int)),
           ve (iv ((i + 1 : Nat) : Int)),
           vt] hs66 (.eq (.eq (.tt (.nil)))) ?_ ?_
        · skip
          refine .o1 (tk rfl rfl fun _ w hn k => ⟨_, v_move rfl (k.fx 5 h68), rfl⟩) ?_
          refine .o1 (tk rfl rfl fun _ w hn k => ⟨_, v_bin rfl (k.eq1 0 15 rfl) rfl (fun _ => rfl) (n_add (by omega) (IntWalk.i64_in _ (by omega))), rfl⟩) ?_
          refine .off ?_
          exact .nil
        intro a73 w74 hn75 ha76
        have hs77 := ha76.size.trans hs66
        have hd78 := ha76.defers.trans hd67
        have h79 := ha76.fx 5 h68
        have h80 := ha76.fx 0 h69
        have h81 := ha76.fx 1 h70
        have h82 := ha76.ge 1 16 rfl
        have hN83 := hN72.transNew hn75
        clear hs66 hd67 h68 h69 h70 h71 hN72 ha76 hn75
        refine st_take rfl rfl (y_assign (v := iv ((i + 1 : Nat) : Int)) rfl h82) rfl ?_
        obtain ⟨a84, ha85⟩ : ∃ a', a' = a73.put (some 5) (iv ((i + 1 : Nat) : Int)) := ⟨_, rfl⟩
        have hs86 : a84.tmps.size = 26 := by rw [ha85, put_size]; exact hs77
        have hd87 : a84.defers = [] := by rw [ha85, put_defers]; exact hd78
        have h88 : a84.eval (.tmp 0) = sv A a c := by rw [ha85, put_ne _ _ _ _ (by decide)]; exact h80
        have h89 : a84.eval (.tmp 1) = sv B b d := by rw [ha85, put_ne _ _ _ _ (by decide)]; exact h81
        have h90 : a84.eval (.tmp 16) = iv ((i + 1 : Nat) : Int) := by rw [ha85, put_ne _ _ _ _ (by decide)]; exact h82
        have h91 : a84.eval (.tmp 5) = iv ((i + 1 : Nat) : Int) := by rw [ha85]; exact put_same _ _ _ (by rw [hs77]; decide)
        show stepsTo _ _ _ _ _ (a73.put (some 5) (iv ((i + 1 : Nat) : Int))) _
        rw [← ha85]
        clear ha85 hs77 hd78 h79 h80 h81 h82
        refine st_nil ?_
        clear h90
        refine then_n ?_
        exact ⟨_, ⟨i + 1, rfl, hs86, hd87, hN83, (h91.trans (congrArg (Value.int .i64) (by omega))), h88, h89, (by omega), (eq_up heq (by omega) ht61)⟩, (by omega)⟩
      have ht61d := of_decide_eq_false ht61
      refine wp_g0 [true, true, true, true, true, true, true, true, true] [] 26
        [ve (sv A a c),
         ve (iv (i : Int)),
         (fun (v : Value) (W : World) => ∃ (b35 : Nat) (o36 : Nat), v = .pointer (some ⟨b35, o36, none⟩) ∧ SElem W b35 o36 (.int .u32 ((a.getD i 0 : Nat) : Int))),
         ve (.int .u32 ((a.getD i 0 : Nat) : Int)),
         ve (sv B b d),
         ve (iv (i : Int)),
         (fun (v : Value) (W : World) => ∃ (b43 : Nat) (o44 : Nat), v = .pointer (some ⟨b43, o44, none⟩) ∧ SElem W b43 o44 (.int .u32 ((b.getD i 0 : Nat) : Int))),
         ve (.int .u32 ((b.getD i 0 : Nat) : Int)),
         ve (.bool true)] hs50 (.eq (.eq (.cons (fun v W W' hn ⟨b35, o36, he, h0⟩ => ⟨b35, o36, he, h0.new_ hn⟩) (.eq (.eq (.eq (.cons (fun v W W' hn ⟨b43, o44, he, h0⟩ => ⟨b43, o44, he, h0.new_ hn⟩) (.eq (.eq (.nil)))))))))) ?_ ?_
      · skip
        refine .o1 (tk rfl rfl fun _ w hn k => ⟨_, v_move rfl (k.fx 0 h53), rfl⟩) ?_
        refine .o1 (tk rfl rfl fun _ w hn k => ⟨_, v_move rfl (k.fx 5 h52), rfl⟩) ?_
        refine .o1 (tk rfl rfl fun _ w hn k => (by
              exact x_eaddr (k := .u32) rfl elW (k.eq1 0 17 rfl) (k.eq1 1 18 rfl) (hra.new_ (hN56.transNew hn)) (by omega) fun b33 o34 hme => ⟨b33, o34, rfl, hme⟩)) ?_
        refine .o1 (tk rfl rfl fun _ w hn k => (by
              obtain ⟨b37, o38, e39, hx40⟩ : (fun (v : Value) (W : World) => ∃ (b35 : Nat) (o36 : Nat), v = .pointer (some ⟨b35, o36, none⟩) ∧ SElem W b35 o36 (.int .u32 ((a.getD i 0 : Nat) : Int))) _ _ := k.dep 2 19 (by kernel_rfl) (by kernel_rfl)
              exact ⟨_, v_load rfl e39 (l_one Try.isAgg50 hx40.1), rfl⟩)) ?_
        refine .o1 (tk rfl rfl fun _ w hn k => ⟨_, v_move rfl (k.fx 1 h54), rfl⟩) ?_
        refine .o1 (tk rfl rfl fun _ w hn k => ⟨_, v_move rfl (k.fx 5 h52), rfl⟩) ?_
        refine .o1 (tk rfl rfl fun _ w hn k => (by
              exact x_eaddr (k := .u32) rfl elW (k.eq1 4 21 rfl) (k.eq1 5 22 rfl) (hrb.new_ (hN56.transNew hn)) (by omega) fun b41 o42 hme => ⟨b41, o42, rfl, hme⟩)) ?_
        refine .o1 (tk rfl rfl fun _ w hn k => (by
              obtain ⟨b45, o46, e47, hx48⟩ : (fun (v : Value) (W : World) => ∃ (b43 : Nat) (o44 : Nat), v = .pointer (some ⟨b43, o44, none⟩) ∧ SElem W b43 o44 (.int .u32 ((b.getD i 0 : Nat) : Int))) _ _ := k.dep 6 23 (by kernel_rfl) (by kernel_rfl)
              exact ⟨_, v_load rfl e47 (l_one Try.isAgg50 hx48.1), rfl⟩)) ?_
        refine .o1 (tk rfl rfl fun _ w hn k => ⟨_, v_bin rfl (k.eq1 3 20 rfl) (k.eq1 7 24 rfl) (fun _ => rfl) (r_neq ht61), rfl⟩) ?_
        exact .nil
      intro a92 w93 hn94 ha95
      have hs96 := ha95.size.trans hs50
      have hd97 := ha95.defers.trans hd51
      have h98 := ha95.fx 5 h52
      have h99 := ha95.fx 0 h53
      have h100 := ha95.fx 1 h54
      have h101 := ha95.ge 8 25 rfl
      have hN102 := hN56.transNew hn94
      clear hs50 hd51 h52 h53 h54 hv58 hN56 ha95 hn94
      refine st_nil ?_
      refine hK60 _ _ ?_
      clear hK60 K60
      refine wp_cond_true h101 ?_
      refine wp_seq_k fun K103 hK103 => ?_
      refine wp_g0 [true] [] 26
        [ve (.bool false)] hs96 (.eq (.nil)) ?_ ?_
      · skip
        refine .o1 (tk rfl rfl fun _ w hn k => ⟨_, v_assign rfl rfl, rfl⟩) ?_
        exact .nil
      intro a104 w105 hn106 ha107
      have hs108 := ha107.size.trans hs96
      have hd109 := ha107.defers.trans hd97
      have h110 := ha107.ge 0 4 rfl
      have hN111 := hN102.transNew hn106
      clear hs96 hd97 h98 h99 h100 h101 hN102 ha107 hn106
      refine st_nil ?_
      refine hK103 _ _ ?_
      clear hK103 K103
      refine wp_ret (ret_k hd109 (v := .bool false) (res_t rfl h110 _) ?_)
      exact ⟨by rw [decide_eq_false (fun e => by rw [e] at ht61d; exact ht61d rfl)], hN111⟩
    have ht57d := of_decide_eq_false ht57
    have hv112 : a46.eval (.tmp 14) = .bool false := h55.trans (congrArg Value.bool ht57)
    clear h55
    refine wp_cond_false hv112 ?_
    refine wp_exit ?_
    refine hK24 _ _ ?_
    clear hK24 K24 hK44 K44
    refine wp_seq_k fun K113 hK113 => ?_
    refine wp_g0 [true] [] 26
      [ve (.bool true)] hs50 (.eq (.nil)) ?_ ?_
    · skip
      refine .o1 (tk rfl rfl fun _ w hn k => ⟨_, v_assign rfl rfl, rfl⟩) ?_
      exact .nil
    intro a114 w115 hn116 ha117
    have hs118 := ha117.size.trans hs50
    have hd119 := ha117.defers.trans hd51
    have h120 := ha117.ge 0 4 rfl
    have hN121 := hN56.transNew hn116
    clear hs50 hd51 h52 h53 h54 hv112 hN56 ha117 hn116
    refine st_nil ?_
    refine hK113 _ _ ?_
    clear hK113 K113
    refine wp_ret (ret_k hd119 (v := .bool true) (res_t rfl h120 _) ?_)
    exact ⟨by rw [decide_eq_true (eq_all (by omega) (by omega : i = a.length) heq)], hN121⟩
  have ht13d := of_decide_eq_false ht13
  refine wp_g0 [true, true, true, true, true] [] 26
    [ve (sv A a c),
     ve (iv (a.length : Int)),
     ve (sv B b d),
     ve (iv (b.length : Int)),
     ve (.bool true)] hs6 (.eq (.eq (.eq (.eq (.eq (.nil)))))) ?_ ?_
  · skip
    refine .o1 (tk rfl rfl fun _ w hn k => ⟨_, v_move rfl (k.fx 0 h8), rfl⟩) ?_
    refine .o1 (tk rfl rfl fun _ w hn k => ⟨_, v_lenR rfl elW (k.eq1 0 6 rfl), rfl⟩) ?_
    refine .o1 (tk rfl rfl fun _ w hn k => ⟨_, v_move rfl (k.fx 1 h9), rfl⟩) ?_
    refine .o1 (tk rfl rfl fun _ w hn k => ⟨_, v_lenR rfl elW (k.eq1 2 8 rfl), rfl⟩) ?_
    refine .o1 (tk rfl rfl fun _ w hn k => ⟨_, v_bin rfl (k.eq1 1 7 rfl) (k.eq1 3 9 rfl) (fun _ => rfl) (r_neq ht13), rfl⟩) ?_
    exact .nil
  intro a122 w123 hn124 ha125
  have hs126 := ha125.size.trans hs6
  have hd127 := ha125.defers.trans hd7
  have h128 := ha125.fx 0 h8
  have h129 := ha125.fx 1 h9
  have h130 := ha125.ge 4 10 rfl
  have hN131 := hN10.transNew hn124
  clear hs6 hd7 h8 h9 hN10 ha125 hn124
  refine st_nil ?_
  refine hK12 _ _ ?_
  clear hK12 K12
  refine wp_cond_true h130 ?_
  refine wp_seq_k fun K132 hK132 => ?_
  refine wp_g0 [true] [] 26
    [ve (.bool false)] hs126 (.eq (.nil)) ?_ ?_
  · skip
    refine .o1 (tk rfl rfl fun _ w hn k => ⟨_, v_assign rfl rfl, rfl⟩) ?_
    exact .nil
  intro a133 w134 hn135 ha136
  have hs137 := ha136.size.trans hs126
  have hd138 := ha136.defers.trans hd127
  have h139 := ha136.ge 0 4 rfl
  have hN140 := hN131.transNew hn135
  clear hs126 hd127 h128 h129 h130 hN131 ha136 hn135
  refine st_nil ?_
  refine hK132 _ _ ?_
  clear hK132 K132
  refine wp_ret (ret_k hd138 (v := .bool false) (res_t rfl h139 _) ?_)
  exact ⟨by rw [decide_eq_false (fun e => by rw [e] at ht13d; exact ht13d rfl)], hN140⟩
set_option maxHeartbeats 4000000 in
set_option maxRecDepth 100000 in
theorem rbig_c (b1 : Bool) (A : Option Addr) (a : List Nat) (c : Nat) (b2 : Bool) (B : Option Addr) (b : List Nat) (d : Nat) (w : World) (hra : SRow w .u32 A a c) (hrb : SRow w .u32 B b d) : Calls Try.prog 20 #[.agg #[.bool b1, sv A a c], .agg #[.bool b2, sv B b d]] w (IsRet (.bool (b1 == b2 && decide (a = b))) w) := by
  refine enter_abs Try.func20 rfl fun a0 hs0 hd0 hp => ?_
  have hs0 : a0.tmps.size = 17 := hs0
  have hN0 : New w w := Upd.refl _ _
  have hp0 : a0.eval (.tmp 0) = .agg #[.bool b1, sv A a c] := hp 0 _ rfl
  have hp1 : a0.eval (.tmp 1) = .agg #[.bool b2, sv B b d] := hp 1 _ rfl
  clear hp
  refine wp_seq_k fun K1 hK1 => ?_
  refine wp_g [true, true, true] [] [] 17
    [IsNew w 24 [.bool b1, sv A a c],
     IsNew w 24 [.bool b2, sv B b d],
     ve (.bool false)]
    [0, 1] (newsCons (fun v w h => IsNew.old h) (newsCons (fun v w h => IsNew.old h) newsNil)) hs0 (.nw (.nw (.eq (.nil)))) ?_ (fun i h => by cases h) ?_
  · skip
    refine .o2 (step_allocN (cs := [.bool b1, sv A a c]) (t := 24) rfl (noG rfl) (fun _ w hn k => v_box rfl (k.fx 0 hp0) (fun w => rfl)) (fun q _ hq hb => ⟨q, rfl, hq, hb⟩)) ?_
    refine .o2 (step_allocN (cs := [.bool b2, sv B b d]) (t := 24) rfl (noG rfl) (fun _ w hn k => v_box rfl (k.fx 1 hp1) (fun w => rfl)) (fun q _ hq hb => ⟨q, rfl, hq, hb⟩)) ?_
    refine .o1 (tk rfl rfl fun _ w hn k => ⟨_, v_assign rfl rfl, rfl⟩) ?_
    exact .nil
  intro a2 w3 hn4 ha5
  have hs6 := ha5.size.trans hs0
  have hd7 := ha5.defers.trans hd0
  obtain ⟨q9, h8, hq10, hb11⟩ : IsNew _ _ _ _ _ := ha5.got 0 2 rfl (by kernel_rfl)
  obtain ⟨q13, h12, hq14, hb15⟩ : IsNew _ _ _ _ _ := ha5.got 1 3 rfl (by kernel_rfl)
  have hq16 := Nat.le_trans hN0.size hq10
  have hq17 := Nat.le_trans hN0.size hq14
  have hN18 := hN0.transNew hn4
  clear hs0 hd0 hp0 hp1 hq10 hq14 hN0 ha5 hn4
  refine st_nil ?_
  refine hK1 _ _ ?_
  clear hK1 K1
  refine wp_seq_k fun K19 hK19 => ?_
  rcases Bool.eq_false_or_eq_true (b1) with ht20 | ht20
  · skip
    rcases Bool.eq_false_or_eq_true (b2) with ht21 | ht21
    · skip
      refine wp_g0 [true, true, true, true, true, true, true, true, true, true, true, true, true] [] 17
        [ve (pv q9),
         ve (.bool true),
         ve (pv q13),
         ve (.bool true),
         ve (.bool true),
         ve (.bool true),
         ve (.pointer (some ⟨q9, 1, none⟩)),
         ve (sv A a c),
         ve (.pointer (some ⟨q13, 1, none⟩)),
         ve (sv B b d),
         ve (.bool (decide (a = b))),
         ve (.bool (decide (a = b))),
         ve (.bool (decide (a = b)))] hs6 (.eq (.eq (.eq (.eq (.eq (.eq (.eq (.eq (.eq (.eq (.eq (.eq (.eq (.nil)))))))))))))) ?_ ?_
      · skip
        refine .o1 (tk rfl rfl fun _ w hn k => ⟨_, v_field rfl (k.fx 2 h8) (fun w => rfl), rfl⟩) ?_
        refine .o1 (tk rfl rfl fun _ w hn k => ⟨_, v_load rfl (k.eq1 0 5 rfl) (l_one Try.isAgg4 ((hb11.new_ hn).cell 0)), congrArg Value.bool ht20⟩) ?_
        refine .o1 (tk rfl rfl fun _ w hn k => ⟨_, v_field rfl (k.fx 3 h12) (fun w => rfl), rfl⟩) ?_
        refine .o1 (tk rfl rfl fun _ w hn k => ⟨_, v_load rfl (k.eq1 2 7 rfl) (l_one Try.isAgg4 ((hb15.new_ hn).cell 0)), congrArg Value.bool ht21⟩) ?_
        refine .o1 (tk rfl rfl fun _ w hn k => ⟨_, v_bin rfl (k.eq1 1 6 rfl) (k.eq1 3 8 rfl) (fun _ => rfl) (fun w => by kernel_rfl), rfl⟩) ?_
        refine .o1 (tk rfl rfl fun _ w hn k => ⟨_, v_move rfl (k.eq1 4 9 rfl), rfl⟩) ?_
        refine .o1 (tg rfl rfl rfl (fun _ _ k => k.eq1 5 10 rfl) fun _ w hn k => ⟨_, v_field rfl (k.fx 2 h8) (fun w => rfl), rfl⟩) ?_
        refine .o1 (tg rfl rfl rfl (fun _ _ k => k.eq1 5 10 rfl) fun _ w hn k => ⟨_, v_load rfl (k.eq1 6 11 rfl) (l_one Try.isAgg22 ((hb11.new_ hn).cell 1)), rfl⟩) ?_
        refine .o1 (tg rfl rfl rfl (fun _ _ k => k.eq1 5 10 rfl) fun _ w hn k => ⟨_, v_field rfl (k.fx 3 h12) (fun w => rfl), rfl⟩) ?_
        refine .o1 (tg rfl rfl rfl (fun _ _ k => k.eq1 5 10 rfl) fun _ w hn k => ⟨_, v_load rfl (k.eq1 8 13 rfl) (l_one Try.isAgg22 ((hb15.new_ hn).cell 1)), rfl⟩) ?_
        refine .o1 (cg rfl rfl rfl (fun _ _ k => k.eq1 5 10 rfl) rfl (fun _ w hn k => ⟨#[sv A a c, sv B b d], args2 (k.eq1 7 12 rfl) (k.eq1 9 14 rfl), fun _ => by kernel_rfl, limbs_c _ _ _ _ _ _ _ (hra.new_ (hN18.transNew hn)) (hrb.new_ (hN18.transNew hn))⟩) fun _ => rfl) ?_
        refine .o1 (tk rfl rfl fun _ w hn k => ⟨_, v_pickT rfl (k.eq1 5 10 rfl) (k.eq1 10 15 rfl), rfl⟩) ?_
        refine .o1 (tk rfl rfl fun _ w hn k => ⟨_, v_assign rfl (k.eq1 11 16 rfl), rfl⟩) ?_
        exact .nil
      intro a22 w23 hn24 ha25
      have hs26 := ha25.size.trans hs6
      have hd27 := ha25.defers.trans hd7
      have h28 := ha25.ge 12 4 rfl
      have hN29 := hN18.transNew hn24
      clear hs6 hd7 h8 h12 hb11 hq16 hb15 hq17 hN18 ha25 hn24
      refine st_nil ?_
      refine hK19 _ _ ?_
      clear hK19 K19
      refine wp_ret (ret_k hd27 (v := .bool (decide (a = b))) (res_t rfl h28 _) ?_)
      exact ⟨by simp [ht20, ht21], hN29⟩
    refine wp_g0 [true, true, true, true, true, true, true, true, true, true, true, true, true] [] 17
      [ve (pv q9),
       ve (.bool true),
       ve (pv q13),
       ve (.bool false),
       ve (.bool false),
       ve (.bool false),
       ve undef,
       ve undef,
       ve undef,
       ve undef,
       ve undef,
       ve (.bool false),
       ve (.bool false)] hs6 (.eq (.eq (.eq (.eq (.eq (.eq (.eq (.eq (.eq (.eq (.eq (.eq (.eq (.nil)))))))))))))) ?_ ?_
    · skip
      refine .o1 (tk rfl rfl fun _ w hn k => ⟨_, v_field rfl (k.fx 2 h8) (fun w => rfl), rfl⟩) ?_
      refine .o1 (tk rfl rfl fun _ w hn k => ⟨_, v_load rfl (k.eq1 0 5 rfl) (l_one Try.isAgg4 ((hb11.new_ hn).cell 0)), congrArg Value.bool ht20⟩) ?_
      refine .o1 (tk rfl rfl fun _ w hn k => ⟨_, v_field rfl (k.fx 3 h12) (fun w => rfl), rfl⟩) ?_
      refine .o1 (tk rfl rfl fun _ w hn k => ⟨_, v_load rfl (k.eq1 2 7 rfl) (l_one Try.isAgg4 ((hb15.new_ hn).cell 0)), congrArg Value.bool ht21⟩) ?_
      refine .o1 (tk rfl rfl fun _ w hn k => ⟨_, v_bin rfl (k.eq1 1 6 rfl) (k.eq1 3 8 rfl) (fun _ => rfl) (fun w => by kernel_rfl), rfl⟩) ?_
      refine .o1 (tk rfl rfl fun _ w hn k => ⟨_, v_move rfl (k.eq1 4 9 rfl), rfl⟩) ?_
      refine .o1 (sk rfl rfl rfl (fun _ _ _ k => k.eq1 5 10 rfl) (fun _ => rfl)) ?_
      refine .o1 (sk rfl rfl rfl (fun _ _ _ k => k.eq1 5 10 rfl) (fun _ => rfl)) ?_
      refine .o1 (sk rfl rfl rfl (fun _ _ _ k => k.eq1 5 10 rfl) (fun _ => rfl)) ?_
      refine .o1 (sk rfl rfl rfl (fun _ _ _ k => k.eq1 5 10 rfl) (fun _ => rfl)) ?_
      refine .o1 (sk rfl rfl rfl (fun _ _ _ k => k.eq1 5 10 rfl) (fun _ => rfl)) ?_
      refine .o1 (tk rfl rfl fun _ w hn k => ⟨_, v_pickF rfl (k.eq1 5 10 rfl) rfl, rfl⟩) ?_
      refine .o1 (tk rfl rfl fun _ w hn k => ⟨_, v_assign rfl (k.eq1 11 16 rfl), rfl⟩) ?_
      exact .nil
    intro a30 w31 hn32 ha33
    have hs34 := ha33.size.trans hs6
    have hd35 := ha33.defers.trans hd7
    have h36 := ha33.ge 12 4 rfl
    have hN37 := hN18.transNew hn32
    clear hs6 hd7 h8 h12 hb11 hq16 hb15 hq17 hN18 ha33 hn32
    refine st_nil ?_
    refine hK19 _ _ ?_
    clear hK19 K19
    refine wp_ret (ret_k hd35 (v := .bool false) (res_t rfl h36 _) ?_)
    exact ⟨by simp [ht20, ht21], hN37⟩
  rcases Bool.eq_false_or_eq_true (b2) with ht38 | ht38
  · skip
    refine wp_g0 [true, true, true, true, true, true, true, true, true, true, true, true, true] [] 17
      [ve (pv q9),
       ve (.bool false),
       ve (pv q13),
       ve (.bool true),
       ve (.bool false),
       ve (.bool false),
       ve undef,
       ve undef,
       ve undef,
       ve undef,
       ve undef,
       ve (.bool false),
       ve (.bool false)] hs6 (.eq (.eq (.eq (.eq (.eq (.eq (.eq (.eq (.eq (.eq (.eq (.eq (.eq (.nil)))))))))))))) ?_ ?_
    · skip
      refine .o1 (tk rfl rfl fun _ w hn k => ⟨_, v_field rfl (k.fx 2 h8) (fun w => rfl), rfl⟩) ?_
      refine .o1 (tk rfl rfl fun _ w hn k => ⟨_, v_load rfl (k.eq1 0 5 rfl) (l_one Try.isAgg4 ((hb11.new_ hn).cell 0)), congrArg Value.bool ht20⟩) ?_
      refine .o1 (tk rfl rfl fun _ w hn k => ⟨_, v_field rfl (k.fx 3 h12) (fun w => rfl), rfl⟩) ?_
      refine .o1 (tk rfl rfl fun _ w hn k => ⟨_, v_load rfl (k.eq1 2 7 rfl) (l_one Try.isAgg4 ((hb15.new_ hn).cell 0)), congrArg Value.bool ht38⟩) ?_
      refine .o1 (tk rfl rfl fun _ w hn k => ⟨_, v_bin rfl (k.eq1 1 6 rfl) (k.eq1 3 8 rfl) (fun _ => rfl) (fun w => by kernel_rfl), rfl⟩) ?_
      refine .o1 (tk rfl rfl fun _ w hn k => ⟨_, v_move rfl (k.eq1 4 9 rfl), rfl⟩) ?_
      refine .o1 (sk rfl rfl rfl (fun _ _ _ k => k.eq1 5 10 rfl) (fun _ => rfl)) ?_
      refine .o1 (sk rfl rfl rfl (fun _ _ _ k => k.eq1 5 10 rfl) (fun _ => rfl)) ?_
      refine .o1 (sk rfl rfl rfl (fun _ _ _ k => k.eq1 5 10 rfl) (fun _ => rfl)) ?_
      refine .o1 (sk rfl rfl rfl (fun _ _ _ k => k.eq1 5 10 rfl) (fun _ => rfl)) ?_
      refine .o1 (sk rfl rfl rfl (fun _ _ _ k => k.eq1 5 10 rfl) (fun _ => rfl)) ?_
      refine .o1 (tk rfl rfl fun _ w hn k => ⟨_, v_pickF rfl (k.eq1 5 10 rfl) rfl, rfl⟩) ?_
      refine .o1 (tk rfl rfl fun _ w hn k => ⟨_, v_assign rfl (k.eq1 11 16 rfl), rfl⟩) ?_
      exact .nil
    intro a39 w40 hn41 ha42
    have hs43 := ha42.size.trans hs6
    have hd44 := ha42.defers.trans hd7
    have h45 := ha42.ge 12 4 rfl
    have hN46 := hN18.transNew hn41
    clear hs6 hd7 h8 h12 hb11 hq16 hb15 hq17 hN18 ha42 hn41
    refine st_nil ?_
    refine hK19 _ _ ?_
    clear hK19 K19
    refine wp_ret (ret_k hd44 (v := .bool false) (res_t rfl h45 _) ?_)
    exact ⟨by simp [ht20, ht38], hN46⟩
  refine wp_g0 [true, true, true, true, true, true, true, true, true, true, true, true, true] [] 17
    [ve (pv q9),
     ve (.bool false),
     ve (pv q13),
     ve (.bool false),
     ve (.bool true),
     ve (.bool true),
     ve (.pointer (some ⟨q9, 1, none⟩)),
     ve (sv A a c),
     ve (.pointer (some ⟨q13, 1, none⟩)),
     ve (sv B b d),
     ve (.bool (decide (a = b))),
     ve (.bool (decide (a = b))),
     ve (.bool (decide (a = b)))] hs6 (.eq (.eq (.eq (.eq (.eq (.eq (.eq (.eq (.eq (.eq (.eq (.eq (.eq (.nil)))))))))))))) ?_ ?_
  · skip
    refine .o1 (tk rfl rfl fun _ w hn k => ⟨_, v_field rfl (k.fx 2 h8) (fun w => rfl), rfl⟩) ?_
    refine .o1 (tk rfl rfl fun _ w hn k => ⟨_, v_load rfl (k.eq1 0 5 rfl) (l_one Try.isAgg4 ((hb11.new_ hn).cell 0)), congrArg Value.bool ht20⟩) ?_
    refine .o1 (tk rfl rfl fun _ w hn k => ⟨_, v_field rfl (k.fx 3 h12) (fun w => rfl), rfl⟩) ?_
    refine .o1 (tk rfl rfl fun _ w hn k => ⟨_, v_load rfl (k.eq1 2 7 rfl) (l_one Try.isAgg4 ((hb15.new_ hn).cell 0)), congrArg Value.bool ht38⟩) ?_
    refine .o1 (tk rfl rfl fun _ w hn k => ⟨_, v_bin rfl (k.eq1 1 6 rfl) (k.eq1 3 8 rfl) (fun _ => rfl) (fun w => by kernel_rfl), rfl⟩) ?_
    refine .o1 (tk rfl rfl fun _ w hn k => ⟨_, v_move rfl (k.eq1 4 9 rfl), rfl⟩) ?_
    refine .o1 (tg rfl rfl rfl (fun _ _ k => k.eq1 5 10 rfl) fun _ w hn k => ⟨_, v_field rfl (k.fx 2 h8) (fun w => rfl), rfl⟩) ?_
    refine .o1 (tg rfl rfl rfl (fun _ _ k => k.eq1 5 10 rfl) fun _ w hn k => ⟨_, v_load rfl (k.eq1 6 11 rfl) (l_one Try.isAgg22 ((hb11.new_ hn).cell 1)), rfl⟩) ?_
    refine .o1 (tg rfl rfl rfl (fun _ _ k => k.eq1 5 10 rfl) fun _ w hn k => ⟨_, v_field rfl (k.fx 3 h12) (fun w => rfl), rfl⟩) ?_
    refine .o1 (tg rfl rfl rfl (fun _ _ k => k.eq1 5 10 rfl) fun _ w hn k => ⟨_, v_load rfl (k.eq1 8 13 rfl) (l_one Try.isAgg22 ((hb15.new_ hn).cell 1)), rfl⟩) ?_
    refine .o1 (cg rfl rfl rfl (fun _ _ k => k.eq1 5 10 rfl) rfl (fun _ w hn k => ⟨#[sv A a c, sv B b d], args2 (k.eq1 7 12 rfl) (k.eq1 9 14 rfl), fun _ => by kernel_rfl, limbs_c _ _ _ _ _ _ _ (hra.new_ (hN18.transNew hn)) (hrb.new_ (hN18.transNew hn))⟩) fun _ => rfl) ?_
    refine .o1 (tk rfl rfl fun _ w hn k => ⟨_, v_pickT rfl (k.eq1 5 10 rfl) (k.eq1 10 15 rfl), rfl⟩) ?_
    refine .o1 (tk rfl rfl fun _ w hn k => ⟨_, v_assign rfl (k.eq1 11 16 rfl), rfl⟩) ?_
    exact .nil
  intro a47 w48 hn49 ha50
  have hs51 := ha50.size.trans hs6
  have hd52 := ha50.defers.trans hd7
  have h53 := ha50.ge 12 4 rfl
  have hN54 := hN18.transNew hn49
  clear hs6 hd7 h8 h12 hb11 hq16 hb15 hq17 hN18 ha50 hn49
  refine st_nil ?_
  refine hK19 _ _ ?_
  clear hK19 K19
  refine wp_ret (ret_k hd52 (v := .bool (decide (a = b))) (res_t rfl h53 _) ?_)
  exact ⟨by simp [ht20, ht38], hN54⟩
set_option maxHeartbeats 4000000 in
set_option maxRecDepth 100000 in
theorem copyb_c (b : Bool) (A : Option Addr) (m : List Nat) (c : Nat) (w : World) (hr : SRow w .u32 A m c) (hs : m.length ≤ 1000000) : Calls Try.prog 39 #[.agg #[.bool b, sv A m c]] w (RetF (fun r => .agg #[.bool b, r]) .u32 m w) := by
  refine enter_abs Try.func39 rfl fun a0 hs0 hd0 hp => ?_
  have hs0 : a0.tmps.size = 10 := hs0
  have hN0 : New w w := Upd.refl _ _
  have hp0 : a0.eval (.tmp 0) = .agg #[.bool b, sv A m c] := hp 0 _ rfl
  clear hp
  refine wp_seq_k fun K1 hK1 => ?_
  refine wp_g [true, true] [] [] 10
    [IsNew w 24 [.bool b, sv A m c],
     IsNew w 24 [.bool false, sv none ([]) 0]]
    [0, 1] (newsCons (fun v w h => IsNew.old h) (newsCons (fun v w h => IsNew.old h) newsNil)) hs0 (.nw (.nw (.nil))) ?_ (fun i h => by cases h) ?_
  · skip
    refine .o2 (step_allocN (cs := [.bool b, sv A m c]) (t := 24) rfl (noG rfl) (fun _ w hn k => v_box rfl (k.fx 0 hp0) (fun w => rfl)) (fun q _ hq hb => ⟨q, rfl, hq, hb⟩)) ?_
    refine .o2 (step_allocN (cs := [.bool false, sv none ([]) 0]) (t := 24) rfl (noG rfl) (fun _ w hn k => rfl) (fun q _ hq hb => ⟨q, rfl, hq, hb⟩)) ?_
    exact .nil
  intro a2 w3 hn4 ha5
  have hs6 := ha5.size.trans hs0
  have hd7 := ha5.defers.trans hd0
  obtain ⟨q9, h8, hq10, hb11⟩ : IsNew _ _ _ _ _ := ha5.got 0 1 rfl (by kernel_rfl)
  obtain ⟨q13, h12, hq14, hb15⟩ : IsNew _ _ _ _ _ := ha5.got 1 2 rfl (by kernel_rfl)
  have hne16 : q9 ≠ q13 := ha5.ne 0 1 1 2 h8 h12
  have hq17 := Nat.le_trans hN0.size hq10
  have hq18 := Nat.le_trans hN0.size hq14
  have hN19 := hN0.transNew hn4
  clear hs0 hd0 hp0 hq10 hq14 hN0 ha5 hn4
  refine st_nil ?_
  refine hK1 _ _ ?_
  clear hK1 K1
  refine wp_seq_k fun K20 hK20 => ?_
  refine wp_gS (fun W => Blk W q9 24 [.bool b, sv A m c] ∧ True) (fun W W' hn h => ⟨Blk.new_ h.1 hn, trivial⟩) ⟨hb11, trivial⟩ [true, true, true, true, true, false, false, false] [0, 1] [(5, false), (6, true), (7, false)] 10
    [ve (pv q9),
     ve (.bool b),
     (fun (v : Value) (W : World) => ∃ (A3 : Option Addr) (c4 : Nat), v = sv A3 ([]) c4 ∧ SOwn W w3.heap.size 50 .u32 A3 ([]) c4),
     ve (.pointer (some ⟨q9, 1, none⟩)),
     ve (sv A m c),
     vt,
     vt,
     vt]
    [] newsNil hs6 (.eq (.eq (.cons (fun v W W' hn ⟨A3, c4, he, h0⟩ => ⟨A3, c4, he, h0.new_ hn⟩) (.eq (.eq (.tt (.tt (.tt (.nil))))))))) ?_ ?_ ?_
  · skip
    refine .o3 ?_
    refine .o3 ?_
    refine .o1 (tkA rfl (noG rfl) fun _ w hn k => (by
          exact x_bslice0 .u32 rfl parts0 elW fun A1 c2 W' hmo => ⟨A1, c2, rfl, (hmo.more hn.size)⟩)) ?_
    refine .o1 (tk rfl rfl fun _ w hn k => ⟨_, v_field rfl (k.fx 1 h8) (fun w => rfl), rfl⟩) ?_
    refine .o1 (tk rfl rfl fun _ w hn k => ⟨_, v_load rfl (k.eq1 3 6 rfl) (l_one Try.isAgg22 ((hb11.new_ hn).cell 1)), rfl⟩) ?_
    refine .off ?_
    refine .off ?_
    refine .off ?_
    exact .nil
  · skip
    intro i h
    simp only [List.contains_eq_mem, List.mem_cons, List.not_mem_nil, or_false, decide_eq_true_eq] at h
    rcases h with rfl | rfl
    · exact eager_takeG rfl (noG rfl) fun _ w hn k => (by
          exact ⟨_, fun w hS => v_field rfl (k.fx 1 h8) (fun w => rfl), rfl⟩)
    · exact eager_takeG rfl (noG rfl) fun _ w hn k => (by
          exact ⟨_, fun w hS => v_load rfl (k.eq1 0 3 rfl) (l_one Try.isAgg4 (hS.1.cell 0)), rfl⟩)
  intro a21 w22 _ hn23 ha24
  have hs25 := ha24.size.trans hs6
  have hd26 := ha24.defers.trans hd7
  have h27 := ha24.fx 2 h12
  have h28 := ha24.ge 1 4 rfl
  obtain ⟨A30, cc31, h29, hr32⟩ : (fun (v : Value) (W : World) => ∃ (A3 : Option Addr) (c4 : Nat), v = sv A3 ([]) c4 ∧ SOwn W w3.heap.size 50 .u32 A3 ([]) c4) _ _ := ha24.got 2 5 rfl (by kernel_rfl)
  have h29 : a21.eval (.tmp 5) = sv A30 ([]) cc31 := h29
  have h33 := ha24.ge 4 7 rfl
  have hb34 := hb11.new_ hn23
  have hb35 := hb15.new_ hn23
  have hr36 := hr32.more hN19.size
  have hN37 := hN19.transNew hn23
  clear hs6 hd7 h8 h12 hb11 hb15 hr32 hN19 ha24 hn23
  have hw46 := hN37.size
  refine st_act rfl rfl fun K44 hL45 => a_append (k := .u32) (b := w.heap.size) rfl elW h29 hr36 h33 (hr.new_ hN37) (by first | omega | (simp only [List.length_nil, List.length_cons, List.length_append, List.length_take, List.length_drop, List.length_replicate, List.length_set]; omega)) (by first | omega | (simp only [List.length_nil, List.length_cons, List.length_append, List.length_take, List.length_drop, List.length_replicate, List.length_set]; omega)) hw46 fun A38 cc39 w40 hr41 hg42 => hL45 _ _ ⟨(hb34.ownGrown hr36 (by decide) hg42), trivial⟩ ?_
  have hN43 := hN37.ownGrown hr36 hg42
  have hb47 := hb34.ownGrown hr36 (by decide) hg42
  have hb48 := hb35.ownGrown hr36 (by decide) hg42
  clear hg42 K44 hL45 hw46 hN37 hb34 hb35 hr36 h29
  obtain ⟨a49, ha50⟩ : ∃ a', a' = a21.put (some 8) (sv A38 ([] ++ m) cc39) := ⟨_, rfl⟩
  have hs51 : a49.tmps.size = 10 := by rw [ha50, put_size]; exact hs25
  have hd52 : a49.defers = [] := by rw [ha50, put_defers]; exact hd26
  have h53 : a49.eval (.tmp 2) = pv q13 := by rw [ha50, put_ne _ _ _ _ (by decide)]; exact h27
  have h54 : a49.eval (.tmp 4) = .bool b := by rw [ha50, put_ne _ _ _ _ (by decide)]; exact h28
  have h55 : a49.eval (.tmp 7) = sv A m c := by rw [ha50, put_ne _ _ _ _ (by decide)]; exact h33
  have h56 : a49.eval (.tmp 8) = sv A38 ([] ++ m) cc39 := by rw [ha50]; exact put_same _ _ _ (by rw [hs25]; decide)
  show stepsTo _ _ _ _ _ (a21.put (some 8) (sv A38 ([] ++ m) cc39)) _
  rw [← ha50]
  clear ha50 hs25 hd26 h27 h28 h33
  refine st_take rfl rfl (fun w _ => v_build (w := w) (cells := #[.bool b, sv A38 ([] ++ m) cc39]) (ps := [(0, .bool b), (1, sv A38 ([] ++ m) cc39)]) rfl (parts2 h54 h56) (by kernel_rfl)) rfl ?_
  obtain ⟨a57, ha58⟩ : ∃ a', a' = a49.put (some 9) (.agg #[.bool b, sv A38 ([] ++ m) cc39]) := ⟨_, rfl⟩
  have hs59 : a57.tmps.size = 10 := by rw [ha58, put_size]; exact hs51
  have hd60 : a57.defers = [] := by rw [ha58, put_defers]; exact hd52
  have h61 : a57.eval (.tmp 2) = pv q13 := by rw [ha58, put_ne _ _ _ _ (by decide)]; exact h53
  have h62 : a57.eval (.tmp 4) = .bool b := by rw [ha58, put_ne _ _ _ _ (by decide)]; exact h54
  have h63 : a57.eval (.tmp 7) = sv A m c := by rw [ha58, put_ne _ _ _ _ (by decide)]; exact h55
  have h64 : a57.eval (.tmp 8) = sv A38 ([] ++ m) cc39 := by rw [ha58, put_ne _ _ _ _ (by decide)]; exact h56
  have h65 : a57.eval (.tmp 9) = .agg #[.bool b, sv A38 ([] ++ m) cc39] := by rw [ha58]; exact put_same _ _ _ (by rw [hs51]; decide)
  show stepsTo _ _ _ _ _ (a49.put (some 9) (.agg #[.bool b, sv A38 ([] ++ m) cc39])) _
  rw [← ha58]
  clear ha58 hs51 hd52 h53 h54 h55 h56
  obtain ⟨w66, -, hst67, hb68, hu69, hf70⟩ := s_two (v0 := .bool b) (v1 := sv A38 ([] ++ m) cc39) Try.sizeOf24 rfl rfl rfl hb48
  refine st_act rfl rfl fun K71 hL72 => a_store' rfl h61 h65 hst67 (hL72 _ _ ⟨(hf70 _ _ _ (hne16) hb47), trivial⟩ ?_)
  have hr73 := hr41.far hb48 hu69 (by decide)
  have hb74 := hf70 _ _ _ (hne16) hb47
  have hN75 := hN43.trans hu69 (fun k hk hkb => by subst hkb; omega)
  clear hb48 hst67 K71 hL72 hN43 hr41 hb47 hu69 hf70
  refine st_nil ?_
  clear h62 h63 h64 h65
  refine hK20 _ _ ?_
  clear hK20 K20
  refine wp_ret (ret_k hd60 (v := .agg #[.bool b, sv A38 ([] ++ m) cc39]) (res_c rfl h61 (l_two Try.isAgg24 Try.sizeOf24 hb68)) ?_)
  exact ⟨A38, cc39, rfl, hr73.row, hN75⟩
set_option maxHeartbeats 4000000 in
set_option maxRecDepth 100000 in
theorem rsame_c (b1 : Bool) (A : Option Addr) (a : List Nat) (c : Nat) (b2 : Bool) (B : Option Addr) (b : List Nat) (d : Nat) (w : World) (hra : SRow w .u32 A a c) (ha : Limbs a) (hrb : SRow w .u32 B b d) (hb : Limbs b) : Calls Try.prog 46 #[.agg #[.bool b1, sv A a c], .agg #[.bool b2, sv B b d]] w (IsRet (.bool (decide (goodI b1 a = goodI b2 b))) w) := by
  refine enter_abs Try.func46 rfl fun a0 hs0 hd0 hp => ?_
  have hs0 : a0.tmps.size = 10 := hs0
  have hN0 : New w w := Upd.refl _ _
  have hp0 : a0.eval (.tmp 0) = .agg #[.bool b1, sv A a c] := hp 0 _ rfl
  have hp1 : a0.eval (.tmp 1) = .agg #[.bool b2, sv B b d] := hp 1 _ rfl
  clear hp
  refine wp_seq_k fun K1 hK1 => ?_
  refine wp_g [true, true, true] [] [] 10
    [IsNew w 24 [.bool b1, sv A a c],
     IsNew w 24 [.bool b2, sv B b d],
     ve (.bool false)]
    [0, 1] (newsCons (fun v w h => IsNew.old h) (newsCons (fun v w h => IsNew.old h) newsNil)) hs0 (.nw (.nw (.eq (.nil)))) ?_ (fun i h => by cases h) ?_
  · skip
    refine .o2 (step_allocN (cs := [.bool b1, sv A a c]) (t := 24) rfl (noG rfl) (fun _ w hn k => v_box rfl (k.fx 0 hp0) (fun w => rfl)) (fun q _ hq hb => ⟨q, rfl, hq, hb⟩)) ?_
    refine .o2 (step_allocN (cs := [.bool b2, sv B b d]) (t := 24) rfl (noG rfl) (fun _ w hn k => v_box rfl (k.fx 1 hp1) (fun w => rfl)) (fun q _ hq hb => ⟨q, rfl, hq, hb⟩)) ?_
    refine .o1 (tk rfl rfl fun _ w hn k => ⟨_, v_assign rfl rfl, rfl⟩) ?_
    exact .nil
  intro a2 w3 hn4 ha5
  have hs6 := ha5.size.trans hs0
  have hd7 := ha5.defers.trans hd0
  obtain ⟨q9, h8, hq10, hb11⟩ : IsNew _ _ _ _ _ := ha5.got 0 2 rfl (by kernel_rfl)
  obtain ⟨q13, h12, hq14, hb15⟩ : IsNew _ _ _ _ _ := ha5.got 1 3 rfl (by kernel_rfl)
  have hq16 := Nat.le_trans hN0.size hq10
  have hq17 := Nat.le_trans hN0.size hq14
  have hN18 := hN0.transNew hn4
  clear hs0 hd0 hp0 hp1 hq10 hq14 hN0 ha5 hn4
  refine st_nil ?_
  refine hK1 _ _ ?_
  clear hK1 K1
  refine wp_seq_k fun K19 hK19 => ?_
  refine wp_g0 [true, true, true, true, true, true] [] 10
    [ve (.agg #[.bool b1, sv A a c]),
     (fun (v : Value) (W : World) => ∃ (A3 : Option Addr) (c4 : Nat), v = .agg #[.bool (decide (goodI b1 a < 0)), sv A3 (canon (goodI b1 a).natAbs) c4] ∧ SRow W .u32 A3 (canon (goodI b1 a).natAbs) c4),
     ve (.agg #[.bool b2, sv B b d]),
     (fun (v : Value) (W : World) => ∃ (A7 : Option Addr) (c8 : Nat), v = .agg #[.bool (decide (goodI b2 b < 0)), sv A7 (canon (goodI b2 b).natAbs) c8] ∧ SRow W .u32 A7 (canon (goodI b2 b).natAbs) c8),
     ve (.bool ((decide (goodI b1 a < 0)) == (decide (goodI b2 b < 0)) && decide ((canon (goodI b1 a).natAbs) = (canon (goodI b2 b).natAbs)))),
     ve (.bool ((decide (goodI b1 a < 0)) == (decide (goodI b2 b < 0)) && decide ((canon (goodI b1 a).natAbs) = (canon (goodI b2 b).natAbs))))] hs6 (.eq (.cons (fun v W W' hn ⟨A3, c4, he, h0⟩ => ⟨A3, c4, he, h0.new_ hn⟩) (.eq (.cons (fun v W W' hn ⟨A7, c8, he, h0⟩ => ⟨A7, c8, he, h0.new_ hn⟩) (.eq (.eq (.nil))))))) ?_ ?_
  · skip
    refine .o1 (tk rfl rfl fun _ w hn k => ⟨_, v_load rfl (k.fx 2 h8) (l_two Try.isAgg24 Try.sizeOf24 (hb11.new_ hn)), rfl⟩) ?_
    refine .o1 (tkC rfl (noG rfl) rfl fun _ w hn k => (by
          refine ⟨#[.agg #[.bool b1, sv A a c]], _, args1 (k.eq1 0 5 rfl), fun w => by kernel_rfl, rgood_c _ _ _ _ _ (hra.new_ (hN18.transNew hn)) ha, ?_⟩
          rintro e w' ⟨A1, c2, rfl, hmo, hm⟩
          exact ⟨_, rfl, hm, ⟨A1, c2, rfl, hmo⟩⟩)) ?_
    refine .o1 (tk rfl rfl fun _ w hn k => ⟨_, v_load rfl (k.fx 3 h12) (l_two Try.isAgg24 Try.sizeOf24 (hb15.new_ hn)), rfl⟩) ?_
    refine .o1 (tkC rfl (noG rfl) rfl fun _ w hn k => (by
          refine ⟨#[.agg #[.bool b2, sv B b d]], _, args1 (k.eq1 2 7 rfl), fun w => by kernel_rfl, rgood_c _ _ _ _ _ (hrb.new_ (hN18.transNew hn)) hb, ?_⟩
          rintro e w' ⟨A5, c6, rfl, hmo, hm⟩
          exact ⟨_, rfl, hm, ⟨A5, c6, rfl, hmo⟩⟩)) ?_
    refine .o1 (tkC rfl (noG rfl) rfl fun _ w hn k => (by
          obtain ⟨A9, c10, e11, hx12⟩ : (fun (v : Value) (W : World) => ∃ (A3 : Option Addr) (c4 : Nat), v = .agg #[.bool (decide (goodI b1 a < 0)), sv A3 (canon (goodI b1 a).natAbs) c4] ∧ SRow W .u32 A3 (canon (goodI b1 a).natAbs) c4) _ _ := k.dep 1 6 (by kernel_rfl) (by kernel_rfl)
          obtain ⟨A13, c14, e15, hx16⟩ : (fun (v : Value) (W : World) => ∃ (A7 : Option Addr) (c8 : Nat), v = .agg #[.bool (decide (goodI b2 b < 0)), sv A7 (canon (goodI b2 b).natAbs) c8] ∧ SRow W .u32 A7 (canon (goodI b2 b).natAbs) c8) _ _ := k.dep 3 8 (by kernel_rfl) (by kernel_rfl)
          refine ⟨#[.agg #[.bool (decide (goodI b1 a < 0)), sv A9 (canon (goodI b1 a).natAbs) c10], .agg #[.bool (decide (goodI b2 b < 0)), sv A13 (canon (goodI b2 b).natAbs) c14]], _, args2 e11 e15, fun w => by kernel_rfl, rbig_c _ _ _ _ _ _ _ _ _ hx12 hx16, ?_⟩
          rintro e w' ⟨rfl, hm⟩
          exact ⟨_, rfl, hm, rfl⟩)) ?_
    refine .o1 (tk rfl rfl fun _ w hn k => ⟨_, v_assign rfl (k.eq1 4 9 rfl), rfl⟩) ?_
    exact .nil
  intro a20 w21 hn22 ha23
  have hs24 := ha23.size.trans hs6
  have hd25 := ha23.defers.trans hd7
  have h26 := ha23.ge 5 4 rfl
  have hN27 := hN18.transNew hn22
  clear hs6 hd7 h8 h12 hb11 hq16 hb15 hq17 hN18 ha23 hn22
  refine st_nil ?_
  refine hK19 _ _ ?_
  clear hK19 K19
  refine wp_ret (ret_k hd25 (v := .bool ((decide (goodI b1 a < 0)) == (decide (goodI b2 b < 0)) && decide ((canon (goodI b1 a).natAbs) = (canon (goodI b2 b).natAbs)))) (res_t rfl h26 _) ?_)
  exact ⟨by rw [same_eq (goodI b1 a) (goodI b2 b)], hN27⟩
end Go.Proofs.Ytfhflpchfgkgcaa
