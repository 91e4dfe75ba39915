/- Package renref2: quotients of sizes. -/
import Derived.Test.YtfhflpchfgkgcaaRefB
namespace Go.Proofs.Ytfhflpchfgkgcaa
open Go.RowKit
set_option linter.unusedSimpArgs false
set_option linter.unusedVariables false
set_option maxHeartbeats 16000000 in
set_option maxRecDepth 100000 in
theorem rdivide_c (A B : Option Addr) (a b : List Nat) (c d : Nat) (w : World) (hra : SRow w .u32 A a c) (hrb : SRow w .u32 B b d) (ha : Limbs a) (hb : Limbs b) (hsa : a.length ≤ 10000) (hsb : b.length ≤ 10000) (hb0 : 0 < val b) (ha0 : 0 < a.length) : Calls Try.prog 62 #[sv A a c, sv B b d] w (RetSS 50 .u32 (canon (val a / val b)) (canon (val a % val b)) w) := by
  refine enter_abs Try.func62 rfl fun a0 hs0 hd0 hp => ?_
  have hs0 : a0.tmps.size = 58 := hs0
  have hN0 : New w w := Upd.refl _ _
  have hp0 : a0.eval (.tmp 0) = sv A a c := hp 0 _ rfl
  have hp1 : a0.eval (.tmp 1) = sv B b d := hp 1 _ rfl
  clear hp
  refine wp_seq_k fun K1 hK1 => ?_
  refine wp_g0 [true, true] [] 58
    [ve (sv none ([]) 0),
     ve (sv none ([]) 0)] hs0 (.eq (.eq (.nil))) ?_ ?_
  · skip
    refine .o1 (tk rfl rfl fun _ w hn k => ⟨_, v_assign rfl rfl, rfl⟩) ?_
    refine .o1 (tk rfl rfl fun _ w hn k => ⟨_, v_assign rfl rfl, rfl⟩) ?_
    exact .nil
  intro a2 w3 hn4 ha5
  have hs6 := ha5.size.trans hs0
  have hd7 := ha5.defers.trans hd0
  have h8 := ha5.fx 0 hp0
  have h9 := ha5.fx 1 hp1
  have hN10 := hN0.transNew hn4
  clear hs0 hd0 hp0 hp1 hN0 ha5 hn4
  refine st_nil ?_
  refine hK1 _ _ ?_
  clear hK1 K1
  refine wp_seq_k fun K11 hK11 => ?_
  refine wp_g0 [true, true, true, true] [] 58
    [ve (sv A a c),
     ve (iv (a.length : Int)),
     (fun (v : Value) (W : World) => ∃ (A3 : Option Addr) (c4 : Nat), v = sv A3 (List.replicate a.length 0) c4 ∧ SOwn W w3.heap.size 50 .u32 A3 (List.replicate a.length 0) c4),
     (fun (v : Value) (W : World) => ∃ (A9 : Option Addr) (c10 : Nat), v = sv A9 (List.replicate a.length 0) c10 ∧ SOwn W w3.heap.size 50 .u32 A9 (List.replicate a.length 0) c10)] hs6 (.eq (.eq (.cons (fun v W W' hn ⟨A3, c4, he, h0⟩ => ⟨A3, c4, he, h0.new_ hn⟩) (.cons (fun v W W' hn ⟨A9, c10, he, h0⟩ => ⟨A9, c10, he, h0.new_ hn⟩) (.nil))))) ?_ ?_
  · skip
    refine .o1 (tk rfl rfl fun _ w hn k => ⟨_, v_move rfl (k.fx 0 h8), rfl⟩) ?_
    refine .o1 (tk rfl rfl fun _ w hn k => ⟨_, v_lenR rfl elW (k.eq1 0 9 rfl), rfl⟩) ?_
    refine .o1 (tkA rfl (noG rfl) fun _ w hn k => (by
          exact x_make .u32 rfl (k.eq1 1 10 rfl) (k.eq1 1 10 rfl) elW (by omega) (by omega) (by omega) fun A1 c2 W' hmo => ⟨A1, c2, rfl, (hmo.more hn.size)⟩)) ?_
    refine .o1 (tk rfl rfl fun _ w hn k => (by
          obtain ⟨A5, c6, e7, hx8⟩ : (fun (v : Value) (W : World) => ∃ (A3 : Option Addr) (c4 : Nat), v = sv A3 (List.replicate a.length 0) c4 ∧ SOwn W w3.heap.size 50 .u32 A3 (List.replicate a.length 0) c4) _ _ := k.dep 2 11 (by kernel_rfl) (by kernel_rfl)
          exact ⟨_, v_assign rfl e7, ⟨A5, c6, rfl, hx8⟩⟩)) ?_
    exact .nil
  intro a12 w13 hn14 ha15
  have hs16 := ha15.size.trans hs6
  have hd17 := ha15.defers.trans hd7
  have h18 := ha15.fx 0 h8
  have h19 := ha15.fx 1 h9
  obtain ⟨A21, cc22, h20, hr23⟩ : (fun (v : Value) (W : World) => ∃ (A9 : Option Addr) (c10 : Nat), v = sv A9 (List.replicate a.length 0) c10 ∧ SOwn W w3.heap.size 50 .u32 A9 (List.replicate a.length 0) c10) _ _ := ha15.got 3 6 rfl (by kernel_rfl)
  have h20 : a12.eval (.tmp 6) = sv A21 (List.replicate a.length 0) cc22 := h20
  have hr24 := hr23.more hN10.size
  have hN25 := hN10.transNew hn14
  clear hs6 hd7 h8 h9 hr23 hN10 ha15 hn14
  refine st_nil ?_
  refine hK11 _ _ ?_
  clear hK11 K11
  refine wp_seq_k fun K26 hK26 => ?_
  refine wp_g0 [true] [] 58
    [ve (sv none ([]) 0)] hs16 (.eq (.nil)) ?_ ?_
  · skip
    refine .o1 (tk rfl rfl fun _ w hn k => ⟨_, v_assign rfl rfl, rfl⟩) ?_
    exact .nil
  intro a27 w28 hn29 ha30
  have hs31 := ha30.size.trans hs16
  have hd32 := ha30.defers.trans hd17
  have h33 := ha30.fx 0 h18
  have h34 := ha30.fx 1 h19
  have h35 := ha30.fx 6 h20
  have h36 := ha30.ge 0 7 rfl
  have hr37 := hr24.new_ hn29
  have hN38 := hN25.transNew hn29
  clear hs16 hd17 h18 h19 h20 hr24 hN25 ha30 hn29
  refine st_nil ?_
  refine hK26 _ _ ?_
  clear hK26 K26
  refine wp_seq_k fun K39 hK39 => ?_
  refine wp_seq_k fun K40 hK40 => ?_
  obtain ⟨gg, rfl, hge41⟩ := hr37.head (by first | (simp; done) | (simp; omega))
  refine wp_g0 [true, true, true, true, true] [] 58
    [ve (sv A a c),
     ve (iv (a.length : Int)),
     ve (iv ((32 * a.length : Nat) : Int)),
     ve (iv (((32 * a.length : Nat) : Int) - 1)),
     ve (iv (((32 * a.length : Nat) : Int) - 1))] hs31 (.eq (.eq (.eq (.eq (.eq (.nil)))))) ?_ ?_
  · skip
    refine .o1 (tk rfl rfl fun _ w hn k => ⟨_, v_move rfl (k.fx 0 h33), rfl⟩) ?_
    refine .o1 (tk rfl rfl fun _ w hn k => ⟨_, v_lenR rfl elW (k.eq1 0 12 rfl), rfl⟩) ?_
    refine .o1 (tk rfl rfl fun _ w hn k => ⟨_, v_bin rfl rfl (k.eq1 1 13 rfl) (fun _ => rfl) (n_mul (by omega) (IntWalk.i64_in _ (by omega))), rfl⟩) ?_
    refine .o1 (tk rfl rfl fun _ w hn k => ⟨_, v_bin rfl (k.eq1 2 14 rfl) rfl (fun _ => rfl) (r_sub rfl (by omega)), rfl⟩) ?_
    refine .o1 (tk rfl rfl fun _ w hn k => ⟨_, v_assign rfl (k.eq1 3 15 rfl), rfl⟩) ?_
    exact .nil
  intro a42 w43 hn44 ha45
  have hs46 := ha45.size.trans hs31
  have hd47 := ha45.defers.trans hd32
  have h48 := ha45.fx 0 h33
  have h49 := ha45.fx 1 h34
  have h50 := ha45.fx 6 h35
  have h51 := ha45.fx 7 h36
  have h52 := ha45.ge 4 8 rfl
  have hr53 := hr37.new_ hn44
  have hN54 := hN38.transNew hn44
  clear hs31 hd32 h33 h34 h35 h36 hr37 hN38 ha45 hn44
  refine st_nil ?_
  refine hK40 _ _ ?_
  clear hK40 K40
  refine wp_block ?_
  refine wp_loopX (fun (mm : Nat) (aa : Act) (ww : World) => ∃ (T : Nat) (Q : List Nat) (AR : Option Addr) (cR : Nat), mm = T ∧ aa.tmps.size = 58 ∧ aa.defers = [] ∧ New w ww ∧ aa.eval (.tmp 6) = sv (some ⟨gg, 0, none⟩) Q cc22 ∧ aa.eval (.tmp 7) = sv AR (canon (val a / 2 ^ T % val b)) cR ∧ aa.eval (.tmp 8) = iv ((T : Int) - 1) ∧ aa.eval (.tmp 0) = sv A a c ∧ aa.eval (.tmp 1) = sv B b d ∧ SOwn ww w.heap.size 50 .u32 (some ⟨gg, 0, none⟩) Q cc22 ∧ SOwn ww (gg + 1) 50 .u32 AR (canon (val a / 2 ^ T % val b)) cR ∧ (T ≤ 32 * a.length) ∧ (Limbs Q) ∧ (Q.length = a.length) ∧ (val Q = 2 ^ T * (val a / 2 ^ T / val b))) (fun mm => mm) ⟨_, ⟨(32 * a.length), (List.replicate a.length 0), none, 0, rfl, hs46, hd47, hN54, h50, (h51.trans (by rw [show val a / 2 ^ (32 * a.length) % val b = 0 from div_start0 ha, canon_zero])), (h52.trans (congrArg (Value.int .i64) (by omega))), h48, h49, hr53, (by rw [show val a / 2 ^ (32 * a.length) % val b = 0 from div_start0 ha, canon_zero]; exact SOwn.nil _ _ _ _), (Nat.le_refl _), (Limbs.rep _), List.length_replicate, (div_start ha)⟩⟩ ?_
  clear hs46 hd47 hN54 h48 h49 h50 h51 h52 hr53
  rintro mm a55 w56 ⟨T, Q, AR, cR, hmm, hs57, hd58, hN59, h60, h61, h62, h63, h64, hr65, hr66, hT, hQ, hln, hq⟩
  refine wp_seq_k fun K67 hK67 => ?_
  refine wp_seq_k fun K68 hK68 => ?_
  rcases Bool.eq_false_or_eq_true (decide (((T : Int) - 1) < 0)) with ht69 | ht69
  · skip
    have ht69d := of_decide_eq_true ht69
    refine wp_g0 [true, true] [] 58
      [ve (iv ((T : Int) - 1)),
       ve (.bool false)] hs57 (.eq (.eq (.nil))) ?_ ?_
    · skip
      refine .o1 (tk rfl rfl fun _ w hn k => ⟨_, v_move rfl (k.fx 8 h62), rfl⟩) ?_
      refine .o1 (tk rfl rfl fun _ w hn k => ⟨_, v_bin rfl (k.eq1 0 16 rfl) rfl (fun _ => rfl) (r_geqK ht69), rfl⟩) ?_
      exact .nil
    intro a70 w71 hn72 ha73
    have hs74 := ha73.size.trans hs57
    have hd75 := ha73.defers.trans hd58
    have h76 := ha73.fx 6 h60
    have h77 := ha73.fx 7 h61
    have h78 := ha73.fx 8 h62
    have h79 := ha73.fx 0 h63
    have h80 := ha73.fx 1 h64
    have h81 := ha73.ge 1 17 rfl
    have hr82 := hr65.new_ hn72
    have hr83 := hr66.new_ hn72
    have hN84 := hN59.transNew hn72
    clear hs57 hd58 h60 h61 h62 h63 h64 hr65 hr66 hN59 ha73 hn72
    refine st_nil ?_
    refine hK68 _ _ ?_
    clear hK68 K68
    refine wp_cond_false h81 ?_
    refine wp_exit ?_
    refine hK39 _ _ ?_
    clear hK39 K39 hK67 K67
    refine wp_seq_k fun K85 hK85 => ?_
    refine wp_g0 [true, true, true, true, true] [] 58
      [ve (sv (some ⟨gg, 0, none⟩) Q cc22),
       (fun (v : Value) (W : World) => ∃ (A13 : Option Addr) (c14 : Nat), v = sv A13 (canon (val Q)) c14 ∧ SOwn W w71.heap.size 50 .u32 A13 (canon (val Q)) c14),
       ve (sv AR (canon (val a / 2 ^ T % val b)) cR),
       (fun (v : Value) (W : World) => ∃ (A19 : Option Addr) (c20 : Nat), v = sv A19 (canon (val Q)) c20 ∧ SOwn W w71.heap.size 50 .u32 A19 (canon (val Q)) c20),
       ve (sv AR (canon (val a / 2 ^ T % val b)) cR)] hs74 (.eq (.cons (fun v W W' hn ⟨A13, c14, he, h0⟩ => ⟨A13, c14, he, h0.new_ hn⟩) (.eq (.cons (fun v W W' hn ⟨A19, c20, he, h0⟩ => ⟨A19, c20, he, h0.new_ hn⟩) (.eq (.nil)))))) ?_ ?_
    · skip
      refine .o1 (tk rfl rfl fun _ w hn k => ⟨_, v_move rfl (k.fx 6 h76), rfl⟩) ?_
      refine .o1 (tkC rfl (noG rfl) rfl fun _ w hn k => (by
            refine ⟨#[sv (some ⟨gg, 0, none⟩) Q cc22], _, args1 (k.eq1 0 55 rfl), fun w => by kernel_rfl, rtrim_c _ _ _ _ (hr82.new_ hn).row hQ (by first | omega | (simp only [List.length_nil, List.length_cons, List.length_set, List.length_replicate]; omega)), ?_⟩
            rintro e w' ⟨A11, c12, rfl, hmo, hm⟩
            exact ⟨_, rfl, hm, ⟨A11, c12, rfl, (hmo.more hn.size)⟩⟩)) ?_
      refine .o1 (tk rfl rfl fun _ w hn k => ⟨_, v_move rfl (k.fx 7 h77), rfl⟩) ?_
      refine .o1 (tk rfl rfl fun _ w hn k => (by
            obtain ⟨A15, c16, e17, hx18⟩ : (fun (v : Value) (W : World) => ∃ (A13 : Option Addr) (c14 : Nat), v = sv A13 (canon (val Q)) c14 ∧ SOwn W w71.heap.size 50 .u32 A13 (canon (val Q)) c14) _ _ := k.dep 1 56 (by kernel_rfl) (by kernel_rfl)
            exact ⟨_, v_assign rfl e17, ⟨A15, c16, rfl, hx18⟩⟩)) ?_
      refine .o1 (tk rfl rfl fun _ w hn k => ⟨_, v_assign rfl (k.eq1 2 57 rfl), rfl⟩) ?_
      exact .nil
    intro a86 w87 hn88 ha89
    have hs90 := ha89.size.trans hs74
    have hd91 := ha89.defers.trans hd75
    obtain ⟨A93, cc94, h92, hr95⟩ : (fun (v : Value) (W : World) => ∃ (A19 : Option Addr) (c20 : Nat), v = sv A19 (canon (val Q)) c20 ∧ SOwn W w71.heap.size 50 .u32 A19 (canon (val Q)) c20) _ _ := ha89.got 3 4 rfl (by kernel_rfl)
    have h92 : a86.eval (.tmp 4) = sv A93 (canon (val Q)) cc94 := h92
    have h96 := ha89.ge 4 5 rfl
    have hr97 := hr83.new_ hn88
    have hr98 := hr95.more (Nat.succ_le_of_lt (hr82.glt (by omega)))
    have hN99 := hN84.transNew hn88
    clear hs74 hd75 h76 h77 h78 h79 h80 h81 hr82 hr83 hr95 hN84 ha89 hn88
    refine st_nil ?_
    refine hK85 _ _ ?_
    clear hK85 K85
    refine wp_ret (ret_k hd91 (v := .tuple #[sv A93 (canon (val Q)) cc94, sv AR (canon (val a / 2 ^ T % val b)) cR]) (res_tt rfl h92 h96 _) ?_)
    have hT0 : T = 0 := by omega
    have e1 : (canon (val Q)) = canon (val a / val b) := by rw [hq, hT0]; simp
    have e2 : (canon (val a / 2 ^ T % val b)) = canon (val a % val b) := by rw [hT0]; simp
    exact ⟨A93, cc94, AR, cR, by rw [← e1, ← e2], by rw [← e1]; exact hr98.more (by omega), by rw [← e2]; exact hr97.more (by omega), hN99⟩
  have ht69d := of_decide_eq_false ht69
  refine wp_g0 [true, true] [] 58
    [ve (iv ((T : Int) - 1)),
     ve (.bool true)] hs57 (.eq (.eq (.nil))) ?_ ?_
  · skip
    refine .o1 (tk rfl rfl fun _ w hn k => ⟨_, v_move rfl (k.fx 8 h62), rfl⟩) ?_
    refine .o1 (tk rfl rfl fun _ w hn k => ⟨_, v_bin rfl (k.eq1 0 16 rfl) rfl (fun _ => rfl) (r_geqK ht69), rfl⟩) ?_
    exact .nil
  intro a100 w101 hn102 ha103
  have hs104 := ha103.size.trans hs57
  have hd105 := ha103.defers.trans hd58
  have h106 := ha103.fx 6 h60
  have h107 := ha103.fx 7 h61
  have h108 := ha103.fx 8 h62
  have h109 := ha103.fx 0 h63
  have h110 := ha103.fx 1 h64
  have h111 := ha103.ge 1 17 rfl
  have hr112 := hr65.new_ hn102
  have hr113 := hr66.new_ hn102
  have hN114 := hN59.transNew hn102
  clear hs57 hd58 h60 h61 h62 h63 h64 hr65 hr66 hN59 ha103 hn102
  refine st_nil ?_
  refine hK68 _ _ ?_
  clear hK68 K68
  refine wp_cond_true h111 ?_
  refine wp_skip ?_
  refine hK67 _ _ ?_
  clear hK67 K67
  refine wp_seq_k fun K115 hK115 => ?_
  refine wp_block ?_
  refine wp_seq_k fun K116 hK116 => ?_
  have h117 : a100.eval (.tmp 8) = iv ((T - 1 : Nat) : Int) := h108.trans (congrArg (Value.int .i64) (by omega))
  clear h108
  obtain ⟨P, hP⟩ : ∃ P, P = (T - 1) / 32 := ⟨_, rfl⟩
  obtain ⟨s, hs⟩ : ∃ s, s = (T - 1) % 32 := ⟨_, rfl⟩
  have hbt := bit_at ha (T := T - 1)
  have hdl : a.getD ((T - 1) / 32) 0 / 2 ^ ((T - 1) % 32) ≤ a.getD ((T - 1) / 32) 0 := Nat.div_le_self _ _
  have haj := ha.at ((T - 1) / 32)
  have hlr : (canon (val a / 2 ^ T % val b)).length ≤ b.length := rem_len hb hb0
  have hl2 : (canon (2 * (val a / 2 ^ T % val b))).length ≤ b.length + 1 := rem_len2 hb hb0 0 (by omega)
  have hl3 : (canon (2 * (val a / 2 ^ T % val b) + 1)).length ≤ b.length + 1 := rem_len2 hb hb0 1 (by omega)
  refine wp_g0 [true, true, true, false] [(3, true)] 58
    [ve (sv AR (canon (val a / 2 ^ T % val b)) cR),
     ve (sv AR (canon (val a / 2 ^ T % val b)) cR),
     (fun (v : Value) (W : World) => ∃ (A23 : Option Addr) (c24 : Nat), v = sv A23 (canon (val (canon (val a / 2 ^ T % val b)) + val (canon (val a / 2 ^ T % val b)))) c24 ∧ SOwn W w101.heap.size 50 .u32 A23 (canon (val (canon (val a / 2 ^ T % val b)) + val (canon (val a / 2 ^ T % val b)))) c24),
     vt] hs104 (.eq (.eq (.cons (fun v W W' hn ⟨A23, c24, he, h0⟩ => ⟨A23, c24, he, h0.new_ hn⟩) (.tt (.nil))))) ?_ ?_
  · skip
    refine .o1 (tk rfl rfl fun _ w hn k => ⟨_, v_move rfl (k.fx 7 h107), rfl⟩) ?_
    refine .o1 (tk rfl rfl fun _ w hn k => ⟨_, v_move rfl (k.fx 7 h107), rfl⟩) ?_
    refine .o1 (tkC rfl (noG rfl) rfl fun _ w hn k => (by
          refine ⟨#[sv AR (canon (val a / 2 ^ T % val b)) cR, sv AR (canon (val a / 2 ^ T % val b)) cR], _, args2 (k.eq1 0 20 rfl) (k.eq1 1 21 rfl), fun w => by kernel_rfl, rplus_c _ _ _ _ _ _ _ (hr113.new_ hn).row (hr113.new_ hn).row (limbs_canon _) (limbs_canon _) (by first | omega | (simp only [List.length_nil, List.length_cons, List.length_set, List.length_replicate]; omega)) (by first | omega | (simp only [List.length_nil, List.length_cons, List.length_set, List.length_replicate]; omega)), ?_⟩
          rintro e w' ⟨A21, c22, rfl, hmo, hm⟩
          exact ⟨_, rfl, hm, ⟨A21, c22, rfl, (hmo.more hn.size)⟩⟩)) ?_
    refine .off ?_
    exact .nil
  intro a118 w119 hn120 ha121
  have hs122 := ha121.size.trans hs104
  have hd123 := ha121.defers.trans hd105
  have h124 := ha121.fx 6 h106
  have h125 := ha121.fx 7 h107
  have h126 := ha121.fx 8 h117
  have h127 := ha121.fx 0 h109
  have h128 := ha121.fx 1 h110
  obtain ⟨A130, cc131, h129, hr132⟩ : (fun (v : Value) (W : World) => ∃ (A23 : Option Addr) (c24 : Nat), v = sv A23 (canon (val (canon (val a / 2 ^ T % val b)) + val (canon (val a / 2 ^ T % val b)))) c24 ∧ SOwn W w101.heap.size 50 .u32 A23 (canon (val (canon (val a / 2 ^ T % val b)) + val (canon (val a / 2 ^ T % val b)))) c24) _ _ := ha121.got 2 22 rfl (by kernel_rfl)
  have h129 : a118.eval (.tmp 22) = sv A130 (canon (val (canon (val a / 2 ^ T % val b)) + val (canon (val a / 2 ^ T % val b)))) cc131 := h129
  have hr133 := hr112.new_ hn120
  have hr134 := hr113.new_ hn120
  have hr135 := hr132.more (Nat.succ_le_of_lt (hr112.glt (by omega)))
  have hN136 := hN114.transNew hn120
  clear hs104 hd105 h106 h107 h117 h109 h110 h111 hr112 hr113 hr132 hN114 ha121 hn120
  refine st_take rfl rfl (y_assign (v := sv A130 (canon (val (canon (val a / 2 ^ T % val b)) + val (canon (val a / 2 ^ T % val b)))) cc131) rfl h129) rfl ?_
  obtain ⟨a137, ha138⟩ : ∃ a', a' = a118.put (some 7) (sv A130 (canon (val (canon (val a / 2 ^ T % val b)) + val (canon (val a / 2 ^ T % val b)))) cc131) := ⟨_, rfl⟩
  have hs139 : a137.tmps.size = 58 := by rw [ha138, put_size]; exact hs122
  have hd140 : a137.defers = [] := by rw [ha138, put_defers]; exact hd123
  have h141 : a137.eval (.tmp 6) = sv (some ⟨gg, 0, none⟩) Q cc22 := by rw [ha138, put_ne _ _ _ _ (by decide)]; exact h124
  have h142 : a137.eval (.tmp 8) = iv ((T - 1 : Nat) : Int) := by rw [ha138, put_ne _ _ _ _ (by decide)]; exact h126
  have h143 : a137.eval (.tmp 0) = sv A a c := by rw [ha138, put_ne _ _ _ _ (by decide)]; exact h127
  have h144 : a137.eval (.tmp 1) = sv B b d := by rw [ha138, put_ne _ _ _ _ (by decide)]; exact h128
  have h145 : a137.eval (.tmp 22) = sv A130 (canon (val (canon (val a / 2 ^ T % val b)) + val (canon (val a / 2 ^ T % val b)))) cc131 := by rw [ha138, put_ne _ _ _ _ (by decide)]; exact h129
  have h146 : a137.eval (.tmp 7) = sv A130 (canon (val (canon (val a / 2 ^ T % val b)) + val (canon (val a / 2 ^ T % val b)))) cc131 := by rw [ha138]; exact put_same _ _ _ (by rw [hs122]; decide)
  show stepsTo _ _ _ _ _ (a118.put (some 7) (sv A130 (canon (val (canon (val a / 2 ^ T % val b)) + val (canon (val a / 2 ^ T % val b)))) cc131)) _
  rw [← ha138]
  clear ha138 hs122 hd123 h124 h125 h126 h127 h128 h129
  refine st_nil ?_
  clear h145 hr134
  have he147 : (canon (val (canon (val a / 2 ^ T % val b)) + val (canon (val a / 2 ^ T % val b)))) = (canon (2 * (val a / 2 ^ T % val b))) := by rw [val_canon, Nat.two_mul]
  rw [he147] at h146
  rw [he147] at hr135
  refine hK116 _ _ ?_
  clear hK116 K116
  refine wp_seq_k fun K148 hK148 => ?_
  refine wp_seq_k fun K149 hK149 => ?_
  refine wp_g0 [true, true, true, true, true, true, true, true, true, true, true] [] 58
    [ve (sv A a c),
     ve (iv ((T - 1 : Nat) : Int)),
     ve (iv (((T - 1) / 32 : Nat) : Int)),
     (fun (v : Value) (W : World) => ∃ (b33 : Nat) (o34 : Nat), v = .pointer (some ⟨b33, o34, none⟩) ∧ SElem W b33 o34 (.int .u32 ((a.getD ((T - 1) / 32) 0 : Nat) : Int))),
     ve (.int .u32 ((a.getD ((T - 1) / 32) 0 : Nat) : Int)),
     ve (iv ((T - 1 : Nat) : Int)),
     ve (iv (((T - 1) % 32 : Nat) : Int)),
     ve (.int .u64 (((T - 1) % 32 : Nat) : Int)),
     ve (.int .u32 (((a.getD ((T - 1) / 32) 0) / 2 ^ ((T - 1) % 32) : Nat) : Int)),
     ve (.int .u32 ((((a.getD ((T - 1) / 32) 0) / 2 ^ ((T - 1) % 32)) % 2 : Nat) : Int)),
     ve (.bool (decide (((((a.getD ((T - 1) / 32) 0) / 2 ^ ((T - 1) % 32)) % 2 : Nat) : Int) = 1)))] hs139 (.eq (.eq (.eq (.cons (fun v W W' hn ⟨b33, o34, he, h0⟩ => ⟨b33, o34, he, h0.new_ hn⟩) (.eq (.eq (.eq (.eq (.eq (.eq (.eq (.nil)))))))))))) ?_ ?_
  · skip
    refine .o1 (tk rfl rfl fun _ w hn k => ⟨_, v_move rfl (k.fx 0 h143), rfl⟩) ?_
    refine .o1 (tk rfl rfl fun _ w hn k => ⟨_, v_move rfl (k.fx 8 h142), rfl⟩) ?_
    refine .o1 (tk rfl rfl fun _ w hn k => ⟨_, v_bin rfl (k.eq1 1 24 rfl) rfl (fun _ => rfl) (n_quoN (T - 1) 32 (by omega) (IntWalk.i64_in _ (by omega))), rfl⟩) ?_
    refine .o1 (tk rfl rfl fun _ w hn k => (by
          exact x_eaddr (k := .u32) rfl elW (k.eq1 0 23 rfl) (k.eq1 2 25 rfl) (hra.new_ (hN136.transNew hn)) (by omega) fun b31 o32 hme => ⟨b31, o32, rfl, hme⟩)) ?_
    refine .o1 (tk rfl rfl fun _ w hn k => (by
          obtain ⟨b35, o36, e37, hx38⟩ : (fun (v : Value) (W : World) => ∃ (b33 : Nat) (o34 : Nat), v = .pointer (some ⟨b33, o34, none⟩) ∧ SElem W b33 o34 (.int .u32 ((a.getD ((T - 1) / 32) 0 : Nat) : Int))) _ _ := k.dep 3 26 (by kernel_rfl) (by kernel_rfl)
          exact ⟨_, v_load rfl e37 (l_one Try.isAgg50 hx38.1), rfl⟩)) ?_
    refine .o1 (tk rfl rfl fun _ w hn k => ⟨_, v_move rfl (k.fx 8 h142), rfl⟩) ?_
    refine .o1 (tk rfl rfl fun _ w hn k => ⟨_, v_bin rfl (k.eq1 5 28 rfl) rfl (fun _ => rfl) (n_remN (T - 1) 32 (by omega)), rfl⟩) ?_
    refine .o1 (tk rfl rfl fun _ w hn k => ⟨_, v_conv rfl (k.eq1 6 29 rfl) (n_conv (by kernel_rfl) (by kernel_rfl) (by kernel_rfl) (IntWalk.u64_in _ (by omega))), rfl⟩) ?_
    refine .o1 (tk rfl rfl fun _ w hn k => ⟨_, v_bin rfl (k.eq1 4 27 rfl) (k.eq1 7 30 rfl) (fun _ => rfl) (n_shr (a.getD ((T - 1) / 32) 0) ((T - 1) % 32) (by show _ < 32; omega)), rfl⟩) ?_
    refine .o1 (tk rfl rfl fun _ w hn k => ⟨_, v_bin rfl (k.eq1 8 31 rfl) rfl (fun _ => rfl) (n_bit32 ((a.getD ((T - 1) / 32) 0) / 2 ^ ((T - 1) % 32)) (by omega)), rfl⟩) ?_
    refine .o1 (tk rfl rfl fun _ w hn k => ⟨_, v_bin rfl (k.eq1 9 32 rfl) rfl (fun _ => rfl) (r_eql rfl), rfl⟩) ?_
    exact .nil
  intro a150 w151 hn152 ha153
  have hs154 := ha153.size.trans hs139
  have hd155 := ha153.defers.trans hd140
  have h156 := ha153.fx 6 h141
  have h157 := ha153.fx 8 h142
  have h158 := ha153.fx 0 h143
  have h159 := ha153.fx 1 h144
  have h160 := ha153.fx 7 h146
  have h161 := ha153.ge 10 33 rfl
  have hr162 := hr133.new_ hn152
  have hr163 := hr135.new_ hn152
  have hN164 := hN136.transNew hn152
  clear hs139 hd140 h141 h142 h143 h144 h146 hr133 hr135 hN136 ha153 hn152
  refine st_nil ?_
  refine hK149 _ _ ?_
  clear hK149 K149
  rcases Bool.eq_false_or_eq_true (decide (((((a.getD ((T - 1) / 32) 0) / 2 ^ ((T - 1) % 32)) % 2 : Nat) : Int) = 1)) with ht165 | ht165
  · skip
    have ht165d := of_decide_eq_true ht165
    have hv166 : a150.eval (.tmp 33) = .bool true := h161.trans (congrArg Value.bool ht165)
    clear h161
    refine wp_cond_true hv166 ?_
    refine wp_g0 [true, true, true, false] [(3, true)] 58
      [ve (sv A130 (canon (2 * (val a / 2 ^ T % val b))) cc131),
       (fun (v : Value) (W : World) => ∃ (A41 : Option Addr) (c42 : Nat), v = sv A41 ([1]) c42 ∧ SOwn W w151.heap.size 50 .u32 A41 ([1]) c42),
       (fun (v : Value) (W : World) => ∃ (A49 : Option Addr) (c50 : Nat), v = sv A49 (canon (val (canon (2 * (val a / 2 ^ T % val b))) + val ([1]))) c50 ∧ SOwn W w151.heap.size 50 .u32 A49 (canon (val (canon (2 * (val a / 2 ^ T % val b))) + val ([1]))) c50),
       vt] hs154 (.eq (.cons (fun v W W' hn ⟨A41, c42, he, h0⟩ => ⟨A41, c42, he, h0.new_ hn⟩) (.cons (fun v W W' hn ⟨A49, c50, he, h0⟩ => ⟨A49, c50, he, h0.new_ hn⟩) (.tt (.nil))))) ?_ ?_
    · skip
      refine .o1 (tk rfl rfl fun _ w hn k => ⟨_, v_move rfl (k.fx 7 h160), rfl⟩) ?_
      refine .o1 (tkA rfl (noG rfl) fun _ w hn k => (by
            exact x_bslice (k := .u32) (ps := [(0, .int .u32 1)]) [1] rfl (parts1 rfl) elW rfl (by omega) (by omega) (by first | kernel_rfl | (simp only [enc, List.map_cons, List.map_nil, Int.toNat_natCast, Int.toNat_of_nonneg (by omega : (0 : Int) ≤ _)]; kernel_rfl)) fun A39 c40 W' hmo => ⟨A39, c40, rfl, (hmo.more hn.size)⟩)) ?_
      refine .o1 (tkC rfl (noG rfl) rfl fun _ w hn k => (by
            obtain ⟨A43, c44, e45, hx46⟩ : (fun (v : Value) (W : World) => ∃ (A41 : Option Addr) (c42 : Nat), v = sv A41 ([1]) c42 ∧ SOwn W w151.heap.size 50 .u32 A41 ([1]) c42) _ _ := k.dep 1 35 (by kernel_rfl) (by kernel_rfl)
            refine ⟨#[sv A130 (canon (2 * (val a / 2 ^ T % val b))) cc131, sv A43 ([1]) c44], _, args2 (k.eq1 0 34 rfl) e45, fun w => by kernel_rfl, rplus_c _ _ _ _ _ _ _ (hr163.new_ hn).row hx46.row (limbs_canon _) limbs_1 (by first | omega | (simp only [List.length_nil, List.length_cons, List.length_set, List.length_replicate]; omega)) (by first | omega | (simp only [List.length_nil, List.length_cons, List.length_set, List.length_replicate]; omega)), ?_⟩
            rintro e w' ⟨A47, c48, rfl, hmo, hm⟩
            exact ⟨_, rfl, hm, ⟨A47, c48, rfl, (hmo.more hn.size)⟩⟩)) ?_
      refine .off ?_
      exact .nil
    intro a167 w168 hn169 ha170
    have hs171 := ha170.size.trans hs154
    have hd172 := ha170.defers.trans hd155
    have h173 := ha170.fx 6 h156
    have h174 := ha170.fx 8 h157
    have h175 := ha170.fx 0 h158
    have h176 := ha170.fx 1 h159
    have h177 := ha170.fx 7 h160
    obtain ⟨A179, cc180, h178, hr181⟩ : (fun (v : Value) (W : World) => ∃ (A49 : Option Addr) (c50 : Nat), v = sv A49 (canon (val (canon (2 * (val a / 2 ^ T % val b))) + val ([1]))) c50 ∧ SOwn W w151.heap.size 50 .u32 A49 (canon (val (canon (2 * (val a / 2 ^ T % val b))) + val ([1]))) c50) _ _ := ha170.got 2 36 rfl (by kernel_rfl)
    have h178 : a167.eval (.tmp 36) = sv A179 (canon (val (canon (2 * (val a / 2 ^ T % val b))) + val ([1]))) cc180 := h178
    have hr182 := hr162.new_ hn169
    have hr183 := hr163.new_ hn169
    have hr184 := hr181.more (Nat.succ_le_of_lt (hr162.glt (by omega)))
    have hN185 := hN164.transNew hn169
    clear hs154 hd155 h156 h157 h158 h159 h160 hv166 hr162 hr163 hr181 hN164 ha170 hn169
    refine st_take rfl rfl (y_assign (v := sv A179 (canon (val (canon (2 * (val a / 2 ^ T % val b))) + val ([1]))) cc180) rfl h178) rfl ?_
    obtain ⟨a186, ha187⟩ : ∃ a', a' = a167.put (some 7) (sv A179 (canon (val (canon (2 * (val a / 2 ^ T % val b))) + val ([1]))) cc180) := ⟨_, rfl⟩
    have hs188 : a186.tmps.size = 58 := by rw [ha187, put_size]; exact hs171
    have hd189 : a186.defers = [] := by rw [ha187, put_defers]; exact hd172
    have h190 : a186.eval (.tmp 6) = sv (some ⟨gg, 0, none⟩) Q cc22 := by rw [ha187, put_ne _ _ _ _ (by decide)]; exact h173
    have h191 : a186.eval (.tmp 8) = iv ((T - 1 : Nat) : Int) := by rw [ha187, put_ne _ _ _ _ (by decide)]; exact h174
    have h192 : a186.eval (.tmp 0) = sv A a c := by rw [ha187, put_ne _ _ _ _ (by decide)]; exact h175
    have h193 : a186.eval (.tmp 1) = sv B b d := by rw [ha187, put_ne _ _ _ _ (by decide)]; exact h176
    have h194 : a186.eval (.tmp 36) = sv A179 (canon (val (canon (2 * (val a / 2 ^ T % val b))) + val ([1]))) cc180 := by rw [ha187, put_ne _ _ _ _ (by decide)]; exact h178
    have h195 : a186.eval (.tmp 7) = sv A179 (canon (val (canon (2 * (val a / 2 ^ T % val b))) + val ([1]))) cc180 := by rw [ha187]; exact put_same _ _ _ (by rw [hs171]; decide)
    show stepsTo _ _ _ _ _ (a167.put (some 7) (sv A179 (canon (val (canon (2 * (val a / 2 ^ T % val b))) + val ([1]))) cc180)) _
    rw [← ha187]
    clear ha187 hs171 hd172 h173 h174 h175 h176 h177 h178
    refine st_nil ?_
    clear h194 hr183
    have he196 : (canon (val (canon (2 * (val a / 2 ^ T % val b))) + val ([1]))) = (canon (2 * (val a / 2 ^ T % val b) + 1)) := by rw [val_canon, val_one]
    rw [he196] at h195
    rw [he196] at hr184
    refine hK148 _ _ ?_
    clear hK148 K148
    refine wp_seq_k fun K197 hK197 => ?_
    rcases Bool.eq_false_or_eq_true (decide ((cmpN (val (canon (2 * (val a / 2 ^ T % val b) + 1))) (val b)) < 0)) with ht198 | ht198
    · skip
      have ht198d := of_decide_eq_true ht198
      refine wp_g0 [true, true, true, true] [] 58
        [ve (sv A179 (canon (2 * (val a / 2 ^ T % val b) + 1)) cc180),
         ve (sv B b d),
         ve (iv (cmpN (val (canon (2 * (val a / 2 ^ T % val b) + 1))) (val b))),
         ve (.bool false)] hs188 (.eq (.eq (.eq (.eq (.nil))))) ?_ ?_
      · skip
        refine .o1 (tk rfl rfl fun _ w hn k => ⟨_, v_move rfl (k.fx 7 h195), rfl⟩) ?_
        refine .o1 (tk rfl rfl fun _ w hn k => ⟨_, v_move rfl (k.fx 1 h193), rfl⟩) ?_
        refine .o1 (ck rfl rfl rfl (fun _ w hn k => ⟨#[sv A179 (canon (2 * (val a / 2 ^ T % val b) + 1)) cc180, sv B b d], args2 (k.eq1 0 37 rfl) (k.eq1 1 38 rfl), fun _ => by kernel_rfl, rcmp_c _ _ _ _ _ _ _ (hr184.new_ hn).row (hrb.new_ (hN185.transNew hn)) (limbs_canon _) hb (by first | omega | (simp only [List.length_nil, List.length_cons, List.length_set, List.length_replicate]; omega)) (by first | omega | (simp only [List.length_nil, List.length_cons, List.length_set, List.length_replicate]; omega))⟩) fun _ => rfl) ?_
        refine .o1 (tk rfl rfl fun _ w hn k => ⟨_, v_bin rfl (k.eq1 2 39 rfl) rfl (fun _ => rfl) (r_geqK ht198), rfl⟩) ?_
        exact .nil
      intro a199 w200 hn201 ha202
      have hs203 := ha202.size.trans hs188
      have hd204 := ha202.defers.trans hd189
      have h205 := ha202.fx 6 h190
      have h206 := ha202.fx 8 h191
      have h207 := ha202.fx 0 h192
      have h208 := ha202.fx 1 h193
      have h209 := ha202.fx 7 h195
      have h210 := ha202.ge 3 40 rfl
      have hr211 := hr182.new_ hn201
      have hr212 := hr184.new_ hn201
      have hN213 := hN185.transNew hn201
      clear hs188 hd189 h190 h191 h192 h193 h195 hr182 hr184 hN185 ha202 hn201
      refine st_nil ?_
      refine hK197 _ _ ?_
      clear hK197 K197
      refine wp_cond_false h210 ?_
      refine wp_skip ?_
      refine hK115 _ _ ?_
      clear hK115 K115
      refine wp_g0 [true, true, false] [(2, true)] 58
        [ve (iv ((T - 1 : Nat) : Int)),
         ve (iv (((T - 1 : Nat) : Int) - 1)),
         vt] hs203 (.eq (.eq (.tt (.nil)))) ?_ ?_
      · skip
        refine .o1 (tk rfl rfl fun _ w hn k => ⟨_, v_move rfl (k.fx 8 h206), rfl⟩) ?_
        refine .o1 (tk rfl rfl fun _ w hn k => ⟨_, v_bin rfl (k.eq1 0 18 rfl) rfl (fun _ => rfl) (r_sub rfl (by omega)), rfl⟩) ?_
        refine .off ?_
        exact .nil
      intro a214 w215 hn216 ha217
      have hs218 := ha217.size.trans hs203
      have hd219 := ha217.defers.trans hd204
      have h220 := ha217.fx 6 h205
      have h221 := ha217.fx 8 h206
      have h222 := ha217.fx 0 h207
      have h223 := ha217.fx 1 h208
      have h224 := ha217.fx 7 h209
      have h225 := ha217.ge 1 19 rfl
      have hr226 := hr211.new_ hn216
      have hr227 := hr212.new_ hn216
      have hN228 := hN213.transNew hn216
      clear hs203 hd204 h205 h206 h207 h208 h209 h210 hr211 hr212 hN213 ha217 hn216
      refine st_take rfl rfl (y_assign (v := iv (((T - 1 : Nat) : Int) - 1)) rfl h225) rfl ?_
      obtain ⟨a229, ha230⟩ : ∃ a', a' = a214.put (some 8) (iv (((T - 1 : Nat) : Int) - 1)) := ⟨_, rfl⟩
      have hs231 : a229.tmps.size = 58 := by rw [ha230, put_size]; exact hs218
      have hd232 : a229.defers = [] := by rw [ha230, put_defers]; exact hd219
      have h233 : a229.eval (.tmp 6) = sv (some ⟨gg, 0, none⟩) Q cc22 := by rw [ha230, put_ne _ _ _ _ (by decide)]; exact h220
      have h234 : a229.eval (.tmp 0) = sv A a c := by rw [ha230, put_ne _ _ _ _ (by decide)]; exact h222
      have h235 : a229.eval (.tmp 1) = sv B b d := by rw [ha230, put_ne _ _ _ _ (by decide)]; exact h223
      have h236 : a229.eval (.tmp 7) = sv A179 (canon (2 * (val a / 2 ^ T % val b) + 1)) cc180 := by rw [ha230, put_ne _ _ _ _ (by decide)]; exact h224
      have h237 : a229.eval (.tmp 19) = iv (((T - 1 : Nat) : Int) - 1) := by rw [ha230, put_ne _ _ _ _ (by decide)]; exact h225
      have h238 : a229.eval (.tmp 8) = iv (((T - 1 : Nat) : Int) - 1) := by rw [ha230]; exact put_same _ _ _ (by rw [hs218]; decide)
      show stepsTo _ _ _ _ _ (a214.put (some 8) (iv (((T - 1 : Nat) : Int) - 1))) _
      rw [← ha230]
      clear ha230 hs218 hd219 h220 h221 h222 h223 h224 h225
      refine st_nil ?_
      clear h237
      refine then_n ?_
      have hno := div_no1 (Q := Q) hb0 hbt (c := 1) (by omega) (by omega) (bit_one ht165) hq (by have := cmpN_lt ht198; rw [val_canon] at this; exact this)
      have he239 : (canon (2 * (val a / 2 ^ T % val b) + 1)) = (canon (val a / 2 ^ (T - 1) % val b)) := congrArg canon hno.1
      rw [he239] at h236
      rw [he239] at hr227
      exact ⟨_, ⟨T - 1, Q, A179, cc180, rfl, hs231, hd232, hN228, h233, h236, (h238.trans (congrArg (Value.int .i64) (by omega))), h234, h235, hr226, hr227, (by omega), hQ, hln, hno.2⟩, (by omega)⟩
    have ht198d := of_decide_eq_false ht198
    refine wp_g0 [true, true, true, true] [] 58
      [ve (sv A179 (canon (2 * (val a / 2 ^ T % val b) + 1)) cc180),
       ve (sv B b d),
       ve (iv (cmpN (val (canon (2 * (val a / 2 ^ T % val b) + 1))) (val b))),
       ve (.bool true)] hs188 (.eq (.eq (.eq (.eq (.nil))))) ?_ ?_
    · skip
      refine .o1 (tk rfl rfl fun _ w hn k => ⟨_, v_move rfl (k.fx 7 h195), rfl⟩) ?_
      refine .o1 (tk rfl rfl fun _ w hn k => ⟨_, v_move rfl (k.fx 1 h193), rfl⟩) ?_
      refine .o1 (ck rfl rfl rfl (fun _ w hn k => ⟨#[sv A179 (canon (2 * (val a / 2 ^ T % val b) + 1)) cc180, sv B b d], args2 (k.eq1 0 37 rfl) (k.eq1 1 38 rfl), fun _ => by kernel_rfl, rcmp_c _ _ _ _ _ _ _ (hr184.new_ hn).row (hrb.new_ (hN185.transNew hn)) (limbs_canon _) hb (by first | omega | (simp only [List.length_nil, List.length_cons, List.length_set, List.length_replicate]; omega)) (by first | omega | (simp only [List.length_nil, List.length_cons, List.length_set, List.length_replicate]; omega))⟩) fun _ => rfl) ?_
      refine .o1 (tk rfl rfl fun _ w hn k => ⟨_, v_bin rfl (k.eq1 2 39 rfl) rfl (fun _ => rfl) (r_geqK ht198), rfl⟩) ?_
      exact .nil
    intro a240 w241 hn242 ha243
    have hs244 := ha243.size.trans hs188
    have hd245 := ha243.defers.trans hd189
    have h246 := ha243.fx 6 h190
    have h247 := ha243.fx 8 h191
    have h248 := ha243.fx 0 h192
    have h249 := ha243.fx 1 h193
    have h250 := ha243.fx 7 h195
    have h251 := ha243.ge 3 40 rfl
    have hr252 := hr182.new_ hn242
    have hr253 := hr184.new_ hn242
    have hN254 := hN185.transNew hn242
    clear hs188 hd189 h190 h191 h192 h193 h195 hr182 hr184 hN185 ha243 hn242
    refine st_nil ?_
    refine hK197 _ _ ?_
    clear hK197 K197
    refine wp_cond_true h251 ?_
    refine wp_seq_k fun K255 hK255 => ?_
    refine wp_g0 [true, true, true, false] [(3, true)] 58
      [ve (sv A179 (canon (2 * (val a / 2 ^ T % val b) + 1)) cc180),
       ve (sv B b d),
       (fun (v : Value) (W : World) => ∃ (A59 : Option Addr) (c60 : Nat), v = sv A59 (canon (val (canon (2 * (val a / 2 ^ T % val b) + 1)) - val b)) c60 ∧ SOwn W w241.heap.size 50 .u32 A59 (canon (val (canon (2 * (val a / 2 ^ T % val b) + 1)) - val b)) c60),
       vt] hs244 (.eq (.eq (.cons (fun v W W' hn ⟨A59, c60, he, h0⟩ => ⟨A59, c60, he, h0.new_ hn⟩) (.tt (.nil))))) ?_ ?_
    · skip
      refine .o1 (tk rfl rfl fun _ w hn k => ⟨_, v_move rfl (k.fx 7 h250), rfl⟩) ?_
      refine .o1 (tk rfl rfl fun _ w hn k => ⟨_, v_move rfl (k.fx 1 h249), rfl⟩) ?_
      refine .o1 (tkC rfl (noG rfl) rfl fun _ w hn k => (by
            refine ⟨#[sv A179 (canon (2 * (val a / 2 ^ T % val b) + 1)) cc180, sv B b d], _, args2 (k.eq1 0 41 rfl) (k.eq1 1 42 rfl), fun w => by kernel_rfl, rminus_c _ _ _ _ _ _ _ (hr253.new_ hn).row (hrb.new_ (hN254.transNew hn)) (limbs_canon _) hb (by first | omega | (simp only [List.length_nil, List.length_cons, List.length_set, List.length_replicate]; omega)) (by first | omega | (simp only [List.length_nil, List.length_cons, List.length_set, List.length_replicate]; omega)) (cmpN_ge ht198), ?_⟩
            rintro e w' ⟨A57, c58, rfl, hmo, hm⟩
            exact ⟨_, rfl, hm, ⟨A57, c58, rfl, (hmo.more hn.size)⟩⟩)) ?_
      refine .off ?_
      exact .nil
    intro a256 w257 hn258 ha259
    have hs260 := ha259.size.trans hs244
    have hd261 := ha259.defers.trans hd245
    have h262 := ha259.fx 6 h246
    have h263 := ha259.fx 8 h247
    have h264 := ha259.fx 0 h248
    have h265 := ha259.fx 1 h249
    have h266 := ha259.fx 7 h250
    obtain ⟨A268, cc269, h267, hr270⟩ : (fun (v : Value) (W : World) => ∃ (A59 : Option Addr) (c60 : Nat), v = sv A59 (canon (val (canon (2 * (val a / 2 ^ T % val b) + 1)) - val b)) c60 ∧ SOwn W w241.heap.size 50 .u32 A59 (canon (val (canon (2 * (val a / 2 ^ T % val b) + 1)) - val b)) c60) _ _ := ha259.got 2 43 rfl (by kernel_rfl)
    have h267 : a256.eval (.tmp 43) = sv A268 (canon (val (canon (2 * (val a / 2 ^ T % val b) + 1)) - val b)) cc269 := h267
    have hr271 := hr252.new_ hn258
    have hr272 := hr253.new_ hn258
    have hr273 := hr270.more (Nat.succ_le_of_lt (hr252.glt (by omega)))
    have hN274 := hN254.transNew hn258
    clear hs244 hd245 h246 h247 h248 h249 h250 h251 hr252 hr253 hr270 hN254 ha259 hn258
    refine st_take rfl rfl (y_assign (v := sv A268 (canon (val (canon (2 * (val a / 2 ^ T % val b) + 1)) - val b)) cc269) rfl h267) rfl ?_
    obtain ⟨a275, ha276⟩ : ∃ a', a' = a256.put (some 7) (sv A268 (canon (val (canon (2 * (val a / 2 ^ T % val b) + 1)) - val b)) cc269) := ⟨_, rfl⟩
    have hs277 : a275.tmps.size = 58 := by rw [ha276, put_size]; exact hs260
    have hd278 : a275.defers = [] := by rw [ha276, put_defers]; exact hd261
    have h279 : a275.eval (.tmp 6) = sv (some ⟨gg, 0, none⟩) Q cc22 := by rw [ha276, put_ne _ _ _ _ (by decide)]; exact h262
    have h280 : a275.eval (.tmp 8) = iv ((T - 1 : Nat) : Int) := by rw [ha276, put_ne _ _ _ _ (by decide)]; exact h263
    have h281 : a275.eval (.tmp 0) = sv A a c := by rw [ha276, put_ne _ _ _ _ (by decide)]; exact h264
    have h282 : a275.eval (.tmp 1) = sv B b d := by rw [ha276, put_ne _ _ _ _ (by decide)]; exact h265
    have h283 : a275.eval (.tmp 43) = sv A268 (canon (val (canon (2 * (val a / 2 ^ T % val b) + 1)) - val b)) cc269 := by rw [ha276, put_ne _ _ _ _ (by decide)]; exact h267
    have h284 : a275.eval (.tmp 7) = sv A268 (canon (val (canon (2 * (val a / 2 ^ T % val b) + 1)) - val b)) cc269 := by rw [ha276]; exact put_same _ _ _ (by rw [hs260]; decide)
    show stepsTo _ _ _ _ _ (a256.put (some 7) (sv A268 (canon (val (canon (2 * (val a / 2 ^ T % val b) + 1)) - val b)) cc269)) _
    rw [← ha276]
    clear ha276 hs260 hd261 h262 h263 h264 h265 h266 h267
    refine st_nil ?_
    clear h283 hr272
    have hyes := div_yes1 (Q := Q) hb0 hbt (c := 1) (by omega) (by omega) (bit_one ht165) hq (by have := cmpN_ge ht198; rw [val_canon] at this; exact this)
    have he285 : (canon (val (canon (2 * (val a / 2 ^ T % val b) + 1)) - val b)) = (canon (val a / 2 ^ (T - 1) % val b)) := (congrArg (fun z => canon (z - val b)) (val_canon _)).trans (congrArg canon hyes.1.symm)
    rw [he285] at h284
    rw [he285] at hr273
    refine hK255 _ _ ?_
    clear hK255 K255
    have hset := set_bit_at hQ (T := T) (by omega) (by omega) hq
    have hQj := hQ.at ((T - 1) / 32)
    have hor := hset.2.2
    have hps : 2 ^ ((T - 1) % 32) < 2 ^ 32 := Nat.pow_lt_pow_right (by omega) (by omega)
    refine wp_g0 [true, true, true, true, true, true, true, true, true, true, true, false] [(11, false)] 58
      [ve (sv (some ⟨gg, 0, none⟩) Q cc22),
       ve (iv ((T - 1 : Nat) : Int)),
       ve (iv (((T - 1) / 32 : Nat) : Int)),
       ve (.pointer (some ⟨gg, ((T - 1) / 32), none⟩)),
       ve (.int .u32 ((Q.getD ((T - 1) / 32) 0 : Nat) : Int)),
       ve (iv ((T - 1 : Nat) : Int)),
       ve (iv (((T - 1) % 32 : Nat) : Int)),
       ve (.int .u64 (((T - 1) % 32 : Nat) : Int)),
       ve (.int .u32 ((1 * 2 ^ ((T - 1) % 32) : Nat) : Int)),
       ve (.int .u32 (((Q.getD ((T - 1) / 32) 0) ||| (1 * 2 ^ ((T - 1) % 32)) : Nat) : Int)),
       ve (.pointer (some ⟨gg, ((T - 1) / 32), none⟩)),
       vt] hs277 (.eq (.eq (.eq (.eq (.eq (.eq (.eq (.eq (.eq (.eq (.eq (.tt (.nil))))))))))))) ?_ ?_
    · skip
      refine .o1 (tk rfl rfl fun _ w hn k => ⟨_, v_move rfl (k.fx 6 h279), rfl⟩) ?_
      refine .o1 (tk rfl rfl fun _ w hn k => ⟨_, v_move rfl (k.fx 8 h280), rfl⟩) ?_
      refine .o1 (tk rfl rfl fun _ w hn k => ⟨_, v_bin rfl (k.eq1 1 45 rfl) rfl (fun _ => rfl) (n_quoN (T - 1) 32 (by omega) (IntWalk.i64_in _ (by omega))), rfl⟩) ?_
      refine .o1 (tk rfl rfl fun _ w hn k => ⟨_, v_eptr rfl elW (k.eq1 0 44 rfl) (k.eq1 2 46 rfl) (by omega), rfl⟩) ?_
      refine .o1 (tk rfl rfl fun _ w hn k => ⟨_, v_load rfl (k.eq1 3 47 rfl) (l_own Try.isAgg50 (hr271.new_ hn).row (by omega)), rfl⟩) ?_
      refine .o1 (tk rfl rfl fun _ w hn k => ⟨_, v_move rfl (k.fx 8 h280), rfl⟩) ?_
      refine .o1 (tk rfl rfl fun _ w hn k => ⟨_, v_bin rfl (k.eq1 5 49 rfl) rfl (fun _ => rfl) (n_remN (T - 1) 32 (by omega)), rfl⟩) ?_
      refine .o1 (tk rfl rfl fun _ w hn k => ⟨_, v_conv rfl (k.eq1 6 50 rfl) (n_conv (by kernel_rfl) (by kernel_rfl) (by kernel_rfl) (IntWalk.u64_in _ (by omega))), rfl⟩) ?_
      refine .o1 (tk rfl rfl fun _ w hn k => ⟨_, v_bin rfl rfl (k.eq1 7 51 rfl) (fun _ => rfl) (n_shl 1 ((T - 1) % 32) (by show _ < 32; omega) (pow_wrap32 _ (by omega))), rfl⟩) ?_
      refine .o1 (tk rfl rfl fun _ w hn k => ⟨_, v_bin rfl (k.eq1 4 48 rfl) (k.eq1 8 52 rfl) (fun _ => rfl) (n_orU32 (Q.getD ((T - 1) / 32) 0) (1 * 2 ^ ((T - 1) % 32)) (by omega) (by omega)), rfl⟩) ?_
      refine .o1 (tk rfl rfl fun _ w hn k => ⟨_, v_eptr rfl elW (k.eq1 0 44 rfl) (k.eq1 2 46 rfl) (by omega), rfl⟩) ?_
      refine .off ?_
      exact .nil
    intro a286 w287 hn288 ha289
    have hs290 := ha289.size.trans hs277
    have hd291 := ha289.defers.trans hd278
    have h292 := ha289.fx 6 h279
    have h293 := ha289.fx 8 h280
    have h294 := ha289.fx 0 h281
    have h295 := ha289.fx 1 h282
    have h296 := ha289.fx 7 h284
    have h297 := ha289.ge 9 53 rfl
    have h298 := ha289.ge 10 54 rfl
    have hr299 := hr271.new_ hn288
    have hr300 := hr273.new_ hn288
    have hN301 := hN274.transNew hn288
    clear hs277 hd278 h279 h280 h281 h282 h284 hr271 hr273 hN274 ha289 hn288
    obtain ⟨w302, -, hst303, hr304, hge305, hu306, hf307⟩ := s_elem (P := Try.prog) (t := 50) (i := ((T - 1) / 32)) ((((Q.getD ((T - 1) / 32) 0) ||| (1 * 2 ^ ((T - 1) % 32)) : Nat) : Int)) Try.sizeOf50 hr299 (by omega) (by omega)
    refine st_act rfl rfl fun K308 hL309 => a_store' rfl h298 h297 hst303 (hL309 _ _ trivial ?_)
    have hr310 := hr300.above hu306
    have hN311 := hN301.trans hu306 (fun k hk hkb => by subst hkb; omega)
    have h312 : a286.eval (.tmp 6) = sv (some ⟨gg, 0, none⟩) (Q.set ((T - 1) / 32) ((Q.getD ((T - 1) / 32) 0) ||| (1 * 2 ^ ((T - 1) % 32)))) cc22 := h292.trans (sv_set _ _ _ _ _)
    clear hr299 hst303 K308 hL309 hN301 hr300 h292 hge305 hu306 hf307
    refine st_nil ?_
    clear h297 h298
    refine hK115 _ _ ?_
    clear hK115 K115
    refine wp_g0 [true, true, false] [(2, true)] 58
      [ve (iv ((T - 1 : Nat) : Int)),
       ve (iv (((T - 1 : Nat) : Int) - 1)),
       vt] hs290 (.eq (.eq (.tt (.nil)))) ?_ ?_
    · skip
      refine .o1 (tk rfl rfl fun _ w hn k => ⟨_, v_move rfl (k.fx 8 h293), rfl⟩) ?_
      refine .o1 (tk rfl rfl fun _ w hn k => ⟨_, v_bin rfl (k.eq1 0 18 rfl) rfl (fun _ => rfl) (r_sub rfl (by omega)), rfl⟩) ?_
      refine .off ?_
      exact .nil
    intro a313 w314 hn315 ha316
    have hs317 := ha316.size.trans hs290
    have hd318 := ha316.defers.trans hd291
    have h319 := ha316.fx 6 h312
    have h320 := ha316.fx 8 h293
    have h321 := ha316.fx 0 h294
    have h322 := ha316.fx 1 h295
    have h323 := ha316.fx 7 h296
    have h324 := ha316.ge 1 19 rfl
    have hr325 := hr304.new_ hn315
    have hr326 := hr310.new_ hn315
    have hN327 := hN311.transNew hn315
    clear hs290 hd291 h312 h293 h294 h295 h296 hr304 hr310 hN311 ha316 hn315
    refine st_take rfl rfl (y_assign (v := iv (((T - 1 : Nat) : Int) - 1)) rfl h324) rfl ?_
    obtain ⟨a328, ha329⟩ : ∃ a', a' = a313.put (some 8) (iv (((T - 1 : Nat) : Int) - 1)) := ⟨_, rfl⟩
    have hs330 : a328.tmps.size = 58 := by rw [ha329, put_size]; exact hs317
    have hd331 : a328.defers = [] := by rw [ha329, put_defers]; exact hd318
    have h332 : a328.eval (.tmp 6) = sv (some ⟨gg, 0, none⟩) (Q.set ((T - 1) / 32) ((Q.getD ((T - 1) / 32) 0) ||| (1 * 2 ^ ((T - 1) % 32)))) cc22 := by rw [ha329, put_ne _ _ _ _ (by decide)]; exact h319
    have h333 : a328.eval (.tmp 0) = sv A a c := by rw [ha329, put_ne _ _ _ _ (by decide)]; exact h321
    have h334 : a328.eval (.tmp 1) = sv B b d := by rw [ha329, put_ne _ _ _ _ (by decide)]; exact h322
    have h335 : a328.eval (.tmp 7) = sv A268 (canon (val a / 2 ^ (T - 1) % val b)) cc269 := by rw [ha329, put_ne _ _ _ _ (by decide)]; exact h323
    have h336 : a328.eval (.tmp 19) = iv (((T - 1 : Nat) : Int) - 1) := by rw [ha329, put_ne _ _ _ _ (by decide)]; exact h324
    have h337 : a328.eval (.tmp 8) = iv (((T - 1 : Nat) : Int) - 1) := by rw [ha329]; exact put_same _ _ _ (by rw [hs317]; decide)
    show stepsTo _ _ _ _ _ (a313.put (some 8) (iv (((T - 1 : Nat) : Int) - 1))) _
    rw [← ha329]
    clear ha329 hs317 hd318 h319 h320 h321 h322 h323 h324
    refine st_nil ?_
    clear h336
    refine then_n ?_
    exact ⟨_, ⟨T - 1, (Q.set ((T - 1) / 32) ((Q.getD ((T - 1) / 32) 0) ||| (1 * 2 ^ ((T - 1) % 32)))), A268, cc269, rfl, hs330, hd331, hN327, h332, h335, (h337.trans (congrArg (Value.int .i64) (by omega))), h333, h334, hr325, hr326, (by omega), (by rw [Nat.one_mul]; exact hset.1), (by rw [List.length_set]; exact hln), (by rw [Nat.one_mul]; exact hset.2.1.trans hyes.2)⟩, (by omega)⟩
  have ht165d := of_decide_eq_false ht165
  have hv338 : a150.eval (.tmp 33) = .bool false := h161.trans (congrArg Value.bool ht165)
  clear h161
  refine wp_cond_false hv338 ?_
  refine wp_skip ?_
  refine hK148 _ _ ?_
  clear hK148 K148
  refine wp_seq_k fun K339 hK339 => ?_
  rcases Bool.eq_false_or_eq_true (decide ((cmpN (val (canon (2 * (val a / 2 ^ T % val b)))) (val b)) < 0)) with ht340 | ht340
  · skip
    have ht340d := of_decide_eq_true ht340
    refine wp_g0 [true, true, true, true] [] 58
      [ve (sv A130 (canon (2 * (val a / 2 ^ T % val b))) cc131),
       ve (sv B b d),
       ve (iv (cmpN (val (canon (2 * (val a / 2 ^ T % val b)))) (val b))),
       ve (.bool false)] hs154 (.eq (.eq (.eq (.eq (.nil))))) ?_ ?_
    · skip
      refine .o1 (tk rfl rfl fun _ w hn k => ⟨_, v_move rfl (k.fx 7 h160), rfl⟩) ?_
      refine .o1 (tk rfl rfl fun _ w hn k => ⟨_, v_move rfl (k.fx 1 h159), rfl⟩) ?_
      refine .o1 (ck rfl rfl rfl (fun _ w hn k => ⟨#[sv A130 (canon (2 * (val a / 2 ^ T % val b))) cc131, sv B b d], args2 (k.eq1 0 37 rfl) (k.eq1 1 38 rfl), fun _ => by kernel_rfl, rcmp_c _ _ _ _ _ _ _ (hr163.new_ hn).row (hrb.new_ (hN164.transNew hn)) (limbs_canon _) hb (by first | omega | (simp only [List.length_nil, List.length_cons, List.length_set, List.length_replicate]; omega)) (by first | omega | (simp only [List.length_nil, List.length_cons, List.length_set, List.length_replicate]; omega))⟩) fun _ => rfl) ?_
      refine .o1 (tk rfl rfl fun _ w hn k => ⟨_, v_bin rfl (k.eq1 2 39 rfl) rfl (fun _ => rfl) (r_geqK ht340), rfl⟩) ?_
      exact .nil
    intro a341 w342 hn343 ha344
    have hs345 := ha344.size.trans hs154
    have hd346 := ha344.defers.trans hd155
    have h347 := ha344.fx 6 h156
    have h348 := ha344.fx 8 h157
    have h349 := ha344.fx 0 h158
    have h350 := ha344.fx 1 h159
    have h351 := ha344.fx 7 h160
    have h352 := ha344.ge 3 40 rfl
    have hr353 := hr162.new_ hn343
    have hr354 := hr163.new_ hn343
    have hN355 := hN164.transNew hn343
    clear hs154 hd155 h156 h157 h158 h159 h160 hv338 hr162 hr163 hN164 ha344 hn343
    refine st_nil ?_
    refine hK339 _ _ ?_
    clear hK339 K339
    refine wp_cond_false h352 ?_
    refine wp_skip ?_
    refine hK115 _ _ ?_
    clear hK115 K115
    refine wp_g0 [true, true, false] [(2, true)] 58
      [ve (iv ((T - 1 : Nat) : Int)),
       ve (iv (((T - 1 : Nat) : Int) - 1)),
       vt] hs345 (.eq (.eq (.tt (.nil)))) ?_ ?_
    · skip
      refine .o1 (tk rfl rfl fun _ w hn k => ⟨_, v_move rfl (k.fx 8 h348), rfl⟩) ?_
      refine .o1 (tk rfl rfl fun _ w hn k => ⟨_, v_bin rfl (k.eq1 0 18 rfl) rfl (fun _ => rfl) (r_sub rfl (by omega)), rfl⟩) ?_
      refine .off ?_
      exact .nil
    intro a356 w357 hn358 ha359
    have hs360 := ha359.size.trans hs345
    have hd361 := ha359.defers.trans hd346
    have h362 := ha359.fx 6 h347
    have h363 := ha359.fx 8 h348
    have h364 := ha359.fx 0 h349
    have h365 := ha359.fx 1 h350
    have h366 := ha359.fx 7 h351
    have h367 := ha359.ge 1 19 rfl
    have hr368 := hr353.new_ hn358
    have hr369 := hr354.new_ hn358
    have hN370 := hN355.transNew hn358
    clear hs345 hd346 h347 h348 h349 h350 h351 h352 hr353 hr354 hN355 ha359 hn358
    refine st_take rfl rfl (y_assign (v := iv (((T - 1 : Nat) : Int) - 1)) rfl h367) rfl ?_
    obtain ⟨a371, ha372⟩ : ∃ a', a' = a356.put (some 8) (iv (((T - 1 : Nat) : Int) - 1)) := ⟨_, rfl⟩
    have hs373 : a371.tmps.size = 58 := by rw [ha372, put_size]; exact hs360
    have hd374 : a371.defers = [] := by rw [ha372, put_defers]; exact hd361
    have h375 : a371.eval (.tmp 6) = sv (some ⟨gg, 0, none⟩) Q cc22 := by rw [ha372, put_ne _ _ _ _ (by decide)]; exact h362
    have h376 : a371.eval (.tmp 0) = sv A a c := by rw [ha372, put_ne _ _ _ _ (by decide)]; exact h364
    have h377 : a371.eval (.tmp 1) = sv B b d := by rw [ha372, put_ne _ _ _ _ (by decide)]; exact h365
    have h378 : a371.eval (.tmp 7) = sv A130 (canon (2 * (val a / 2 ^ T % val b))) cc131 := by rw [ha372, put_ne _ _ _ _ (by decide)]; exact h366
    have h379 : a371.eval (.tmp 19) = iv (((T - 1 : Nat) : Int) - 1) := by rw [ha372, put_ne _ _ _ _ (by decide)]; exact h367
    have h380 : a371.eval (.tmp 8) = iv (((T - 1 : Nat) : Int) - 1) := by rw [ha372]; exact put_same _ _ _ (by rw [hs360]; decide)
    show stepsTo _ _ _ _ _ (a356.put (some 8) (iv (((T - 1 : Nat) : Int) - 1))) _
    rw [← ha372]
    clear ha372 hs360 hd361 h362 h363 h364 h365 h366 h367
    refine st_nil ?_
    clear h379
    refine then_n ?_
    have hno := div_no1 (Q := Q) hb0 hbt (c := 0) (by omega) (by omega) (bit_nil ht165) hq (by have := cmpN_lt ht340; rw [val_canon] at this; exact this)
    have he381 : (canon (2 * (val a / 2 ^ T % val b))) = (canon (val a / 2 ^ (T - 1) % val b)) := congrArg canon hno.1
    rw [he381] at h378
    rw [he381] at hr369
    exact ⟨_, ⟨T - 1, Q, A130, cc131, rfl, hs373, hd374, hN370, h375, h378, (h380.trans (congrArg (Value.int .i64) (by omega))), h376, h377, hr368, hr369, (by omega), hQ, hln, hno.2⟩, (by omega)⟩
  have ht340d := of_decide_eq_false ht340
  refine wp_g0 [true, true, true, true] [] 58
    [ve (sv A130 (canon (2 * (val a / 2 ^ T % val b))) cc131),
     ve (sv B b d),
     ve (iv (cmpN (val (canon (2 * (val a / 2 ^ T % val b)))) (val b))),
     ve (.bool true)] hs154 (.eq (.eq (.eq (.eq (.nil))))) ?_ ?_
  · skip
    refine .o1 (tk rfl rfl fun _ w hn k => ⟨_, v_move rfl (k.fx 7 h160), rfl⟩) ?_
    refine .o1 (tk rfl rfl fun _ w hn k => ⟨_, v_move rfl (k.fx 1 h159), rfl⟩) ?_
    refine .o1 (ck rfl rfl rfl (fun _ w hn k => ⟨#[sv A130 (canon (2 * (val a / 2 ^ T % val b))) cc131, sv B b d], args2 (k.eq1 0 37 rfl) (k.eq1 1 38 rfl), fun _ => by kernel_rfl, rcmp_c _ _ _ _ _ _ _ (hr163.new_ hn).row (hrb.new_ (hN164.transNew hn)) (limbs_canon _) hb (by first | omega | (simp only [List.length_nil, List.length_cons, List.length_set, List.length_replicate]; omega)) (by first | omega | (simp only [List.length_nil, List.length_cons, List.length_set, List.length_replicate]; omega))⟩) fun _ => rfl) ?_
    refine .o1 (tk rfl rfl fun _ w hn k => ⟨_, v_bin rfl (k.eq1 2 39 rfl) rfl (fun _ => rfl) (r_geqK ht340), rfl⟩) ?_
    exact .nil
  intro a382 w383 hn384 ha385
  have hs386 := ha385.size.trans hs154
  have hd387 := ha385.defers.trans hd155
  have h388 := ha385.fx 6 h156
  have h389 := ha385.fx 8 h157
  have h390 := ha385.fx 0 h158
  have h391 := ha385.fx 1 h159
  have h392 := ha385.fx 7 h160
  have h393 := ha385.ge 3 40 rfl
  have hr394 := hr162.new_ hn384
  have hr395 := hr163.new_ hn384
  have hN396 := hN164.transNew hn384
  clear hs154 hd155 h156 h157 h158 h159 h160 hv338 hr162 hr163 hN164 ha385 hn384
  refine st_nil ?_
  refine hK339 _ _ ?_
  clear hK339 K339
  refine wp_cond_true h393 ?_
  refine wp_seq_k fun K397 hK397 => ?_
  refine wp_g0 [true, true, true, false] [(3, true)] 58
    [ve (sv A130 (canon (2 * (val a / 2 ^ T % val b))) cc131),
     ve (sv B b d),
     (fun (v : Value) (W : World) => ∃ (A69 : Option Addr) (c70 : Nat), v = sv A69 (canon (val (canon (2 * (val a / 2 ^ T % val b))) - val b)) c70 ∧ SOwn W w383.heap.size 50 .u32 A69 (canon (val (canon (2 * (val a / 2 ^ T % val b))) - val b)) c70),
     vt] hs386 (.eq (.eq (.cons (fun v W W' hn ⟨A69, c70, he, h0⟩ => ⟨A69, c70, he, h0.new_ hn⟩) (.tt (.nil))))) ?_ ?_
  · skip
    refine .o1 (tk rfl rfl fun _ w hn k => ⟨_, v_move rfl (k.fx 7 h392), rfl⟩) ?_
    refine .o1 (tk rfl rfl fun _ w hn k => ⟨_, v_move rfl (k.fx 1 h391), rfl⟩) ?_
    refine .o1 (tkC rfl (noG rfl) rfl fun _ w hn k => (by
          refine ⟨#[sv A130 (canon (2 * (val a / 2 ^ T % val b))) cc131, sv B b d], _, args2 (k.eq1 0 41 rfl) (k.eq1 1 42 rfl), fun w => by kernel_rfl, rminus_c _ _ _ _ _ _ _ (hr395.new_ hn).row (hrb.new_ (hN396.transNew hn)) (limbs_canon _) hb (by first | omega | (simp only [List.length_nil, List.length_cons, List.length_set, List.length_replicate]; omega)) (by first | omega | (simp only [List.length_nil, List.length_cons, List.length_set, List.length_replicate]; omega)) (cmpN_ge ht340), ?_⟩
          rintro e w' ⟨A67, c68, rfl, hmo, hm⟩
          exact ⟨_, rfl, hm, ⟨A67, c68, rfl, (hmo.more hn.size)⟩⟩)) ?_
    refine .off ?_
    exact .nil
  intro a398 w399 hn400 ha401
  have hs402 := ha401.size.trans hs386
  have hd403 := ha401.defers.trans hd387
  have h404 := ha401.fx 6 h388
  have h405 := ha401.fx 8 h389
  have h406 := ha401.fx 0 h390
  have h407 := ha401.fx 1 h391
  have h408 := ha401.fx 7 h392
  obtain ⟨A410, cc411, h409, hr412⟩ : (fun (v : Value) (W : World) => ∃ (A69 : Option Addr) (c70 : Nat), v = sv A69 (canon (val (canon (2 * (val a / 2 ^ T % val b))) - val b)) c70 ∧ SOwn W w383.heap.size 50 .u32 A69 (canon (val (canon (2 * (val a / 2 ^ T % val b))) - val b)) c70) _ _ := ha401.got 2 43 rfl (by kernel_rfl)
  have h409 : a398.eval (.tmp 43) = sv A410 (canon (val (canon (2 * (val a / 2 ^ T % val b))) - val b)) cc411 := h409
  have hr413 := hr394.new_ hn400
  have hr414 := hr395.new_ hn400
  have hr415 := hr412.more (Nat.succ_le_of_lt (hr394.glt (by omega)))
  have hN416 := hN396.transNew hn400
  clear hs386 hd387 h388 h389 h390 h391 h392 h393 hr394 hr395 hr412 hN396 ha401 hn400
  refine st_take rfl rfl (y_assign (v := sv A410 (canon (val (canon (2 * (val a / 2 ^ T % val b))) - val b)) cc411) rfl h409) rfl ?_
  obtain ⟨a417, ha418⟩ : ∃ a', a' = a398.put (some 7) (sv A410 (canon (val (canon (2 * (val a / 2 ^ T % val b))) - val b)) cc411) := ⟨_, rfl⟩
  have hs419 : a417.tmps.size = 58 := by rw [ha418, put_size]; exact hs402
  have hd420 : a417.defers = [] := by rw [ha418, put_defers]; exact hd403
  have h421 : a417.eval (.tmp 6) = sv (some ⟨gg, 0, none⟩) Q cc22 := by rw [ha418, put_ne _ _ _ _ (by decide)]; exact h404
  have h422 : a417.eval (.tmp 8) = iv ((T - 1 : Nat) : Int) := by rw [ha418, put_ne _ _ _ _ (by decide)]; exact h405
  have h423 : a417.eval (.tmp 0) = sv A a c := by rw [ha418, put_ne _ _ _ _ (by decide)]; exact h406
  have h424 : a417.eval (.tmp 1) = sv B b d := by rw [ha418, put_ne _ _ _ _ (by decide)]; exact h407
  have h425 : a417.eval (.tmp 43) = sv A410 (canon (val (canon (2 * (val a / 2 ^ T % val b))) - val b)) cc411 := by rw [ha418, put_ne _ _ _ _ (by decide)]; exact h409
  have h426 : a417.eval (.tmp 7) = sv A410 (canon (val (canon (2 * (val a / 2 ^ T % val b))) - val b)) cc411 := by rw [ha418]; exact put_same _ _ _ (by rw [hs402]; decide)
  show stepsTo _ _ _ _ _ (a398.put (some 7) (sv A410 (canon (val (canon (2 * (val a / 2 ^ T % val b))) - val b)) cc411)) _
  rw [← ha418]
  clear ha418 hs402 hd403 h404 h405 h406 h407 h408 h409
  refine st_nil ?_
  clear h425 hr414
  have hyes := div_yes1 (Q := Q) hb0 hbt (c := 0) (by omega) (by omega) (bit_nil ht165) hq (by have := cmpN_ge ht340; rw [val_canon] at this; exact this)
  have he427 : (canon (val (canon (2 * (val a / 2 ^ T % val b))) - val b)) = (canon (val a / 2 ^ (T - 1) % val b)) := (congrArg (fun z => canon (z - val b)) (val_canon _)).trans (congrArg canon hyes.1.symm)
  rw [he427] at h426
  rw [he427] at hr415
  refine hK397 _ _ ?_
  clear hK397 K397
  have hset := set_bit_at hQ (T := T) (by omega) (by omega) hq
  have hQj := hQ.at ((T - 1) / 32)
  have hor := hset.2.2
  have hps : 2 ^ ((T - 1) % 32) < 2 ^ 32 := Nat.pow_lt_pow_right (by omega) (by omega)
  refine wp_g0 [true, true, true, true, true, true, true, true, true, true, true, false] [(11, false)] 58
    [ve (sv (some ⟨gg, 0, none⟩) Q cc22),
     ve (iv ((T - 1 : Nat) : Int)),
     ve (iv (((T - 1) / 32 : Nat) : Int)),
     ve (.pointer (some ⟨gg, ((T - 1) / 32), none⟩)),
     ve (.int .u32 ((Q.getD ((T - 1) / 32) 0 : Nat) : Int)),
     ve (iv ((T - 1 : Nat) : Int)),
     ve (iv (((T - 1) % 32 : Nat) : Int)),
     ve (.int .u64 (((T - 1) % 32 : Nat) : Int)),
     ve (.int .u32 ((1 * 2 ^ ((T - 1) % 32) : Nat) : Int)),
     ve (.int .u32 (((Q.getD ((T - 1) / 32) 0) ||| (1 * 2 ^ ((T - 1) % 32)) : Nat) : Int)),
     ve (.pointer (some ⟨gg, ((T - 1) / 32), none⟩)),
     vt] hs419 (.eq (.eq (.eq (.eq (.eq (.eq (.eq (.eq (.eq (.eq (.eq (.tt (.nil))))))))))))) ?_ ?_
  · skip
    refine .o1 (tk rfl rfl fun _ w hn k => ⟨_, v_move rfl (k.fx 6 h421), rfl⟩) ?_
    refine .o1 (tk rfl rfl fun _ w hn k => ⟨_, v_move rfl (k.fx 8 h422), rfl⟩) ?_
    refine .o1 (tk rfl rfl fun _ w hn k => ⟨_, v_bin rfl (k.eq1 1 45 rfl) rfl (fun _ => rfl) (n_quoN (T - 1) 32 (by omega) (IntWalk.i64_in _ (by omega))), rfl⟩) ?_
    refine .o1 (tk rfl rfl fun _ w hn k => ⟨_, v_eptr rfl elW (k.eq1 0 44 rfl) (k.eq1 2 46 rfl) (by omega), rfl⟩) ?_
    refine .o1 (tk rfl rfl fun _ w hn k => ⟨_, v_load rfl (k.eq1 3 47 rfl) (l_own Try.isAgg50 (hr413.new_ hn).row (by omega)), rfl⟩) ?_
    refine .o1 (tk rfl rfl fun _ w hn k => ⟨_, v_move rfl (k.fx 8 h422), rfl⟩) ?_
    refine .o1 (tk rfl rfl fun _ w hn k => ⟨_, v_bin rfl (k.eq1 5 49 rfl) rfl (fun _ => rfl) (n_remN (T - 1) 32 (by omega)), rfl⟩) ?_
    refine .o1 (tk rfl rfl fun _ w hn k => ⟨_, v_conv rfl (k.eq1 6 50 rfl) (n_conv (by kernel_rfl) (by kernel_rfl) (by kernel_rfl) (IntWalk.u64_in _ (by omega))), rfl⟩) ?_
    refine .o1 (tk rfl rfl fun _ w hn k => ⟨_, v_bin rfl rfl (k.eq1 7 51 rfl) (fun _ => rfl) (n_shl 1 ((T - 1) % 32) (by show _ < 32; omega) (pow_wrap32 _ (by omega))), rfl⟩) ?_
    refine .o1 (tk rfl rfl fun _ w hn k => ⟨_, v_bin rfl (k.eq1 4 48 rfl) (k.eq1 8 52 rfl) (fun _ => rfl) (n_orU32 (Q.getD ((T - 1) / 32) 0) (1 * 2 ^ ((T - 1) % 32)) (by omega) (by omega)), rfl⟩) ?_
    refine .o1 (tk rfl rfl fun _ w hn k => ⟨_, v_eptr rfl elW (k.eq1 0 44 rfl) (k.eq1 2 46 rfl) (by omega), rfl⟩) ?_
    refine .off ?_
    exact .nil
  intro a428 w429 hn430 ha431
  have hs432 := ha431.size.trans hs419
  have hd433 := ha431.defers.trans hd420
  have h434 := ha431.fx 6 h421
  have h435 := ha431.fx 8 h422
  have h436 := ha431.fx 0 h423
  have h437 := ha431.fx 1 h424
  have h438 := ha431.fx 7 h426
  have h439 := ha431.ge 9 53 rfl
  have h440 := ha431.ge 10 54 rfl
  have hr441 := hr413.new_ hn430
  have hr442 := hr415.new_ hn430
  have hN443 := hN416.transNew hn430
  clear hs419 hd420 h421 h422 h423 h424 h426 hr413 hr415 hN416 ha431 hn430
  obtain ⟨w444, -, hst445, hr446, hge447, hu448, hf449⟩ := s_elem (P := Try.prog) (t := 50) (i := ((T - 1) / 32)) ((((Q.getD ((T - 1) / 32) 0) ||| (1 * 2 ^ ((T - 1) % 32)) : Nat) : Int)) Try.sizeOf50 hr441 (by omega) (by omega)
  refine st_act rfl rfl fun K450 hL451 => a_store' rfl h440 h439 hst445 (hL451 _ _ trivial ?_)
  have hr452 := hr442.above hu448
  have hN453 := hN443.trans hu448 (fun k hk hkb => by subst hkb; omega)
  have h454 : a428.eval (.tmp 6) = sv (some ⟨gg, 0, none⟩) (Q.set ((T - 1) / 32) ((Q.getD ((T - 1) / 32) 0) ||| (1 * 2 ^ ((T - 1) % 32)))) cc22 := h434.trans (sv_set _ _ _ _ _)
  clear hr441 hst445 K450 hL451 hN443 hr442 h434 hge447 hu448 hf449
  refine st_nil ?_
  clear h439 h440
  refine hK115 _ _ ?_
  clear hK115 K115
  refine wp_g0 [true, true, false] [(2, true)] 58
    [ve (iv ((T - 1 : Nat) : Int)),
     ve (iv (((T - 1 : Nat) : Int) - 1)),
     vt] hs432 (.eq (.eq (.tt (.nil)))) ?_ ?_
  · skip
    refine .o1 (tk rfl rfl fun _ w hn k => ⟨_, v_move rfl (k.fx 8 h435), rfl⟩) ?_
    refine .o1 (tk rfl rfl fun _ w hn k => ⟨_, v_bin rfl (k.eq1 0 18 rfl) rfl (fun _ => rfl) (r_sub rfl (by omega)), rfl⟩) ?_
    refine .off ?_
    exact .nil
  intro a455 w456 hn457 ha458
  have hs459 := ha458.size.trans hs432
  have hd460 := ha458.defers.trans hd433
  have h461 := ha458.fx 6 h454
  have h462 := ha458.fx 8 h435
  have h463 := ha458.fx 0 h436
  have h464 := ha458.fx 1 h437
  have h465 := ha458.fx 7 h438
  have h466 := ha458.ge 1 19 rfl
  have hr467 := hr446.new_ hn457
  have hr468 := hr452.new_ hn457
  have hN469 := hN453.transNew hn457
  clear hs432 hd433 h454 h435 h436 h437 h438 hr446 hr452 hN453 ha458 hn457
  refine st_take rfl rfl (y_assign (v := iv (((T - 1 : Nat) : Int) - 1)) rfl h466) rfl ?_
  obtain ⟨a470, ha471⟩ : ∃ a', a' = a455.put (some 8) (iv (((T - 1 : Nat) : Int) - 1)) := ⟨_, rfl⟩
  have hs472 : a470.tmps.size = 58 := by rw [ha471, put_size]; exact hs459
  have hd473 : a470.defers = [] := by rw [ha471, put_defers]; exact hd460
  have h474 : a470.eval (.tmp 6) = sv (some ⟨gg, 0, none⟩) (Q.set ((T - 1) / 32) ((Q.getD ((T - 1) / 32) 0) ||| (1 * 2 ^ ((T - 1) % 32)))) cc22 := by rw [ha471, put_ne _ _ _ _ (by decide)]; exact h461
  have h475 : a470.eval (.tmp 0) = sv A a c := by rw [ha471, put_ne _ _ _ _ (by decide)]; exact h463
  have h476 : a470.eval (.tmp 1) = sv B b d := by rw [ha471, put_ne _ _ _ _ (by decide)]; exact h464
  have h477 : a470.eval (.tmp 7) = sv A410 (canon (val a / 2 ^ (T - 1) % val b)) cc411 := by rw [ha471, put_ne _ _ _ _ (by decide)]; exact h465
  have h478 : a470.eval (.tmp 19) = iv (((T - 1 : Nat) : Int) - 1) := by rw [ha471, put_ne _ _ _ _ (by decide)]; exact h466
  have h479 : a470.eval (.tmp 8) = iv (((T - 1 : Nat) : Int) - 1) := by rw [ha471]; exact put_same _ _ _ (by rw [hs459]; decide)
  show stepsTo _ _ _ _ _ (a455.put (some 8) (iv (((T - 1 : Nat) : Int) - 1))) _
  rw [← ha471]
  clear ha471 hs459 hd460 h461 h462 h463 h464 h465 h466
  refine st_nil ?_
  clear h478
  refine then_n ?_
  exact ⟨_, ⟨T - 1, (Q.set ((T - 1) / 32) ((Q.getD ((T - 1) / 32) 0) ||| (1 * 2 ^ ((T - 1) % 32)))), A410, cc411, rfl, hs472, hd473, hN469, h474, h477, (h479.trans (congrArg (Value.int .i64) (by omega))), h475, h476, hr467, hr468, (by omega), (by rw [Nat.one_mul]; exact hset.1), (by rw [List.length_set]; exact hln), (by rw [Nat.one_mul]; exact hset.2.1.trans hyes.2)⟩, (by omega)⟩
end Go.Proofs.Ytfhflpchfgkgcaa
