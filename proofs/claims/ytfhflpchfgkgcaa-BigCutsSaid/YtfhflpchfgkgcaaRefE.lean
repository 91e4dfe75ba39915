/- Package renref2: cuts, words. -/
import Derived.Test.YtfhflpchfgkgcaaRefD
import Derived.Test.YtfhflpchfgkgcaaBigQ
namespace Go.Proofs.Ytfhflpchfgkgcaa
open Go.RowKit
set_option linter.unusedSimpArgs false
set_option linter.unusedVariables false
theorem asU_out {n z : Int} (h : n < 0 ∨ 256 < n) : asU n z = 0 := by unfold asU; rw [if_pos h]
theorem rangeE_out {n : Int} (h : n < 0 ∨ 256 < n) : rangeE n = 1 := by unfold rangeE; rw [if_pos h]
theorem rangeE_in {k : Nat} (h : k ≤ 256) : rangeE (k : Int) = 0 := by unfold rangeE; rw [if_neg (by omega)]
theorem rangeE_0 : rangeE 0 = 0 := rfl
theorem pow_rem_le {k x : Nat} : val (canon (x % val (canon (val (powL k))))) ≤ val (powL k) := by
  rw [val_canon, val_canon, powL_val]
  exact Nat.le_of_lt (Nat.mod_lt _ (Nat.pow_pos (by omega)))
theorem asu_pos {k : Nat} {z : Int} (hk : k ≤ 256) (h : decide (z < 0) = false) : sgn false (val (canon (val (canon z.natAbs) % val (canon (val (powL k)))))) = asU (k : Int) z := by
  rw [val_canon, val_canon, val_canon, powL_val, asU_nat hk]; exact asU_pos (of_decide_eq_false h)
theorem asu_neg0 {k : Nat} {z : Int} (hk : k ≤ 256) (h : decide (z < 0) = true) (h0 : decide (((canon (val (canon z.natAbs) % val (canon (val (powL k))))).length : Int) ≤ 0) = true) : sgn false (val (canon (val (canon z.natAbs) % val (canon (val (powL k)))))) = asU (k : Int) z := by
  have h1 := of_decide_eq_true h0
  have h2 := canon_nil.1 (List.eq_nil_of_length_eq_zero (l := canon (val (canon z.natAbs) % val (canon (val (powL k))))) (by omega))
  rw [val_canon, h2, sgn_zero, asU_nat hk]
  rw [val_canon, val_canon, powL_val] at h2
  exact asU_negz h2
theorem asu_neg {k : Nat} {z : Int} (hk : k ≤ 256) (h : decide (z < 0) = true) (h0 : decide (((canon (val (canon z.natAbs) % val (canon (val (powL k))))).length : Int) ≤ 0) = false) : sgn false (val (canon (val (powL k) - val (canon (val (canon z.natAbs) % val (canon (val (powL k)))))))) = asU (k : Int) z := by
  have h1 := of_decide_eq_false h0
  have h2 : val (canon z.natAbs) % val (canon (val (powL k))) ≠ 0 := fun e => by rw [e, canon_zero] at h1; simp at h1
  rw [val_canon, val_canon]
  rw [val_canon, val_canon, powL_val] at h2 ⊢
  rw [asU_nat hk]
  exact asU_neg (of_decide_eq_true h) h2
theorem asu_le {k : Nat} {z : Int} (hk : k ≤ 256) : val (canon (asU (k : Int) z).natAbs) ≤ val (powL k) := by
  rw [val_canon, powL_val]
  have h1 := asU_lt k hk z
  have h2 := (asU_bd (k : Int) z).1
  rw [pow_cast] at h1
  omega
theorem asi_small {k : Nat} {z : Int} (hk : k + 1 ≤ 256) (h : decide (cmpN (val (canon (asU ((k + 1 : Nat) : Int) z).natAbs)) (val (powL k)) < 0) = true) : asU ((k + 1 : Nat) : Int) z = asI ((k + 1 : Nat) : Int) z := by
  have h1 := cmpN_lt h
  rw [val_canon, powL_val] at h1
  have h2 := (asU_bd ((k + 1 : Nat) : Int) z).1
  exact (asI_small hk (by rw [pow_cast]; omega)).symm
theorem asi_big {k : Nat} {z : Int} (hk : k + 1 ≤ 256) (h : decide (cmpN (val (canon (asU ((k + 1 : Nat) : Int) z).natAbs)) (val (powL k)) < 0) = false) : sgn true (val (canon (val (powL (k + 1)) - val (canon (asU ((k + 1 : Nat) : Int) z).natAbs)))) = asI ((k + 1 : Nat) : Int) z := by
  have h1 := cmpN_ge h
  have h3 := asu_le (z := z) hk
  rw [val_canon, powL_val] at h1
  rw [val_canon, powL_val] at h3
  have h2 := (asU_bd ((k + 1 : Nat) : Int) z).1
  rw [asI_big hk (by rw [pow_cast]; omega), pow_cast, val_canon, val_canon, powL_val]
  show -(((2 ^ (k + 1) - (asU ((k + 1 : Nat) : Int) z).natAbs : Nat)) : Int) = _
  omega
theorem word_two (z : Int) : (canon (asU 64 z).natAbs).getD 0 0 + (canon (asU 64 z).natAbs).getD 1 0 * 4294967296 = wordN z := by
  have h1 : (asU 64 z).natAbs < 18446744073709551616 := by
    have h2 := asU_lt 64 (by omega) z
    have h3 := (asU_bd 64 z).1
    have h4 : asU ((64 : Nat) : Int) z = asU 64 z := rfl
    rw [h4] at h2
    omega
  have h2 : (asU 64 z).natAbs = wordN z := by
    have h3 := (asU_bd 64 z).1
    unfold wordN; omega
  rw [h2] at h1 ⊢
  generalize wordN z = n at *
  have h3 : (canon n).length ≤ 2 := canon_len_le (by have : 4294967296 ^ 2 = 18446744073709551616 := by decide
                                                     omega)
  have h4 := val_canon n
  have h5 := val_take (canon n) 1
  have h6 := val_take (canon n) 0
  rw [List.take_of_length_le (by omega)] at h5
  simp [val] at h6
  rw [h4, h6] at h5
  simp at h5 ⊢
  omega
theorem two_limbs_m (u : Nat) : Limbs [u % 4294967296, u / 4294967296 % 4294967296] := Limbs.cons (by omega) (Limbs.cons (by omega) Limbs.nil)
theorem two_val_m {u : Nat} (hu : u < 18446744073709551616) : val [u % 4294967296, u / 4294967296 % 4294967296] = u := by simp [val]; omega
theorem fromw_len {u : Nat} (hu : u < 18446744073709551616) : (canon (sgn false (val [u % 4294967296, u / 4294967296 % 4294967296])).natAbs).length ≤ 8 := by
  rw [two_val_m hu]; exact (canon_len8 _).2 (by rw [natAbs_sgn]; omega)
theorem fromw_le {u : Nat} (hu : u < 18446744073709551616) : val (canon (sgn false (val [u % 4294967296, u / 4294967296 % 4294967296])).natAbs) ≤ val (powL 64) := by
  rw [two_val_m hu, val_canon, powL_val, natAbs_sgn]; omega
theorem fromw_no {u : Nat} {s : Bool} (h : s = false ∨ decide ((u : Int) < 9223372036854775808) = true) (hu : u < 18446744073709551616 := by assumption) : sgn false (val [u % 4294967296, u / 4294967296 % 4294967296]) = wordI u s := by
  rw [two_val_m hu]
  refine wordI_pos u s ?_
  rcases h with rfl | h
  · rfl
  · have := of_decide_eq_true h
    rw [decide_eq_false (by omega), Bool.and_false]
theorem fromw_yes {u : Nat} {s : Bool} (hu : u < 18446744073709551616) (hs : s = true) (h : decide ((u : Int) < 9223372036854775808) = false) : sgn true (val (canon (val (powL 64) - val (canon (sgn false (val [u % 4294967296, u / 4294967296 % 4294967296])).natAbs)))) = wordI u s := by
  have h1 := of_decide_eq_false h
  subst hs
  rw [val_canon, val_canon, natAbs_sgn, two_val_m hu, powL_val]
  exact wordI_neg u hu (by omega)
theorem of_conv (n : Int) : IntKind.u64.wrap n = (((n % 18446744073709551616).toNat : Nat) : Int) := by
  rw [Int.toNat_of_nonneg (by omega)]
  simp [IntKind.wrap, IntKind.bits, IntKind.signed]
theorem v_negU {P : Program} {o : Oper} {a : Act} {w : World} {t : TypeId} {x : Operand} {k : IntKind} {m r : Int} (ho : o.op = .unOp .neg t x) (hx : a.eval x = .int k m) (hr : k.wrap (-m) = r) : (execOp a.eval o).run P w = .ok (.value (.int k r)) w := by
  simp [execOp, ho, hx, Op.unary, Op.intArith, hr]
theorem of_neg {n : Int} (hlo : -9223372036854775808 ≤ n) (h : n < 0) : IntKind.u64.wrap (-(((n % 18446744073709551616).toNat : Nat) : Int)) = (((-n).toNat : Nat) : Int) := by
  rw [Int.toNat_of_nonneg (by omega), Int.toNat_of_nonneg (by omega)]
  simp [IntKind.wrap, IntKind.bits, IntKind.signed]
  omega
theorem of_yes {n : Int} (hlo : -9223372036854775808 ≤ n) (h : decide (n < 0) = true) : sgn true (val [(-n).toNat % 4294967296, (-n).toNat / 4294967296 % 4294967296]) = n := by
  have := of_decide_eq_true h
  rw [two_val_m (by omega)]
  show -(((-n).toNat : Nat) : Int) = n
  omega
theorem of_no {n : Int} (hhi : n ≤ 9223372036854775807) (h : decide (n < 0) = false) : sgn false (val [(n % 18446744073709551616).toNat % 4294967296, (n % 18446744073709551616).toNat / 4294967296 % 4294967296]) = n := by
  have := of_decide_eq_false h
  rw [two_val_m (by omega)]
  show (((n % 18446744073709551616).toNat : Nat) : Int) = n
  omega
set_option maxHeartbeats 4000000 in
set_option maxRecDepth 100000 in
theorem rasu_out (b : Bool) (A : Option Addr) (m : List Nat) (c : Nat) (n : Int) (w : World) (hr : SRow w .u32 A m c) (hl : Limbs m) (hn : n < 0 ∨ 256 < n) : Calls Try.prog 22 #[iv n, .agg #[.bool b, sv A m c]] w (RetZE (asU n (goodI b m)) (rangeE n) w) := by
  refine enter_abs Try.func22 rfl fun a0 hs0 hd0 hp => ?_
  have hs0 : a0.tmps.size = 40 := hs0
  have hN0 : New w w := Upd.refl _ _
  have hp0 : a0.eval (.tmp 0) = iv n := hp 0 _ rfl
  have hp1 : a0.eval (.tmp 1) = .agg #[.bool b, sv A m c] := hp 1 _ rfl
  clear hp
  refine wp_seq_k fun K1 hK1 => ?_
  refine wp_g [true, true, true] [] [] 40
    [IsNew w 24 [.bool b, sv A m c],
     IsNew w 24 [.bool false, sv none ([]) 0],
     ve (iv 0)]
    [0, 1] (newsCons (fun v w h => IsNew.old h) (newsCons (fun v w h => IsNew.old h) newsNil)) hs0 (.nw (.nw (.eq (.nil)))) ?_ (fun i h => by cases h) ?_
  · skip
    refine .o2 (step_allocN (cs := [.bool b, sv A m c]) (t := 24) rfl (noG rfl) (fun _ w hn k => v_box rfl (k.fx 1 hp1) (fun w => rfl)) (fun q _ hq hb => ⟨q, rfl, hq, hb⟩)) ?_
    refine .o2 (step_allocN (cs := [.bool false, sv none ([]) 0]) (t := 24) rfl (noG rfl) (fun _ w hn k => rfl) (fun q _ hq hb => ⟨q, rfl, hq, hb⟩)) ?_
    refine .o1 (tk rfl rfl fun _ w hn k => ⟨_, v_assign rfl rfl, rfl⟩) ?_
    exact .nil
  intro a2 w3 hn4 ha5
  have hs6 := ha5.size.trans hs0
  have hd7 := ha5.defers.trans hd0
  have h8 := ha5.fx 0 hp0
  obtain ⟨q10, h9, hq11, hb12⟩ : IsNew _ _ _ _ _ := ha5.got 0 3 rfl (by kernel_rfl)
  obtain ⟨q14, h13, hq15, hb16⟩ : IsNew _ _ _ _ _ := ha5.got 1 4 rfl (by kernel_rfl)
  have hne17 : q10 ≠ q14 := ha5.ne 0 1 3 4 h9 h13
  have hq18 := Nat.le_trans hN0.size hq11
  have hq19 := Nat.le_trans hN0.size hq15
  have hN20 := hN0.transNew hn4
  clear hs0 hd0 hp0 hp1 hq11 hq15 hN0 ha5 hn4
  refine st_nil ?_
  refine hK1 _ _ ?_
  clear hK1 K1
  refine wp_seq_k fun K21 hK21 => ?_
  refine wp_seq_k fun K22 hK22 => ?_
  rcases Bool.eq_false_or_eq_true (decide (n < 0)) with ht23 | ht23
  · skip
    have ht23d := of_decide_eq_true ht23
    refine wp_g0 [true, true, true, true, true, true] [] 40
      [ve (iv n),
       ve (.bool true),
       ve (.bool true),
       ve undef,
       ve undef,
       ve (.bool true)] hs6 (.eq (.eq (.eq (.eq (.eq (.eq (.nil))))))) ?_ ?_
    · skip
      refine .o1 (tk rfl rfl fun _ w hn k => ⟨_, v_move rfl (k.fx 0 h8), rfl⟩) ?_
      refine .o1 (tk rfl rfl fun _ w hn k => ⟨_, v_bin rfl (k.eq1 0 9 rfl) rfl (fun _ => rfl) (r_lssK ht23), rfl⟩) ?_
      refine .o1 (tk rfl rfl fun _ w hn k => ⟨_, v_move rfl (k.eq1 1 10 rfl), rfl⟩) ?_
      refine .o1 (sk rfl rfl rfl (fun _ _ _ k => k.eq1 2 11 rfl) (fun _ => rfl)) ?_
      refine .o1 (sk rfl rfl rfl (fun _ _ _ k => k.eq1 2 11 rfl) (fun _ => rfl)) ?_
      refine .o1 (tk rfl rfl fun _ w hn k => ⟨_, v_pickT rfl (k.eq1 2 11 rfl) rfl, rfl⟩) ?_
      exact .nil
    intro a24 w25 hn26 ha27
    have hs28 := ha27.size.trans hs6
    have hd29 := ha27.defers.trans hd7
    have h30 := ha27.fx 0 h8
    have h31 := ha27.fx 3 h9
    have h32 := ha27.fx 4 h13
    have h33 := ha27.ge 5 14 rfl
    have hb34 := hb12.new_ hn26
    have hb35 := hb16.new_ hn26
    have hN36 := hN20.transNew hn26
    clear hs6 hd7 h8 h9 h13 hb12 hb16 hN20 ha27 hn26
    refine st_nil ?_
    refine hK22 _ _ ?_
    clear hK22 K22
    refine wp_cond_true h33 ?_
    refine wp_seq_k fun K37 hK37 => ?_
    refine wp_g0 [true, false, false] [(1, false), (2, true)] 40
      [ve (.agg #[.bool false, sv none ([]) 0]),
       vt,
       vt] hs28 (.eq (.tt (.tt (.nil)))) ?_ ?_
    · skip
      refine .o1 (tk rfl rfl fun _ w hn k => ⟨_, v_build (ps := []) rfl parts0 (by kernel_rfl), rfl⟩) ?_
      refine .off ?_
      refine .off ?_
      exact .nil
    intro a38 w39 hn40 ha41
    have hs42 := ha41.size.trans hs28
    have hd43 := ha41.defers.trans hd29
    have h44 := ha41.fx 4 h32
    have h45 := ha41.ge 0 15 rfl
    have hb46 := hb35.new_ hn40
    have hN47 := hN36.transNew hn40
    clear hs28 hd29 h30 h31 h32 h33 hb34 hq18 hb35 hN36 ha41 hn40
    obtain ⟨w48, -, hst49, hb50, hu51, hf52⟩ := s_two (v0 := .bool false) (v1 := sv none ([]) 0) Try.sizeOf24 rfl rfl rfl hb46
    refine st_act rfl rfl fun K53 hL54 => a_store' rfl h44 h45 hst49 (hL54 _ _ trivial ?_)
    have hN55 := hN47.trans hu51 (fun k hk hkb => by subst hkb; omega)
    clear hb46 hst49 K53 hL54 hN47 hu51 hf52
    refine st_take rfl rfl (y_assign (v := iv 1) rfl rfl) rfl ?_
    obtain ⟨a56, ha57⟩ : ∃ a', a' = a38.put (some 5) (iv 1) := ⟨_, rfl⟩
    have hs58 : a56.tmps.size = 40 := by rw [ha57, put_size]; exact hs42
    have hd59 : a56.defers = [] := by rw [ha57, put_defers]; exact hd43
    have h60 : a56.eval (.tmp 4) = pv q14 := by rw [ha57, put_ne _ _ _ _ (by decide)]; exact h44
    have h61 : a56.eval (.tmp 15) = .agg #[.bool false, sv none ([]) 0] := by rw [ha57, put_ne _ _ _ _ (by decide)]; exact h45
    have h62 : a56.eval (.tmp 5) = iv 1 := by rw [ha57]; exact put_same _ _ _ (by rw [hs42]; decide)
    show stepsTo _ _ _ _ _ (a38.put (some 5) (iv 1)) _
    rw [← ha57]
    clear ha57 hs42 hd43 h44 h45
    refine st_nil ?_
    clear h61
    refine hK37 _ _ ?_
    clear hK37 K37
    refine wp_ret (ret_k hd59 (v := .tuple #[.agg #[.bool false, sv none ([]) 0], iv 1]) (res_ct rfl h60 h62 (l_two Try.isAgg24 Try.sizeOf24 hb50)) ?_)
    have hs2 : (iv 1 : Value) = iv (rangeE n) := by rw [rangeE_out hn]
    have hz1 : (decide (asU n (goodI b m) < 0)) = false := by rw [asU_out hn]; rfl
    have hz2 : canon (asU n (goodI b m)).natAbs = [] := by rw [asU_out hn]; exact canon_zero
    exact ⟨none, 0, by rw [hz1, hz2, hs2], by rw [hz2]; exact (SRow.nil _ _), hN55⟩
  have ht23d := of_decide_eq_false ht23
  have ht63 : (decide (n ≤ 256)) = false := decide_eq_false (by omega)
  have ht63d := of_decide_eq_false ht63
  refine wp_g0 [true, true, true, true, true, true] [] 40
    [ve (iv n),
     ve (.bool false),
     ve (.bool false),
     ve (iv n),
     ve (.bool true),
     ve (.bool true)] hs6 (.eq (.eq (.eq (.eq (.eq (.eq (.nil))))))) ?_ ?_
  · skip
    refine .o1 (tk rfl rfl fun _ w hn k => ⟨_, v_move rfl (k.fx 0 h8), rfl⟩) ?_
    refine .o1 (tk rfl rfl fun _ w hn k => ⟨_, v_bin rfl (k.eq1 0 9 rfl) rfl (fun _ => rfl) (r_lssK ht23), rfl⟩) ?_
    refine .o1 (tk rfl rfl fun _ w hn k => ⟨_, v_move rfl (k.eq1 1 10 rfl), rfl⟩) ?_
    refine .o1 (tg rfl rfl rfl (fun _ _ k => k.eq1 2 11 rfl) fun _ w hn k => ⟨_, v_move rfl (k.fx 0 h8), rfl⟩) ?_
    refine .o1 (tg rfl rfl rfl (fun _ _ k => k.eq1 2 11 rfl) fun _ w hn k => ⟨_, v_bin rfl (k.eq1 3 12 rfl) rfl (fun _ => rfl) (r_gtrK ht63), rfl⟩) ?_
    refine .o1 (tk rfl rfl fun _ w hn k => ⟨_, v_pickF rfl (k.eq1 2 11 rfl) (k.eq1 4 13 rfl), rfl⟩) ?_
    exact .nil
  intro a64 w65 hn66 ha67
  have hs68 := ha67.size.trans hs6
  have hd69 := ha67.defers.trans hd7
  have h70 := ha67.fx 0 h8
  have h71 := ha67.fx 3 h9
  have h72 := ha67.fx 4 h13
  have h73 := ha67.ge 5 14 rfl
  have hb74 := hb12.new_ hn66
  have hb75 := hb16.new_ hn66
  have hN76 := hN20.transNew hn66
  clear hs6 hd7 h8 h9 h13 hb12 hb16 hN20 ha67 hn66
  refine st_nil ?_
  refine hK22 _ _ ?_
  clear hK22 K22
  refine wp_cond_true h73 ?_
  refine wp_seq_k fun K77 hK77 => ?_
  refine wp_g0 [true, false, false] [(1, false), (2, true)] 40
    [ve (.agg #[.bool false, sv none ([]) 0]),
     vt,
     vt] hs68 (.eq (.tt (.tt (.nil)))) ?_ ?_
  · skip
    refine .o1 (tk rfl rfl fun _ w hn k => ⟨_, v_build (ps := []) rfl parts0 (by kernel_rfl), rfl⟩) ?_
    refine .off ?_
    refine .off ?_
    exact .nil
  intro a78 w79 hn80 ha81
  have hs82 := ha81.size.trans hs68
  have hd83 := ha81.defers.trans hd69
  have h84 := ha81.fx 4 h72
  have h85 := ha81.ge 0 15 rfl
  have hb86 := hb75.new_ hn80
  have hN87 := hN76.transNew hn80
  clear hs68 hd69 h70 h71 h72 h73 hb74 hq18 hb75 hN76 ha81 hn80
  obtain ⟨w88, -, hst89, hb90, hu91, hf92⟩ := s_two (v0 := .bool false) (v1 := sv none ([]) 0) Try.sizeOf24 rfl rfl rfl hb86
  refine st_act rfl rfl fun K93 hL94 => a_store' rfl h84 h85 hst89 (hL94 _ _ trivial ?_)
  have hN95 := hN87.trans hu91 (fun k hk hkb => by subst hkb; omega)
  clear hb86 hst89 K93 hL94 hN87 hu91 hf92
  refine st_take rfl rfl (y_assign (v := iv 1) rfl rfl) rfl ?_
  obtain ⟨a96, ha97⟩ : ∃ a', a' = a78.put (some 5) (iv 1) := ⟨_, rfl⟩
  have hs98 : a96.tmps.size = 40 := by rw [ha97, put_size]; exact hs82
  have hd99 : a96.defers = [] := by rw [ha97, put_defers]; exact hd83
  have h100 : a96.eval (.tmp 4) = pv q14 := by rw [ha97, put_ne _ _ _ _ (by decide)]; exact h84
  have h101 : a96.eval (.tmp 15) = .agg #[.bool false, sv none ([]) 0] := by rw [ha97, put_ne _ _ _ _ (by decide)]; exact h85
  have h102 : a96.eval (.tmp 5) = iv 1 := by rw [ha97]; exact put_same _ _ _ (by rw [hs82]; decide)
  show stepsTo _ _ _ _ _ (a78.put (some 5) (iv 1)) _
  rw [← ha97]
  clear ha97 hs82 hd83 h84 h85
  refine st_nil ?_
  clear h101
  refine hK77 _ _ ?_
  clear hK77 K77
  refine wp_ret (ret_k hd99 (v := .tuple #[.agg #[.bool false, sv none ([]) 0], iv 1]) (res_ct rfl h100 h102 (l_two Try.isAgg24 Try.sizeOf24 hb90)) ?_)
  have hs2 : (iv 1 : Value) = iv (rangeE n) := by rw [rangeE_out hn]
  have hz1 : (decide (asU n (goodI b m) < 0)) = false := by rw [asU_out hn]; rfl
  have hz2 : canon (asU n (goodI b m)).natAbs = [] := by rw [asU_out hn]; exact canon_zero
  exact ⟨none, 0, by rw [hz1, hz2, hs2], by rw [hz2]; exact (SRow.nil _ _), hN95⟩
set_option maxHeartbeats 4000000 in
set_option maxRecDepth 100000 in
theorem rasu_in (b : Bool) (A : Option Addr) (m : List Nat) (c kk : Nat) (w : World) (hr : SRow w .u32 A m c) (hl : Limbs m) (hk : kk ≤ 256) : Calls Try.prog 22 #[iv (kk : Int), .agg #[.bool b, sv A m c]] w (RetZE (asU (kk : Int) (goodI b m)) (rangeE (kk : Int)) w) := by
  refine enter_abs Try.func22 rfl fun a0 hs0 hd0 hp => ?_
  have hs0 : a0.tmps.size = 40 := hs0
  have hN0 : New w w := Upd.refl _ _
  have hp0 : a0.eval (.tmp 0) = iv (kk : Int) := hp 0 _ rfl
  have hp1 : a0.eval (.tmp 1) = .agg #[.bool b, sv A m c] := hp 1 _ rfl
  clear hp
  have h8 := (canon_len8 _).2 (good_lt (b := b) hl)
  have hpl := powL_len kk
  have hpc : (canon (val (powL kk))).length ≤ 9 := pow_len hk
  have hqx : (canon (val (canon (goodI b m).natAbs) / val (canon (val (powL kk))))).length ≤ 8 := quo_len (good_lt hl)
  have hrx : (canon (val (canon (goodI b m).natAbs) % val (canon (val (powL kk))))).length ≤ 8 := rem_len8 (good_lt hl)
  have hmx : (canon (val (powL kk) - val (canon (val (canon (goodI b m).natAbs) % val (canon (val (powL kk))))))).length ≤ 9 := powsub_len hk
  refine wp_seq_k fun K1 hK1 => ?_
  refine wp_g [true, true, true] [] [] 40
    [IsNew w 24 [.bool b, sv A m c],
     IsNew w 24 [.bool false, sv none ([]) 0],
     ve (iv 0)]
    [0, 1] (newsCons (fun v w h => IsNew.old h) (newsCons (fun v w h => IsNew.old h) newsNil)) hs0 (.nw (.nw (.eq (.nil)))) ?_ (fun i h => by cases h) ?_
  · skip
    refine .o2 (step_allocN (cs := [.bool b, sv A m c]) (t := 24) rfl (noG rfl) (fun _ w hn k => v_box rfl (k.fx 1 hp1) (fun w => rfl)) (fun q _ hq hb => ⟨q, rfl, hq, hb⟩)) ?_
    refine .o2 (step_allocN (cs := [.bool false, sv none ([]) 0]) (t := 24) rfl (noG rfl) (fun _ w hn k => rfl) (fun q _ hq hb => ⟨q, rfl, hq, hb⟩)) ?_
    refine .o1 (tk rfl rfl fun _ w hn k => ⟨_, v_assign rfl rfl, rfl⟩) ?_
    exact .nil
  intro a2 w3 hn4 ha5
  have hs6 := ha5.size.trans hs0
  have hd7 := ha5.defers.trans hd0
  have h8 := ha5.fx 0 hp0
  obtain ⟨q10, h9, hq11, hb12⟩ : IsNew _ _ _ _ _ := ha5.got 0 3 rfl (by kernel_rfl)
  obtain ⟨q14, h13, hq15, hb16⟩ : IsNew _ _ _ _ _ := ha5.got 1 4 rfl (by kernel_rfl)
  have hne17 : q10 ≠ q14 := ha5.ne 0 1 3 4 h9 h13
  have hq18 := Nat.le_trans hN0.size hq11
  have hq19 := Nat.le_trans hN0.size hq15
  have hN20 := hN0.transNew hn4
  clear hs0 hd0 hp0 hp1 hq11 hq15 hN0 ha5 hn4
  refine st_nil ?_
  refine hK1 _ _ ?_
  clear hK1 K1
  refine wp_seq_k fun K21 hK21 => ?_
  refine wp_seq_k fun K22 hK22 => ?_
  have ht23 : (decide ((kk : Int) < 0)) = false := decide_eq_false (by omega)
  have ht23d := of_decide_eq_false ht23
  have ht24 : (decide ((kk : Int) ≤ 256)) = true := decide_eq_true (by omega)
  have ht24d := of_decide_eq_true ht24
  refine wp_g0 [true, true, true, true, true, true] [] 40
    [ve (iv (kk : Int)),
     ve (.bool false),
     ve (.bool false),
     ve (iv (kk : Int)),
     ve (.bool false),
     ve (.bool false)] hs6 (.eq (.eq (.eq (.eq (.eq (.eq (.nil))))))) ?_ ?_
  · skip
    refine .o1 (tk rfl rfl fun _ w hn k => ⟨_, v_move rfl (k.fx 0 h8), rfl⟩) ?_
    refine .o1 (tk rfl rfl fun _ w hn k => ⟨_, v_bin rfl (k.eq1 0 9 rfl) rfl (fun _ => rfl) (r_lssK ht23), rfl⟩) ?_
    refine .o1 (tk rfl rfl fun _ w hn k => ⟨_, v_move rfl (k.eq1 1 10 rfl), rfl⟩) ?_
    refine .o1 (tg rfl rfl rfl (fun _ _ k => k.eq1 2 11 rfl) fun _ w hn k => ⟨_, v_move rfl (k.fx 0 h8), rfl⟩) ?_
    refine .o1 (tg rfl rfl rfl (fun _ _ k => k.eq1 2 11 rfl) fun _ w hn k => ⟨_, v_bin rfl (k.eq1 3 12 rfl) rfl (fun _ => rfl) (r_gtrK ht24), rfl⟩) ?_
    refine .o1 (tk rfl rfl fun _ w hn k => ⟨_, v_pickF rfl (k.eq1 2 11 rfl) (k.eq1 4 13 rfl), rfl⟩) ?_
    exact .nil
  intro a25 w26 hn27 ha28
  have hs29 := ha28.size.trans hs6
  have hd30 := ha28.defers.trans hd7
  have h31 := ha28.fx 0 h8
  have h32 := ha28.fx 3 h9
  have h33 := ha28.fx 4 h13
  have h34 := ha28.ge 5 14 rfl
  have hb35 := hb12.new_ hn27
  have hb36 := hb16.new_ hn27
  have hN37 := hN20.transNew hn27
  clear hs6 hd7 h8 h9 h13 hb12 hb16 hN20 ha28 hn27
  refine st_nil ?_
  refine hK22 _ _ ?_
  clear hK22 K22
  refine wp_cond_false h34 ?_
  refine wp_skip ?_
  refine hK21 _ _ ?_
  clear hK21 K21
  refine wp_seq_k fun K38 hK38 => ?_
  refine wp_g [true, true, true, false] [] [(3, false)] 40
    [ve (.agg #[.bool b, sv A m c]),
     (fun (v : Value) (W : World) => ∃ (A3 : Option Addr) (c4 : Nat), v = .agg #[.bool (decide (goodI b m < 0)), sv A3 (canon (goodI b m).natAbs) c4] ∧ SRow W .u32 A3 (canon (goodI b m).natAbs) c4),
     IsNew w26 24 [.bool false, sv none ([]) 0],
     vt]
    [2] (newsCons (fun v w h => IsNew.old h) newsNil) hs29 (.eq (.cons (fun v W W' hn ⟨A3, c4, he, h0⟩ => ⟨A3, c4, he, h0.new_ hn⟩) (.nw (.tt (.nil))))) ?_ (fun i h => by cases h) ?_
  · skip
    refine .o1 (tk rfl rfl fun _ w hn k => ⟨_, v_load rfl (k.fx 3 h32) (l_two Try.isAgg24 Try.sizeOf24 (hb35.new_ hn)), rfl⟩) ?_
    refine .o1 (tkC rfl (noG rfl) rfl fun _ w hn k => (by
          refine ⟨#[.agg #[.bool b, sv A m c]], _, args1 (k.eq1 0 16 rfl), fun w => by kernel_rfl, rgood_c _ _ _ _ _ (hr.new_ (hN37.transNew hn)) hl, ?_⟩
          rintro e w' ⟨A1, c2, rfl, hmo, hm⟩
          exact ⟨_, rfl, hm, ⟨A1, c2, rfl, hmo⟩⟩)) ?_
    refine .o2 (step_allocN (cs := [.bool false, sv none ([]) 0]) (t := 24) rfl (noG rfl) (fun _ w hn k => rfl) (fun q _ hq hb => ⟨q, rfl, hq, hb⟩)) ?_
    refine .off ?_
    exact .nil
  intro a39 w40 hn41 ha42
  have hs43 := ha42.size.trans hs29
  have hd44 := ha42.defers.trans hd30
  have h45 := ha42.fx 0 h31
  have h46 := ha42.fx 4 h33
  obtain ⟨A48, cc49, h47, hr50⟩ : (fun (v : Value) (W : World) => ∃ (A3 : Option Addr) (c4 : Nat), v = .agg #[.bool (decide (goodI b m < 0)), sv A3 (canon (goodI b m).natAbs) c4] ∧ SRow W .u32 A3 (canon (goodI b m).natAbs) c4) _ _ := ha42.got 1 17 rfl (by kernel_rfl)
  have h47 : a39.eval (.tmp 17) = .agg #[.bool (decide (goodI b m < 0)), sv A48 (canon (goodI b m).natAbs) cc49] := h47
  obtain ⟨q52, h51, hq53, hb54⟩ : IsNew _ _ _ _ _ := ha42.got 2 6 rfl (by kernel_rfl)
  have hb55 := hb36.new_ hn41
  have hne56 : q14 ≠ q52 := by have h1 := hb36.lt; have h2 := hq53; omega
  have hq57 := Nat.le_trans hN37.size hq53
  have hN58 := hN37.transNew hn41
  clear hs29 hd30 h31 h32 h33 h34 hb35 hq18 hb36 hq53 hN37 ha42 hn41
  obtain ⟨w59, -, hst60, hb61, hu62, hf63⟩ := s_two (v0 := .bool (decide (goodI b m < 0))) (v1 := sv A48 (canon (goodI b m).natAbs) cc49) Try.sizeOf24 rfl rfl rfl hb54
  refine st_act rfl rfl fun K64 hL65 => a_store' rfl h51 h47 hst60 (hL65 _ _ trivial ?_)
  have hr66 := hr50.far hb54 hu62 (by first | rfl | decide | simp [notK])
  have hb67 := hf63 _ _ _ (hne56) hb55
  have hN68 := hN58.trans hu62 (fun k hk hkb => by subst hkb; omega)
  clear hb54 hst60 K64 hL65 hN58 hr50 hb55 hu62 hf63
  refine st_nil ?_
  clear h47
  refine hK38 _ _ ?_
  clear hK38 K38
  refine wp_seq_k fun K69 hK69 => ?_
  refine wp_g0 [true, true, true, true, true, true, true, true, true, true, true] [] 40
    [ve (.pointer (some ⟨q52, 1, none⟩)),
     ve (sv A48 (canon (goodI b m).natAbs) cc49),
     ve (iv (kk : Int)),
     (fun (v : Value) (W : World) => ∃ (A11 : Option Addr) (c12 : Nat), v = sv A11 (powL kk) c12 ∧ SOwn W w59.heap.size 50 .u32 A11 (powL kk) c12),
     (fun (v : Value) (W : World) => ∃ (A19 : Option Addr) (c20 : Nat), v = sv A19 (canon (val (powL kk))) c20 ∧ SOwn W w59.heap.size 50 .u32 A19 (canon (val (powL kk))) c20),
     (fun (v : Value) (W : World) => ∃ (A29 : Option Addr) (c30 : Nat) (A31 : Option Addr) (c32 : Nat), v = .tuple #[sv A29 (canon (val (canon (goodI b m).natAbs) / val (canon (val (powL kk))))) c30, sv A31 (canon (val (canon (goodI b m).natAbs) % val (canon (val (powL kk))))) c32] ∧ SOwn W w59.heap.size 50 .u32 A29 (canon (val (canon (goodI b m).natAbs) / val (canon (val (powL kk))))) c30 ∧ SOwn W w59.heap.size 50 .u32 A31 (canon (val (canon (goodI b m).natAbs) % val (canon (val (powL kk))))) c32),
     (fun (v : Value) (W : World) => ∃ (A40 : Option Addr) (c41 : Nat) (A42 : Option Addr) (c43 : Nat), v = .tuple #[sv A40 (canon (val (canon (goodI b m).natAbs) / val (canon (val (powL kk))))) c41, sv A42 (canon (val (canon (goodI b m).natAbs) % val (canon (val (powL kk))))) c43] ∧ SOwn W w59.heap.size 50 .u32 A40 (canon (val (canon (goodI b m).natAbs) / val (canon (val (powL kk))))) c41 ∧ SOwn W w59.heap.size 50 .u32 A42 (canon (val (canon (goodI b m).natAbs) % val (canon (val (powL kk))))) c43),
     (fun (v : Value) (W : World) => ∃ (A51 : Option Addr) (c52 : Nat), v = sv A51 (canon (val (canon (goodI b m).natAbs) / val (canon (val (powL kk))))) c52 ∧ SOwn W w59.heap.size 50 .u32 A51 (canon (val (canon (goodI b m).natAbs) / val (canon (val (powL kk))))) c52),
     (fun (v : Value) (W : World) => ∃ (A60 : Option Addr) (c61 : Nat), v = sv A60 (canon (val (canon (goodI b m).natAbs) % val (canon (val (powL kk))))) c61 ∧ SOwn W w59.heap.size 50 .u32 A60 (canon (val (canon (goodI b m).natAbs) % val (canon (val (powL kk))))) c61),
     (fun (v : Value) (W : World) => ∃ (A66 : Option Addr) (c67 : Nat), v = sv A66 (canon (val (canon (goodI b m).natAbs) / val (canon (val (powL kk))))) c67 ∧ SOwn W w59.heap.size 50 .u32 A66 (canon (val (canon (goodI b m).natAbs) / val (canon (val (powL kk))))) c67),
     (fun (v : Value) (W : World) => ∃ (A72 : Option Addr) (c73 : Nat), v = sv A72 (canon (val (canon (goodI b m).natAbs) % val (canon (val (powL kk))))) c73 ∧ SOwn W w59.heap.size 50 .u32 A72 (canon (val (canon (goodI b m).natAbs) % val (canon (val (powL kk))))) c73)] hs43 (.eq (.eq (.eq (.cons (fun v W W' hn ⟨A11, c12, he, h0⟩ => ⟨A11, c12, he, h0.new_ hn⟩) (.cons (fun v W W' hn ⟨A19, c20, he, h0⟩ => ⟨A19, c20, he, h0.new_ hn⟩) (.cons (fun v W W' hn ⟨A29, c30, A31, c32, he, h0, h1⟩ => ⟨A29, c30, A31, c32, he, h0.new_ hn, h1.new_ hn⟩) (.cons (fun v W W' hn ⟨A40, c41, A42, c43, he, h0, h1⟩ => ⟨A40, c41, A42, c43, he, h0.new_ hn, h1.new_ hn⟩) (.cons (fun v W W' hn ⟨A51, c52, he, h0⟩ => ⟨A51, c52, he, h0.new_ hn⟩) (.cons (fun v W W' hn ⟨A60, c61, he, h0⟩ => ⟨A60, c61, he, h0.new_ hn⟩) (.cons (fun v W W' hn ⟨A66, c67, he, h0⟩ => ⟨A66, c67, he, h0.new_ hn⟩) (.cons (fun v W W' hn ⟨A72, c73, he, h0⟩ => ⟨A72, c73, he, h0.new_ hn⟩) (.nil)))))))))))) ?_ ?_
  · skip
    refine .o1 (tk rfl rfl fun _ w hn k => ⟨_, v_field rfl (k.fx 6 h51) (fun w => rfl), rfl⟩) ?_
    refine .o1 (tk rfl rfl fun _ w hn k => ⟨_, v_load rfl (k.eq1 0 19 rfl) (l_one Try.isAgg22 ((hb61.new_ hn).cell 1)), rfl⟩) ?_
    refine .o1 (tk rfl rfl fun _ w hn k => ⟨_, v_move rfl (k.fx 0 h45), rfl⟩) ?_
    refine .o1 (tkC rfl (noG rfl) rfl fun _ w hn k => (by
          refine ⟨#[iv (kk : Int)], _, args1 (k.eq1 2 21 rfl), fun w => by kernel_rfl, rpower_i (kk : Int) _ (by omega), ?_⟩
          rintro e w' ⟨A9, c10, rfl, hmo, hm⟩
          exact ⟨_, rfl, hm, ⟨A9, c10, rfl, (hmo.more hn.size)⟩⟩)) ?_
    refine .o1 (tkC rfl (noG rfl) rfl fun _ w hn k => (by
          obtain ⟨A13, c14, e15, hx16⟩ : (fun (v : Value) (W : World) => ∃ (A11 : Option Addr) (c12 : Nat), v = sv A11 (powL kk) c12 ∧ SOwn W w59.heap.size 50 .u32 A11 (powL kk) c12) _ _ := k.dep 3 22 (by kernel_rfl) (by kernel_rfl)
          refine ⟨#[sv A13 (powL kk) c14], _, args1 e15, fun w => by kernel_rfl, rtrim_c _ _ _ _ hx16.row (powL_limbs _) (by first | omega | (simp only [List.length_nil, List.length_cons, List.length_set, List.length_replicate]; omega)), ?_⟩
          rintro e w' ⟨A17, c18, rfl, hmo, hm⟩
          exact ⟨_, rfl, hm, ⟨A17, c18, rfl, (hmo.more hn.size)⟩⟩)) ?_
    refine .o1 (tkC rfl (noG rfl) rfl fun _ w hn k => (by
          obtain ⟨A21, c22, e23, hx24⟩ : (fun (v : Value) (W : World) => ∃ (A19 : Option Addr) (c20 : Nat), v = sv A19 (canon (val (powL kk))) c20 ∧ SOwn W w59.heap.size 50 .u32 A19 (canon (val (powL kk))) c20) _ _ := k.dep 4 23 (by kernel_rfl) (by kernel_rfl)
          refine ⟨#[sv A48 (canon (goodI b m).natAbs) cc49, sv A21 (canon (val (powL kk))) c22], _, args2 (k.eq1 1 20 rfl) e23, fun w => by kernel_rfl, rdivide_all _ _ _ _ _ _ _ (hr66.new_ hn) hx24.row (limbs_canon _) (limbs_canon _) (by first | omega | (simp only [List.length_nil, List.length_cons, List.length_set, List.length_replicate]; omega)) (by first | omega | (simp only [List.length_nil, List.length_cons, List.length_set, List.length_replicate]; omega)) pow_pos, ?_⟩
          rintro e w' ⟨A25, c26, A27, c28, rfl, hmo, hmp, hm⟩
          exact ⟨_, rfl, hm, ⟨A25, c26, A27, c28, rfl, (hmo.more hn.size), (hmp.more hn.size)⟩⟩)) ?_
    refine .o1 (tk rfl rfl fun _ w hn k => (by
          obtain ⟨A33, c34, A35, c36, e37, hx38, hx39⟩ : (fun (v : Value) (W : World) => ∃ (A29 : Option Addr) (c30 : Nat) (A31 : Option Addr) (c32 : Nat), v = .tuple #[sv A29 (canon (val (canon (goodI b m).natAbs) / val (canon (val (powL kk))))) c30, sv A31 (canon (val (canon (goodI b m).natAbs) % val (canon (val (powL kk))))) c32] ∧ SOwn W w59.heap.size 50 .u32 A29 (canon (val (canon (goodI b m).natAbs) / val (canon (val (powL kk))))) c30 ∧ SOwn W w59.heap.size 50 .u32 A31 (canon (val (canon (goodI b m).natAbs) % val (canon (val (powL kk))))) c32) _ _ := k.dep 5 24 (by kernel_rfl) (by kernel_rfl)
          exact ⟨_, v_move rfl e37, ⟨A33, c34, A35, c36, rfl, hx38, hx39⟩⟩)) ?_
    refine .o1 (tk rfl rfl fun _ w hn k => (by
          obtain ⟨A44, c45, A46, c47, e48, hx49, hx50⟩ : (fun (v : Value) (W : World) => ∃ (A40 : Option Addr) (c41 : Nat) (A42 : Option Addr) (c43 : Nat), v = .tuple #[sv A40 (canon (val (canon (goodI b m).natAbs) / val (canon (val (powL kk))))) c41, sv A42 (canon (val (canon (goodI b m).natAbs) % val (canon (val (powL kk))))) c43] ∧ SOwn W w59.heap.size 50 .u32 A40 (canon (val (canon (goodI b m).natAbs) / val (canon (val (powL kk))))) c41 ∧ SOwn W w59.heap.size 50 .u32 A42 (canon (val (canon (goodI b m).natAbs) % val (canon (val (powL kk))))) c43) _ _ := k.dep 6 18 (by kernel_rfl) (by kernel_rfl)
          exact ⟨_, v_extract rfl e48 rfl, ⟨A44, c45, rfl, hx49⟩⟩)) ?_
    refine .o1 (tk rfl rfl fun _ w hn k => (by
          obtain ⟨A53, c54, A55, c56, e57, hx58, hx59⟩ : (fun (v : Value) (W : World) => ∃ (A40 : Option Addr) (c41 : Nat) (A42 : Option Addr) (c43 : Nat), v = .tuple #[sv A40 (canon (val (canon (goodI b m).natAbs) / val (canon (val (powL kk))))) c41, sv A42 (canon (val (canon (goodI b m).natAbs) % val (canon (val (powL kk))))) c43] ∧ SOwn W w59.heap.size 50 .u32 A40 (canon (val (canon (goodI b m).natAbs) / val (canon (val (powL kk))))) c41 ∧ SOwn W w59.heap.size 50 .u32 A42 (canon (val (canon (goodI b m).natAbs) % val (canon (val (powL kk))))) c43) _ _ := k.dep 6 18 (by kernel_rfl) (by kernel_rfl)
          exact ⟨_, v_extract rfl e57 rfl, ⟨A55, c56, rfl, hx59⟩⟩)) ?_
    refine .o1 (tk rfl rfl fun _ w hn k => (by
          obtain ⟨A62, c63, e64, hx65⟩ : (fun (v : Value) (W : World) => ∃ (A51 : Option Addr) (c52 : Nat), v = sv A51 (canon (val (canon (goodI b m).natAbs) / val (canon (val (powL kk))))) c52 ∧ SOwn W w59.heap.size 50 .u32 A51 (canon (val (canon (goodI b m).natAbs) / val (canon (val (powL kk))))) c52) _ _ := k.dep 7 25 (by kernel_rfl) (by kernel_rfl)
          exact ⟨_, v_assign rfl e64, ⟨A62, c63, rfl, hx65⟩⟩)) ?_
    refine .o1 (tk rfl rfl fun _ w hn k => (by
          obtain ⟨A68, c69, e70, hx71⟩ : (fun (v : Value) (W : World) => ∃ (A60 : Option Addr) (c61 : Nat), v = sv A60 (canon (val (canon (goodI b m).natAbs) % val (canon (val (powL kk))))) c61 ∧ SOwn W w59.heap.size 50 .u32 A60 (canon (val (canon (goodI b m).natAbs) % val (canon (val (powL kk))))) c61) _ _ := k.dep 8 26 (by kernel_rfl) (by kernel_rfl)
          exact ⟨_, v_assign rfl e70, ⟨A68, c69, rfl, hx71⟩⟩)) ?_
    exact .nil
  intro a70 w71 hn72 ha73
  have hs74 := ha73.size.trans hs43
  have hd75 := ha73.defers.trans hd44
  have h76 := ha73.fx 0 h45
  have h77 := ha73.fx 4 h46
  have h78 := ha73.fx 6 h51
  obtain ⟨A80, cc81, h79, hr82⟩ : (fun (v : Value) (W : World) => ∃ (A72 : Option Addr) (c73 : Nat), v = sv A72 (canon (val (canon (goodI b m).natAbs) % val (canon (val (powL kk))))) c73 ∧ SOwn W w59.heap.size 50 .u32 A72 (canon (val (canon (goodI b m).natAbs) % val (canon (val (powL kk))))) c73) _ _ := ha73.got 10 8 rfl (by kernel_rfl)
  have h79 : a70.eval (.tmp 8) = sv A80 (canon (val (canon (goodI b m).natAbs) % val (canon (val (powL kk))))) cc81 := h79
  have hb83 := hb67.new_ hn72
  have hb84 := hb61.new_ hn72
  have hr85 := hr66.new_ hn72
  have hr86 := hr82.more hN68.size
  have hN87 := hN68.transNew hn72
  clear hs43 hd44 h45 h46 h51 hb67 hb61 hr66 hr82 hN68 ha73 hn72
  refine st_nil ?_
  refine hK69 _ _ ?_
  clear hK69 K69
  refine wp_seq_k fun K88 hK88 => ?_
  refine wp_seq_k fun K89 hK89 => ?_
  rcases Bool.eq_false_or_eq_true (decide (goodI b m < 0)) with ht90 | ht90
  · skip
    have ht90d := of_decide_eq_true ht90
    rcases Bool.eq_false_or_eq_true (decide (((canon (val (canon (goodI b m).natAbs) % val (canon (val (powL kk))))).length : Int) ≤ 0)) with ht91 | ht91
    · skip
      have ht91d := of_decide_eq_true ht91
      refine wp_g0 [true, true, true, true, true, true, true] [] 40
        [ve (pv q52),
         ve (.bool true),
         ve (.bool true),
         ve (sv A80 (canon (val (canon (goodI b m).natAbs) % val (canon (val (powL kk))))) cc81),
         ve (iv ((canon (val (canon (goodI b m).natAbs) % val (canon (val (powL kk))))).length : Int)),
         ve (.bool false),
         ve (.bool false)] hs74 (.eq (.eq (.eq (.eq (.eq (.eq (.eq (.nil)))))))) ?_ ?_
      · skip
        refine .o1 (tk rfl rfl fun _ w hn k => ⟨_, v_field rfl (k.fx 6 h78) (fun w => rfl), rfl⟩) ?_
        refine .o1 (tk rfl rfl fun _ w hn k => ⟨_, v_load rfl (k.eq1 0 27 rfl) (l_one Try.isAgg4 ((hb84.new_ hn).cell 0)), congrArg Value.bool ht90⟩) ?_
        refine .o1 (tk rfl rfl fun _ w hn k => ⟨_, v_move rfl (k.eq1 1 28 rfl), rfl⟩) ?_
        refine .o1 (tg rfl rfl rfl (fun _ _ k => k.eq1 2 29 rfl) fun _ w hn k => ⟨_, v_move rfl (k.fx 8 h79), rfl⟩) ?_
        refine .o1 (tg rfl rfl rfl (fun _ _ k => k.eq1 2 29 rfl) fun _ w hn k => ⟨_, v_lenR rfl elW (k.eq1 3 30 rfl), rfl⟩) ?_
        refine .o1 (tg rfl rfl rfl (fun _ _ k => k.eq1 2 29 rfl) fun _ w hn k => ⟨_, v_bin rfl (k.eq1 4 31 rfl) rfl (fun _ => rfl) (r_gtrK ht91), rfl⟩) ?_
        refine .o1 (tk rfl rfl fun _ w hn k => ⟨_, v_pickT rfl (k.eq1 2 29 rfl) (k.eq1 5 32 rfl), rfl⟩) ?_
        exact .nil
      intro a92 w93 hn94 ha95
      have hs96 := ha95.size.trans hs74
      have hd97 := ha95.defers.trans hd75
      have h98 := ha95.fx 0 h76
      have h99 := ha95.fx 4 h77
      have h100 := ha95.fx 8 h79
      have h101 := ha95.ge 6 33 rfl
      have hb102 := hb83.new_ hn94
      have hr103 := hr86.new_ hn94
      have hN104 := hN87.transNew hn94
      clear hs74 hd75 h76 h77 h78 h79 hb83 hb84 hq57 hr85 hr86 hN87 ha95 hn94
      refine st_nil ?_
      refine hK89 _ _ ?_
      clear hK89 K89
      refine wp_cond_false h101 ?_
      refine wp_skip ?_
      refine hK88 _ _ ?_
      clear hK88 K88
      refine wp_seq_k fun K105 hK105 => ?_
      refine wp_g0 [true, true, false, false] [(2, false), (3, true)] 40
        [ve (sv A80 (canon (val (canon (goodI b m).natAbs) % val (canon (val (powL kk))))) cc81),
         (fun (v : Value) (W : World) => ∃ (A76 : Option Addr) (c77 : Nat), v = .agg #[.bool (decide (sgn false (val (canon (val (canon (goodI b m).natAbs) % val (canon (val (powL kk)))))) < 0)), sv A76 (canon (sgn false (val (canon (val (canon (goodI b m).natAbs) % val (canon (val (powL kk))))))).natAbs) c77] ∧ SRow W .u32 A76 (canon (sgn false (val (canon (val (canon (goodI b m).natAbs) % val (canon (val (powL kk))))))).natAbs) c77),
         vt,
         vt] hs96 (.eq (.cons (fun v W W' hn ⟨A76, c77, he, h0⟩ => ⟨A76, c77, he, h0.new_ hn⟩) (.tt (.tt (.nil))))) ?_ ?_
      · skip
        refine .o1 (tk rfl rfl fun _ w hn k => ⟨_, v_move rfl (k.fx 8 h100), rfl⟩) ?_
        refine .o1 (tkC rfl (noG rfl) rfl fun _ w hn k => (by
              refine ⟨#[.bool false, sv A80 (canon (val (canon (goodI b m).natAbs) % val (canon (val (powL kk))))) cc81], _, args2 rfl (k.eq1 0 38 rfl), fun w => by kernel_rfl, rmade_c _ _ _ _ _ (hr103.new_ hn).row (limbs_canon _) (by first | omega | (simp only [List.length_nil, List.length_cons, List.length_set, List.length_replicate]; omega)), ?_⟩
              rintro e w' ⟨A74, c75, rfl, hmo, hm⟩
              exact ⟨_, rfl, hm, ⟨A74, c75, rfl, hmo⟩⟩)) ?_
        refine .off ?_
        refine .off ?_
        exact .nil
      intro a106 w107 hn108 ha109
      have hs110 := ha109.size.trans hs96
      have hd111 := ha109.defers.trans hd97
      have h112 := ha109.fx 4 h99
      obtain ⟨A114, cc115, h113, hr116⟩ : (fun (v : Value) (W : World) => ∃ (A76 : Option Addr) (c77 : Nat), v = .agg #[.bool (decide (sgn false (val (canon (val (canon (goodI b m).natAbs) % val (canon (val (powL kk)))))) < 0)), sv A76 (canon (sgn false (val (canon (val (canon (goodI b m).natAbs) % val (canon (val (powL kk))))))).natAbs) c77] ∧ SRow W .u32 A76 (canon (sgn false (val (canon (val (canon (goodI b m).natAbs) % val (canon (val (powL kk))))))).natAbs) c77) _ _ := ha109.got 1 39 rfl (by kernel_rfl)
      have h113 : a106.eval (.tmp 39) = .agg #[.bool (decide (sgn false (val (canon (val (canon (goodI b m).natAbs) % val (canon (val (powL kk)))))) < 0)), sv A114 (canon (sgn false (val (canon (val (canon (goodI b m).natAbs) % val (canon (val (powL kk))))))).natAbs) cc115] := h113
      have hb117 := hb102.new_ hn108
      have hN118 := hN104.transNew hn108
      clear hs96 hd97 h98 h99 h100 h101 hb102 hr103 hN104 ha109 hn108
      obtain ⟨w119, -, hst120, hb121, hu122, hf123⟩ := s_two (v0 := .bool (decide (sgn false (val (canon (val (canon (goodI b m).natAbs) % val (canon (val (powL kk)))))) < 0))) (v1 := sv A114 (canon (sgn false (val (canon (val (canon (goodI b m).natAbs) % val (canon (val (powL kk))))))).natAbs) cc115) Try.sizeOf24 rfl rfl rfl hb117
      refine st_act rfl rfl fun K124 hL125 => a_store' rfl h112 h113 hst120 (hL125 _ _ trivial ?_)
      have hr126 := hr116.far hb117 hu122 (by first | rfl | decide | simp [notK])
      have hN127 := hN118.trans hu122 (fun k hk hkb => by subst hkb; omega)
      clear hb117 hst120 K124 hL125 hN118 hr116 hu122 hf123
      refine st_take rfl rfl (y_assign (v := iv 0) rfl rfl) rfl ?_
      obtain ⟨a128, ha129⟩ : ∃ a', a' = a106.put (some 5) (iv 0) := ⟨_, rfl⟩
      have hs130 : a128.tmps.size = 40 := by rw [ha129, put_size]; exact hs110
      have hd131 : a128.defers = [] := by rw [ha129, put_defers]; exact hd111
      have h132 : a128.eval (.tmp 4) = pv q14 := by rw [ha129, put_ne _ _ _ _ (by decide)]; exact h112
      have h133 : a128.eval (.tmp 39) = .agg #[.bool (decide (sgn false (val (canon (val (canon (goodI b m).natAbs) % val (canon (val (powL kk)))))) < 0)), sv A114 (canon (sgn false (val (canon (val (canon (goodI b m).natAbs) % val (canon (val (powL kk))))))).natAbs) cc115] := by rw [ha129, put_ne _ _ _ _ (by decide)]; exact h113
      have h134 : a128.eval (.tmp 5) = iv 0 := by rw [ha129]; exact put_same _ _ _ (by rw [hs110]; decide)
      show stepsTo _ _ _ _ _ (a106.put (some 5) (iv 0)) _
      rw [← ha129]
      clear ha129 hs110 hd111 h112 h113
      refine st_nil ?_
      clear h133
      refine hK105 _ _ ?_
      clear hK105 K105
      refine wp_ret (ret_k hd131 (v := .tuple #[.agg #[.bool (decide (sgn false (val (canon (val (canon (goodI b m).natAbs) % val (canon (val (powL kk)))))) < 0)), sv A114 (canon (sgn false (val (canon (val (canon (goodI b m).natAbs) % val (canon (val (powL kk))))))).natAbs) cc115], iv 0]) (res_ct rfl h132 h134 (l_two Try.isAgg24 Try.sizeOf24 hb121)) ?_)
      have hs2 : (iv 0 : Value) = iv (rangeE (kk : Int)) := by rw [rangeE_in hk]
      have hz1 : sgn false (val (canon (val (canon (goodI b m).natAbs) % val (canon (val (powL kk)))))) = asU (kk : Int) (goodI b m) := asu_neg0 hk ht90 ht91
      exact ⟨A114, cc115, (congrArg (fun z : Int => Ending.returned (Value.tuple #[.agg #[.bool (decide (z < 0)), sv A114 (canon z.natAbs) cc115], iv 0])) hz1).trans (congrArg (fun y => Ending.returned (Value.tuple #[.agg #[.bool (decide (asU (kk : Int) (goodI b m) < 0)), sv A114 (canon (asU (kk : Int) (goodI b m)).natAbs) cc115], y])) hs2), Eq.mp (congrArg (fun z : Int => SRow _ .u32 A114 (canon z.natAbs) cc115) hz1) hr126, hN127⟩
    have ht91d := of_decide_eq_false ht91
    refine wp_g0 [true, true, true, true, true, true, true] [] 40
      [ve (pv q52),
       ve (.bool true),
       ve (.bool true),
       ve (sv A80 (canon (val (canon (goodI b m).natAbs) % val (canon (val (powL kk))))) cc81),
       ve (iv ((canon (val (canon (goodI b m).natAbs) % val (canon (val (powL kk))))).length : Int)),
       ve (.bool true),
       ve (.bool true)] hs74 (.eq (.eq (.eq (.eq (.eq (.eq (.eq (.nil)))))))) ?_ ?_
    · skip
      refine .o1 (tk rfl rfl fun _ w hn k => ⟨_, v_field rfl (k.fx 6 h78) (fun w => rfl), rfl⟩) ?_
      refine .o1 (tk rfl rfl fun _ w hn k => ⟨_, v_load rfl (k.eq1 0 27 rfl) (l_one Try.isAgg4 ((hb84.new_ hn).cell 0)), congrArg Value.bool ht90⟩) ?_
      refine .o1 (tk rfl rfl fun _ w hn k => ⟨_, v_move rfl (k.eq1 1 28 rfl), rfl⟩) ?_
      refine .o1 (tg rfl rfl rfl (fun _ _ k => k.eq1 2 29 rfl) fun _ w hn k => ⟨_, v_move rfl (k.fx 8 h79), rfl⟩) ?_
      refine .o1 (tg rfl rfl rfl (fun _ _ k => k.eq1 2 29 rfl) fun _ w hn k => ⟨_, v_lenR rfl elW (k.eq1 3 30 rfl), rfl⟩) ?_
      refine .o1 (tg rfl rfl rfl (fun _ _ k => k.eq1 2 29 rfl) fun _ w hn k => ⟨_, v_bin rfl (k.eq1 4 31 rfl) rfl (fun _ => rfl) (r_gtrK ht91), rfl⟩) ?_
      refine .o1 (tk rfl rfl fun _ w hn k => ⟨_, v_pickT rfl (k.eq1 2 29 rfl) (k.eq1 5 32 rfl), rfl⟩) ?_
      exact .nil
    intro a135 w136 hn137 ha138
    have hs139 := ha138.size.trans hs74
    have hd140 := ha138.defers.trans hd75
    have h141 := ha138.fx 0 h76
    have h142 := ha138.fx 4 h77
    have h143 := ha138.fx 8 h79
    have h144 := ha138.ge 6 33 rfl
    have hb145 := hb83.new_ hn137
    have hr146 := hr86.new_ hn137
    have hN147 := hN87.transNew hn137
    clear hs74 hd75 h76 h77 h78 h79 hb83 hb84 hq57 hr85 hr86 hN87 ha138 hn137
    refine st_nil ?_
    refine hK89 _ _ ?_
    clear hK89 K89
    refine wp_cond_true h144 ?_
    refine wp_g0 [true, true, true, true, false] [(4, true)] 40
      [ve (iv (kk : Int)),
       (fun (v : Value) (W : World) => ∃ (A84 : Option Addr) (c85 : Nat), v = sv A84 (powL kk) c85 ∧ SOwn W w136.heap.size 50 .u32 A84 (powL kk) c85),
       ve (sv A80 (canon (val (canon (goodI b m).natAbs) % val (canon (val (powL kk))))) cc81),
       (fun (v : Value) (W : World) => ∃ (A92 : Option Addr) (c93 : Nat), v = sv A92 (canon (val (powL kk) - val (canon (val (canon (goodI b m).natAbs) % val (canon (val (powL kk))))))) c93 ∧ SOwn W w136.heap.size 50 .u32 A92 (canon (val (powL kk) - val (canon (val (canon (goodI b m).natAbs) % val (canon (val (powL kk))))))) c93),
       vt] hs139 (.eq (.cons (fun v W W' hn ⟨A84, c85, he, h0⟩ => ⟨A84, c85, he, h0.new_ hn⟩) (.eq (.cons (fun v W W' hn ⟨A92, c93, he, h0⟩ => ⟨A92, c93, he, h0.new_ hn⟩) (.tt (.nil)))))) ?_ ?_
    · skip
      refine .o1 (tk rfl rfl fun _ w hn k => ⟨_, v_move rfl (k.fx 0 h141), rfl⟩) ?_
      refine .o1 (tkC rfl (noG rfl) rfl fun _ w hn k => (by
            refine ⟨#[iv (kk : Int)], _, args1 (k.eq1 0 34 rfl), fun w => by kernel_rfl, rpower_i (kk : Int) _ (by omega), ?_⟩
            rintro e w' ⟨A82, c83, rfl, hmo, hm⟩
            exact ⟨_, rfl, hm, ⟨A82, c83, rfl, (hmo.more hn.size)⟩⟩)) ?_
      refine .o1 (tk rfl rfl fun _ w hn k => ⟨_, v_move rfl (k.fx 8 h143), rfl⟩) ?_
      refine .o1 (tkC rfl (noG rfl) rfl fun _ w hn k => (by
            obtain ⟨A86, c87, e88, hx89⟩ : (fun (v : Value) (W : World) => ∃ (A84 : Option Addr) (c85 : Nat), v = sv A84 (powL kk) c85 ∧ SOwn W w136.heap.size 50 .u32 A84 (powL kk) c85) _ _ := k.dep 1 35 (by kernel_rfl) (by kernel_rfl)
            refine ⟨#[sv A86 (powL kk) c87, sv A80 (canon (val (canon (goodI b m).natAbs) % val (canon (val (powL kk))))) cc81], _, args2 e88 (k.eq1 2 36 rfl), fun w => by kernel_rfl, rminus_c _ _ _ _ _ _ _ hx89.row (hr146.new_ hn).row (powL_limbs _) (limbs_canon _) (by first | omega | (simp only [List.length_nil, List.length_cons, List.length_set, List.length_replicate]; omega)) (by first | omega | (simp only [List.length_nil, List.length_cons, List.length_set, List.length_replicate]; omega)) pow_rem_le, ?_⟩
            rintro e w' ⟨A90, c91, rfl, hmo, hm⟩
            exact ⟨_, rfl, hm, ⟨A90, c91, rfl, (hmo.more hn.size)⟩⟩)) ?_
      refine .off ?_
      exact .nil
    intro a148 w149 hn150 ha151
    have hs152 := ha151.size.trans hs139
    have hd153 := ha151.defers.trans hd140
    have h154 := ha151.fx 4 h142
    have h155 := ha151.fx 8 h143
    obtain ⟨A157, cc158, h156, hr159⟩ : (fun (v : Value) (W : World) => ∃ (A92 : Option Addr) (c93 : Nat), v = sv A92 (canon (val (powL kk) - val (canon (val (canon (goodI b m).natAbs) % val (canon (val (powL kk))))))) c93 ∧ SOwn W w136.heap.size 50 .u32 A92 (canon (val (powL kk) - val (canon (val (canon (goodI b m).natAbs) % val (canon (val (powL kk))))))) c93) _ _ := ha151.got 3 37 rfl (by kernel_rfl)
    have h156 : a148.eval (.tmp 37) = sv A157 (canon (val (powL kk) - val (canon (val (canon (goodI b m).natAbs) % val (canon (val (powL kk))))))) cc158 := h156
    have hb160 := hb145.new_ hn150
    have hr161 := hr146.new_ hn150
    have hr162 := hr159.more hN147.size
    have hN163 := hN147.transNew hn150
    clear hs139 hd140 h141 h142 h143 h144 hb145 hr146 hr159 hN147 ha151 hn150
    refine st_take rfl rfl (y_assign (v := sv A157 (canon (val (powL kk) - val (canon (val (canon (goodI b m).natAbs) % val (canon (val (powL kk))))))) cc158) rfl h156) rfl ?_
    obtain ⟨a164, ha165⟩ : ∃ a', a' = a148.put (some 8) (sv A157 (canon (val (powL kk) - val (canon (val (canon (goodI b m).natAbs) % val (canon (val (powL kk))))))) cc158) := ⟨_, rfl⟩
    have hs166 : a164.tmps.size = 40 := by rw [ha165, put_size]; exact hs152
    have hd167 : a164.defers = [] := by rw [ha165, put_defers]; exact hd153
    have h168 : a164.eval (.tmp 4) = pv q14 := by rw [ha165, put_ne _ _ _ _ (by decide)]; exact h154
    have h169 : a164.eval (.tmp 37) = sv A157 (canon (val (powL kk) - val (canon (val (canon (goodI b m).natAbs) % val (canon (val (powL kk))))))) cc158 := by rw [ha165, put_ne _ _ _ _ (by decide)]; exact h156
    have h170 : a164.eval (.tmp 8) = sv A157 (canon (val (powL kk) - val (canon (val (canon (goodI b m).natAbs) % val (canon (val (powL kk))))))) cc158 := by rw [ha165]; exact put_same _ _ _ (by rw [hs152]; decide)
    show stepsTo _ _ _ _ _ (a148.put (some 8) (sv A157 (canon (val (powL kk) - val (canon (val (canon (goodI b m).natAbs) % val (canon (val (powL kk))))))) cc158)) _
    rw [← ha165]
    clear ha165 hs152 hd153 h154 h155 h156
    refine st_nil ?_
    clear h169 hr161
    refine hK88 _ _ ?_
    clear hK88 K88
    refine wp_seq_k fun K171 hK171 => ?_
    refine wp_g0 [true, true, false, false] [(2, false), (3, true)] 40
      [ve (sv A157 (canon (val (powL kk) - val (canon (val (canon (goodI b m).natAbs) % val (canon (val (powL kk))))))) cc158),
       (fun (v : Value) (W : World) => ∃ (A102 : Option Addr) (c103 : Nat), v = .agg #[.bool (decide (sgn false (val (canon (val (powL kk) - val (canon (val (canon (goodI b m).natAbs) % val (canon (val (powL kk)))))))) < 0)), sv A102 (canon (sgn false (val (canon (val (powL kk) - val (canon (val (canon (goodI b m).natAbs) % val (canon (val (powL kk))))))))).natAbs) c103] ∧ SRow W .u32 A102 (canon (sgn false (val (canon (val (powL kk) - val (canon (val (canon (goodI b m).natAbs) % val (canon (val (powL kk))))))))).natAbs) c103),
       vt,
       vt] hs166 (.eq (.cons (fun v W W' hn ⟨A102, c103, he, h0⟩ => ⟨A102, c103, he, h0.new_ hn⟩) (.tt (.tt (.nil))))) ?_ ?_
    · skip
      refine .o1 (tk rfl rfl fun _ w hn k => ⟨_, v_move rfl (k.fx 8 h170), rfl⟩) ?_
      refine .o1 (tkC rfl (noG rfl) rfl fun _ w hn k => (by
            refine ⟨#[.bool false, sv A157 (canon (val (powL kk) - val (canon (val (canon (goodI b m).natAbs) % val (canon (val (powL kk))))))) cc158], _, args2 rfl (k.eq1 0 38 rfl), fun w => by kernel_rfl, rmade_c _ _ _ _ _ (hr162.new_ hn).row (limbs_canon _) (by first | omega | (simp only [List.length_nil, List.length_cons, List.length_set, List.length_replicate]; omega)), ?_⟩
            rintro e w' ⟨A100, c101, rfl, hmo, hm⟩
            exact ⟨_, rfl, hm, ⟨A100, c101, rfl, hmo⟩⟩)) ?_
      refine .off ?_
      refine .off ?_
      exact .nil
    intro a172 w173 hn174 ha175
    have hs176 := ha175.size.trans hs166
    have hd177 := ha175.defers.trans hd167
    have h178 := ha175.fx 4 h168
    obtain ⟨A180, cc181, h179, hr182⟩ : (fun (v : Value) (W : World) => ∃ (A102 : Option Addr) (c103 : Nat), v = .agg #[.bool (decide (sgn false (val (canon (val (powL kk) - val (canon (val (canon (goodI b m).natAbs) % val (canon (val (powL kk)))))))) < 0)), sv A102 (canon (sgn false (val (canon (val (powL kk) - val (canon (val (canon (goodI b m).natAbs) % val (canon (val (powL kk))))))))).natAbs) c103] ∧ SRow W .u32 A102 (canon (sgn false (val (canon (val (powL kk) - val (canon (val (canon (goodI b m).natAbs) % val (canon (val (powL kk))))))))).natAbs) c103) _ _ := ha175.got 1 39 rfl (by kernel_rfl)
    have h179 : a172.eval (.tmp 39) = .agg #[.bool (decide (sgn false (val (canon (val (powL kk) - val (canon (val (canon (goodI b m).natAbs) % val (canon (val (powL kk)))))))) < 0)), sv A180 (canon (sgn false (val (canon (val (powL kk) - val (canon (val (canon (goodI b m).natAbs) % val (canon (val (powL kk))))))))).natAbs) cc181] := h179
    have hb183 := hb160.new_ hn174
    have hN184 := hN163.transNew hn174
    clear hs166 hd167 h168 h170 hb160 hr162 hN163 ha175 hn174
    obtain ⟨w185, -, hst186, hb187, hu188, hf189⟩ := s_two (v0 := .bool (decide (sgn false (val (canon (val (powL kk) - val (canon (val (canon (goodI b m).natAbs) % val (canon (val (powL kk)))))))) < 0))) (v1 := sv A180 (canon (sgn false (val (canon (val (powL kk) - val (canon (val (canon (goodI b m).natAbs) % val (canon (val (powL kk))))))))).natAbs) cc181) Try.sizeOf24 rfl rfl rfl hb183
    refine st_act rfl rfl fun K190 hL191 => a_store' rfl h178 h179 hst186 (hL191 _ _ trivial ?_)
    have hr192 := hr182.far hb183 hu188 (by first | rfl | decide | simp [notK])
    have hN193 := hN184.trans hu188 (fun k hk hkb => by subst hkb; omega)
    clear hb183 hst186 K190 hL191 hN184 hr182 hu188 hf189
    refine st_take rfl rfl (y_assign (v := iv 0) rfl rfl) rfl ?_
    obtain ⟨a194, ha195⟩ : ∃ a', a' = a172.put (some 5) (iv 0) := ⟨_, rfl⟩
    have hs196 : a194.tmps.size = 40 := by rw [ha195, put_size]; exact hs176
    have hd197 : a194.defers = [] := by rw [ha195, put_defers]; exact hd177
    have h198 : a194.eval (.tmp 4) = pv q14 := by rw [ha195, put_ne _ _ _ _ (by decide)]; exact h178
    have h199 : a194.eval (.tmp 39) = .agg #[.bool (decide (sgn false (val (canon (val (powL kk) - val (canon (val (canon (goodI b m).natAbs) % val (canon (val (powL kk)))))))) < 0)), sv A180 (canon (sgn false (val (canon (val (powL kk) - val (canon (val (canon (goodI b m).natAbs) % val (canon (val (powL kk))))))))).natAbs) cc181] := by rw [ha195, put_ne _ _ _ _ (by decide)]; exact h179
    have h200 : a194.eval (.tmp 5) = iv 0 := by rw [ha195]; exact put_same _ _ _ (by rw [hs176]; decide)
    show stepsTo _ _ _ _ _ (a172.put (some 5) (iv 0)) _
    rw [← ha195]
    clear ha195 hs176 hd177 h178 h179
    refine st_nil ?_
    clear h199
    refine hK171 _ _ ?_
    clear hK171 K171
    refine wp_ret (ret_k hd197 (v := .tuple #[.agg #[.bool (decide (sgn false (val (canon (val (powL kk) - val (canon (val (canon (goodI b m).natAbs) % val (canon (val (powL kk)))))))) < 0)), sv A180 (canon (sgn false (val (canon (val (powL kk) - val (canon (val (canon (goodI b m).natAbs) % val (canon (val (powL kk))))))))).natAbs) cc181], iv 0]) (res_ct rfl h198 h200 (l_two Try.isAgg24 Try.sizeOf24 hb187)) ?_)
    have hs2 : (iv 0 : Value) = iv (rangeE (kk : Int)) := by rw [rangeE_in hk]
    have hz1 : sgn false (val (canon (val (powL kk) - val (canon (val (canon (goodI b m).natAbs) % val (canon (val (powL kk)))))))) = asU (kk : Int) (goodI b m) := asu_neg hk ht90 ht91
    exact ⟨A180, cc181, (congrArg (fun z : Int => Ending.returned (Value.tuple #[.agg #[.bool (decide (z < 0)), sv A180 (canon z.natAbs) cc181], iv 0])) hz1).trans (congrArg (fun y => Ending.returned (Value.tuple #[.agg #[.bool (decide (asU (kk : Int) (goodI b m) < 0)), sv A180 (canon (asU (kk : Int) (goodI b m)).natAbs) cc181], y])) hs2), Eq.mp (congrArg (fun z : Int => SRow _ .u32 A180 (canon z.natAbs) cc181) hz1) hr192, hN193⟩
  have ht90d := of_decide_eq_false ht90
  refine wp_g0 [true, true, true, true, true, true, true] [] 40
    [ve (pv q52),
     ve (.bool false),
     ve (.bool false),
     ve undef,
     ve undef,
     ve undef,
     ve (.bool false)] hs74 (.eq (.eq (.eq (.eq (.eq (.eq (.eq (.nil)))))))) ?_ ?_
  · skip
    refine .o1 (tk rfl rfl fun _ w hn k => ⟨_, v_field rfl (k.fx 6 h78) (fun w => rfl), rfl⟩) ?_
    refine .o1 (tk rfl rfl fun _ w hn k => ⟨_, v_load rfl (k.eq1 0 27 rfl) (l_one Try.isAgg4 ((hb84.new_ hn).cell 0)), congrArg Value.bool ht90⟩) ?_
    refine .o1 (tk rfl rfl fun _ w hn k => ⟨_, v_move rfl (k.eq1 1 28 rfl), rfl⟩) ?_
    refine .o1 (sk rfl rfl rfl (fun _ _ _ k => k.eq1 2 29 rfl) (fun _ => rfl)) ?_
    refine .o1 (sk rfl rfl rfl (fun _ _ _ k => k.eq1 2 29 rfl) (fun _ => rfl)) ?_
    refine .o1 (sk rfl rfl rfl (fun _ _ _ k => k.eq1 2 29 rfl) (fun _ => rfl)) ?_
    refine .o1 (tk rfl rfl fun _ w hn k => ⟨_, v_pickF rfl (k.eq1 2 29 rfl) rfl, rfl⟩) ?_
    exact .nil
  intro a201 w202 hn203 ha204
  have hs205 := ha204.size.trans hs74
  have hd206 := ha204.defers.trans hd75
  have h207 := ha204.fx 0 h76
  have h208 := ha204.fx 4 h77
  have h209 := ha204.fx 8 h79
  have h210 := ha204.ge 6 33 rfl
  have hb211 := hb83.new_ hn203
  have hr212 := hr86.new_ hn203
  have hN213 := hN87.transNew hn203
  clear hs74 hd75 h76 h77 h78 h79 hb83 hb84 hq57 hr85 hr86 hN87 ha204 hn203
  refine st_nil ?_
  refine hK89 _ _ ?_
  clear hK89 K89
  refine wp_cond_false h210 ?_
  refine wp_skip ?_
  refine hK88 _ _ ?_
  clear hK88 K88
  refine wp_seq_k fun K214 hK214 => ?_
  refine wp_g0 [true, true, false, false] [(2, false), (3, true)] 40
    [ve (sv A80 (canon (val (canon (goodI b m).natAbs) % val (canon (val (powL kk))))) cc81),
     (fun (v : Value) (W : World) => ∃ (A110 : Option Addr) (c111 : Nat), v = .agg #[.bool (decide (sgn false (val (canon (val (canon (goodI b m).natAbs) % val (canon (val (powL kk)))))) < 0)), sv A110 (canon (sgn false (val (canon (val (canon (goodI b m).natAbs) % val (canon (val (powL kk))))))).natAbs) c111] ∧ SRow W .u32 A110 (canon (sgn false (val (canon (val (canon (goodI b m).natAbs) % val (canon (val (powL kk))))))).natAbs) c111),
     vt,
     vt] hs205 (.eq (.cons (fun v W W' hn ⟨A110, c111, he, h0⟩ => ⟨A110, c111, he, h0.new_ hn⟩) (.tt (.tt (.nil))))) ?_ ?_
  · skip
    refine .o1 (tk rfl rfl fun _ w hn k => ⟨_, v_move rfl (k.fx 8 h209), rfl⟩) ?_
    refine .o1 (tkC rfl (noG rfl) rfl fun _ w hn k => (by
          refine ⟨#[.bool false, sv A80 (canon (val (canon (goodI b m).natAbs) % val (canon (val (powL kk))))) cc81], _, args2 rfl (k.eq1 0 38 rfl), fun w => by kernel_rfl, rmade_c _ _ _ _ _ (hr212.new_ hn).row (limbs_canon _) (by first | omega | (simp only [List.length_nil, List.length_cons, List.length_set, List.length_replicate]; omega)), ?_⟩
          rintro e w' ⟨A108, c109, rfl, hmo, hm⟩
          exact ⟨_, rfl, hm, ⟨A108, c109, rfl, hmo⟩⟩)) ?_
    refine .off ?_
    refine .off ?_
    exact .nil
  intro a215 w216 hn217 ha218
  have hs219 := ha218.size.trans hs205
  have hd220 := ha218.defers.trans hd206
  have h221 := ha218.fx 4 h208
  obtain ⟨A223, cc224, h222, hr225⟩ : (fun (v : Value) (W : World) => ∃ (A110 : Option Addr) (c111 : Nat), v = .agg #[.bool (decide (sgn false (val (canon (val (canon (goodI b m).natAbs) % val (canon (val (powL kk)))))) < 0)), sv A110 (canon (sgn false (val (canon (val (canon (goodI b m).natAbs) % val (canon (val (powL kk))))))).natAbs) c111] ∧ SRow W .u32 A110 (canon (sgn false (val (canon (val (canon (goodI b m).natAbs) % val (canon (val (powL kk))))))).natAbs) c111) _ _ := ha218.got 1 39 rfl (by kernel_rfl)
  have h222 : a215.eval (.tmp 39) = .agg #[.bool (decide (sgn false (val (canon (val (canon (goodI b m).natAbs) % val (canon (val (powL kk)))))) < 0)), sv A223 (canon (sgn false (val (canon (val (canon (goodI b m).natAbs) % val (canon (val (powL kk))))))).natAbs) cc224] := h222
  have hb226 := hb211.new_ hn217
  have hN227 := hN213.transNew hn217
  clear hs205 hd206 h207 h208 h209 h210 hb211 hr212 hN213 ha218 hn217
  obtain ⟨w228, -, hst229, hb230, hu231, hf232⟩ := s_two (v0 := .bool (decide (sgn false (val (canon (val (canon (goodI b m).natAbs) % val (canon (val (powL kk)))))) < 0))) (v1 := sv A223 (canon (sgn false (val (canon (val (canon (goodI b m).natAbs) % val (canon (val (powL kk))))))).natAbs) cc224) Try.sizeOf24 rfl rfl rfl hb226
  refine st_act rfl rfl fun K233 hL234 => a_store' rfl h221 h222 hst229 (hL234 _ _ trivial ?_)
  have hr235 := hr225.far hb226 hu231 (by first | rfl | decide | simp [notK])
  have hN236 := hN227.trans hu231 (fun k hk hkb => by subst hkb; omega)
  clear hb226 hst229 K233 hL234 hN227 hr225 hu231 hf232
  refine st_take rfl rfl (y_assign (v := iv 0) rfl rfl) rfl ?_
  obtain ⟨a237, ha238⟩ : ∃ a', a' = a215.put (some 5) (iv 0) := ⟨_, rfl⟩
  have hs239 : a237.tmps.size = 40 := by rw [ha238, put_size]; exact hs219
  have hd240 : a237.defers = [] := by rw [ha238, put_defers]; exact hd220
  have h241 : a237.eval (.tmp 4) = pv q14 := by rw [ha238, put_ne _ _ _ _ (by decide)]; exact h221
  have h242 : a237.eval (.tmp 39) = .agg #[.bool (decide (sgn false (val (canon (val (canon (goodI b m).natAbs) % val (canon (val (powL kk)))))) < 0)), sv A223 (canon (sgn false (val (canon (val (canon (goodI b m).natAbs) % val (canon (val (powL kk))))))).natAbs) cc224] := by rw [ha238, put_ne _ _ _ _ (by decide)]; exact h222
  have h243 : a237.eval (.tmp 5) = iv 0 := by rw [ha238]; exact put_same _ _ _ (by rw [hs219]; decide)
  show stepsTo _ _ _ _ _ (a215.put (some 5) (iv 0)) _
  rw [← ha238]
  clear ha238 hs219 hd220 h221 h222
  refine st_nil ?_
  clear h242
  refine hK214 _ _ ?_
  clear hK214 K214
  refine wp_ret (ret_k hd240 (v := .tuple #[.agg #[.bool (decide (sgn false (val (canon (val (canon (goodI b m).natAbs) % val (canon (val (powL kk)))))) < 0)), sv A223 (canon (sgn false (val (canon (val (canon (goodI b m).natAbs) % val (canon (val (powL kk))))))).natAbs) cc224], iv 0]) (res_ct rfl h241 h243 (l_two Try.isAgg24 Try.sizeOf24 hb230)) ?_)
  have hs2 : (iv 0 : Value) = iv (rangeE (kk : Int)) := by rw [rangeE_in hk]
  have hz1 : sgn false (val (canon (val (canon (goodI b m).natAbs) % val (canon (val (powL kk)))))) = asU (kk : Int) (goodI b m) := asu_pos hk ht90
  exact ⟨A223, cc224, (congrArg (fun z : Int => Ending.returned (Value.tuple #[.agg #[.bool (decide (z < 0)), sv A223 (canon z.natAbs) cc224], iv 0])) hz1).trans (congrArg (fun y => Ending.returned (Value.tuple #[.agg #[.bool (decide (asU (kk : Int) (goodI b m) < 0)), sv A223 (canon (asU (kk : Int) (goodI b m)).natAbs) cc224], y])) hs2), Eq.mp (congrArg (fun z : Int => SRow _ .u32 A223 (canon z.natAbs) cc224) hz1) hr235, hN236⟩
theorem rasu_c (b : Bool) (A : Option Addr) (m : List Nat) (c : Nat) (n : Int) (w : World) (hr : SRow w .u32 A m c) (hl : Limbs m) : Calls Try.prog 22 #[iv n, .agg #[.bool b, sv A m c]] w (RetZE (asU n (goodI b m)) (rangeE n) w) := by
  by_cases hn : n < 0 ∨ 256 < n
  · exact rasu_out b A m c n w hr hl hn
  · obtain ⟨kk, rfl⟩ : ∃ kk : Nat, n = kk := ⟨n.toNat, by omega⟩
    exact rasu_in b A m c kk w hr hl (by omega)
set_option maxHeartbeats 4000000 in
set_option maxRecDepth 100000 in
theorem rasi_out (b : Bool) (A : Option Addr) (m : List Nat) (c : Nat) (n : Int) (w : World) (hr : SRow w .u32 A m c) (hl : Limbs m) (hn : n < 0 ∨ 256 < n) : Calls Try.prog 24 #[iv n, .agg #[.bool b, sv A m c]] w (RetZE (asI n (goodI b m)) (rangeE n) w) := by
  refine enter_abs Try.func24 rfl fun a0 hs0 hd0 hp => ?_
  have hs0 : a0.tmps.size = 38 := hs0
  have hN0 : New w w := Upd.refl _ _
  have hp0 : a0.eval (.tmp 0) = iv n := hp 0 _ rfl
  have hp1 : a0.eval (.tmp 1) = .agg #[.bool b, sv A m c] := hp 1 _ rfl
  clear hp
  refine wp_seq_k fun K1 hK1 => ?_
  refine wp_g [true, true, true] [] [] 38
    [IsNew w 24 [.bool b, sv A m c],
     IsNew w 24 [.bool false, sv none ([]) 0],
     ve (iv 0)]
    [0, 1] (newsCons (fun v w h => IsNew.old h) (newsCons (fun v w h => IsNew.old h) newsNil)) hs0 (.nw (.nw (.eq (.nil)))) ?_ (fun i h => by cases h) ?_
  · skip
    refine .o2 (step_allocN (cs := [.bool b, sv A m c]) (t := 24) rfl (noG rfl) (fun _ w hn k => v_box rfl (k.fx 1 hp1) (fun w => rfl)) (fun q _ hq hb => ⟨q, rfl, hq, hb⟩)) ?_
    refine .o2 (step_allocN (cs := [.bool false, sv none ([]) 0]) (t := 24) rfl (noG rfl) (fun _ w hn k => rfl) (fun q _ hq hb => ⟨q, rfl, hq, hb⟩)) ?_
    refine .o1 (tk rfl rfl fun _ w hn k => ⟨_, v_assign rfl rfl, rfl⟩) ?_
    exact .nil
  intro a2 w3 hn4 ha5
  have hs6 := ha5.size.trans hs0
  have hd7 := ha5.defers.trans hd0
  have h8 := ha5.fx 0 hp0
  obtain ⟨q10, h9, hq11, hb12⟩ : IsNew _ _ _ _ _ := ha5.got 0 3 rfl (by kernel_rfl)
  obtain ⟨q14, h13, hq15, hb16⟩ : IsNew _ _ _ _ _ := ha5.got 1 4 rfl (by kernel_rfl)
  have hne17 : q10 ≠ q14 := ha5.ne 0 1 3 4 h9 h13
  have hq18 := Nat.le_trans hN0.size hq11
  have hq19 := Nat.le_trans hN0.size hq15
  have hN20 := hN0.transNew hn4
  clear hs0 hd0 hp0 hp1 hq11 hq15 hN0 ha5 hn4
  refine st_nil ?_
  refine hK1 _ _ ?_
  clear hK1 K1
  refine wp_seq_k fun K21 hK21 => ?_
  refine wp_gS (fun W => True) (fun W W' hn h => trivial) trivial [true, true, true, true, true, true, true, false, false] [5] [(7, false), (8, true)] 38
    [ve (iv n),
     ve (.agg #[.bool b, sv A m c]),
     (fun (v : Value) (W : World) => ∃ (A3 : Option Addr) (c4 : Nat), v = .tuple #[.agg #[.bool (decide (asU n (goodI b m) < 0)), sv A3 (canon (asU n (goodI b m)).natAbs) c4], iv (rangeE n)] ∧ SRow W .u32 A3 (canon (asU n (goodI b m)).natAbs) c4),
     (fun (v : Value) (W : World) => ∃ (A9 : Option Addr) (c10 : Nat), v = .tuple #[.agg #[.bool (decide (asU n (goodI b m) < 0)), sv A9 (canon (asU n (goodI b m)).natAbs) c10], iv (rangeE n)] ∧ SRow W .u32 A9 (canon (asU n (goodI b m)).natAbs) c10),
     (fun (v : Value) (W : World) => ∃ (A15 : Option Addr) (c16 : Nat), v = .agg #[.bool (decide (asU n (goodI b m) < 0)), sv A15 (canon (asU n (goodI b m)).natAbs) c16] ∧ SRow W .u32 A15 (canon (asU n (goodI b m)).natAbs) c16),
     ve (iv (rangeE n)),
     IsNew w3 24 [.bool false, sv none ([]) 0],
     vt,
     vt]
    [6] (newsCons (fun v w h => IsNew.old h) newsNil) hs6 (.eq (.eq (.cons (fun v W W' hn ⟨A3, c4, he, h0⟩ => ⟨A3, c4, he, h0.new_ hn⟩) (.cons (fun v W W' hn ⟨A9, c10, he, h0⟩ => ⟨A9, c10, he, h0.new_ hn⟩) (.cons (fun v W W' hn ⟨A15, c16, he, h0⟩ => ⟨A15, c16, he, h0.new_ hn⟩) (.eq (.nw (.tt (.tt (.nil)))))))))) ?_ ?_ ?_
  · skip
    refine .o1 (tk rfl rfl fun _ w hn k => ⟨_, v_move rfl (k.fx 0 h8), rfl⟩) ?_
    refine .o1 (tk rfl rfl fun _ w hn k => ⟨_, v_load rfl (k.fx 3 h9) (l_two Try.isAgg24 Try.sizeOf24 (hb12.new_ hn)), rfl⟩) ?_
    refine .o1 (tkC rfl (noG rfl) rfl fun _ w hn k => (by
          refine ⟨#[iv n, .agg #[.bool b, sv A m c]], _, args2 (k.eq1 0 9 rfl) (k.eq1 1 10 rfl), fun w => by kernel_rfl, rasu_c _ _ _ _ n _ (hr.new_ (hN20.transNew hn)) hl, ?_⟩
          rintro e w' ⟨A1, c2, rfl, hmo, hm⟩
          exact ⟨_, rfl, hm, ⟨A1, c2, rfl, hmo⟩⟩)) ?_
    refine .o1 (tk rfl rfl fun _ w hn k => (by
          obtain ⟨A5, c6, e7, hx8⟩ : (fun (v : Value) (W : World) => ∃ (A3 : Option Addr) (c4 : Nat), v = .tuple #[.agg #[.bool (decide (asU n (goodI b m) < 0)), sv A3 (canon (asU n (goodI b m)).natAbs) c4], iv (rangeE n)] ∧ SRow W .u32 A3 (canon (asU n (goodI b m)).natAbs) c4) _ _ := k.dep 2 11 (by kernel_rfl) (by kernel_rfl)
          exact ⟨_, v_move rfl e7, ⟨A5, c6, rfl, hx8⟩⟩)) ?_
    refine .o1 (tk rfl rfl fun _ w hn k => (by
          obtain ⟨A11, c12, e13, hx14⟩ : (fun (v : Value) (W : World) => ∃ (A9 : Option Addr) (c10 : Nat), v = .tuple #[.agg #[.bool (decide (asU n (goodI b m) < 0)), sv A9 (canon (asU n (goodI b m)).natAbs) c10], iv (rangeE n)] ∧ SRow W .u32 A9 (canon (asU n (goodI b m)).natAbs) c10) _ _ := k.dep 3 8 (by kernel_rfl) (by kernel_rfl)
          exact ⟨_, v_extract rfl e13 rfl, ⟨A11, c12, rfl, hx14⟩⟩)) ?_
    refine .o3 ?_
    refine .o2 (step_allocN (cs := [.bool false, sv none ([]) 0]) (t := 24) rfl (noG rfl) (fun _ w hn k => rfl) (fun q _ hq hb => ⟨q, rfl, hq, hb⟩)) ?_
    refine .off ?_
    refine .off ?_
    exact .nil
  · skip
    intro i h
    simp only [List.contains_eq_mem, List.mem_cons, List.not_mem_nil, or_false, decide_eq_true_eq] at h
    subst h
    · exact eager_takeG rfl (noG rfl) fun _ w hn k => (by
          obtain ⟨A17, c18, e19, hx20⟩ : (fun (v : Value) (W : World) => ∃ (A9 : Option Addr) (c10 : Nat), v = .tuple #[.agg #[.bool (decide (asU n (goodI b m) < 0)), sv A9 (canon (asU n (goodI b m)).natAbs) c10], iv (rangeE n)] ∧ SRow W .u32 A9 (canon (asU n (goodI b m)).natAbs) c10) _ _ := k.dep 3 8 (by kernel_rfl) (by kernel_rfl)
          exact ⟨_, fun w hS => v_extract rfl e19 rfl, rfl⟩)
  intro a22 w23 _ hn24 ha25
  have hs26 := ha25.size.trans hs6
  have hd27 := ha25.defers.trans hd7
  have h28 := ha25.fx 0 h8
  have h29 := ha25.fx 4 h13
  obtain ⟨A31, cc32, h30, hr33⟩ : (fun (v : Value) (W : World) => ∃ (A15 : Option Addr) (c16 : Nat), v = .agg #[.bool (decide (asU n (goodI b m) < 0)), sv A15 (canon (asU n (goodI b m)).natAbs) c16] ∧ SRow W .u32 A15 (canon (asU n (goodI b m)).natAbs) c16) _ _ := ha25.got 4 12 rfl (by kernel_rfl)
  have h30 : a22.eval (.tmp 12) = .agg #[.bool (decide (asU n (goodI b m) < 0)), sv A31 (canon (asU n (goodI b m)).natAbs) cc32] := h30
  have h34 := ha25.ge 5 13 rfl
  obtain ⟨q36, h35, hq37, hb38⟩ : IsNew _ _ _ _ _ := ha25.got 6 6 rfl (by kernel_rfl)
  have hb39 := hb16.new_ hn24
  have hne40 : q14 ≠ q36 := by have h1 := hb16.lt; have h2 := hq37; omega
  have hq41 := Nat.le_trans hN20.size hq37
  have hN42 := hN20.transNew hn24
  clear hs6 hd7 h8 h9 h13 hb12 hq18 hb16 hq37 hN20 ha25 hn24
  obtain ⟨w43, -, hst44, hb45, hu46, hf47⟩ := s_two (v0 := .bool (decide (asU n (goodI b m) < 0))) (v1 := sv A31 (canon (asU n (goodI b m)).natAbs) cc32) Try.sizeOf24 rfl rfl rfl hb38
  refine st_act rfl rfl fun K48 hL49 => a_store' rfl h35 h30 hst44 (hL49 _ _ trivial ?_)
  have hr50 := hr33.far hb38 hu46 (by first | rfl | decide | simp [notK])
  have hb51 := hf47 _ _ _ (hne40) hb39
  have hN52 := hN42.trans hu46 (fun k hk hkb => by subst hkb; omega)
  clear hb38 hst44 K48 hL49 hN42 hr33 hb39 hu46 hf47
  refine st_take rfl rfl (y_assign (v := iv (rangeE n)) rfl h34) rfl ?_
  obtain ⟨a53, ha54⟩ : ∃ a', a' = a22.put (some 7) (iv (rangeE n)) := ⟨_, rfl⟩
  have hs55 : a53.tmps.size = 38 := by rw [ha54, put_size]; exact hs26
  have hd56 : a53.defers = [] := by rw [ha54, put_defers]; exact hd27
  have h57 : a53.eval (.tmp 0) = iv n := by rw [ha54, put_ne _ _ _ _ (by decide)]; exact h28
  have h58 : a53.eval (.tmp 4) = pv q14 := by rw [ha54, put_ne _ _ _ _ (by decide)]; exact h29
  have h59 : a53.eval (.tmp 12) = .agg #[.bool (decide (asU n (goodI b m) < 0)), sv A31 (canon (asU n (goodI b m)).natAbs) cc32] := by rw [ha54, put_ne _ _ _ _ (by decide)]; exact h30
  have h60 : a53.eval (.tmp 13) = iv (rangeE n) := by rw [ha54, put_ne _ _ _ _ (by decide)]; exact h34
  have h61 : a53.eval (.tmp 6) = pv q36 := by rw [ha54, put_ne _ _ _ _ (by decide)]; exact h35
  have h62 : a53.eval (.tmp 7) = iv (rangeE n) := by rw [ha54]; exact put_same _ _ _ (by rw [hs26]; decide)
  show stepsTo _ _ _ _ _ (a22.put (some 7) (iv (rangeE n))) _
  rw [← ha54]
  clear ha54 hs26 hd27 h28 h29 h30 h34 h35
  refine st_nil ?_
  clear h59 h60
  refine hK21 _ _ ?_
  clear hK21 K21
  refine wp_seq_k fun K63 hK63 => ?_
  refine wp_seq_k fun K64 hK64 => ?_
  have ht65 : (decide ((rangeE n) = 0)) = false := decide_eq_false (by rw [rangeE_out hn]; decide)
  have ht65d := of_decide_eq_false ht65
  refine wp_g0 [true, true, true, true, true, true, true, true, true, true, true, true, true, true, true] [] 38
    [ve (iv (rangeE n)),
     ve (.bool true),
     ve (.bool true),
     ve undef,
     ve undef,
     ve (.bool true),
     ve (.bool true),
     ve undef,
     ve undef,
     ve undef,
     ve undef,
     ve undef,
     ve undef,
     ve undef,
     ve (.bool true)] hs55 (.eq (.eq (.eq (.eq (.eq (.eq (.eq (.eq (.eq (.eq (.eq (.eq (.eq (.eq (.eq (.nil)))))))))))))))) ?_ ?_
  · skip
    refine .o1 (tk rfl rfl fun _ w hn k => ⟨_, v_move rfl (k.fx 7 h62), rfl⟩) ?_
    refine .o1 (tk rfl rfl fun _ w hn k => ⟨_, v_bin rfl (k.eq1 0 14 rfl) rfl (fun _ => rfl) (r_neq ht65), rfl⟩) ?_
    refine .o1 (tk rfl rfl fun _ w hn k => ⟨_, v_move rfl (k.eq1 1 15 rfl), rfl⟩) ?_
    refine .o1 (sk rfl rfl rfl (fun _ _ _ k => k.eq1 2 16 rfl) (fun _ => rfl)) ?_
    refine .o1 (sk rfl rfl rfl (fun _ _ _ k => k.eq1 2 16 rfl) (fun _ => rfl)) ?_
    refine .o1 (tk rfl rfl fun _ w hn k => ⟨_, v_pickT rfl (k.eq1 2 16 rfl) rfl, rfl⟩) ?_
    refine .o1 (tk rfl rfl fun _ w hn k => ⟨_, v_move rfl (k.eq1 5 19 rfl), rfl⟩) ?_
    refine .o1 (sk rfl rfl rfl (fun _ _ _ k => k.eq1 6 20 rfl) (fun _ => rfl)) ?_
    refine .o1 (sk rfl rfl rfl (fun _ _ _ k => k.eq1 6 20 rfl) (fun _ => rfl)) ?_
    refine .o1 (sk rfl rfl rfl (fun _ _ _ k => k.eq1 6 20 rfl) (fun _ => rfl)) ?_
    refine .o1 (sk rfl rfl rfl (fun _ _ _ k => k.eq1 6 20 rfl) (fun _ => rfl)) ?_
    refine .o1 (sk rfl rfl rfl (fun _ _ _ k => k.eq1 6 20 rfl) (fun _ => rfl)) ?_
    refine .o1 (sk rfl rfl rfl (fun _ _ _ k => k.eq1 6 20 rfl) (fun _ => rfl)) ?_
    refine .o1 (sk rfl rfl rfl (fun _ _ _ k => k.eq1 6 20 rfl) (fun _ => rfl)) ?_
    refine .o1 (tk rfl rfl fun _ w hn k => ⟨_, v_pickT rfl (k.eq1 6 20 rfl) rfl, rfl⟩) ?_
    exact .nil
  intro a66 w67 hn68 ha69
  have hs70 := ha69.size.trans hs55
  have hd71 := ha69.defers.trans hd56
  have h72 := ha69.fx 0 h57
  have h73 := ha69.fx 4 h58
  have h74 := ha69.fx 6 h61
  have h75 := ha69.fx 7 h62
  have h76 := ha69.ge 14 28 rfl
  have hb77 := hb51.new_ hn68
  have hb78 := hb45.new_ hn68
  have hr79 := hr50.new_ hn68
  have hN80 := hN52.transNew hn68
  clear hs55 hd56 h57 h58 h61 h62 hb51 hb45 hr50 hN52 ha69 hn68
  refine st_nil ?_
  refine hK64 _ _ ?_
  clear hK64 K64
  refine wp_cond_true h76 ?_
  refine wp_seq_k fun K81 hK81 => ?_
  refine wp_g [true, true, false, false] [1] [(2, false), (3, true)] 38
    [ve (.agg #[.bool (decide (asU n (goodI b m) < 0)), sv A31 (canon (asU n (goodI b m)).natAbs) cc32]),
     ve (iv (rangeE n)),
     vt,
     vt]
    [] newsNil hs70 (.eq (.eq (.tt (.tt (.nil))))) ?_ ?_ ?_
  · skip
    refine .o1 (tk rfl rfl fun _ w hn k => ⟨_, v_load rfl (k.fx 6 h74) (l_two Try.isAgg24 Try.sizeOf24 (hb78.new_ hn)), rfl⟩) ?_
    refine .o3 ?_
    refine .off ?_
    refine .off ?_
    exact .nil
  · skip
    intro i h
    simp only [List.contains_eq_mem, List.mem_cons, List.not_mem_nil, or_false, decide_eq_true_eq] at h
    subst h
    · exact eager_take rfl rfl fun _ w hn k => ⟨iv (rangeE n), fun w => v_move rfl (k.fx 7 h75), rfl⟩
  intro a82 w83 hn84 ha85
  have hs86 := ha85.size.trans hs70
  have hd87 := ha85.defers.trans hd71
  have h88 := ha85.fx 4 h73
  have h89 := ha85.ge 0 29 rfl
  have h90 := ha85.ge 1 30 rfl
  have hb91 := hb77.new_ hn84
  have hr92 := hr79.new_ hn84
  have hN93 := hN80.transNew hn84
  clear hs70 hd71 h72 h73 h74 h75 h76 hb77 hb78 hq41 hr79 hN80 ha85 hn84
  obtain ⟨w94, -, hst95, hb96, hu97, hf98⟩ := s_two (v0 := .bool (decide (asU n (goodI b m) < 0))) (v1 := sv A31 (canon (asU n (goodI b m)).natAbs) cc32) Try.sizeOf24 rfl rfl rfl hb91
  refine st_act rfl rfl fun K99 hL100 => a_store' rfl h88 h89 hst95 (hL100 _ _ trivial ?_)
  have hr101 := hr92.far hb91 hu97 (by first | rfl | decide | simp [notK])
  have hN102 := hN93.trans hu97 (fun k hk hkb => by subst hkb; omega)
  clear hb91 hst95 K99 hL100 hN93 hr92 hu97 hf98
  refine st_take rfl rfl (y_assign (v := iv (rangeE n)) rfl h90) rfl ?_
  obtain ⟨a103, ha104⟩ : ∃ a', a' = a82.put (some 5) (iv (rangeE n)) := ⟨_, rfl⟩
  have hs105 : a103.tmps.size = 38 := by rw [ha104, put_size]; exact hs86
  have hd106 : a103.defers = [] := by rw [ha104, put_defers]; exact hd87
  have h107 : a103.eval (.tmp 4) = pv q14 := by rw [ha104, put_ne _ _ _ _ (by decide)]; exact h88
  have h108 : a103.eval (.tmp 29) = .agg #[.bool (decide (asU n (goodI b m) < 0)), sv A31 (canon (asU n (goodI b m)).natAbs) cc32] := by rw [ha104, put_ne _ _ _ _ (by decide)]; exact h89
  have h109 : a103.eval (.tmp 30) = iv (rangeE n) := by rw [ha104, put_ne _ _ _ _ (by decide)]; exact h90
  have h110 : a103.eval (.tmp 5) = iv (rangeE n) := by rw [ha104]; exact put_same _ _ _ (by rw [hs86]; decide)
  show stepsTo _ _ _ _ _ (a82.put (some 5) (iv (rangeE n))) _
  rw [← ha104]
  clear ha104 hs86 hd87 h88 h89 h90
  refine st_nil ?_
  clear h108 h109
  refine hK81 _ _ ?_
  clear hK81 K81
  refine wp_ret (ret_k hd106 (v := .tuple #[.agg #[.bool (decide (asU n (goodI b m) < 0)), sv A31 (canon (asU n (goodI b m)).natAbs) cc32], iv (rangeE n)]) (res_ct rfl h107 h110 (l_two Try.isAgg24 Try.sizeOf24 hb96)) ?_)
  have hz1 : asU n (goodI b m) = asI n (goodI b m) := (asI_lo (by omega)).symm
  exact ⟨A31, cc32, congrArg (fun z : Int => Ending.returned (Value.tuple #[.agg #[.bool (decide (z < 0)), sv A31 (canon z.natAbs) cc32], iv (rangeE n)])) hz1, Eq.mp (congrArg (fun z : Int => SRow _ .u32 A31 (canon z.natAbs) cc32) hz1) hr101, hN102⟩
set_option maxHeartbeats 4000000 in
set_option maxRecDepth 100000 in
theorem rasi_0 (b : Bool) (A : Option Addr) (m : List Nat) (c : Nat) (w : World) (hr : SRow w .u32 A m c) (hl : Limbs m) : Calls Try.prog 24 #[iv 0, .agg #[.bool b, sv A m c]] w (RetZE (asI 0 (goodI b m)) (rangeE 0) w) := by
  refine enter_abs Try.func24 rfl fun a0 hs0 hd0 hp => ?_
  have hs0 : a0.tmps.size = 38 := hs0
  have hN0 : New w w := Upd.refl _ _
  have hp0 : a0.eval (.tmp 0) = iv 0 := hp 0 _ rfl
  have hp1 : a0.eval (.tmp 1) = .agg #[.bool b, sv A m c] := hp 1 _ rfl
  clear hp
  refine wp_seq_k fun K1 hK1 => ?_
  refine wp_g [true, true, true] [] [] 38
    [IsNew w 24 [.bool b, sv A m c],
     IsNew w 24 [.bool false, sv none ([]) 0],
     ve (iv 0)]
    [0, 1] (newsCons (fun v w h => IsNew.old h) (newsCons (fun v w h => IsNew.old h) newsNil)) hs0 (.nw (.nw (.eq (.nil)))) ?_ (fun i h => by cases h) ?_
  · skip
    refine .o2 (step_allocN (cs := [.bool b, sv A m c]) (t := 24) rfl (noG rfl) (fun _ w hn k => v_box rfl (k.fx 1 hp1) (fun w => rfl)) (fun q _ hq hb => ⟨q, rfl, hq, hb⟩)) ?_
    refine .o2 (step_allocN (cs := [.bool false, sv none ([]) 0]) (t := 24) rfl (noG rfl) (fun _ w hn k => rfl) (fun q _ hq hb => ⟨q, rfl, hq, hb⟩)) ?_
    refine .o1 (tk rfl rfl fun _ w hn k => ⟨_, v_assign rfl rfl, rfl⟩) ?_
    exact .nil
  intro a2 w3 hn4 ha5
  have hs6 := ha5.size.trans hs0
  have hd7 := ha5.defers.trans hd0
  have h8 := ha5.fx 0 hp0
  obtain ⟨q10, h9, hq11, hb12⟩ : IsNew _ _ _ _ _ := ha5.got 0 3 rfl (by kernel_rfl)
  obtain ⟨q14, h13, hq15, hb16⟩ : IsNew _ _ _ _ _ := ha5.got 1 4 rfl (by kernel_rfl)
  have hne17 : q10 ≠ q14 := ha5.ne 0 1 3 4 h9 h13
  have hq18 := Nat.le_trans hN0.size hq11
  have hq19 := Nat.le_trans hN0.size hq15
  have hN20 := hN0.transNew hn4
  clear hs0 hd0 hp0 hp1 hq11 hq15 hN0 ha5 hn4
  refine st_nil ?_
  refine hK1 _ _ ?_
  clear hK1 K1
  refine wp_seq_k fun K21 hK21 => ?_
  refine wp_gS (fun W => True) (fun W W' hn h => trivial) trivial [true, true, true, true, true, true, true, false, false] [5] [(7, false), (8, true)] 38
    [ve (iv 0),
     ve (.agg #[.bool b, sv A m c]),
     (fun (v : Value) (W : World) => ∃ (A3 : Option Addr) (c4 : Nat), v = .tuple #[.agg #[.bool (decide (asU 0 (goodI b m) < 0)), sv A3 (canon (asU 0 (goodI b m)).natAbs) c4], iv (rangeE 0)] ∧ SRow W .u32 A3 (canon (asU 0 (goodI b m)).natAbs) c4),
     (fun (v : Value) (W : World) => ∃ (A9 : Option Addr) (c10 : Nat), v = .tuple #[.agg #[.bool (decide (asU 0 (goodI b m) < 0)), sv A9 (canon (asU 0 (goodI b m)).natAbs) c10], iv (rangeE 0)] ∧ SRow W .u32 A9 (canon (asU 0 (goodI b m)).natAbs) c10),
     (fun (v : Value) (W : World) => ∃ (A15 : Option Addr) (c16 : Nat), v = .agg #[.bool (decide (asU 0 (goodI b m) < 0)), sv A15 (canon (asU 0 (goodI b m)).natAbs) c16] ∧ SRow W .u32 A15 (canon (asU 0 (goodI b m)).natAbs) c16),
     ve (iv (rangeE 0)),
     IsNew w3 24 [.bool false, sv none ([]) 0],
     vt,
     vt]
    [6] (newsCons (fun v w h => IsNew.old h) newsNil) hs6 (.eq (.eq (.cons (fun v W W' hn ⟨A3, c4, he, h0⟩ => ⟨A3, c4, he, h0.new_ hn⟩) (.cons (fun v W W' hn ⟨A9, c10, he, h0⟩ => ⟨A9, c10, he, h0.new_ hn⟩) (.cons (fun v W W' hn ⟨A15, c16, he, h0⟩ => ⟨A15, c16, he, h0.new_ hn⟩) (.eq (.nw (.tt (.tt (.nil)))))))))) ?_ ?_ ?_
  · skip
    refine .o1 (tk rfl rfl fun _ w hn k => ⟨_, v_move rfl (k.fx 0 h8), rfl⟩) ?_
    refine .o1 (tk rfl rfl fun _ w hn k => ⟨_, v_load rfl (k.fx 3 h9) (l_two Try.isAgg24 Try.sizeOf24 (hb12.new_ hn)), rfl⟩) ?_
    refine .o1 (tkC rfl (noG rfl) rfl fun _ w hn k => (by
          refine ⟨#[iv 0, .agg #[.bool b, sv A m c]], _, args2 (k.eq1 0 9 rfl) (k.eq1 1 10 rfl), fun w => by kernel_rfl, rasu_c _ _ _ _ 0 _ (hr.new_ (hN20.transNew hn)) hl, ?_⟩
          rintro e w' ⟨A1, c2, rfl, hmo, hm⟩
          exact ⟨_, rfl, hm, ⟨A1, c2, rfl, hmo⟩⟩)) ?_
    refine .o1 (tk rfl rfl fun _ w hn k => (by
          obtain ⟨A5, c6, e7, hx8⟩ : (fun (v : Value) (W : World) => ∃ (A3 : Option Addr) (c4 : Nat), v = .tuple #[.agg #[.bool (decide (asU 0 (goodI b m) < 0)), sv A3 (canon (asU 0 (goodI b m)).natAbs) c4], iv (rangeE 0)] ∧ SRow W .u32 A3 (canon (asU 0 (goodI b m)).natAbs) c4) _ _ := k.dep 2 11 (by kernel_rfl) (by kernel_rfl)
          exact ⟨_, v_move rfl e7, ⟨A5, c6, rfl, hx8⟩⟩)) ?_
    refine .o1 (tk rfl rfl fun _ w hn k => (by
          obtain ⟨A11, c12, e13, hx14⟩ : (fun (v : Value) (W : World) => ∃ (A9 : Option Addr) (c10 : Nat), v = .tuple #[.agg #[.bool (decide (asU 0 (goodI b m) < 0)), sv A9 (canon (asU 0 (goodI b m)).natAbs) c10], iv (rangeE 0)] ∧ SRow W .u32 A9 (canon (asU 0 (goodI b m)).natAbs) c10) _ _ := k.dep 3 8 (by kernel_rfl) (by kernel_rfl)
          exact ⟨_, v_extract rfl e13 rfl, ⟨A11, c12, rfl, hx14⟩⟩)) ?_
    refine .o3 ?_
    refine .o2 (step_allocN (cs := [.bool false, sv none ([]) 0]) (t := 24) rfl (noG rfl) (fun _ w hn k => rfl) (fun q _ hq hb => ⟨q, rfl, hq, hb⟩)) ?_
    refine .off ?_
    refine .off ?_
    exact .nil
  · skip
    intro i h
    simp only [List.contains_eq_mem, List.mem_cons, List.not_mem_nil, or_false, decide_eq_true_eq] at h
    subst h
    · exact eager_takeG rfl (noG rfl) fun _ w hn k => (by
          obtain ⟨A17, c18, e19, hx20⟩ : (fun (v : Value) (W : World) => ∃ (A9 : Option Addr) (c10 : Nat), v = .tuple #[.agg #[.bool (decide (asU 0 (goodI b m) < 0)), sv A9 (canon (asU 0 (goodI b m)).natAbs) c10], iv (rangeE 0)] ∧ SRow W .u32 A9 (canon (asU 0 (goodI b m)).natAbs) c10) _ _ := k.dep 3 8 (by kernel_rfl) (by kernel_rfl)
          exact ⟨_, fun w hS => v_extract rfl e19 rfl, rfl⟩)
  intro a22 w23 _ hn24 ha25
  have hs26 := ha25.size.trans hs6
  have hd27 := ha25.defers.trans hd7
  have h28 := ha25.fx 0 h8
  have h29 := ha25.fx 4 h13
  obtain ⟨A31, cc32, h30, hr33⟩ : (fun (v : Value) (W : World) => ∃ (A15 : Option Addr) (c16 : Nat), v = .agg #[.bool (decide (asU 0 (goodI b m) < 0)), sv A15 (canon (asU 0 (goodI b m)).natAbs) c16] ∧ SRow W .u32 A15 (canon (asU 0 (goodI b m)).natAbs) c16) _ _ := ha25.got 4 12 rfl (by kernel_rfl)
  have h30 : a22.eval (.tmp 12) = .agg #[.bool (decide (asU 0 (goodI b m) < 0)), sv A31 (canon (asU 0 (goodI b m)).natAbs) cc32] := h30
  have h34 := ha25.ge 5 13 rfl
  obtain ⟨q36, h35, hq37, hb38⟩ : IsNew _ _ _ _ _ := ha25.got 6 6 rfl (by kernel_rfl)
  have hb39 := hb16.new_ hn24
  have hne40 : q14 ≠ q36 := by have h1 := hb16.lt; have h2 := hq37; omega
  have hq41 := Nat.le_trans hN20.size hq37
  have hN42 := hN20.transNew hn24
  clear hs6 hd7 h8 h9 h13 hb12 hq18 hb16 hq37 hN20 ha25 hn24
  obtain ⟨w43, -, hst44, hb45, hu46, hf47⟩ := s_two (v0 := .bool (decide (asU 0 (goodI b m) < 0))) (v1 := sv A31 (canon (asU 0 (goodI b m)).natAbs) cc32) Try.sizeOf24 rfl rfl rfl hb38
  refine st_act rfl rfl fun K48 hL49 => a_store' rfl h35 h30 hst44 (hL49 _ _ trivial ?_)
  have hr50 := hr33.far hb38 hu46 (by first | rfl | decide | simp [notK])
  have hb51 := hf47 _ _ _ (hne40) hb39
  have hN52 := hN42.trans hu46 (fun k hk hkb => by subst hkb; omega)
  clear hb38 hst44 K48 hL49 hN42 hr33 hb39 hu46 hf47
  refine st_take rfl rfl (y_assign (v := iv (rangeE 0)) rfl h34) rfl ?_
  obtain ⟨a53, ha54⟩ : ∃ a', a' = a22.put (some 7) (iv (rangeE 0)) := ⟨_, rfl⟩
  have hs55 : a53.tmps.size = 38 := by rw [ha54, put_size]; exact hs26
  have hd56 : a53.defers = [] := by rw [ha54, put_defers]; exact hd27
  have h57 : a53.eval (.tmp 0) = iv 0 := by rw [ha54, put_ne _ _ _ _ (by decide)]; exact h28
  have h58 : a53.eval (.tmp 4) = pv q14 := by rw [ha54, put_ne _ _ _ _ (by decide)]; exact h29
  have h59 : a53.eval (.tmp 12) = .agg #[.bool (decide (asU 0 (goodI b m) < 0)), sv A31 (canon (asU 0 (goodI b m)).natAbs) cc32] := by rw [ha54, put_ne _ _ _ _ (by decide)]; exact h30
  have h60 : a53.eval (.tmp 13) = iv (rangeE 0) := by rw [ha54, put_ne _ _ _ _ (by decide)]; exact h34
  have h61 : a53.eval (.tmp 6) = pv q36 := by rw [ha54, put_ne _ _ _ _ (by decide)]; exact h35
  have h62 : a53.eval (.tmp 7) = iv (rangeE 0) := by rw [ha54]; exact put_same _ _ _ (by rw [hs26]; decide)
  show stepsTo _ _ _ _ _ (a22.put (some 7) (iv (rangeE 0))) _
  rw [← ha54]
  clear ha54 hs26 hd27 h28 h29 h30 h34 h35
  refine st_nil ?_
  clear h59 h60
  refine hK21 _ _ ?_
  clear hK21 K21
  refine wp_seq_k fun K63 hK63 => ?_
  refine wp_seq_k fun K64 hK64 => ?_
  have ht65 : (decide ((rangeE 0) = 0)) = true := decide_eq_true rangeE_0
  have ht65d := of_decide_eq_true ht65
  refine wp_g0 [true, true, true, true, true, true, true, true, true, true, true, true, true, true, true] [] 38
    [ve (iv (rangeE 0)),
     ve (.bool false),
     ve (.bool false),
     ve (iv 0),
     ve (.bool true),
     ve (.bool true),
     ve (.bool true),
     ve undef,
     ve undef,
     ve undef,
     ve undef,
     ve undef,
     ve undef,
     ve undef,
     ve (.bool true)] hs55 (.eq (.eq (.eq (.eq (.eq (.eq (.eq (.eq (.eq (.eq (.eq (.eq (.eq (.eq (.eq (.nil)))))))))))))))) ?_ ?_
  · skip
    refine .o1 (tk rfl rfl fun _ w hn k => ⟨_, v_move rfl (k.fx 7 h62), rfl⟩) ?_
    refine .o1 (tk rfl rfl fun _ w hn k => ⟨_, v_bin rfl (k.eq1 0 14 rfl) rfl (fun _ => rfl) (r_neq ht65), rfl⟩) ?_
    refine .o1 (tk rfl rfl fun _ w hn k => ⟨_, v_move rfl (k.eq1 1 15 rfl), rfl⟩) ?_
    refine .o1 (tg rfl rfl rfl (fun _ _ k => k.eq1 2 16 rfl) fun _ w hn k => ⟨_, v_move rfl (k.fx 0 h57), rfl⟩) ?_
    refine .o1 (tg rfl rfl rfl (fun _ _ k => k.eq1 2 16 rfl) fun _ w hn k => ⟨_, v_bin rfl (k.eq1 3 17 rfl) rfl (fun _ => rfl) (fun w => by kernel_rfl), rfl⟩) ?_
    refine .o1 (tk rfl rfl fun _ w hn k => ⟨_, v_pickF rfl (k.eq1 2 16 rfl) (k.eq1 4 18 rfl), rfl⟩) ?_
    refine .o1 (tk rfl rfl fun _ w hn k => ⟨_, v_move rfl (k.eq1 5 19 rfl), rfl⟩) ?_
    refine .o1 (sk rfl rfl rfl (fun _ _ _ k => k.eq1 6 20 rfl) (fun _ => rfl)) ?_
    refine .o1 (sk rfl rfl rfl (fun _ _ _ k => k.eq1 6 20 rfl) (fun _ => rfl)) ?_
    refine .o1 (sk rfl rfl rfl (fun _ _ _ k => k.eq1 6 20 rfl) (fun _ => rfl)) ?_
    refine .o1 (sk rfl rfl rfl (fun _ _ _ k => k.eq1 6 20 rfl) (fun _ => rfl)) ?_
    refine .o1 (sk rfl rfl rfl (fun _ _ _ k => k.eq1 6 20 rfl) (fun _ => rfl)) ?_
    refine .o1 (sk rfl rfl rfl (fun _ _ _ k => k.eq1 6 20 rfl) (fun _ => rfl)) ?_
    refine .o1 (sk rfl rfl rfl (fun _ _ _ k => k.eq1 6 20 rfl) (fun _ => rfl)) ?_
    refine .o1 (tk rfl rfl fun _ w hn k => ⟨_, v_pickT rfl (k.eq1 6 20 rfl) rfl, rfl⟩) ?_
    exact .nil
  intro a66 w67 hn68 ha69
  have hs70 := ha69.size.trans hs55
  have hd71 := ha69.defers.trans hd56
  have h72 := ha69.fx 0 h57
  have h73 := ha69.fx 4 h58
  have h74 := ha69.fx 6 h61
  have h75 := ha69.fx 7 h62
  have h76 := ha69.ge 14 28 rfl
  have hb77 := hb51.new_ hn68
  have hb78 := hb45.new_ hn68
  have hr79 := hr50.new_ hn68
  have hN80 := hN52.transNew hn68
  clear hs55 hd56 h57 h58 h61 h62 hb51 hb45 hr50 hN52 ha69 hn68
  refine st_nil ?_
  refine hK64 _ _ ?_
  clear hK64 K64
  refine wp_cond_true h76 ?_
  refine wp_seq_k fun K81 hK81 => ?_
  refine wp_g [true, true, false, false] [1] [(2, false), (3, true)] 38
    [ve (.agg #[.bool (decide (asU 0 (goodI b m) < 0)), sv A31 (canon (asU 0 (goodI b m)).natAbs) cc32]),
     ve (iv (rangeE 0)),
     vt,
     vt]
    [] newsNil hs70 (.eq (.eq (.tt (.tt (.nil))))) ?_ ?_ ?_
  · skip
    refine .o1 (tk rfl rfl fun _ w hn k => ⟨_, v_load rfl (k.fx 6 h74) (l_two Try.isAgg24 Try.sizeOf24 (hb78.new_ hn)), rfl⟩) ?_
    refine .o3 ?_
    refine .off ?_
    refine .off ?_
    exact .nil
  · skip
    intro i h
    simp only [List.contains_eq_mem, List.mem_cons, List.not_mem_nil, or_false, decide_eq_true_eq] at h
    subst h
    · exact eager_take rfl rfl fun _ w hn k => ⟨iv (rangeE 0), fun w => v_move rfl (k.fx 7 h75), rfl⟩
  intro a82 w83 hn84 ha85
  have hs86 := ha85.size.trans hs70
  have hd87 := ha85.defers.trans hd71
  have h88 := ha85.fx 4 h73
  have h89 := ha85.ge 0 29 rfl
  have h90 := ha85.ge 1 30 rfl
  have hb91 := hb77.new_ hn84
  have hr92 := hr79.new_ hn84
  have hN93 := hN80.transNew hn84
  clear hs70 hd71 h72 h73 h74 h75 h76 hb77 hb78 hq41 hr79 hN80 ha85 hn84
  obtain ⟨w94, -, hst95, hb96, hu97, hf98⟩ := s_two (v0 := .bool (decide (asU 0 (goodI b m) < 0))) (v1 := sv A31 (canon (asU 0 (goodI b m)).natAbs) cc32) Try.sizeOf24 rfl rfl rfl hb91
  refine st_act rfl rfl fun K99 hL100 => a_store' rfl h88 h89 hst95 (hL100 _ _ trivial ?_)
  have hr101 := hr92.far hb91 hu97 (by first | rfl | decide | simp [notK])
  have hN102 := hN93.trans hu97 (fun k hk hkb => by subst hkb; omega)
  clear hb91 hst95 K99 hL100 hN93 hr92 hu97 hf98
  refine st_take rfl rfl (y_assign (v := iv (rangeE 0)) rfl h90) rfl ?_
  obtain ⟨a103, ha104⟩ : ∃ a', a' = a82.put (some 5) (iv (rangeE 0)) := ⟨_, rfl⟩
  have hs105 : a103.tmps.size = 38 := by rw [ha104, put_size]; exact hs86
  have hd106 : a103.defers = [] := by rw [ha104, put_defers]; exact hd87
  have h107 : a103.eval (.tmp 4) = pv q14 := by rw [ha104, put_ne _ _ _ _ (by decide)]; exact h88
  have h108 : a103.eval (.tmp 29) = .agg #[.bool (decide (asU 0 (goodI b m) < 0)), sv A31 (canon (asU 0 (goodI b m)).natAbs) cc32] := by rw [ha104, put_ne _ _ _ _ (by decide)]; exact h89
  have h109 : a103.eval (.tmp 30) = iv (rangeE 0) := by rw [ha104, put_ne _ _ _ _ (by decide)]; exact h90
  have h110 : a103.eval (.tmp 5) = iv (rangeE 0) := by rw [ha104]; exact put_same _ _ _ (by rw [hs86]; decide)
  show stepsTo _ _ _ _ _ (a82.put (some 5) (iv (rangeE 0))) _
  rw [← ha104]
  clear ha104 hs86 hd87 h88 h89 h90
  refine st_nil ?_
  clear h108 h109
  refine hK81 _ _ ?_
  clear hK81 K81
  refine wp_ret (ret_k hd106 (v := .tuple #[.agg #[.bool (decide (asU 0 (goodI b m) < 0)), sv A31 (canon (asU 0 (goodI b m)).natAbs) cc32], iv (rangeE 0)]) (res_ct rfl h107 h110 (l_two Try.isAgg24 Try.sizeOf24 hb96)) ?_)
  have hz1 : asU 0 (goodI b m) = asI 0 (goodI b m) := (asI_lo (by omega)).symm
  exact ⟨A31, cc32, congrArg (fun z : Int => Ending.returned (Value.tuple #[.agg #[.bool (decide (z < 0)), sv A31 (canon z.natAbs) cc32], iv (rangeE 0)])) hz1, Eq.mp (congrArg (fun z : Int => SRow _ .u32 A31 (canon z.natAbs) cc32) hz1) hr101, hN102⟩
set_option maxHeartbeats 4000000 in
set_option maxRecDepth 100000 in
theorem rasi_in (b : Bool) (A : Option Addr) (m : List Nat) (c kk : Nat) (w : World) (hr : SRow w .u32 A m c) (hl : Limbs m) (hk : kk + 1 ≤ 256) : Calls Try.prog 24 #[iv ((kk + 1 : Nat) : Int), .agg #[.bool b, sv A m c]] w (RetZE (asI ((kk + 1 : Nat) : Int) (goodI b m)) (rangeE ((kk + 1 : Nat) : Int)) w) := by
  refine enter_abs Try.func24 rfl fun a0 hs0 hd0 hp => ?_
  have hs0 : a0.tmps.size = 38 := hs0
  have hN0 : New w w := Upd.refl _ _
  have hp0 : a0.eval (.tmp 0) = iv ((kk + 1 : Nat) : Int) := hp 0 _ rfl
  have hp1 : a0.eval (.tmp 1) = .agg #[.bool b, sv A m c] := hp 1 _ rfl
  clear hp
  have hre : rangeE ((kk + 1 : Nat) : Int) = 0 := rangeE_in hk
  have hpl := powL_len kk
  have hpl1 := powL_len (kk + 1)
  have h8 := (canon_len8 _).2 (asU_bd ((kk + 1 : Nat) : Int) (goodI b m)).2
  have hmx : (canon (val (powL (kk + 1)) - val (canon (asU ((kk + 1 : Nat) : Int) (goodI b m)).natAbs))).length ≤ 9 := powsub_len hk
  have hut := asU_lt (kk + 1) hk (goodI b m)
  refine wp_seq_k fun K1 hK1 => ?_
  refine wp_g [true, true, true] [] [] 38
    [IsNew w 24 [.bool b, sv A m c],
     IsNew w 24 [.bool false, sv none ([]) 0],
     ve (iv 0)]
    [0, 1] (newsCons (fun v w h => IsNew.old h) (newsCons (fun v w h => IsNew.old h) newsNil)) hs0 (.nw (.nw (.eq (.nil)))) ?_ (fun i h => by cases h) ?_
  · skip
    refine .o2 (step_allocN (cs := [.bool b, sv A m c]) (t := 24) rfl (noG rfl) (fun _ w hn k => v_box rfl (k.fx 1 hp1) (fun w => rfl)) (fun q _ hq hb => ⟨q, rfl, hq, hb⟩)) ?_
    refine .o2 (step_allocN (cs := [.bool false, sv none ([]) 0]) (t := 24) rfl (noG rfl) (fun _ w hn k => rfl) (fun q _ hq hb => ⟨q, rfl, hq, hb⟩)) ?_
    refine .o1 (tk rfl rfl fun _ w hn k => ⟨_, v_assign rfl rfl, rfl⟩) ?_
    exact .nil
  intro a2 w3 hn4 ha5
  have hs6 := ha5.size.trans hs0
  have hd7 := ha5.defers.trans hd0
  have h8 := ha5.fx 0 hp0
  obtain ⟨q10, h9, hq11, hb12⟩ : IsNew _ _ _ _ _ := ha5.got 0 3 rfl (by kernel_rfl)
  obtain ⟨q14, h13, hq15, hb16⟩ : IsNew _ _ _ _ _ := ha5.got 1 4 rfl (by kernel_rfl)
  have hne17 : q10 ≠ q14 := ha5.ne 0 1 3 4 h9 h13
  have hq18 := Nat.le_trans hN0.size hq11
  have hq19 := Nat.le_trans hN0.size hq15
  have hN20 := hN0.transNew hn4
  clear hs0 hd0 hp0 hp1 hq11 hq15 hN0 ha5 hn4
  refine st_nil ?_
  refine hK1 _ _ ?_
  clear hK1 K1
  refine wp_seq_k fun K21 hK21 => ?_
  refine wp_gS (fun W => True) (fun W W' hn h => trivial) trivial [true, true, true, true, true, true, true, false, false] [5] [(7, false), (8, true)] 38
    [ve (iv ((kk + 1 : Nat) : Int)),
     ve (.agg #[.bool b, sv A m c]),
     (fun (v : Value) (W : World) => ∃ (A3 : Option Addr) (c4 : Nat), v = .tuple #[.agg #[.bool (decide (asU ((kk + 1 : Nat) : Int) (goodI b m) < 0)), sv A3 (canon (asU ((kk + 1 : Nat) : Int) (goodI b m)).natAbs) c4], iv (rangeE ((kk + 1 : Nat) : Int))] ∧ SRow W .u32 A3 (canon (asU ((kk + 1 : Nat) : Int) (goodI b m)).natAbs) c4),
     (fun (v : Value) (W : World) => ∃ (A9 : Option Addr) (c10 : Nat), v = .tuple #[.agg #[.bool (decide (asU ((kk + 1 : Nat) : Int) (goodI b m) < 0)), sv A9 (canon (asU ((kk + 1 : Nat) : Int) (goodI b m)).natAbs) c10], iv (rangeE ((kk + 1 : Nat) : Int))] ∧ SRow W .u32 A9 (canon (asU ((kk + 1 : Nat) : Int) (goodI b m)).natAbs) c10),
     (fun (v : Value) (W : World) => ∃ (A15 : Option Addr) (c16 : Nat), v = .agg #[.bool (decide (asU ((kk + 1 : Nat) : Int) (goodI b m) < 0)), sv A15 (canon (asU ((kk + 1 : Nat) : Int) (goodI b m)).natAbs) c16] ∧ SRow W .u32 A15 (canon (asU ((kk + 1 : Nat) : Int) (goodI b m)).natAbs) c16),
     ve (iv (rangeE ((kk + 1 : Nat) : Int))),
     IsNew w3 24 [.bool false, sv none ([]) 0],
     vt,
     vt]
    [6] (newsCons (fun v w h => IsNew.old h) newsNil) hs6 (.eq (.eq (.cons (fun v W W' hn ⟨A3, c4, he, h0⟩ => ⟨A3, c4, he, h0.new_ hn⟩) (.cons (fun v W W' hn ⟨A9, c10, he, h0⟩ => ⟨A9, c10, he, h0.new_ hn⟩) (.cons (fun v W W' hn ⟨A15, c16, he, h0⟩ => ⟨A15, c16, he, h0.new_ hn⟩) (.eq (.nw (.tt (.tt (.nil)))))))))) ?_ ?_ ?_
  · skip
    refine .o1 (tk rfl rfl fun _ w hn k => ⟨_, v_move rfl (k.fx 0 h8), rfl⟩) ?_
    refine .o1 (tk rfl rfl fun _ w hn k => ⟨_, v_load rfl (k.fx 3 h9) (l_two Try.isAgg24 Try.sizeOf24 (hb12.new_ hn)), rfl⟩) ?_
    refine .o1 (tkC rfl (noG rfl) rfl fun _ w hn k => (by
          refine ⟨#[iv ((kk + 1 : Nat) : Int), .agg #[.bool b, sv A m c]], _, args2 (k.eq1 0 9 rfl) (k.eq1 1 10 rfl), fun w => by kernel_rfl, rasu_c _ _ _ _ ((kk + 1 : Nat) : Int) _ (hr.new_ (hN20.transNew hn)) hl, ?_⟩
          rintro e w' ⟨A1, c2, rfl, hmo, hm⟩
          exact ⟨_, rfl, hm, ⟨A1, c2, rfl, hmo⟩⟩)) ?_
    refine .o1 (tk rfl rfl fun _ w hn k => (by
          obtain ⟨A5, c6, e7, hx8⟩ : (fun (v : Value) (W : World) => ∃ (A3 : Option Addr) (c4 : Nat), v = .tuple #[.agg #[.bool (decide (asU ((kk + 1 : Nat) : Int) (goodI b m) < 0)), sv A3 (canon (asU ((kk + 1 : Nat) : Int) (goodI b m)).natAbs) c4], iv (rangeE ((kk + 1 : Nat) : Int))] ∧ SRow W .u32 A3 (canon (asU ((kk + 1 : Nat) : Int) (goodI b m)).natAbs) c4) _ _ := k.dep 2 11 (by kernel_rfl) (by kernel_rfl)
          exact ⟨_, v_move rfl e7, ⟨A5, c6, rfl, hx8⟩⟩)) ?_
    refine .o1 (tk rfl rfl fun _ w hn k => (by
          obtain ⟨A11, c12, e13, hx14⟩ : (fun (v : Value) (W : World) => ∃ (A9 : Option Addr) (c10 : Nat), v = .tuple #[.agg #[.bool (decide (asU ((kk + 1 : Nat) : Int) (goodI b m) < 0)), sv A9 (canon (asU ((kk + 1 : Nat) : Int) (goodI b m)).natAbs) c10], iv (rangeE ((kk + 1 : Nat) : Int))] ∧ SRow W .u32 A9 (canon (asU ((kk + 1 : Nat) : Int) (goodI b m)).natAbs) c10) _ _ := k.dep 3 8 (by kernel_rfl) (by kernel_rfl)
          exact ⟨_, v_extract rfl e13 rfl, ⟨A11, c12, rfl, hx14⟩⟩)) ?_
    refine .o3 ?_
    refine .o2 (step_allocN (cs := [.bool false, sv none ([]) 0]) (t := 24) rfl (noG rfl) (fun _ w hn k => rfl) (fun q _ hq hb => ⟨q, rfl, hq, hb⟩)) ?_
    refine .off ?_
    refine .off ?_
    exact .nil
  · skip
    intro i h
    simp only [List.contains_eq_mem, List.mem_cons, List.not_mem_nil, or_false, decide_eq_true_eq] at h
    subst h
    · exact eager_takeG rfl (noG rfl) fun _ w hn k => (by
          obtain ⟨A17, c18, e19, hx20⟩ : (fun (v : Value) (W : World) => ∃ (A9 : Option Addr) (c10 : Nat), v = .tuple #[.agg #[.bool (decide (asU ((kk + 1 : Nat) : Int) (goodI b m) < 0)), sv A9 (canon (asU ((kk + 1 : Nat) : Int) (goodI b m)).natAbs) c10], iv (rangeE ((kk + 1 : Nat) : Int))] ∧ SRow W .u32 A9 (canon (asU ((kk + 1 : Nat) : Int) (goodI b m)).natAbs) c10) _ _ := k.dep 3 8 (by kernel_rfl) (by kernel_rfl)
          exact ⟨_, fun w hS => v_extract rfl e19 rfl, rfl⟩)
  intro a22 w23 _ hn24 ha25
  have hs26 := ha25.size.trans hs6
  have hd27 := ha25.defers.trans hd7
  have h28 := ha25.fx 0 h8
  have h29 := ha25.fx 4 h13
  obtain ⟨A31, cc32, h30, hr33⟩ : (fun (v : Value) (W : World) => ∃ (A15 : Option Addr) (c16 : Nat), v = .agg #[.bool (decide (asU ((kk + 1 : Nat) : Int) (goodI b m) < 0)), sv A15 (canon (asU ((kk + 1 : Nat) : Int) (goodI b m)).natAbs) c16] ∧ SRow W .u32 A15 (canon (asU ((kk + 1 : Nat) : Int) (goodI b m)).natAbs) c16) _ _ := ha25.got 4 12 rfl (by kernel_rfl)
  have h30 : a22.eval (.tmp 12) = .agg #[.bool (decide (asU ((kk + 1 : Nat) : Int) (goodI b m) < 0)), sv A31 (canon (asU ((kk + 1 : Nat) : Int) (goodI b m)).natAbs) cc32] := h30
  have h34 := ha25.ge 5 13 rfl
  obtain ⟨q36, h35, hq37, hb38⟩ : IsNew _ _ _ _ _ := ha25.got 6 6 rfl (by kernel_rfl)
  have hb39 := hb16.new_ hn24
  have hne40 : q14 ≠ q36 := by have h1 := hb16.lt; have h2 := hq37; omega
  have hq41 := Nat.le_trans hN20.size hq37
  have hN42 := hN20.transNew hn24
  clear hs6 hd7 h8 h9 h13 hb12 hq18 hb16 hq37 hN20 ha25 hn24
  obtain ⟨w43, -, hst44, hb45, hu46, hf47⟩ := s_two (v0 := .bool (decide (asU ((kk + 1 : Nat) : Int) (goodI b m) < 0))) (v1 := sv A31 (canon (asU ((kk + 1 : Nat) : Int) (goodI b m)).natAbs) cc32) Try.sizeOf24 rfl rfl rfl hb38
  refine st_act rfl rfl fun K48 hL49 => a_store' rfl h35 h30 hst44 (hL49 _ _ trivial ?_)
  have hr50 := hr33.far hb38 hu46 (by first | rfl | decide | simp [notK])
  have hb51 := hf47 _ _ _ (hne40) hb39
  have hN52 := hN42.trans hu46 (fun k hk hkb => by subst hkb; omega)
  clear hb38 hst44 K48 hL49 hN42 hr33 hb39 hu46 hf47
  refine st_take rfl rfl (y_assign (v := iv (rangeE ((kk + 1 : Nat) : Int))) rfl h34) rfl ?_
  obtain ⟨a53, ha54⟩ : ∃ a', a' = a22.put (some 7) (iv (rangeE ((kk + 1 : Nat) : Int))) := ⟨_, rfl⟩
  have hs55 : a53.tmps.size = 38 := by rw [ha54, put_size]; exact hs26
  have hd56 : a53.defers = [] := by rw [ha54, put_defers]; exact hd27
  have h57 : a53.eval (.tmp 0) = iv ((kk + 1 : Nat) : Int) := by rw [ha54, put_ne _ _ _ _ (by decide)]; exact h28
  have h58 : a53.eval (.tmp 4) = pv q14 := by rw [ha54, put_ne _ _ _ _ (by decide)]; exact h29
  have h59 : a53.eval (.tmp 12) = .agg #[.bool (decide (asU ((kk + 1 : Nat) : Int) (goodI b m) < 0)), sv A31 (canon (asU ((kk + 1 : Nat) : Int) (goodI b m)).natAbs) cc32] := by rw [ha54, put_ne _ _ _ _ (by decide)]; exact h30
  have h60 : a53.eval (.tmp 13) = iv (rangeE ((kk + 1 : Nat) : Int)) := by rw [ha54, put_ne _ _ _ _ (by decide)]; exact h34
  have h61 : a53.eval (.tmp 6) = pv q36 := by rw [ha54, put_ne _ _ _ _ (by decide)]; exact h35
  have h62 : a53.eval (.tmp 7) = iv (rangeE ((kk + 1 : Nat) : Int)) := by rw [ha54]; exact put_same _ _ _ (by rw [hs26]; decide)
  show stepsTo _ _ _ _ _ (a22.put (some 7) (iv (rangeE ((kk + 1 : Nat) : Int)))) _
  rw [← ha54]
  clear ha54 hs26 hd27 h28 h29 h30 h34 h35
  refine st_nil ?_
  clear h59 h60
  refine hK21 _ _ ?_
  clear hK21 K21
  refine wp_seq_k fun K63 hK63 => ?_
  refine wp_seq_k fun K64 hK64 => ?_
  have ht65 : (decide ((rangeE ((kk + 1 : Nat) : Int)) = 0)) = true := decide_eq_true hre
  have ht65d := of_decide_eq_true ht65
  have ht66 : (decide (((kk + 1 : Nat) : Int) = 0)) = false := decide_eq_false (by omega)
  have ht66d := of_decide_eq_false ht66
  refine wp_g0 [true, true, true, true, true, true, true, true, true, true, true, true, true, true, true] [] 38
    [ve (iv (rangeE ((kk + 1 : Nat) : Int))),
     ve (.bool false),
     ve (.bool false),
     ve (iv ((kk + 1 : Nat) : Int)),
     ve (.bool false),
     ve (.bool false),
     ve (.bool false),
     ve (.pointer (some ⟨q36, 1, none⟩)),
     ve (sv A31 (canon (asU ((kk + 1 : Nat) : Int) (goodI b m)).natAbs) cc32),
     ve (iv ((kk + 1 : Nat) : Int)),
     ve (iv (kk : Int)),
     (fun (v : Value) (W : World) => ∃ (A27 : Option Addr) (c28 : Nat), v = sv A27 (powL kk) c28 ∧ SOwn W w43.heap.size 50 .u32 A27 (powL kk) c28),
     ve (iv (cmpN (val (canon (asU ((kk + 1 : Nat) : Int) (goodI b m)).natAbs)) (val (powL kk)))),
     ve (.bool (decide ((cmpN (val (canon (asU ((kk + 1 : Nat) : Int) (goodI b m)).natAbs)) (val (powL kk))) < 0))),
     ve (.bool (decide ((cmpN (val (canon (asU ((kk + 1 : Nat) : Int) (goodI b m)).natAbs)) (val (powL kk))) < 0)))] hs55 (.eq (.eq (.eq (.eq (.eq (.eq (.eq (.eq (.eq (.eq (.eq (.cons (fun v W W' hn ⟨A27, c28, he, h0⟩ => ⟨A27, c28, he, h0.new_ hn⟩) (.eq (.eq (.eq (.nil)))))))))))))))) ?_ ?_
  · skip
    refine .o1 (tk rfl rfl fun _ w hn k => ⟨_, v_move rfl (k.fx 7 h62), rfl⟩) ?_
    refine .o1 (tk rfl rfl fun _ w hn k => ⟨_, v_bin rfl (k.eq1 0 14 rfl) rfl (fun _ => rfl) (r_neq ht65), rfl⟩) ?_
    refine .o1 (tk rfl rfl fun _ w hn k => ⟨_, v_move rfl (k.eq1 1 15 rfl), rfl⟩) ?_
    refine .o1 (tg rfl rfl rfl (fun _ _ k => k.eq1 2 16 rfl) fun _ w hn k => ⟨_, v_move rfl (k.fx 0 h57), rfl⟩) ?_
    refine .o1 (tg rfl rfl rfl (fun _ _ k => k.eq1 2 16 rfl) fun _ w hn k => ⟨_, v_bin rfl (k.eq1 3 17 rfl) rfl (fun _ => rfl) (r_eql ht66), rfl⟩) ?_
    refine .o1 (tk rfl rfl fun _ w hn k => ⟨_, v_pickF rfl (k.eq1 2 16 rfl) (k.eq1 4 18 rfl), rfl⟩) ?_
    refine .o1 (tk rfl rfl fun _ w hn k => ⟨_, v_move rfl (k.eq1 5 19 rfl), rfl⟩) ?_
    refine .o1 (tg rfl rfl rfl (fun _ _ k => k.eq1 6 20 rfl) fun _ w hn k => ⟨_, v_field rfl (k.fx 6 h61) (fun w => rfl), rfl⟩) ?_
    refine .o1 (tg rfl rfl rfl (fun _ _ k => k.eq1 6 20 rfl) fun _ w hn k => ⟨_, v_load rfl (k.eq1 7 21 rfl) (l_one Try.isAgg22 ((hb45.new_ hn).cell 1)), rfl⟩) ?_
    refine .o1 (tg rfl rfl rfl (fun _ _ k => k.eq1 6 20 rfl) fun _ w hn k => ⟨_, v_move rfl (k.fx 0 h57), rfl⟩) ?_
    refine .o1 (tg rfl rfl rfl (fun _ _ k => k.eq1 6 20 rfl) fun _ w hn k => ⟨_, v_bin rfl (k.eq1 9 23 rfl) rfl (fun _ => rfl) (n_sub (by omega) (IntWalk.i64_in _ (by omega))), rfl⟩) ?_
    refine .o1 (tkC rfl (onG rfl rfl fun _ _ k => k.eq1 6 20 rfl) rfl fun _ w hn k => (by
          refine ⟨#[iv (kk : Int)], _, args1 (k.eq1 10 24 rfl), fun w => by kernel_rfl, rpower_i (kk : Int) _ (by omega), ?_⟩
          rintro e w' ⟨A25, c26, rfl, hmo, hm⟩
          exact ⟨_, rfl, hm, ⟨A25, c26, rfl, (hmo.more hn.size)⟩⟩)) ?_
    refine .o1 (tkC rfl (onG rfl rfl fun _ _ k => k.eq1 6 20 rfl) rfl fun _ w hn k => (by
          obtain ⟨A29, c30, e31, hx32⟩ : (fun (v : Value) (W : World) => ∃ (A27 : Option Addr) (c28 : Nat), v = sv A27 (powL kk) c28 ∧ SOwn W w43.heap.size 50 .u32 A27 (powL kk) c28) _ _ := k.dep 11 25 (by kernel_rfl) (by kernel_rfl)
          refine ⟨#[sv A31 (canon (asU ((kk + 1 : Nat) : Int) (goodI b m)).natAbs) cc32, sv A29 (powL kk) c30], _, args2 (k.eq1 8 22 rfl) e31, fun w => by kernel_rfl, rcmp_c _ _ _ _ _ _ _ (hr50.new_ hn) hx32.row (limbs_canon _) (powL_limbs _) (by first | omega | (simp only [List.length_nil, List.length_cons, List.length_set, List.length_replicate]; omega)) (by first | omega | (simp only [List.length_nil, List.length_cons, List.length_set, List.length_replicate]; omega)), ?_⟩
          rintro e w' ⟨rfl, hm⟩
          exact ⟨_, rfl, hm, rfl⟩)) ?_
    refine .o1 (tg rfl rfl rfl (fun _ _ k => k.eq1 6 20 rfl) fun _ w hn k => ⟨_, v_bin rfl (k.eq1 12 26 rfl) rfl (fun _ => rfl) (r_lssK rfl), rfl⟩) ?_
    refine .o1 (tk rfl rfl fun _ w hn k => ⟨_, v_pickF rfl (k.eq1 6 20 rfl) (k.eq1 13 27 rfl), rfl⟩) ?_
    exact .nil
  intro a67 w68 hn69 ha70
  have hs71 := ha70.size.trans hs55
  have hd72 := ha70.defers.trans hd56
  have h73 := ha70.fx 0 h57
  have h74 := ha70.fx 4 h58
  have h75 := ha70.fx 6 h61
  have h76 := ha70.fx 7 h62
  have h77 := ha70.ge 14 28 rfl
  have hb78 := hb51.new_ hn69
  have hb79 := hb45.new_ hn69
  have hr80 := hr50.new_ hn69
  have hN81 := hN52.transNew hn69
  clear hs55 hd56 h57 h58 h61 h62 hb51 hb45 hr50 hN52 ha70 hn69
  refine st_nil ?_
  refine hK64 _ _ ?_
  clear hK64 K64
  rcases Bool.eq_false_or_eq_true (decide ((cmpN (val (canon (asU ((kk + 1 : Nat) : Int) (goodI b m)).natAbs)) (val (powL kk))) < 0)) with ht82 | ht82
  · skip
    have ht82d := of_decide_eq_true ht82
    have hv83 : a67.eval (.tmp 28) = .bool true := h77.trans (congrArg Value.bool ht82)
    clear h77
    refine wp_cond_true hv83 ?_
    refine wp_seq_k fun K84 hK84 => ?_
    refine wp_g [true, true, false, false] [1] [(2, false), (3, true)] 38
      [ve (.agg #[.bool (decide (asU ((kk + 1 : Nat) : Int) (goodI b m) < 0)), sv A31 (canon (asU ((kk + 1 : Nat) : Int) (goodI b m)).natAbs) cc32]),
       ve (iv (rangeE ((kk + 1 : Nat) : Int))),
       vt,
       vt]
      [] newsNil hs71 (.eq (.eq (.tt (.tt (.nil))))) ?_ ?_ ?_
    · skip
      refine .o1 (tk rfl rfl fun _ w hn k => ⟨_, v_load rfl (k.fx 6 h75) (l_two Try.isAgg24 Try.sizeOf24 (hb79.new_ hn)), rfl⟩) ?_
      refine .o3 ?_
      refine .off ?_
      refine .off ?_
      exact .nil
    · skip
      intro i h
      simp only [List.contains_eq_mem, List.mem_cons, List.not_mem_nil, or_false, decide_eq_true_eq] at h
      subst h
      · exact eager_take rfl rfl fun _ w hn k => ⟨iv (rangeE ((kk + 1 : Nat) : Int)), fun w => v_move rfl (k.fx 7 h76), rfl⟩
    intro a85 w86 hn87 ha88
    have hs89 := ha88.size.trans hs71
    have hd90 := ha88.defers.trans hd72
    have h91 := ha88.fx 4 h74
    have h92 := ha88.ge 0 29 rfl
    have h93 := ha88.ge 1 30 rfl
    have hb94 := hb78.new_ hn87
    have hr95 := hr80.new_ hn87
    have hN96 := hN81.transNew hn87
    clear hs71 hd72 h73 h74 h75 h76 hv83 hb78 hb79 hq41 hr80 hN81 ha88 hn87
    obtain ⟨w97, -, hst98, hb99, hu100, hf101⟩ := s_two (v0 := .bool (decide (asU ((kk + 1 : Nat) : Int) (goodI b m) < 0))) (v1 := sv A31 (canon (asU ((kk + 1 : Nat) : Int) (goodI b m)).natAbs) cc32) Try.sizeOf24 rfl rfl rfl hb94
    refine st_act rfl rfl fun K102 hL103 => a_store' rfl h91 h92 hst98 (hL103 _ _ trivial ?_)
    have hr104 := hr95.far hb94 hu100 (by first | rfl | decide | simp [notK])
    have hN105 := hN96.trans hu100 (fun k hk hkb => by subst hkb; omega)
    clear hb94 hst98 K102 hL103 hN96 hr95 hu100 hf101
    refine st_take rfl rfl (y_assign (v := iv (rangeE ((kk + 1 : Nat) : Int))) rfl h93) rfl ?_
    obtain ⟨a106, ha107⟩ : ∃ a', a' = a85.put (some 5) (iv (rangeE ((kk + 1 : Nat) : Int))) := ⟨_, rfl⟩
    have hs108 : a106.tmps.size = 38 := by rw [ha107, put_size]; exact hs89
    have hd109 : a106.defers = [] := by rw [ha107, put_defers]; exact hd90
    have h110 : a106.eval (.tmp 4) = pv q14 := by rw [ha107, put_ne _ _ _ _ (by decide)]; exact h91
    have h111 : a106.eval (.tmp 29) = .agg #[.bool (decide (asU ((kk + 1 : Nat) : Int) (goodI b m) < 0)), sv A31 (canon (asU ((kk + 1 : Nat) : Int) (goodI b m)).natAbs) cc32] := by rw [ha107, put_ne _ _ _ _ (by decide)]; exact h92
    have h112 : a106.eval (.tmp 30) = iv (rangeE ((kk + 1 : Nat) : Int)) := by rw [ha107, put_ne _ _ _ _ (by decide)]; exact h93
    have h113 : a106.eval (.tmp 5) = iv (rangeE ((kk + 1 : Nat) : Int)) := by rw [ha107]; exact put_same _ _ _ (by rw [hs89]; decide)
    show stepsTo _ _ _ _ _ (a85.put (some 5) (iv (rangeE ((kk + 1 : Nat) : Int)))) _
    rw [← ha107]
    clear ha107 hs89 hd90 h91 h92 h93
    refine st_nil ?_
    clear h111 h112
    refine hK84 _ _ ?_
    clear hK84 K84
    refine wp_ret (ret_k hd109 (v := .tuple #[.agg #[.bool (decide (asU ((kk + 1 : Nat) : Int) (goodI b m) < 0)), sv A31 (canon (asU ((kk + 1 : Nat) : Int) (goodI b m)).natAbs) cc32], iv (rangeE ((kk + 1 : Nat) : Int))]) (res_ct rfl h110 h113 (l_two Try.isAgg24 Try.sizeOf24 hb99)) ?_)
    have hz1 : asU ((kk + 1 : Nat) : Int) (goodI b m) = asI ((kk + 1 : Nat) : Int) (goodI b m) := asi_small hk ht82
    exact ⟨A31, cc32, congrArg (fun z : Int => Ending.returned (Value.tuple #[.agg #[.bool (decide (z < 0)), sv A31 (canon z.natAbs) cc32], iv (rangeE ((kk + 1 : Nat) : Int))])) hz1, Eq.mp (congrArg (fun z : Int => SRow _ .u32 A31 (canon z.natAbs) cc32) hz1) hr104, hN105⟩
  have ht82d := of_decide_eq_false ht82
  have hv114 : a67.eval (.tmp 28) = .bool false := h77.trans (congrArg Value.bool ht82)
  clear h77
  refine wp_cond_false hv114 ?_
  refine wp_skip ?_
  refine hK63 _ _ ?_
  clear hK63 K63
  refine wp_seq_k fun K115 hK115 => ?_
  refine wp_g [true, true, true, true, true, true, true, false, false] [6] [(7, false), (8, true)] 38
    [ve (iv ((kk + 1 : Nat) : Int)),
     (fun (v : Value) (W : World) => ∃ (A35 : Option Addr) (c36 : Nat), v = sv A35 (powL (kk + 1)) c36 ∧ SOwn W w68.heap.size 50 .u32 A35 (powL (kk + 1)) c36),
     ve (.pointer (some ⟨q36, 1, none⟩)),
     ve (sv A31 (canon (asU ((kk + 1 : Nat) : Int) (goodI b m)).natAbs) cc32),
     (fun (v : Value) (W : World) => ∃ (A43 : Option Addr) (c44 : Nat), v = sv A43 (canon (val (powL (kk + 1)) - val (canon (asU ((kk + 1 : Nat) : Int) (goodI b m)).natAbs))) c44 ∧ SOwn W w68.heap.size 50 .u32 A43 (canon (val (powL (kk + 1)) - val (canon (asU ((kk + 1 : Nat) : Int) (goodI b m)).natAbs))) c44),
     (fun (v : Value) (W : World) => ∃ (A51 : Option Addr) (c52 : Nat), v = .agg #[.bool (decide (sgn true (val (canon (val (powL (kk + 1)) - val (canon (asU ((kk + 1 : Nat) : Int) (goodI b m)).natAbs)))) < 0)), sv A51 (canon (sgn true (val (canon (val (powL (kk + 1)) - val (canon (asU ((kk + 1 : Nat) : Int) (goodI b m)).natAbs))))).natAbs) c52] ∧ SRow W .u32 A51 (canon (sgn true (val (canon (val (powL (kk + 1)) - val (canon (asU ((kk + 1 : Nat) : Int) (goodI b m)).natAbs))))).natAbs) c52),
     ve (iv (rangeE ((kk + 1 : Nat) : Int))),
     vt,
     vt]
    [] newsNil hs71 (.eq (.cons (fun v W W' hn ⟨A35, c36, he, h0⟩ => ⟨A35, c36, he, h0.new_ hn⟩) (.eq (.eq (.cons (fun v W W' hn ⟨A43, c44, he, h0⟩ => ⟨A43, c44, he, h0.new_ hn⟩) (.cons (fun v W W' hn ⟨A51, c52, he, h0⟩ => ⟨A51, c52, he, h0.new_ hn⟩) (.eq (.tt (.tt (.nil)))))))))) ?_ ?_ ?_
  · skip
    refine .o1 (tk rfl rfl fun _ w hn k => ⟨_, v_move rfl (k.fx 0 h73), rfl⟩) ?_
    refine .o1 (tkC rfl (noG rfl) rfl fun _ w hn k => (by
          refine ⟨#[iv ((kk + 1 : Nat) : Int)], _, args1 (k.eq1 0 31 rfl), fun w => by kernel_rfl, rpower_i ((kk + 1 : Nat) : Int) _ (by omega), ?_⟩
          rintro e w' ⟨A33, c34, rfl, hmo, hm⟩
          exact ⟨_, rfl, hm, ⟨A33, c34, rfl, (hmo.more hn.size)⟩⟩)) ?_
    refine .o1 (tk rfl rfl fun _ w hn k => ⟨_, v_field rfl (k.fx 6 h75) (fun w => rfl), rfl⟩) ?_
    refine .o1 (tk rfl rfl fun _ w hn k => ⟨_, v_load rfl (k.eq1 2 33 rfl) (l_one Try.isAgg22 ((hb79.new_ hn).cell 1)), rfl⟩) ?_
    refine .o1 (tkC rfl (noG rfl) rfl fun _ w hn k => (by
          obtain ⟨A37, c38, e39, hx40⟩ : (fun (v : Value) (W : World) => ∃ (A35 : Option Addr) (c36 : Nat), v = sv A35 (powL (kk + 1)) c36 ∧ SOwn W w68.heap.size 50 .u32 A35 (powL (kk + 1)) c36) _ _ := k.dep 1 32 (by kernel_rfl) (by kernel_rfl)
          refine ⟨#[sv A37 (powL (kk + 1)) c38, sv A31 (canon (asU ((kk + 1 : Nat) : Int) (goodI b m)).natAbs) cc32], _, args2 e39 (k.eq1 3 34 rfl), fun w => by kernel_rfl, rminus_c _ _ _ _ _ _ _ hx40.row (hr80.new_ hn) (powL_limbs _) (limbs_canon _) (by first | omega | (simp only [List.length_nil, List.length_cons, List.length_set, List.length_replicate]; omega)) (by first | omega | (simp only [List.length_nil, List.length_cons, List.length_set, List.length_replicate]; omega)) (asu_le hk), ?_⟩
          rintro e w' ⟨A41, c42, rfl, hmo, hm⟩
          exact ⟨_, rfl, hm, ⟨A41, c42, rfl, (hmo.more hn.size)⟩⟩)) ?_
    refine .o1 (tkC rfl (noG rfl) rfl fun _ w hn k => (by
          obtain ⟨A45, c46, e47, hx48⟩ : (fun (v : Value) (W : World) => ∃ (A43 : Option Addr) (c44 : Nat), v = sv A43 (canon (val (powL (kk + 1)) - val (canon (asU ((kk + 1 : Nat) : Int) (goodI b m)).natAbs))) c44 ∧ SOwn W w68.heap.size 50 .u32 A43 (canon (val (powL (kk + 1)) - val (canon (asU ((kk + 1 : Nat) : Int) (goodI b m)).natAbs))) c44) _ _ := k.dep 4 35 (by kernel_rfl) (by kernel_rfl)
          refine ⟨#[.bool true, sv A45 (canon (val (powL (kk + 1)) - val (canon (asU ((kk + 1 : Nat) : Int) (goodI b m)).natAbs))) c46], _, args2 rfl e47, fun w => by kernel_rfl, rmade_c _ _ _ _ _ hx48.row (limbs_canon _) (by first | omega | (simp only [List.length_nil, List.length_cons, List.length_set, List.length_replicate]; omega)), ?_⟩
          rintro e w' ⟨A49, c50, rfl, hmo, hm⟩
          exact ⟨_, rfl, hm, ⟨A49, c50, rfl, hmo⟩⟩)) ?_
    refine .o3 ?_
    refine .off ?_
    refine .off ?_
    exact .nil
  · skip
    intro i h
    simp only [List.contains_eq_mem, List.mem_cons, List.not_mem_nil, or_false, decide_eq_true_eq] at h
    subst h
    · exact eager_take rfl rfl fun _ w hn k => ⟨iv (rangeE ((kk + 1 : Nat) : Int)), fun w => v_move rfl (k.fx 7 h76), rfl⟩
  intro a116 w117 hn118 ha119
  have hs120 := ha119.size.trans hs71
  have hd121 := ha119.defers.trans hd72
  have h122 := ha119.fx 4 h74
  obtain ⟨A124, cc125, h123, hr126⟩ : (fun (v : Value) (W : World) => ∃ (A51 : Option Addr) (c52 : Nat), v = .agg #[.bool (decide (sgn true (val (canon (val (powL (kk + 1)) - val (canon (asU ((kk + 1 : Nat) : Int) (goodI b m)).natAbs)))) < 0)), sv A51 (canon (sgn true (val (canon (val (powL (kk + 1)) - val (canon (asU ((kk + 1 : Nat) : Int) (goodI b m)).natAbs))))).natAbs) c52] ∧ SRow W .u32 A51 (canon (sgn true (val (canon (val (powL (kk + 1)) - val (canon (asU ((kk + 1 : Nat) : Int) (goodI b m)).natAbs))))).natAbs) c52) _ _ := ha119.got 5 36 rfl (by kernel_rfl)
  have h123 : a116.eval (.tmp 36) = .agg #[.bool (decide (sgn true (val (canon (val (powL (kk + 1)) - val (canon (asU ((kk + 1 : Nat) : Int) (goodI b m)).natAbs)))) < 0)), sv A124 (canon (sgn true (val (canon (val (powL (kk + 1)) - val (canon (asU ((kk + 1 : Nat) : Int) (goodI b m)).natAbs))))).natAbs) cc125] := h123
  have h127 := ha119.ge 6 37 rfl
  have hb128 := hb78.new_ hn118
  have hN129 := hN81.transNew hn118
  clear hs71 hd72 h73 h74 h75 h76 hv114 hb78 hb79 hq41 hr80 hN81 ha119 hn118
  obtain ⟨w130, -, hst131, hb132, hu133, hf134⟩ := s_two (v0 := .bool (decide (sgn true (val (canon (val (powL (kk + 1)) - val (canon (asU ((kk + 1 : Nat) : Int) (goodI b m)).natAbs)))) < 0))) (v1 := sv A124 (canon (sgn true (val (canon (val (powL (kk + 1)) - val (canon (asU ((kk + 1 : Nat) : Int) (goodI b m)).natAbs))))).natAbs) cc125) Try.sizeOf24 rfl rfl rfl hb128
  refine st_act rfl rfl fun K135 hL136 => a_store' rfl h122 h123 hst131 (hL136 _ _ trivial ?_)
  have hr137 := hr126.far hb128 hu133 (by first | rfl | decide | simp [notK])
  have hN138 := hN129.trans hu133 (fun k hk hkb => by subst hkb; omega)
  clear hb128 hst131 K135 hL136 hN129 hr126 hu133 hf134
  refine st_take rfl rfl (y_assign (v := iv (rangeE ((kk + 1 : Nat) : Int))) rfl h127) rfl ?_
  obtain ⟨a139, ha140⟩ : ∃ a', a' = a116.put (some 5) (iv (rangeE ((kk + 1 : Nat) : Int))) := ⟨_, rfl⟩
  have hs141 : a139.tmps.size = 38 := by rw [ha140, put_size]; exact hs120
  have hd142 : a139.defers = [] := by rw [ha140, put_defers]; exact hd121
  have h143 : a139.eval (.tmp 4) = pv q14 := by rw [ha140, put_ne _ _ _ _ (by decide)]; exact h122
  have h144 : a139.eval (.tmp 36) = .agg #[.bool (decide (sgn true (val (canon (val (powL (kk + 1)) - val (canon (asU ((kk + 1 : Nat) : Int) (goodI b m)).natAbs)))) < 0)), sv A124 (canon (sgn true (val (canon (val (powL (kk + 1)) - val (canon (asU ((kk + 1 : Nat) : Int) (goodI b m)).natAbs))))).natAbs) cc125] := by rw [ha140, put_ne _ _ _ _ (by decide)]; exact h123
  have h145 : a139.eval (.tmp 37) = iv (rangeE ((kk + 1 : Nat) : Int)) := by rw [ha140, put_ne _ _ _ _ (by decide)]; exact h127
  have h146 : a139.eval (.tmp 5) = iv (rangeE ((kk + 1 : Nat) : Int)) := by rw [ha140]; exact put_same _ _ _ (by rw [hs120]; decide)
  show stepsTo _ _ _ _ _ (a116.put (some 5) (iv (rangeE ((kk + 1 : Nat) : Int)))) _
  rw [← ha140]
  clear ha140 hs120 hd121 h122 h123 h127
  refine st_nil ?_
  clear h144 h145
  refine hK115 _ _ ?_
  clear hK115 K115
  refine wp_ret (ret_k hd142 (v := .tuple #[.agg #[.bool (decide (sgn true (val (canon (val (powL (kk + 1)) - val (canon (asU ((kk + 1 : Nat) : Int) (goodI b m)).natAbs)))) < 0)), sv A124 (canon (sgn true (val (canon (val (powL (kk + 1)) - val (canon (asU ((kk + 1 : Nat) : Int) (goodI b m)).natAbs))))).natAbs) cc125], iv (rangeE ((kk + 1 : Nat) : Int))]) (res_ct rfl h143 h146 (l_two Try.isAgg24 Try.sizeOf24 hb132)) ?_)
  have hz1 : sgn true (val (canon (val (powL (kk + 1)) - val (canon (asU ((kk + 1 : Nat) : Int) (goodI b m)).natAbs)))) = asI ((kk + 1 : Nat) : Int) (goodI b m) := asi_big hk ht82
  exact ⟨A124, cc125, congrArg (fun z : Int => Ending.returned (Value.tuple #[.agg #[.bool (decide (z < 0)), sv A124 (canon z.natAbs) cc125], iv (rangeE ((kk + 1 : Nat) : Int))])) hz1, Eq.mp (congrArg (fun z : Int => SRow _ .u32 A124 (canon z.natAbs) cc125) hz1) hr137, hN138⟩
theorem rasi_c (b : Bool) (A : Option Addr) (m : List Nat) (c : Nat) (n : Int) (w : World) (hr : SRow w .u32 A m c) (hl : Limbs m) : Calls Try.prog 24 #[iv n, .agg #[.bool b, sv A m c]] w (RetZE (asI n (goodI b m)) (rangeE n) w) := by
  by_cases hn : n < 0 ∨ 256 < n
  · exact rasi_out b A m c n w hr hl hn
  · obtain ⟨kk, rfl⟩ : ∃ kk : Nat, n = kk := ⟨n.toNat, by omega⟩
    cases kk with
    | zero => exact rasi_0 b A m c w hr hl
    | succ kk => exact rasi_in b A m c kk w hr hl (by omega)
set_option maxHeartbeats 4000000 in
set_option maxRecDepth 100000 in
theorem rword1_c (b : Bool) (A : Option Addr) (m : List Nat) (c : Nat) (w : World) (hr : SRow w .u32 A m c) (hl : Limbs m) : Calls Try.prog 26 #[.agg #[.bool b, sv A m c]] w (IsRet (.int .u64 ((wordN (goodI b m) : Nat) : Int)) w) := by
  refine enter_abs Try.func26 rfl fun a0 hs0 hd0 hp => ?_
  have hs0 : a0.tmps.size = 18 := hs0
  have hN0 : New w w := Upd.refl _ _
  have hp0 : a0.eval (.tmp 0) = .agg #[.bool b, sv A m c] := hp 0 _ rfl
  clear hp
  have hw0 := (limbs_canon (asU 64 (goodI b m)).natAbs).at 0
  have hw1 := (limbs_canon (asU 64 (goodI b m)).natAbs).at 1
  refine wp_seq_k fun K1 hK1 => ?_
  refine wp_g [true, true] [] [] 18
    [IsNew w 24 [.bool b, sv A m c],
     ve (.int .u64 0)]
    [0] (newsCons (fun v w h => IsNew.old h) newsNil) hs0 (.nw (.eq (.nil))) ?_ (fun i h => by cases h) ?_
  · skip
    refine .o2 (step_allocN (cs := [.bool b, sv A m c]) (t := 24) rfl (noG rfl) (fun _ w hn k => v_box rfl (k.fx 0 hp0) (fun w => rfl)) (fun q _ hq hb => ⟨q, rfl, hq, hb⟩)) ?_
    refine .o1 (tk rfl rfl fun _ w hn k => ⟨_, v_assign rfl rfl, rfl⟩) ?_
    exact .nil
  intro a2 w3 hn4 ha5
  have hs6 := ha5.size.trans hs0
  have hd7 := ha5.defers.trans hd0
  obtain ⟨q9, h8, hq10, hb11⟩ : IsNew _ _ _ _ _ := ha5.got 0 1 rfl (by kernel_rfl)
  have hq12 := Nat.le_trans hN0.size hq10
  have hN13 := hN0.transNew hn4
  clear hs0 hd0 hp0 hq10 hN0 ha5 hn4
  refine st_nil ?_
  refine hK1 _ _ ?_
  clear hK1 K1
  refine wp_seq_k fun K14 hK14 => ?_
  refine wp_gS (fun W => True) (fun W W' hn h => trivial) trivial [true, true, true, true, true, true, false, false] [4] [(6, false), (7, true)] 18
    [ve (.agg #[.bool b, sv A m c]),
     (fun (v : Value) (W : World) => ∃ (A3 : Option Addr) (c4 : Nat), v = .tuple #[.agg #[.bool (decide (asU 64 (goodI b m) < 0)), sv A3 (canon (asU 64 (goodI b m)).natAbs) c4], iv (rangeE 64)] ∧ SRow W .u32 A3 (canon (asU 64 (goodI b m)).natAbs) c4),
     (fun (v : Value) (W : World) => ∃ (A9 : Option Addr) (c10 : Nat), v = .tuple #[.agg #[.bool (decide (asU 64 (goodI b m) < 0)), sv A9 (canon (asU 64 (goodI b m)).natAbs) c10], iv (rangeE 64)] ∧ SRow W .u32 A9 (canon (asU 64 (goodI b m)).natAbs) c10),
     (fun (v : Value) (W : World) => ∃ (A15 : Option Addr) (c16 : Nat), v = .agg #[.bool (decide (asU 64 (goodI b m) < 0)), sv A15 (canon (asU 64 (goodI b m)).natAbs) c16] ∧ SRow W .u32 A15 (canon (asU 64 (goodI b m)).natAbs) c16),
     ve (iv (rangeE 64)),
     IsNew w3 24 [.bool false, sv none ([]) 0],
     vt,
     vt]
    [5] (newsCons (fun v w h => IsNew.old h) newsNil) hs6 (.eq (.cons (fun v W W' hn ⟨A3, c4, he, h0⟩ => ⟨A3, c4, he, h0.new_ hn⟩) (.cons (fun v W W' hn ⟨A9, c10, he, h0⟩ => ⟨A9, c10, he, h0.new_ hn⟩) (.cons (fun v W W' hn ⟨A15, c16, he, h0⟩ => ⟨A15, c16, he, h0.new_ hn⟩) (.eq (.nw (.tt (.tt (.nil))))))))) ?_ ?_ ?_
  · skip
    refine .o1 (tk rfl rfl fun _ w hn k => ⟨_, v_load rfl (k.fx 1 h8) (l_two Try.isAgg24 Try.sizeOf24 (hb11.new_ hn)), rfl⟩) ?_
    refine .o1 (tkC rfl (noG rfl) rfl fun _ w hn k => (by
          refine ⟨#[iv 64, .agg #[.bool b, sv A m c]], _, args2 rfl (k.eq1 0 6 rfl), fun w => by kernel_rfl, rasu_c _ _ _ _ 64 _ (hr.new_ (hN13.transNew hn)) hl, ?_⟩
          rintro e w' ⟨A1, c2, rfl, hmo, hm⟩
          exact ⟨_, rfl, hm, ⟨A1, c2, rfl, hmo⟩⟩)) ?_
    refine .o1 (tk rfl rfl fun _ w hn k => (by
          obtain ⟨A5, c6, e7, hx8⟩ : (fun (v : Value) (W : World) => ∃ (A3 : Option Addr) (c4 : Nat), v = .tuple #[.agg #[.bool (decide (asU 64 (goodI b m) < 0)), sv A3 (canon (asU 64 (goodI b m)).natAbs) c4], iv (rangeE 64)] ∧ SRow W .u32 A3 (canon (asU 64 (goodI b m)).natAbs) c4) _ _ := k.dep 1 7 (by kernel_rfl) (by kernel_rfl)
          exact ⟨_, v_move rfl e7, ⟨A5, c6, rfl, hx8⟩⟩)) ?_
    refine .o1 (tk rfl rfl fun _ w hn k => (by
          obtain ⟨A11, c12, e13, hx14⟩ : (fun (v : Value) (W : World) => ∃ (A9 : Option Addr) (c10 : Nat), v = .tuple #[.agg #[.bool (decide (asU 64 (goodI b m) < 0)), sv A9 (canon (asU 64 (goodI b m)).natAbs) c10], iv (rangeE 64)] ∧ SRow W .u32 A9 (canon (asU 64 (goodI b m)).natAbs) c10) _ _ := k.dep 2 5 (by kernel_rfl) (by kernel_rfl)
          exact ⟨_, v_extract rfl e13 rfl, ⟨A11, c12, rfl, hx14⟩⟩)) ?_
    refine .o3 ?_
    refine .o2 (step_allocN (cs := [.bool false, sv none ([]) 0]) (t := 24) rfl (noG rfl) (fun _ w hn k => rfl) (fun q _ hq hb => ⟨q, rfl, hq, hb⟩)) ?_
    refine .off ?_
    refine .off ?_
    exact .nil
  · skip
    intro i h
    simp only [List.contains_eq_mem, List.mem_cons, List.not_mem_nil, or_false, decide_eq_true_eq] at h
    subst h
    · exact eager_takeG rfl (noG rfl) fun _ w hn k => (by
          obtain ⟨A17, c18, e19, hx20⟩ : (fun (v : Value) (W : World) => ∃ (A9 : Option Addr) (c10 : Nat), v = .tuple #[.agg #[.bool (decide (asU 64 (goodI b m) < 0)), sv A9 (canon (asU 64 (goodI b m)).natAbs) c10], iv (rangeE 64)] ∧ SRow W .u32 A9 (canon (asU 64 (goodI b m)).natAbs) c10) _ _ := k.dep 2 5 (by kernel_rfl) (by kernel_rfl)
          exact ⟨_, fun w hS => v_extract rfl e19 rfl, rfl⟩)
  intro a15 w16 _ hn17 ha18
  have hs19 := ha18.size.trans hs6
  have hd20 := ha18.defers.trans hd7
  obtain ⟨A22, cc23, h21, hr24⟩ : (fun (v : Value) (W : World) => ∃ (A15 : Option Addr) (c16 : Nat), v = .agg #[.bool (decide (asU 64 (goodI b m) < 0)), sv A15 (canon (asU 64 (goodI b m)).natAbs) c16] ∧ SRow W .u32 A15 (canon (asU 64 (goodI b m)).natAbs) c16) _ _ := ha18.got 3 8 rfl (by kernel_rfl)
  have h21 : a15.eval (.tmp 8) = .agg #[.bool (decide (asU 64 (goodI b m) < 0)), sv A22 (canon (asU 64 (goodI b m)).natAbs) cc23] := h21
  have h25 := ha18.ge 4 9 rfl
  obtain ⟨q27, h26, hq28, hb29⟩ : IsNew _ _ _ _ _ := ha18.got 5 3 rfl (by kernel_rfl)
  have hq30 := Nat.le_trans hN13.size hq28
  have hN31 := hN13.transNew hn17
  clear hs6 hd7 h8 hb11 hq12 hq28 hN13 ha18 hn17
  obtain ⟨w32, -, hst33, hb34, hu35, hf36⟩ := s_two (v0 := .bool (decide (asU 64 (goodI b m) < 0))) (v1 := sv A22 (canon (asU 64 (goodI b m)).natAbs) cc23) Try.sizeOf24 rfl rfl rfl hb29
  refine st_act rfl rfl fun K37 hL38 => a_store' rfl h26 h21 hst33 (hL38 _ _ trivial ?_)
  have hr39 := hr24.far hb29 hu35 (by first | rfl | decide | simp [notK])
  have hN40 := hN31.trans hu35 (fun k hk hkb => by subst hkb; omega)
  clear hb29 hst33 K37 hL38 hN31 hr24 hu35 hf36
  refine st_take rfl rfl (y_assign (v := iv (rangeE 64)) rfl h25) rfl ?_
  obtain ⟨a41, ha42⟩ : ∃ a', a' = a15.put (some 4) (iv (rangeE 64)) := ⟨_, rfl⟩
  have hs43 : a41.tmps.size = 18 := by rw [ha42, put_size]; exact hs19
  have hd44 : a41.defers = [] := by rw [ha42, put_defers]; exact hd20
  have h45 : a41.eval (.tmp 8) = .agg #[.bool (decide (asU 64 (goodI b m) < 0)), sv A22 (canon (asU 64 (goodI b m)).natAbs) cc23] := by rw [ha42, put_ne _ _ _ _ (by decide)]; exact h21
  have h46 : a41.eval (.tmp 9) = iv (rangeE 64) := by rw [ha42, put_ne _ _ _ _ (by decide)]; exact h25
  have h47 : a41.eval (.tmp 3) = pv q27 := by rw [ha42, put_ne _ _ _ _ (by decide)]; exact h26
  have h48 : a41.eval (.tmp 4) = iv (rangeE 64) := by rw [ha42]; exact put_same _ _ _ (by rw [hs19]; decide)
  show stepsTo _ _ _ _ _ (a15.put (some 4) (iv (rangeE 64))) _
  rw [← ha42]
  clear ha42 hs19 hd20 h21 h25 h26
  refine st_nil ?_
  clear h45 h46 h48
  refine hK14 _ _ ?_
  clear hK14 K14
  refine wp_seq_k fun K49 hK49 => ?_
  refine wp_g0 [true, true, true, true, true, true, true, true, true] [] 18
    [ve (.pointer (some ⟨q27, 1, none⟩)),
     ve (sv A22 (canon (asU 64 (goodI b m)).natAbs) cc23),
     ve (.int .u64 (((canon (asU 64 (goodI b m)).natAbs).getD 0 0 : Nat) : Int)),
     ve (.pointer (some ⟨q27, 1, none⟩)),
     ve (sv A22 (canon (asU 64 (goodI b m)).natAbs) cc23),
     ve (.int .u64 (((canon (asU 64 (goodI b m)).natAbs).getD 1 0 : Nat) : Int)),
     ve (.int .u64 ((((canon (asU 64 (goodI b m)).natAbs).getD 1 0) * 4294967296 : Nat) : Int)),
     ve (.int .u64 ((((canon (asU 64 (goodI b m)).natAbs).getD 0 0) + (((canon (asU 64 (goodI b m)).natAbs).getD 1 0) * 4294967296) : Nat) : Int)),
     ve (.int .u64 ((((canon (asU 64 (goodI b m)).natAbs).getD 0 0) + (((canon (asU 64 (goodI b m)).natAbs).getD 1 0) * 4294967296) : Nat) : Int))] hs43 (.eq (.eq (.eq (.eq (.eq (.eq (.eq (.eq (.eq (.nil)))))))))) ?_ ?_
  · skip
    refine .o1 (tk rfl rfl fun _ w hn k => ⟨_, v_field rfl (k.fx 3 h47) (fun w => rfl), rfl⟩) ?_
    refine .o1 (tk rfl rfl fun _ w hn k => ⟨_, v_load rfl (k.eq1 0 10 rfl) (l_one Try.isAgg22 ((hb34.new_ hn).cell 1)), rfl⟩) ?_
    refine .o1 (ck rfl rfl rfl (fun _ w hn k => ⟨#[sv A22 (canon (asU 64 (goodI b m)).natAbs) cc23, iv 0], args2 (k.eq1 1 11 rfl) rfl, fun _ => by kernel_rfl, rword_c _ _ _ _ _ (hr39.new_ hn) (limbs_canon _) (by omega)⟩) fun _ => rfl) ?_
    refine .o1 (tk rfl rfl fun _ w hn k => ⟨_, v_field rfl (k.fx 3 h47) (fun w => rfl), rfl⟩) ?_
    refine .o1 (tk rfl rfl fun _ w hn k => ⟨_, v_load rfl (k.eq1 3 13 rfl) (l_one Try.isAgg22 ((hb34.new_ hn).cell 1)), rfl⟩) ?_
    refine .o1 (ck rfl rfl rfl (fun _ w hn k => ⟨#[sv A22 (canon (asU 64 (goodI b m)).natAbs) cc23, iv 1], args2 (k.eq1 4 14 rfl) rfl, fun _ => by kernel_rfl, rword_c _ _ _ _ _ (hr39.new_ hn) (limbs_canon _) (by omega)⟩) fun _ => rfl) ?_
    refine .o1 (tk rfl rfl fun _ w hn k => ⟨_, v_bin rfl (k.eq1 5 15 rfl) rfl (fun _ => rfl) (n_shl ((canon (asU 64 (goodI b m)).natAbs).getD 1 0) 32 (by decide) (IntWalk.u64_in _ (by omega))), rfl⟩) ?_
    refine .o1 (tk rfl rfl fun _ w hn k => ⟨_, v_bin rfl (k.eq1 2 12 rfl) (k.eq1 6 16 rfl) (fun _ => rfl) (n_add (by omega) (IntWalk.u64_in _ (by omega))), rfl⟩) ?_
    refine .o1 (tk rfl rfl fun _ w hn k => ⟨_, v_assign rfl (k.eq1 7 17 rfl), rfl⟩) ?_
    exact .nil
  intro a50 w51 hn52 ha53
  have hs54 := ha53.size.trans hs43
  have hd55 := ha53.defers.trans hd44
  have h56 := ha53.ge 8 2 rfl
  have hN57 := hN40.transNew hn52
  clear hs43 hd44 h47 hb34 hq30 hr39 hN40 ha53 hn52
  refine st_nil ?_
  refine hK49 _ _ ?_
  clear hK49 K49
  refine wp_ret (ret_k hd55 (v := .int .u64 ((((canon (asU 64 (goodI b m)).natAbs).getD 0 0) + (((canon (asU 64 (goodI b m)).natAbs).getD 1 0) * 4294967296) : Nat) : Int)) (res_t rfl h56 _) ?_)
  exact ⟨congrArg (fun n : Nat => Ending.returned (.int .u64 (n : Int))) (word_two (goodI b m)), hN57⟩
set_option maxHeartbeats 4000000 in
set_option maxRecDepth 100000 in
theorem rfromw_c (u : Nat) (s : Bool) (w : World) (hu : u < 18446744073709551616) : Calls Try.prog 28 #[.int .u64 (u : Int), .bool s] w (RetZ (wordI u s) w) := by
  refine enter_abs Try.func28 rfl fun a0 hs0 hd0 hp => ?_
  have hs0 : a0.tmps.size = 25 := hs0
  have hN0 : New w w := Upd.refl _ _
  have hp0 : a0.eval (.tmp 0) = .int .u64 (u : Int) := hp 0 _ rfl
  have hp1 : a0.eval (.tmp 1) = .bool s := hp 1 _ rfl
  clear hp
  have hpl := powL_len 64
  have hcl : (canon (sgn false (val [(u % 4294967296), ((u / 4294967296) % 4294967296)])).natAbs).length ≤ 8 := fromw_len hu
  have hmx : (canon (val (powL 64) - val (canon (sgn false (val [(u % 4294967296), ((u / 4294967296) % 4294967296)])).natAbs))).length ≤ 9 := powsub_len (by omega)
  refine wp_seq_k fun K1 hK1 => ?_
  refine wp_g [true] [] [] 25
    [IsNew w 24 [.bool false, sv none ([]) 0]]
    [0] (newsCons (fun v w h => IsNew.old h) newsNil) hs0 (.nw (.nil)) ?_ (fun i h => by cases h) ?_
  · skip
    refine .o2 (step_allocN (cs := [.bool false, sv none ([]) 0]) (t := 24) rfl (noG rfl) (fun _ w hn k => rfl) (fun q _ hq hb => ⟨q, rfl, hq, hb⟩)) ?_
    exact .nil
  intro a2 w3 hn4 ha5
  have hs6 := ha5.size.trans hs0
  have hd7 := ha5.defers.trans hd0
  have h8 := ha5.fx 0 hp0
  have h9 := ha5.fx 1 hp1
  obtain ⟨q11, h10, hq12, hb13⟩ : IsNew _ _ _ _ _ := ha5.got 0 4 rfl (by kernel_rfl)
  have hq14 := Nat.le_trans hN0.size hq12
  have hN15 := hN0.transNew hn4
  clear hs0 hd0 hp0 hp1 hq12 hN0 ha5 hn4
  refine st_nil ?_
  refine hK1 _ _ ?_
  clear hK1 K1
  refine wp_seq_k fun K16 hK16 => ?_
  refine wp_g [true, true, true, true, true, true, true, true, true, false] [] [(9, false)] 25
    [ve (.int .u64 (u : Int)),
     ve (.int .u64 ((u % 4294967296 : Nat) : Int)),
     ve (.int .u32 ((u % 4294967296 : Nat) : Int)),
     ve (.int .u64 (u : Int)),
     ve (.int .u64 ((u / 4294967296 : Nat) : Int)),
     ve (.int .u32 (((u / 4294967296) % 4294967296 : Nat) : Int)),
     (fun (v : Value) (W : World) => ∃ (A3 : Option Addr) (c4 : Nat), v = sv A3 ([(u % 4294967296), ((u / 4294967296) % 4294967296)]) c4 ∧ SOwn W w3.heap.size 50 .u32 A3 ([(u % 4294967296), ((u / 4294967296) % 4294967296)]) c4),
     (fun (v : Value) (W : World) => ∃ (A11 : Option Addr) (c12 : Nat), v = .agg #[.bool (decide (sgn false (val ([(u % 4294967296), ((u / 4294967296) % 4294967296)])) < 0)), sv A11 (canon (sgn false (val ([(u % 4294967296), ((u / 4294967296) % 4294967296)]))).natAbs) c12] ∧ SRow W .u32 A11 (canon (sgn false (val ([(u % 4294967296), ((u / 4294967296) % 4294967296)]))).natAbs) c12),
     IsNew w3 24 [.bool false, sv none ([]) 0],
     vt]
    [8] (newsCons (fun v w h => IsNew.old h) newsNil) hs6 (.eq (.eq (.eq (.eq (.eq (.eq (.cons (fun v W W' hn ⟨A3, c4, he, h0⟩ => ⟨A3, c4, he, h0.new_ hn⟩) (.cons (fun v W W' hn ⟨A11, c12, he, h0⟩ => ⟨A11, c12, he, h0.new_ hn⟩) (.nw (.tt (.nil))))))))))) ?_ (fun i h => by cases h) ?_
  · skip
    refine .o1 (tk rfl rfl fun _ w hn k => ⟨_, v_move rfl (k.fx 0 h8), rfl⟩) ?_
    refine .o1 (tk rfl rfl fun _ w hn k => ⟨_, v_bin rfl (k.eq1 0 6 rfl) rfl (fun _ => rfl) (n_andMask64 u (by omega)), rfl⟩) ?_
    refine .o1 (tk rfl rfl fun _ w hn k => ⟨_, v_conv rfl (k.eq1 1 7 rfl) (n_conv (by kernel_rfl) (by kernel_rfl) (by kernel_rfl) (IntWalk.u32_in _ (by omega))), rfl⟩) ?_
    refine .o1 (tk rfl rfl fun _ w hn k => ⟨_, v_move rfl (k.fx 0 h8), rfl⟩) ?_
    refine .o1 (tk rfl rfl fun _ w hn k => ⟨_, v_bin rfl (k.eq1 3 9 rfl) rfl (fun _ => rfl) (n_shr u 32 (by decide)), rfl⟩) ?_
    refine .o1 (tk rfl rfl fun _ w hn k => ⟨_, v_conv rfl (k.eq1 4 10 rfl) (n_conv (by kernel_rfl) (by kernel_rfl) (by kernel_rfl) (n_wrap32 _)), rfl⟩) ?_
    refine .o1 (tkA rfl (noG rfl) fun _ w hn k => (by
          exact x_bslice (k := .u32) (ps := [(0, .int .u32 ((u % 4294967296 : Nat) : Int)), (1, .int .u32 (((u / 4294967296) % 4294967296 : Nat) : Int))]) [(u % 4294967296), ((u / 4294967296) % 4294967296)] rfl (parts2 (k.eq1 2 8 rfl) (k.eq1 5 11 rfl)) elW rfl (by omega) (by omega) (by first | kernel_rfl | (simp only [enc, List.map_cons, List.map_nil, Int.toNat_natCast, Int.toNat_of_nonneg (by omega : (0 : Int) ≤ _)]; kernel_rfl)) fun A1 c2 W' hmo => ⟨A1, c2, rfl, (hmo.more hn.size)⟩)) ?_
    refine .o1 (tkC rfl (noG rfl) rfl fun _ w hn k => (by
          obtain ⟨A5, c6, e7, hx8⟩ : (fun (v : Value) (W : World) => ∃ (A3 : Option Addr) (c4 : Nat), v = sv A3 ([(u % 4294967296), ((u / 4294967296) % 4294967296)]) c4 ∧ SOwn W w3.heap.size 50 .u32 A3 ([(u % 4294967296), ((u / 4294967296) % 4294967296)]) c4) _ _ := k.dep 6 12 (by kernel_rfl) (by kernel_rfl)
          refine ⟨#[.bool false, sv A5 ([(u % 4294967296), ((u / 4294967296) % 4294967296)]) c6], _, args2 rfl e7, fun w => by kernel_rfl, rmade_c _ _ _ _ _ hx8.row (two_limbs_m _) (by first | omega | (simp only [List.length_nil, List.length_cons, List.length_set, List.length_replicate]; omega)), ?_⟩
          rintro e w' ⟨A9, c10, rfl, hmo, hm⟩
          exact ⟨_, rfl, hm, ⟨A9, c10, rfl, hmo⟩⟩)) ?_
    refine .o2 (step_allocN (cs := [.bool false, sv none ([]) 0]) (t := 24) rfl (noG rfl) (fun _ w hn k => rfl) (fun q _ hq hb => ⟨q, rfl, hq, hb⟩)) ?_
    refine .off ?_
    exact .nil
  intro a17 w18 hn19 ha20
  have hs21 := ha20.size.trans hs6
  have hd22 := ha20.defers.trans hd7
  have h23 := ha20.fx 0 h8
  have h24 := ha20.fx 1 h9
  have h25 := ha20.fx 4 h10
  obtain ⟨A27, cc28, h26, hr29⟩ : (fun (v : Value) (W : World) => ∃ (A11 : Option Addr) (c12 : Nat), v = .agg #[.bool (decide (sgn false (val ([(u % 4294967296), ((u / 4294967296) % 4294967296)])) < 0)), sv A11 (canon (sgn false (val ([(u % 4294967296), ((u / 4294967296) % 4294967296)]))).natAbs) c12] ∧ SRow W .u32 A11 (canon (sgn false (val ([(u % 4294967296), ((u / 4294967296) % 4294967296)]))).natAbs) c12) _ _ := ha20.got 7 13 rfl (by kernel_rfl)
  have h26 : a17.eval (.tmp 13) = .agg #[.bool (decide (sgn false (val ([(u % 4294967296), ((u / 4294967296) % 4294967296)])) < 0)), sv A27 (canon (sgn false (val ([(u % 4294967296), ((u / 4294967296) % 4294967296)]))).natAbs) cc28] := h26
  obtain ⟨q31, h30, hq32, hb33⟩ : IsNew _ _ _ _ _ := ha20.got 8 5 rfl (by kernel_rfl)
  have hb34 := hb13.new_ hn19
  have hne35 : q11 ≠ q31 := by have h1 := hb13.lt; have h2 := hq32; omega
  have hq36 := Nat.le_trans hN15.size hq32
  have hN37 := hN15.transNew hn19
  clear hs6 hd7 h8 h9 h10 hb13 hq32 hN15 ha20 hn19
  obtain ⟨w38, -, hst39, hb40, hu41, hf42⟩ := s_two (v0 := .bool (decide (sgn false (val ([(u % 4294967296), ((u / 4294967296) % 4294967296)])) < 0))) (v1 := sv A27 (canon (sgn false (val ([(u % 4294967296), ((u / 4294967296) % 4294967296)]))).natAbs) cc28) Try.sizeOf24 rfl rfl rfl hb33
  refine st_act rfl rfl fun K43 hL44 => a_store' rfl h30 h26 hst39 (hL44 _ _ trivial ?_)
  have hr45 := hr29.far hb33 hu41 (by first | rfl | decide | simp [notK])
  have hb46 := hf42 _ _ _ (hne35) hb34
  have hN47 := hN37.trans hu41 (fun k hk hkb => by subst hkb; omega)
  clear hb33 hst39 K43 hL44 hN37 hr29 hb34 hu41 hf42
  refine st_nil ?_
  clear h26
  refine hK16 _ _ ?_
  clear hK16 K16
  refine wp_seq_k fun K48 hK48 => ?_
  refine wp_seq_k fun K49 hK49 => ?_
  rcases Bool.eq_false_or_eq_true (s) with ht50 | ht50
  · skip
    have hv51 : a17.eval (.tmp 1) = .bool true := h24.trans (congrArg Value.bool ht50)
    clear h24
    rcases Bool.eq_false_or_eq_true (decide ((u : Int) < 9223372036854775808)) with ht52 | ht52
    · skip
      have ht52d := of_decide_eq_true ht52
      refine wp_g0 [true, true, true, true, true] [] 25
        [ve (.bool true),
         ve (.bool true),
         ve (.int .u64 (u : Int)),
         ve (.bool false),
         ve (.bool false)] hs21 (.eq (.eq (.eq (.eq (.eq (.nil)))))) ?_ ?_
      · skip
        refine .o1 (tk rfl rfl fun _ w hn k => ⟨_, v_move rfl (k.fx 1 hv51), rfl⟩) ?_
        refine .o1 (tk rfl rfl fun _ w hn k => ⟨_, v_move rfl (k.eq1 0 14 rfl), rfl⟩) ?_
        refine .o1 (tg rfl rfl rfl (fun _ _ k => k.eq1 1 15 rfl) fun _ w hn k => ⟨_, v_move rfl (k.fx 0 h23), rfl⟩) ?_
        refine .o1 (tg rfl rfl rfl (fun _ _ k => k.eq1 1 15 rfl) fun _ w hn k => ⟨_, v_bin rfl (k.eq1 2 16 rfl) rfl (fun _ => rfl) (r_geqK ht52), rfl⟩) ?_
        refine .o1 (tk rfl rfl fun _ w hn k => ⟨_, v_pickT rfl (k.eq1 1 15 rfl) (k.eq1 3 17 rfl), rfl⟩) ?_
        exact .nil
      intro a53 w54 hn55 ha56
      have hs57 := ha56.size.trans hs21
      have hd58 := ha56.defers.trans hd22
      have h59 := ha56.fx 4 h25
      have h60 := ha56.fx 5 h30
      have h61 := ha56.ge 4 18 rfl
      have hb62 := hb46.new_ hn55
      have hb63 := hb40.new_ hn55
      have hr64 := hr45.new_ hn55
      have hN65 := hN47.transNew hn55
      clear hs21 hd22 h23 hv51 h25 h30 hb46 hb40 hr45 hN47 ha56 hn55
      refine st_nil ?_
      refine hK49 _ _ ?_
      clear hK49 K49
      refine wp_cond_false h61 ?_
      refine wp_skip ?_
      refine hK48 _ _ ?_
      clear hK48 K48
      refine wp_seq_k fun K66 hK66 => ?_
      refine wp_g0 [true, false] [(1, false)] 25
        [ve (.agg #[.bool (decide (sgn false (val ([(u % 4294967296), ((u / 4294967296) % 4294967296)])) < 0)), sv A27 (canon (sgn false (val ([(u % 4294967296), ((u / 4294967296) % 4294967296)]))).natAbs) cc28]),
         vt] hs57 (.eq (.tt (.nil))) ?_ ?_
      · skip
        refine .o1 (tk rfl rfl fun _ w hn k => ⟨_, v_load rfl (k.fx 5 h60) (l_two Try.isAgg24 Try.sizeOf24 (hb63.new_ hn)), rfl⟩) ?_
        refine .off ?_
        exact .nil
      intro a67 w68 hn69 ha70
      have hs71 := ha70.size.trans hs57
      have hd72 := ha70.defers.trans hd58
      have h73 := ha70.fx 4 h59
      have h74 := ha70.ge 0 24 rfl
      have hb75 := hb62.new_ hn69
      have hr76 := hr64.new_ hn69
      have hN77 := hN65.transNew hn69
      clear hs57 hd58 h59 h60 h61 hb62 hb63 hq36 hr64 hN65 ha70 hn69
      obtain ⟨w78, -, hst79, hb80, hu81, hf82⟩ := s_two (v0 := .bool (decide (sgn false (val ([(u % 4294967296), ((u / 4294967296) % 4294967296)])) < 0))) (v1 := sv A27 (canon (sgn false (val ([(u % 4294967296), ((u / 4294967296) % 4294967296)]))).natAbs) cc28) Try.sizeOf24 rfl rfl rfl hb75
      refine st_act rfl rfl fun K83 hL84 => a_store' rfl h73 h74 hst79 (hL84 _ _ trivial ?_)
      have hr85 := hr76.far hb75 hu81 (by first | rfl | decide | simp [notK])
      have hN86 := hN77.trans hu81 (fun k hk hkb => by subst hkb; omega)
      clear hb75 hst79 K83 hL84 hN77 hr76 hu81 hf82
      refine st_nil ?_
      clear h74
      refine hK66 _ _ ?_
      clear hK66 K66
      refine wp_ret (ret_k hd72 (v := .agg #[.bool (decide (sgn false (val ([(u % 4294967296), ((u / 4294967296) % 4294967296)])) < 0)), sv A27 (canon (sgn false (val ([(u % 4294967296), ((u / 4294967296) % 4294967296)]))).natAbs) cc28]) (res_c rfl h73 (l_two Try.isAgg24 Try.sizeOf24 hb80)) ?_)
      have hz1 : sgn false (val ([(u % 4294967296), ((u / 4294967296) % 4294967296)])) = wordI u s := fromw_no (.inr ht52)
      exact ⟨A27, cc28, congrArg (fun z : Int => Ending.returned (Value.agg #[.bool (decide (z < 0)), sv A27 (canon z.natAbs) cc28])) hz1, Eq.mp (congrArg (fun z : Int => SRow _ .u32 A27 (canon z.natAbs) cc28) hz1) hr85, hN86⟩
    have ht52d := of_decide_eq_false ht52
    refine wp_g0 [true, true, true, true, true] [] 25
      [ve (.bool true),
       ve (.bool true),
       ve (.int .u64 (u : Int)),
       ve (.bool true),
       ve (.bool true)] hs21 (.eq (.eq (.eq (.eq (.eq (.nil)))))) ?_ ?_
    · skip
      refine .o1 (tk rfl rfl fun _ w hn k => ⟨_, v_move rfl (k.fx 1 hv51), rfl⟩) ?_
      refine .o1 (tk rfl rfl fun _ w hn k => ⟨_, v_move rfl (k.eq1 0 14 rfl), rfl⟩) ?_
      refine .o1 (tg rfl rfl rfl (fun _ _ k => k.eq1 1 15 rfl) fun _ w hn k => ⟨_, v_move rfl (k.fx 0 h23), rfl⟩) ?_
      refine .o1 (tg rfl rfl rfl (fun _ _ k => k.eq1 1 15 rfl) fun _ w hn k => ⟨_, v_bin rfl (k.eq1 2 16 rfl) rfl (fun _ => rfl) (r_geqK ht52), rfl⟩) ?_
      refine .o1 (tk rfl rfl fun _ w hn k => ⟨_, v_pickT rfl (k.eq1 1 15 rfl) (k.eq1 3 17 rfl), rfl⟩) ?_
      exact .nil
    intro a87 w88 hn89 ha90
    have hs91 := ha90.size.trans hs21
    have hd92 := ha90.defers.trans hd22
    have h93 := ha90.fx 4 h25
    have h94 := ha90.fx 5 h30
    have h95 := ha90.ge 4 18 rfl
    have hb96 := hb46.new_ hn89
    have hb97 := hb40.new_ hn89
    have hr98 := hr45.new_ hn89
    have hN99 := hN47.transNew hn89
    clear hs21 hd22 h23 hv51 h25 h30 hb46 hb40 hr45 hN47 ha90 hn89
    refine st_nil ?_
    refine hK49 _ _ ?_
    clear hK49 K49
    refine wp_cond_true h95 ?_
    refine wp_seq_k fun K100 hK100 => ?_
    refine wp_g0 [true, true, true, true, true, false] [(5, false)] 25
      [(fun (v : Value) (W : World) => ∃ (A19 : Option Addr) (c20 : Nat), v = sv A19 (powL 64) c20 ∧ SOwn W w88.heap.size 50 .u32 A19 (powL 64) c20),
       ve (.pointer (some ⟨q31, 1, none⟩)),
       ve (sv A27 (canon (sgn false (val ([(u % 4294967296), ((u / 4294967296) % 4294967296)]))).natAbs) cc28),
       (fun (v : Value) (W : World) => ∃ (A27 : Option Addr) (c28 : Nat), v = sv A27 (canon (val (powL 64) - val (canon (sgn false (val ([(u % 4294967296), ((u / 4294967296) % 4294967296)]))).natAbs))) c28 ∧ SOwn W w88.heap.size 50 .u32 A27 (canon (val (powL 64) - val (canon (sgn false (val ([(u % 4294967296), ((u / 4294967296) % 4294967296)]))).natAbs))) c28),
       (fun (v : Value) (W : World) => ∃ (A35 : Option Addr) (c36 : Nat), v = .agg #[.bool (decide (sgn true (val (canon (val (powL 64) - val (canon (sgn false (val ([(u % 4294967296), ((u / 4294967296) % 4294967296)]))).natAbs)))) < 0)), sv A35 (canon (sgn true (val (canon (val (powL 64) - val (canon (sgn false (val ([(u % 4294967296), ((u / 4294967296) % 4294967296)]))).natAbs))))).natAbs) c36] ∧ SRow W .u32 A35 (canon (sgn true (val (canon (val (powL 64) - val (canon (sgn false (val ([(u % 4294967296), ((u / 4294967296) % 4294967296)]))).natAbs))))).natAbs) c36),
       vt] hs91 (.cons (fun v W W' hn ⟨A19, c20, he, h0⟩ => ⟨A19, c20, he, h0.new_ hn⟩) (.eq (.eq (.cons (fun v W W' hn ⟨A27, c28, he, h0⟩ => ⟨A27, c28, he, h0.new_ hn⟩) (.cons (fun v W W' hn ⟨A35, c36, he, h0⟩ => ⟨A35, c36, he, h0.new_ hn⟩) (.tt (.nil))))))) ?_ ?_
    · skip
      refine .o1 (tkC rfl (noG rfl) rfl fun _ w hn k => (by
            refine ⟨#[iv 64], _, args1 rfl, fun w => by kernel_rfl, rpower_i 64 _ (by omega), ?_⟩
            rintro e w' ⟨A17, c18, rfl, hmo, hm⟩
            exact ⟨_, rfl, hm, ⟨A17, c18, rfl, (hmo.more hn.size)⟩⟩)) ?_
      refine .o1 (tk rfl rfl fun _ w hn k => ⟨_, v_field rfl (k.fx 5 h94) (fun w => rfl), rfl⟩) ?_
      refine .o1 (tk rfl rfl fun _ w hn k => ⟨_, v_load rfl (k.eq1 1 20 rfl) (l_one Try.isAgg22 ((hb97.new_ hn).cell 1)), rfl⟩) ?_
      refine .o1 (tkC rfl (noG rfl) rfl fun _ w hn k => (by
            obtain ⟨A21, c22, e23, hx24⟩ : (fun (v : Value) (W : World) => ∃ (A19 : Option Addr) (c20 : Nat), v = sv A19 (powL 64) c20 ∧ SOwn W w88.heap.size 50 .u32 A19 (powL 64) c20) _ _ := k.dep 0 19 (by kernel_rfl) (by kernel_rfl)
            refine ⟨#[sv A21 (powL 64) c22, sv A27 (canon (sgn false (val ([(u % 4294967296), ((u / 4294967296) % 4294967296)]))).natAbs) cc28], _, args2 e23 (k.eq1 2 21 rfl), fun w => by kernel_rfl, rminus_c _ _ _ _ _ _ _ hx24.row (hr98.new_ hn) (powL_limbs _) (limbs_canon _) (by first | omega | (simp only [List.length_nil, List.length_cons, List.length_set, List.length_replicate]; omega)) (by first | omega | (simp only [List.length_nil, List.length_cons, List.length_set, List.length_replicate]; omega)) (fromw_le hu), ?_⟩
            rintro e w' ⟨A25, c26, rfl, hmo, hm⟩
            exact ⟨_, rfl, hm, ⟨A25, c26, rfl, (hmo.more hn.size)⟩⟩)) ?_
      refine .o1 (tkC rfl (noG rfl) rfl fun _ w hn k => (by
            obtain ⟨A29, c30, e31, hx32⟩ : (fun (v : Value) (W : World) => ∃ (A27 : Option Addr) (c28 : Nat), v = sv A27 (canon (val (powL 64) - val (canon (sgn false (val ([(u % 4294967296), ((u / 4294967296) % 4294967296)]))).natAbs))) c28 ∧ SOwn W w88.heap.size 50 .u32 A27 (canon (val (powL 64) - val (canon (sgn false (val ([(u % 4294967296), ((u / 4294967296) % 4294967296)]))).natAbs))) c28) _ _ := k.dep 3 22 (by kernel_rfl) (by kernel_rfl)
            refine ⟨#[.bool true, sv A29 (canon (val (powL 64) - val (canon (sgn false (val ([(u % 4294967296), ((u / 4294967296) % 4294967296)]))).natAbs))) c30], _, args2 rfl e31, fun w => by kernel_rfl, rmade_c _ _ _ _ _ hx32.row (limbs_canon _) (by first | omega | (simp only [List.length_nil, List.length_cons, List.length_set, List.length_replicate]; omega)), ?_⟩
            rintro e w' ⟨A33, c34, rfl, hmo, hm⟩
            exact ⟨_, rfl, hm, ⟨A33, c34, rfl, hmo⟩⟩)) ?_
      refine .off ?_
      exact .nil
    intro a101 w102 hn103 ha104
    have hs105 := ha104.size.trans hs91
    have hd106 := ha104.defers.trans hd92
    have h107 := ha104.fx 4 h93
    obtain ⟨A109, cc110, h108, hr111⟩ : (fun (v : Value) (W : World) => ∃ (A35 : Option Addr) (c36 : Nat), v = .agg #[.bool (decide (sgn true (val (canon (val (powL 64) - val (canon (sgn false (val ([(u % 4294967296), ((u / 4294967296) % 4294967296)]))).natAbs)))) < 0)), sv A35 (canon (sgn true (val (canon (val (powL 64) - val (canon (sgn false (val ([(u % 4294967296), ((u / 4294967296) % 4294967296)]))).natAbs))))).natAbs) c36] ∧ SRow W .u32 A35 (canon (sgn true (val (canon (val (powL 64) - val (canon (sgn false (val ([(u % 4294967296), ((u / 4294967296) % 4294967296)]))).natAbs))))).natAbs) c36) _ _ := ha104.got 4 23 rfl (by kernel_rfl)
    have h108 : a101.eval (.tmp 23) = .agg #[.bool (decide (sgn true (val (canon (val (powL 64) - val (canon (sgn false (val ([(u % 4294967296), ((u / 4294967296) % 4294967296)]))).natAbs)))) < 0)), sv A109 (canon (sgn true (val (canon (val (powL 64) - val (canon (sgn false (val ([(u % 4294967296), ((u / 4294967296) % 4294967296)]))).natAbs))))).natAbs) cc110] := h108
    have hb112 := hb96.new_ hn103
    have hN113 := hN99.transNew hn103
    clear hs91 hd92 h93 h94 h95 hb96 hb97 hq36 hr98 hN99 ha104 hn103
    obtain ⟨w114, -, hst115, hb116, hu117, hf118⟩ := s_two (v0 := .bool (decide (sgn true (val (canon (val (powL 64) - val (canon (sgn false (val ([(u % 4294967296), ((u / 4294967296) % 4294967296)]))).natAbs)))) < 0))) (v1 := sv A109 (canon (sgn true (val (canon (val (powL 64) - val (canon (sgn false (val ([(u % 4294967296), ((u / 4294967296) % 4294967296)]))).natAbs))))).natAbs) cc110) Try.sizeOf24 rfl rfl rfl hb112
    refine st_act rfl rfl fun K119 hL120 => a_store' rfl h107 h108 hst115 (hL120 _ _ trivial ?_)
    have hr121 := hr111.far hb112 hu117 (by first | rfl | decide | simp [notK])
    have hN122 := hN113.trans hu117 (fun k hk hkb => by subst hkb; omega)
    clear hb112 hst115 K119 hL120 hN113 hr111 hu117 hf118
    refine st_nil ?_
    clear h108
    refine hK100 _ _ ?_
    clear hK100 K100
    refine wp_ret (ret_k hd106 (v := .agg #[.bool (decide (sgn true (val (canon (val (powL 64) - val (canon (sgn false (val ([(u % 4294967296), ((u / 4294967296) % 4294967296)]))).natAbs)))) < 0)), sv A109 (canon (sgn true (val (canon (val (powL 64) - val (canon (sgn false (val ([(u % 4294967296), ((u / 4294967296) % 4294967296)]))).natAbs))))).natAbs) cc110]) (res_c rfl h107 (l_two Try.isAgg24 Try.sizeOf24 hb116)) ?_)
    have hz1 : sgn true (val (canon (val (powL 64) - val (canon (sgn false (val ([(u % 4294967296), ((u / 4294967296) % 4294967296)]))).natAbs)))) = wordI u s := fromw_yes hu ht50 ht52
    exact ⟨A109, cc110, congrArg (fun z : Int => Ending.returned (Value.agg #[.bool (decide (z < 0)), sv A109 (canon z.natAbs) cc110])) hz1, Eq.mp (congrArg (fun z : Int => SRow _ .u32 A109 (canon z.natAbs) cc110) hz1) hr121, hN122⟩
  have hv123 : a17.eval (.tmp 1) = .bool false := h24.trans (congrArg Value.bool ht50)
  clear h24
  refine wp_g0 [true, true, true, true, true] [] 25
    [ve (.bool false),
     ve (.bool false),
     ve undef,
     ve undef,
     ve (.bool false)] hs21 (.eq (.eq (.eq (.eq (.eq (.nil)))))) ?_ ?_
  · skip
    refine .o1 (tk rfl rfl fun _ w hn k => ⟨_, v_move rfl (k.fx 1 hv123), rfl⟩) ?_
    refine .o1 (tk rfl rfl fun _ w hn k => ⟨_, v_move rfl (k.eq1 0 14 rfl), rfl⟩) ?_
    refine .o1 (sk rfl rfl rfl (fun _ _ _ k => k.eq1 1 15 rfl) (fun _ => rfl)) ?_
    refine .o1 (sk rfl rfl rfl (fun _ _ _ k => k.eq1 1 15 rfl) (fun _ => rfl)) ?_
    refine .o1 (tk rfl rfl fun _ w hn k => ⟨_, v_pickF rfl (k.eq1 1 15 rfl) rfl, rfl⟩) ?_
    exact .nil
  intro a124 w125 hn126 ha127
  have hs128 := ha127.size.trans hs21
  have hd129 := ha127.defers.trans hd22
  have h130 := ha127.fx 4 h25
  have h131 := ha127.fx 5 h30
  have h132 := ha127.ge 4 18 rfl
  have hb133 := hb46.new_ hn126
  have hb134 := hb40.new_ hn126
  have hr135 := hr45.new_ hn126
  have hN136 := hN47.transNew hn126
  clear hs21 hd22 h23 hv123 h25 h30 hb46 hb40 hr45 hN47 ha127 hn126
  refine st_nil ?_
  refine hK49 _ _ ?_
  clear hK49 K49
  refine wp_cond_false h132 ?_
  refine wp_skip ?_
  refine hK48 _ _ ?_
  clear hK48 K48
  refine wp_seq_k fun K137 hK137 => ?_
  refine wp_g0 [true, false] [(1, false)] 25
    [ve (.agg #[.bool (decide (sgn false (val ([(u % 4294967296), ((u / 4294967296) % 4294967296)])) < 0)), sv A27 (canon (sgn false (val ([(u % 4294967296), ((u / 4294967296) % 4294967296)]))).natAbs) cc28]),
     vt] hs128 (.eq (.tt (.nil))) ?_ ?_
  · skip
    refine .o1 (tk rfl rfl fun _ w hn k => ⟨_, v_load rfl (k.fx 5 h131) (l_two Try.isAgg24 Try.sizeOf24 (hb134.new_ hn)), rfl⟩) ?_
    refine .off ?_
    exact .nil
  intro a138 w139 hn140 ha141
  have hs142 := ha141.size.trans hs128
  have hd143 := ha141.defers.trans hd129
  have h144 := ha141.fx 4 h130
  have h145 := ha141.ge 0 24 rfl
  have hb146 := hb133.new_ hn140
  have hr147 := hr135.new_ hn140
  have hN148 := hN136.transNew hn140
  clear hs128 hd129 h130 h131 h132 hb133 hb134 hq36 hr135 hN136 ha141 hn140
  obtain ⟨w149, -, hst150, hb151, hu152, hf153⟩ := s_two (v0 := .bool (decide (sgn false (val ([(u % 4294967296), ((u / 4294967296) % 4294967296)])) < 0))) (v1 := sv A27 (canon (sgn false (val ([(u % 4294967296), ((u / 4294967296) % 4294967296)]))).natAbs) cc28) Try.sizeOf24 rfl rfl rfl hb146
  refine st_act rfl rfl fun K154 hL155 => a_store' rfl h144 h145 hst150 (hL155 _ _ trivial ?_)
  have hr156 := hr147.far hb146 hu152 (by first | rfl | decide | simp [notK])
  have hN157 := hN148.trans hu152 (fun k hk hkb => by subst hkb; omega)
  clear hb146 hst150 K154 hL155 hN148 hr147 hu152 hf153
  refine st_nil ?_
  clear h145
  refine hK137 _ _ ?_
  clear hK137 K137
  refine wp_ret (ret_k hd143 (v := .agg #[.bool (decide (sgn false (val ([(u % 4294967296), ((u / 4294967296) % 4294967296)])) < 0)), sv A27 (canon (sgn false (val ([(u % 4294967296), ((u / 4294967296) % 4294967296)]))).natAbs) cc28]) (res_c rfl h144 (l_two Try.isAgg24 Try.sizeOf24 hb151)) ?_)
  have hz1 : sgn false (val ([(u % 4294967296), ((u / 4294967296) % 4294967296)])) = wordI u s := fromw_no (.inl ht50)
  exact ⟨A27, cc28, congrArg (fun z : Int => Ending.returned (Value.agg #[.bool (decide (z < 0)), sv A27 (canon z.natAbs) cc28])) hz1, Eq.mp (congrArg (fun z : Int => SRow _ .u32 A27 (canon z.natAbs) cc28) hz1) hr156, hN157⟩
set_option maxHeartbeats 4000000 in
set_option maxRecDepth 100000 in
theorem rof_c (n : Int) (w : World) (hlo : -9223372036854775808 ≤ n) (hhi : n ≤ 9223372036854775807) : Calls Try.prog 30 #[iv n] w (RetZ n w) := by
  refine enter_abs Try.func30 rfl fun a0 hs0 hd0 hp => ?_
  have hs0 : a0.tmps.size = 20 := hs0
  have hN0 : New w w := Upd.refl _ _
  have hp0 : a0.eval (.tmp 0) = iv n := hp 0 _ rfl
  clear hp
  have hmd : 0 ≤ n % 18446744073709551616 ∧ n % 18446744073709551616 < 18446744073709551616 := by omega
  refine wp_seq_k fun K1 hK1 => ?_
  refine wp_g [true] [] [] 20
    [IsNew w 24 [.bool false, sv none ([]) 0]]
    [0] (newsCons (fun v w h => IsNew.old h) newsNil) hs0 (.nw (.nil)) ?_ (fun i h => by cases h) ?_
  · skip
    refine .o2 (step_allocN (cs := [.bool false, sv none ([]) 0]) (t := 24) rfl (noG rfl) (fun _ w hn k => rfl) (fun q _ hq hb => ⟨q, rfl, hq, hb⟩)) ?_
    exact .nil
  intro a2 w3 hn4 ha5
  have hs6 := ha5.size.trans hs0
  have hd7 := ha5.defers.trans hd0
  have h8 := ha5.fx 0 hp0
  obtain ⟨q10, h9, hq11, hb12⟩ : IsNew _ _ _ _ _ := ha5.got 0 2 rfl (by kernel_rfl)
  have hq13 := Nat.le_trans hN0.size hq11
  have hN14 := hN0.transNew hn4
  clear hs0 hd0 hp0 hq11 hN0 ha5 hn4
  refine st_nil ?_
  refine hK1 _ _ ?_
  clear hK1 K1
  refine wp_seq_k fun K15 hK15 => ?_
  refine wp_g0 [true, true, true] [] 20
    [ve (iv n),
     ve (.int .u64 (((n % 18446744073709551616).toNat : Nat) : Int)),
     ve (.int .u64 (((n % 18446744073709551616).toNat : Nat) : Int))] hs6 (.eq (.eq (.eq (.nil)))) ?_ ?_
  · skip
    refine .o1 (tk rfl rfl fun _ w hn k => ⟨_, v_move rfl (k.fx 0 h8), rfl⟩) ?_
    refine .o1 (tk rfl rfl fun _ w hn k => ⟨_, v_conv rfl (k.eq1 0 4 rfl) (n_conv (by kernel_rfl) (by kernel_rfl) (by kernel_rfl) (of_conv n)), rfl⟩) ?_
    refine .o1 (tk rfl rfl fun _ w hn k => ⟨_, v_assign rfl (k.eq1 1 5 rfl), rfl⟩) ?_
    exact .nil
  intro a16 w17 hn18 ha19
  have hs20 := ha19.size.trans hs6
  have hd21 := ha19.defers.trans hd7
  have h22 := ha19.fx 0 h8
  have h23 := ha19.fx 2 h9
  have h24 := ha19.ge 2 3 rfl
  have hb25 := hb12.new_ hn18
  have hN26 := hN14.transNew hn18
  clear hs6 hd7 h8 h9 hb12 hN14 ha19 hn18
  refine st_nil ?_
  refine hK15 _ _ ?_
  clear hK15 K15
  refine wp_seq_k fun K27 hK27 => ?_
  refine wp_seq_k fun K28 hK28 => ?_
  refine wp_g0 [true, true] [] 20
    [ve (iv n),
     ve (.bool (decide (n < 0)))] hs20 (.eq (.eq (.nil))) ?_ ?_
  · skip
    refine .o1 (tk rfl rfl fun _ w hn k => ⟨_, v_move rfl (k.fx 0 h22), rfl⟩) ?_
    refine .o1 (tk rfl rfl fun _ w hn k => ⟨_, v_bin rfl (k.eq1 0 6 rfl) rfl (fun _ => rfl) (r_lssK rfl), rfl⟩) ?_
    exact .nil
  intro a29 w30 hn31 ha32
  have hs33 := ha32.size.trans hs20
  have hd34 := ha32.defers.trans hd21
  have h35 := ha32.fx 0 h22
  have h36 := ha32.fx 2 h23
  have h37 := ha32.fx 3 h24
  have h38 := ha32.ge 1 7 rfl
  have hb39 := hb25.new_ hn31
  have hN40 := hN26.transNew hn31
  clear hs20 hd21 h22 h23 h24 hb25 hN26 ha32 hn31
  refine st_nil ?_
  refine hK28 _ _ ?_
  clear hK28 K28
  rcases Bool.eq_false_or_eq_true (decide (n < 0)) with ht41 | ht41
  · skip
    have ht41d := of_decide_eq_true ht41
    have hv42 : a29.eval (.tmp 7) = .bool true := h38.trans (congrArg Value.bool ht41)
    clear h38
    refine wp_cond_true hv42 ?_
    refine wp_g0 [true, true, false] [(2, true)] 20
      [ve (.int .u64 (((n % 18446744073709551616).toNat : Nat) : Int)),
       ve (.int .u64 (((-n).toNat : Nat) : Int)),
       vt] hs33 (.eq (.eq (.tt (.nil)))) ?_ ?_
    · skip
      refine .o1 (tk rfl rfl fun _ w hn k => ⟨_, v_move rfl (k.fx 3 h37), rfl⟩) ?_
      refine .o1 (tk rfl rfl fun _ w hn k => ⟨_, v_negU rfl (k.eq1 0 8 rfl) (of_neg hlo (of_decide_eq_true ht41)), rfl⟩) ?_
      refine .off ?_
      exact .nil
    intro a43 w44 hn45 ha46
    have hs47 := ha46.size.trans hs33
    have hd48 := ha46.defers.trans hd34
    have h49 := ha46.fx 0 h35
    have h50 := ha46.fx 2 h36
    have h51 := ha46.fx 3 h37
    have h52 := ha46.ge 1 9 rfl
    have hb53 := hb39.new_ hn45
    have hN54 := hN40.transNew hn45
    clear hs33 hd34 h35 h36 h37 hv42 hb39 hN40 ha46 hn45
    refine st_take rfl rfl (y_assign (v := .int .u64 (((-n).toNat : Nat) : Int)) rfl h52) rfl ?_
    obtain ⟨a55, ha56⟩ : ∃ a', a' = a43.put (some 3) (.int .u64 (((-n).toNat : Nat) : Int)) := ⟨_, rfl⟩
    have hs57 : a55.tmps.size = 20 := by rw [ha56, put_size]; exact hs47
    have hd58 : a55.defers = [] := by rw [ha56, put_defers]; exact hd48
    have h59 : a55.eval (.tmp 0) = iv n := by rw [ha56, put_ne _ _ _ _ (by decide)]; exact h49
    have h60 : a55.eval (.tmp 2) = pv q10 := by rw [ha56, put_ne _ _ _ _ (by decide)]; exact h50
    have h61 : a55.eval (.tmp 9) = .int .u64 (((-n).toNat : Nat) : Int) := by rw [ha56, put_ne _ _ _ _ (by decide)]; exact h52
    have h62 : a55.eval (.tmp 3) = .int .u64 (((-n).toNat : Nat) : Int) := by rw [ha56]; exact put_same _ _ _ (by rw [hs47]; decide)
    show stepsTo _ _ _ _ _ (a43.put (some 3) (.int .u64 (((-n).toNat : Nat) : Int))) _
    rw [← ha56]
    clear ha56 hs47 hd48 h49 h50 h51 h52
    refine st_nil ?_
    clear h61
    refine hK27 _ _ ?_
    clear hK27 K27
    refine wp_seq_k fun K63 hK63 => ?_
    refine wp_g0 [true, true, true, true, true, true, true, true, true, true, false] [(10, false)] 20
      [ve (iv n),
       ve (.bool true),
       ve (.int .u64 (((-n).toNat : Nat) : Int)),
       ve (.int .u64 ((((-n).toNat) % 4294967296 : Nat) : Int)),
       ve (.int .u32 ((((-n).toNat) % 4294967296 : Nat) : Int)),
       ve (.int .u64 (((-n).toNat : Nat) : Int)),
       ve (.int .u64 ((((-n).toNat) / 4294967296 : Nat) : Int)),
       ve (.int .u32 (((((-n).toNat) / 4294967296) % 4294967296 : Nat) : Int)),
       (fun (v : Value) (W : World) => ∃ (A3 : Option Addr) (c4 : Nat), v = sv A3 ([(((-n).toNat) % 4294967296), ((((-n).toNat) / 4294967296) % 4294967296)]) c4 ∧ SOwn W w44.heap.size 50 .u32 A3 ([(((-n).toNat) % 4294967296), ((((-n).toNat) / 4294967296) % 4294967296)]) c4),
       (fun (v : Value) (W : World) => ∃ (A11 : Option Addr) (c12 : Nat), v = .agg #[.bool (decide (sgn true (val ([(((-n).toNat) % 4294967296), ((((-n).toNat) / 4294967296) % 4294967296)])) < 0)), sv A11 (canon (sgn true (val ([(((-n).toNat) % 4294967296), ((((-n).toNat) / 4294967296) % 4294967296)]))).natAbs) c12] ∧ SRow W .u32 A11 (canon (sgn true (val ([(((-n).toNat) % 4294967296), ((((-n).toNat) / 4294967296) % 4294967296)]))).natAbs) c12),
       vt] hs57 (.eq (.eq (.eq (.eq (.eq (.eq (.eq (.eq (.cons (fun v W W' hn ⟨A3, c4, he, h0⟩ => ⟨A3, c4, he, h0.new_ hn⟩) (.cons (fun v W W' hn ⟨A11, c12, he, h0⟩ => ⟨A11, c12, he, h0.new_ hn⟩) (.tt (.nil)))))))))))) ?_ ?_
    · skip
      refine .o1 (tk rfl rfl fun _ w hn k => ⟨_, v_move rfl (k.fx 0 h59), rfl⟩) ?_
      refine .o1 (tk rfl rfl fun _ w hn k => ⟨_, v_bin rfl (k.eq1 0 10 rfl) rfl (fun _ => rfl) (r_lssK ht41), rfl⟩) ?_
      refine .o1 (tk rfl rfl fun _ w hn k => ⟨_, v_move rfl (k.fx 3 h62), rfl⟩) ?_
      refine .o1 (tk rfl rfl fun _ w hn k => ⟨_, v_bin rfl (k.eq1 2 12 rfl) rfl (fun _ => rfl) (n_andMask64 ((-n).toNat) (by omega)), rfl⟩) ?_
      refine .o1 (tk rfl rfl fun _ w hn k => ⟨_, v_conv rfl (k.eq1 3 13 rfl) (n_conv (by kernel_rfl) (by kernel_rfl) (by kernel_rfl) (IntWalk.u32_in _ (by omega))), rfl⟩) ?_
      refine .o1 (tk rfl rfl fun _ w hn k => ⟨_, v_move rfl (k.fx 3 h62), rfl⟩) ?_
      refine .o1 (tk rfl rfl fun _ w hn k => ⟨_, v_bin rfl (k.eq1 5 15 rfl) rfl (fun _ => rfl) (n_shr ((-n).toNat) 32 (by decide)), rfl⟩) ?_
      refine .o1 (tk rfl rfl fun _ w hn k => ⟨_, v_conv rfl (k.eq1 6 16 rfl) (n_conv (by kernel_rfl) (by kernel_rfl) (by kernel_rfl) (n_wrap32 _)), rfl⟩) ?_
      refine .o1 (tkA rfl (noG rfl) fun _ w hn k => (by
            exact x_bslice (k := .u32) (ps := [(0, .int .u32 ((((-n).toNat) % 4294967296 : Nat) : Int)), (1, .int .u32 (((((-n).toNat) / 4294967296) % 4294967296 : Nat) : Int))]) [(((-n).toNat) % 4294967296), ((((-n).toNat) / 4294967296) % 4294967296)] rfl (parts2 (k.eq1 4 14 rfl) (k.eq1 7 17 rfl)) elW rfl (by omega) (by omega) (by first | kernel_rfl | (simp only [enc, List.map_cons, List.map_nil, Int.toNat_natCast, Int.toNat_of_nonneg (by omega : (0 : Int) ≤ _)]; kernel_rfl)) fun A1 c2 W' hmo => ⟨A1, c2, rfl, (hmo.more hn.size)⟩)) ?_
      refine .o1 (tkC rfl (noG rfl) rfl fun _ w hn k => (by
            obtain ⟨A5, c6, e7, hx8⟩ : (fun (v : Value) (W : World) => ∃ (A3 : Option Addr) (c4 : Nat), v = sv A3 ([(((-n).toNat) % 4294967296), ((((-n).toNat) / 4294967296) % 4294967296)]) c4 ∧ SOwn W w44.heap.size 50 .u32 A3 ([(((-n).toNat) % 4294967296), ((((-n).toNat) / 4294967296) % 4294967296)]) c4) _ _ := k.dep 8 18 (by kernel_rfl) (by kernel_rfl)
            refine ⟨#[.bool true, sv A5 ([(((-n).toNat) % 4294967296), ((((-n).toNat) / 4294967296) % 4294967296)]) c6], _, args2 (k.eq1 1 11 rfl) e7, fun w => by kernel_rfl, rmade_c _ _ _ _ _ hx8.row (two_limbs_m _) (by first | omega | (simp only [List.length_nil, List.length_cons, List.length_set, List.length_replicate]; omega)), ?_⟩
            rintro e w' ⟨A9, c10, rfl, hmo, hm⟩
            exact ⟨_, rfl, hm, ⟨A9, c10, rfl, hmo⟩⟩)) ?_
      refine .off ?_
      exact .nil
    intro a64 w65 hn66 ha67
    have hs68 := ha67.size.trans hs57
    have hd69 := ha67.defers.trans hd58
    have h70 := ha67.fx 2 h60
    obtain ⟨A72, cc73, h71, hr74⟩ : (fun (v : Value) (W : World) => ∃ (A11 : Option Addr) (c12 : Nat), v = .agg #[.bool (decide (sgn true (val ([(((-n).toNat) % 4294967296), ((((-n).toNat) / 4294967296) % 4294967296)])) < 0)), sv A11 (canon (sgn true (val ([(((-n).toNat) % 4294967296), ((((-n).toNat) / 4294967296) % 4294967296)]))).natAbs) c12] ∧ SRow W .u32 A11 (canon (sgn true (val ([(((-n).toNat) % 4294967296), ((((-n).toNat) / 4294967296) % 4294967296)]))).natAbs) c12) _ _ := ha67.got 9 19 rfl (by kernel_rfl)
    have h71 : a64.eval (.tmp 19) = .agg #[.bool (decide (sgn true (val ([(((-n).toNat) % 4294967296), ((((-n).toNat) / 4294967296) % 4294967296)])) < 0)), sv A72 (canon (sgn true (val ([(((-n).toNat) % 4294967296), ((((-n).toNat) / 4294967296) % 4294967296)]))).natAbs) cc73] := h71
    have hb75 := hb53.new_ hn66
    have hN76 := hN54.transNew hn66
    clear hs57 hd58 h59 h60 h62 hb53 hN54 ha67 hn66
    obtain ⟨w77, -, hst78, hb79, hu80, hf81⟩ := s_two (v0 := .bool (decide (sgn true (val ([(((-n).toNat) % 4294967296), ((((-n).toNat) / 4294967296) % 4294967296)])) < 0))) (v1 := sv A72 (canon (sgn true (val ([(((-n).toNat) % 4294967296), ((((-n).toNat) / 4294967296) % 4294967296)]))).natAbs) cc73) Try.sizeOf24 rfl rfl rfl hb75
    refine st_act rfl rfl fun K82 hL83 => a_store' rfl h70 h71 hst78 (hL83 _ _ trivial ?_)
    have hr84 := hr74.far hb75 hu80 (by first | rfl | decide | simp [notK])
    have hN85 := hN76.trans hu80 (fun k hk hkb => by subst hkb; omega)
    clear hb75 hst78 K82 hL83 hN76 hr74 hu80 hf81
    refine st_nil ?_
    clear h71
    refine hK63 _ _ ?_
    clear hK63 K63
    refine wp_ret (ret_k hd69 (v := .agg #[.bool (decide (sgn true (val ([(((-n).toNat) % 4294967296), ((((-n).toNat) / 4294967296) % 4294967296)])) < 0)), sv A72 (canon (sgn true (val ([(((-n).toNat) % 4294967296), ((((-n).toNat) / 4294967296) % 4294967296)]))).natAbs) cc73]) (res_c rfl h70 (l_two Try.isAgg24 Try.sizeOf24 hb79)) ?_)
    have hz1 : sgn true (val ([(((-n).toNat) % 4294967296), ((((-n).toNat) / 4294967296) % 4294967296)])) = n := of_yes hlo ht41
    exact ⟨A72, cc73, congrArg (fun z : Int => Ending.returned (Value.agg #[.bool (decide (z < 0)), sv A72 (canon z.natAbs) cc73])) hz1, Eq.mp (congrArg (fun z : Int => SRow _ .u32 A72 (canon z.natAbs) cc73) hz1) hr84, hN85⟩
  have ht41d := of_decide_eq_false ht41
  have hv86 : a29.eval (.tmp 7) = .bool false := h38.trans (congrArg Value.bool ht41)
  clear h38
  refine wp_cond_false hv86 ?_
  refine wp_skip ?_
  refine hK27 _ _ ?_
  clear hK27 K27
  refine wp_seq_k fun K87 hK87 => ?_
  refine wp_g0 [true, true, true, true, true, true, true, true, true, true, false] [(10, false)] 20
    [ve (iv n),
     ve (.bool false),
     ve (.int .u64 (((n % 18446744073709551616).toNat : Nat) : Int)),
     ve (.int .u64 ((((n % 18446744073709551616).toNat) % 4294967296 : Nat) : Int)),
     ve (.int .u32 ((((n % 18446744073709551616).toNat) % 4294967296 : Nat) : Int)),
     ve (.int .u64 (((n % 18446744073709551616).toNat : Nat) : Int)),
     ve (.int .u64 ((((n % 18446744073709551616).toNat) / 4294967296 : Nat) : Int)),
     ve (.int .u32 (((((n % 18446744073709551616).toNat) / 4294967296) % 4294967296 : Nat) : Int)),
     (fun (v : Value) (W : World) => ∃ (A19 : Option Addr) (c20 : Nat), v = sv A19 ([(((n % 18446744073709551616).toNat) % 4294967296), ((((n % 18446744073709551616).toNat) / 4294967296) % 4294967296)]) c20 ∧ SOwn W w30.heap.size 50 .u32 A19 ([(((n % 18446744073709551616).toNat) % 4294967296), ((((n % 18446744073709551616).toNat) / 4294967296) % 4294967296)]) c20),
     (fun (v : Value) (W : World) => ∃ (A27 : Option Addr) (c28 : Nat), v = .agg #[.bool (decide (sgn false (val ([(((n % 18446744073709551616).toNat) % 4294967296), ((((n % 18446744073709551616).toNat) / 4294967296) % 4294967296)])) < 0)), sv A27 (canon (sgn false (val ([(((n % 18446744073709551616).toNat) % 4294967296), ((((n % 18446744073709551616).toNat) / 4294967296) % 4294967296)]))).natAbs) c28] ∧ SRow W .u32 A27 (canon (sgn false (val ([(((n % 18446744073709551616).toNat) % 4294967296), ((((n % 18446744073709551616).toNat) / 4294967296) % 4294967296)]))).natAbs) c28),
     vt] hs33 (.eq (.eq (.eq (.eq (.eq (.eq (.eq (.eq (.cons (fun v W W' hn ⟨A19, c20, he, h0⟩ => ⟨A19, c20, he, h0.new_ hn⟩) (.cons (fun v W W' hn ⟨A27, c28, he, h0⟩ => ⟨A27, c28, he, h0.new_ hn⟩) (.tt (.nil)))))))))))) ?_ ?_
  · skip
    refine .o1 (tk rfl rfl fun _ w hn k => ⟨_, v_move rfl (k.fx 0 h35), rfl⟩) ?_
    refine .o1 (tk rfl rfl fun _ w hn k => ⟨_, v_bin rfl (k.eq1 0 10 rfl) rfl (fun _ => rfl) (r_lssK ht41), rfl⟩) ?_
    refine .o1 (tk rfl rfl fun _ w hn k => ⟨_, v_move rfl (k.fx 3 h37), rfl⟩) ?_
    refine .o1 (tk rfl rfl fun _ w hn k => ⟨_, v_bin rfl (k.eq1 2 12 rfl) rfl (fun _ => rfl) (n_andMask64 ((n % 18446744073709551616).toNat) (by omega)), rfl⟩) ?_
    refine .o1 (tk rfl rfl fun _ w hn k => ⟨_, v_conv rfl (k.eq1 3 13 rfl) (n_conv (by kernel_rfl) (by kernel_rfl) (by kernel_rfl) (IntWalk.u32_in _ (by omega))), rfl⟩) ?_
    refine .o1 (tk rfl rfl fun _ w hn k => ⟨_, v_move rfl (k.fx 3 h37), rfl⟩) ?_
    refine .o1 (tk rfl rfl fun _ w hn k => ⟨_, v_bin rfl (k.eq1 5 15 rfl) rfl (fun _ => rfl) (n_shr ((n % 18446744073709551616).toNat) 32 (by decide)), rfl⟩) ?_
    refine .o1 (tk rfl rfl fun _ w hn k => ⟨_, v_conv rfl (k.eq1 6 16 rfl) (n_conv (by kernel_rfl) (by kernel_rfl) (by kernel_rfl) (n_wrap32 _)), rfl⟩) ?_
    refine .o1 (tkA rfl (noG rfl) fun _ w hn k => (by
          exact x_bslice (k := .u32) (ps := [(0, .int .u32 ((((n % 18446744073709551616).toNat) % 4294967296 : Nat) : Int)), (1, .int .u32 (((((n % 18446744073709551616).toNat) / 4294967296) % 4294967296 : Nat) : Int))]) [(((n % 18446744073709551616).toNat) % 4294967296), ((((n % 18446744073709551616).toNat) / 4294967296) % 4294967296)] rfl (parts2 (k.eq1 4 14 rfl) (k.eq1 7 17 rfl)) elW rfl (by omega) (by omega) (by first | kernel_rfl | (simp only [enc, List.map_cons, List.map_nil, Int.toNat_natCast, Int.toNat_of_nonneg (by omega : (0 : Int) ≤ _)]; kernel_rfl)) fun A17 c18 W' hmo => ⟨A17, c18, rfl, (hmo.more hn.size)⟩)) ?_
    refine .o1 (tkC rfl (noG rfl) rfl fun _ w hn k => (by
          obtain ⟨A21, c22, e23, hx24⟩ : (fun (v : Value) (W : World) => ∃ (A19 : Option Addr) (c20 : Nat), v = sv A19 ([(((n % 18446744073709551616).toNat) % 4294967296), ((((n % 18446744073709551616).toNat) / 4294967296) % 4294967296)]) c20 ∧ SOwn W w30.heap.size 50 .u32 A19 ([(((n % 18446744073709551616).toNat) % 4294967296), ((((n % 18446744073709551616).toNat) / 4294967296) % 4294967296)]) c20) _ _ := k.dep 8 18 (by kernel_rfl) (by kernel_rfl)
          refine ⟨#[.bool false, sv A21 ([(((n % 18446744073709551616).toNat) % 4294967296), ((((n % 18446744073709551616).toNat) / 4294967296) % 4294967296)]) c22], _, args2 (k.eq1 1 11 rfl) e23, fun w => by kernel_rfl, rmade_c _ _ _ _ _ hx24.row (two_limbs_m _) (by first | omega | (simp only [List.length_nil, List.length_cons, List.length_set, List.length_replicate]; omega)), ?_⟩
          rintro e w' ⟨A25, c26, rfl, hmo, hm⟩
          exact ⟨_, rfl, hm, ⟨A25, c26, rfl, hmo⟩⟩)) ?_
    refine .off ?_
    exact .nil
  intro a88 w89 hn90 ha91
  have hs92 := ha91.size.trans hs33
  have hd93 := ha91.defers.trans hd34
  have h94 := ha91.fx 2 h36
  obtain ⟨A96, cc97, h95, hr98⟩ : (fun (v : Value) (W : World) => ∃ (A27 : Option Addr) (c28 : Nat), v = .agg #[.bool (decide (sgn false (val ([(((n % 18446744073709551616).toNat) % 4294967296), ((((n % 18446744073709551616).toNat) / 4294967296) % 4294967296)])) < 0)), sv A27 (canon (sgn false (val ([(((n % 18446744073709551616).toNat) % 4294967296), ((((n % 18446744073709551616).toNat) / 4294967296) % 4294967296)]))).natAbs) c28] ∧ SRow W .u32 A27 (canon (sgn false (val ([(((n % 18446744073709551616).toNat) % 4294967296), ((((n % 18446744073709551616).toNat) / 4294967296) % 4294967296)]))).natAbs) c28) _ _ := ha91.got 9 19 rfl (by kernel_rfl)
  have h95 : a88.eval (.tmp 19) = .agg #[.bool (decide (sgn false (val ([(((n % 18446744073709551616).toNat) % 4294967296), ((((n % 18446744073709551616).toNat) / 4294967296) % 4294967296)])) < 0)), sv A96 (canon (sgn false (val ([(((n % 18446744073709551616).toNat) % 4294967296), ((((n % 18446744073709551616).toNat) / 4294967296) % 4294967296)]))).natAbs) cc97] := h95
  have hb99 := hb39.new_ hn90
  have hN100 := hN40.transNew hn90
  clear hs33 hd34 h35 h36 h37 hv86 hb39 hN40 ha91 hn90
  obtain ⟨w101, -, hst102, hb103, hu104, hf105⟩ := s_two (v0 := .bool (decide (sgn false (val ([(((n % 18446744073709551616).toNat) % 4294967296), ((((n % 18446744073709551616).toNat) / 4294967296) % 4294967296)])) < 0))) (v1 := sv A96 (canon (sgn false (val ([(((n % 18446744073709551616).toNat) % 4294967296), ((((n % 18446744073709551616).toNat) / 4294967296) % 4294967296)]))).natAbs) cc97) Try.sizeOf24 rfl rfl rfl hb99
  refine st_act rfl rfl fun K106 hL107 => a_store' rfl h94 h95 hst102 (hL107 _ _ trivial ?_)
  have hr108 := hr98.far hb99 hu104 (by first | rfl | decide | simp [notK])
  have hN109 := hN100.trans hu104 (fun k hk hkb => by subst hkb; omega)
  clear hb99 hst102 K106 hL107 hN100 hr98 hu104 hf105
  refine st_nil ?_
  clear h95
  refine hK87 _ _ ?_
  clear hK87 K87
  refine wp_ret (ret_k hd93 (v := .agg #[.bool (decide (sgn false (val ([(((n % 18446744073709551616).toNat) % 4294967296), ((((n % 18446744073709551616).toNat) / 4294967296) % 4294967296)])) < 0)), sv A96 (canon (sgn false (val ([(((n % 18446744073709551616).toNat) % 4294967296), ((((n % 18446744073709551616).toNat) / 4294967296) % 4294967296)]))).natAbs) cc97]) (res_c rfl h94 (l_two Try.isAgg24 Try.sizeOf24 hb103)) ?_)
  have hz1 : sgn false (val ([(((n % 18446744073709551616).toNat) % 4294967296), ((((n % 18446744073709551616).toNat) / 4294967296) % 4294967296)])) = n := of_no hhi ht41
  exact ⟨A96, cc97, congrArg (fun z : Int => Ending.returned (Value.agg #[.bool (decide (z < 0)), sv A96 (canon z.natAbs) cc97])) hz1, Eq.mp (congrArg (fun z : Int => SRow _ .u32 A96 (canon z.natAbs) cc97) hz1) hr108, hN109⟩
end Go.Proofs.Ytfhflpchfgkgcaa
