/- Package renref2: texts; BigTexts: walk. -/
import Derived.Test.YtfhflpchfgkgcaaRefW
import Derived.Test.YtfhflpchfgkgcaaStr
import Derived.Test.YtfhflpchfgkgcaaBigS
import Derived.Test.YtfhflpchfgkgcaaBigV
namespace Go.Proofs.Ytfhflpchfgkgcaa
open Go.RowKit
set_option linter.unusedSimpArgs false
set_option linter.unusedVariables false
theorem limbs_10 : Limbs [10] := Limbs.cons (by omega) Limbs.nil
theorem ten_pos : 0 < val [10] := by decide
def lettersN (n : Nat) : List Nat := ((digs n).map fun d => 48 + d).reverse
theorem lettersN_pos {n : Nat} (h : 0 < n) : lettersN n = lettersN (n / 10) ++ [48 + n % 10] := by
  unfold lettersN
  rw [digs_pos h]; simp
theorem lettersN_zero : lettersN 0 = [] := by simp [lettersN, digs_zero]
theorem txt_step {n : Nat} {N t : List Nat} (h : 0 < n) (ht : N = lettersN n ++ t) : N = lettersN (n / 10) ++ ((48 + n % 10) :: t) := by
  rw [ht, lettersN_pos h]; simp
theorem txt_len {n : Nat} {t : List Nat} (h : 0 < n) (hl : t.length + (digs n).length ≤ 78) : ((48 + n % 10) :: t).length + (digs (n / 10)).length ≤ 78 := by
  rw [digs_pos h, List.length_cons] at hl
  rw [List.length_cons]; omega
theorem canon_small {d : Nat} (h : d < 4294967296) : (canon d).getD 0 0 = d := by
  rcases Nat.eq_zero_or_pos d with rfl | h0
  · rw [canon_zero]; rfl
  · rw [canon_pos h0]; show d % 4294967296 = d; omega
theorem canon_pos_of {n : Nat} (h : decide (((canon n).length : Int) ≤ 0) = false) : 0 < n := by
  have h1 := of_decide_eq_false h
  rcases Nat.eq_zero_or_pos n with rfl | h2
  · rw [canon_zero] at h1; simp at h1
  · exact h2
theorem canon_zero_of {n : Nat} (h : decide (((canon n).length : Int) ≤ 0) = true) : n = 0 := by
  have h1 := of_decide_eq_true h
  exact canon_nil.1 (List.eq_nil_of_length_eq_zero (by omega))
theorem textI_N (z : Int) : strOfNums (textI z) = if z = 0 then strN [48] else strN ((if z < 0 then [45] else []) ++ lettersN z.natAbs) := by
  unfold textI
  split
  · rfl
  · rw [← strN_nums]
    congr 1
    unfold lettersN letter
    split <;> simp
theorem txt_zero {z : Int} {n : Nat} {t : List Nat} (hn : decide (((canon n).length : Int) ≤ 0) = true) (h : strEq (strN t) ⟨#[]⟩ = true) (ht : lettersN z.natAbs = lettersN n ++ t) : ⟨#[48]⟩ = strOfNums (textI z) := by
  rw [strN_nil] at h
  have h1 := of_decide_eq_true h
  rw [canon_zero_of hn, lettersN_zero, h1] at ht
  have hz : z = 0 := by
    rcases Nat.eq_zero_or_pos z.natAbs with h2 | h2
    · omega
    · rw [lettersN_pos h2] at ht; simp at ht
  rw [hz]; rfl
theorem txt_nz {z : Int} {n : Nat} {t : List Nat} (hn : decide (((canon n).length : Int) ≤ 0) = true) (h : strEq (strN t) ⟨#[]⟩ = false) (ht : lettersN z.natAbs = lettersN n ++ t) : z ≠ 0 ∧ lettersN z.natAbs = t := by
  rw [strN_nil] at h
  have h1 := of_decide_eq_false h
  rw [canon_zero_of hn, lettersN_zero, List.nil_append] at ht
  refine ⟨fun hz => ?_, ht⟩
  rw [hz] at ht
  exact h1 (ht.symm.trans lettersN_zero)
theorem txt_neg {z : Int} {n : Nat} {t : List Nat} (hn : decide (((canon n).length : Int) ≤ 0) = true) (h : strEq (strN t) ⟨#[]⟩ = false) (hs : decide (z < 0) = true) (ht : lettersN z.natAbs = lettersN n ++ t) : ⟨#[45]⟩ ++ strN t = strOfNums (textI z) := by
  obtain ⟨h1, h2⟩ := txt_nz hn h ht
  rw [textI_N, if_neg h1, if_pos (of_decide_eq_true hs), h2, ← strN_app]; rfl
theorem txt_pos {z : Int} {n : Nat} {t : List Nat} (hn : decide (((canon n).length : Int) ≤ 0) = true) (h : strEq (strN t) ⟨#[]⟩ = false) (hs : decide (z < 0) = false) (ht : lettersN z.natAbs = lettersN n ++ t) : strN t = strOfNums (textI z) := by
  obtain ⟨h1, h2⟩ := txt_nz hn h ht
  rw [textI_N, if_neg h1, if_neg (of_decide_eq_false hs), h2]; rfl
set_option maxHeartbeats 8000000 in
set_option maxRecDepth 100000 in
theorem rtext_c (b : Bool) (A : Option Addr) (m : List Nat) (c : Nat) (w : World) (hr : SRow w .u32 A m c) (hl : Limbs m) : Calls Try.prog 19 #[.agg #[.bool b, sv A m c]] w (IsRet (.string (strOfNums (textI (goodI b m)))) w) := by
  refine enter_abs Try.func19 rfl fun a0 hs0 hd0 hp => ?_
  have hs0 : a0.tmps.size = 39 := hs0
  have hN0 : New w w := Upd.refl _ _
  have hp0 : a0.eval (.tmp 0) = .agg #[.bool b, sv A m c] := hp 0 _ rfl
  clear hp
  refine wp_seq_k fun K1 hK1 => ?_
  refine wp_g [true, true] [] [] 39
    [IsNew w 24 [.bool b, sv A m c],
     ve (.string ⟨#[]⟩)]
    [0] (newsCons (fun v w h => IsNew.old h) newsNil) hs0 (.nw (.eq (.nil))) ?_ (fun i h => by cases h) ?_
  · skip
    refine .o2 (step_allocN (cs := [.bool b, sv A m c]) (t := 24) rfl (noG rfl) (fun _ w hn k => v_box rfl (k.fx 0 hp0) (fun w => rfl)) (fun q _ hq hb => ⟨q, rfl, hq, hb⟩)) ?_
    refine .o1 (tk rfl rfl fun _ w hn k => ⟨_, v_assign rfl rfl, rfl⟩) ?_
    exact .nil
  intro a2 w3 hn4 ha5
  have hs6 := ha5.size.trans hs0
  have hd7 := ha5.defers.trans hd0
  obtain ⟨q9, h8, hq10, hb11⟩ : IsNew _ _ _ _ _ := ha5.got 0 1 rfl (by kernel_rfl)
  have hq12 := Nat.le_trans hN0.size hq10
  have hN13 := hN0.transNew hn4
  clear hs0 hd0 hp0 hq10 hN0 ha5 hn4
  refine st_nil ?_
  refine hK1 _ _ ?_
  clear hK1 K1
  refine wp_seq_k fun K14 hK14 => ?_
  refine wp_g [true, true, true, false] [] [(3, false)] 39
    [ve (.agg #[.bool b, sv A m c]),
     (fun (v : Value) (W : World) => ∃ (A3 : Option Addr) (c4 : Nat), v = .agg #[.bool (decide (goodI b m < 0)), sv A3 (canon (goodI b m).natAbs) c4] ∧ SRow W .u32 A3 (canon (goodI b m).natAbs) c4),
     IsNew w3 24 [.bool false, sv none ([]) 0],
     vt]
    [2] (newsCons (fun v w h => IsNew.old h) newsNil) hs6 (.eq (.cons (fun v W W' hn ⟨A3, c4, he, h0⟩ => ⟨A3, c4, he, h0.new_ hn⟩) (.nw (.tt (.nil))))) ?_ (fun i h => by cases h) ?_
  · skip
    refine .o1 (tk rfl rfl fun _ w hn k => ⟨_, v_load rfl (k.fx 1 h8) (l_two Try.isAgg24 Try.sizeOf24 (hb11.new_ hn)), rfl⟩) ?_
    refine .o1 (tkC rfl (noG rfl) rfl fun _ w hn k => (by
          refine ⟨#[.agg #[.bool b, sv A m c]], _, args1 (k.eq1 0 8 rfl), fun w => by kernel_rfl, rgood_c _ _ _ _ _ (hr.new_ (hN13.transNew hn)) hl, ?_⟩
          rintro e w' ⟨A1, c2, rfl, hmo, hm⟩
          exact ⟨_, rfl, hm, ⟨A1, c2, rfl, hmo⟩⟩)) ?_
    refine .o2 (step_allocN (cs := [.bool false, sv none ([]) 0]) (t := 24) rfl (noG rfl) (fun _ w hn k => rfl) (fun q _ hq hb => ⟨q, rfl, hq, hb⟩)) ?_
    refine .off ?_
    exact .nil
  intro a15 w16 hn17 ha18
  have hs19 := ha18.size.trans hs6
  have hd20 := ha18.defers.trans hd7
  obtain ⟨A22, cc23, h21, hr24⟩ : (fun (v : Value) (W : World) => ∃ (A3 : Option Addr) (c4 : Nat), v = .agg #[.bool (decide (goodI b m < 0)), sv A3 (canon (goodI b m).natAbs) c4] ∧ SRow W .u32 A3 (canon (goodI b m).natAbs) c4) _ _ := ha18.got 1 9 rfl (by kernel_rfl)
  have h21 : a15.eval (.tmp 9) = .agg #[.bool (decide (goodI b m < 0)), sv A22 (canon (goodI b m).natAbs) cc23] := h21
  obtain ⟨q26, h25, hq27, hb28⟩ : IsNew _ _ _ _ _ := ha18.got 2 3 rfl (by kernel_rfl)
  have hq29 := Nat.le_trans hN13.size hq27
  have hN30 := hN13.transNew hn17
  clear hs6 hd7 h8 hb11 hq12 hq27 hN13 ha18 hn17
  obtain ⟨w31, -, hst32, hb33, hu34, hf35⟩ := s_two (v0 := .bool (decide (goodI b m < 0))) (v1 := sv A22 (canon (goodI b m).natAbs) cc23) Try.sizeOf24 rfl rfl rfl hb28
  refine st_act rfl rfl fun K36 hL37 => a_store' rfl h25 h21 hst32 (hL37 _ _ trivial ?_)
  have hr38 := hr24.far hb28 hu34 (by first | rfl | decide | simp [notK])
  have hN39 := hN30.trans hu34 (fun k hk hkb => by subst hkb; omega)
  clear hb28 hst32 K36 hL37 hN30 hr24 hu34 hf35
  refine st_nil ?_
  clear h21
  refine hK14 _ _ ?_
  clear hK14 K14
  refine wp_seq_k fun K40 hK40 => ?_
  refine wp_g0 [true] [] 39
    [ve (.string ⟨#[]⟩)] hs19 (.eq (.nil)) ?_ ?_
  · skip
    refine .o1 (tk rfl rfl fun _ w hn k => ⟨_, v_assign rfl rfl, rfl⟩) ?_
    exact .nil
  intro a41 w42 hn43 ha44
  have hs45 := ha44.size.trans hs19
  have hd46 := ha44.defers.trans hd20
  have h47 := ha44.fx 3 h25
  have h48 := ha44.ge 0 4 rfl
  have hb49 := hb33.new_ hn43
  have hr50 := hr38.new_ hn43
  have hN51 := hN39.transNew hn43
  clear hs19 hd20 h25 hb33 hr38 hN39 ha44 hn43
  refine st_nil ?_
  refine hK40 _ _ ?_
  clear hK40 K40
  refine wp_seq_k fun K52 hK52 => ?_
  refine wp_g0 [true, true, true] [] 39
    [ve (.pointer (some ⟨q26, 1, none⟩)),
     ve (sv A22 (canon (goodI b m).natAbs) cc23),
     ve (sv A22 (canon (goodI b m).natAbs) cc23)] hs45 (.eq (.eq (.eq (.nil)))) ?_ ?_
  · skip
    refine .o1 (tk rfl rfl fun _ w hn k => ⟨_, v_field rfl (k.fx 3 h47) (fun w => rfl), rfl⟩) ?_
    refine .o1 (tk rfl rfl fun _ w hn k => ⟨_, v_load rfl (k.eq1 0 10 rfl) (l_one Try.isAgg22 ((hb49.new_ hn).cell 1)), rfl⟩) ?_
    refine .o1 (tk rfl rfl fun _ w hn k => ⟨_, v_assign rfl (k.eq1 1 11 rfl), rfl⟩) ?_
    exact .nil
  intro a53 w54 hn55 ha56
  have hs57 := ha56.size.trans hs45
  have hd58 := ha56.defers.trans hd46
  have h59 := ha56.fx 3 h47
  have h60 := ha56.fx 4 h48
  have h61 := ha56.ge 2 5 rfl
  have hb62 := hb49.new_ hn55
  have hr63 := hr50.new_ hn55
  have hN64 := hN51.transNew hn55
  clear hs45 hd46 h47 h48 hb49 hr50 hN51 ha56 hn55
  refine st_nil ?_
  refine hK52 _ _ ?_
  clear hK52 K52
  refine wp_seq_k fun K65 hK65 => ?_
  refine wp_block ?_
  refine wp_loopX (fun (mm : Nat) (aa : Act) (ww : World) => ∃ (n : Nat) (t : List Nat) (A1 : Option Addr) (c1 : Nat), mm = n ∧ aa.tmps.size = 39 ∧ aa.defers = [] ∧ New w ww ∧ aa.eval (.tmp 4) = .string (strN t) ∧ aa.eval (.tmp 5) = sv A1 (canon n) c1 ∧ aa.eval (.tmp 3) = pv q26 ∧ Blk ww q26 24 [.bool (decide (goodI b m < 0)), sv A22 (canon (goodI b m).natAbs) cc23] ∧ SRow ww .u32 A1 (canon n) c1 ∧ SRow ww .u32 A22 (canon (goodI b m).natAbs) cc23 ∧ (lettersN (goodI b m).natAbs = lettersN n ++ t) ∧ (t.length + (digs n).length ≤ 78) ∧ (n < 2 ^ 256)) (fun mm => mm) ⟨_, ⟨(goodI b m).natAbs, [], A22, cc23, rfl, hs57, hd58, hN64, h60, h61, h59, hb62, hr63, hr63, (by simp), (by simpa using digs_big (good_lt hl)), (good_lt hl)⟩⟩ ?_
  clear hs57 hd58 hN64 h59 h60 h61 hb62 hr63
  rintro mm a66 w67 ⟨n, t, A1, c1, hmm, hs68, hd69, hN70, h71, h72, h73, hb74, hr75, hr76, htx, hlen, hnb⟩
  refine wp_seq_k fun K77 hK77 => ?_
  refine wp_seq_k fun K78 hK78 => ?_
  rcases Bool.eq_false_or_eq_true (decide (((canon n).length : Int) ≤ 0)) with ht79 | ht79
  · skip
    have ht79d := of_decide_eq_true ht79
    refine wp_g0 [true, true, true] [] 39
      [ve (sv A1 (canon n) c1),
       ve (iv ((canon n).length : Int)),
       ve (.bool false)] hs68 (.eq (.eq (.eq (.nil)))) ?_ ?_
    · skip
      refine .o1 (tk rfl rfl fun _ w hn k => ⟨_, v_move rfl (k.fx 5 h72), rfl⟩) ?_
      refine .o1 (tk rfl rfl fun _ w hn k => ⟨_, v_lenR rfl elW (k.eq1 0 12 rfl), rfl⟩) ?_
      refine .o1 (tk rfl rfl fun _ w hn k => ⟨_, v_bin rfl (k.eq1 1 13 rfl) rfl (fun _ => rfl) (r_gtrK ht79), rfl⟩) ?_
      exact .nil
    intro a80 w81 hn82 ha83
    have hs84 := ha83.size.trans hs68
    have hd85 := ha83.defers.trans hd69
    have h86 := ha83.fx 4 h71
    have h87 := ha83.fx 5 h72
    have h88 := ha83.fx 3 h73
    have h89 := ha83.ge 2 14 rfl
    have hb90 := hb74.new_ hn82
    have hr91 := hr75.new_ hn82
    have hr92 := hr76.new_ hn82
    have hN93 := hN70.transNew hn82
    clear hs68 hd69 h71 h72 h73 hb74 hr75 hr76 hN70 ha83 hn82
    refine st_nil ?_
    refine hK78 _ _ ?_
    clear hK78 K78
    refine wp_cond_false h89 ?_
    refine wp_exit ?_
    refine hK65 _ _ ?_
    clear hK65 K65 hK77 K77
    refine wp_seq_k fun K94 hK94 => ?_
    refine wp_block ?_
    refine wp_seq_k fun K95 hK95 => ?_
    refine wp_g0 [true, true, true] [] 39
      [ve (.string (strN t)),
       ve (.bool (strEq (strN t) ⟨#[]⟩)),
       ve (.bool (strEq (strN t) ⟨#[]⟩))] hs84 (.eq (.eq (.eq (.nil)))) ?_ ?_
    · skip
      refine .o1 (tk rfl rfl fun _ w hn k => ⟨_, v_move rfl (k.fx 4 h86), rfl⟩) ?_
      refine .o1 (tk rfl rfl fun _ w hn k => ⟨_, v_bin rfl (k.eq1 0 31 rfl) rfl (fun _ => rfl) (r_eqlS rfl), rfl⟩) ?_
      refine .o1 (tk rfl rfl fun _ w hn k => ⟨_, v_assign rfl (k.eq1 1 32 rfl), rfl⟩) ?_
      exact .nil
    intro a96 w97 hn98 ha99
    have hs100 := ha99.size.trans hs84
    have hd101 := ha99.defers.trans hd85
    have h102 := ha99.fx 4 h86
    have h103 := ha99.fx 3 h88
    have h104 := ha99.ge 2 30 rfl
    have hb105 := hb90.new_ hn98
    have hr106 := hr92.new_ hn98
    have hN107 := hN93.transNew hn98
    clear hs84 hd85 h86 h87 h88 h89 hb90 hr91 hr92 hN93 ha99 hn98
    refine st_nil ?_
    refine hK95 _ _ ?_
    clear hK95 K95
    rcases Bool.eq_false_or_eq_true (strEq (strN t) ⟨#[]⟩) with ht108 | ht108
    · skip
      have hv109 : a96.eval (.tmp 30) = .bool true := h104.trans (congrArg Value.bool ht108)
      clear h104
      refine wp_cond_true hv109 ?_
      refine wp_seq_k fun K110 hK110 => ?_
      refine wp_g0 [true] [] 39
        [ve (.string ⟨#[48]⟩)] hs100 (.eq (.nil)) ?_ ?_
      · skip
        refine .o1 (tk rfl rfl fun _ w hn k => ⟨_, v_assign rfl rfl, rfl⟩) ?_
        exact .nil
      intro a111 w112 hn113 ha114
      have hs115 := ha114.size.trans hs100
      have hd116 := ha114.defers.trans hd101
      have h117 := ha114.ge 0 2 rfl
      have hN118 := hN107.transNew hn113
      clear hs100 hd101 h102 h103 hv109 hb105 hq29 hr106 hN107 ha114 hn113
      refine st_nil ?_
      refine hK110 _ _ ?_
      clear hK110 K110
      refine wp_ret (ret_k hd116 (v := .string ⟨#[48]⟩) (res_t rfl h117 _) ?_)
      exact ⟨congrArg (fun x => Ending.returned (.string x)) (txt_zero ht79 ht108 htx), hN118⟩
    have hv119 : a96.eval (.tmp 30) = .bool false := h104.trans (congrArg Value.bool ht108)
    clear h104
    refine wp_cond_false hv119 ?_
    refine wp_seq_k fun K120 hK120 => ?_
    refine wp_g0 [true, true, true] [] 39
      [ve (pv q26),
       ve (.bool (decide (goodI b m < 0))),
       ve (.bool (decide (goodI b m < 0)))] hs100 (.eq (.eq (.eq (.nil)))) ?_ ?_
    · skip
      refine .o1 (tk rfl rfl fun _ w hn k => ⟨_, v_field rfl (k.fx 3 h103) (fun w => rfl), rfl⟩) ?_
      refine .o1 (tk rfl rfl fun _ w hn k => ⟨_, v_load rfl (k.eq1 0 34 rfl) (l_one Try.isAgg4 ((hb105.new_ hn).cell 0)), rfl⟩) ?_
      refine .o1 (tk rfl rfl fun _ w hn k => ⟨_, v_assign rfl (k.eq1 1 35 rfl), rfl⟩) ?_
      exact .nil
    intro a121 w122 hn123 ha124
    have hs125 := ha124.size.trans hs100
    have hd126 := ha124.defers.trans hd101
    have h127 := ha124.fx 4 h102
    have h128 := ha124.ge 2 33 rfl
    have hN129 := hN107.transNew hn123
    clear hs100 hd101 h102 h103 hv119 hb105 hq29 hr106 hN107 ha124 hn123
    refine st_nil ?_
    refine hK120 _ _ ?_
    clear hK120 K120
    rcases Bool.eq_false_or_eq_true (decide (goodI b m < 0)) with ht130 | ht130
    · skip
      have ht130d := of_decide_eq_true ht130
      have hv131 : a121.eval (.tmp 33) = .bool true := h128.trans (congrArg Value.bool ht130)
      clear h128
      refine wp_cond_true hv131 ?_
      refine wp_seq_k fun K132 hK132 => ?_
      have hsz : (strN t).size ≤ 78 := by rw [strN_size]; omega
      have hs1 : (⟨#[45]⟩ : ByteArray).size = 1 := rfl
      refine wp_g0 [true, true, true] [] 39
        [ve (.string (strN t)),
         ve (.string (⟨#[45]⟩ ++ (strN t))),
         ve (.string (⟨#[45]⟩ ++ (strN t)))] hs125 (.eq (.eq (.eq (.nil)))) ?_ ?_
      · skip
        refine .o1 (tk rfl rfl fun _ w hn k => ⟨_, v_move rfl (k.fx 4 h127), rfl⟩) ?_
        refine .o1 (tk rfl rfl fun _ w hn k => ⟨_, v_adds rfl rfl (k.eq1 0 36 rfl) (by first | omega | (simp only [strN_size, List.length_cons, List.length_nil] at *; omega)), rfl⟩) ?_
        refine .o1 (tk rfl rfl fun _ w hn k => ⟨_, v_assign rfl (k.eq1 1 37 rfl), rfl⟩) ?_
        exact .nil
      intro a133 w134 hn135 ha136
      have hs137 := ha136.size.trans hs125
      have hd138 := ha136.defers.trans hd126
      have h139 := ha136.ge 2 2 rfl
      have hN140 := hN129.transNew hn135
      clear hs125 hd126 h127 hv131 hN129 ha136 hn135
      refine st_nil ?_
      refine hK132 _ _ ?_
      clear hK132 K132
      refine wp_ret (ret_k hd138 (v := .string (⟨#[45]⟩ ++ (strN t))) (res_t rfl h139 _) ?_)
      exact ⟨congrArg (fun x => Ending.returned (.string x)) (txt_neg ht79 ht108 ht130 htx), hN140⟩
    have ht130d := of_decide_eq_false ht130
    have hv141 : a121.eval (.tmp 33) = .bool false := h128.trans (congrArg Value.bool ht130)
    clear h128
    refine wp_cond_false hv141 ?_
    refine wp_skip ?_
    refine hK94 _ _ ?_
    clear hK94 K94
    refine wp_seq_k fun K142 hK142 => ?_
    refine wp_g0 [true, true] [] 39
      [ve (.string (strN t)),
       ve (.string (strN t))] hs125 (.eq (.eq (.nil))) ?_ ?_
    · skip
      refine .o1 (tk rfl rfl fun _ w hn k => ⟨_, v_move rfl (k.fx 4 h127), rfl⟩) ?_
      refine .o1 (tk rfl rfl fun _ w hn k => ⟨_, v_assign rfl (k.eq1 0 38 rfl), rfl⟩) ?_
      exact .nil
    intro a143 w144 hn145 ha146
    have hs147 := ha146.size.trans hs125
    have hd148 := ha146.defers.trans hd126
    have h149 := ha146.ge 1 2 rfl
    have hN150 := hN129.transNew hn145
    clear hs125 hd126 h127 hv141 hN129 ha146 hn145
    refine st_nil ?_
    refine hK142 _ _ ?_
    clear hK142 K142
    refine wp_ret (ret_k hd148 (v := .string (strN t)) (res_t rfl h149 _) ?_)
    exact ⟨congrArg (fun x => Ending.returned (.string x)) (txt_pos ht79 ht108 ht130 htx), hN150⟩
  have ht79d := of_decide_eq_false ht79
  refine wp_g0 [true, true, true] [] 39
    [ve (sv A1 (canon n) c1),
     ve (iv ((canon n).length : Int)),
     ve (.bool true)] hs68 (.eq (.eq (.eq (.nil)))) ?_ ?_
  · skip
    refine .o1 (tk rfl rfl fun _ w hn k => ⟨_, v_move rfl (k.fx 5 h72), rfl⟩) ?_
    refine .o1 (tk rfl rfl fun _ w hn k => ⟨_, v_lenR rfl elW (k.eq1 0 12 rfl), rfl⟩) ?_
    refine .o1 (tk rfl rfl fun _ w hn k => ⟨_, v_bin rfl (k.eq1 1 13 rfl) rfl (fun _ => rfl) (r_gtrK ht79), rfl⟩) ?_
    exact .nil
  intro a151 w152 hn153 ha154
  have hs155 := ha154.size.trans hs68
  have hd156 := ha154.defers.trans hd69
  have h157 := ha154.fx 4 h71
  have h158 := ha154.fx 5 h72
  have h159 := ha154.fx 3 h73
  have h160 := ha154.ge 2 14 rfl
  have hb161 := hb74.new_ hn153
  have hr162 := hr75.new_ hn153
  have hr163 := hr76.new_ hn153
  have hN164 := hN70.transNew hn153
  clear hs68 hd69 h71 h72 h73 hb74 hr75 hr76 hN70 ha154 hn153
  refine st_nil ?_
  refine hK78 _ _ ?_
  clear hK78 K78
  refine wp_cond_true h160 ?_
  refine wp_skip ?_
  refine hK77 _ _ ?_
  clear hK77 K77
  refine wp_block ?_
  refine wp_seq_k fun K165 hK165 => ?_
  have hn0 : 0 < n := canon_pos_of ht79
  have hl8 := (canon_len8 n).2 hnb
  refine wp_g0 [true, true, true, true, true, true, true, true] [] 39
    [ve (sv A1 (canon n) c1),
     (fun (v : Value) (W : World) => ∃ (A11 : Option Addr) (c12 : Nat), v = sv A11 ([10]) c12 ∧ SOwn W w152.heap.size 50 .u32 A11 ([10]) c12),
     (fun (v : Value) (W : World) => ∃ (A21 : Option Addr) (c22 : Nat) (A23 : Option Addr) (c24 : Nat), v = .tuple #[sv A21 (canon (val (canon n) / val ([10]))) c22, sv A23 (canon (val (canon n) % val ([10]))) c24] ∧ SOwn W w152.heap.size 50 .u32 A21 (canon (val (canon n) / val ([10]))) c22 ∧ SOwn W w152.heap.size 50 .u32 A23 (canon (val (canon n) % val ([10]))) c24),
     (fun (v : Value) (W : World) => ∃ (A32 : Option Addr) (c33 : Nat) (A34 : Option Addr) (c35 : Nat), v = .tuple #[sv A32 (canon (val (canon n) / val ([10]))) c33, sv A34 (canon (val (canon n) % val ([10]))) c35] ∧ SOwn W w152.heap.size 50 .u32 A32 (canon (val (canon n) / val ([10]))) c33 ∧ SOwn W w152.heap.size 50 .u32 A34 (canon (val (canon n) % val ([10]))) c35),
     (fun (v : Value) (W : World) => ∃ (A43 : Option Addr) (c44 : Nat), v = sv A43 (canon (val (canon n) / val ([10]))) c44 ∧ SOwn W w152.heap.size 50 .u32 A43 (canon (val (canon n) / val ([10]))) c44),
     (fun (v : Value) (W : World) => ∃ (A52 : Option Addr) (c53 : Nat), v = sv A52 (canon (val (canon n) % val ([10]))) c53 ∧ SOwn W w152.heap.size 50 .u32 A52 (canon (val (canon n) % val ([10]))) c53),
     (fun (v : Value) (W : World) => ∃ (A58 : Option Addr) (c59 : Nat), v = sv A58 (canon (val (canon n) / val ([10]))) c59 ∧ SOwn W w152.heap.size 50 .u32 A58 (canon (val (canon n) / val ([10]))) c59),
     (fun (v : Value) (W : World) => ∃ (A64 : Option Addr) (c65 : Nat), v = sv A64 (canon (val (canon n) % val ([10]))) c65 ∧ SOwn W w152.heap.size 50 .u32 A64 (canon (val (canon n) % val ([10]))) c65)] hs155 (.eq (.cons (fun v W W' hn ⟨A11, c12, he, h0⟩ => ⟨A11, c12, he, h0.new_ hn⟩) (.cons (fun v W W' hn ⟨A21, c22, A23, c24, he, h0, h1⟩ => ⟨A21, c22, A23, c24, he, h0.new_ hn, h1.new_ hn⟩) (.cons (fun v W W' hn ⟨A32, c33, A34, c35, he, h0, h1⟩ => ⟨A32, c33, A34, c35, he, h0.new_ hn, h1.new_ hn⟩) (.cons (fun v W W' hn ⟨A43, c44, he, h0⟩ => ⟨A43, c44, he, h0.new_ hn⟩) (.cons (fun v W W' hn ⟨A52, c53, he, h0⟩ => ⟨A52, c53, he, h0.new_ hn⟩) (.cons (fun v W W' hn ⟨A58, c59, he, h0⟩ => ⟨A58, c59, he, h0.new_ hn⟩) (.cons (fun v W W' hn ⟨A64, c65, he, h0⟩ => ⟨A64, c65, he, h0.new_ hn⟩) (.nil))))))))) ?_ ?_
  · skip
    refine .o1 (tk rfl rfl fun _ w hn k => ⟨_, v_move rfl (k.fx 5 h158), rfl⟩) ?_
    refine .o1 (tkA rfl (noG rfl) fun _ w hn k => (by
          exact x_bslice (k := .u32) (ps := [(0, .int .u32 10)]) [10] rfl (parts1 rfl) elW rfl (by omega) (by omega) (by first | kernel_rfl | (simp only [enc, List.map_cons, List.map_nil, Int.toNat_natCast, Int.toNat_of_nonneg (by omega : (0 : Int) ≤ _)]; kernel_rfl)) fun A9 c10 W' hmo => ⟨A9, c10, rfl, (hmo.more hn.size)⟩)) ?_
    refine .o1 (tkC rfl (noG rfl) rfl fun _ w hn k => (by
          obtain ⟨A13, c14, e15, hx16⟩ : (fun (v : Value) (W : World) => ∃ (A11 : Option Addr) (c12 : Nat), v = sv A11 ([10]) c12 ∧ SOwn W w152.heap.size 50 .u32 A11 ([10]) c12) _ _ := k.dep 1 17 (by kernel_rfl) (by kernel_rfl)
          refine ⟨#[sv A1 (canon n) c1, sv A13 ([10]) c14], _, args2 (k.eq1 0 16 rfl) e15, fun w => by kernel_rfl, rdivide_all _ _ _ _ _ _ _ (hr162.new_ hn) hx16.row (limbs_canon _) limbs_10 (by first | omega | (simp only [List.length_nil, List.length_cons, List.length_set, List.length_replicate]; omega)) (by first | omega | (simp only [List.length_nil, List.length_cons, List.length_set, List.length_replicate]; omega)) ten_pos, ?_⟩
          rintro e w' ⟨A17, c18, A19, c20, rfl, hmo, hmp, hm⟩
          exact ⟨_, rfl, hm, ⟨A17, c18, A19, c20, rfl, (hmo.more hn.size), (hmp.more hn.size)⟩⟩)) ?_
    refine .o1 (tk rfl rfl fun _ w hn k => (by
          obtain ⟨A25, c26, A27, c28, e29, hx30, hx31⟩ : (fun (v : Value) (W : World) => ∃ (A21 : Option Addr) (c22 : Nat) (A23 : Option Addr) (c24 : Nat), v = .tuple #[sv A21 (canon (val (canon n) / val ([10]))) c22, sv A23 (canon (val (canon n) % val ([10]))) c24] ∧ SOwn W w152.heap.size 50 .u32 A21 (canon (val (canon n) / val ([10]))) c22 ∧ SOwn W w152.heap.size 50 .u32 A23 (canon (val (canon n) % val ([10]))) c24) _ _ := k.dep 2 18 (by kernel_rfl) (by kernel_rfl)
          exact ⟨_, v_move rfl e29, ⟨A25, c26, A27, c28, rfl, hx30, hx31⟩⟩)) ?_
    refine .o1 (tk rfl rfl fun _ w hn k => (by
          obtain ⟨A36, c37, A38, c39, e40, hx41, hx42⟩ : (fun (v : Value) (W : World) => ∃ (A32 : Option Addr) (c33 : Nat) (A34 : Option Addr) (c35 : Nat), v = .tuple #[sv A32 (canon (val (canon n) / val ([10]))) c33, sv A34 (canon (val (canon n) % val ([10]))) c35] ∧ SOwn W w152.heap.size 50 .u32 A32 (canon (val (canon n) / val ([10]))) c33 ∧ SOwn W w152.heap.size 50 .u32 A34 (canon (val (canon n) % val ([10]))) c35) _ _ := k.dep 3 15 (by kernel_rfl) (by kernel_rfl)
          exact ⟨_, v_extract rfl e40 rfl, ⟨A36, c37, rfl, hx41⟩⟩)) ?_
    refine .o1 (tk rfl rfl fun _ w hn k => (by
          obtain ⟨A45, c46, A47, c48, e49, hx50, hx51⟩ : (fun (v : Value) (W : World) => ∃ (A32 : Option Addr) (c33 : Nat) (A34 : Option Addr) (c35 : Nat), v = .tuple #[sv A32 (canon (val (canon n) / val ([10]))) c33, sv A34 (canon (val (canon n) % val ([10]))) c35] ∧ SOwn W w152.heap.size 50 .u32 A32 (canon (val (canon n) / val ([10]))) c33 ∧ SOwn W w152.heap.size 50 .u32 A34 (canon (val (canon n) % val ([10]))) c35) _ _ := k.dep 3 15 (by kernel_rfl) (by kernel_rfl)
          exact ⟨_, v_extract rfl e49 rfl, ⟨A47, c48, rfl, hx51⟩⟩)) ?_
    refine .o1 (tk rfl rfl fun _ w hn k => (by
          obtain ⟨A54, c55, e56, hx57⟩ : (fun (v : Value) (W : World) => ∃ (A43 : Option Addr) (c44 : Nat), v = sv A43 (canon (val (canon n) / val ([10]))) c44 ∧ SOwn W w152.heap.size 50 .u32 A43 (canon (val (canon n) / val ([10]))) c44) _ _ := k.dep 4 19 (by kernel_rfl) (by kernel_rfl)
          exact ⟨_, v_assign rfl e56, ⟨A54, c55, rfl, hx57⟩⟩)) ?_
    refine .o1 (tk rfl rfl fun _ w hn k => (by
          obtain ⟨A60, c61, e62, hx63⟩ : (fun (v : Value) (W : World) => ∃ (A52 : Option Addr) (c53 : Nat), v = sv A52 (canon (val (canon n) % val ([10]))) c53 ∧ SOwn W w152.heap.size 50 .u32 A52 (canon (val (canon n) % val ([10]))) c53) _ _ := k.dep 5 20 (by kernel_rfl) (by kernel_rfl)
          exact ⟨_, v_assign rfl e62, ⟨A60, c61, rfl, hx63⟩⟩)) ?_
    exact .nil
  intro a166 w167 hn168 ha169
  have hs170 := ha169.size.trans hs155
  have hd171 := ha169.defers.trans hd156
  have h172 := ha169.fx 4 h157
  have h173 := ha169.fx 3 h159
  obtain ⟨A175, cc176, h174, hr177⟩ : (fun (v : Value) (W : World) => ∃ (A58 : Option Addr) (c59 : Nat), v = sv A58 (canon (val (canon n) / val ([10]))) c59 ∧ SOwn W w152.heap.size 50 .u32 A58 (canon (val (canon n) / val ([10]))) c59) _ _ := ha169.got 6 6 rfl (by kernel_rfl)
  have h174 : a166.eval (.tmp 6) = sv A175 (canon (val (canon n) / val ([10]))) cc176 := h174
  obtain ⟨A179, cc180, h178, hr181⟩ : (fun (v : Value) (W : World) => ∃ (A64 : Option Addr) (c65 : Nat), v = sv A64 (canon (val (canon n) % val ([10]))) c65 ∧ SOwn W w152.heap.size 50 .u32 A64 (canon (val (canon n) % val ([10]))) c65) _ _ := ha169.got 7 7 rfl (by kernel_rfl)
  have h178 : a166.eval (.tmp 7) = sv A179 (canon (val (canon n) % val ([10]))) cc180 := h178
  have hb182 := hb161.new_ hn168
  have hr183 := hr163.new_ hn168
  have hr184 := hr177.more hN164.size
  have hr185 := hr181.more hN164.size
  have hN186 := hN164.transNew hn168
  clear hs155 hd156 h157 h158 h159 h160 hb161 hr162 hr163 hr177 hr181 hN164 ha169 hn168
  refine st_nil ?_
  have he187 : (canon (val (canon n) / val ([10]))) = (canon (n / 10)) := by rw [val_canon]; rfl
  rw [he187] at h174
  rw [he187] at hr184
  have he188 : (canon (val (canon n) % val ([10]))) = (canon (n % 10)) := by rw [val_canon]; rfl
  rw [he188] at h178
  rw [he188] at hr185
  refine hK165 _ _ ?_
  clear hK165 K165
  refine wp_seq_k fun K189 hK189 => ?_
  have hdg : (canon (n % 10)).getD 0 0 = n % 10 := canon_small (by omega)
  have hsz : (strN t).size ≤ 78 := by rw [strN_size]; omega
  refine wp_g0 [true, true, true, true, true, true, true, true, false] [(8, true)] 39
    [ve (sv A179 (canon (n % 10)) cc180),
     ve (.int .u64 (((canon (n % 10)).getD 0 0 : Nat) : Int)),
     ve (.int .u64 ((48 + ((canon (n % 10)).getD 0 0) : Nat) : Int)),
     ve (.int .u8 (((48 + ((canon (n % 10)).getD 0 0)) % 256 : Nat) : Int)),
     (fun (v : Value) (W : World) => ∃ (A68 : Option Addr) (c69 : Nat), v = sv A68 ([((48 + ((canon (n % 10)).getD 0 0)) % 256)]) c69 ∧ SOwn W w167.heap.size 5 .u8 A68 ([((48 + ((canon (n % 10)).getD 0 0)) % 256)]) c69),
     ve (.string (strN ([((48 + ((canon (n % 10)).getD 0 0)) % 256)]))),
     ve (.string (strN t)),
     ve (.string ((strN ([((48 + ((canon (n % 10)).getD 0 0)) % 256)])) ++ (strN t))),
     vt] hs170 (.eq (.eq (.eq (.eq (.cons (fun v W W' hn ⟨A68, c69, he, h0⟩ => ⟨A68, c69, he, h0.new_ hn⟩) (.eq (.eq (.eq (.tt (.nil)))))))))) ?_ ?_
  · skip
    refine .o1 (tk rfl rfl fun _ w hn k => ⟨_, v_move rfl (k.fx 7 h178), rfl⟩) ?_
    refine .o1 (ck rfl rfl rfl (fun _ w hn k => ⟨#[sv A179 (canon (n % 10)) cc180, iv 0], args2 (k.eq1 0 21 rfl) rfl, fun _ => by kernel_rfl, rword_c _ _ _ _ _ (hr185.new_ hn).row (limbs_canon _) (by omega)⟩) fun _ => rfl) ?_
    refine .o1 (tk rfl rfl fun _ w hn k => ⟨_, v_bin rfl rfl (k.eq1 1 22 rfl) (fun _ => rfl) (n_add (by omega) (IntWalk.u64_in _ (by omega))), rfl⟩) ?_
    refine .o1 (tk rfl rfl fun _ w hn k => ⟨_, v_conv rfl (k.eq1 2 23 rfl) (n_conv (by kernel_rfl) (by kernel_rfl) (by kernel_rfl) (n_wrap8 _)), rfl⟩) ?_
    refine .o1 (tkA rfl (noG rfl) fun _ w hn k => (by
          exact x_bslice (k := .u8) (ps := [(0, .int .u8 (((48 + ((canon (n % 10)).getD 0 0)) % 256 : Nat) : Int))]) [((48 + ((canon (n % 10)).getD 0 0)) % 256)] rfl (parts1 (k.eq1 3 24 rfl)) elB rfl (by omega) (by omega) (by first | kernel_rfl | (simp only [enc, List.map_cons, List.map_nil, Int.toNat_natCast, Int.toNat_of_nonneg (by omega : (0 : Int) ≤ _)]; kernel_rfl)) fun A66 c67 W' hmo => ⟨A66, c67, rfl, (hmo.more hn.size)⟩)) ?_
    refine .o1 (tk rfl rfl fun _ w hn k => (by
          obtain ⟨A70, c71, e72, hx73⟩ : (fun (v : Value) (W : World) => ∃ (A68 : Option Addr) (c69 : Nat), v = sv A68 ([((48 + ((canon (n % 10)).getD 0 0)) % 256)]) c69 ∧ SOwn W w167.heap.size 5 .u8 A68 ([((48 + ((canon (n % 10)).getD 0 0)) % 256)]) c69) _ _ := k.dep 4 25 (by kernel_rfl) (by kernel_rfl)
          exact ⟨_, v_strB (e := 5) rfl e72 hx73.row (by kernel_rfl) (by kernel_rfl) (by kernel_rfl), rfl⟩)) ?_
    refine .o1 (tk rfl rfl fun _ w hn k => ⟨_, v_move rfl (k.fx 4 h172), rfl⟩) ?_
    refine .o1 (tk rfl rfl fun _ w hn k => ⟨_, v_adds rfl (k.eq1 5 26 rfl) (k.eq1 6 27 rfl) (by first | omega | (simp only [strN_size, List.length_cons, List.length_nil] at *; omega)), rfl⟩) ?_
    refine .off ?_
    exact .nil
  intro a190 w191 hn192 ha193
  have hs194 := ha193.size.trans hs170
  have hd195 := ha193.defers.trans hd171
  have h196 := ha193.fx 4 h172
  have h197 := ha193.fx 3 h173
  have h198 := ha193.fx 6 h174
  have h199 := ha193.ge 7 28 rfl
  have hb200 := hb182.new_ hn192
  have hr201 := hr183.new_ hn192
  have hr202 := hr184.new_ hn192
  have hN203 := hN186.transNew hn192
  clear hs170 hd171 h172 h173 h174 h178 hb182 hr183 hr184 hr185 hN186 ha193 hn192
  refine st_take rfl rfl (y_assign (v := .string ((strN ([((48 + ((canon (n % 10)).getD 0 0)) % 256)])) ++ (strN t))) rfl h199) rfl ?_
  obtain ⟨a204, ha205⟩ : ∃ a', a' = a190.put (some 4) (.string ((strN ([((48 + ((canon (n % 10)).getD 0 0)) % 256)])) ++ (strN t))) := ⟨_, rfl⟩
  have hs206 : a204.tmps.size = 39 := by rw [ha205, put_size]; exact hs194
  have hd207 : a204.defers = [] := by rw [ha205, put_defers]; exact hd195
  have h208 : a204.eval (.tmp 3) = pv q26 := by rw [ha205, put_ne _ _ _ _ (by decide)]; exact h197
  have h209 : a204.eval (.tmp 6) = sv A175 (canon (n / 10)) cc176 := by rw [ha205, put_ne _ _ _ _ (by decide)]; exact h198
  have h210 : a204.eval (.tmp 28) = .string ((strN ([((48 + ((canon (n % 10)).getD 0 0)) % 256)])) ++ (strN t)) := by rw [ha205, put_ne _ _ _ _ (by decide)]; exact h199
  have h211 : a204.eval (.tmp 4) = .string ((strN ([((48 + ((canon (n % 10)).getD 0 0)) % 256)])) ++ (strN t)) := by rw [ha205]; exact put_same _ _ _ (by rw [hs194]; decide)
  show stepsTo _ _ _ _ _ (a190.put (some 4) (.string ((strN ([((48 + ((canon (n % 10)).getD 0 0)) % 256)])) ++ (strN t)))) _
  rw [← ha205]
  clear ha205 hs194 hd195 h196 h197 h198 h199
  refine st_nil ?_
  clear h210
  have h212 : a204.eval (.tmp 4) = .string (strN ((48 + n % 10) :: t)) := h211.trans (by rw [hdg, strN_app, show (48 + n % 10) % 256 = 48 + n % 10 by omega]; rfl)
  clear h211
  refine hK189 _ _ ?_
  clear hK189 K189
  refine wp_g0 [true, true] [] 39
    [ve (sv A175 (canon (n / 10)) cc176),
     ve (sv A175 (canon (n / 10)) cc176)] hs206 (.eq (.eq (.nil))) ?_ ?_
  · skip
    refine .o1 (tk rfl rfl fun _ w hn k => ⟨_, v_move rfl (k.fx 6 h209), rfl⟩) ?_
    refine .o1 (tk rfl rfl fun _ w hn k => ⟨_, v_assign rfl (k.eq1 0 29 rfl), rfl⟩) ?_
    exact .nil
  intro a213 w214 hn215 ha216
  have hs217 := ha216.size.trans hs206
  have hd218 := ha216.defers.trans hd207
  have h219 := ha216.fx 3 h208
  have h220 := ha216.fx 4 h212
  have h221 := ha216.ge 1 5 rfl
  have hb222 := hb200.new_ hn215
  have hr223 := hr201.new_ hn215
  have hr224 := hr202.new_ hn215
  have hN225 := hN203.transNew hn215
  clear hs206 hd207 h208 h209 h212 hb200 hr201 hr202 hN203 ha216 hn215
  refine st_nil ?_
  refine blk_n ?_
  refine then_n ?_
  exact ⟨_, ⟨n / 10, ((48 + n % 10) :: t), A175, cc176, rfl, hs217, hd218, hN225, h220, h221, h219, hb222, hr224.row, hr223, (txt_step hn0 htx), (txt_len hn0 hlen), (Nat.lt_of_le_of_lt (Nat.div_le_self _ _) hnb)⟩, (by omega)⟩
end Go.Proofs.Ytfhflpchfgkgcaa
