/- Package renref2: Parse. -/
import Derived.Test.YtfhflpchfgkgcaaRefT
import Derived.Test.YtfhflpchfgkgcaaBigU
namespace Go.Proofs.Ytfhflpchfgkgcaa
open Go.RowKit
set_option linter.unusedSimpArgs false
set_option linter.unusedVariables false
def PRel (s : ByteArray) (neg : Bool) (D : ByteArray) : Prop := if neg then s.data.toList.head? = some 45 ∧ D.data.toList = s.data.toList.tail else s.data.toList.head? ≠ some 45 ∧ D.data.toList = s.data.toList
theorem head_bAt {s : ByteArray} (h : 0 < s.size) : ∃ c l, s.data.toList = c :: l ∧ c.toNat = bAt s 0 := by
  have h1 := s_len s
  cases hl : s.data.toList with
  | nil => rw [hl] at h1; simp at h1; omega
  | cons c l => exact ⟨c, l, rfl, by unfold bAt; rw [hl]; rfl⟩
theorem prel_neg {s : ByteArray} (h1 : decide ((s.size : Int) ≤ 0) = false) (h2 : decide (((bAt s 0 : Nat) : Int) = 45) = true) : PRel s true (s.extract 1 s.size) := by
  have h3 := of_decide_eq_false h1
  have h4 := of_decide_eq_true h2
  obtain ⟨c, l, hl, hc⟩ := head_bAt (s := s) (by omega)
  refine ⟨?_, ext_tail s⟩
  rw [hl]
  show some c = some 45
  congr 1
  exact UInt8.toNat_inj.1 (by rw [hc]; show bAt s 0 = 45; omega)
theorem prel_pos {s : ByteArray} (h : decide ((s.size : Int) ≤ 0) = true ∨ decide (((bAt s 0 : Nat) : Int) = 45) = false) : PRel s false s := by
  refine ⟨fun hh => ?_, rfl⟩
  have h1 := s_len s
  rcases h with h | h
  · have h2 := of_decide_eq_true h
    rw [List.eq_nil_of_length_eq_zero (l := s.data.toList) (by omega)] at hh
    cases hh
  · have h2 := of_decide_eq_false h
    cases hl : s.data.toList with
    | nil => rw [hl] at hh; cases hh
    | cons c l =>
      rw [hl] at hh
      have hc : c = 45 := by simpa using hh
      refine h2 ?_
      unfold bAt
      rw [hl, hc]; rfl
theorem pz_bad {s D : ByteArray} {neg : Bool} (hr : PRel s neg D) (h : digB D.data.toList = false ∨ (neg = true ∧ D.data.toList = [48])) : parseZ s.data.toList = (0, 2) := by
  unfold parseZ
  cases neg with
  | true =>
    obtain ⟨h1, h2⟩ := hr
    rw [if_pos h1]
    rcases h with h | ⟨_, h⟩
    · split
      · rfl
      · unfold parseD; rw [← h2, h]; rfl
    · rw [h2] at h
      rw [if_pos]
      cases hl : s.data.toList with
      | nil => rw [hl] at h1; cases h1
      | cons c l =>
        rw [hl] at h h1
        simp at h h1
        rw [h, h1]
  | false =>
    obtain ⟨h1, h2⟩ := hr
    rw [if_neg h1]
    rcases h with h | ⟨h, _⟩
    · unfold parseD; rw [← h2, h]; rfl
    · cases h
theorem pz_D {s D : ByteArray} {neg : Bool} (hr : PRel s neg D) (hn : neg = true → D.data.toList ≠ [48]) : parseZ s.data.toList = parseD neg D.data.toList := by
  unfold parseZ
  cases neg with
  | true =>
    obtain ⟨h1, h2⟩ := hr
    rw [if_pos h1, if_neg, h2]
    intro h
    refine hn rfl ?_
    rw [h2, h]; rfl
  | false =>
    obtain ⟨h1, h2⟩ := hr
    rw [if_neg h1, h2]
theorem pz_long {s D : ByteArray} {neg : Bool} (hr : PRel s neg D) (hd : digB D.data.toList = true) (hn : neg = true → D.data.toList ≠ [48]) (h : 2 ^ 256 ≤ decV D.data.toList) : parseZ s.data.toList = (0, 3) := by
  rw [pz_D hr hn, parseD, if_pos hd, if_pos h]
theorem pz_ok {s D : ByteArray} {neg : Bool} (hr : PRel s neg D) (hd : digB D.data.toList = true) (hn : neg = true → D.data.toList ≠ [48]) (h : ¬ 2 ^ 256 ≤ decV D.data.toList) : parseZ s.data.toList = (sgn neg (decV D.data.toList), 0) := by
  rw [pz_D hr hn, parseD, if_pos hd, if_neg h]
theorem size_pos {s : ByteArray} (h : strEq s ⟨#[]⟩ = false) : 0 < s.size := by
  rw [str_size0] at h
  have := of_decide_eq_false h
  omega
theorem digB_empty {s : ByteArray} (h : strEq s ⟨#[]⟩ = true) : digB s.data.toList = false := by
  rw [strEq_iff.1 h]; rfl
theorem isDig_iff {s : ByteArray} {i : Nat} (hi : i < s.size) : ∃ c, s.data.toList[i]? = some c ∧ c.toNat = bAt s i := by
  have h1 := s_len s
  exact ⟨s.data.toList[i]'(by omega), List.getElem?_eq_getElem (by omega), by unfold bAt; rw [List.getD_eq_getElem?_getD, List.getElem?_eq_getElem (by omega)]; rfl⟩
theorem digB_bad {s : ByteArray} {i : Nat} (hi : i < s.size) (h : decide (((bAt s i : Nat) : Int) < 48) = true ∨ decide (((bAt s i : Nat) : Int) ≤ 57) = false) : digB s.data.toList = false := by
  obtain ⟨c, hc, hb⟩ := isDig_iff hi
  have h1 : isDig c = false := by
    unfold isDig
    rcases h with h | h
    · have := of_decide_eq_true h
      rw [decide_eq_false (by omega)]; rfl
    · have := of_decide_eq_false h
      rw [decide_eq_false (p := c.toNat ≤ 57) (by omega), Bool.and_false]
  have h2 : s.data.toList.all isDig = false := by
    cases h3 : s.data.toList.all isDig with
    | false => rfl
    | true => rw [List.all_eq_true.1 h3 c (List.mem_of_getElem? hc)] at h1; cases h1
  unfold digB
  rw [h2]; rfl
theorem digB_lead {s : ByteArray} (h : decide (((bAt s 0 : Nat) : Int) = 48) = true) (hl : decide ((s.size : Int) ≤ 1) = false) : digB s.data.toList = false := by
  have h1 := of_decide_eq_true h
  have h2 := of_decide_eq_false hl
  obtain ⟨c, l, hcl, hc⟩ := head_bAt (s := s) (by omega)
  have hc48 : c = 48 := UInt8.toNat_inj.1 (by rw [hc]; show bAt s 0 = 48; omega)
  have h3 := s_len s
  unfold digB
  rw [hcl, hc48] at h3 ⊢
  cases l with
  | nil => simp at h3; omega
  | cons d l => simp
theorem one_zero {s : ByteArray} (h0 : 0 < s.size) (h : decide (((bAt s 0 : Nat) : Int) = 48) = true) (hl : decide ((s.size : Int) ≤ 1) = true) : true = true ∧ s.data.toList = [48] := by
  have h1 := of_decide_eq_true h
  have h2 := of_decide_eq_true hl
  obtain ⟨c, l, hcl, hc⟩ := head_bAt h0
  have hc48 : c = 48 := UInt8.toNat_inj.1 (by rw [hc]; show bAt s 0 = 48; omega)
  have h3 := s_len s
  rw [hcl] at h3
  simp at h3
  rw [hcl, hc48, List.eq_nil_of_length_eq_zero (l := l) (by omega)]
  exact ⟨rfl, rfl⟩
theorem not_zero {s : ByteArray} (h : bAt s 0 ≠ 48) : s.data.toList ≠ [48] := fun e => h (by unfold bAt; rw [e]; rfl)
theorem dig_up {s : ByteArray} {i : Nat} (h : ∀ j, j < i → 48 ≤ bAt s j ∧ bAt s j ≤ 57) (h1 : decide (((bAt s i : Nat) : Int) < 48) = false) (h2 : decide (((bAt s i : Nat) : Int) ≤ 57) = true) : ∀ j, j < i + 1 → 48 ≤ bAt s j ∧ bAt s j ≤ 57 := by
  intro j hj
  have h3 := of_decide_eq_false h1
  have h4 := of_decide_eq_true h2
  rcases Nat.lt_or_ge j i with h5 | h5
  · exact h j h5
  · obtain rfl : j = i := by omega
    omega
theorem digB_yes {s : ByteArray} (h0 : 0 < s.size) (h : ∀ j, j < s.size → 48 ≤ bAt s j ∧ bAt s j ≤ 57) (hl : bAt s 0 ≠ 48 ∨ s.size = 1) : digB s.data.toList = true := by
  have hlen := s_len s
  have h1 : s.data.toList.all isDig = true := by
    refine List.all_eq_true.2 fun c hc => ?_
    obtain ⟨i, hi, rfl⟩ := List.getElem_of_mem hc
    have h2 := h i (by omega)
    have h3 : bAt s i = (s.data.toList[i]).toNat := by unfold bAt; rw [List.getD_eq_getElem?_getD, List.getElem?_eq_getElem hi]; rfl
    unfold isDig
    rw [decide_eq_true (by omega), decide_eq_true (by omega)]; rfl
  obtain ⟨c, l, hcl, hc⟩ := head_bAt h0
  unfold digB
  rw [h1, hcl]
  rw [hcl] at hlen
  rcases hl with hl | hl
  · have : c ≠ 48 := fun e => hl (by rw [← hc, e]; rfl)
    simp [this]
  · simp at hlen
    have hln : l = [] := List.eq_nil_of_length_eq_zero (by omega)
    subst hln
    by_cases hc48 : c = 48 <;> simp [hc48]
theorem decV_step {s : ByteArray} {i : Nat} (hi : i < s.size) : decV (s.data.toList.take (i + 1)) = 10 * decV (s.data.toList.take i) + (bAt s i - 48) := by
  have h1 := s_len s
  have h2 : s.data.toList.take (i + 1) = s.data.toList.take i ++ [s.data.toList[i]'(by omega)] := List.take_succ_eq_append_getElem (by omega)
  rw [h2, decV_snoc]
  unfold bAt
  rw [List.getD_eq_getElem?_getD, List.getElem?_eq_getElem (by omega)]; rfl
theorem limbs_d {x : Nat} (h : x < 256) : Limbs [x - 48] := Limbs.cons (by omega) Limbs.nil
theorem ten_len {v : Nat} (h : (canon v).length ≤ 8) : (canon (val (canon v) * val [10])).length ≤ 9 := by
  rw [val_canon, val_one]
  have h1 := canon_len_gt h
  refine canon_len_le ?_
  have h2 : 4294967296 ^ 9 = 4294967296 ^ 8 * 4294967296 := by rw [← Nat.pow_succ]
  rw [h2]
  have h3 : 0 < 4294967296 ^ 8 := Nat.pow_pos (by omega)
  generalize 4294967296 ^ 8 = p at *
  omega
theorem one_len {x : Nat} (h : x < 256) : (canon (val [x])).length ≤ 1 := by
  rw [val_one]
  exact canon_len_le (by omega)
theorem dec_long {s : ByteArray} {i : Nat} (h : decide (((canon (decV (s.data.toList.take i))).length : Int) ≤ 8) = false) : 2 ^ 256 ≤ decV s.data.toList := by
  have h1 := of_decide_eq_false h
  have h2 := decV_mono s.data.toList i
  rcases Nat.lt_or_ge (decV (s.data.toList.take i)) (2 ^ 256) with h3 | h3
  · have := (canon_len8 _).2 h3; omega
  · omega
theorem dec_all {s : ByteArray} {i : Nat} (h : s.size ≤ i) : decV (s.data.toList.take i) = decV s.data.toList := by rw [List.take_of_length_le (by rw [s_len]; exact h)]
theorem dec_ok {s : ByteArray} {i : Nat} (h : s.size ≤ i) (h8 : (canon (decV (s.data.toList.take i))).length ≤ 8) : ¬ 2 ^ 256 ≤ decV s.data.toList := by
  rw [dec_all h] at h8
  have := (canon_len8 _).1 h8
  omega
set_option maxHeartbeats 16000000 in
set_option maxRecDepth 100000 in
theorem rparse_0 (s : ByteArray) (w : World) (hs : s.size ≤ 100000) (h0 : s.size = 0) : Calls Try.prog 17 #[.string s] w (RetZE (parseZ s.data.toList).1 (parseZ s.data.toList).2 w) := by
  refine enter_abs Try.func17 rfl fun a0 hs0 hd0 hp => ?_
  have hs0 : a0.tmps.size = 78 := hs0
  have hN0 : New w w := Upd.refl _ _
  have hp0 : a0.eval (.tmp 0) = .string s := hp 0 _ rfl
  clear hp
  refine wp_seq_k fun K1 hK1 => ?_
  refine wp_g [true, true] [] [] 78
    [IsNew w 24 [.bool false, sv none ([]) 0],
     ve (iv 0)]
    [0] (newsCons (fun v w h => IsNew.old h) newsNil) hs0 (.nw (.eq (.nil))) ?_ (fun i h => by cases h) ?_
  · skip
    refine .o2 (step_allocN (cs := [.bool false, sv none ([]) 0]) (t := 24) rfl (noG rfl) (fun _ w hn k => rfl) (fun q _ hq hb => ⟨q, rfl, hq, hb⟩)) ?_
    refine .o1 (tk rfl rfl fun _ w hn k => ⟨_, v_assign rfl rfl, rfl⟩) ?_
    exact .nil
  intro a2 w3 hn4 ha5
  have hs6 := ha5.size.trans hs0
  have hd7 := ha5.defers.trans hd0
  have h8 := ha5.fx 0 hp0
  obtain ⟨q10, h9, hq11, hb12⟩ : IsNew _ _ _ _ _ := ha5.got 0 2 rfl (by kernel_rfl)
  have hq13 := Nat.le_trans hN0.size hq11
  have hN14 := hN0.transNew hn4
  clear hs0 hd0 hp0 hq11 hN0 ha5 hn4
  refine st_nil ?_
  refine hK1 _ _ ?_
  clear hK1 K1
  refine wp_seq_k fun K15 hK15 => ?_
  have ht16 : (decide ((s.size : Int) ≤ 0)) = true := decide_eq_true (by omega)
  have ht16d := of_decide_eq_true ht16
  refine wp_g0 [true, true, true, true, true, true, true, true, true] [] 78
    [ve (.string s),
     ve (iv (s.size : Int)),
     ve (.bool false),
     ve (.bool false),
     ve undef,
     ve undef,
     ve undef,
     ve (.bool false),
     ve (.bool false)] hs6 (.eq (.eq (.eq (.eq (.eq (.eq (.eq (.eq (.eq (.nil)))))))))) ?_ ?_
  · skip
    refine .o1 (tk rfl rfl fun _ w hn k => ⟨_, v_move rfl (k.fx 0 h8), rfl⟩) ?_
    refine .o1 (tk rfl rfl fun _ w hn k => ⟨_, v_lenS rfl (k.eq1 0 9 rfl) (by kernel_rfl), rfl⟩) ?_
    refine .o1 (tk rfl rfl fun _ w hn k => ⟨_, v_bin rfl (k.eq1 1 10 rfl) rfl (fun _ => rfl) (r_gtrK ht16), rfl⟩) ?_
    refine .o1 (tk rfl rfl fun _ w hn k => ⟨_, v_move rfl (k.eq1 2 11 rfl), rfl⟩) ?_
    refine .o1 (sk rfl rfl rfl (fun _ _ _ k => k.eq1 3 12 rfl) (fun _ => rfl)) ?_
    refine .o1 (sk rfl rfl rfl (fun _ _ _ k => k.eq1 3 12 rfl) (fun _ => rfl)) ?_
    refine .o1 (sk rfl rfl rfl (fun _ _ _ k => k.eq1 3 12 rfl) (fun _ => rfl)) ?_
    refine .o1 (tk rfl rfl fun _ w hn k => ⟨_, v_pickF rfl (k.eq1 3 12 rfl) rfl, rfl⟩) ?_
    refine .o1 (tk rfl rfl fun _ w hn k => ⟨_, v_assign rfl (k.eq1 7 16 rfl), rfl⟩) ?_
    exact .nil
  intro a17 w18 hn19 ha20
  have hs21 := ha20.size.trans hs6
  have hd22 := ha20.defers.trans hd7
  have h23 := ha20.fx 0 h8
  have h24 := ha20.fx 2 h9
  have h25 := ha20.ge 8 4 rfl
  have hb26 := hb12.new_ hn19
  have hN27 := hN14.transNew hn19
  clear hs6 hd7 h8 h9 hb12 hN14 ha20 hn19
  refine st_nil ?_
  refine hK15 _ _ ?_
  clear hK15 K15
  refine wp_seq_k fun K28 hK28 => ?_
  refine wp_g0 [true, true] [] 78
    [ve (.string s),
     ve (.string s)] hs21 (.eq (.eq (.nil))) ?_ ?_
  · skip
    refine .o1 (tk rfl rfl fun _ w hn k => ⟨_, v_move rfl (k.fx 0 h23), rfl⟩) ?_
    refine .o1 (tk rfl rfl fun _ w hn k => ⟨_, v_assign rfl (k.eq1 0 17 rfl), rfl⟩) ?_
    exact .nil
  intro a29 w30 hn31 ha32
  have hs33 := ha32.size.trans hs21
  have hd34 := ha32.defers.trans hd22
  have h35 := ha32.fx 0 h23
  have h36 := ha32.fx 2 h24
  have h37 := ha32.fx 4 h25
  have h38 := ha32.ge 1 5 rfl
  have hb39 := hb26.new_ hn31
  have hN40 := hN27.transNew hn31
  clear hs21 hd22 h23 h24 h25 hb26 hN27 ha32 hn31
  refine st_nil ?_
  refine hK28 _ _ ?_
  clear hK28 K28
  refine wp_seq_k fun K41 hK41 => ?_
  refine wp_seq_k fun K42 hK42 => ?_
  refine wp_g0 [true] [] 78
    [ve (.bool false)] hs33 (.eq (.nil)) ?_ ?_
  · skip
    refine .o1 (tk rfl rfl fun _ w hn k => ⟨_, v_move rfl (k.fx 4 h37), rfl⟩) ?_
    exact .nil
  intro a43 w44 hn45 ha46
  have hs47 := ha46.size.trans hs33
  have hd48 := ha46.defers.trans hd34
  have h49 := ha46.fx 0 h35
  have h50 := ha46.fx 2 h36
  have h51 := ha46.fx 4 h37
  have h52 := ha46.fx 5 h38
  have h53 := ha46.ge 0 18 rfl
  have hb54 := hb39.new_ hn45
  have hN55 := hN40.transNew hn45
  clear hs33 hd34 h35 h36 h37 h38 hb39 hN40 ha46 hn45
  refine st_nil ?_
  refine hK42 _ _ ?_
  clear hK42 K42
  refine wp_cond_false h53 ?_
  refine wp_skip ?_
  refine hK41 _ _ ?_
  clear hK41 K41
  refine wp_seq_k fun K56 hK56 => ?_
  refine wp_seq_k fun K57 hK57 => ?_
  have hR : PRel s false s := prel_pos (.inl ht16)
  have hds0 := str_size0 (s := s)
  rcases Bool.eq_false_or_eq_true (strEq s ⟨#[]⟩) with ht58 | ht58
  · skip
    refine wp_g0 [true, true, true, true, true, true, true, true, true, true, true, true, true, true, true] [] 78
      [ve (.string s),
       ve (.bool true),
       ve (.bool true),
       ve undef,
       ve undef,
       ve undef,
       ve undef,
       ve undef,
       ve undef,
       ve undef,
       ve undef,
       ve undef,
       ve undef,
       ve undef,
       ve (.bool true)] hs47 (.eq (.eq (.eq (.eq (.eq (.eq (.eq (.eq (.eq (.eq (.eq (.eq (.eq (.eq (.eq (.nil)))))))))))))))) ?_ ?_
    · skip
      refine .o1 (tk rfl rfl fun _ w hn k => ⟨_, v_move rfl (k.fx 5 h52), rfl⟩) ?_
      refine .o1 (tk rfl rfl fun _ w hn k => ⟨_, v_bin rfl (k.eq1 0 21 rfl) rfl (fun _ => rfl) (r_eqlS ht58), rfl⟩) ?_
      refine .o1 (tk rfl rfl fun _ w hn k => ⟨_, v_move rfl (k.eq1 1 22 rfl), rfl⟩) ?_
      refine .o1 (sk rfl rfl rfl (fun _ _ _ k => k.eq1 2 23 rfl) (fun _ => rfl)) ?_
      refine .o1 (sk rfl rfl rfl (fun _ _ _ k => k.eq1 2 23 rfl) (fun _ => rfl)) ?_
      refine .o1 (sk rfl rfl rfl (fun _ _ _ k => k.eq1 2 23 rfl) (fun _ => rfl)) ?_
      refine .o1 (sk rfl rfl rfl (fun _ _ _ k => k.eq1 2 23 rfl) (fun _ => rfl)) ?_
      refine .o1 (su rfl rfl rfl (fun _ _ _ k => k.eq1 6 27 rfl) (fun _ => rfl)) ?_
      refine .o1 (su rfl rfl rfl (fun _ _ _ k => k.eq1 6 27 rfl) (fun _ => rfl)) ?_
      refine .o1 (su rfl rfl rfl (fun _ _ _ k => k.eq1 6 27 rfl) (fun _ => rfl)) ?_
      refine .o1 (su rfl rfl rfl (fun _ _ _ k => k.eq1 6 27 rfl) (fun _ => rfl)) ?_
      refine .o1 (su rfl rfl rfl (fun _ _ _ k => k.eq1 10 31 rfl) (fun _ => rfl)) ?_
      refine .o1 (su rfl rfl rfl (fun _ _ _ k => k.eq1 6 27 rfl) (fun _ => rfl)) ?_
      refine .o1 (sk rfl rfl rfl (fun _ _ _ k => k.eq1 2 23 rfl) (fun _ => rfl)) ?_
      refine .o1 (tk rfl rfl fun _ w hn k => ⟨_, v_pickT rfl (k.eq1 2 23 rfl) rfl, rfl⟩) ?_
      exact .nil
    intro a59 w60 hn61 ha62
    have hs63 := ha62.size.trans hs47
    have hd64 := ha62.defers.trans hd48
    have h65 := ha62.fx 2 h50
    have h66 := ha62.fx 4 h51
    have h67 := ha62.fx 5 h52
    have h68 := ha62.ge 14 35 rfl
    have hb69 := hb54.new_ hn61
    have hN70 := hN55.transNew hn61
    clear hs47 hd48 h49 h50 h51 h52 h53 hb54 hN55 ha62 hn61
    refine st_nil ?_
    refine hK57 _ _ ?_
    clear hK57 K57
    refine wp_cond_true h68 ?_
    refine wp_seq_k fun K71 hK71 => ?_
    refine wp_g0 [true, false, false] [(1, false), (2, true)] 78
      [ve (.agg #[.bool false, sv none ([]) 0]),
       vt,
       vt] hs63 (.eq (.tt (.tt (.nil)))) ?_ ?_
    · skip
      refine .o1 (tk rfl rfl fun _ w hn k => ⟨_, v_build (ps := []) rfl parts0 (by kernel_rfl), rfl⟩) ?_
      refine .off ?_
      refine .off ?_
      exact .nil
    intro a72 w73 hn74 ha75
    have hs76 := ha75.size.trans hs63
    have hd77 := ha75.defers.trans hd64
    have h78 := ha75.fx 2 h65
    have h79 := ha75.ge 0 36 rfl
    have hb80 := hb69.new_ hn74
    have hN81 := hN70.transNew hn74
    clear hs63 hd64 h65 h66 h67 h68 hb69 hN70 ha75 hn74
    obtain ⟨w82, -, hst83, hb84, hu85, hf86⟩ := s_two (v0 := .bool false) (v1 := sv none ([]) 0) Try.sizeOf24 rfl rfl rfl hb80
    refine st_act rfl rfl fun K87 hL88 => a_store' rfl h78 h79 hst83 (hL88 _ _ trivial ?_)
    have hN89 := hN81.trans hu85 (fun k hk hkb => by subst hkb; omega)
    clear hb80 hst83 K87 hL88 hN81 hu85 hf86
    refine st_take rfl rfl (y_assign (v := iv 2) rfl rfl) rfl ?_
    obtain ⟨a90, ha91⟩ : ∃ a', a' = a72.put (some 3) (iv 2) := ⟨_, rfl⟩
    have hs92 : a90.tmps.size = 78 := by rw [ha91, put_size]; exact hs76
    have hd93 : a90.defers = [] := by rw [ha91, put_defers]; exact hd77
    have h94 : a90.eval (.tmp 2) = pv q10 := by rw [ha91, put_ne _ _ _ _ (by decide)]; exact h78
    have h95 : a90.eval (.tmp 36) = .agg #[.bool false, sv none ([]) 0] := by rw [ha91, put_ne _ _ _ _ (by decide)]; exact h79
    have h96 : a90.eval (.tmp 3) = iv 2 := by rw [ha91]; exact put_same _ _ _ (by rw [hs76]; decide)
    show stepsTo _ _ _ _ _ (a72.put (some 3) (iv 2)) _
    rw [← ha91]
    clear ha91 hs76 hd77 h78 h79
    refine st_nil ?_
    clear h95
    refine hK71 _ _ ?_
    clear hK71 K71
    refine wp_ret (ret_k hd93 (v := .tuple #[.agg #[.bool false, sv none ([]) 0], iv 2]) (res_ct rfl h94 h96 (l_two Try.isAgg24 Try.sizeOf24 hb84)) ?_)
    have hs2 : (iv 2 : Value) = iv (parseZ s.data.toList).2 := by rw [pz_bad hR (.inl (digB_empty ht58))]
    have hz1 : (decide ((parseZ s.data.toList).1 < 0)) = false := by rw [pz_bad hR (.inl (digB_empty ht58))]; rfl
    have hz2 : canon ((parseZ s.data.toList).1).natAbs = [] := by rw [pz_bad hR (.inl (digB_empty ht58))]; exact canon_zero
    exact ⟨none, 0, by rw [hz1, hz2, hs2], by rw [hz2]; exact (SRow.nil _ _), hN89⟩
  rcases Bool.eq_false_or_eq_true (decide (((bAt s 0 : Nat) : Int) = 48)) with ht97 | ht97
  · skip
    have ht97d := of_decide_eq_true ht97
    rcases Bool.eq_false_or_eq_true (decide ((s.size : Int) ≤ 1)) with ht98 | ht98
    · skip
      have ht98d := of_decide_eq_true ht98
      have hsp := size_pos ht58
      refine wp_g0 [true, true, true, true, true, true, true, true, true, true, true, true, true, true, true] [] 78
        [ve (.string s),
         ve (.bool false),
         ve (.bool false),
         ve (.string s),
         ve (.int .u8 ((bAt s 0 : Nat) : Int)),
         ve (.bool true),
         ve (.bool true),
         ve (.string s),
         ve (iv (s.size : Int)),
         ve (.bool false),
         ve (.bool false),
         ve (.bool false),
         ve (.bool false),
         ve (.bool false),
         ve (.bool false)] hs47 (.eq (.eq (.eq (.eq (.eq (.eq (.eq (.eq (.eq (.eq (.eq (.eq (.eq (.eq (.eq (.nil)))))))))))))))) ?_ ?_
      · skip
        refine .o1 (tk rfl rfl fun _ w hn k => ⟨_, v_move rfl (k.fx 5 h52), rfl⟩) ?_
        refine .o1 (tk rfl rfl fun _ w hn k => ⟨_, v_bin rfl (k.eq1 0 21 rfl) rfl (fun _ => rfl) (r_eqlS ht58), rfl⟩) ?_
        refine .o1 (tk rfl rfl fun _ w hn k => ⟨_, v_move rfl (k.eq1 1 22 rfl), rfl⟩) ?_
        refine .o1 (tg rfl rfl rfl (fun _ _ k => k.eq1 2 23 rfl) fun _ w hn k => ⟨_, v_move rfl (k.fx 5 h52), rfl⟩) ?_
        refine .o1 (tg rfl rfl rfl (fun _ _ k => k.eq1 2 23 rfl) fun _ w hn k => ⟨_, v_idxN rfl (k.eq1 3 24 rfl) rfl (by kernel_rfl) (by omega), rfl⟩) ?_
        refine .o1 (tg rfl rfl rfl (fun _ _ k => k.eq1 2 23 rfl) fun _ w hn k => ⟨_, v_bin rfl (k.eq1 4 25 rfl) rfl (fun _ => rfl) (r_eql ht97), rfl⟩) ?_
        refine .o1 (tg rfl rfl rfl (fun _ _ k => k.eq1 2 23 rfl) fun _ w hn k => ⟨_, v_move rfl (k.eq1 5 26 rfl), rfl⟩) ?_
        refine .o1 (tg rfl rfl rfl (fun _ _ k => k.eq1 6 27 rfl) fun _ w hn k => ⟨_, v_move rfl (k.fx 5 h52), rfl⟩) ?_
        refine .o1 (tg rfl rfl rfl (fun _ _ k => k.eq1 6 27 rfl) fun _ w hn k => ⟨_, v_lenS rfl (k.eq1 7 28 rfl) (by kernel_rfl), rfl⟩) ?_
        refine .o1 (tg rfl rfl rfl (fun _ _ k => k.eq1 6 27 rfl) fun _ w hn k => ⟨_, v_bin rfl (k.eq1 8 29 rfl) rfl (fun _ => rfl) (r_gtrK ht98), rfl⟩) ?_
        refine .o1 (tg rfl rfl rfl (fun _ _ k => k.eq1 6 27 rfl) fun _ w hn k => ⟨_, v_move rfl (k.eq1 9 30 rfl), rfl⟩) ?_
        refine .o1 (tg rfl rfl rfl (fun _ _ k => k.eq1 10 31 rfl) fun _ w hn k => ⟨_, v_move rfl (k.fx 4 h51), rfl⟩) ?_
        refine .o1 (tg rfl rfl rfl (fun _ _ k => k.eq1 6 27 rfl) fun _ w hn k => ⟨_, v_pickF rfl (k.eq1 10 31 rfl) (k.eq1 11 32 rfl), rfl⟩) ?_
        refine .o1 (tg rfl rfl rfl (fun _ _ k => k.eq1 2 23 rfl) fun _ w hn k => ⟨_, v_pickT rfl (k.eq1 6 27 rfl) (k.eq1 12 33 rfl), rfl⟩) ?_
        refine .o1 (tk rfl rfl fun _ w hn k => ⟨_, v_pickF rfl (k.eq1 2 23 rfl) (k.eq1 13 34 rfl), rfl⟩) ?_
        exact .nil
      intro a99 w100 hn101 ha102
      have hs103 := ha102.size.trans hs47
      have hd104 := ha102.defers.trans hd48
      have h105 := ha102.fx 2 h50
      have h106 := ha102.fx 4 h51
      have h107 := ha102.fx 5 h52
      have h108 := ha102.ge 14 35 rfl
      have hb109 := hb54.new_ hn101
      have hN110 := hN55.transNew hn101
      clear hs47 hd48 h49 h50 h51 h52 h53 hb54 hN55 ha102 hn101
      refine st_nil ?_
      refine hK57 _ _ ?_
      clear hK57 K57
      refine wp_cond_false h108 ?_
      refine wp_skip ?_
      refine hK56 _ _ ?_
      clear hK56 K56
      refine wp_seq_k fun K111 hK111 => ?_
      refine wp_seq_k fun K112 hK112 => ?_
      have hne : 0 < s.size := size_pos ht58
      have hlead : bAt s 0 ≠ 48 ∨ s.size = 1 := .inr (by have := of_decide_eq_true ht98; omega)
      refine wp_g0 [true] [] 78
        [ve (iv 0)] hs103 (.eq (.nil)) ?_ ?_
      · skip
        refine .o1 (tk rfl rfl fun _ w hn k => ⟨_, v_assign rfl rfl, rfl⟩) ?_
        exact .nil
      intro a113 w114 hn115 ha116
      have hs117 := ha116.size.trans hs103
      have hd118 := ha116.defers.trans hd104
      have h119 := ha116.fx 2 h105
      have h120 := ha116.fx 4 h106
      have h121 := ha116.fx 5 h107
      have h122 := ha116.ge 0 6 rfl
      have hb123 := hb109.new_ hn115
      have hN124 := hN110.transNew hn115
      clear hs103 hd104 h105 h106 h107 h108 hb109 hN110 ha116 hn115
      refine st_nil ?_
      refine hK112 _ _ ?_
      clear hK112 K112
      refine wp_block ?_
      refine wp_loopX (fun (mm : Nat) (aa : Act) (ww : World) => ∃ (i : Nat), mm = s.size - i ∧ aa.tmps.size = 78 ∧ aa.defers = [] ∧ New w ww ∧ aa.eval (.tmp 6) = iv (i : Int) ∧ aa.eval (.tmp 2) = pv q10 ∧ aa.eval (.tmp 4) = .bool false ∧ aa.eval (.tmp 5) = .string s ∧ Blk ww q10 24 [.bool false, sv none ([]) 0] ∧ (i ≤ s.size) ∧ (∀ j, j < i → 48 ≤ bAt s j ∧ bAt s j ≤ 57)) (fun mm => mm) ⟨_, ⟨0, rfl, hs117, hd118, hN124, h122, h119, h120, h121, hb123, (Nat.zero_le _), (fun j h => absurd h (Nat.not_lt_zero _))⟩⟩ ?_
      clear hs117 hd118 hN124 h119 h120 h121 h122 hb123
      rintro mm a125 w126 ⟨i, hmm, hs127, hd128, hN129, h130, h131, h132, h133, hb134, hi, hdg⟩
      refine wp_seq_k fun K135 hK135 => ?_
      refine wp_seq_k fun K136 hK136 => ?_
      refine wp_g0 [true, true, true, true] [] 78
        [ve (iv (i : Int)),
         ve (.string s),
         ve (iv (s.size : Int)),
         ve (.bool (decide ((i : Int) < (s.size : Int))))] hs127 (.eq (.eq (.eq (.eq (.nil))))) ?_ ?_
      · skip
        refine .o1 (tk rfl rfl fun _ w hn k => ⟨_, v_move rfl (k.fx 6 h130), rfl⟩) ?_
        refine .o1 (tk rfl rfl fun _ w hn k => ⟨_, v_move rfl (k.fx 5 h133), rfl⟩) ?_
        refine .o1 (tk rfl rfl fun _ w hn k => ⟨_, v_lenS rfl (k.eq1 1 38 rfl) (by kernel_rfl), rfl⟩) ?_
        refine .o1 (tk rfl rfl fun _ w hn k => ⟨_, v_bin rfl (k.eq1 0 37 rfl) (k.eq1 2 39 rfl) (fun _ => rfl) (r_lssK rfl), rfl⟩) ?_
        exact .nil
      intro a137 w138 hn139 ha140
      have hs141 := ha140.size.trans hs127
      have hd142 := ha140.defers.trans hd128
      have h143 := ha140.fx 6 h130
      have h144 := ha140.fx 2 h131
      have h145 := ha140.fx 4 h132
      have h146 := ha140.fx 5 h133
      have h147 := ha140.ge 3 40 rfl
      have hb148 := hb134.new_ hn139
      have hN149 := hN129.transNew hn139
      clear hs127 hd128 h130 h131 h132 h133 hb134 hN129 ha140 hn139
      refine st_nil ?_
      refine hK136 _ _ ?_
      clear hK136 K136
      rcases Bool.eq_false_or_eq_true (decide ((i : Int) < (s.size : Int))) with ht150 | ht150
      · skip
        have ht150d := of_decide_eq_true ht150
        have hv151 : a137.eval (.tmp 40) = .bool true := h147.trans (congrArg Value.bool ht150)
        clear h147
        refine wp_cond_true hv151 ?_
        refine wp_skip ?_
        refine hK135 _ _ ?_
        clear hK135 K135
        refine wp_seq_k fun K152 hK152 => ?_
        refine wp_block ?_
        refine wp_seq_k fun K153 hK153 => ?_
        rcases Bool.eq_false_or_eq_true (decide (((bAt s i : Nat) : Int) < 48)) with ht154 | ht154
        · skip
          have ht154d := of_decide_eq_true ht154
          refine wp_g0 [true, true, true, true, true, true, true, true, true, true] [] 78
            [ve (.string s),
             ve (iv (i : Int)),
             ve (.int .u8 ((bAt s i : Nat) : Int)),
             ve (.bool true),
             ve (.bool true),
             ve undef,
             ve undef,
             ve undef,
             ve undef,
             ve (.bool true)] hs141 (.eq (.eq (.eq (.eq (.eq (.eq (.eq (.eq (.eq (.eq (.nil))))))))))) ?_ ?_
          · skip
            refine .o1 (tk rfl rfl fun _ w hn k => ⟨_, v_move rfl (k.fx 5 h146), rfl⟩) ?_
            refine .o1 (tk rfl rfl fun _ w hn k => ⟨_, v_move rfl (k.fx 6 h143), rfl⟩) ?_
            refine .o1 (tk rfl rfl fun _ w hn k => ⟨_, v_idxN rfl (k.eq1 0 43 rfl) (k.eq1 1 44 rfl) (by kernel_rfl) (by omega), rfl⟩) ?_
            refine .o1 (tk rfl rfl fun _ w hn k => ⟨_, v_bin rfl (k.eq1 2 45 rfl) rfl (fun _ => rfl) (r_lssK ht154), rfl⟩) ?_
            refine .o1 (tk rfl rfl fun _ w hn k => ⟨_, v_move rfl (k.eq1 3 46 rfl), rfl⟩) ?_
            refine .o1 (sk rfl rfl rfl (fun _ _ _ k => k.eq1 4 47 rfl) (fun _ => rfl)) ?_
            refine .o1 (sk rfl rfl rfl (fun _ _ _ k => k.eq1 4 47 rfl) (fun _ => rfl)) ?_
            refine .o1 (sk rfl rfl rfl (fun _ _ _ k => k.eq1 4 47 rfl) (fun _ => rfl)) ?_
            refine .o1 (sk rfl rfl rfl (fun _ _ _ k => k.eq1 4 47 rfl) (fun _ => rfl)) ?_
            refine .o1 (tk rfl rfl fun _ w hn k => ⟨_, v_pickT rfl (k.eq1 4 47 rfl) rfl, rfl⟩) ?_
            exact .nil
          intro a155 w156 hn157 ha158
          have hs159 := ha158.size.trans hs141
          have hd160 := ha158.defers.trans hd142
          have h161 := ha158.fx 6 h143
          have h162 := ha158.fx 2 h144
          have h163 := ha158.fx 4 h145
          have h164 := ha158.fx 5 h146
          have h165 := ha158.ge 9 52 rfl
          have hb166 := hb148.new_ hn157
          have hN167 := hN149.transNew hn157
          clear hs141 hd142 h143 h144 h145 h146 hv151 hb148 hN149 ha158 hn157
          refine st_nil ?_
          refine hK153 _ _ ?_
          clear hK153 K153
          refine wp_cond_true h165 ?_
          refine wp_seq_k fun K168 hK168 => ?_
          refine wp_g0 [true, false, false] [(1, false), (2, true)] 78
            [ve (.agg #[.bool false, sv none ([]) 0]),
             vt,
             vt] hs159 (.eq (.tt (.tt (.nil)))) ?_ ?_
          · skip
            refine .o1 (tk rfl rfl fun _ w hn k => ⟨_, v_build (ps := []) rfl parts0 (by kernel_rfl), rfl⟩) ?_
            refine .off ?_
            refine .off ?_
            exact .nil
          intro a169 w170 hn171 ha172
          have hs173 := ha172.size.trans hs159
          have hd174 := ha172.defers.trans hd160
          have h175 := ha172.fx 2 h162
          have h176 := ha172.ge 0 53 rfl
          have hb177 := hb166.new_ hn171
          have hN178 := hN167.transNew hn171
          clear hs159 hd160 h161 h162 h163 h164 h165 hb166 hN167 ha172 hn171
          obtain ⟨w179, -, hst180, hb181, hu182, hf183⟩ := s_two (v0 := .bool false) (v1 := sv none ([]) 0) Try.sizeOf24 rfl rfl rfl hb177
          refine st_act rfl rfl fun K184 hL185 => a_store' rfl h175 h176 hst180 (hL185 _ _ trivial ?_)
          have hN186 := hN178.trans hu182 (fun k hk hkb => by subst hkb; omega)
          clear hb177 hst180 K184 hL185 hN178 hu182 hf183
          refine st_take rfl rfl (y_assign (v := iv 2) rfl rfl) rfl ?_
          obtain ⟨a187, ha188⟩ : ∃ a', a' = a169.put (some 3) (iv 2) := ⟨_, rfl⟩
          have hs189 : a187.tmps.size = 78 := by rw [ha188, put_size]; exact hs173
          have hd190 : a187.defers = [] := by rw [ha188, put_defers]; exact hd174
          have h191 : a187.eval (.tmp 2) = pv q10 := by rw [ha188, put_ne _ _ _ _ (by decide)]; exact h175
          have h192 : a187.eval (.tmp 53) = .agg #[.bool false, sv none ([]) 0] := by rw [ha188, put_ne _ _ _ _ (by decide)]; exact h176
          have h193 : a187.eval (.tmp 3) = iv 2 := by rw [ha188]; exact put_same _ _ _ (by rw [hs173]; decide)
          show stepsTo _ _ _ _ _ (a169.put (some 3) (iv 2)) _
          rw [← ha188]
          clear ha188 hs173 hd174 h175 h176
          refine st_nil ?_
          clear h192
          refine hK168 _ _ ?_
          clear hK168 K168
          refine wp_ret (ret_k hd190 (v := .tuple #[.agg #[.bool false, sv none ([]) 0], iv 2]) (res_ct rfl h191 h193 (l_two Try.isAgg24 Try.sizeOf24 hb181)) ?_)
          have hs2 : (iv 2 : Value) = iv (parseZ s.data.toList).2 := by rw [pz_bad hR (.inl (digB_bad (i := i) (by omega) (.inl ht154)))]
          have hz1 : (decide ((parseZ s.data.toList).1 < 0)) = false := by rw [pz_bad hR (.inl (digB_bad (i := i) (by omega) (.inl ht154)))]; rfl
          have hz2 : canon ((parseZ s.data.toList).1).natAbs = [] := by rw [pz_bad hR (.inl (digB_bad (i := i) (by omega) (.inl ht154)))]; exact canon_zero
          exact ⟨none, 0, by rw [hz1, hz2, hs2], by rw [hz2]; exact (SRow.nil _ _), hN186⟩
        have ht154d := of_decide_eq_false ht154
        rcases Bool.eq_false_or_eq_true (decide (((bAt s i : Nat) : Int) ≤ 57)) with ht194 | ht194
        · skip
          have ht194d := of_decide_eq_true ht194
          refine wp_g0 [true, true, true, true, true, true, true, true, true, true] [] 78
            [ve (.string s),
             ve (iv (i : Int)),
             ve (.int .u8 ((bAt s i : Nat) : Int)),
             ve (.bool false),
             ve (.bool false),
             ve (.string s),
             ve (iv (i : Int)),
             ve (.int .u8 ((bAt s i : Nat) : Int)),
             ve (.bool false),
             ve (.bool false)] hs141 (.eq (.eq (.eq (.eq (.eq (.eq (.eq (.eq (.eq (.eq (.nil))))))))))) ?_ ?_
          · skip
            refine .o1 (tk rfl rfl fun _ w hn k => ⟨_, v_move rfl (k.fx 5 h146), rfl⟩) ?_
            refine .o1 (tk rfl rfl fun _ w hn k => ⟨_, v_move rfl (k.fx 6 h143), rfl⟩) ?_
            refine .o1 (tk rfl rfl fun _ w hn k => ⟨_, v_idxN rfl (k.eq1 0 43 rfl) (k.eq1 1 44 rfl) (by kernel_rfl) (by omega), rfl⟩) ?_
            refine .o1 (tk rfl rfl fun _ w hn k => ⟨_, v_bin rfl (k.eq1 2 45 rfl) rfl (fun _ => rfl) (r_lssK ht154), rfl⟩) ?_
            refine .o1 (tk rfl rfl fun _ w hn k => ⟨_, v_move rfl (k.eq1 3 46 rfl), rfl⟩) ?_
            refine .o1 (tg rfl rfl rfl (fun _ _ k => k.eq1 4 47 rfl) fun _ w hn k => ⟨_, v_move rfl (k.fx 5 h146), rfl⟩) ?_
            refine .o1 (tg rfl rfl rfl (fun _ _ k => k.eq1 4 47 rfl) fun _ w hn k => ⟨_, v_move rfl (k.fx 6 h143), rfl⟩) ?_
            refine .o1 (tg rfl rfl rfl (fun _ _ k => k.eq1 4 47 rfl) fun _ w hn k => ⟨_, v_idxN rfl (k.eq1 5 48 rfl) (k.eq1 6 49 rfl) (by kernel_rfl) (by omega), rfl⟩) ?_
            refine .o1 (tg rfl rfl rfl (fun _ _ k => k.eq1 4 47 rfl) fun _ w hn k => ⟨_, v_bin rfl (k.eq1 7 50 rfl) rfl (fun _ => rfl) (r_gtrK ht194), rfl⟩) ?_
            refine .o1 (tk rfl rfl fun _ w hn k => ⟨_, v_pickF rfl (k.eq1 4 47 rfl) (k.eq1 8 51 rfl), rfl⟩) ?_
            exact .nil
          intro a195 w196 hn197 ha198
          have hs199 := ha198.size.trans hs141
          have hd200 := ha198.defers.trans hd142
          have h201 := ha198.fx 6 h143
          have h202 := ha198.fx 2 h144
          have h203 := ha198.fx 4 h145
          have h204 := ha198.fx 5 h146
          have h205 := ha198.ge 9 52 rfl
          have hb206 := hb148.new_ hn197
          have hN207 := hN149.transNew hn197
          clear hs141 hd142 h143 h144 h145 h146 hv151 hb148 hN149 ha198 hn197
          refine st_nil ?_
          refine hK153 _ _ ?_
          clear hK153 K153
          refine wp_cond_false h205 ?_
          refine wp_skip ?_
          refine hK152 _ _ ?_
          clear hK152 K152
          refine wp_g0 [true, true, false] [(2, true)] 78
            [ve (iv (i : Int)),
             ve (iv ((i + 1 : Nat) : Int)),
             vt] hs199 (.eq (.eq (.tt (.nil)))) ?_ ?_
          · skip
            refine .o1 (tk rfl rfl fun _ w hn k => ⟨_, v_move rfl (k.fx 6 h201), rfl⟩) ?_
            refine .o1 (tk rfl rfl fun _ w hn k => ⟨_, v_bin rfl (k.eq1 0 41 rfl) rfl (fun _ => rfl) (n_add (by omega) (IntWalk.i64_in _ (by omega))), rfl⟩) ?_
            refine .off ?_
            exact .nil
          intro a208 w209 hn210 ha211
          have hs212 := ha211.size.trans hs199
          have hd213 := ha211.defers.trans hd200
          have h214 := ha211.fx 6 h201
          have h215 := ha211.fx 2 h202
          have h216 := ha211.fx 4 h203
          have h217 := ha211.fx 5 h204
          have h218 := ha211.ge 1 42 rfl
          have hb219 := hb206.new_ hn210
          have hN220 := hN207.transNew hn210
          clear hs199 hd200 h201 h202 h203 h204 h205 hb206 hN207 ha211 hn210
          refine st_take rfl rfl (y_assign (v := iv ((i + 1 : Nat) : Int)) rfl h218) rfl ?_
          obtain ⟨a221, ha222⟩ : ∃ a', a' = a208.put (some 6) (iv ((i + 1 : Nat) : Int)) := ⟨_, rfl⟩
          have hs223 : a221.tmps.size = 78 := by rw [ha222, put_size]; exact hs212
          have hd224 : a221.defers = [] := by rw [ha222, put_defers]; exact hd213
          have h225 : a221.eval (.tmp 2) = pv q10 := by rw [ha222, put_ne _ _ _ _ (by decide)]; exact h215
          have h226 : a221.eval (.tmp 4) = .bool false := by rw [ha222, put_ne _ _ _ _ (by decide)]; exact h216
          have h227 : a221.eval (.tmp 5) = .string s := by rw [ha222, put_ne _ _ _ _ (by decide)]; exact h217
          have h228 : a221.eval (.tmp 42) = iv ((i + 1 : Nat) : Int) := by rw [ha222, put_ne _ _ _ _ (by decide)]; exact h218
          have h229 : a221.eval (.tmp 6) = iv ((i + 1 : Nat) : Int) := by rw [ha222]; exact put_same _ _ _ (by rw [hs212]; decide)
          show stepsTo _ _ _ _ _ (a208.put (some 6) (iv ((i + 1 : Nat) : Int))) _
          rw [← ha222]
          clear ha222 hs212 hd213 h214 h215 h216 h217 h218
          refine st_nil ?_
          clear h228
          refine then_n ?_
          exact ⟨_, ⟨i + 1, rfl, hs223, hd224, hN220, (h229.trans (congrArg (Value.int .i64) (by omega))), h225, h226, h227, hb219, (by omega), (dig_up hdg ht154 ht194)⟩, (by omega)⟩
        have ht194d := of_decide_eq_false ht194
        refine wp_g0 [true, true, true, true, true, true, true, true, true, true] [] 78
          [ve (.string s),
           ve (iv (i : Int)),
           ve (.int .u8 ((bAt s i : Nat) : Int)),
           ve (.bool false),
           ve (.bool false),
           ve (.string s),
           ve (iv (i : Int)),
           ve (.int .u8 ((bAt s i : Nat) : Int)),
           ve (.bool true),
           ve (.bool true)] hs141 (.eq (.eq (.eq (.eq (.eq (.eq (.eq (.eq (.eq (.eq (.nil))))))))))) ?_ ?_
        · skip
          refine .o1 (tk rfl rfl fun _ w hn k => ⟨_, v_move rfl (k.fx 5 h146), rfl⟩) ?_
          refine .o1 (tk rfl rfl fun _ w hn k => ⟨_, v_move rfl (k.fx 6 h143), rfl⟩) ?_
          refine .o1 (tk rfl rfl fun _ w hn k => ⟨_, v_idxN rfl (k.eq1 0 43 rfl) (k.eq1 1 44 rfl) (by kernel_rfl) (by omega), rfl⟩) ?_
          refine .o1 (tk rfl rfl fun _ w hn k => ⟨_, v_bin rfl (k.eq1 2 45 rfl) rfl (fun _ => rfl) (r_lssK ht154), rfl⟩) ?_
          refine .o1 (tk rfl rfl fun _ w hn k => ⟨_, v_move rfl (k.eq1 3 46 rfl), rfl⟩) ?_
          refine .o1 (tg rfl rfl rfl (fun _ _ k => k.eq1 4 47 rfl) fun _ w hn k => ⟨_, v_move rfl (k.fx 5 h146), rfl⟩) ?_
          refine .o1 (tg rfl rfl rfl (fun _ _ k => k.eq1 4 47 rfl) fun _ w hn k => ⟨_, v_move rfl (k.fx 6 h143), rfl⟩) ?_
          refine .o1 (tg rfl rfl rfl (fun _ _ k => k.eq1 4 47 rfl) fun _ w hn k => ⟨_, v_idxN rfl (k.eq1 5 48 rfl) (k.eq1 6 49 rfl) (by kernel_rfl) (by omega), rfl⟩) ?_
          refine .o1 (tg rfl rfl rfl (fun _ _ k => k.eq1 4 47 rfl) fun _ w hn k => ⟨_, v_bin rfl (k.eq1 7 50 rfl) rfl (fun _ => rfl) (r_gtrK ht194), rfl⟩) ?_
          refine .o1 (tk rfl rfl fun _ w hn k => ⟨_, v_pickF rfl (k.eq1 4 47 rfl) (k.eq1 8 51 rfl), rfl⟩) ?_
          exact .nil
        intro a230 w231 hn232 ha233
        have hs234 := ha233.size.trans hs141
        have hd235 := ha233.defers.trans hd142
        have h236 := ha233.fx 6 h143
        have h237 := ha233.fx 2 h144
        have h238 := ha233.fx 4 h145
        have h239 := ha233.fx 5 h146
        have h240 := ha233.ge 9 52 rfl
        have hb241 := hb148.new_ hn232
        have hN242 := hN149.transNew hn232
        clear hs141 hd142 h143 h144 h145 h146 hv151 hb148 hN149 ha233 hn232
        refine st_nil ?_
        refine hK153 _ _ ?_
        clear hK153 K153
        refine wp_cond_true h240 ?_
        refine wp_seq_k fun K243 hK243 => ?_
        refine wp_g0 [true, false, false] [(1, false), (2, true)] 78
          [ve (.agg #[.bool false, sv none ([]) 0]),
           vt,
           vt] hs234 (.eq (.tt (.tt (.nil)))) ?_ ?_
        · skip
          refine .o1 (tk rfl rfl fun _ w hn k => ⟨_, v_build (ps := []) rfl parts0 (by kernel_rfl), rfl⟩) ?_
          refine .off ?_
          refine .off ?_
          exact .nil
        intro a244 w245 hn246 ha247
        have hs248 := ha247.size.trans hs234
        have hd249 := ha247.defers.trans hd235
        have h250 := ha247.fx 2 h237
        have h251 := ha247.ge 0 53 rfl
        have hb252 := hb241.new_ hn246
        have hN253 := hN242.transNew hn246
        clear hs234 hd235 h236 h237 h238 h239 h240 hb241 hN242 ha247 hn246
        obtain ⟨w254, -, hst255, hb256, hu257, hf258⟩ := s_two (v0 := .bool false) (v1 := sv none ([]) 0) Try.sizeOf24 rfl rfl rfl hb252
        refine st_act rfl rfl fun K259 hL260 => a_store' rfl h250 h251 hst255 (hL260 _ _ trivial ?_)
        have hN261 := hN253.trans hu257 (fun k hk hkb => by subst hkb; omega)
        clear hb252 hst255 K259 hL260 hN253 hu257 hf258
        refine st_take rfl rfl (y_assign (v := iv 2) rfl rfl) rfl ?_
        obtain ⟨a262, ha263⟩ : ∃ a', a' = a244.put (some 3) (iv 2) := ⟨_, rfl⟩
        have hs264 : a262.tmps.size = 78 := by rw [ha263, put_size]; exact hs248
        have hd265 : a262.defers = [] := by rw [ha263, put_defers]; exact hd249
        have h266 : a262.eval (.tmp 2) = pv q10 := by rw [ha263, put_ne _ _ _ _ (by decide)]; exact h250
        have h267 : a262.eval (.tmp 53) = .agg #[.bool false, sv none ([]) 0] := by rw [ha263, put_ne _ _ _ _ (by decide)]; exact h251
        have h268 : a262.eval (.tmp 3) = iv 2 := by rw [ha263]; exact put_same _ _ _ (by rw [hs248]; decide)
        show stepsTo _ _ _ _ _ (a244.put (some 3) (iv 2)) _
        rw [← ha263]
        clear ha263 hs248 hd249 h250 h251
        refine st_nil ?_
        clear h267
        refine hK243 _ _ ?_
        clear hK243 K243
        refine wp_ret (ret_k hd265 (v := .tuple #[.agg #[.bool false, sv none ([]) 0], iv 2]) (res_ct rfl h266 h268 (l_two Try.isAgg24 Try.sizeOf24 hb256)) ?_)
        have hs2 : (iv 2 : Value) = iv (parseZ s.data.toList).2 := by rw [pz_bad hR (.inl (digB_bad (i := i) (by omega) (.inr ht194)))]
        have hz1 : (decide ((parseZ s.data.toList).1 < 0)) = false := by rw [pz_bad hR (.inl (digB_bad (i := i) (by omega) (.inr ht194)))]; rfl
        have hz2 : canon ((parseZ s.data.toList).1).natAbs = [] := by rw [pz_bad hR (.inl (digB_bad (i := i) (by omega) (.inr ht194)))]; exact canon_zero
        exact ⟨none, 0, by rw [hz1, hz2, hs2], by rw [hz2]; exact (SRow.nil _ _), hN261⟩
      have ht150d := of_decide_eq_false ht150
      have hv269 : a137.eval (.tmp 40) = .bool false := h147.trans (congrArg Value.bool ht150)
      clear h147
      refine wp_cond_false hv269 ?_
      refine wp_exit ?_
      refine hK111 _ _ ?_
      clear hK111 K111 hK135 K135
      refine wp_seq_k fun K270 hK270 => ?_
      have hall : ∀ j, j < s.size → 48 ≤ bAt s j ∧ bAt s j ≤ 57 := fun j hj => hdg j (by omega)
      have hdB : digB s.data.toList = true := digB_yes hne hall hlead
      refine wp_g0 [true] [] 78
        [ve (sv none ([]) 0)] hs141 (.eq (.nil)) ?_ ?_
      · skip
        refine .o1 (tk rfl rfl fun _ w hn k => ⟨_, v_assign rfl rfl, rfl⟩) ?_
        exact .nil
      intro a271 w272 hn273 ha274
      have hs275 := ha274.size.trans hs141
      have hd276 := ha274.defers.trans hd142
      have h277 := ha274.fx 2 h144
      have h278 := ha274.fx 4 h145
      have h279 := ha274.fx 5 h146
      have h280 := ha274.ge 0 7 rfl
      have hb281 := hb148.new_ hn273
      have hN282 := hN149.transNew hn273
      clear hs141 hd142 h143 h144 h145 h146 hv269 hb148 hN149 ha274 hn273
      refine st_nil ?_
      refine hK270 _ _ ?_
      clear hK270 K270
      refine wp_seq_k fun K283 hK283 => ?_
      refine wp_seq_k fun K284 hK284 => ?_
      refine wp_g0 [true] [] 78
        [ve (iv 0)] hs275 (.eq (.nil)) ?_ ?_
      · skip
        refine .o1 (tk rfl rfl fun _ w hn k => ⟨_, v_assign rfl rfl, rfl⟩) ?_
        exact .nil
      intro a285 w286 hn287 ha288
      have hs289 := ha288.size.trans hs275
      have hd290 := ha288.defers.trans hd276
      have h291 := ha288.fx 2 h277
      have h292 := ha288.fx 4 h278
      have h293 := ha288.fx 5 h279
      have h294 := ha288.fx 7 h280
      have h295 := ha288.ge 0 8 rfl
      have hb296 := hb281.new_ hn287
      have hN297 := hN282.transNew hn287
      clear hs275 hd276 h277 h278 h279 h280 hb281 hN282 ha288 hn287
      refine st_nil ?_
      refine hK284 _ _ ?_
      clear hK284 K284
      refine wp_block ?_
      refine wp_loopX (fun (mm : Nat) (aa : Act) (ww : World) => ∃ (i2 : Nat) (A1 : Option Addr) (c1 : Nat), mm = s.size - i2 ∧ aa.tmps.size = 78 ∧ aa.defers = [] ∧ New w ww ∧ aa.eval (.tmp 7) = sv A1 (canon (decV (s.data.toList.take i2))) c1 ∧ aa.eval (.tmp 8) = iv (i2 : Int) ∧ aa.eval (.tmp 2) = pv q10 ∧ aa.eval (.tmp 4) = .bool false ∧ aa.eval (.tmp 5) = .string s ∧ Blk ww q10 24 [.bool false, sv none ([]) 0] ∧ SOwn ww w.heap.size 50 .u32 A1 (canon (decV (s.data.toList.take i2))) c1 ∧ (i2 ≤ s.size) ∧ ((canon (decV (s.data.toList.take i2))).length ≤ 8)) (fun mm => mm) ⟨_, ⟨0, none, 0, rfl, hs289, hd290, hN297, (h294.trans (by rw [List.take_zero, show decV [] = 0 from rfl, canon_zero])), h295, h291, h292, h293, hb296, (by rw [List.take_zero, show decV [] = 0 from rfl, canon_zero]; exact SOwn.nil _ _ _ _), (Nat.zero_le _), (by simp [decV, canon_zero])⟩⟩ ?_
      clear hs289 hd290 hN297 h291 h292 h293 h294 h295 hb296
      rintro mm a298 w299 ⟨i2, A1, c1, hmm, hs300, hd301, hN302, h303, h304, h305, h306, h307, hb308, hr309, hi2, hv8⟩
      refine wp_seq_k fun K310 hK310 => ?_
      refine wp_seq_k fun K311 hK311 => ?_
      refine wp_g0 [true, true, true, true] [] 78
        [ve (iv (i2 : Int)),
         ve (.string s),
         ve (iv (s.size : Int)),
         ve (.bool (decide ((i2 : Int) < (s.size : Int))))] hs300 (.eq (.eq (.eq (.eq (.nil))))) ?_ ?_
      · skip
        refine .o1 (tk rfl rfl fun _ w hn k => ⟨_, v_move rfl (k.fx 8 h304), rfl⟩) ?_
        refine .o1 (tk rfl rfl fun _ w hn k => ⟨_, v_move rfl (k.fx 5 h307), rfl⟩) ?_
        refine .o1 (tk rfl rfl fun _ w hn k => ⟨_, v_lenS rfl (k.eq1 1 55 rfl) (by kernel_rfl), rfl⟩) ?_
        refine .o1 (tk rfl rfl fun _ w hn k => ⟨_, v_bin rfl (k.eq1 0 54 rfl) (k.eq1 2 56 rfl) (fun _ => rfl) (r_lssK rfl), rfl⟩) ?_
        exact .nil
      intro a312 w313 hn314 ha315
      have hs316 := ha315.size.trans hs300
      have hd317 := ha315.defers.trans hd301
      have h318 := ha315.fx 7 h303
      have h319 := ha315.fx 8 h304
      have h320 := ha315.fx 2 h305
      have h321 := ha315.fx 4 h306
      have h322 := ha315.fx 5 h307
      have h323 := ha315.ge 3 57 rfl
      have hb324 := hb308.new_ hn314
      have hr325 := hr309.new_ hn314
      have hN326 := hN302.transNew hn314
      clear hs300 hd301 h303 h304 h305 h306 h307 hb308 hr309 hN302 ha315 hn314
      refine st_nil ?_
      refine hK311 _ _ ?_
      clear hK311 K311
      rcases Bool.eq_false_or_eq_true (decide ((i2 : Int) < (s.size : Int))) with ht327 | ht327
      · skip
        have ht327d := of_decide_eq_true ht327
        have hv328 : a312.eval (.tmp 57) = .bool true := h323.trans (congrArg Value.bool ht327)
        clear h323
        refine wp_cond_true hv328 ?_
        refine wp_skip ?_
        refine hK310 _ _ ?_
        clear hK310 K310
        refine wp_seq_k fun K329 hK329 => ?_
        refine wp_block ?_
        refine wp_seq_k fun K330 hK330 => ?_
        have hb2 := hall i2 (by omega)
        have hbl := bAt_lt s i2
        have hstep := decV_step (s := s) (i := i2) (by omega)
        have hl9 : (canon (val (canon (decV (s.data.toList.take i2))) * val [10])).length ≤ 9 := ten_len hv8
        have hl1 : (canon (val [(bAt s i2 - 48)])).length ≤ 1 := one_len (by omega)
        refine wp_g0 [true, true, true, true, true, true, true, true, true, true, true, false] [(11, true)] 78
          [ve (sv A1 (canon (decV (s.data.toList.take i2))) c1),
           (fun (v : Value) (W : World) => ∃ (A3 : Option Addr) (c4 : Nat), v = sv A3 ([10]) c4 ∧ SOwn W w313.heap.size 50 .u32 A3 ([10]) c4),
           (fun (v : Value) (W : World) => ∃ (A11 : Option Addr) (c12 : Nat), v = sv A11 (canon (val (canon (decV (s.data.toList.take i2))) * val ([10]))) c12 ∧ SOwn W w313.heap.size 50 .u32 A11 (canon (val (canon (decV (s.data.toList.take i2))) * val ([10]))) c12),
           ve (.string s),
           ve (iv (i2 : Int)),
           ve (.int .u8 ((bAt s i2 : Nat) : Int)),
           ve (.int .u8 (((bAt s i2) - 48 : Nat) : Int)),
           ve (.int .u32 (((bAt s i2) - 48 : Nat) : Int)),
           (fun (v : Value) (W : World) => ∃ (A15 : Option Addr) (c16 : Nat), v = sv A15 ([((bAt s i2) - 48)]) c16 ∧ SOwn W w313.heap.size 50 .u32 A15 ([((bAt s i2) - 48)]) c16),
           (fun (v : Value) (W : World) => ∃ (A23 : Option Addr) (c24 : Nat), v = sv A23 (canon (val ([((bAt s i2) - 48)]))) c24 ∧ SOwn W w313.heap.size 50 .u32 A23 (canon (val ([((bAt s i2) - 48)]))) c24),
           (fun (v : Value) (W : World) => ∃ (A35 : Option Addr) (c36 : Nat), v = sv A35 (canon (val (canon (val (canon (decV (s.data.toList.take i2))) * val ([10]))) + val (canon (val ([((bAt s i2) - 48)]))))) c36 ∧ SOwn W w313.heap.size 50 .u32 A35 (canon (val (canon (val (canon (decV (s.data.toList.take i2))) * val ([10]))) + val (canon (val ([((bAt s i2) - 48)]))))) c36),
           vt] hs316 (.eq (.cons (fun v W W' hn ⟨A3, c4, he, h0⟩ => ⟨A3, c4, he, h0.new_ hn⟩) (.cons (fun v W W' hn ⟨A11, c12, he, h0⟩ => ⟨A11, c12, he, h0.new_ hn⟩) (.eq (.eq (.eq (.eq (.eq (.cons (fun v W W' hn ⟨A15, c16, he, h0⟩ => ⟨A15, c16, he, h0.new_ hn⟩) (.cons (fun v W W' hn ⟨A23, c24, he, h0⟩ => ⟨A23, c24, he, h0.new_ hn⟩) (.cons (fun v W W' hn ⟨A35, c36, he, h0⟩ => ⟨A35, c36, he, h0.new_ hn⟩) (.tt (.nil))))))))))))) ?_ ?_
        · skip
          refine .o1 (tk rfl rfl fun _ w hn k => ⟨_, v_move rfl (k.fx 7 h318), rfl⟩) ?_
          refine .o1 (tkA rfl (noG rfl) fun _ w hn k => (by
                exact x_bslice (k := .u32) (ps := [(0, .int .u32 10)]) [10] rfl (parts1 rfl) elW rfl (by omega) (by omega) (by first | kernel_rfl | (simp only [enc, List.map_cons, List.map_nil, Int.toNat_natCast, Int.toNat_of_nonneg (by omega : (0 : Int) ≤ _)]; kernel_rfl)) fun A1 c2 W' hmo => ⟨A1, c2, rfl, (hmo.more hn.size)⟩)) ?_
          refine .o1 (tkC rfl (noG rfl) rfl fun _ w hn k => (by
                obtain ⟨A5, c6, e7, hx8⟩ : (fun (v : Value) (W : World) => ∃ (A3 : Option Addr) (c4 : Nat), v = sv A3 ([10]) c4 ∧ SOwn W w313.heap.size 50 .u32 A3 ([10]) c4) _ _ := k.dep 1 61 (by kernel_rfl) (by kernel_rfl)
                refine ⟨#[sv A1 (canon (decV (s.data.toList.take i2))) c1, sv A5 ([10]) c6], _, args2 (k.eq1 0 60 rfl) e7, fun w => by kernel_rfl, rtimes_c _ _ _ _ _ _ _ (hr325.new_ hn).row hx8.row (limbs_canon _) limbs_10 (by first | omega | (simp only [List.length_nil, List.length_cons, List.length_set, List.length_replicate]; omega)) (by first | omega | (simp only [List.length_nil, List.length_cons, List.length_set, List.length_replicate]; omega)), ?_⟩
                rintro e w' ⟨A9, c10, rfl, hmo, hm⟩
                exact ⟨_, rfl, hm, ⟨A9, c10, rfl, (hmo.more hn.size)⟩⟩)) ?_
          refine .o1 (tk rfl rfl fun _ w hn k => ⟨_, v_move rfl (k.fx 5 h322), rfl⟩) ?_
          refine .o1 (tk rfl rfl fun _ w hn k => ⟨_, v_move rfl (k.fx 8 h319), rfl⟩) ?_
          refine .o1 (tk rfl rfl fun _ w hn k => ⟨_, v_idxN rfl (k.eq1 3 63 rfl) (k.eq1 4 64 rfl) (by kernel_rfl) (by omega), rfl⟩) ?_
          refine .o1 (tk rfl rfl fun _ w hn k => ⟨_, v_bin rfl (k.eq1 5 65 rfl) rfl (fun _ => rfl) (n_sub (by omega) (IntWalk.u8_in _ (by omega))), rfl⟩) ?_
          refine .o1 (tk rfl rfl fun _ w hn k => ⟨_, v_conv rfl (k.eq1 6 66 rfl) (n_conv (by kernel_rfl) (by kernel_rfl) (by kernel_rfl) (IntWalk.u32_in _ (by omega))), rfl⟩) ?_
          refine .o1 (tkA rfl (noG rfl) fun _ w hn k => (by
                exact x_bslice (k := .u32) (ps := [(0, .int .u32 (((bAt s i2) - 48 : Nat) : Int))]) [((bAt s i2) - 48)] rfl (parts1 (k.eq1 7 67 rfl)) elW rfl (by omega) (by omega) (by first | kernel_rfl | (simp only [enc, List.map_cons, List.map_nil, Int.toNat_natCast, Int.toNat_of_nonneg (by omega : (0 : Int) ≤ _)]; kernel_rfl)) fun A13 c14 W' hmo => ⟨A13, c14, rfl, (hmo.more hn.size)⟩)) ?_
          refine .o1 (tkC rfl (noG rfl) rfl fun _ w hn k => (by
                obtain ⟨A17, c18, e19, hx20⟩ : (fun (v : Value) (W : World) => ∃ (A15 : Option Addr) (c16 : Nat), v = sv A15 ([((bAt s i2) - 48)]) c16 ∧ SOwn W w313.heap.size 50 .u32 A15 ([((bAt s i2) - 48)]) c16) _ _ := k.dep 8 68 (by kernel_rfl) (by kernel_rfl)
                refine ⟨#[sv A17 ([((bAt s i2) - 48)]) c18], _, args1 e19, fun w => by kernel_rfl, rtrim_c _ _ _ _ hx20.row (limbs_d (bAt_lt _ _)) (by first | omega | (simp only [List.length_nil, List.length_cons, List.length_set, List.length_replicate]; omega)), ?_⟩
                rintro e w' ⟨A21, c22, rfl, hmo, hm⟩
                exact ⟨_, rfl, hm, ⟨A21, c22, rfl, (hmo.more hn.size)⟩⟩)) ?_
          refine .o1 (tkC rfl (noG rfl) rfl fun _ w hn k => (by
                obtain ⟨A25, c26, e27, hx28⟩ : (fun (v : Value) (W : World) => ∃ (A11 : Option Addr) (c12 : Nat), v = sv A11 (canon (val (canon (decV (s.data.toList.take i2))) * val ([10]))) c12 ∧ SOwn W w313.heap.size 50 .u32 A11 (canon (val (canon (decV (s.data.toList.take i2))) * val ([10]))) c12) _ _ := k.dep 2 62 (by kernel_rfl) (by kernel_rfl)
                obtain ⟨A29, c30, e31, hx32⟩ : (fun (v : Value) (W : World) => ∃ (A23 : Option Addr) (c24 : Nat), v = sv A23 (canon (val ([((bAt s i2) - 48)]))) c24 ∧ SOwn W w313.heap.size 50 .u32 A23 (canon (val ([((bAt s i2) - 48)]))) c24) _ _ := k.dep 9 69 (by kernel_rfl) (by kernel_rfl)
                refine ⟨#[sv A25 (canon (val (canon (decV (s.data.toList.take i2))) * val ([10]))) c26, sv A29 (canon (val ([((bAt s i2) - 48)]))) c30], _, args2 e27 e31, fun w => by kernel_rfl, rplus_c _ _ _ _ _ _ _ hx28.row hx32.row (limbs_canon _) (limbs_canon _) (by first | omega | (simp only [List.length_nil, List.length_cons, List.length_set, List.length_replicate]; omega)) (by first | omega | (simp only [List.length_nil, List.length_cons, List.length_set, List.length_replicate]; omega)), ?_⟩
                rintro e w' ⟨A33, c34, rfl, hmo, hm⟩
                exact ⟨_, rfl, hm, ⟨A33, c34, rfl, (hmo.more hn.size)⟩⟩)) ?_
          refine .off ?_
          exact .nil
        intro a331 w332 hn333 ha334
        have hs335 := ha334.size.trans hs316
        have hd336 := ha334.defers.trans hd317
        have h337 := ha334.fx 7 h318
        have h338 := ha334.fx 8 h319
        have h339 := ha334.fx 2 h320
        have h340 := ha334.fx 4 h321
        have h341 := ha334.fx 5 h322
        obtain ⟨A343, cc344, h342, hr345⟩ : (fun (v : Value) (W : World) => ∃ (A35 : Option Addr) (c36 : Nat), v = sv A35 (canon (val (canon (val (canon (decV (s.data.toList.take i2))) * val ([10]))) + val (canon (val ([((bAt s i2) - 48)]))))) c36 ∧ SOwn W w313.heap.size 50 .u32 A35 (canon (val (canon (val (canon (decV (s.data.toList.take i2))) * val ([10]))) + val (canon (val ([((bAt s i2) - 48)]))))) c36) _ _ := ha334.got 10 70 rfl (by kernel_rfl)
        have h342 : a331.eval (.tmp 70) = sv A343 (canon (val (canon (val (canon (decV (s.data.toList.take i2))) * val ([10]))) + val (canon (val ([((bAt s i2) - 48)]))))) cc344 := h342
        have hb346 := hb324.new_ hn333
        have hr347 := hr325.new_ hn333
        have hr348 := hr345.more hN326.size
        have hN349 := hN326.transNew hn333
        clear hs316 hd317 h318 h319 h320 h321 h322 hv328 hb324 hr325 hr345 hN326 ha334 hn333
        refine st_take rfl rfl (y_assign (v := sv A343 (canon (val (canon (val (canon (decV (s.data.toList.take i2))) * val ([10]))) + val (canon (val ([((bAt s i2) - 48)]))))) cc344) rfl h342) rfl ?_
        obtain ⟨a350, ha351⟩ : ∃ a', a' = a331.put (some 7) (sv A343 (canon (val (canon (val (canon (decV (s.data.toList.take i2))) * val ([10]))) + val (canon (val ([((bAt s i2) - 48)]))))) cc344) := ⟨_, rfl⟩
        have hs352 : a350.tmps.size = 78 := by rw [ha351, put_size]; exact hs335
        have hd353 : a350.defers = [] := by rw [ha351, put_defers]; exact hd336
        have h354 : a350.eval (.tmp 8) = iv (i2 : Int) := by rw [ha351, put_ne _ _ _ _ (by decide)]; exact h338
        have h355 : a350.eval (.tmp 2) = pv q10 := by rw [ha351, put_ne _ _ _ _ (by decide)]; exact h339
        have h356 : a350.eval (.tmp 4) = .bool false := by rw [ha351, put_ne _ _ _ _ (by decide)]; exact h340
        have h357 : a350.eval (.tmp 5) = .string s := by rw [ha351, put_ne _ _ _ _ (by decide)]; exact h341
        have h358 : a350.eval (.tmp 70) = sv A343 (canon (val (canon (val (canon (decV (s.data.toList.take i2))) * val ([10]))) + val (canon (val ([((bAt s i2) - 48)]))))) cc344 := by rw [ha351, put_ne _ _ _ _ (by decide)]; exact h342
        have h359 : a350.eval (.tmp 7) = sv A343 (canon (val (canon (val (canon (decV (s.data.toList.take i2))) * val ([10]))) + val (canon (val ([((bAt s i2) - 48)]))))) cc344 := by rw [ha351]; exact put_same _ _ _ (by rw [hs335]; decide)
        show stepsTo _ _ _ _ _ (a331.put (some 7) (sv A343 (canon (val (canon (val (canon (decV (s.data.toList.take i2))) * val ([10]))) + val (canon (val ([((bAt s i2) - 48)]))))) cc344)) _
        rw [← ha351]
        clear ha351 hs335 hd336 h337 h338 h339 h340 h341 h342
        refine st_nil ?_
        clear h358 hr347
        have he360 : (canon (val (canon (val (canon (decV (s.data.toList.take i2))) * val ([10]))) + val (canon (val ([((bAt s i2) - 48)]))))) = (canon (decV (s.data.toList.take (i2 + 1)))) := by rw [hstep, val_canon, val_canon, val_canon, val_one, val_one, Nat.mul_comm]
        rw [he360] at h359
        rw [he360] at hr348
        refine hK330 _ _ ?_
        clear hK330 K330
        refine wp_seq_k fun K361 hK361 => ?_
        rcases Bool.eq_false_or_eq_true (decide (((canon (decV (s.data.toList.take (i2 + 1)))).length : Int) ≤ 8)) with ht362 | ht362
        · skip
          have ht362d := of_decide_eq_true ht362
          refine wp_g0 [true, true, true] [] 78
            [ve (sv A343 (canon (decV (s.data.toList.take (i2 + 1)))) cc344),
             ve (iv ((canon (decV (s.data.toList.take (i2 + 1)))).length : Int)),
             ve (.bool false)] hs352 (.eq (.eq (.eq (.nil)))) ?_ ?_
          · skip
            refine .o1 (tk rfl rfl fun _ w hn k => ⟨_, v_move rfl (k.fx 7 h359), rfl⟩) ?_
            refine .o1 (tk rfl rfl fun _ w hn k => ⟨_, v_lenR rfl elW (k.eq1 0 71 rfl), rfl⟩) ?_
            refine .o1 (tk rfl rfl fun _ w hn k => ⟨_, v_bin rfl (k.eq1 1 72 rfl) rfl (fun _ => rfl) (r_gtrK ht362), rfl⟩) ?_
            exact .nil
          intro a363 w364 hn365 ha366
          have hs367 := ha366.size.trans hs352
          have hd368 := ha366.defers.trans hd353
          have h369 := ha366.fx 8 h354
          have h370 := ha366.fx 2 h355
          have h371 := ha366.fx 4 h356
          have h372 := ha366.fx 5 h357
          have h373 := ha366.fx 7 h359
          have h374 := ha366.ge 2 73 rfl
          have hb375 := hb346.new_ hn365
          have hr376 := hr348.new_ hn365
          have hN377 := hN349.transNew hn365
          clear hs352 hd353 h354 h355 h356 h357 h359 hb346 hr348 hN349 ha366 hn365
          refine st_nil ?_
          refine hK361 _ _ ?_
          clear hK361 K361
          refine wp_cond_false h374 ?_
          refine wp_skip ?_
          refine hK329 _ _ ?_
          clear hK329 K329
          refine wp_g0 [true, true, false] [(2, true)] 78
            [ve (iv (i2 : Int)),
             ve (iv ((i2 + 1 : Nat) : Int)),
             vt] hs367 (.eq (.eq (.tt (.nil)))) ?_ ?_
          · skip
            refine .o1 (tk rfl rfl fun _ w hn k => ⟨_, v_move rfl (k.fx 8 h369), rfl⟩) ?_
            refine .o1 (tk rfl rfl fun _ w hn k => ⟨_, v_bin rfl (k.eq1 0 58 rfl) rfl (fun _ => rfl) (n_add (by omega) (IntWalk.i64_in _ (by omega))), rfl⟩) ?_
            refine .off ?_
            exact .nil
          intro a378 w379 hn380 ha381
          have hs382 := ha381.size.trans hs367
          have hd383 := ha381.defers.trans hd368
          have h384 := ha381.fx 8 h369
          have h385 := ha381.fx 2 h370
          have h386 := ha381.fx 4 h371
          have h387 := ha381.fx 5 h372
          have h388 := ha381.fx 7 h373
          have h389 := ha381.ge 1 59 rfl
          have hb390 := hb375.new_ hn380
          have hr391 := hr376.new_ hn380
          have hN392 := hN377.transNew hn380
          clear hs367 hd368 h369 h370 h371 h372 h373 h374 hb375 hr376 hN377 ha381 hn380
          refine st_take rfl rfl (y_assign (v := iv ((i2 + 1 : Nat) : Int)) rfl h389) rfl ?_
          obtain ⟨a393, ha394⟩ : ∃ a', a' = a378.put (some 8) (iv ((i2 + 1 : Nat) : Int)) := ⟨_, rfl⟩
          have hs395 : a393.tmps.size = 78 := by rw [ha394, put_size]; exact hs382
          have hd396 : a393.defers = [] := by rw [ha394, put_defers]; exact hd383
          have h397 : a393.eval (.tmp 2) = pv q10 := by rw [ha394, put_ne _ _ _ _ (by decide)]; exact h385
          have h398 : a393.eval (.tmp 4) = .bool false := by rw [ha394, put_ne _ _ _ _ (by decide)]; exact h386
          have h399 : a393.eval (.tmp 5) = .string s := by rw [ha394, put_ne _ _ _ _ (by decide)]; exact h387
          have h400 : a393.eval (.tmp 7) = sv A343 (canon (decV (s.data.toList.take (i2 + 1)))) cc344 := by rw [ha394, put_ne _ _ _ _ (by decide)]; exact h388
          have h401 : a393.eval (.tmp 59) = iv ((i2 + 1 : Nat) : Int) := by rw [ha394, put_ne _ _ _ _ (by decide)]; exact h389
          have h402 : a393.eval (.tmp 8) = iv ((i2 + 1 : Nat) : Int) := by rw [ha394]; exact put_same _ _ _ (by rw [hs382]; decide)
          show stepsTo _ _ _ _ _ (a378.put (some 8) (iv ((i2 + 1 : Nat) : Int))) _
          rw [← ha394]
          clear ha394 hs382 hd383 h384 h385 h386 h387 h388 h389
          refine st_nil ?_
          clear h401
          refine then_n ?_
          exact ⟨_, ⟨i2 + 1, A343, cc344, rfl, hs395, hd396, hN392, h400, (h402.trans (congrArg (Value.int .i64) (by omega))), h397, h398, h399, hb390, hr391, (by omega), (by omega)⟩, (by omega)⟩
        have ht362d := of_decide_eq_false ht362
        refine wp_g0 [true, true, true] [] 78
          [ve (sv A343 (canon (decV (s.data.toList.take (i2 + 1)))) cc344),
           ve (iv ((canon (decV (s.data.toList.take (i2 + 1)))).length : Int)),
           ve (.bool true)] hs352 (.eq (.eq (.eq (.nil)))) ?_ ?_
        · skip
          refine .o1 (tk rfl rfl fun _ w hn k => ⟨_, v_move rfl (k.fx 7 h359), rfl⟩) ?_
          refine .o1 (tk rfl rfl fun _ w hn k => ⟨_, v_lenR rfl elW (k.eq1 0 71 rfl), rfl⟩) ?_
          refine .o1 (tk rfl rfl fun _ w hn k => ⟨_, v_bin rfl (k.eq1 1 72 rfl) rfl (fun _ => rfl) (r_gtrK ht362), rfl⟩) ?_
          exact .nil
        intro a403 w404 hn405 ha406
        have hs407 := ha406.size.trans hs352
        have hd408 := ha406.defers.trans hd353
        have h409 := ha406.fx 8 h354
        have h410 := ha406.fx 2 h355
        have h411 := ha406.fx 4 h356
        have h412 := ha406.fx 5 h357
        have h413 := ha406.fx 7 h359
        have h414 := ha406.ge 2 73 rfl
        have hb415 := hb346.new_ hn405
        have hr416 := hr348.new_ hn405
        have hN417 := hN349.transNew hn405
        clear hs352 hd353 h354 h355 h356 h357 h359 hb346 hr348 hN349 ha406 hn405
        refine st_nil ?_
        refine hK361 _ _ ?_
        clear hK361 K361
        refine wp_cond_true h414 ?_
        refine wp_seq_k fun K418 hK418 => ?_
        refine wp_g0 [true, false, false] [(1, false), (2, true)] 78
          [ve (.agg #[.bool false, sv none ([]) 0]),
           vt,
           vt] hs407 (.eq (.tt (.tt (.nil)))) ?_ ?_
        · skip
          refine .o1 (tk rfl rfl fun _ w hn k => ⟨_, v_build (ps := []) rfl parts0 (by kernel_rfl), rfl⟩) ?_
          refine .off ?_
          refine .off ?_
          exact .nil
        intro a419 w420 hn421 ha422
        have hs423 := ha422.size.trans hs407
        have hd424 := ha422.defers.trans hd408
        have h425 := ha422.fx 2 h410
        have h426 := ha422.ge 0 74 rfl
        have hb427 := hb415.new_ hn421
        have hN428 := hN417.transNew hn421
        clear hs407 hd408 h409 h410 h411 h412 h413 h414 hb415 hr416 hN417 ha422 hn421
        obtain ⟨w429, -, hst430, hb431, hu432, hf433⟩ := s_two (v0 := .bool false) (v1 := sv none ([]) 0) Try.sizeOf24 rfl rfl rfl hb427
        refine st_act rfl rfl fun K434 hL435 => a_store' rfl h425 h426 hst430 (hL435 _ _ trivial ?_)
        have hN436 := hN428.trans hu432 (fun k hk hkb => by subst hkb; omega)
        clear hb427 hst430 K434 hL435 hN428 hu432 hf433
        refine st_take rfl rfl (y_assign (v := iv 3) rfl rfl) rfl ?_
        obtain ⟨a437, ha438⟩ : ∃ a', a' = a419.put (some 3) (iv 3) := ⟨_, rfl⟩
        have hs439 : a437.tmps.size = 78 := by rw [ha438, put_size]; exact hs423
        have hd440 : a437.defers = [] := by rw [ha438, put_defers]; exact hd424
        have h441 : a437.eval (.tmp 2) = pv q10 := by rw [ha438, put_ne _ _ _ _ (by decide)]; exact h425
        have h442 : a437.eval (.tmp 74) = .agg #[.bool false, sv none ([]) 0] := by rw [ha438, put_ne _ _ _ _ (by decide)]; exact h426
        have h443 : a437.eval (.tmp 3) = iv 3 := by rw [ha438]; exact put_same _ _ _ (by rw [hs423]; decide)
        show stepsTo _ _ _ _ _ (a419.put (some 3) (iv 3)) _
        rw [← ha438]
        clear ha438 hs423 hd424 h425 h426
        refine st_nil ?_
        clear h442
        refine hK418 _ _ ?_
        clear hK418 K418
        refine wp_ret (ret_k hd440 (v := .tuple #[.agg #[.bool false, sv none ([]) 0], iv 3]) (res_ct rfl h441 h443 (l_two Try.isAgg24 Try.sizeOf24 hb431)) ?_)
        have hs2 : (iv 3 : Value) = iv (parseZ s.data.toList).2 := by rw [pz_long hR hdB (fun h => by cases h) (dec_long ht362)]
        have hz1 : (decide ((parseZ s.data.toList).1 < 0)) = false := by rw [pz_long hR hdB (fun h => by cases h) (dec_long ht362)]; rfl
        have hz2 : canon ((parseZ s.data.toList).1).natAbs = [] := by rw [pz_long hR hdB (fun h => by cases h) (dec_long ht362)]; exact canon_zero
        exact ⟨none, 0, by rw [hz1, hz2, hs2], by rw [hz2]; exact (SRow.nil _ _), hN436⟩
      have ht327d := of_decide_eq_false ht327
      have hv444 : a312.eval (.tmp 57) = .bool false := h323.trans (congrArg Value.bool ht327)
      clear h323
      refine wp_cond_false hv444 ?_
      refine wp_exit ?_
      refine hK283 _ _ ?_
      clear hK283 K283 hK310 K310
      refine wp_seq_k fun K445 hK445 => ?_
      refine wp_g0 [true, true, true, false, false] [(3, false), (4, true)] 78
        [ve (.bool false),
         ve (sv A1 (canon (decV (s.data.toList.take i2))) c1),
         (fun (v : Value) (W : World) => ∃ (A45 : Option Addr) (c46 : Nat), v = .agg #[.bool (decide (sgn false (val (canon (decV (s.data.toList.take i2)))) < 0)), sv A45 (canon (sgn false (val (canon (decV (s.data.toList.take i2))))).natAbs) c46] ∧ SRow W .u32 A45 (canon (sgn false (val (canon (decV (s.data.toList.take i2))))).natAbs) c46),
         vt,
         vt] hs316 (.eq (.eq (.cons (fun v W W' hn ⟨A45, c46, he, h0⟩ => ⟨A45, c46, he, h0.new_ hn⟩) (.tt (.tt (.nil)))))) ?_ ?_
      · skip
        refine .o1 (tk rfl rfl fun _ w hn k => ⟨_, v_move rfl (k.fx 4 h321), rfl⟩) ?_
        refine .o1 (tk rfl rfl fun _ w hn k => ⟨_, v_move rfl (k.fx 7 h318), rfl⟩) ?_
        refine .o1 (tkC rfl (noG rfl) rfl fun _ w hn k => (by
              refine ⟨#[.bool false, sv A1 (canon (decV (s.data.toList.take i2))) c1], _, args2 (k.eq1 0 75 rfl) (k.eq1 1 76 rfl), fun w => by kernel_rfl, rmade_c _ _ _ _ _ (hr325.new_ hn).row (limbs_canon _) (by first | omega | (simp only [List.length_nil, List.length_cons, List.length_set, List.length_replicate]; omega)), ?_⟩
              rintro e w' ⟨A43, c44, rfl, hmo, hm⟩
              exact ⟨_, rfl, hm, ⟨A43, c44, rfl, hmo⟩⟩)) ?_
        refine .off ?_
        refine .off ?_
        exact .nil
      intro a446 w447 hn448 ha449
      have hs450 := ha449.size.trans hs316
      have hd451 := ha449.defers.trans hd317
      have h452 := ha449.fx 2 h320
      obtain ⟨A454, cc455, h453, hr456⟩ : (fun (v : Value) (W : World) => ∃ (A45 : Option Addr) (c46 : Nat), v = .agg #[.bool (decide (sgn false (val (canon (decV (s.data.toList.take i2)))) < 0)), sv A45 (canon (sgn false (val (canon (decV (s.data.toList.take i2))))).natAbs) c46] ∧ SRow W .u32 A45 (canon (sgn false (val (canon (decV (s.data.toList.take i2))))).natAbs) c46) _ _ := ha449.got 2 77 rfl (by kernel_rfl)
      have h453 : a446.eval (.tmp 77) = .agg #[.bool (decide (sgn false (val (canon (decV (s.data.toList.take i2)))) < 0)), sv A454 (canon (sgn false (val (canon (decV (s.data.toList.take i2))))).natAbs) cc455] := h453
      have hb457 := hb324.new_ hn448
      have hN458 := hN326.transNew hn448
      clear hs316 hd317 h318 h319 h320 h321 h322 hv444 hb324 hr325 hN326 ha449 hn448
      obtain ⟨w459, -, hst460, hb461, hu462, hf463⟩ := s_two (v0 := .bool (decide (sgn false (val (canon (decV (s.data.toList.take i2)))) < 0))) (v1 := sv A454 (canon (sgn false (val (canon (decV (s.data.toList.take i2))))).natAbs) cc455) Try.sizeOf24 rfl rfl rfl hb457
      refine st_act rfl rfl fun K464 hL465 => a_store' rfl h452 h453 hst460 (hL465 _ _ trivial ?_)
      have hr466 := hr456.far hb457 hu462 (by first | rfl | decide | simp [notK])
      have hN467 := hN458.trans hu462 (fun k hk hkb => by subst hkb; omega)
      clear hb457 hst460 K464 hL465 hN458 hr456 hu462 hf463
      refine st_take rfl rfl (y_assign (v := iv 0) rfl rfl) rfl ?_
      obtain ⟨a468, ha469⟩ : ∃ a', a' = a446.put (some 3) (iv 0) := ⟨_, rfl⟩
      have hs470 : a468.tmps.size = 78 := by rw [ha469, put_size]; exact hs450
      have hd471 : a468.defers = [] := by rw [ha469, put_defers]; exact hd451
      have h472 : a468.eval (.tmp 2) = pv q10 := by rw [ha469, put_ne _ _ _ _ (by decide)]; exact h452
      have h473 : a468.eval (.tmp 77) = .agg #[.bool (decide (sgn false (val (canon (decV (s.data.toList.take i2)))) < 0)), sv A454 (canon (sgn false (val (canon (decV (s.data.toList.take i2))))).natAbs) cc455] := by rw [ha469, put_ne _ _ _ _ (by decide)]; exact h453
      have h474 : a468.eval (.tmp 3) = iv 0 := by rw [ha469]; exact put_same _ _ _ (by rw [hs450]; decide)
      show stepsTo _ _ _ _ _ (a446.put (some 3) (iv 0)) _
      rw [← ha469]
      clear ha469 hs450 hd451 h452 h453
      refine st_nil ?_
      clear h473
      refine hK445 _ _ ?_
      clear hK445 K445
      refine wp_ret (ret_k hd471 (v := .tuple #[.agg #[.bool (decide (sgn false (val (canon (decV (s.data.toList.take i2)))) < 0)), sv A454 (canon (sgn false (val (canon (decV (s.data.toList.take i2))))).natAbs) cc455], iv 0]) (res_ct rfl h472 h474 (l_two Try.isAgg24 Try.sizeOf24 hb461)) ?_)
      have hs2 : (iv 0 : Value) = iv (parseZ s.data.toList).2 := by rw [pz_ok hR hdB (fun h => by cases h) (dec_ok (i := i2) (by omega) hv8)]
      have hz1 : sgn false (val (canon (decV (s.data.toList.take i2)))) = (parseZ s.data.toList).1 := by rw [pz_ok hR hdB (fun h => by cases h) (dec_ok (i := i2) (by omega) hv8), val_canon, dec_all (by omega)]
      exact ⟨A454, cc455, (congrArg (fun z : Int => Ending.returned (Value.tuple #[.agg #[.bool (decide (z < 0)), sv A454 (canon z.natAbs) cc455], iv 0])) hz1).trans (congrArg (fun y => Ending.returned (Value.tuple #[.agg #[.bool (decide ((parseZ s.data.toList).1 < 0)), sv A454 (canon ((parseZ s.data.toList).1).natAbs) cc455], y])) hs2), Eq.mp (congrArg (fun z : Int => SRow _ .u32 A454 (canon z.natAbs) cc455) hz1) hr466, hN467⟩
    have ht98d := of_decide_eq_false ht98
    have hsp := size_pos ht58
    refine wp_g0 [true, true, true, true, true, true, true, true, true, true, true, true, true, true, true] [] 78
      [ve (.string s),
       ve (.bool false),
       ve (.bool false),
       ve (.string s),
       ve (.int .u8 ((bAt s 0 : Nat) : Int)),
       ve (.bool true),
       ve (.bool true),
       ve (.string s),
       ve (iv (s.size : Int)),
       ve (.bool true),
       ve (.bool true),
       ve undef,
       ve (.bool true),
       ve (.bool true),
       ve (.bool true)] hs47 (.eq (.eq (.eq (.eq (.eq (.eq (.eq (.eq (.eq (.eq (.eq (.eq (.eq (.eq (.eq (.nil)))))))))))))))) ?_ ?_
    · skip
      refine .o1 (tk rfl rfl fun _ w hn k => ⟨_, v_move rfl (k.fx 5 h52), rfl⟩) ?_
      refine .o1 (tk rfl rfl fun _ w hn k => ⟨_, v_bin rfl (k.eq1 0 21 rfl) rfl (fun _ => rfl) (r_eqlS ht58), rfl⟩) ?_
      refine .o1 (tk rfl rfl fun _ w hn k => ⟨_, v_move rfl (k.eq1 1 22 rfl), rfl⟩) ?_
      refine .o1 (tg rfl rfl rfl (fun _ _ k => k.eq1 2 23 rfl) fun _ w hn k => ⟨_, v_move rfl (k.fx 5 h52), rfl⟩) ?_
      refine .o1 (tg rfl rfl rfl (fun _ _ k => k.eq1 2 23 rfl) fun _ w hn k => ⟨_, v_idxN rfl (k.eq1 3 24 rfl) rfl (by kernel_rfl) (by omega), rfl⟩) ?_
      refine .o1 (tg rfl rfl rfl (fun _ _ k => k.eq1 2 23 rfl) fun _ w hn k => ⟨_, v_bin rfl (k.eq1 4 25 rfl) rfl (fun _ => rfl) (r_eql ht97), rfl⟩) ?_
      refine .o1 (tg rfl rfl rfl (fun _ _ k => k.eq1 2 23 rfl) fun _ w hn k => ⟨_, v_move rfl (k.eq1 5 26 rfl), rfl⟩) ?_
      refine .o1 (tg rfl rfl rfl (fun _ _ k => k.eq1 6 27 rfl) fun _ w hn k => ⟨_, v_move rfl (k.fx 5 h52), rfl⟩) ?_
      refine .o1 (tg rfl rfl rfl (fun _ _ k => k.eq1 6 27 rfl) fun _ w hn k => ⟨_, v_lenS rfl (k.eq1 7 28 rfl) (by kernel_rfl), rfl⟩) ?_
      refine .o1 (tg rfl rfl rfl (fun _ _ k => k.eq1 6 27 rfl) fun _ w hn k => ⟨_, v_bin rfl (k.eq1 8 29 rfl) rfl (fun _ => rfl) (r_gtrK ht98), rfl⟩) ?_
      refine .o1 (tg rfl rfl rfl (fun _ _ k => k.eq1 6 27 rfl) fun _ w hn k => ⟨_, v_move rfl (k.eq1 9 30 rfl), rfl⟩) ?_
      refine .o1 (sk rfl rfl rfl (fun _ _ _ k => k.eq1 10 31 rfl) (fun _ => rfl)) ?_
      refine .o1 (tg rfl rfl rfl (fun _ _ k => k.eq1 6 27 rfl) fun _ w hn k => ⟨_, v_pickT rfl (k.eq1 10 31 rfl) rfl, rfl⟩) ?_
      refine .o1 (tg rfl rfl rfl (fun _ _ k => k.eq1 2 23 rfl) fun _ w hn k => ⟨_, v_pickT rfl (k.eq1 6 27 rfl) (k.eq1 12 33 rfl), rfl⟩) ?_
      refine .o1 (tk rfl rfl fun _ w hn k => ⟨_, v_pickF rfl (k.eq1 2 23 rfl) (k.eq1 13 34 rfl), rfl⟩) ?_
      exact .nil
    intro a475 w476 hn477 ha478
    have hs479 := ha478.size.trans hs47
    have hd480 := ha478.defers.trans hd48
    have h481 := ha478.fx 2 h50
    have h482 := ha478.fx 4 h51
    have h483 := ha478.fx 5 h52
    have h484 := ha478.ge 14 35 rfl
    have hb485 := hb54.new_ hn477
    have hN486 := hN55.transNew hn477
    clear hs47 hd48 h49 h50 h51 h52 h53 hb54 hN55 ha478 hn477
    refine st_nil ?_
    refine hK57 _ _ ?_
    clear hK57 K57
    refine wp_cond_true h484 ?_
    refine wp_seq_k fun K487 hK487 => ?_
    refine wp_g0 [true, false, false] [(1, false), (2, true)] 78
      [ve (.agg #[.bool false, sv none ([]) 0]),
       vt,
       vt] hs479 (.eq (.tt (.tt (.nil)))) ?_ ?_
    · skip
      refine .o1 (tk rfl rfl fun _ w hn k => ⟨_, v_build (ps := []) rfl parts0 (by kernel_rfl), rfl⟩) ?_
      refine .off ?_
      refine .off ?_
      exact .nil
    intro a488 w489 hn490 ha491
    have hs492 := ha491.size.trans hs479
    have hd493 := ha491.defers.trans hd480
    have h494 := ha491.fx 2 h481
    have h495 := ha491.ge 0 36 rfl
    have hb496 := hb485.new_ hn490
    have hN497 := hN486.transNew hn490
    clear hs479 hd480 h481 h482 h483 h484 hb485 hN486 ha491 hn490
    obtain ⟨w498, -, hst499, hb500, hu501, hf502⟩ := s_two (v0 := .bool false) (v1 := sv none ([]) 0) Try.sizeOf24 rfl rfl rfl hb496
    refine st_act rfl rfl fun K503 hL504 => a_store' rfl h494 h495 hst499 (hL504 _ _ trivial ?_)
    have hN505 := hN497.trans hu501 (fun k hk hkb => by subst hkb; omega)
    clear hb496 hst499 K503 hL504 hN497 hu501 hf502
    refine st_take rfl rfl (y_assign (v := iv 2) rfl rfl) rfl ?_
    obtain ⟨a506, ha507⟩ : ∃ a', a' = a488.put (some 3) (iv 2) := ⟨_, rfl⟩
    have hs508 : a506.tmps.size = 78 := by rw [ha507, put_size]; exact hs492
    have hd509 : a506.defers = [] := by rw [ha507, put_defers]; exact hd493
    have h510 : a506.eval (.tmp 2) = pv q10 := by rw [ha507, put_ne _ _ _ _ (by decide)]; exact h494
    have h511 : a506.eval (.tmp 36) = .agg #[.bool false, sv none ([]) 0] := by rw [ha507, put_ne _ _ _ _ (by decide)]; exact h495
    have h512 : a506.eval (.tmp 3) = iv 2 := by rw [ha507]; exact put_same _ _ _ (by rw [hs492]; decide)
    show stepsTo _ _ _ _ _ (a488.put (some 3) (iv 2)) _
    rw [← ha507]
    clear ha507 hs492 hd493 h494 h495
    refine st_nil ?_
    clear h511
    refine hK487 _ _ ?_
    clear hK487 K487
    refine wp_ret (ret_k hd509 (v := .tuple #[.agg #[.bool false, sv none ([]) 0], iv 2]) (res_ct rfl h510 h512 (l_two Try.isAgg24 Try.sizeOf24 hb500)) ?_)
    have hs2 : (iv 2 : Value) = iv (parseZ s.data.toList).2 := by rw [pz_bad hR (.inl (digB_lead ht97 ht98))]
    have hz1 : (decide ((parseZ s.data.toList).1 < 0)) = false := by rw [pz_bad hR (.inl (digB_lead ht97 ht98))]; rfl
    have hz2 : canon ((parseZ s.data.toList).1).natAbs = [] := by rw [pz_bad hR (.inl (digB_lead ht97 ht98))]; exact canon_zero
    exact ⟨none, 0, by rw [hz1, hz2, hs2], by rw [hz2]; exact (SRow.nil _ _), hN505⟩
  have ht97d := of_decide_eq_false ht97
  have hsp := size_pos ht58
  refine wp_g0 [true, true, true, true, true, true, true, true, true, true, true, true, true, true, true] [] 78
    [ve (.string s),
     ve (.bool false),
     ve (.bool false),
     ve (.string s),
     ve (.int .u8 ((bAt s 0 : Nat) : Int)),
     ve (.bool false),
     ve (.bool false),
     ve undef,
     ve undef,
     ve undef,
     ve undef,
     ve undef,
     ve undef,
     ve (.bool false),
     ve (.bool false)] hs47 (.eq (.eq (.eq (.eq (.eq (.eq (.eq (.eq (.eq (.eq (.eq (.eq (.eq (.eq (.eq (.nil)))))))))))))))) ?_ ?_
  · skip
    refine .o1 (tk rfl rfl fun _ w hn k => ⟨_, v_move rfl (k.fx 5 h52), rfl⟩) ?_
    refine .o1 (tk rfl rfl fun _ w hn k => ⟨_, v_bin rfl (k.eq1 0 21 rfl) rfl (fun _ => rfl) (r_eqlS ht58), rfl⟩) ?_
    refine .o1 (tk rfl rfl fun _ w hn k => ⟨_, v_move rfl (k.eq1 1 22 rfl), rfl⟩) ?_
    refine .o1 (tg rfl rfl rfl (fun _ _ k => k.eq1 2 23 rfl) fun _ w hn k => ⟨_, v_move rfl (k.fx 5 h52), rfl⟩) ?_
    refine .o1 (tg rfl rfl rfl (fun _ _ k => k.eq1 2 23 rfl) fun _ w hn k => ⟨_, v_idxN rfl (k.eq1 3 24 rfl) rfl (by kernel_rfl) (by omega), rfl⟩) ?_
    refine .o1 (tg rfl rfl rfl (fun _ _ k => k.eq1 2 23 rfl) fun _ w hn k => ⟨_, v_bin rfl (k.eq1 4 25 rfl) rfl (fun _ => rfl) (r_eql ht97), rfl⟩) ?_
    refine .o1 (tg rfl rfl rfl (fun _ _ k => k.eq1 2 23 rfl) fun _ w hn k => ⟨_, v_move rfl (k.eq1 5 26 rfl), rfl⟩) ?_
    refine .o1 (sk rfl rfl rfl (fun _ _ _ k => k.eq1 6 27 rfl) (fun _ => rfl)) ?_
    refine .o1 (sk rfl rfl rfl (fun _ _ _ k => k.eq1 6 27 rfl) (fun _ => rfl)) ?_
    refine .o1 (sk rfl rfl rfl (fun _ _ _ k => k.eq1 6 27 rfl) (fun _ => rfl)) ?_
    refine .o1 (sk rfl rfl rfl (fun _ _ _ k => k.eq1 6 27 rfl) (fun _ => rfl)) ?_
    refine .o1 (su rfl rfl rfl (fun _ _ _ k => k.eq1 10 31 rfl) (fun _ => rfl)) ?_
    refine .o1 (sk rfl rfl rfl (fun _ _ _ k => k.eq1 6 27 rfl) (fun _ => rfl)) ?_
    refine .o1 (tg rfl rfl rfl (fun _ _ k => k.eq1 2 23 rfl) fun _ w hn k => ⟨_, v_pickF rfl (k.eq1 6 27 rfl) rfl, rfl⟩) ?_
    refine .o1 (tk rfl rfl fun _ w hn k => ⟨_, v_pickF rfl (k.eq1 2 23 rfl) (k.eq1 13 34 rfl), rfl⟩) ?_
    exact .nil
  intro a513 w514 hn515 ha516
  have hs517 := ha516.size.trans hs47
  have hd518 := ha516.defers.trans hd48
  have h519 := ha516.fx 2 h50
  have h520 := ha516.fx 4 h51
  have h521 := ha516.fx 5 h52
  have h522 := ha516.ge 14 35 rfl
  have hb523 := hb54.new_ hn515
  have hN524 := hN55.transNew hn515
  clear hs47 hd48 h49 h50 h51 h52 h53 hb54 hN55 ha516 hn515
  refine st_nil ?_
  refine hK57 _ _ ?_
  clear hK57 K57
  refine wp_cond_false h522 ?_
  refine wp_skip ?_
  refine hK56 _ _ ?_
  clear hK56 K56
  refine wp_seq_k fun K525 hK525 => ?_
  refine wp_seq_k fun K526 hK526 => ?_
  have hne : 0 < s.size := size_pos ht58
  have hlead : bAt s 0 ≠ 48 ∨ s.size = 1 := .inl (by have := of_decide_eq_false ht97; omega)
  refine wp_g0 [true] [] 78
    [ve (iv 0)] hs517 (.eq (.nil)) ?_ ?_
  · skip
    refine .o1 (tk rfl rfl fun _ w hn k => ⟨_, v_assign rfl rfl, rfl⟩) ?_
    exact .nil
  intro a527 w528 hn529 ha530
  have hs531 := ha530.size.trans hs517
  have hd532 := ha530.defers.trans hd518
  have h533 := ha530.fx 2 h519
  have h534 := ha530.fx 4 h520
  have h535 := ha530.fx 5 h521
  have h536 := ha530.ge 0 6 rfl
  have hb537 := hb523.new_ hn529
  have hN538 := hN524.transNew hn529
  clear hs517 hd518 h519 h520 h521 h522 hb523 hN524 ha530 hn529
  refine st_nil ?_
  refine hK526 _ _ ?_
  clear hK526 K526
  refine wp_block ?_
  refine wp_loopX (fun (mm : Nat) (aa : Act) (ww : World) => ∃ (i : Nat), mm = s.size - i ∧ aa.tmps.size = 78 ∧ aa.defers = [] ∧ New w ww ∧ aa.eval (.tmp 6) = iv (i : Int) ∧ aa.eval (.tmp 2) = pv q10 ∧ aa.eval (.tmp 4) = .bool false ∧ aa.eval (.tmp 5) = .string s ∧ Blk ww q10 24 [.bool false, sv none ([]) 0] ∧ (i ≤ s.size) ∧ (∀ j, j < i → 48 ≤ bAt s j ∧ bAt s j ≤ 57)) (fun mm => mm) ⟨_, ⟨0, rfl, hs531, hd532, hN538, h536, h533, h534, h535, hb537, (Nat.zero_le _), (fun j h => absurd h (Nat.not_lt_zero _))⟩⟩ ?_
  clear hs531 hd532 hN538 h533 h534 h535 h536 hb537
  rintro mm a539 w540 ⟨i, hmm, hs541, hd542, hN543, h544, h545, h546, h547, hb548, hi, hdg⟩
  refine wp_seq_k fun K549 hK549 => ?_
  refine wp_seq_k fun K550 hK550 => ?_
  refine wp_g0 [true, true, true, true] [] 78
    [ve (iv (i : Int)),
     ve (.string s),
     ve (iv (s.size : Int)),
     ve (.bool (decide ((i : Int) < (s.size : Int))))] hs541 (.eq (.eq (.eq (.eq (.nil))))) ?_ ?_
  · skip
    refine .o1 (tk rfl rfl fun _ w hn k => ⟨_, v_move rfl (k.fx 6 h544), rfl⟩) ?_
    refine .o1 (tk rfl rfl fun _ w hn k => ⟨_, v_move rfl (k.fx 5 h547), rfl⟩) ?_
    refine .o1 (tk rfl rfl fun _ w hn k => ⟨_, v_lenS rfl (k.eq1 1 38 rfl) (by kernel_rfl), rfl⟩) ?_
    refine .o1 (tk rfl rfl fun _ w hn k => ⟨_, v_bin rfl (k.eq1 0 37 rfl) (k.eq1 2 39 rfl) (fun _ => rfl) (r_lssK rfl), rfl⟩) ?_
    exact .nil
  intro a551 w552 hn553 ha554
  have hs555 := ha554.size.trans hs541
  have hd556 := ha554.defers.trans hd542
  have h557 := ha554.fx 6 h544
  have h558 := ha554.fx 2 h545
  have h559 := ha554.fx 4 h546
  have h560 := ha554.fx 5 h547
  have h561 := ha554.ge 3 40 rfl
  have hb562 := hb548.new_ hn553
  have hN563 := hN543.transNew hn553
  clear hs541 hd542 h544 h545 h546 h547 hb548 hN543 ha554 hn553
  refine st_nil ?_
  refine hK550 _ _ ?_
  clear hK550 K550
  rcases Bool.eq_false_or_eq_true (decide ((i : Int) < (s.size : Int))) with ht564 | ht564
  · skip
    have ht564d := of_decide_eq_true ht564
    have hv565 : a551.eval (.tmp 40) = .bool true := h561.trans (congrArg Value.bool ht564)
    clear h561
    refine wp_cond_true hv565 ?_
    refine wp_skip ?_
    refine hK549 _ _ ?_
    clear hK549 K549
    refine wp_seq_k fun K566 hK566 => ?_
    refine wp_block ?_
    refine wp_seq_k fun K567 hK567 => ?_
    rcases Bool.eq_false_or_eq_true (decide (((bAt s i : Nat) : Int) < 48)) with ht568 | ht568
    · skip
      have ht568d := of_decide_eq_true ht568
      refine wp_g0 [true, true, true, true, true, true, true, true, true, true] [] 78
        [ve (.string s),
         ve (iv (i : Int)),
         ve (.int .u8 ((bAt s i : Nat) : Int)),
         ve (.bool true),
         ve (.bool true),
         ve undef,
         ve undef,
         ve undef,
         ve undef,
         ve (.bool true)] hs555 (.eq (.eq (.eq (.eq (.eq (.eq (.eq (.eq (.eq (.eq (.nil))))))))))) ?_ ?_
      · skip
        refine .o1 (tk rfl rfl fun _ w hn k => ⟨_, v_move rfl (k.fx 5 h560), rfl⟩) ?_
        refine .o1 (tk rfl rfl fun _ w hn k => ⟨_, v_move rfl (k.fx 6 h557), rfl⟩) ?_
        refine .o1 (tk rfl rfl fun _ w hn k => ⟨_, v_idxN rfl (k.eq1 0 43 rfl) (k.eq1 1 44 rfl) (by kernel_rfl) (by omega), rfl⟩) ?_
        refine .o1 (tk rfl rfl fun _ w hn k => ⟨_, v_bin rfl (k.eq1 2 45 rfl) rfl (fun _ => rfl) (r_lssK ht568), rfl⟩) ?_
        refine .o1 (tk rfl rfl fun _ w hn k => ⟨_, v_move rfl (k.eq1 3 46 rfl), rfl⟩) ?_
        refine .o1 (sk rfl rfl rfl (fun _ _ _ k => k.eq1 4 47 rfl) (fun _ => rfl)) ?_
        refine .o1 (sk rfl rfl rfl (fun _ _ _ k => k.eq1 4 47 rfl) (fun _ => rfl)) ?_
        refine .o1 (sk rfl rfl rfl (fun _ _ _ k => k.eq1 4 47 rfl) (fun _ => rfl)) ?_
        refine .o1 (sk rfl rfl rfl (fun _ _ _ k => k.eq1 4 47 rfl) (fun _ => rfl)) ?_
        refine .o1 (tk rfl rfl fun _ w hn k => ⟨_, v_pickT rfl (k.eq1 4 47 rfl) rfl, rfl⟩) ?_
        exact .nil
      intro a569 w570 hn571 ha572
      have hs573 := ha572.size.trans hs555
      have hd574 := ha572.defers.trans hd556
      have h575 := ha572.fx 6 h557
      have h576 := ha572.fx 2 h558
      have h577 := ha572.fx 4 h559
      have h578 := ha572.fx 5 h560
      have h579 := ha572.ge 9 52 rfl
      have hb580 := hb562.new_ hn571
      have hN581 := hN563.transNew hn571
      clear hs555 hd556 h557 h558 h559 h560 hv565 hb562 hN563 ha572 hn571
      refine st_nil ?_
      refine hK567 _ _ ?_
      clear hK567 K567
      refine wp_cond_true h579 ?_
      refine wp_seq_k fun K582 hK582 => ?_
      refine wp_g0 [true, false, false] [(1, false), (2, true)] 78
        [ve (.agg #[.bool false, sv none ([]) 0]),
         vt,
         vt] hs573 (.eq (.tt (.tt (.nil)))) ?_ ?_
      · skip
        refine .o1 (tk rfl rfl fun _ w hn k => ⟨_, v_build (ps := []) rfl parts0 (by kernel_rfl), rfl⟩) ?_
        refine .off ?_
        refine .off ?_
        exact .nil
      intro a583 w584 hn585 ha586
      have hs587 := ha586.size.trans hs573
      have hd588 := ha586.defers.trans hd574
      have h589 := ha586.fx 2 h576
      have h590 := ha586.ge 0 53 rfl
      have hb591 := hb580.new_ hn585
      have hN592 := hN581.transNew hn585
      clear hs573 hd574 h575 h576 h577 h578 h579 hb580 hN581 ha586 hn585
      obtain ⟨w593, -, hst594, hb595, hu596, hf597⟩ := s_two (v0 := .bool false) (v1 := sv none ([]) 0) Try.sizeOf24 rfl rfl rfl hb591
      refine st_act rfl rfl fun K598 hL599 => a_store' rfl h589 h590 hst594 (hL599 _ _ trivial ?_)
      have hN600 := hN592.trans hu596 (fun k hk hkb => by subst hkb; omega)
      clear hb591 hst594 K598 hL599 hN592 hu596 hf597
      refine st_take rfl rfl (y_assign (v := iv 2) rfl rfl) rfl ?_
      obtain ⟨a601, ha602⟩ : ∃ a', a' = a583.put (some 3) (iv 2) := ⟨_, rfl⟩
      have hs603 : a601.tmps.size = 78 := by rw [ha602, put_size]; exact hs587
      have hd604 : a601.defers = [] := by rw [ha602, put_defers]; exact hd588
      have h605 : a601.eval (.tmp 2) = pv q10 := by rw [ha602, put_ne _ _ _ _ (by decide)]; exact h589
      have h606 : a601.eval (.tmp 53) = .agg #[.bool false, sv none ([]) 0] := by rw [ha602, put_ne _ _ _ _ (by decide)]; exact h590
      have h607 : a601.eval (.tmp 3) = iv 2 := by rw [ha602]; exact put_same _ _ _ (by rw [hs587]; decide)
      show stepsTo _ _ _ _ _ (a583.put (some 3) (iv 2)) _
      rw [← ha602]
      clear ha602 hs587 hd588 h589 h590
      refine st_nil ?_
      clear h606
      refine hK582 _ _ ?_
      clear hK582 K582
      refine wp_ret (ret_k hd604 (v := .tuple #[.agg #[.bool false, sv none ([]) 0], iv 2]) (res_ct rfl h605 h607 (l_two Try.isAgg24 Try.sizeOf24 hb595)) ?_)
      have hs2 : (iv 2 : Value) = iv (parseZ s.data.toList).2 := by rw [pz_bad hR (.inl (digB_bad (i := i) (by omega) (.inl ht568)))]
      have hz1 : (decide ((parseZ s.data.toList).1 < 0)) = false := by rw [pz_bad hR (.inl (digB_bad (i := i) (by omega) (.inl ht568)))]; rfl
      have hz2 : canon ((parseZ s.data.toList).1).natAbs = [] := by rw [pz_bad hR (.inl (digB_bad (i := i) (by omega) (.inl ht568)))]; exact canon_zero
      exact ⟨none, 0, by rw [hz1, hz2, hs2], by rw [hz2]; exact (SRow.nil _ _), hN600⟩
    have ht568d := of_decide_eq_false ht568
    rcases Bool.eq_false_or_eq_true (decide (((bAt s i : Nat) : Int) ≤ 57)) with ht608 | ht608
    · skip
      have ht608d := of_decide_eq_true ht608
      refine wp_g0 [true, true, true, true, true, true, true, true, true, true] [] 78
        [ve (.string s),
         ve (iv (i : Int)),
         ve (.int .u8 ((bAt s i : Nat) : Int)),
         ve (.bool false),
         ve (.bool false),
         ve (.string s),
         ve (iv (i : Int)),
         ve (.int .u8 ((bAt s i : Nat) : Int)),
         ve (.bool false),
         ve (.bool false)] hs555 (.eq (.eq (.eq (.eq (.eq (.eq (.eq (.eq (.eq (.eq (.nil))))))))))) ?_ ?_
      · skip
        refine .o1 (tk rfl rfl fun _ w hn k => ⟨_, v_move rfl (k.fx 5 h560), rfl⟩) ?_
        refine .o1 (tk rfl rfl fun _ w hn k => ⟨_, v_move rfl (k.fx 6 h557), rfl⟩) ?_
        refine .o1 (tk rfl rfl fun _ w hn k => ⟨_, v_idxN rfl (k.eq1 0 43 rfl) (k.eq1 1 44 rfl) (by kernel_rfl) (by omega), rfl⟩) ?_
        refine .o1 (tk rfl rfl fun _ w hn k => ⟨_, v_bin rfl (k.eq1 2 45 rfl) rfl (fun _ => rfl) (r_lssK ht568), rfl⟩) ?_
        refine .o1 (tk rfl rfl fun _ w hn k => ⟨_, v_move rfl (k.eq1 3 46 rfl), rfl⟩) ?_
        refine .o1 (tg rfl rfl rfl (fun _ _ k => k.eq1 4 47 rfl) fun _ w hn k => ⟨_, v_move rfl (k.fx 5 h560), rfl⟩) ?_
        refine .o1 (tg rfl rfl rfl (fun _ _ k => k.eq1 4 47 rfl) fun _ w hn k => ⟨_, v_move rfl (k.fx 6 h557), rfl⟩) ?_
        refine .o1 (tg rfl rfl rfl (fun _ _ k => k.eq1 4 47 rfl) fun _ w hn k => ⟨_, v_idxN rfl (k.eq1 5 48 rfl) (k.eq1 6 49 rfl) (by kernel_rfl) (by omega), rfl⟩) ?_
        refine .o1 (tg rfl rfl rfl (fun _ _ k => k.eq1 4 47 rfl) fun _ w hn k => ⟨_, v_bin rfl (k.eq1 7 50 rfl) rfl (fun _ => rfl) (r_gtrK ht608), rfl⟩) ?_
        refine .o1 (tk rfl rfl fun _ w hn k => ⟨_, v_pickF rfl (k.eq1 4 47 rfl) (k.eq1 8 51 rfl), rfl⟩) ?_
        exact .nil
      intro a609 w610 hn611 ha612
      have hs613 := ha612.size.trans hs555
      have hd614 := ha612.defers.trans hd556
      have h615 := ha612.fx 6 h557
      have h616 := ha612.fx 2 h558
      have h617 := ha612.fx 4 h559
      have h618 := ha612.fx 5 h560
      have h619 := ha612.ge 9 52 rfl
      have hb620 := hb562.new_ hn611
      have hN621 := hN563.transNew hn611
      clear hs555 hd556 h557 h558 h559 h560 hv565 hb562 hN563 ha612 hn611
      refine st_nil ?_
      refine hK567 _ _ ?_
      clear hK567 K567
      refine wp_cond_false h619 ?_
      refine wp_skip ?_
      refine hK566 _ _ ?_
      clear hK566 K566
      refine wp_g0 [true, true, false] [(2, true)] 78
        [ve (iv (i : Int)),
         ve (iv ((i + 1 : Nat) : Int)),
         vt] hs613 (.eq (.eq (.tt (.nil)))) ?_ ?_
      · skip
        refine .o1 (tk rfl rfl fun _ w hn k => ⟨_, v_move rfl (k.fx 6 h615), rfl⟩) ?_
        refine .o1 (tk rfl rfl fun _ w hn k => ⟨_, v_bin rfl (k.eq1 0 41 rfl) rfl (fun _ => rfl) (n_add (by omega) (IntWalk.i64_in _ (by omega))), rfl⟩) ?_
        refine .off ?_
        exact .nil
      intro a622 w623 hn624 ha625
      have hs626 := ha625.size.trans hs613
      have hd627 := ha625.defers.trans hd614
      have h628 := ha625.fx 6 h615
      have h629 := ha625.fx 2 h616
      have h630 := ha625.fx 4 h617
      have h631 := ha625.fx 5 h618
      have h632 := ha625.ge 1 42 rfl
      have hb633 := hb620.new_ hn624
      have hN634 := hN621.transNew hn624
      clear hs613 hd614 h615 h616 h617 h618 h619 hb620 hN621 ha625 hn624
      refine st_take rfl rfl (y_assign (v := iv ((i + 1 : Nat) : Int)) rfl h632) rfl ?_
      obtain ⟨a635, ha636⟩ : ∃ a', a' = a622.put (some 6) (iv ((i + 1 : Nat) : Int)) := ⟨_, rfl⟩
      have hs637 : a635.tmps.size = 78 := by rw [ha636, put_size]; exact hs626
      have hd638 : a635.defers = [] := by rw [ha636, put_defers]; exact hd627
      have h639 : a635.eval (.tmp 2) = pv q10 := by rw [ha636, put_ne _ _ _ _ (by decide)]; exact h629
      have h640 : a635.eval (.tmp 4) = .bool false := by rw [ha636, put_ne _ _ _ _ (by decide)]; exact h630
      have h641 : a635.eval (.tmp 5) = .string s := by rw [ha636, put_ne _ _ _ _ (by decide)]; exact h631
      have h642 : a635.eval (.tmp 42) = iv ((i + 1 : Nat) : Int) := by rw [ha636, put_ne _ _ _ _ (by decide)]; exact h632
      have h643 : a635.eval (.tmp 6) = iv ((i + 1 : Nat) : Int) := by rw [ha636]; exact put_same _ _ _ (by rw [hs626]; decide)
      show stepsTo _ _ _ _ _ (a622.put (some 6) (iv ((i + 1 : Nat) : Int))) _
      rw [← ha636]
      clear ha636 hs626 hd627 h628 h629 h630 h631 h632
      refine st_nil ?_
      clear h642
      refine then_n ?_
      exact ⟨_, ⟨i + 1, rfl, hs637, hd638, hN634, (h643.trans (congrArg (Value.int .i64) (by omega))), h639, h640, h641, hb633, (by omega), (dig_up hdg ht568 ht608)⟩, (by omega)⟩
    have ht608d := of_decide_eq_false ht608
    refine wp_g0 [true, true, true, true, true, true, true, true, true, true] [] 78
      [ve (.string s),
       ve (iv (i : Int)),
       ve (.int .u8 ((bAt s i : Nat) : Int)),
       ve (.bool false),
       ve (.bool false),
       ve (.string s),
       ve (iv (i : Int)),
       ve (.int .u8 ((bAt s i : Nat) : Int)),
       ve (.bool true),
       ve (.bool true)] hs555 (.eq (.eq (.eq (.eq (.eq (.eq (.eq (.eq (.eq (.eq (.nil))))))))))) ?_ ?_
    · skip
      refine .o1 (tk rfl rfl fun _ w hn k => ⟨_, v_move rfl (k.fx 5 h560), rfl⟩) ?_
      refine .o1 (tk rfl rfl fun _ w hn k => ⟨_, v_move rfl (k.fx 6 h557), rfl⟩) ?_
      refine .o1 (tk rfl rfl fun _ w hn k => ⟨_, v_idxN rfl (k.eq1 0 43 rfl) (k.eq1 1 44 rfl) (by kernel_rfl) (by omega), rfl⟩) ?_
      refine .o1 (tk rfl rfl fun _ w hn k => ⟨_, v_bin rfl (k.eq1 2 45 rfl) rfl (fun _ => rfl) (r_lssK ht568), rfl⟩) ?_
      refine .o1 (tk rfl rfl fun _ w hn k => ⟨_, v_move rfl (k.eq1 3 46 rfl), rfl⟩) ?_
      refine .o1 (tg rfl rfl rfl (fun _ _ k => k.eq1 4 47 rfl) fun _ w hn k => ⟨_, v_move rfl (k.fx 5 h560), rfl⟩) ?_
      refine .o1 (tg rfl rfl rfl (fun _ _ k => k.eq1 4 47 rfl) fun _ w hn k => ⟨_, v_move rfl (k.fx 6 h557), rfl⟩) ?_
      refine .o1 (tg rfl rfl rfl (fun _ _ k => k.eq1 4 47 rfl) fun _ w hn k => ⟨_, v_idxN rfl (k.eq1 5 48 rfl) (k.eq1 6 49 rfl) (by kernel_rfl) (by omega), rfl⟩) ?_
      refine .o1 (tg rfl rfl rfl (fun _ _ k => k.eq1 4 47 rfl) fun _ w hn k => ⟨_, v_bin rfl (k.eq1 7 50 rfl) rfl (fun _ => rfl) (r_gtrK ht608), rfl⟩) ?_
      refine .o1 (tk rfl rfl fun _ w hn k => ⟨_, v_pickF rfl (k.eq1 4 47 rfl) (k.eq1 8 51 rfl), rfl⟩) ?_
      exact .nil
    intro a644 w645 hn646 ha647
    have hs648 := ha647.size.trans hs555
    have hd649 := ha647.defers.trans hd556
    have h650 := ha647.fx 6 h557
    have h651 := ha647.fx 2 h558
    have h652 := ha647.fx 4 h559
    have h653 := ha647.fx 5 h560
    have h654 := ha647.ge 9 52 rfl
    have hb655 := hb562.new_ hn646
    have hN656 := hN563.transNew hn646
    clear hs555 hd556 h557 h558 h559 h560 hv565 hb562 hN563 ha647 hn646
    refine st_nil ?_
    refine hK567 _ _ ?_
    clear hK567 K567
    refine wp_cond_true h654 ?_
    refine wp_seq_k fun K657 hK657 => ?_
    refine wp_g0 [true, false, false] [(1, false), (2, true)] 78
      [ve (.agg #[.bool false, sv none ([]) 0]),
       vt,
       vt] hs648 (.eq (.tt (.tt (.nil)))) ?_ ?_
    · skip
      refine .o1 (tk rfl rfl fun _ w hn k => ⟨_, v_build (ps := []) rfl parts0 (by kernel_rfl), rfl⟩) ?_
      refine .off ?_
      refine .off ?_
      exact .nil
    intro a658 w659 hn660 ha661
    have hs662 := ha661.size.trans hs648
    have hd663 := ha661.defers.trans hd649
    have h664 := ha661.fx 2 h651
    have h665 := ha661.ge 0 53 rfl
    have hb666 := hb655.new_ hn660
    have hN667 := hN656.transNew hn660
    clear hs648 hd649 h650 h651 h652 h653 h654 hb655 hN656 ha661 hn660
    obtain ⟨w668, -, hst669, hb670, hu671, hf672⟩ := s_two (v0 := .bool false) (v1 := sv none ([]) 0) Try.sizeOf24 rfl rfl rfl hb666
    refine st_act rfl rfl fun K673 hL674 => a_store' rfl h664 h665 hst669 (hL674 _ _ trivial ?_)
    have hN675 := hN667.trans hu671 (fun k hk hkb => by subst hkb; omega)
    clear hb666 hst669 K673 hL674 hN667 hu671 hf672
    refine st_take rfl rfl (y_assign (v := iv 2) rfl rfl) rfl ?_
    obtain ⟨a676, ha677⟩ : ∃ a', a' = a658.put (some 3) (iv 2) := ⟨_, rfl⟩
    have hs678 : a676.tmps.size = 78 := by rw [ha677, put_size]; exact hs662
    have hd679 : a676.defers = [] := by rw [ha677, put_defers]; exact hd663
    have h680 : a676.eval (.tmp 2) = pv q10 := by rw [ha677, put_ne _ _ _ _ (by decide)]; exact h664
    have h681 : a676.eval (.tmp 53) = .agg #[.bool false, sv none ([]) 0] := by rw [ha677, put_ne _ _ _ _ (by decide)]; exact h665
    have h682 : a676.eval (.tmp 3) = iv 2 := by rw [ha677]; exact put_same _ _ _ (by rw [hs662]; decide)
    show stepsTo _ _ _ _ _ (a658.put (some 3) (iv 2)) _
    rw [← ha677]
    clear ha677 hs662 hd663 h664 h665
    refine st_nil ?_
    clear h681
    refine hK657 _ _ ?_
    clear hK657 K657
    refine wp_ret (ret_k hd679 (v := .tuple #[.agg #[.bool false, sv none ([]) 0], iv 2]) (res_ct rfl h680 h682 (l_two Try.isAgg24 Try.sizeOf24 hb670)) ?_)
    have hs2 : (iv 2 : Value) = iv (parseZ s.data.toList).2 := by rw [pz_bad hR (.inl (digB_bad (i := i) (by omega) (.inr ht608)))]
    have hz1 : (decide ((parseZ s.data.toList).1 < 0)) = false := by rw [pz_bad hR (.inl (digB_bad (i := i) (by omega) (.inr ht608)))]; rfl
    have hz2 : canon ((parseZ s.data.toList).1).natAbs = [] := by rw [pz_bad hR (.inl (digB_bad (i := i) (by omega) (.inr ht608)))]; exact canon_zero
    exact ⟨none, 0, by rw [hz1, hz2, hs2], by rw [hz2]; exact (SRow.nil _ _), hN675⟩
  have ht564d := of_decide_eq_false ht564
  have hv683 : a551.eval (.tmp 40) = .bool false := h561.trans (congrArg Value.bool ht564)
  clear h561
  refine wp_cond_false hv683 ?_
  refine wp_exit ?_
  refine hK525 _ _ ?_
  clear hK525 K525 hK549 K549
  refine wp_seq_k fun K684 hK684 => ?_
  have hall : ∀ j, j < s.size → 48 ≤ bAt s j ∧ bAt s j ≤ 57 := fun j hj => hdg j (by omega)
  have hdB : digB s.data.toList = true := digB_yes hne hall hlead
  refine wp_g0 [true] [] 78
    [ve (sv none ([]) 0)] hs555 (.eq (.nil)) ?_ ?_
  · skip
    refine .o1 (tk rfl rfl fun _ w hn k => ⟨_, v_assign rfl rfl, rfl⟩) ?_
    exact .nil
  intro a685 w686 hn687 ha688
  have hs689 := ha688.size.trans hs555
  have hd690 := ha688.defers.trans hd556
  have h691 := ha688.fx 2 h558
  have h692 := ha688.fx 4 h559
  have h693 := ha688.fx 5 h560
  have h694 := ha688.ge 0 7 rfl
  have hb695 := hb562.new_ hn687
  have hN696 := hN563.transNew hn687
  clear hs555 hd556 h557 h558 h559 h560 hv683 hb562 hN563 ha688 hn687
  refine st_nil ?_
  refine hK684 _ _ ?_
  clear hK684 K684
  refine wp_seq_k fun K697 hK697 => ?_
  refine wp_seq_k fun K698 hK698 => ?_
  refine wp_g0 [true] [] 78
    [ve (iv 0)] hs689 (.eq (.nil)) ?_ ?_
  · skip
    refine .o1 (tk rfl rfl fun _ w hn k => ⟨_, v_assign rfl rfl, rfl⟩) ?_
    exact .nil
  intro a699 w700 hn701 ha702
  have hs703 := ha702.size.trans hs689
  have hd704 := ha702.defers.trans hd690
  have h705 := ha702.fx 2 h691
  have h706 := ha702.fx 4 h692
  have h707 := ha702.fx 5 h693
  have h708 := ha702.fx 7 h694
  have h709 := ha702.ge 0 8 rfl
  have hb710 := hb695.new_ hn701
  have hN711 := hN696.transNew hn701
  clear hs689 hd690 h691 h692 h693 h694 hb695 hN696 ha702 hn701
  refine st_nil ?_
  refine hK698 _ _ ?_
  clear hK698 K698
  refine wp_block ?_
  refine wp_loopX (fun (mm : Nat) (aa : Act) (ww : World) => ∃ (i2 : Nat) (A1 : Option Addr) (c1 : Nat), mm = s.size - i2 ∧ aa.tmps.size = 78 ∧ aa.defers = [] ∧ New w ww ∧ aa.eval (.tmp 7) = sv A1 (canon (decV (s.data.toList.take i2))) c1 ∧ aa.eval (.tmp 8) = iv (i2 : Int) ∧ aa.eval (.tmp 2) = pv q10 ∧ aa.eval (.tmp 4) = .bool false ∧ aa.eval (.tmp 5) = .string s ∧ Blk ww q10 24 [.bool false, sv none ([]) 0] ∧ SOwn ww w.heap.size 50 .u32 A1 (canon (decV (s.data.toList.take i2))) c1 ∧ (i2 ≤ s.size) ∧ ((canon (decV (s.data.toList.take i2))).length ≤ 8)) (fun mm => mm) ⟨_, ⟨0, none, 0, rfl, hs703, hd704, hN711, (h708.trans (by rw [List.take_zero, show decV [] = 0 from rfl, canon_zero])), h709, h705, h706, h707, hb710, (by rw [List.take_zero, show decV [] = 0 from rfl, canon_zero]; exact SOwn.nil _ _ _ _), (Nat.zero_le _), (by simp [decV, canon_zero])⟩⟩ ?_
  clear hs703 hd704 hN711 h705 h706 h707 h708 h709 hb710
  rintro mm a712 w713 ⟨i2, A1, c1, hmm, hs714, hd715, hN716, h717, h718, h719, h720, h721, hb722, hr723, hi2, hv8⟩
  refine wp_seq_k fun K724 hK724 => ?_
  refine wp_seq_k fun K725 hK725 => ?_
  refine wp_g0 [true, true, true, true] [] 78
    [ve (iv (i2 : Int)),
     ve (.string s),
     ve (iv (s.size : Int)),
     ve (.bool (decide ((i2 : Int) < (s.size : Int))))] hs714 (.eq (.eq (.eq (.eq (.nil))))) ?_ ?_
  · skip
    refine .o1 (tk rfl rfl fun _ w hn k => ⟨_, v_move rfl (k.fx 8 h718), rfl⟩) ?_
    refine .o1 (tk rfl rfl fun _ w hn k => ⟨_, v_move rfl (k.fx 5 h721), rfl⟩) ?_
    refine .o1 (tk rfl rfl fun _ w hn k => ⟨_, v_lenS rfl (k.eq1 1 55 rfl) (by kernel_rfl), rfl⟩) ?_
    refine .o1 (tk rfl rfl fun _ w hn k => ⟨_, v_bin rfl (k.eq1 0 54 rfl) (k.eq1 2 56 rfl) (fun _ => rfl) (r_lssK rfl), rfl⟩) ?_
    exact .nil
  intro a726 w727 hn728 ha729
  have hs730 := ha729.size.trans hs714
  have hd731 := ha729.defers.trans hd715
  have h732 := ha729.fx 7 h717
  have h733 := ha729.fx 8 h718
  have h734 := ha729.fx 2 h719
  have h735 := ha729.fx 4 h720
  have h736 := ha729.fx 5 h721
  have h737 := ha729.ge 3 57 rfl
  have hb738 := hb722.new_ hn728
  have hr739 := hr723.new_ hn728
  have hN740 := hN716.transNew hn728
  clear hs714 hd715 h717 h718 h719 h720 h721 hb722 hr723 hN716 ha729 hn728
  refine st_nil ?_
  refine hK725 _ _ ?_
  clear hK725 K725
  rcases Bool.eq_false_or_eq_true (decide ((i2 : Int) < (s.size : Int))) with ht741 | ht741
  · skip
    have ht741d := of_decide_eq_true ht741
    have hv742 : a726.eval (.tmp 57) = .bool true := h737.trans (congrArg Value.bool ht741)
    clear h737
    refine wp_cond_true hv742 ?_
    refine wp_skip ?_
    refine hK724 _ _ ?_
    clear hK724 K724
    refine wp_seq_k fun K743 hK743 => ?_
    refine wp_block ?_
    refine wp_seq_k fun K744 hK744 => ?_
    have hb2 := hall i2 (by omega)
    have hbl := bAt_lt s i2
    have hstep := decV_step (s := s) (i := i2) (by omega)
    have hl9 : (canon (val (canon (decV (s.data.toList.take i2))) * val [10])).length ≤ 9 := ten_len hv8
    have hl1 : (canon (val [(bAt s i2 - 48)])).length ≤ 1 := one_len (by omega)
    refine wp_g0 [true, true, true, true, true, true, true, true, true, true, true, false] [(11, true)] 78
      [ve (sv A1 (canon (decV (s.data.toList.take i2))) c1),
       (fun (v : Value) (W : World) => ∃ (A53 : Option Addr) (c54 : Nat), v = sv A53 ([10]) c54 ∧ SOwn W w727.heap.size 50 .u32 A53 ([10]) c54),
       (fun (v : Value) (W : World) => ∃ (A61 : Option Addr) (c62 : Nat), v = sv A61 (canon (val (canon (decV (s.data.toList.take i2))) * val ([10]))) c62 ∧ SOwn W w727.heap.size 50 .u32 A61 (canon (val (canon (decV (s.data.toList.take i2))) * val ([10]))) c62),
       ve (.string s),
       ve (iv (i2 : Int)),
       ve (.int .u8 ((bAt s i2 : Nat) : Int)),
       ve (.int .u8 (((bAt s i2) - 48 : Nat) : Int)),
       ve (.int .u32 (((bAt s i2) - 48 : Nat) : Int)),
       (fun (v : Value) (W : World) => ∃ (A65 : Option Addr) (c66 : Nat), v = sv A65 ([((bAt s i2) - 48)]) c66 ∧ SOwn W w727.heap.size 50 .u32 A65 ([((bAt s i2) - 48)]) c66),
       (fun (v : Value) (W : World) => ∃ (A73 : Option Addr) (c74 : Nat), v = sv A73 (canon (val ([((bAt s i2) - 48)]))) c74 ∧ SOwn W w727.heap.size 50 .u32 A73 (canon (val ([((bAt s i2) - 48)]))) c74),
       (fun (v : Value) (W : World) => ∃ (A85 : Option Addr) (c86 : Nat), v = sv A85 (canon (val (canon (val (canon (decV (s.data.toList.take i2))) * val ([10]))) + val (canon (val ([((bAt s i2) - 48)]))))) c86 ∧ SOwn W w727.heap.size 50 .u32 A85 (canon (val (canon (val (canon (decV (s.data.toList.take i2))) * val ([10]))) + val (canon (val ([((bAt s i2) - 48)]))))) c86),
       vt] hs730 (.eq (.cons (fun v W W' hn ⟨A53, c54, he, h0⟩ => ⟨A53, c54, he, h0.new_ hn⟩) (.cons (fun v W W' hn ⟨A61, c62, he, h0⟩ => ⟨A61, c62, he, h0.new_ hn⟩) (.eq (.eq (.eq (.eq (.eq (.cons (fun v W W' hn ⟨A65, c66, he, h0⟩ => ⟨A65, c66, he, h0.new_ hn⟩) (.cons (fun v W W' hn ⟨A73, c74, he, h0⟩ => ⟨A73, c74, he, h0.new_ hn⟩) (.cons (fun v W W' hn ⟨A85, c86, he, h0⟩ => ⟨A85, c86, he, h0.new_ hn⟩) (.tt (.nil))))))))))))) ?_ ?_
    · skip
      refine .o1 (tk rfl rfl fun _ w hn k => ⟨_, v_move rfl (k.fx 7 h732), rfl⟩) ?_
      refine .o1 (tkA rfl (noG rfl) fun _ w hn k => (by
            exact x_bslice (k := .u32) (ps := [(0, .int .u32 10)]) [10] rfl (parts1 rfl) elW rfl (by omega) (by omega) (by first | kernel_rfl | (simp only [enc, List.map_cons, List.map_nil, Int.toNat_natCast, Int.toNat_of_nonneg (by omega : (0 : Int) ≤ _)]; kernel_rfl)) fun A51 c52 W' hmo => ⟨A51, c52, rfl, (hmo.more hn.size)⟩)) ?_
      refine .o1 (tkC rfl (noG rfl) rfl fun _ w hn k => (by
            obtain ⟨A55, c56, e57, hx58⟩ : (fun (v : Value) (W : World) => ∃ (A53 : Option Addr) (c54 : Nat), v = sv A53 ([10]) c54 ∧ SOwn W w727.heap.size 50 .u32 A53 ([10]) c54) _ _ := k.dep 1 61 (by kernel_rfl) (by kernel_rfl)
            refine ⟨#[sv A1 (canon (decV (s.data.toList.take i2))) c1, sv A55 ([10]) c56], _, args2 (k.eq1 0 60 rfl) e57, fun w => by kernel_rfl, rtimes_c _ _ _ _ _ _ _ (hr739.new_ hn).row hx58.row (limbs_canon _) limbs_10 (by first | omega | (simp only [List.length_nil, List.length_cons, List.length_set, List.length_replicate]; omega)) (by first | omega | (simp only [List.length_nil, List.length_cons, List.length_set, List.length_replicate]; omega)), ?_⟩
            rintro e w' ⟨A59, c60, rfl, hmo, hm⟩
            exact ⟨_, rfl, hm, ⟨A59, c60, rfl, (hmo.more hn.size)⟩⟩)) ?_
      refine .o1 (tk rfl rfl fun _ w hn k => ⟨_, v_move rfl (k.fx 5 h736), rfl⟩) ?_
      refine .o1 (tk rfl rfl fun _ w hn k => ⟨_, v_move rfl (k.fx 8 h733), rfl⟩) ?_
      refine .o1 (tk rfl rfl fun _ w hn k => ⟨_, v_idxN rfl (k.eq1 3 63 rfl) (k.eq1 4 64 rfl) (by kernel_rfl) (by omega), rfl⟩) ?_
      refine .o1 (tk rfl rfl fun _ w hn k => ⟨_, v_bin rfl (k.eq1 5 65 rfl) rfl (fun _ => rfl) (n_sub (by omega) (IntWalk.u8_in _ (by omega))), rfl⟩) ?_
      refine .o1 (tk rfl rfl fun _ w hn k => ⟨_, v_conv rfl (k.eq1 6 66 rfl) (n_conv (by kernel_rfl) (by kernel_rfl) (by kernel_rfl) (IntWalk.u32_in _ (by omega))), rfl⟩) ?_
      refine .o1 (tkA rfl (noG rfl) fun _ w hn k => (by
            exact x_bslice (k := .u32) (ps := [(0, .int .u32 (((bAt s i2) - 48 : Nat) : Int))]) [((bAt s i2) - 48)] rfl (parts1 (k.eq1 7 67 rfl)) elW rfl (by omega) (by omega) (by first | kernel_rfl | (simp only [enc, List.map_cons, List.map_nil, Int.toNat_natCast, Int.toNat_of_nonneg (by omega : (0 : Int) ≤ _)]; kernel_rfl)) fun A63 c64 W' hmo => ⟨A63, c64, rfl, (hmo.more hn.size)⟩)) ?_
      refine .o1 (tkC rfl (noG rfl) rfl fun _ w hn k => (by
            obtain ⟨A67, c68, e69, hx70⟩ : (fun (v : Value) (W : World) => ∃ (A65 : Option Addr) (c66 : Nat), v = sv A65 ([((bAt s i2) - 48)]) c66 ∧ SOwn W w727.heap.size 50 .u32 A65 ([((bAt s i2) - 48)]) c66) _ _ := k.dep 8 68 (by kernel_rfl) (by kernel_rfl)
            refine ⟨#[sv A67 ([((bAt s i2) - 48)]) c68], _, args1 e69, fun w => by kernel_rfl, rtrim_c _ _ _ _ hx70.row (limbs_d (bAt_lt _ _)) (by first | omega | (simp only [List.length_nil, List.length_cons, List.length_set, List.length_replicate]; omega)), ?_⟩
            rintro e w' ⟨A71, c72, rfl, hmo, hm⟩
            exact ⟨_, rfl, hm, ⟨A71, c72, rfl, (hmo.more hn.size)⟩⟩)) ?_
      refine .o1 (tkC rfl (noG rfl) rfl fun _ w hn k => (by
            obtain ⟨A75, c76, e77, hx78⟩ : (fun (v : Value) (W : World) => ∃ (A61 : Option Addr) (c62 : Nat), v = sv A61 (canon (val (canon (decV (s.data.toList.take i2))) * val ([10]))) c62 ∧ SOwn W w727.heap.size 50 .u32 A61 (canon (val (canon (decV (s.data.toList.take i2))) * val ([10]))) c62) _ _ := k.dep 2 62 (by kernel_rfl) (by kernel_rfl)
            obtain ⟨A79, c80, e81, hx82⟩ : (fun (v : Value) (W : World) => ∃ (A73 : Option Addr) (c74 : Nat), v = sv A73 (canon (val ([((bAt s i2) - 48)]))) c74 ∧ SOwn W w727.heap.size 50 .u32 A73 (canon (val ([((bAt s i2) - 48)]))) c74) _ _ := k.dep 9 69 (by kernel_rfl) (by kernel_rfl)
            refine ⟨#[sv A75 (canon (val (canon (decV (s.data.toList.take i2))) * val ([10]))) c76, sv A79 (canon (val ([((bAt s i2) - 48)]))) c80], _, args2 e77 e81, fun w => by kernel_rfl, rplus_c _ _ _ _ _ _ _ hx78.row hx82.row (limbs_canon _) (limbs_canon _) (by first | omega | (simp only [List.length_nil, List.length_cons, List.length_set, List.length_replicate]; omega)) (by first | omega | (simp only [List.length_nil, List.length_cons, List.length_set, List.length_replicate]; omega)), ?_⟩
            rintro e w' ⟨A83, c84, rfl, hmo, hm⟩
            exact ⟨_, rfl, hm, ⟨A83, c84, rfl, (hmo.more hn.size)⟩⟩)) ?_
      refine .off ?_
      exact .nil
    intro a745 w746 hn747 ha748
    have hs749 := ha748.size.trans hs730
    have hd750 := ha748.defers.trans hd731
    have h751 := ha748.fx 7 h732
    have h752 := ha748.fx 8 h733
    have h753 := ha748.fx 2 h734
    have h754 := ha748.fx 4 h735
    have h755 := ha748.fx 5 h736
    obtain ⟨A757, cc758, h756, hr759⟩ : (fun (v : Value) (W : World) => ∃ (A85 : Option Addr) (c86 : Nat), v = sv A85 (canon (val (canon (val (canon (decV (s.data.toList.take i2))) * val ([10]))) + val (canon (val ([((bAt s i2) - 48)]))))) c86 ∧ SOwn W w727.heap.size 50 .u32 A85 (canon (val (canon (val (canon (decV (s.data.toList.take i2))) * val ([10]))) + val (canon (val ([((bAt s i2) - 48)]))))) c86) _ _ := ha748.got 10 70 rfl (by kernel_rfl)
    have h756 : a745.eval (.tmp 70) = sv A757 (canon (val (canon (val (canon (decV (s.data.toList.take i2))) * val ([10]))) + val (canon (val ([((bAt s i2) - 48)]))))) cc758 := h756
    have hb760 := hb738.new_ hn747
    have hr761 := hr739.new_ hn747
    have hr762 := hr759.more hN740.size
    have hN763 := hN740.transNew hn747
    clear hs730 hd731 h732 h733 h734 h735 h736 hv742 hb738 hr739 hr759 hN740 ha748 hn747
    refine st_take rfl rfl (y_assign (v := sv A757 (canon (val (canon (val (canon (decV (s.data.toList.take i2))) * val ([10]))) + val (canon (val ([((bAt s i2) - 48)]))))) cc758) rfl h756) rfl ?_
    obtain ⟨a764, ha765⟩ : ∃ a', a' = a745.put (some 7) (sv A757 (canon (val (canon (val (canon (decV (s.data.toList.take i2))) * val ([10]))) + val (canon (val ([((bAt s i2) - 48)]))))) cc758) := ⟨_, rfl⟩
    have hs766 : a764.tmps.size = 78 := by rw [ha765, put_size]; exact hs749
    have hd767 : a764.defers = [] := by rw [ha765, put_defers]; exact hd750
    have h768 : a764.eval (.tmp 8) = iv (i2 : Int) := by rw [ha765, put_ne _ _ _ _ (by decide)]; exact h752
    have h769 : a764.eval (.tmp 2) = pv q10 := by rw [ha765, put_ne _ _ _ _ (by decide)]; exact h753
    have h770 : a764.eval (.tmp 4) = .bool false := by rw [ha765, put_ne _ _ _ _ (by decide)]; exact h754
    have h771 : a764.eval (.tmp 5) = .string s := by rw [ha765, put_ne _ _ _ _ (by decide)]; exact h755
    have h772 : a764.eval (.tmp 70) = sv A757 (canon (val (canon (val (canon (decV (s.data.toList.take i2))) * val ([10]))) + val (canon (val ([((bAt s i2) - 48)]))))) cc758 := by rw [ha765, put_ne _ _ _ _ (by decide)]; exact h756
    have h773 : a764.eval (.tmp 7) = sv A757 (canon (val (canon (val (canon (decV (s.data.toList.take i2))) * val ([10]))) + val (canon (val ([((bAt s i2) - 48)]))))) cc758 := by rw [ha765]; exact put_same _ _ _ (by rw [hs749]; decide)
    show stepsTo _ _ _ _ _ (a745.put (some 7) (sv A757 (canon (val (canon (val (canon (decV (s.data.toList.take i2))) * val ([10]))) + val (canon (val ([((bAt s i2) - 48)]))))) cc758)) _
    rw [← ha765]
    clear ha765 hs749 hd750 h751 h752 h753 h754 h755 h756
    refine st_nil ?_
    clear h772 hr761
    have he774 : (canon (val (canon (val (canon (decV (s.data.toList.take i2))) * val ([10]))) + val (canon (val ([((bAt s i2) - 48)]))))) = (canon (decV (s.data.toList.take (i2 + 1)))) := by rw [hstep, val_canon, val_canon, val_canon, val_one, val_one, Nat.mul_comm]
    rw [he774] at h773
    rw [he774] at hr762
    refine hK744 _ _ ?_
    clear hK744 K744
    refine wp_seq_k fun K775 hK775 => ?_
    rcases Bool.eq_false_or_eq_true (decide (((canon (decV (s.data.toList.take (i2 + 1)))).length : Int) ≤ 8)) with ht776 | ht776
    · skip
      have ht776d := of_decide_eq_true ht776
      refine wp_g0 [true, true, true] [] 78
        [ve (sv A757 (canon (decV (s.data.toList.take (i2 + 1)))) cc758),
         ve (iv ((canon (decV (s.data.toList.take (i2 + 1)))).length : Int)),
         ve (.bool false)] hs766 (.eq (.eq (.eq (.nil)))) ?_ ?_
      · skip
        refine .o1 (tk rfl rfl fun _ w hn k => ⟨_, v_move rfl (k.fx 7 h773), rfl⟩) ?_
        refine .o1 (tk rfl rfl fun _ w hn k => ⟨_, v_lenR rfl elW (k.eq1 0 71 rfl), rfl⟩) ?_
        refine .o1 (tk rfl rfl fun _ w hn k => ⟨_, v_bin rfl (k.eq1 1 72 rfl) rfl (fun _ => rfl) (r_gtrK ht776), rfl⟩) ?_
        exact .nil
      intro a777 w778 hn779 ha780
      have hs781 := ha780.size.trans hs766
      have hd782 := ha780.defers.trans hd767
      have h783 := ha780.fx 8 h768
      have h784 := ha780.fx 2 h769
      have h785 := ha780.fx 4 h770
      have h786 := ha780.fx 5 h771
      have h787 := ha780.fx 7 h773
      have h788 := ha780.ge 2 73 rfl
      have hb789 := hb760.new_ hn779
      have hr790 := hr762.new_ hn779
      have hN791 := hN763.transNew hn779
      clear hs766 hd767 h768 h769 h770 h771 h773 hb760 hr762 hN763 ha780 hn779
      refine st_nil ?_
      refine hK775 _ _ ?_
      clear hK775 K775
      refine wp_cond_false h788 ?_
      refine wp_skip ?_
      refine hK743 _ _ ?_
      clear hK743 K743
      refine wp_g0 [true, true, false] [(2, true)] 78
        [ve (iv (i2 : Int)),
         ve (iv ((i2 + 1 : Nat) : Int)),
         vt] hs781 (.eq (.eq (.tt (.nil)))) ?_ ?_
      · skip
        refine .o1 (tk rfl rfl fun _ w hn k => ⟨_, v_move rfl (k.fx 8 h783), rfl⟩) ?_
        refine .o1 (tk rfl rfl fun _ w hn k => ⟨_, v_bin rfl (k.eq1 0 58 rfl) rfl (fun _ => rfl) (n_add (by omega) (IntWalk.i64_in _ (by omega))), rfl⟩) ?_
        refine .off ?_
        exact .nil
      intro a792 w793 hn794 ha795
      have hs796 := ha795.size.trans hs781
      have hd797 := ha795.defers.trans hd782
      have h798 := ha795.fx 8 h783
      have h799 := ha795.fx 2 h784
      have h800 := ha795.fx 4 h785
      have h801 := ha795.fx 5 h786
      have h802 := ha795.fx 7 h787
      have h803 := ha795.ge 1 59 rfl
      have hb804 := hb789.new_ hn794
      have hr805 := hr790.new_ hn794
      have hN806 := hN791.transNew hn794
      clear hs781 hd782 h783 h784 h785 h786 h787 h788 hb789 hr790 hN791 ha795 hn794
      refine st_take rfl rfl (y_assign (v := iv ((i2 + 1 : Nat) : Int)) rfl h803) rfl ?_
      obtain ⟨a807, ha808⟩ : ∃ a', a' = a792.put (some 8) (iv ((i2 + 1 : Nat) : Int)) := ⟨_, rfl⟩
      have hs809 : a807.tmps.size = 78 := by rw [ha808, put_size]; exact hs796
      have hd810 : a807.defers = [] := by rw [ha808, put_defers]; exact hd797
      have h811 : a807.eval (.tmp 2) = pv q10 := by rw [ha808, put_ne _ _ _ _ (by decide)]; exact h799
      have h812 : a807.eval (.tmp 4) = .bool false := by rw [ha808, put_ne _ _ _ _ (by decide)]; exact h800
      have h813 : a807.eval (.tmp 5) = .string s := by rw [ha808, put_ne _ _ _ _ (by decide)]; exact h801
      have h814 : a807.eval (.tmp 7) = sv A757 (canon (decV (s.data.toList.take (i2 + 1)))) cc758 := by rw [ha808, put_ne _ _ _ _ (by decide)]; exact h802
      have h815 : a807.eval (.tmp 59) = iv ((i2 + 1 : Nat) : Int) := by rw [ha808, put_ne _ _ _ _ (by decide)]; exact h803
      have h816 : a807.eval (.tmp 8) = iv ((i2 + 1 : Nat) : Int) := by rw [ha808]; exact put_same _ _ _ (by rw [hs796]; decide)
      show stepsTo _ _ _ _ _ (a792.put (some 8) (iv ((i2 + 1 : Nat) : Int))) _
      rw [← ha808]
      clear ha808 hs796 hd797 h798 h799 h800 h801 h802 h803
      refine st_nil ?_
      clear h815
      refine then_n ?_
      exact ⟨_, ⟨i2 + 1, A757, cc758, rfl, hs809, hd810, hN806, h814, (h816.trans (congrArg (Value.int .i64) (by omega))), h811, h812, h813, hb804, hr805, (by omega), (by omega)⟩, (by omega)⟩
    have ht776d := of_decide_eq_false ht776
    refine wp_g0 [true, true, true] [] 78
      [ve (sv A757 (canon (decV (s.data.toList.take (i2 + 1)))) cc758),
       ve (iv ((canon (decV (s.data.toList.take (i2 + 1)))).length : Int)),
       ve (.bool true)] hs766 (.eq (.eq (.eq (.nil)))) ?_ ?_
    · skip
      refine .o1 (tk rfl rfl fun _ w hn k => ⟨_, v_move rfl (k.fx 7 h773), rfl⟩) ?_
      refine .o1 (tk rfl rfl fun _ w hn k => ⟨_, v_lenR rfl elW (k.eq1 0 71 rfl), rfl⟩) ?_
      refine .o1 (tk rfl rfl fun _ w hn k => ⟨_, v_bin rfl (k.eq1 1 72 rfl) rfl (fun _ => rfl) (r_gtrK ht776), rfl⟩) ?_
      exact .nil
    intro a817 w818 hn819 ha820
    have hs821 := ha820.size.trans hs766
    have hd822 := ha820.defers.trans hd767
    have h823 := ha820.fx 8 h768
    have h824 := ha820.fx 2 h769
    have h825 := ha820.fx 4 h770
    have h826 := ha820.fx 5 h771
    have h827 := ha820.fx 7 h773
    have h828 := ha820.ge 2 73 rfl
    have hb829 := hb760.new_ hn819
    have hr830 := hr762.new_ hn819
    have hN831 := hN763.transNew hn819
    clear hs766 hd767 h768 h769 h770 h771 h773 hb760 hr762 hN763 ha820 hn819
    refine st_nil ?_
    refine hK775 _ _ ?_
    clear hK775 K775
    refine wp_cond_true h828 ?_
    refine wp_seq_k fun K832 hK832 => ?_
    refine wp_g0 [true, false, false] [(1, false), (2, true)] 78
      [ve (.agg #[.bool false, sv none ([]) 0]),
       vt,
       vt] hs821 (.eq (.tt (.tt (.nil)))) ?_ ?_
    · skip
      refine .o1 (tk rfl rfl fun _ w hn k => ⟨_, v_build (ps := []) rfl parts0 (by kernel_rfl), rfl⟩) ?_
      refine .off ?_
      refine .off ?_
      exact .nil
    intro a833 w834 hn835 ha836
    have hs837 := ha836.size.trans hs821
    have hd838 := ha836.defers.trans hd822
    have h839 := ha836.fx 2 h824
    have h840 := ha836.ge 0 74 rfl
    have hb841 := hb829.new_ hn835
    have hN842 := hN831.transNew hn835
    clear hs821 hd822 h823 h824 h825 h826 h827 h828 hb829 hr830 hN831 ha836 hn835
    obtain ⟨w843, -, hst844, hb845, hu846, hf847⟩ := s_two (v0 := .bool false) (v1 := sv none ([]) 0) Try.sizeOf24 rfl rfl rfl hb841
    refine st_act rfl rfl fun K848 hL849 => a_store' rfl h839 h840 hst844 (hL849 _ _ trivial ?_)
    have hN850 := hN842.trans hu846 (fun k hk hkb => by subst hkb; omega)
    clear hb841 hst844 K848 hL849 hN842 hu846 hf847
    refine st_take rfl rfl (y_assign (v := iv 3) rfl rfl) rfl ?_
    obtain ⟨a851, ha852⟩ : ∃ a', a' = a833.put (some 3) (iv 3) := ⟨_, rfl⟩
    have hs853 : a851.tmps.size = 78 := by rw [ha852, put_size]; exact hs837
    have hd854 : a851.defers = [] := by rw [ha852, put_defers]; exact hd838
    have h855 : a851.eval (.tmp 2) = pv q10 := by rw [ha852, put_ne _ _ _ _ (by decide)]; exact h839
    have h856 : a851.eval (.tmp 74) = .agg #[.bool false, sv none ([]) 0] := by rw [ha852, put_ne _ _ _ _ (by decide)]; exact h840
    have h857 : a851.eval (.tmp 3) = iv 3 := by rw [ha852]; exact put_same _ _ _ (by rw [hs837]; decide)
    show stepsTo _ _ _ _ _ (a833.put (some 3) (iv 3)) _
    rw [← ha852]
    clear ha852 hs837 hd838 h839 h840
    refine st_nil ?_
    clear h856
    refine hK832 _ _ ?_
    clear hK832 K832
    refine wp_ret (ret_k hd854 (v := .tuple #[.agg #[.bool false, sv none ([]) 0], iv 3]) (res_ct rfl h855 h857 (l_two Try.isAgg24 Try.sizeOf24 hb845)) ?_)
    have hs2 : (iv 3 : Value) = iv (parseZ s.data.toList).2 := by rw [pz_long hR hdB (fun h => by cases h) (dec_long ht776)]
    have hz1 : (decide ((parseZ s.data.toList).1 < 0)) = false := by rw [pz_long hR hdB (fun h => by cases h) (dec_long ht776)]; rfl
    have hz2 : canon ((parseZ s.data.toList).1).natAbs = [] := by rw [pz_long hR hdB (fun h => by cases h) (dec_long ht776)]; exact canon_zero
    exact ⟨none, 0, by rw [hz1, hz2, hs2], by rw [hz2]; exact (SRow.nil _ _), hN850⟩
  have ht741d := of_decide_eq_false ht741
  have hv858 : a726.eval (.tmp 57) = .bool false := h737.trans (congrArg Value.bool ht741)
  clear h737
  refine wp_cond_false hv858 ?_
  refine wp_exit ?_
  refine hK697 _ _ ?_
  clear hK697 K697 hK724 K724
  refine wp_seq_k fun K859 hK859 => ?_
  refine wp_g0 [true, true, true, false, false] [(3, false), (4, true)] 78
    [ve (.bool false),
     ve (sv A1 (canon (decV (s.data.toList.take i2))) c1),
     (fun (v : Value) (W : World) => ∃ (A95 : Option Addr) (c96 : Nat), v = .agg #[.bool (decide (sgn false (val (canon (decV (s.data.toList.take i2)))) < 0)), sv A95 (canon (sgn false (val (canon (decV (s.data.toList.take i2))))).natAbs) c96] ∧ SRow W .u32 A95 (canon (sgn false (val (canon (decV (s.data.toList.take i2))))).natAbs) c96),
     vt,
     vt] hs730 (.eq (.eq (.cons (fun v W W' hn ⟨A95, c96, he, h0⟩ => ⟨A95, c96, he, h0.new_ hn⟩) (.tt (.tt (.nil)))))) ?_ ?_
  · skip
    refine .o1 (tk rfl rfl fun _ w hn k => ⟨_, v_move rfl (k.fx 4 h735), rfl⟩) ?_
    refine .o1 (tk rfl rfl fun _ w hn k => ⟨_, v_move rfl (k.fx 7 h732), rfl⟩) ?_
    refine .o1 (tkC rfl (noG rfl) rfl fun _ w hn k => (by
          refine ⟨#[.bool false, sv A1 (canon (decV (s.data.toList.take i2))) c1], _, args2 (k.eq1 0 75 rfl) (k.eq1 1 76 rfl), fun w => by kernel_rfl, rmade_c _ _ _ _ _ (hr739.new_ hn).row (limbs_canon _) (by first | omega | (simp only [List.length_nil, List.length_cons, List.length_set, List.length_replicate]; omega)), ?_⟩
          rintro e w' ⟨A93, c94, rfl, hmo, hm⟩
          exact ⟨_, rfl, hm, ⟨A93, c94, rfl, hmo⟩⟩)) ?_
    refine .off ?_
    refine .off ?_
    exact .nil
  intro a860 w861 hn862 ha863
  have hs864 := ha863.size.trans hs730
  have hd865 := ha863.defers.trans hd731
  have h866 := ha863.fx 2 h734
  obtain ⟨A868, cc869, h867, hr870⟩ : (fun (v : Value) (W : World) => ∃ (A95 : Option Addr) (c96 : Nat), v = .agg #[.bool (decide (sgn false (val (canon (decV (s.data.toList.take i2)))) < 0)), sv A95 (canon (sgn false (val (canon (decV (s.data.toList.take i2))))).natAbs) c96] ∧ SRow W .u32 A95 (canon (sgn false (val (canon (decV (s.data.toList.take i2))))).natAbs) c96) _ _ := ha863.got 2 77 rfl (by kernel_rfl)
  have h867 : a860.eval (.tmp 77) = .agg #[.bool (decide (sgn false (val (canon (decV (s.data.toList.take i2)))) < 0)), sv A868 (canon (sgn false (val (canon (decV (s.data.toList.take i2))))).natAbs) cc869] := h867
  have hb871 := hb738.new_ hn862
  have hN872 := hN740.transNew hn862
  clear hs730 hd731 h732 h733 h734 h735 h736 hv858 hb738 hr739 hN740 ha863 hn862
  obtain ⟨w873, -, hst874, hb875, hu876, hf877⟩ := s_two (v0 := .bool (decide (sgn false (val (canon (decV (s.data.toList.take i2)))) < 0))) (v1 := sv A868 (canon (sgn false (val (canon (decV (s.data.toList.take i2))))).natAbs) cc869) Try.sizeOf24 rfl rfl rfl hb871
  refine st_act rfl rfl fun K878 hL879 => a_store' rfl h866 h867 hst874 (hL879 _ _ trivial ?_)
  have hr880 := hr870.far hb871 hu876 (by first | rfl | decide | simp [notK])
  have hN881 := hN872.trans hu876 (fun k hk hkb => by subst hkb; omega)
  clear hb871 hst874 K878 hL879 hN872 hr870 hu876 hf877
  refine st_take rfl rfl (y_assign (v := iv 0) rfl rfl) rfl ?_
  obtain ⟨a882, ha883⟩ : ∃ a', a' = a860.put (some 3) (iv 0) := ⟨_, rfl⟩
  have hs884 : a882.tmps.size = 78 := by rw [ha883, put_size]; exact hs864
  have hd885 : a882.defers = [] := by rw [ha883, put_defers]; exact hd865
  have h886 : a882.eval (.tmp 2) = pv q10 := by rw [ha883, put_ne _ _ _ _ (by decide)]; exact h866
  have h887 : a882.eval (.tmp 77) = .agg #[.bool (decide (sgn false (val (canon (decV (s.data.toList.take i2)))) < 0)), sv A868 (canon (sgn false (val (canon (decV (s.data.toList.take i2))))).natAbs) cc869] := by rw [ha883, put_ne _ _ _ _ (by decide)]; exact h867
  have h888 : a882.eval (.tmp 3) = iv 0 := by rw [ha883]; exact put_same _ _ _ (by rw [hs864]; decide)
  show stepsTo _ _ _ _ _ (a860.put (some 3) (iv 0)) _
  rw [← ha883]
  clear ha883 hs864 hd865 h866 h867
  refine st_nil ?_
  clear h887
  refine hK859 _ _ ?_
  clear hK859 K859
  refine wp_ret (ret_k hd885 (v := .tuple #[.agg #[.bool (decide (sgn false (val (canon (decV (s.data.toList.take i2)))) < 0)), sv A868 (canon (sgn false (val (canon (decV (s.data.toList.take i2))))).natAbs) cc869], iv 0]) (res_ct rfl h886 h888 (l_two Try.isAgg24 Try.sizeOf24 hb875)) ?_)
  have hs2 : (iv 0 : Value) = iv (parseZ s.data.toList).2 := by rw [pz_ok hR hdB (fun h => by cases h) (dec_ok (i := i2) (by omega) hv8)]
  have hz1 : sgn false (val (canon (decV (s.data.toList.take i2)))) = (parseZ s.data.toList).1 := by rw [pz_ok hR hdB (fun h => by cases h) (dec_ok (i := i2) (by omega) hv8), val_canon, dec_all (by omega)]
  exact ⟨A868, cc869, (congrArg (fun z : Int => Ending.returned (Value.tuple #[.agg #[.bool (decide (z < 0)), sv A868 (canon z.natAbs) cc869], iv 0])) hz1).trans (congrArg (fun y => Ending.returned (Value.tuple #[.agg #[.bool (decide ((parseZ s.data.toList).1 < 0)), sv A868 (canon ((parseZ s.data.toList).1).natAbs) cc869], y])) hs2), Eq.mp (congrArg (fun z : Int => SRow _ .u32 A868 (canon z.natAbs) cc869) hz1) hr880, hN881⟩
set_option maxHeartbeats 16000000 in
set_option maxRecDepth 100000 in
theorem rparse_m (s : ByteArray) (w : World) (hs : s.size ≤ 100000) (h0 : s.size ≠ 0) (hm : bAt s 0 = 45) : Calls Try.prog 17 #[.string s] w (RetZE (parseZ s.data.toList).1 (parseZ s.data.toList).2 w) := by
  refine enter_abs Try.func17 rfl fun a0 hs0 hd0 hp => ?_
  have hs0 : a0.tmps.size = 78 := hs0
  have hN0 : New w w := Upd.refl _ _
  have hp0 : a0.eval (.tmp 0) = .string s := hp 0 _ rfl
  clear hp
  refine wp_seq_k fun K1 hK1 => ?_
  refine wp_g [true, true] [] [] 78
    [IsNew w 24 [.bool false, sv none ([]) 0],
     ve (iv 0)]
    [0] (newsCons (fun v w h => IsNew.old h) newsNil) hs0 (.nw (.eq (.nil))) ?_ (fun i h => by cases h) ?_
  · skip
    refine .o2 (step_allocN (cs := [.bool false, sv none ([]) 0]) (t := 24) rfl (noG rfl) (fun _ w hn k => rfl) (fun q _ hq hb => ⟨q, rfl, hq, hb⟩)) ?_
    refine .o1 (tk rfl rfl fun _ w hn k => ⟨_, v_assign rfl rfl, rfl⟩) ?_
    exact .nil
  intro a2 w3 hn4 ha5
  have hs6 := ha5.size.trans hs0
  have hd7 := ha5.defers.trans hd0
  have h8 := ha5.fx 0 hp0
  obtain ⟨q10, h9, hq11, hb12⟩ : IsNew _ _ _ _ _ := ha5.got 0 2 rfl (by kernel_rfl)
  have hq13 := Nat.le_trans hN0.size hq11
  have hN14 := hN0.transNew hn4
  clear hs0 hd0 hp0 hq11 hN0 ha5 hn4
  refine st_nil ?_
  refine hK1 _ _ ?_
  clear hK1 K1
  refine wp_seq_k fun K15 hK15 => ?_
  have ht16 : (decide ((s.size : Int) ≤ 0)) = false := decide_eq_false (by omega)
  have ht16d := of_decide_eq_false ht16
  refine wp_g0 [true, true, true, true, true, true, true, true, true] [] 78
    [ve (.string s),
     ve (iv (s.size : Int)),
     ve (.bool true),
     ve (.bool true),
     ve (.string s),
     ve (.int .u8 ((bAt s 0 : Nat) : Int)),
     ve (.bool (decide (((bAt s 0 : Nat) : Int) = 45))),
     ve (.bool (decide (((bAt s 0 : Nat) : Int) = 45))),
     ve (.bool (decide (((bAt s 0 : Nat) : Int) = 45)))] hs6 (.eq (.eq (.eq (.eq (.eq (.eq (.eq (.eq (.eq (.nil)))))))))) ?_ ?_
  · skip
    refine .o1 (tk rfl rfl fun _ w hn k => ⟨_, v_move rfl (k.fx 0 h8), rfl⟩) ?_
    refine .o1 (tk rfl rfl fun _ w hn k => ⟨_, v_lenS rfl (k.eq1 0 9 rfl) (by kernel_rfl), rfl⟩) ?_
    refine .o1 (tk rfl rfl fun _ w hn k => ⟨_, v_bin rfl (k.eq1 1 10 rfl) rfl (fun _ => rfl) (r_gtrK ht16), rfl⟩) ?_
    refine .o1 (tk rfl rfl fun _ w hn k => ⟨_, v_move rfl (k.eq1 2 11 rfl), rfl⟩) ?_
    refine .o1 (tg rfl rfl rfl (fun _ _ k => k.eq1 3 12 rfl) fun _ w hn k => ⟨_, v_move rfl (k.fx 0 h8), rfl⟩) ?_
    refine .o1 (tg rfl rfl rfl (fun _ _ k => k.eq1 3 12 rfl) fun _ w hn k => ⟨_, v_idxN rfl (k.eq1 4 13 rfl) rfl (by kernel_rfl) (by omega), rfl⟩) ?_
    refine .o1 (tg rfl rfl rfl (fun _ _ k => k.eq1 3 12 rfl) fun _ w hn k => ⟨_, v_bin rfl (k.eq1 5 14 rfl) rfl (fun _ => rfl) (r_eql rfl), rfl⟩) ?_
    refine .o1 (tk rfl rfl fun _ w hn k => ⟨_, v_pickT rfl (k.eq1 3 12 rfl) (k.eq1 6 15 rfl), rfl⟩) ?_
    refine .o1 (tk rfl rfl fun _ w hn k => ⟨_, v_assign rfl (k.eq1 7 16 rfl), rfl⟩) ?_
    exact .nil
  intro a17 w18 hn19 ha20
  have hs21 := ha20.size.trans hs6
  have hd22 := ha20.defers.trans hd7
  have h23 := ha20.fx 0 h8
  have h24 := ha20.fx 2 h9
  have h25 := ha20.ge 8 4 rfl
  have hb26 := hb12.new_ hn19
  have hN27 := hN14.transNew hn19
  clear hs6 hd7 h8 h9 hb12 hN14 ha20 hn19
  refine st_nil ?_
  refine hK15 _ _ ?_
  clear hK15 K15
  refine wp_seq_k fun K28 hK28 => ?_
  refine wp_g0 [true, true] [] 78
    [ve (.string s),
     ve (.string s)] hs21 (.eq (.eq (.nil))) ?_ ?_
  · skip
    refine .o1 (tk rfl rfl fun _ w hn k => ⟨_, v_move rfl (k.fx 0 h23), rfl⟩) ?_
    refine .o1 (tk rfl rfl fun _ w hn k => ⟨_, v_assign rfl (k.eq1 0 17 rfl), rfl⟩) ?_
    exact .nil
  intro a29 w30 hn31 ha32
  have hs33 := ha32.size.trans hs21
  have hd34 := ha32.defers.trans hd22
  have h35 := ha32.fx 0 h23
  have h36 := ha32.fx 2 h24
  have h37 := ha32.fx 4 h25
  have h38 := ha32.ge 1 5 rfl
  have hb39 := hb26.new_ hn31
  have hN40 := hN27.transNew hn31
  clear hs21 hd22 h23 h24 h25 hb26 hN27 ha32 hn31
  refine st_nil ?_
  refine hK28 _ _ ?_
  clear hK28 K28
  refine wp_seq_k fun K41 hK41 => ?_
  refine wp_seq_k fun K42 hK42 => ?_
  refine wp_g0 [true] [] 78
    [ve (.bool (decide (((bAt s 0 : Nat) : Int) = 45)))] hs33 (.eq (.nil)) ?_ ?_
  · skip
    refine .o1 (tk rfl rfl fun _ w hn k => ⟨_, v_move rfl (k.fx 4 h37), rfl⟩) ?_
    exact .nil
  intro a43 w44 hn45 ha46
  have hs47 := ha46.size.trans hs33
  have hd48 := ha46.defers.trans hd34
  have h49 := ha46.fx 0 h35
  have h50 := ha46.fx 2 h36
  have h51 := ha46.fx 4 h37
  have h52 := ha46.fx 5 h38
  have h53 := ha46.ge 0 18 rfl
  have hb54 := hb39.new_ hn45
  have hN55 := hN40.transNew hn45
  clear hs33 hd34 h35 h36 h37 h38 hb39 hN40 ha46 hn45
  refine st_nil ?_
  refine hK42 _ _ ?_
  clear hK42 K42
  have ht56 : (decide (((bAt s 0 : Nat) : Int) = 45)) = true := decide_eq_true (by omega)
  have ht56d := of_decide_eq_true ht56
  have hv57 : a43.eval (.tmp 4) = .bool true := h51.trans (congrArg Value.bool ht56)
  clear h51
  have hv58 : a43.eval (.tmp 18) = .bool true := h53.trans (congrArg Value.bool ht56)
  clear h53
  refine wp_cond_true hv58 ?_
  refine wp_g0 [true, true, true] [] 78
    [ve (.string s),
     ve (.string (s.extract 1 s.size)),
     ve (.string (s.extract 1 s.size))] hs47 (.eq (.eq (.eq (.nil)))) ?_ ?_
  · skip
    refine .o1 (tk rfl rfl fun _ w hn k => ⟨_, v_move rfl (k.fx 0 h49), rfl⟩) ?_
    refine .o1 (tk rfl rfl fun _ w hn k => ⟨_, v_tailS rfl (k.eq1 0 19 rfl) rfl (by kernel_rfl) (by omega), rfl⟩) ?_
    refine .o1 (tk rfl rfl fun _ w hn k => ⟨_, v_assign rfl (k.eq1 1 20 rfl), rfl⟩) ?_
    exact .nil
  intro a59 w60 hn61 ha62
  have hs63 := ha62.size.trans hs47
  have hd64 := ha62.defers.trans hd48
  have h65 := ha62.fx 2 h50
  have h66 := ha62.fx 4 hv57
  have h67 := ha62.ge 2 5 rfl
  have hb68 := hb54.new_ hn61
  have hN69 := hN55.transNew hn61
  clear hs47 hd48 h49 h50 hv57 h52 hv58 hb54 hN55 ha62 hn61
  refine st_nil ?_
  refine hK41 _ _ ?_
  clear hK41 K41
  refine wp_seq_k fun K70 hK70 => ?_
  refine wp_seq_k fun K71 hK71 => ?_
  have hR : PRel s true (s.extract 1 s.size) := prel_neg ht16 ht56
  have hds := ext_size s 1 (by omega)
  have hds0 := str_size0 (s := (s.extract 1 s.size))
  rcases Bool.eq_false_or_eq_true (strEq (s.extract 1 s.size) ⟨#[]⟩) with ht72 | ht72
  · skip
    refine wp_g0 [true, true, true, true, true, true, true, true, true, true, true, true, true, true, true] [] 78
      [ve (.string (s.extract 1 s.size)),
       ve (.bool true),
       ve (.bool true),
       ve undef,
       ve undef,
       ve undef,
       ve undef,
       ve undef,
       ve undef,
       ve undef,
       ve undef,
       ve undef,
       ve undef,
       ve undef,
       ve (.bool true)] hs63 (.eq (.eq (.eq (.eq (.eq (.eq (.eq (.eq (.eq (.eq (.eq (.eq (.eq (.eq (.eq (.nil)))))))))))))))) ?_ ?_
    · skip
      refine .o1 (tk rfl rfl fun _ w hn k => ⟨_, v_move rfl (k.fx 5 h67), rfl⟩) ?_
      refine .o1 (tk rfl rfl fun _ w hn k => ⟨_, v_bin rfl (k.eq1 0 21 rfl) rfl (fun _ => rfl) (r_eqlS ht72), rfl⟩) ?_
      refine .o1 (tk rfl rfl fun _ w hn k => ⟨_, v_move rfl (k.eq1 1 22 rfl), rfl⟩) ?_
      refine .o1 (sk rfl rfl rfl (fun _ _ _ k => k.eq1 2 23 rfl) (fun _ => rfl)) ?_
      refine .o1 (sk rfl rfl rfl (fun _ _ _ k => k.eq1 2 23 rfl) (fun _ => rfl)) ?_
      refine .o1 (sk rfl rfl rfl (fun _ _ _ k => k.eq1 2 23 rfl) (fun _ => rfl)) ?_
      refine .o1 (sk rfl rfl rfl (fun _ _ _ k => k.eq1 2 23 rfl) (fun _ => rfl)) ?_
      refine .o1 (su rfl rfl rfl (fun _ _ _ k => k.eq1 6 27 rfl) (fun _ => rfl)) ?_
      refine .o1 (su rfl rfl rfl (fun _ _ _ k => k.eq1 6 27 rfl) (fun _ => rfl)) ?_
      refine .o1 (su rfl rfl rfl (fun _ _ _ k => k.eq1 6 27 rfl) (fun _ => rfl)) ?_
      refine .o1 (su rfl rfl rfl (fun _ _ _ k => k.eq1 6 27 rfl) (fun _ => rfl)) ?_
      refine .o1 (su rfl rfl rfl (fun _ _ _ k => k.eq1 10 31 rfl) (fun _ => rfl)) ?_
      refine .o1 (su rfl rfl rfl (fun _ _ _ k => k.eq1 6 27 rfl) (fun _ => rfl)) ?_
      refine .o1 (sk rfl rfl rfl (fun _ _ _ k => k.eq1 2 23 rfl) (fun _ => rfl)) ?_
      refine .o1 (tk rfl rfl fun _ w hn k => ⟨_, v_pickT rfl (k.eq1 2 23 rfl) rfl, rfl⟩) ?_
      exact .nil
    intro a73 w74 hn75 ha76
    have hs77 := ha76.size.trans hs63
    have hd78 := ha76.defers.trans hd64
    have h79 := ha76.fx 2 h65
    have h80 := ha76.fx 4 h66
    have h81 := ha76.fx 5 h67
    have h82 := ha76.ge 14 35 rfl
    have hb83 := hb68.new_ hn75
    have hN84 := hN69.transNew hn75
    clear hs63 hd64 h65 h66 h67 hb68 hN69 ha76 hn75
    refine st_nil ?_
    refine hK71 _ _ ?_
    clear hK71 K71
    refine wp_cond_true h82 ?_
    refine wp_seq_k fun K85 hK85 => ?_
    refine wp_g0 [true, false, false] [(1, false), (2, true)] 78
      [ve (.agg #[.bool false, sv none ([]) 0]),
       vt,
       vt] hs77 (.eq (.tt (.tt (.nil)))) ?_ ?_
    · skip
      refine .o1 (tk rfl rfl fun _ w hn k => ⟨_, v_build (ps := []) rfl parts0 (by kernel_rfl), rfl⟩) ?_
      refine .off ?_
      refine .off ?_
      exact .nil
    intro a86 w87 hn88 ha89
    have hs90 := ha89.size.trans hs77
    have hd91 := ha89.defers.trans hd78
    have h92 := ha89.fx 2 h79
    have h93 := ha89.ge 0 36 rfl
    have hb94 := hb83.new_ hn88
    have hN95 := hN84.transNew hn88
    clear hs77 hd78 h79 h80 h81 h82 hb83 hN84 ha89 hn88
    obtain ⟨w96, -, hst97, hb98, hu99, hf100⟩ := s_two (v0 := .bool false) (v1 := sv none ([]) 0) Try.sizeOf24 rfl rfl rfl hb94
    refine st_act rfl rfl fun K101 hL102 => a_store' rfl h92 h93 hst97 (hL102 _ _ trivial ?_)
    have hN103 := hN95.trans hu99 (fun k hk hkb => by subst hkb; omega)
    clear hb94 hst97 K101 hL102 hN95 hu99 hf100
    refine st_take rfl rfl (y_assign (v := iv 2) rfl rfl) rfl ?_
    obtain ⟨a104, ha105⟩ : ∃ a', a' = a86.put (some 3) (iv 2) := ⟨_, rfl⟩
    have hs106 : a104.tmps.size = 78 := by rw [ha105, put_size]; exact hs90
    have hd107 : a104.defers = [] := by rw [ha105, put_defers]; exact hd91
    have h108 : a104.eval (.tmp 2) = pv q10 := by rw [ha105, put_ne _ _ _ _ (by decide)]; exact h92
    have h109 : a104.eval (.tmp 36) = .agg #[.bool false, sv none ([]) 0] := by rw [ha105, put_ne _ _ _ _ (by decide)]; exact h93
    have h110 : a104.eval (.tmp 3) = iv 2 := by rw [ha105]; exact put_same _ _ _ (by rw [hs90]; decide)
    show stepsTo _ _ _ _ _ (a86.put (some 3) (iv 2)) _
    rw [← ha105]
    clear ha105 hs90 hd91 h92 h93
    refine st_nil ?_
    clear h109
    refine hK85 _ _ ?_
    clear hK85 K85
    refine wp_ret (ret_k hd107 (v := .tuple #[.agg #[.bool false, sv none ([]) 0], iv 2]) (res_ct rfl h108 h110 (l_two Try.isAgg24 Try.sizeOf24 hb98)) ?_)
    have hs2 : (iv 2 : Value) = iv (parseZ s.data.toList).2 := by rw [pz_bad hR (.inl (digB_empty ht72))]
    have hz1 : (decide ((parseZ s.data.toList).1 < 0)) = false := by rw [pz_bad hR (.inl (digB_empty ht72))]; rfl
    have hz2 : canon ((parseZ s.data.toList).1).natAbs = [] := by rw [pz_bad hR (.inl (digB_empty ht72))]; exact canon_zero
    exact ⟨none, 0, by rw [hz1, hz2, hs2], by rw [hz2]; exact (SRow.nil _ _), hN103⟩
  rcases Bool.eq_false_or_eq_true (decide (((bAt (s.extract 1 s.size) 0 : Nat) : Int) = 48)) with ht111 | ht111
  · skip
    have ht111d := of_decide_eq_true ht111
    rcases Bool.eq_false_or_eq_true (decide (((s.extract 1 s.size).size : Int) ≤ 1)) with ht112 | ht112
    · skip
      have ht112d := of_decide_eq_true ht112
      have hsp := size_pos ht72
      refine wp_g0 [true, true, true, true, true, true, true, true, true, true, true, true, true, true, true] [] 78
        [ve (.string (s.extract 1 s.size)),
         ve (.bool false),
         ve (.bool false),
         ve (.string (s.extract 1 s.size)),
         ve (.int .u8 ((bAt (s.extract 1 s.size) 0 : Nat) : Int)),
         ve (.bool true),
         ve (.bool true),
         ve (.string (s.extract 1 s.size)),
         ve (iv ((s.extract 1 s.size).size : Int)),
         ve (.bool false),
         ve (.bool false),
         ve (.bool true),
         ve (.bool true),
         ve (.bool true),
         ve (.bool true)] hs63 (.eq (.eq (.eq (.eq (.eq (.eq (.eq (.eq (.eq (.eq (.eq (.eq (.eq (.eq (.eq (.nil)))))))))))))))) ?_ ?_
      · skip
        refine .o1 (tk rfl rfl fun _ w hn k => ⟨_, v_move rfl (k.fx 5 h67), rfl⟩) ?_
        refine .o1 (tk rfl rfl fun _ w hn k => ⟨_, v_bin rfl (k.eq1 0 21 rfl) rfl (fun _ => rfl) (r_eqlS ht72), rfl⟩) ?_
        refine .o1 (tk rfl rfl fun _ w hn k => ⟨_, v_move rfl (k.eq1 1 22 rfl), rfl⟩) ?_
        refine .o1 (tg rfl rfl rfl (fun _ _ k => k.eq1 2 23 rfl) fun _ w hn k => ⟨_, v_move rfl (k.fx 5 h67), rfl⟩) ?_
        refine .o1 (tg rfl rfl rfl (fun _ _ k => k.eq1 2 23 rfl) fun _ w hn k => ⟨_, v_idxN rfl (k.eq1 3 24 rfl) rfl (by kernel_rfl) (by omega), rfl⟩) ?_
        refine .o1 (tg rfl rfl rfl (fun _ _ k => k.eq1 2 23 rfl) fun _ w hn k => ⟨_, v_bin rfl (k.eq1 4 25 rfl) rfl (fun _ => rfl) (r_eql ht111), rfl⟩) ?_
        refine .o1 (tg rfl rfl rfl (fun _ _ k => k.eq1 2 23 rfl) fun _ w hn k => ⟨_, v_move rfl (k.eq1 5 26 rfl), rfl⟩) ?_
        refine .o1 (tg rfl rfl rfl (fun _ _ k => k.eq1 6 27 rfl) fun _ w hn k => ⟨_, v_move rfl (k.fx 5 h67), rfl⟩) ?_
        refine .o1 (tg rfl rfl rfl (fun _ _ k => k.eq1 6 27 rfl) fun _ w hn k => ⟨_, v_lenS rfl (k.eq1 7 28 rfl) (by kernel_rfl), rfl⟩) ?_
        refine .o1 (tg rfl rfl rfl (fun _ _ k => k.eq1 6 27 rfl) fun _ w hn k => ⟨_, v_bin rfl (k.eq1 8 29 rfl) rfl (fun _ => rfl) (r_gtrK ht112), rfl⟩) ?_
        refine .o1 (tg rfl rfl rfl (fun _ _ k => k.eq1 6 27 rfl) fun _ w hn k => ⟨_, v_move rfl (k.eq1 9 30 rfl), rfl⟩) ?_
        refine .o1 (tg rfl rfl rfl (fun _ _ k => k.eq1 10 31 rfl) fun _ w hn k => ⟨_, v_move rfl (k.fx 4 h66), rfl⟩) ?_
        refine .o1 (tg rfl rfl rfl (fun _ _ k => k.eq1 6 27 rfl) fun _ w hn k => ⟨_, v_pickF rfl (k.eq1 10 31 rfl) (k.eq1 11 32 rfl), rfl⟩) ?_
        refine .o1 (tg rfl rfl rfl (fun _ _ k => k.eq1 2 23 rfl) fun _ w hn k => ⟨_, v_pickT rfl (k.eq1 6 27 rfl) (k.eq1 12 33 rfl), rfl⟩) ?_
        refine .o1 (tk rfl rfl fun _ w hn k => ⟨_, v_pickF rfl (k.eq1 2 23 rfl) (k.eq1 13 34 rfl), rfl⟩) ?_
        exact .nil
      intro a113 w114 hn115 ha116
      have hs117 := ha116.size.trans hs63
      have hd118 := ha116.defers.trans hd64
      have h119 := ha116.fx 2 h65
      have h120 := ha116.fx 4 h66
      have h121 := ha116.fx 5 h67
      have h122 := ha116.ge 14 35 rfl
      have hb123 := hb68.new_ hn115
      have hN124 := hN69.transNew hn115
      clear hs63 hd64 h65 h66 h67 hb68 hN69 ha116 hn115
      refine st_nil ?_
      refine hK71 _ _ ?_
      clear hK71 K71
      refine wp_cond_true h122 ?_
      refine wp_seq_k fun K125 hK125 => ?_
      refine wp_g0 [true, false, false] [(1, false), (2, true)] 78
        [ve (.agg #[.bool false, sv none ([]) 0]),
         vt,
         vt] hs117 (.eq (.tt (.tt (.nil)))) ?_ ?_
      · skip
        refine .o1 (tk rfl rfl fun _ w hn k => ⟨_, v_build (ps := []) rfl parts0 (by kernel_rfl), rfl⟩) ?_
        refine .off ?_
        refine .off ?_
        exact .nil
      intro a126 w127 hn128 ha129
      have hs130 := ha129.size.trans hs117
      have hd131 := ha129.defers.trans hd118
      have h132 := ha129.fx 2 h119
      have h133 := ha129.ge 0 36 rfl
      have hb134 := hb123.new_ hn128
      have hN135 := hN124.transNew hn128
      clear hs117 hd118 h119 h120 h121 h122 hb123 hN124 ha129 hn128
      obtain ⟨w136, -, hst137, hb138, hu139, hf140⟩ := s_two (v0 := .bool false) (v1 := sv none ([]) 0) Try.sizeOf24 rfl rfl rfl hb134
      refine st_act rfl rfl fun K141 hL142 => a_store' rfl h132 h133 hst137 (hL142 _ _ trivial ?_)
      have hN143 := hN135.trans hu139 (fun k hk hkb => by subst hkb; omega)
      clear hb134 hst137 K141 hL142 hN135 hu139 hf140
      refine st_take rfl rfl (y_assign (v := iv 2) rfl rfl) rfl ?_
      obtain ⟨a144, ha145⟩ : ∃ a', a' = a126.put (some 3) (iv 2) := ⟨_, rfl⟩
      have hs146 : a144.tmps.size = 78 := by rw [ha145, put_size]; exact hs130
      have hd147 : a144.defers = [] := by rw [ha145, put_defers]; exact hd131
      have h148 : a144.eval (.tmp 2) = pv q10 := by rw [ha145, put_ne _ _ _ _ (by decide)]; exact h132
      have h149 : a144.eval (.tmp 36) = .agg #[.bool false, sv none ([]) 0] := by rw [ha145, put_ne _ _ _ _ (by decide)]; exact h133
      have h150 : a144.eval (.tmp 3) = iv 2 := by rw [ha145]; exact put_same _ _ _ (by rw [hs130]; decide)
      show stepsTo _ _ _ _ _ (a126.put (some 3) (iv 2)) _
      rw [← ha145]
      clear ha145 hs130 hd131 h132 h133
      refine st_nil ?_
      clear h149
      refine hK125 _ _ ?_
      clear hK125 K125
      refine wp_ret (ret_k hd147 (v := .tuple #[.agg #[.bool false, sv none ([]) 0], iv 2]) (res_ct rfl h148 h150 (l_two Try.isAgg24 Try.sizeOf24 hb138)) ?_)
      have hs2 : (iv 2 : Value) = iv (parseZ s.data.toList).2 := by rw [pz_bad hR (.inr (one_zero (size_pos ht72) ht111 ht112))]
      have hz1 : (decide ((parseZ s.data.toList).1 < 0)) = false := by rw [pz_bad hR (.inr (one_zero (size_pos ht72) ht111 ht112))]; rfl
      have hz2 : canon ((parseZ s.data.toList).1).natAbs = [] := by rw [pz_bad hR (.inr (one_zero (size_pos ht72) ht111 ht112))]; exact canon_zero
      exact ⟨none, 0, by rw [hz1, hz2, hs2], by rw [hz2]; exact (SRow.nil _ _), hN143⟩
    have ht112d := of_decide_eq_false ht112
    have hsp := size_pos ht72
    refine wp_g0 [true, true, true, true, true, true, true, true, true, true, true, true, true, true, true] [] 78
      [ve (.string (s.extract 1 s.size)),
       ve (.bool false),
       ve (.bool false),
       ve (.string (s.extract 1 s.size)),
       ve (.int .u8 ((bAt (s.extract 1 s.size) 0 : Nat) : Int)),
       ve (.bool true),
       ve (.bool true),
       ve (.string (s.extract 1 s.size)),
       ve (iv ((s.extract 1 s.size).size : Int)),
       ve (.bool true),
       ve (.bool true),
       ve undef,
       ve (.bool true),
       ve (.bool true),
       ve (.bool true)] hs63 (.eq (.eq (.eq (.eq (.eq (.eq (.eq (.eq (.eq (.eq (.eq (.eq (.eq (.eq (.eq (.nil)))))))))))))))) ?_ ?_
    · skip
      refine .o1 (tk rfl rfl fun _ w hn k => ⟨_, v_move rfl (k.fx 5 h67), rfl⟩) ?_
      refine .o1 (tk rfl rfl fun _ w hn k => ⟨_, v_bin rfl (k.eq1 0 21 rfl) rfl (fun _ => rfl) (r_eqlS ht72), rfl⟩) ?_
      refine .o1 (tk rfl rfl fun _ w hn k => ⟨_, v_move rfl (k.eq1 1 22 rfl), rfl⟩) ?_
      refine .o1 (tg rfl rfl rfl (fun _ _ k => k.eq1 2 23 rfl) fun _ w hn k => ⟨_, v_move rfl (k.fx 5 h67), rfl⟩) ?_
      refine .o1 (tg rfl rfl rfl (fun _ _ k => k.eq1 2 23 rfl) fun _ w hn k => ⟨_, v_idxN rfl (k.eq1 3 24 rfl) rfl (by kernel_rfl) (by omega), rfl⟩) ?_
      refine .o1 (tg rfl rfl rfl (fun _ _ k => k.eq1 2 23 rfl) fun _ w hn k => ⟨_, v_bin rfl (k.eq1 4 25 rfl) rfl (fun _ => rfl) (r_eql ht111), rfl⟩) ?_
      refine .o1 (tg rfl rfl rfl (fun _ _ k => k.eq1 2 23 rfl) fun _ w hn k => ⟨_, v_move rfl (k.eq1 5 26 rfl), rfl⟩) ?_
      refine .o1 (tg rfl rfl rfl (fun _ _ k => k.eq1 6 27 rfl) fun _ w hn k => ⟨_, v_move rfl (k.fx 5 h67), rfl⟩) ?_
      refine .o1 (tg rfl rfl rfl (fun _ _ k => k.eq1 6 27 rfl) fun _ w hn k => ⟨_, v_lenS rfl (k.eq1 7 28 rfl) (by kernel_rfl), rfl⟩) ?_
      refine .o1 (tg rfl rfl rfl (fun _ _ k => k.eq1 6 27 rfl) fun _ w hn k => ⟨_, v_bin rfl (k.eq1 8 29 rfl) rfl (fun _ => rfl) (r_gtrK ht112), rfl⟩) ?_
      refine .o1 (tg rfl rfl rfl (fun _ _ k => k.eq1 6 27 rfl) fun _ w hn k => ⟨_, v_move rfl (k.eq1 9 30 rfl), rfl⟩) ?_
      refine .o1 (sk rfl rfl rfl (fun _ _ _ k => k.eq1 10 31 rfl) (fun _ => rfl)) ?_
      refine .o1 (tg rfl rfl rfl (fun _ _ k => k.eq1 6 27 rfl) fun _ w hn k => ⟨_, v_pickT rfl (k.eq1 10 31 rfl) rfl, rfl⟩) ?_
      refine .o1 (tg rfl rfl rfl (fun _ _ k => k.eq1 2 23 rfl) fun _ w hn k => ⟨_, v_pickT rfl (k.eq1 6 27 rfl) (k.eq1 12 33 rfl), rfl⟩) ?_
      refine .o1 (tk rfl rfl fun _ w hn k => ⟨_, v_pickF rfl (k.eq1 2 23 rfl) (k.eq1 13 34 rfl), rfl⟩) ?_
      exact .nil
    intro a151 w152 hn153 ha154
    have hs155 := ha154.size.trans hs63
    have hd156 := ha154.defers.trans hd64
    have h157 := ha154.fx 2 h65
    have h158 := ha154.fx 4 h66
    have h159 := ha154.fx 5 h67
    have h160 := ha154.ge 14 35 rfl
    have hb161 := hb68.new_ hn153
    have hN162 := hN69.transNew hn153
    clear hs63 hd64 h65 h66 h67 hb68 hN69 ha154 hn153
    refine st_nil ?_
    refine hK71 _ _ ?_
    clear hK71 K71
    refine wp_cond_true h160 ?_
    refine wp_seq_k fun K163 hK163 => ?_
    refine wp_g0 [true, false, false] [(1, false), (2, true)] 78
      [ve (.agg #[.bool false, sv none ([]) 0]),
       vt,
       vt] hs155 (.eq (.tt (.tt (.nil)))) ?_ ?_
    · skip
      refine .o1 (tk rfl rfl fun _ w hn k => ⟨_, v_build (ps := []) rfl parts0 (by kernel_rfl), rfl⟩) ?_
      refine .off ?_
      refine .off ?_
      exact .nil
    intro a164 w165 hn166 ha167
    have hs168 := ha167.size.trans hs155
    have hd169 := ha167.defers.trans hd156
    have h170 := ha167.fx 2 h157
    have h171 := ha167.ge 0 36 rfl
    have hb172 := hb161.new_ hn166
    have hN173 := hN162.transNew hn166
    clear hs155 hd156 h157 h158 h159 h160 hb161 hN162 ha167 hn166
    obtain ⟨w174, -, hst175, hb176, hu177, hf178⟩ := s_two (v0 := .bool false) (v1 := sv none ([]) 0) Try.sizeOf24 rfl rfl rfl hb172
    refine st_act rfl rfl fun K179 hL180 => a_store' rfl h170 h171 hst175 (hL180 _ _ trivial ?_)
    have hN181 := hN173.trans hu177 (fun k hk hkb => by subst hkb; omega)
    clear hb172 hst175 K179 hL180 hN173 hu177 hf178
    refine st_take rfl rfl (y_assign (v := iv 2) rfl rfl) rfl ?_
    obtain ⟨a182, ha183⟩ : ∃ a', a' = a164.put (some 3) (iv 2) := ⟨_, rfl⟩
    have hs184 : a182.tmps.size = 78 := by rw [ha183, put_size]; exact hs168
    have hd185 : a182.defers = [] := by rw [ha183, put_defers]; exact hd169
    have h186 : a182.eval (.tmp 2) = pv q10 := by rw [ha183, put_ne _ _ _ _ (by decide)]; exact h170
    have h187 : a182.eval (.tmp 36) = .agg #[.bool false, sv none ([]) 0] := by rw [ha183, put_ne _ _ _ _ (by decide)]; exact h171
    have h188 : a182.eval (.tmp 3) = iv 2 := by rw [ha183]; exact put_same _ _ _ (by rw [hs168]; decide)
    show stepsTo _ _ _ _ _ (a164.put (some 3) (iv 2)) _
    rw [← ha183]
    clear ha183 hs168 hd169 h170 h171
    refine st_nil ?_
    clear h187
    refine hK163 _ _ ?_
    clear hK163 K163
    refine wp_ret (ret_k hd185 (v := .tuple #[.agg #[.bool false, sv none ([]) 0], iv 2]) (res_ct rfl h186 h188 (l_two Try.isAgg24 Try.sizeOf24 hb176)) ?_)
    have hs2 : (iv 2 : Value) = iv (parseZ s.data.toList).2 := by rw [pz_bad hR (.inl (digB_lead ht111 ht112))]
    have hz1 : (decide ((parseZ s.data.toList).1 < 0)) = false := by rw [pz_bad hR (.inl (digB_lead ht111 ht112))]; rfl
    have hz2 : canon ((parseZ s.data.toList).1).natAbs = [] := by rw [pz_bad hR (.inl (digB_lead ht111 ht112))]; exact canon_zero
    exact ⟨none, 0, by rw [hz1, hz2, hs2], by rw [hz2]; exact (SRow.nil _ _), hN181⟩
  have ht111d := of_decide_eq_false ht111
  have hsp := size_pos ht72
  refine wp_g0 [true, true, true, true, true, true, true, true, true, true, true, true, true, true, true] [] 78
    [ve (.string (s.extract 1 s.size)),
     ve (.bool false),
     ve (.bool false),
     ve (.string (s.extract 1 s.size)),
     ve (.int .u8 ((bAt (s.extract 1 s.size) 0 : Nat) : Int)),
     ve (.bool false),
     ve (.bool false),
     ve undef,
     ve undef,
     ve undef,
     ve undef,
     ve undef,
     ve undef,
     ve (.bool false),
     ve (.bool false)] hs63 (.eq (.eq (.eq (.eq (.eq (.eq (.eq (.eq (.eq (.eq (.eq (.eq (.eq (.eq (.eq (.nil)))))))))))))))) ?_ ?_
  · skip
    refine .o1 (tk rfl rfl fun _ w hn k => ⟨_, v_move rfl (k.fx 5 h67), rfl⟩) ?_
    refine .o1 (tk rfl rfl fun _ w hn k => ⟨_, v_bin rfl (k.eq1 0 21 rfl) rfl (fun _ => rfl) (r_eqlS ht72), rfl⟩) ?_
    refine .o1 (tk rfl rfl fun _ w hn k => ⟨_, v_move rfl (k.eq1 1 22 rfl), rfl⟩) ?_
    refine .o1 (tg rfl rfl rfl (fun _ _ k => k.eq1 2 23 rfl) fun _ w hn k => ⟨_, v_move rfl (k.fx 5 h67), rfl⟩) ?_
    refine .o1 (tg rfl rfl rfl (fun _ _ k => k.eq1 2 23 rfl) fun _ w hn k => ⟨_, v_idxN rfl (k.eq1 3 24 rfl) rfl (by kernel_rfl) (by omega), rfl⟩) ?_
    refine .o1 (tg rfl rfl rfl (fun _ _ k => k.eq1 2 23 rfl) fun _ w hn k => ⟨_, v_bin rfl (k.eq1 4 25 rfl) rfl (fun _ => rfl) (r_eql ht111), rfl⟩) ?_
    refine .o1 (tg rfl rfl rfl (fun _ _ k => k.eq1 2 23 rfl) fun _ w hn k => ⟨_, v_move rfl (k.eq1 5 26 rfl), rfl⟩) ?_
    refine .o1 (sk rfl rfl rfl (fun _ _ _ k => k.eq1 6 27 rfl) (fun _ => rfl)) ?_
    refine .o1 (sk rfl rfl rfl (fun _ _ _ k => k.eq1 6 27 rfl) (fun _ => rfl)) ?_
    refine .o1 (sk rfl rfl rfl (fun _ _ _ k => k.eq1 6 27 rfl) (fun _ => rfl)) ?_
    refine .o1 (sk rfl rfl rfl (fun _ _ _ k => k.eq1 6 27 rfl) (fun _ => rfl)) ?_
    refine .o1 (su rfl rfl rfl (fun _ _ _ k => k.eq1 10 31 rfl) (fun _ => rfl)) ?_
    refine .o1 (sk rfl rfl rfl (fun _ _ _ k => k.eq1 6 27 rfl) (fun _ => rfl)) ?_
    refine .o1 (tg rfl rfl rfl (fun _ _ k => k.eq1 2 23 rfl) fun _ w hn k => ⟨_, v_pickF rfl (k.eq1 6 27 rfl) rfl, rfl⟩) ?_
    refine .o1 (tk rfl rfl fun _ w hn k => ⟨_, v_pickF rfl (k.eq1 2 23 rfl) (k.eq1 13 34 rfl), rfl⟩) ?_
    exact .nil
  intro a189 w190 hn191 ha192
  have hs193 := ha192.size.trans hs63
  have hd194 := ha192.defers.trans hd64
  have h195 := ha192.fx 2 h65
  have h196 := ha192.fx 4 h66
  have h197 := ha192.fx 5 h67
  have h198 := ha192.ge 14 35 rfl
  have hb199 := hb68.new_ hn191
  have hN200 := hN69.transNew hn191
  clear hs63 hd64 h65 h66 h67 hb68 hN69 ha192 hn191
  refine st_nil ?_
  refine hK71 _ _ ?_
  clear hK71 K71
  refine wp_cond_false h198 ?_
  refine wp_skip ?_
  refine hK70 _ _ ?_
  clear hK70 K70
  refine wp_seq_k fun K201 hK201 => ?_
  refine wp_seq_k fun K202 hK202 => ?_
  have hne : 0 < (s.extract 1 s.size).size := size_pos ht72
  have hlead : bAt (s.extract 1 s.size) 0 ≠ 48 ∨ (s.extract 1 s.size).size = 1 := .inl (by have := of_decide_eq_false ht111; omega)
  have hnz : bAt (s.extract 1 s.size) 0 ≠ 48 := by have := of_decide_eq_false ht111; omega
  refine wp_g0 [true] [] 78
    [ve (iv 0)] hs193 (.eq (.nil)) ?_ ?_
  · skip
    refine .o1 (tk rfl rfl fun _ w hn k => ⟨_, v_assign rfl rfl, rfl⟩) ?_
    exact .nil
  intro a203 w204 hn205 ha206
  have hs207 := ha206.size.trans hs193
  have hd208 := ha206.defers.trans hd194
  have h209 := ha206.fx 2 h195
  have h210 := ha206.fx 4 h196
  have h211 := ha206.fx 5 h197
  have h212 := ha206.ge 0 6 rfl
  have hb213 := hb199.new_ hn205
  have hN214 := hN200.transNew hn205
  clear hs193 hd194 h195 h196 h197 h198 hb199 hN200 ha206 hn205
  refine st_nil ?_
  refine hK202 _ _ ?_
  clear hK202 K202
  refine wp_block ?_
  refine wp_loopX (fun (mm : Nat) (aa : Act) (ww : World) => ∃ (i : Nat), mm = (s.extract 1 s.size).size - i ∧ aa.tmps.size = 78 ∧ aa.defers = [] ∧ New w ww ∧ aa.eval (.tmp 6) = iv (i : Int) ∧ aa.eval (.tmp 2) = pv q10 ∧ aa.eval (.tmp 4) = .bool true ∧ aa.eval (.tmp 5) = .string (s.extract 1 s.size) ∧ Blk ww q10 24 [.bool false, sv none ([]) 0] ∧ (i ≤ (s.extract 1 s.size).size) ∧ (∀ j, j < i → 48 ≤ bAt (s.extract 1 s.size) j ∧ bAt (s.extract 1 s.size) j ≤ 57)) (fun mm => mm) ⟨_, ⟨0, rfl, hs207, hd208, hN214, h212, h209, h210, h211, hb213, (Nat.zero_le _), (fun j h => absurd h (Nat.not_lt_zero _))⟩⟩ ?_
  clear hs207 hd208 hN214 h209 h210 h211 h212 hb213
  rintro mm a215 w216 ⟨i, hmm, hs217, hd218, hN219, h220, h221, h222, h223, hb224, hi, hdg⟩
  refine wp_seq_k fun K225 hK225 => ?_
  refine wp_seq_k fun K226 hK226 => ?_
  refine wp_g0 [true, true, true, true] [] 78
    [ve (iv (i : Int)),
     ve (.string (s.extract 1 s.size)),
     ve (iv ((s.extract 1 s.size).size : Int)),
     ve (.bool (decide ((i : Int) < ((s.extract 1 s.size).size : Int))))] hs217 (.eq (.eq (.eq (.eq (.nil))))) ?_ ?_
  · skip
    refine .o1 (tk rfl rfl fun _ w hn k => ⟨_, v_move rfl (k.fx 6 h220), rfl⟩) ?_
    refine .o1 (tk rfl rfl fun _ w hn k => ⟨_, v_move rfl (k.fx 5 h223), rfl⟩) ?_
    refine .o1 (tk rfl rfl fun _ w hn k => ⟨_, v_lenS rfl (k.eq1 1 38 rfl) (by kernel_rfl), rfl⟩) ?_
    refine .o1 (tk rfl rfl fun _ w hn k => ⟨_, v_bin rfl (k.eq1 0 37 rfl) (k.eq1 2 39 rfl) (fun _ => rfl) (r_lssK rfl), rfl⟩) ?_
    exact .nil
  intro a227 w228 hn229 ha230
  have hs231 := ha230.size.trans hs217
  have hd232 := ha230.defers.trans hd218
  have h233 := ha230.fx 6 h220
  have h234 := ha230.fx 2 h221
  have h235 := ha230.fx 4 h222
  have h236 := ha230.fx 5 h223
  have h237 := ha230.ge 3 40 rfl
  have hb238 := hb224.new_ hn229
  have hN239 := hN219.transNew hn229
  clear hs217 hd218 h220 h221 h222 h223 hb224 hN219 ha230 hn229
  refine st_nil ?_
  refine hK226 _ _ ?_
  clear hK226 K226
  rcases Bool.eq_false_or_eq_true (decide ((i : Int) < ((s.extract 1 s.size).size : Int))) with ht240 | ht240
  · skip
    have ht240d := of_decide_eq_true ht240
    have hv241 : a227.eval (.tmp 40) = .bool true := h237.trans (congrArg Value.bool ht240)
    clear h237
    refine wp_cond_true hv241 ?_
    refine wp_skip ?_
    refine hK225 _ _ ?_
    clear hK225 K225
    refine wp_seq_k fun K242 hK242 => ?_
    refine wp_block ?_
    refine wp_seq_k fun K243 hK243 => ?_
    rcases Bool.eq_false_or_eq_true (decide (((bAt (s.extract 1 s.size) i : Nat) : Int) < 48)) with ht244 | ht244
    · skip
      have ht244d := of_decide_eq_true ht244
      refine wp_g0 [true, true, true, true, true, true, true, true, true, true] [] 78
        [ve (.string (s.extract 1 s.size)),
         ve (iv (i : Int)),
         ve (.int .u8 ((bAt (s.extract 1 s.size) i : Nat) : Int)),
         ve (.bool true),
         ve (.bool true),
         ve undef,
         ve undef,
         ve undef,
         ve undef,
         ve (.bool true)] hs231 (.eq (.eq (.eq (.eq (.eq (.eq (.eq (.eq (.eq (.eq (.nil))))))))))) ?_ ?_
      · skip
        refine .o1 (tk rfl rfl fun _ w hn k => ⟨_, v_move rfl (k.fx 5 h236), rfl⟩) ?_
        refine .o1 (tk rfl rfl fun _ w hn k => ⟨_, v_move rfl (k.fx 6 h233), rfl⟩) ?_
        refine .o1 (tk rfl rfl fun _ w hn k => ⟨_, v_idxN rfl (k.eq1 0 43 rfl) (k.eq1 1 44 rfl) (by kernel_rfl) (by omega), rfl⟩) ?_
        refine .o1 (tk rfl rfl fun _ w hn k => ⟨_, v_bin rfl (k.eq1 2 45 rfl) rfl (fun _ => rfl) (r_lssK ht244), rfl⟩) ?_
        refine .o1 (tk rfl rfl fun _ w hn k => ⟨_, v_move rfl (k.eq1 3 46 rfl), rfl⟩) ?_
        refine .o1 (sk rfl rfl rfl (fun _ _ _ k => k.eq1 4 47 rfl) (fun _ => rfl)) ?_
        refine .o1 (sk rfl rfl rfl (fun _ _ _ k => k.eq1 4 47 rfl) (fun _ => rfl)) ?_
        refine .o1 (sk rfl rfl rfl (fun _ _ _ k => k.eq1 4 47 rfl) (fun _ => rfl)) ?_
        refine .o1 (sk rfl rfl rfl (fun _ _ _ k => k.eq1 4 47 rfl) (fun _ => rfl)) ?_
        refine .o1 (tk rfl rfl fun _ w hn k => ⟨_, v_pickT rfl (k.eq1 4 47 rfl) rfl, rfl⟩) ?_
        exact .nil
      intro a245 w246 hn247 ha248
      have hs249 := ha248.size.trans hs231
      have hd250 := ha248.defers.trans hd232
      have h251 := ha248.fx 6 h233
      have h252 := ha248.fx 2 h234
      have h253 := ha248.fx 4 h235
      have h254 := ha248.fx 5 h236
      have h255 := ha248.ge 9 52 rfl
      have hb256 := hb238.new_ hn247
      have hN257 := hN239.transNew hn247
      clear hs231 hd232 h233 h234 h235 h236 hv241 hb238 hN239 ha248 hn247
      refine st_nil ?_
      refine hK243 _ _ ?_
      clear hK243 K243
      refine wp_cond_true h255 ?_
      refine wp_seq_k fun K258 hK258 => ?_
      refine wp_g0 [true, false, false] [(1, false), (2, true)] 78
        [ve (.agg #[.bool false, sv none ([]) 0]),
         vt,
         vt] hs249 (.eq (.tt (.tt (.nil)))) ?_ ?_
      · skip
        refine .o1 (tk rfl rfl fun _ w hn k => ⟨_, v_build (ps := []) rfl parts0 (by kernel_rfl), rfl⟩) ?_
        refine .off ?_
        refine .off ?_
        exact .nil
      intro a259 w260 hn261 ha262
      have hs263 := ha262.size.trans hs249
      have hd264 := ha262.defers.trans hd250
      have h265 := ha262.fx 2 h252
      have h266 := ha262.ge 0 53 rfl
      have hb267 := hb256.new_ hn261
      have hN268 := hN257.transNew hn261
      clear hs249 hd250 h251 h252 h253 h254 h255 hb256 hN257 ha262 hn261
      obtain ⟨w269, -, hst270, hb271, hu272, hf273⟩ := s_two (v0 := .bool false) (v1 := sv none ([]) 0) Try.sizeOf24 rfl rfl rfl hb267
      refine st_act rfl rfl fun K274 hL275 => a_store' rfl h265 h266 hst270 (hL275 _ _ trivial ?_)
      have hN276 := hN268.trans hu272 (fun k hk hkb => by subst hkb; omega)
      clear hb267 hst270 K274 hL275 hN268 hu272 hf273
      refine st_take rfl rfl (y_assign (v := iv 2) rfl rfl) rfl ?_
      obtain ⟨a277, ha278⟩ : ∃ a', a' = a259.put (some 3) (iv 2) := ⟨_, rfl⟩
      have hs279 : a277.tmps.size = 78 := by rw [ha278, put_size]; exact hs263
      have hd280 : a277.defers = [] := by rw [ha278, put_defers]; exact hd264
      have h281 : a277.eval (.tmp 2) = pv q10 := by rw [ha278, put_ne _ _ _ _ (by decide)]; exact h265
      have h282 : a277.eval (.tmp 53) = .agg #[.bool false, sv none ([]) 0] := by rw [ha278, put_ne _ _ _ _ (by decide)]; exact h266
      have h283 : a277.eval (.tmp 3) = iv 2 := by rw [ha278]; exact put_same _ _ _ (by rw [hs263]; decide)
      show stepsTo _ _ _ _ _ (a259.put (some 3) (iv 2)) _
      rw [← ha278]
      clear ha278 hs263 hd264 h265 h266
      refine st_nil ?_
      clear h282
      refine hK258 _ _ ?_
      clear hK258 K258
      refine wp_ret (ret_k hd280 (v := .tuple #[.agg #[.bool false, sv none ([]) 0], iv 2]) (res_ct rfl h281 h283 (l_two Try.isAgg24 Try.sizeOf24 hb271)) ?_)
      have hs2 : (iv 2 : Value) = iv (parseZ s.data.toList).2 := by rw [pz_bad hR (.inl (digB_bad (i := i) (by omega) (.inl ht244)))]
      have hz1 : (decide ((parseZ s.data.toList).1 < 0)) = false := by rw [pz_bad hR (.inl (digB_bad (i := i) (by omega) (.inl ht244)))]; rfl
      have hz2 : canon ((parseZ s.data.toList).1).natAbs = [] := by rw [pz_bad hR (.inl (digB_bad (i := i) (by omega) (.inl ht244)))]; exact canon_zero
      exact ⟨none, 0, by rw [hz1, hz2, hs2], by rw [hz2]; exact (SRow.nil _ _), hN276⟩
    have ht244d := of_decide_eq_false ht244
    rcases Bool.eq_false_or_eq_true (decide (((bAt (s.extract 1 s.size) i : Nat) : Int) ≤ 57)) with ht284 | ht284
    · skip
      have ht284d := of_decide_eq_true ht284
      refine wp_g0 [true, true, true, true, true, true, true, true, true, true] [] 78
        [ve (.string (s.extract 1 s.size)),
         ve (iv (i : Int)),
         ve (.int .u8 ((bAt (s.extract 1 s.size) i : Nat) : Int)),
         ve (.bool false),
         ve (.bool false),
         ve (.string (s.extract 1 s.size)),
         ve (iv (i : Int)),
         ve (.int .u8 ((bAt (s.extract 1 s.size) i : Nat) : Int)),
         ve (.bool false),
         ve (.bool false)] hs231 (.eq (.eq (.eq (.eq (.eq (.eq (.eq (.eq (.eq (.eq (.nil))))))))))) ?_ ?_
      · skip
        refine .o1 (tk rfl rfl fun _ w hn k => ⟨_, v_move rfl (k.fx 5 h236), rfl⟩) ?_
        refine .o1 (tk rfl rfl fun _ w hn k => ⟨_, v_move rfl (k.fx 6 h233), rfl⟩) ?_
        refine .o1 (tk rfl rfl fun _ w hn k => ⟨_, v_idxN rfl (k.eq1 0 43 rfl) (k.eq1 1 44 rfl) (by kernel_rfl) (by omega), rfl⟩) ?_
        refine .o1 (tk rfl rfl fun _ w hn k => ⟨_, v_bin rfl (k.eq1 2 45 rfl) rfl (fun _ => rfl) (r_lssK ht244), rfl⟩) ?_
        refine .o1 (tk rfl rfl fun _ w hn k => ⟨_, v_move rfl (k.eq1 3 46 rfl), rfl⟩) ?_
        refine .o1 (tg rfl rfl rfl (fun _ _ k => k.eq1 4 47 rfl) fun _ w hn k => ⟨_, v_move rfl (k.fx 5 h236), rfl⟩) ?_
        refine .o1 (tg rfl rfl rfl (fun _ _ k => k.eq1 4 47 rfl) fun _ w hn k => ⟨_, v_move rfl (k.fx 6 h233), rfl⟩) ?_
        refine .o1 (tg rfl rfl rfl (fun _ _ k => k.eq1 4 47 rfl) fun _ w hn k => ⟨_, v_idxN rfl (k.eq1 5 48 rfl) (k.eq1 6 49 rfl) (by kernel_rfl) (by omega), rfl⟩) ?_
        refine .o1 (tg rfl rfl rfl (fun _ _ k => k.eq1 4 47 rfl) fun _ w hn k => ⟨_, v_bin rfl (k.eq1 7 50 rfl) rfl (fun _ => rfl) (r_gtrK ht284), rfl⟩) ?_
        refine .o1 (tk rfl rfl fun _ w hn k => ⟨_, v_pickF rfl (k.eq1 4 47 rfl) (k.eq1 8 51 rfl), rfl⟩) ?_
        exact .nil
      intro a285 w286 hn287 ha288
      have hs289 := ha288.size.trans hs231
      have hd290 := ha288.defers.trans hd232
      have h291 := ha288.fx 6 h233
      have h292 := ha288.fx 2 h234
      have h293 := ha288.fx 4 h235
      have h294 := ha288.fx 5 h236
      have h295 := ha288.ge 9 52 rfl
      have hb296 := hb238.new_ hn287
      have hN297 := hN239.transNew hn287
      clear hs231 hd232 h233 h234 h235 h236 hv241 hb238 hN239 ha288 hn287
      refine st_nil ?_
      refine hK243 _ _ ?_
      clear hK243 K243
      refine wp_cond_false h295 ?_
      refine wp_skip ?_
      refine hK242 _ _ ?_
      clear hK242 K242
      refine wp_g0 [true, true, false] [(2, true)] 78
        [ve (iv (i : Int)),
         ve (iv ((i + 1 : Nat) : Int)),
         vt] hs289 (.eq (.eq (.tt (.nil)))) ?_ ?_
      · skip
        refine .o1 (tk rfl rfl fun _ w hn k => ⟨_, v_move rfl (k.fx 6 h291), rfl⟩) ?_
        refine .o1 (tk rfl rfl fun _ w hn k => ⟨_, v_bin rfl (k.eq1 0 41 rfl) rfl (fun _ => rfl) (n_add (by omega) (IntWalk.i64_in _ (by omega))), rfl⟩) ?_
        refine .off ?_
        exact .nil
      intro a298 w299 hn300 ha301
      have hs302 := ha301.size.trans hs289
      have hd303 := ha301.defers.trans hd290
      have h304 := ha301.fx 6 h291
      have h305 := ha301.fx 2 h292
      have h306 := ha301.fx 4 h293
      have h307 := ha301.fx 5 h294
      have h308 := ha301.ge 1 42 rfl
      have hb309 := hb296.new_ hn300
      have hN310 := hN297.transNew hn300
      clear hs289 hd290 h291 h292 h293 h294 h295 hb296 hN297 ha301 hn300
      refine st_take rfl rfl (y_assign (v := iv ((i + 1 : Nat) : Int)) rfl h308) rfl ?_
      obtain ⟨a311, ha312⟩ : ∃ a', a' = a298.put (some 6) (iv ((i + 1 : Nat) : Int)) := ⟨_, rfl⟩
      have hs313 : a311.tmps.size = 78 := by rw [ha312, put_size]; exact hs302
      have hd314 : a311.defers = [] := by rw [ha312, put_defers]; exact hd303
      have h315 : a311.eval (.tmp 2) = pv q10 := by rw [ha312, put_ne _ _ _ _ (by decide)]; exact h305
      have h316 : a311.eval (.tmp 4) = .bool true := by rw [ha312, put_ne _ _ _ _ (by decide)]; exact h306
      have h317 : a311.eval (.tmp 5) = .string (s.extract 1 s.size) := by rw [ha312, put_ne _ _ _ _ (by decide)]; exact h307
      have h318 : a311.eval (.tmp 42) = iv ((i + 1 : Nat) : Int) := by rw [ha312, put_ne _ _ _ _ (by decide)]; exact h308
      have h319 : a311.eval (.tmp 6) = iv ((i + 1 : Nat) : Int) := by rw [ha312]; exact put_same _ _ _ (by rw [hs302]; decide)
      show stepsTo _ _ _ _ _ (a298.put (some 6) (iv ((i + 1 : Nat) : Int))) _
      rw [← ha312]
      clear ha312 hs302 hd303 h304 h305 h306 h307 h308
      refine st_nil ?_
      clear h318
      refine then_n ?_
      exact ⟨_, ⟨i + 1, rfl, hs313, hd314, hN310, (h319.trans (congrArg (Value.int .i64) (by omega))), h315, h316, h317, hb309, (by omega), (dig_up hdg ht244 ht284)⟩, (by omega)⟩
    have ht284d := of_decide_eq_false ht284
    refine wp_g0 [true, true, true, true, true, true, true, true, true, true] [] 78
      [ve (.string (s.extract 1 s.size)),
       ve (iv (i : Int)),
       ve (.int .u8 ((bAt (s.extract 1 s.size) i : Nat) : Int)),
       ve (.bool false),
       ve (.bool false),
       ve (.string (s.extract 1 s.size)),
       ve (iv (i : Int)),
       ve (.int .u8 ((bAt (s.extract 1 s.size) i : Nat) : Int)),
       ve (.bool true),
       ve (.bool true)] hs231 (.eq (.eq (.eq (.eq (.eq (.eq (.eq (.eq (.eq (.eq (.nil))))))))))) ?_ ?_
    · skip
      refine .o1 (tk rfl rfl fun _ w hn k => ⟨_, v_move rfl (k.fx 5 h236), rfl⟩) ?_
      refine .o1 (tk rfl rfl fun _ w hn k => ⟨_, v_move rfl (k.fx 6 h233), rfl⟩) ?_
      refine .o1 (tk rfl rfl fun _ w hn k => ⟨_, v_idxN rfl (k.eq1 0 43 rfl) (k.eq1 1 44 rfl) (by kernel_rfl) (by omega), rfl⟩) ?_
      refine .o1 (tk rfl rfl fun _ w hn k => ⟨_, v_bin rfl (k.eq1 2 45 rfl) rfl (fun _ => rfl) (r_lssK ht244), rfl⟩) ?_
      refine .o1 (tk rfl rfl fun _ w hn k => ⟨_, v_move rfl (k.eq1 3 46 rfl), rfl⟩) ?_
      refine .o1 (tg rfl rfl rfl (fun _ _ k => k.eq1 4 47 rfl) fun _ w hn k => ⟨_, v_move rfl (k.fx 5 h236), rfl⟩) ?_
      refine .o1 (tg rfl rfl rfl (fun _ _ k => k.eq1 4 47 rfl) fun _ w hn k => ⟨_, v_move rfl (k.fx 6 h233), rfl⟩) ?_
      refine .o1 (tg rfl rfl rfl (fun _ _ k => k.eq1 4 47 rfl) fun _ w hn k => ⟨_, v_idxN rfl (k.eq1 5 48 rfl) (k.eq1 6 49 rfl) (by kernel_rfl) (by omega), rfl⟩) ?_
      refine .o1 (tg rfl rfl rfl (fun _ _ k => k.eq1 4 47 rfl) fun _ w hn k => ⟨_, v_bin rfl (k.eq1 7 50 rfl) rfl (fun _ => rfl) (r_gtrK ht284), rfl⟩) ?_
      refine .o1 (tk rfl rfl fun _ w hn k => ⟨_, v_pickF rfl (k.eq1 4 47 rfl) (k.eq1 8 51 rfl), rfl⟩) ?_
      exact .nil
    intro a320 w321 hn322 ha323
    have hs324 := ha323.size.trans hs231
    have hd325 := ha323.defers.trans hd232
    have h326 := ha323.fx 6 h233
    have h327 := ha323.fx 2 h234
    have h328 := ha323.fx 4 h235
    have h329 := ha323.fx 5 h236
    have h330 := ha323.ge 9 52 rfl
    have hb331 := hb238.new_ hn322
    have hN332 := hN239.transNew hn322
    clear hs231 hd232 h233 h234 h235 h236 hv241 hb238 hN239 ha323 hn322
    refine st_nil ?_
    refine hK243 _ _ ?_
    clear hK243 K243
    refine wp_cond_true h330 ?_
    refine wp_seq_k fun K333 hK333 => ?_
    refine wp_g0 [true, false, false] [(1, false), (2, true)] 78
      [ve (.agg #[.bool false, sv none ([]) 0]),
       vt,
       vt] hs324 (.eq (.tt (.tt (.nil)))) ?_ ?_
    · skip
      refine .o1 (tk rfl rfl fun _ w hn k => ⟨_, v_build (ps := []) rfl parts0 (by kernel_rfl), rfl⟩) ?_
      refine .off ?_
      refine .off ?_
      exact .nil
    intro a334 w335 hn336 ha337
    have hs338 := ha337.size.trans hs324
    have hd339 := ha337.defers.trans hd325
    have h340 := ha337.fx 2 h327
    have h341 := ha337.ge 0 53 rfl
    have hb342 := hb331.new_ hn336
    have hN343 := hN332.transNew hn336
    clear hs324 hd325 h326 h327 h328 h329 h330 hb331 hN332 ha337 hn336
    obtain ⟨w344, -, hst345, hb346, hu347, hf348⟩ := s_two (v0 := .bool false) (v1 := sv none ([]) 0) Try.sizeOf24 rfl rfl rfl hb342
    refine st_act rfl rfl fun K349 hL350 => a_store' rfl h340 h341 hst345 (hL350 _ _ trivial ?_)
    have hN351 := hN343.trans hu347 (fun k hk hkb => by subst hkb; omega)
    clear hb342 hst345 K349 hL350 hN343 hu347 hf348
    refine st_take rfl rfl (y_assign (v := iv 2) rfl rfl) rfl ?_
    obtain ⟨a352, ha353⟩ : ∃ a', a' = a334.put (some 3) (iv 2) := ⟨_, rfl⟩
    have hs354 : a352.tmps.size = 78 := by rw [ha353, put_size]; exact hs338
    have hd355 : a352.defers = [] := by rw [ha353, put_defers]; exact hd339
    have h356 : a352.eval (.tmp 2) = pv q10 := by rw [ha353, put_ne _ _ _ _ (by decide)]; exact h340
    have h357 : a352.eval (.tmp 53) = .agg #[.bool false, sv none ([]) 0] := by rw [ha353, put_ne _ _ _ _ (by decide)]; exact h341
    have h358 : a352.eval (.tmp 3) = iv 2 := by rw [ha353]; exact put_same _ _ _ (by rw [hs338]; decide)
    show stepsTo _ _ _ _ _ (a334.put (some 3) (iv 2)) _
    rw [← ha353]
    clear ha353 hs338 hd339 h340 h341
    refine st_nil ?_
    clear h357
    refine hK333 _ _ ?_
    clear hK333 K333
    refine wp_ret (ret_k hd355 (v := .tuple #[.agg #[.bool false, sv none ([]) 0], iv 2]) (res_ct rfl h356 h358 (l_two Try.isAgg24 Try.sizeOf24 hb346)) ?_)
    have hs2 : (iv 2 : Value) = iv (parseZ s.data.toList).2 := by rw [pz_bad hR (.inl (digB_bad (i := i) (by omega) (.inr ht284)))]
    have hz1 : (decide ((parseZ s.data.toList).1 < 0)) = false := by rw [pz_bad hR (.inl (digB_bad (i := i) (by omega) (.inr ht284)))]; rfl
    have hz2 : canon ((parseZ s.data.toList).1).natAbs = [] := by rw [pz_bad hR (.inl (digB_bad (i := i) (by omega) (.inr ht284)))]; exact canon_zero
    exact ⟨none, 0, by rw [hz1, hz2, hs2], by rw [hz2]; exact (SRow.nil _ _), hN351⟩
  have ht240d := of_decide_eq_false ht240
  have hv359 : a227.eval (.tmp 40) = .bool false := h237.trans (congrArg Value.bool ht240)
  clear h237
  refine wp_cond_false hv359 ?_
  refine wp_exit ?_
  refine hK201 _ _ ?_
  clear hK201 K201 hK225 K225
  refine wp_seq_k fun K360 hK360 => ?_
  have hall : ∀ j, j < (s.extract 1 s.size).size → 48 ≤ bAt (s.extract 1 s.size) j ∧ bAt (s.extract 1 s.size) j ≤ 57 := fun j hj => hdg j (by omega)
  have hdB : digB (s.extract 1 s.size).data.toList = true := digB_yes hne hall hlead
  refine wp_g0 [true] [] 78
    [ve (sv none ([]) 0)] hs231 (.eq (.nil)) ?_ ?_
  · skip
    refine .o1 (tk rfl rfl fun _ w hn k => ⟨_, v_assign rfl rfl, rfl⟩) ?_
    exact .nil
  intro a361 w362 hn363 ha364
  have hs365 := ha364.size.trans hs231
  have hd366 := ha364.defers.trans hd232
  have h367 := ha364.fx 2 h234
  have h368 := ha364.fx 4 h235
  have h369 := ha364.fx 5 h236
  have h370 := ha364.ge 0 7 rfl
  have hb371 := hb238.new_ hn363
  have hN372 := hN239.transNew hn363
  clear hs231 hd232 h233 h234 h235 h236 hv359 hb238 hN239 ha364 hn363
  refine st_nil ?_
  refine hK360 _ _ ?_
  clear hK360 K360
  refine wp_seq_k fun K373 hK373 => ?_
  refine wp_seq_k fun K374 hK374 => ?_
  refine wp_g0 [true] [] 78
    [ve (iv 0)] hs365 (.eq (.nil)) ?_ ?_
  · skip
    refine .o1 (tk rfl rfl fun _ w hn k => ⟨_, v_assign rfl rfl, rfl⟩) ?_
    exact .nil
  intro a375 w376 hn377 ha378
  have hs379 := ha378.size.trans hs365
  have hd380 := ha378.defers.trans hd366
  have h381 := ha378.fx 2 h367
  have h382 := ha378.fx 4 h368
  have h383 := ha378.fx 5 h369
  have h384 := ha378.fx 7 h370
  have h385 := ha378.ge 0 8 rfl
  have hb386 := hb371.new_ hn377
  have hN387 := hN372.transNew hn377
  clear hs365 hd366 h367 h368 h369 h370 hb371 hN372 ha378 hn377
  refine st_nil ?_
  refine hK374 _ _ ?_
  clear hK374 K374
  refine wp_block ?_
  refine wp_loopX (fun (mm : Nat) (aa : Act) (ww : World) => ∃ (i2 : Nat) (A1 : Option Addr) (c1 : Nat), mm = (s.extract 1 s.size).size - i2 ∧ aa.tmps.size = 78 ∧ aa.defers = [] ∧ New w ww ∧ aa.eval (.tmp 7) = sv A1 (canon (decV ((s.extract 1 s.size).data.toList.take i2))) c1 ∧ aa.eval (.tmp 8) = iv (i2 : Int) ∧ aa.eval (.tmp 2) = pv q10 ∧ aa.eval (.tmp 4) = .bool true ∧ aa.eval (.tmp 5) = .string (s.extract 1 s.size) ∧ Blk ww q10 24 [.bool false, sv none ([]) 0] ∧ SOwn ww w.heap.size 50 .u32 A1 (canon (decV ((s.extract 1 s.size).data.toList.take i2))) c1 ∧ (i2 ≤ (s.extract 1 s.size).size) ∧ ((canon (decV ((s.extract 1 s.size).data.toList.take i2))).length ≤ 8)) (fun mm => mm) ⟨_, ⟨0, none, 0, rfl, hs379, hd380, hN387, (h384.trans (by rw [List.take_zero, show decV [] = 0 from rfl, canon_zero])), h385, h381, h382, h383, hb386, (by rw [List.take_zero, show decV [] = 0 from rfl, canon_zero]; exact SOwn.nil _ _ _ _), (Nat.zero_le _), (by simp [decV, canon_zero])⟩⟩ ?_
  clear hs379 hd380 hN387 h381 h382 h383 h384 h385 hb386
  rintro mm a388 w389 ⟨i2, A1, c1, hmm, hs390, hd391, hN392, h393, h394, h395, h396, h397, hb398, hr399, hi2, hv8⟩
  refine wp_seq_k fun K400 hK400 => ?_
  refine wp_seq_k fun K401 hK401 => ?_
  refine wp_g0 [true, true, true, true] [] 78
    [ve (iv (i2 : Int)),
     ve (.string (s.extract 1 s.size)),
     ve (iv ((s.extract 1 s.size).size : Int)),
     ve (.bool (decide ((i2 : Int) < ((s.extract 1 s.size).size : Int))))] hs390 (.eq (.eq (.eq (.eq (.nil))))) ?_ ?_
  · skip
    refine .o1 (tk rfl rfl fun _ w hn k => ⟨_, v_move rfl (k.fx 8 h394), rfl⟩) ?_
    refine .o1 (tk rfl rfl fun _ w hn k => ⟨_, v_move rfl (k.fx 5 h397), rfl⟩) ?_
    refine .o1 (tk rfl rfl fun _ w hn k => ⟨_, v_lenS rfl (k.eq1 1 55 rfl) (by kernel_rfl), rfl⟩) ?_
    refine .o1 (tk rfl rfl fun _ w hn k => ⟨_, v_bin rfl (k.eq1 0 54 rfl) (k.eq1 2 56 rfl) (fun _ => rfl) (r_lssK rfl), rfl⟩) ?_
    exact .nil
  intro a402 w403 hn404 ha405
  have hs406 := ha405.size.trans hs390
  have hd407 := ha405.defers.trans hd391
  have h408 := ha405.fx 7 h393
  have h409 := ha405.fx 8 h394
  have h410 := ha405.fx 2 h395
  have h411 := ha405.fx 4 h396
  have h412 := ha405.fx 5 h397
  have h413 := ha405.ge 3 57 rfl
  have hb414 := hb398.new_ hn404
  have hr415 := hr399.new_ hn404
  have hN416 := hN392.transNew hn404
  clear hs390 hd391 h393 h394 h395 h396 h397 hb398 hr399 hN392 ha405 hn404
  refine st_nil ?_
  refine hK401 _ _ ?_
  clear hK401 K401
  rcases Bool.eq_false_or_eq_true (decide ((i2 : Int) < ((s.extract 1 s.size).size : Int))) with ht417 | ht417
  · skip
    have ht417d := of_decide_eq_true ht417
    have hv418 : a402.eval (.tmp 57) = .bool true := h413.trans (congrArg Value.bool ht417)
    clear h413
    refine wp_cond_true hv418 ?_
    refine wp_skip ?_
    refine hK400 _ _ ?_
    clear hK400 K400
    refine wp_seq_k fun K419 hK419 => ?_
    refine wp_block ?_
    refine wp_seq_k fun K420 hK420 => ?_
    have hb2 := hall i2 (by omega)
    have hbl := bAt_lt (s.extract 1 s.size) i2
    have hstep := decV_step (s := (s.extract 1 s.size)) (i := i2) (by omega)
    have hl9 : (canon (val (canon (decV ((s.extract 1 s.size).data.toList.take i2))) * val [10])).length ≤ 9 := ten_len hv8
    have hl1 : (canon (val [(bAt (s.extract 1 s.size) i2 - 48)])).length ≤ 1 := one_len (by omega)
    refine wp_g0 [true, true, true, true, true, true, true, true, true, true, true, false] [(11, true)] 78
      [ve (sv A1 (canon (decV ((s.extract 1 s.size).data.toList.take i2))) c1),
       (fun (v : Value) (W : World) => ∃ (A3 : Option Addr) (c4 : Nat), v = sv A3 ([10]) c4 ∧ SOwn W w403.heap.size 50 .u32 A3 ([10]) c4),
       (fun (v : Value) (W : World) => ∃ (A11 : Option Addr) (c12 : Nat), v = sv A11 (canon (val (canon (decV ((s.extract 1 s.size).data.toList.take i2))) * val ([10]))) c12 ∧ SOwn W w403.heap.size 50 .u32 A11 (canon (val (canon (decV ((s.extract 1 s.size).data.toList.take i2))) * val ([10]))) c12),
       ve (.string (s.extract 1 s.size)),
       ve (iv (i2 : Int)),
       ve (.int .u8 ((bAt (s.extract 1 s.size) i2 : Nat) : Int)),
       ve (.int .u8 (((bAt (s.extract 1 s.size) i2) - 48 : Nat) : Int)),
       ve (.int .u32 (((bAt (s.extract 1 s.size) i2) - 48 : Nat) : Int)),
       (fun (v : Value) (W : World) => ∃ (A15 : Option Addr) (c16 : Nat), v = sv A15 ([((bAt (s.extract 1 s.size) i2) - 48)]) c16 ∧ SOwn W w403.heap.size 50 .u32 A15 ([((bAt (s.extract 1 s.size) i2) - 48)]) c16),
       (fun (v : Value) (W : World) => ∃ (A23 : Option Addr) (c24 : Nat), v = sv A23 (canon (val ([((bAt (s.extract 1 s.size) i2) - 48)]))) c24 ∧ SOwn W w403.heap.size 50 .u32 A23 (canon (val ([((bAt (s.extract 1 s.size) i2) - 48)]))) c24),
       (fun (v : Value) (W : World) => ∃ (A35 : Option Addr) (c36 : Nat), v = sv A35 (canon (val (canon (val (canon (decV ((s.extract 1 s.size).data.toList.take i2))) * val ([10]))) + val (canon (val ([((bAt (s.extract 1 s.size) i2) - 48)]))))) c36 ∧ SOwn W w403.heap.size 50 .u32 A35 (canon (val (canon (val (canon (decV ((s.extract 1 s.size).data.toList.take i2))) * val ([10]))) + val (canon (val ([((bAt (s.extract 1 s.size) i2) - 48)]))))) c36),
       vt] hs406 (.eq (.cons (fun v W W' hn ⟨A3, c4, he, h0⟩ => ⟨A3, c4, he, h0.new_ hn⟩) (.cons (fun v W W' hn ⟨A11, c12, he, h0⟩ => ⟨A11, c12, he, h0.new_ hn⟩) (.eq (.eq (.eq (.eq (.eq (.cons (fun v W W' hn ⟨A15, c16, he, h0⟩ => ⟨A15, c16, he, h0.new_ hn⟩) (.cons (fun v W W' hn ⟨A23, c24, he, h0⟩ => ⟨A23, c24, he, h0.new_ hn⟩) (.cons (fun v W W' hn ⟨A35, c36, he, h0⟩ => ⟨A35, c36, he, h0.new_ hn⟩) (.tt (.nil))))))))))))) ?_ ?_
    · skip
      refine .o1 (tk rfl rfl fun _ w hn k => ⟨_, v_move rfl (k.fx 7 h408), rfl⟩) ?_
      refine .o1 (tkA rfl (noG rfl) fun _ w hn k => (by
            exact x_bslice (k := .u32) (ps := [(0, .int .u32 10)]) [10] rfl (parts1 rfl) elW rfl (by omega) (by omega) (by first | kernel_rfl | (simp only [enc, List.map_cons, List.map_nil, Int.toNat_natCast, Int.toNat_of_nonneg (by omega : (0 : Int) ≤ _)]; kernel_rfl)) fun A1 c2 W' hmo => ⟨A1, c2, rfl, (hmo.more hn.size)⟩)) ?_
      refine .o1 (tkC rfl (noG rfl) rfl fun _ w hn k => (by
            obtain ⟨A5, c6, e7, hx8⟩ : (fun (v : Value) (W : World) => ∃ (A3 : Option Addr) (c4 : Nat), v = sv A3 ([10]) c4 ∧ SOwn W w403.heap.size 50 .u32 A3 ([10]) c4) _ _ := k.dep 1 61 (by kernel_rfl) (by kernel_rfl)
            refine ⟨#[sv A1 (canon (decV ((s.extract 1 s.size).data.toList.take i2))) c1, sv A5 ([10]) c6], _, args2 (k.eq1 0 60 rfl) e7, fun w => by kernel_rfl, rtimes_c _ _ _ _ _ _ _ (hr415.new_ hn).row hx8.row (limbs_canon _) limbs_10 (by first | omega | (simp only [List.length_nil, List.length_cons, List.length_set, List.length_replicate]; omega)) (by first | omega | (simp only [List.length_nil, List.length_cons, List.length_set, List.length_replicate]; omega)), ?_⟩
            rintro e w' ⟨A9, c10, rfl, hmo, hm⟩
            exact ⟨_, rfl, hm, ⟨A9, c10, rfl, (hmo.more hn.size)⟩⟩)) ?_
      refine .o1 (tk rfl rfl fun _ w hn k => ⟨_, v_move rfl (k.fx 5 h412), rfl⟩) ?_
      refine .o1 (tk rfl rfl fun _ w hn k => ⟨_, v_move rfl (k.fx 8 h409), rfl⟩) ?_
      refine .o1 (tk rfl rfl fun _ w hn k => ⟨_, v_idxN rfl (k.eq1 3 63 rfl) (k.eq1 4 64 rfl) (by kernel_rfl) (by omega), rfl⟩) ?_
      refine .o1 (tk rfl rfl fun _ w hn k => ⟨_, v_bin rfl (k.eq1 5 65 rfl) rfl (fun _ => rfl) (n_sub (by omega) (IntWalk.u8_in _ (by omega))), rfl⟩) ?_
      refine .o1 (tk rfl rfl fun _ w hn k => ⟨_, v_conv rfl (k.eq1 6 66 rfl) (n_conv (by kernel_rfl) (by kernel_rfl) (by kernel_rfl) (IntWalk.u32_in _ (by omega))), rfl⟩) ?_
      refine .o1 (tkA rfl (noG rfl) fun _ w hn k => (by
            exact x_bslice (k := .u32) (ps := [(0, .int .u32 (((bAt (s.extract 1 s.size) i2) - 48 : Nat) : Int))]) [((bAt (s.extract 1 s.size) i2) - 48)] rfl (parts1 (k.eq1 7 67 rfl)) elW rfl (by omega) (by omega) (by first | kernel_rfl | (simp only [enc, List.map_cons, List.map_nil, Int.toNat_natCast, Int.toNat_of_nonneg (by omega : (0 : Int) ≤ _)]; kernel_rfl)) fun A13 c14 W' hmo => ⟨A13, c14, rfl, (hmo.more hn.size)⟩)) ?_
      refine .o1 (tkC rfl (noG rfl) rfl fun _ w hn k => (by
            obtain ⟨A17, c18, e19, hx20⟩ : (fun (v : Value) (W : World) => ∃ (A15 : Option Addr) (c16 : Nat), v = sv A15 ([((bAt (s.extract 1 s.size) i2) - 48)]) c16 ∧ SOwn W w403.heap.size 50 .u32 A15 ([((bAt (s.extract 1 s.size) i2) - 48)]) c16) _ _ := k.dep 8 68 (by kernel_rfl) (by kernel_rfl)
            refine ⟨#[sv A17 ([((bAt (s.extract 1 s.size) i2) - 48)]) c18], _, args1 e19, fun w => by kernel_rfl, rtrim_c _ _ _ _ hx20.row (limbs_d (bAt_lt _ _)) (by first | omega | (simp only [List.length_nil, List.length_cons, List.length_set, List.length_replicate]; omega)), ?_⟩
            rintro e w' ⟨A21, c22, rfl, hmo, hm⟩
            exact ⟨_, rfl, hm, ⟨A21, c22, rfl, (hmo.more hn.size)⟩⟩)) ?_
      refine .o1 (tkC rfl (noG rfl) rfl fun _ w hn k => (by
            obtain ⟨A25, c26, e27, hx28⟩ : (fun (v : Value) (W : World) => ∃ (A11 : Option Addr) (c12 : Nat), v = sv A11 (canon (val (canon (decV ((s.extract 1 s.size).data.toList.take i2))) * val ([10]))) c12 ∧ SOwn W w403.heap.size 50 .u32 A11 (canon (val (canon (decV ((s.extract 1 s.size).data.toList.take i2))) * val ([10]))) c12) _ _ := k.dep 2 62 (by kernel_rfl) (by kernel_rfl)
            obtain ⟨A29, c30, e31, hx32⟩ : (fun (v : Value) (W : World) => ∃ (A23 : Option Addr) (c24 : Nat), v = sv A23 (canon (val ([((bAt (s.extract 1 s.size) i2) - 48)]))) c24 ∧ SOwn W w403.heap.size 50 .u32 A23 (canon (val ([((bAt (s.extract 1 s.size) i2) - 48)]))) c24) _ _ := k.dep 9 69 (by kernel_rfl) (by kernel_rfl)
            refine ⟨#[sv A25 (canon (val (canon (decV ((s.extract 1 s.size).data.toList.take i2))) * val ([10]))) c26, sv A29 (canon (val ([((bAt (s.extract 1 s.size) i2) - 48)]))) c30], _, args2 e27 e31, fun w => by kernel_rfl, rplus_c _ _ _ _ _ _ _ hx28.row hx32.row (limbs_canon _) (limbs_canon _) (by first | omega | (simp only [List.length_nil, List.length_cons, List.length_set, List.length_replicate]; omega)) (by first | omega | (simp only [List.length_nil, List.length_cons, List.length_set, List.length_replicate]; omega)), ?_⟩
            rintro e w' ⟨A33, c34, rfl, hmo, hm⟩
            exact ⟨_, rfl, hm, ⟨A33, c34, rfl, (hmo.more hn.size)⟩⟩)) ?_
      refine .off ?_
      exact .nil
    intro a421 w422 hn423 ha424
    have hs425 := ha424.size.trans hs406
    have hd426 := ha424.defers.trans hd407
    have h427 := ha424.fx 7 h408
    have h428 := ha424.fx 8 h409
    have h429 := ha424.fx 2 h410
    have h430 := ha424.fx 4 h411
    have h431 := ha424.fx 5 h412
    obtain ⟨A433, cc434, h432, hr435⟩ : (fun (v : Value) (W : World) => ∃ (A35 : Option Addr) (c36 : Nat), v = sv A35 (canon (val (canon (val (canon (decV ((s.extract 1 s.size).data.toList.take i2))) * val ([10]))) + val (canon (val ([((bAt (s.extract 1 s.size) i2) - 48)]))))) c36 ∧ SOwn W w403.heap.size 50 .u32 A35 (canon (val (canon (val (canon (decV ((s.extract 1 s.size).data.toList.take i2))) * val ([10]))) + val (canon (val ([((bAt (s.extract 1 s.size) i2) - 48)]))))) c36) _ _ := ha424.got 10 70 rfl (by kernel_rfl)
    have h432 : a421.eval (.tmp 70) = sv A433 (canon (val (canon (val (canon (decV ((s.extract 1 s.size).data.toList.take i2))) * val ([10]))) + val (canon (val ([((bAt (s.extract 1 s.size) i2) - 48)]))))) cc434 := h432
    have hb436 := hb414.new_ hn423
    have hr437 := hr415.new_ hn423
    have hr438 := hr435.more hN416.size
    have hN439 := hN416.transNew hn423
    clear hs406 hd407 h408 h409 h410 h411 h412 hv418 hb414 hr415 hr435 hN416 ha424 hn423
    refine st_take rfl rfl (y_assign (v := sv A433 (canon (val (canon (val (canon (decV ((s.extract 1 s.size).data.toList.take i2))) * val ([10]))) + val (canon (val ([((bAt (s.extract 1 s.size) i2) - 48)]))))) cc434) rfl h432) rfl ?_
    obtain ⟨a440, ha441⟩ : ∃ a', a' = a421.put (some 7) (sv A433 (canon (val (canon (val (canon (decV ((s.extract 1 s.size).data.toList.take i2))) * val ([10]))) + val (canon (val ([((bAt (s.extract 1 s.size) i2) - 48)]))))) cc434) := ⟨_, rfl⟩
    have hs442 : a440.tmps.size = 78 := by rw [ha441, put_size]; exact hs425
    have hd443 : a440.defers = [] := by rw [ha441, put_defers]; exact hd426
    have h444 : a440.eval (.tmp 8) = iv (i2 : Int) := by rw [ha441, put_ne _ _ _ _ (by decide)]; exact h428
    have h445 : a440.eval (.tmp 2) = pv q10 := by rw [ha441, put_ne _ _ _ _ (by decide)]; exact h429
    have h446 : a440.eval (.tmp 4) = .bool true := by rw [ha441, put_ne _ _ _ _ (by decide)]; exact h430
    have h447 : a440.eval (.tmp 5) = .string (s.extract 1 s.size) := by rw [ha441, put_ne _ _ _ _ (by decide)]; exact h431
    have h448 : a440.eval (.tmp 70) = sv A433 (canon (val (canon (val (canon (decV ((s.extract 1 s.size).data.toList.take i2))) * val ([10]))) + val (canon (val ([((bAt (s.extract 1 s.size) i2) - 48)]))))) cc434 := by rw [ha441, put_ne _ _ _ _ (by decide)]; exact h432
    have h449 : a440.eval (.tmp 7) = sv A433 (canon (val (canon (val (canon (decV ((s.extract 1 s.size).data.toList.take i2))) * val ([10]))) + val (canon (val ([((bAt (s.extract 1 s.size) i2) - 48)]))))) cc434 := by rw [ha441]; exact put_same _ _ _ (by rw [hs425]; decide)
    show stepsTo _ _ _ _ _ (a421.put (some 7) (sv A433 (canon (val (canon (val (canon (decV ((s.extract 1 s.size).data.toList.take i2))) * val ([10]))) + val (canon (val ([((bAt (s.extract 1 s.size) i2) - 48)]))))) cc434)) _
    rw [← ha441]
    clear ha441 hs425 hd426 h427 h428 h429 h430 h431 h432
    refine st_nil ?_
    clear h448 hr437
    have he450 : (canon (val (canon (val (canon (decV ((s.extract 1 s.size).data.toList.take i2))) * val ([10]))) + val (canon (val ([((bAt (s.extract 1 s.size) i2) - 48)]))))) = (canon (decV ((s.extract 1 s.size).data.toList.take (i2 + 1)))) := by rw [hstep, val_canon, val_canon, val_canon, val_one, val_one, Nat.mul_comm]
    rw [he450] at h449
    rw [he450] at hr438
    refine hK420 _ _ ?_
    clear hK420 K420
    refine wp_seq_k fun K451 hK451 => ?_
    rcases Bool.eq_false_or_eq_true (decide (((canon (decV ((s.extract 1 s.size).data.toList.take (i2 + 1)))).length : Int) ≤ 8)) with ht452 | ht452
    · skip
      have ht452d := of_decide_eq_true ht452
      refine wp_g0 [true, true, true] [] 78
        [ve (sv A433 (canon (decV ((s.extract 1 s.size).data.toList.take (i2 + 1)))) cc434),
         ve (iv ((canon (decV ((s.extract 1 s.size).data.toList.take (i2 + 1)))).length : Int)),
         ve (.bool false)] hs442 (.eq (.eq (.eq (.nil)))) ?_ ?_
      · skip
        refine .o1 (tk rfl rfl fun _ w hn k => ⟨_, v_move rfl (k.fx 7 h449), rfl⟩) ?_
        refine .o1 (tk rfl rfl fun _ w hn k => ⟨_, v_lenR rfl elW (k.eq1 0 71 rfl), rfl⟩) ?_
        refine .o1 (tk rfl rfl fun _ w hn k => ⟨_, v_bin rfl (k.eq1 1 72 rfl) rfl (fun _ => rfl) (r_gtrK ht452), rfl⟩) ?_
        exact .nil
      intro a453 w454 hn455 ha456
      have hs457 := ha456.size.trans hs442
      have hd458 := ha456.defers.trans hd443
      have h459 := ha456.fx 8 h444
      have h460 := ha456.fx 2 h445
      have h461 := ha456.fx 4 h446
      have h462 := ha456.fx 5 h447
      have h463 := ha456.fx 7 h449
      have h464 := ha456.ge 2 73 rfl
      have hb465 := hb436.new_ hn455
      have hr466 := hr438.new_ hn455
      have hN467 := hN439.transNew hn455
      clear hs442 hd443 h444 h445 h446 h447 h449 hb436 hr438 hN439 ha456 hn455
      refine st_nil ?_
      refine hK451 _ _ ?_
      clear hK451 K451
      refine wp_cond_false h464 ?_
      refine wp_skip ?_
      refine hK419 _ _ ?_
      clear hK419 K419
      refine wp_g0 [true, true, false] [(2, true)] 78
        [ve (iv (i2 : Int)),
         ve (iv ((i2 + 1 : Nat) : Int)),
         vt] hs457 (.eq (.eq (.tt (.nil)))) ?_ ?_
      · skip
        refine .o1 (tk rfl rfl fun _ w hn k => ⟨_, v_move rfl (k.fx 8 h459), rfl⟩) ?_
        refine .o1 (tk rfl rfl fun _ w hn k => ⟨_, v_bin rfl (k.eq1 0 58 rfl) rfl (fun _ => rfl) (n_add (by omega) (IntWalk.i64_in _ (by omega))), rfl⟩) ?_
        refine .off ?_
        exact .nil
      intro a468 w469 hn470 ha471
      have hs472 := ha471.size.trans hs457
      have hd473 := ha471.defers.trans hd458
      have h474 := ha471.fx 8 h459
      have h475 := ha471.fx 2 h460
      have h476 := ha471.fx 4 h461
      have h477 := ha471.fx 5 h462
      have h478 := ha471.fx 7 h463
      have h479 := ha471.ge 1 59 rfl
      have hb480 := hb465.new_ hn470
      have hr481 := hr466.new_ hn470
      have hN482 := hN467.transNew hn470
      clear hs457 hd458 h459 h460 h461 h462 h463 h464 hb465 hr466 hN467 ha471 hn470
      refine st_take rfl rfl (y_assign (v := iv ((i2 + 1 : Nat) : Int)) rfl h479) rfl ?_
      obtain ⟨a483, ha484⟩ : ∃ a', a' = a468.put (some 8) (iv ((i2 + 1 : Nat) : Int)) := ⟨_, rfl⟩
      have hs485 : a483.tmps.size = 78 := by rw [ha484, put_size]; exact hs472
      have hd486 : a483.defers = [] := by rw [ha484, put_defers]; exact hd473
      have h487 : a483.eval (.tmp 2) = pv q10 := by rw [ha484, put_ne _ _ _ _ (by decide)]; exact h475
      have h488 : a483.eval (.tmp 4) = .bool true := by rw [ha484, put_ne _ _ _ _ (by decide)]; exact h476
      have h489 : a483.eval (.tmp 5) = .string (s.extract 1 s.size) := by rw [ha484, put_ne _ _ _ _ (by decide)]; exact h477
      have h490 : a483.eval (.tmp 7) = sv A433 (canon (decV ((s.extract 1 s.size).data.toList.take (i2 + 1)))) cc434 := by rw [ha484, put_ne _ _ _ _ (by decide)]; exact h478
      have h491 : a483.eval (.tmp 59) = iv ((i2 + 1 : Nat) : Int) := by rw [ha484, put_ne _ _ _ _ (by decide)]; exact h479
      have h492 : a483.eval (.tmp 8) = iv ((i2 + 1 : Nat) : Int) := by rw [ha484]; exact put_same _ _ _ (by rw [hs472]; decide)
      show stepsTo _ _ _ _ _ (a468.put (some 8) (iv ((i2 + 1 : Nat) : Int))) _
      rw [← ha484]
      clear ha484 hs472 hd473 h474 h475 h476 h477 h478 h479
      refine st_nil ?_
      clear h491
      refine then_n ?_
      exact ⟨_, ⟨i2 + 1, A433, cc434, rfl, hs485, hd486, hN482, h490, (h492.trans (congrArg (Value.int .i64) (by omega))), h487, h488, h489, hb480, hr481, (by omega), (by omega)⟩, (by omega)⟩
    have ht452d := of_decide_eq_false ht452
    refine wp_g0 [true, true, true] [] 78
      [ve (sv A433 (canon (decV ((s.extract 1 s.size).data.toList.take (i2 + 1)))) cc434),
       ve (iv ((canon (decV ((s.extract 1 s.size).data.toList.take (i2 + 1)))).length : Int)),
       ve (.bool true)] hs442 (.eq (.eq (.eq (.nil)))) ?_ ?_
    · skip
      refine .o1 (tk rfl rfl fun _ w hn k => ⟨_, v_move rfl (k.fx 7 h449), rfl⟩) ?_
      refine .o1 (tk rfl rfl fun _ w hn k => ⟨_, v_lenR rfl elW (k.eq1 0 71 rfl), rfl⟩) ?_
      refine .o1 (tk rfl rfl fun _ w hn k => ⟨_, v_bin rfl (k.eq1 1 72 rfl) rfl (fun _ => rfl) (r_gtrK ht452), rfl⟩) ?_
      exact .nil
    intro a493 w494 hn495 ha496
    have hs497 := ha496.size.trans hs442
    have hd498 := ha496.defers.trans hd443
    have h499 := ha496.fx 8 h444
    have h500 := ha496.fx 2 h445
    have h501 := ha496.fx 4 h446
    have h502 := ha496.fx 5 h447
    have h503 := ha496.fx 7 h449
    have h504 := ha496.ge 2 73 rfl
    have hb505 := hb436.new_ hn495
    have hr506 := hr438.new_ hn495
    have hN507 := hN439.transNew hn495
    clear hs442 hd443 h444 h445 h446 h447 h449 hb436 hr438 hN439 ha496 hn495
    refine st_nil ?_
    refine hK451 _ _ ?_
    clear hK451 K451
    refine wp_cond_true h504 ?_
    refine wp_seq_k fun K508 hK508 => ?_
    refine wp_g0 [true, false, false] [(1, false), (2, true)] 78
      [ve (.agg #[.bool false, sv none ([]) 0]),
       vt,
       vt] hs497 (.eq (.tt (.tt (.nil)))) ?_ ?_
    · skip
      refine .o1 (tk rfl rfl fun _ w hn k => ⟨_, v_build (ps := []) rfl parts0 (by kernel_rfl), rfl⟩) ?_
      refine .off ?_
      refine .off ?_
      exact .nil
    intro a509 w510 hn511 ha512
    have hs513 := ha512.size.trans hs497
    have hd514 := ha512.defers.trans hd498
    have h515 := ha512.fx 2 h500
    have h516 := ha512.ge 0 74 rfl
    have hb517 := hb505.new_ hn511
    have hN518 := hN507.transNew hn511
    clear hs497 hd498 h499 h500 h501 h502 h503 h504 hb505 hr506 hN507 ha512 hn511
    obtain ⟨w519, -, hst520, hb521, hu522, hf523⟩ := s_two (v0 := .bool false) (v1 := sv none ([]) 0) Try.sizeOf24 rfl rfl rfl hb517
    refine st_act rfl rfl fun K524 hL525 => a_store' rfl h515 h516 hst520 (hL525 _ _ trivial ?_)
    have hN526 := hN518.trans hu522 (fun k hk hkb => by subst hkb; omega)
    clear hb517 hst520 K524 hL525 hN518 hu522 hf523
    refine st_take rfl rfl (y_assign (v := iv 3) rfl rfl) rfl ?_
    obtain ⟨a527, ha528⟩ : ∃ a', a' = a509.put (some 3) (iv 3) := ⟨_, rfl⟩
    have hs529 : a527.tmps.size = 78 := by rw [ha528, put_size]; exact hs513
    have hd530 : a527.defers = [] := by rw [ha528, put_defers]; exact hd514
    have h531 : a527.eval (.tmp 2) = pv q10 := by rw [ha528, put_ne _ _ _ _ (by decide)]; exact h515
    have h532 : a527.eval (.tmp 74) = .agg #[.bool false, sv none ([]) 0] := by rw [ha528, put_ne _ _ _ _ (by decide)]; exact h516
    have h533 : a527.eval (.tmp 3) = iv 3 := by rw [ha528]; exact put_same _ _ _ (by rw [hs513]; decide)
    show stepsTo _ _ _ _ _ (a509.put (some 3) (iv 3)) _
    rw [← ha528]
    clear ha528 hs513 hd514 h515 h516
    refine st_nil ?_
    clear h532
    refine hK508 _ _ ?_
    clear hK508 K508
    refine wp_ret (ret_k hd530 (v := .tuple #[.agg #[.bool false, sv none ([]) 0], iv 3]) (res_ct rfl h531 h533 (l_two Try.isAgg24 Try.sizeOf24 hb521)) ?_)
    have hs2 : (iv 3 : Value) = iv (parseZ s.data.toList).2 := by rw [pz_long hR hdB (fun _ => not_zero hnz) (dec_long ht452)]
    have hz1 : (decide ((parseZ s.data.toList).1 < 0)) = false := by rw [pz_long hR hdB (fun _ => not_zero hnz) (dec_long ht452)]; rfl
    have hz2 : canon ((parseZ s.data.toList).1).natAbs = [] := by rw [pz_long hR hdB (fun _ => not_zero hnz) (dec_long ht452)]; exact canon_zero
    exact ⟨none, 0, by rw [hz1, hz2, hs2], by rw [hz2]; exact (SRow.nil _ _), hN526⟩
  have ht417d := of_decide_eq_false ht417
  have hv534 : a402.eval (.tmp 57) = .bool false := h413.trans (congrArg Value.bool ht417)
  clear h413
  refine wp_cond_false hv534 ?_
  refine wp_exit ?_
  refine hK373 _ _ ?_
  clear hK373 K373 hK400 K400
  refine wp_seq_k fun K535 hK535 => ?_
  refine wp_g0 [true, true, true, false, false] [(3, false), (4, true)] 78
    [ve (.bool true),
     ve (sv A1 (canon (decV ((s.extract 1 s.size).data.toList.take i2))) c1),
     (fun (v : Value) (W : World) => ∃ (A45 : Option Addr) (c46 : Nat), v = .agg #[.bool (decide (sgn true (val (canon (decV ((s.extract 1 s.size).data.toList.take i2)))) < 0)), sv A45 (canon (sgn true (val (canon (decV ((s.extract 1 s.size).data.toList.take i2))))).natAbs) c46] ∧ SRow W .u32 A45 (canon (sgn true (val (canon (decV ((s.extract 1 s.size).data.toList.take i2))))).natAbs) c46),
     vt,
     vt] hs406 (.eq (.eq (.cons (fun v W W' hn ⟨A45, c46, he, h0⟩ => ⟨A45, c46, he, h0.new_ hn⟩) (.tt (.tt (.nil)))))) ?_ ?_
  · skip
    refine .o1 (tk rfl rfl fun _ w hn k => ⟨_, v_move rfl (k.fx 4 h411), rfl⟩) ?_
    refine .o1 (tk rfl rfl fun _ w hn k => ⟨_, v_move rfl (k.fx 7 h408), rfl⟩) ?_
    refine .o1 (tkC rfl (noG rfl) rfl fun _ w hn k => (by
          refine ⟨#[.bool true, sv A1 (canon (decV ((s.extract 1 s.size).data.toList.take i2))) c1], _, args2 (k.eq1 0 75 rfl) (k.eq1 1 76 rfl), fun w => by kernel_rfl, rmade_c _ _ _ _ _ (hr415.new_ hn).row (limbs_canon _) (by first | omega | (simp only [List.length_nil, List.length_cons, List.length_set, List.length_replicate]; omega)), ?_⟩
          rintro e w' ⟨A43, c44, rfl, hmo, hm⟩
          exact ⟨_, rfl, hm, ⟨A43, c44, rfl, hmo⟩⟩)) ?_
    refine .off ?_
    refine .off ?_
    exact .nil
  intro a536 w537 hn538 ha539
  have hs540 := ha539.size.trans hs406
  have hd541 := ha539.defers.trans hd407
  have h542 := ha539.fx 2 h410
  obtain ⟨A544, cc545, h543, hr546⟩ : (fun (v : Value) (W : World) => ∃ (A45 : Option Addr) (c46 : Nat), v = .agg #[.bool (decide (sgn true (val (canon (decV ((s.extract 1 s.size).data.toList.take i2)))) < 0)), sv A45 (canon (sgn true (val (canon (decV ((s.extract 1 s.size).data.toList.take i2))))).natAbs) c46] ∧ SRow W .u32 A45 (canon (sgn true (val (canon (decV ((s.extract 1 s.size).data.toList.take i2))))).natAbs) c46) _ _ := ha539.got 2 77 rfl (by kernel_rfl)
  have h543 : a536.eval (.tmp 77) = .agg #[.bool (decide (sgn true (val (canon (decV ((s.extract 1 s.size).data.toList.take i2)))) < 0)), sv A544 (canon (sgn true (val (canon (decV ((s.extract 1 s.size).data.toList.take i2))))).natAbs) cc545] := h543
  have hb547 := hb414.new_ hn538
  have hN548 := hN416.transNew hn538
  clear hs406 hd407 h408 h409 h410 h411 h412 hv534 hb414 hr415 hN416 ha539 hn538
  obtain ⟨w549, -, hst550, hb551, hu552, hf553⟩ := s_two (v0 := .bool (decide (sgn true (val (canon (decV ((s.extract 1 s.size).data.toList.take i2)))) < 0))) (v1 := sv A544 (canon (sgn true (val (canon (decV ((s.extract 1 s.size).data.toList.take i2))))).natAbs) cc545) Try.sizeOf24 rfl rfl rfl hb547
  refine st_act rfl rfl fun K554 hL555 => a_store' rfl h542 h543 hst550 (hL555 _ _ trivial ?_)
  have hr556 := hr546.far hb547 hu552 (by first | rfl | decide | simp [notK])
  have hN557 := hN548.trans hu552 (fun k hk hkb => by subst hkb; omega)
  clear hb547 hst550 K554 hL555 hN548 hr546 hu552 hf553
  refine st_take rfl rfl (y_assign (v := iv 0) rfl rfl) rfl ?_
  obtain ⟨a558, ha559⟩ : ∃ a', a' = a536.put (some 3) (iv 0) := ⟨_, rfl⟩
  have hs560 : a558.tmps.size = 78 := by rw [ha559, put_size]; exact hs540
  have hd561 : a558.defers = [] := by rw [ha559, put_defers]; exact hd541
  have h562 : a558.eval (.tmp 2) = pv q10 := by rw [ha559, put_ne _ _ _ _ (by decide)]; exact h542
  have h563 : a558.eval (.tmp 77) = .agg #[.bool (decide (sgn true (val (canon (decV ((s.extract 1 s.size).data.toList.take i2)))) < 0)), sv A544 (canon (sgn true (val (canon (decV ((s.extract 1 s.size).data.toList.take i2))))).natAbs) cc545] := by rw [ha559, put_ne _ _ _ _ (by decide)]; exact h543
  have h564 : a558.eval (.tmp 3) = iv 0 := by rw [ha559]; exact put_same _ _ _ (by rw [hs540]; decide)
  show stepsTo _ _ _ _ _ (a536.put (some 3) (iv 0)) _
  rw [← ha559]
  clear ha559 hs540 hd541 h542 h543
  refine st_nil ?_
  clear h563
  refine hK535 _ _ ?_
  clear hK535 K535
  refine wp_ret (ret_k hd561 (v := .tuple #[.agg #[.bool (decide (sgn true (val (canon (decV ((s.extract 1 s.size).data.toList.take i2)))) < 0)), sv A544 (canon (sgn true (val (canon (decV ((s.extract 1 s.size).data.toList.take i2))))).natAbs) cc545], iv 0]) (res_ct rfl h562 h564 (l_two Try.isAgg24 Try.sizeOf24 hb551)) ?_)
  have hs2 : (iv 0 : Value) = iv (parseZ s.data.toList).2 := by rw [pz_ok hR hdB (fun _ => not_zero hnz) (dec_ok (i := i2) (by omega) hv8)]
  have hz1 : sgn true (val (canon (decV ((s.extract 1 s.size).data.toList.take i2)))) = (parseZ s.data.toList).1 := by rw [pz_ok hR hdB (fun _ => not_zero hnz) (dec_ok (i := i2) (by omega) hv8), val_canon, dec_all (by omega)]
  exact ⟨A544, cc545, (congrArg (fun z : Int => Ending.returned (Value.tuple #[.agg #[.bool (decide (z < 0)), sv A544 (canon z.natAbs) cc545], iv 0])) hz1).trans (congrArg (fun y => Ending.returned (Value.tuple #[.agg #[.bool (decide ((parseZ s.data.toList).1 < 0)), sv A544 (canon ((parseZ s.data.toList).1).natAbs) cc545], y])) hs2), Eq.mp (congrArg (fun z : Int => SRow _ .u32 A544 (canon z.natAbs) cc545) hz1) hr556, hN557⟩
end Go.Proofs.Ytfhflpchfgkgcaa
