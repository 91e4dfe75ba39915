/- Package renref2: sizes. -/
import Derived.Test.YtfhflpchfgkgcaaArith
import Derived.Test.YtfhflpchfgkgcaaLoop
import Derived.Test.YtfhflpchfgkgcaaRegS
import Derived.Test.YtfhflpchfgkgcaaBigV
namespace Go.Proofs.Ytfhflpchfgkgcaa
open Go.RowKit
set_option linter.unusedSimpArgs false
set_option linter.unusedVariables false
theorem elW2 : ElemT Try.prog 22 50 (.int .u32 0) 1 4 := elW
theorem getD_far {m : List Nat} {i : Nat} (h : m.length ≤ i) : m.getD i 0 = 0 := by simp [List.getD, h]
theorem trim_dn {m : List Nat} {k : Nat} (h0 : 0 < k) (h : decide (((m.getD ((k : Int) - 1).toNat 0 : Nat) : Int) = 0) = true) (hv : val (m.take k) = val m) : val (m.take (k - 1)) = val m := by
  have h1 := of_decide_eq_true h
  rw [show ((k : Int) - 1).toNat = k - 1 by omega] at h1
  have h2 := val_take m (k - 1)
  rw [show k - 1 + 1 = k by omega, show m.getD (k - 1) 0 = 0 by omega] at h2
  omega
theorem trim_nz {m : List Nat} {k : Nat} (h : decide (((m.getD ((k : Int) - 1).toNat 0 : Nat) : Int) = 0) = false) : 0 < m.getD (k - 1) 0 := by
  have h1 := of_decide_eq_false h
  rw [show ((k : Int) - 1).toNat = k - 1 by omega] at h1
  omega
theorem trim_end {m : List Nat} {k : Nat} (hl : Limbs m) (hk : k ≤ m.length) (hv : val (m.take k) = val m) (h : k = 0 ∨ 0 < m.getD (k - 1) 0) : [] ++ m.take (k : Int).toNat = canon (val m) := by
  rw [List.nil_append, Int.toNat_natCast, ← hv]
  refine canon_val (hl.take k) ?_
  rcases h with rfl | h
  · exact .inl (by simp)
  · rcases Nat.eq_zero_or_pos k with hk0 | hk0
    · exact .inl (by simp [hk0])
    refine .inr ?_
    rw [List.length_take, Nat.min_eq_left hk]
    simpa [List.getD, show k - 1 < k by omega] using h
theorem plus_end {a b ds : List Nat} {i c : Nat} (ha : Limbs a) (hb : Limbs b) (hd : Limbs ds) (hl : ds.length = i) (hc : c ≤ 1) (hi : max a.length b.length + 1 ≤ i) (h : val ds + 4294967296 ^ i * c = val (a.take i) + val (b.take i)) : val ds = val a + val b := by
  rw [List.take_of_length_le (by omega), List.take_of_length_le (by omega)] at h
  obtain ⟨n, rfl⟩ : ∃ n, i = n + 1 := ⟨i - 1, by omega⟩
  have h1 := val_lt ha
  have h2 := val_lt hb
  have h3 : 4294967296 ^ a.length ≤ 4294967296 ^ n := Nat.pow_le_pow_right (by omega) (by omega)
  have h4 : 4294967296 ^ b.length ≤ 4294967296 ^ n := Nat.pow_le_pow_right (by omega) (by omega)
  rw [Nat.pow_succ] at h
  generalize 4294967296 ^ n = p at *
  generalize 4294967296 ^ a.length = p1 at *
  generalize 4294967296 ^ b.length = p2 at *
  rcases Nat.eq_zero_or_pos c with h0 | h0
  · rw [h0, Nat.mul_zero] at h; omega
  · have e : c = 1 := by omega
    rw [e, Nat.mul_one] at h
    omega
theorem minus_step {a b ds : List Nat} {i c : Nat} (ha : Limbs a) (hb : Limbs b) (hd : Limbs ds) (hl : ds.length = i) (hc : c ≤ 1) (h : val ds + val (b.take i) = val (a.take i) + 4294967296 ^ i * c) :
    Limbs (ds ++ [(a.getD i 0 + 4294967296 - b.getD i 0 - c) % 4294967296]) ∧ val (ds ++ [(a.getD i 0 + 4294967296 - b.getD i 0 - c) % 4294967296]) + val (b.take (i + 1)) = val (a.take (i + 1)) + 4294967296 ^ (i + 1) * (1 - (a.getD i 0 + 4294967296 - b.getD i 0 - c) / 4294967296) := by
  have h1 := ha.at i
  have h2 := hb.at i
  exact less_step hd hl (by omega) (by omega) h
theorem minus_end {a b ds : List Nat} {i c : Nat} (ha : Limbs a) (hb : Limbs b) (hd : Limbs ds) (hi : ds.length = i ∧ i = a.length) (hle : val b ≤ val a) (h : val ds + val (b.take i) = val (a.take i) + 4294967296 ^ i * c) : val ds = val a - val b := by
  obtain ⟨hl, rfl⟩ := hi
  rw [List.take_of_length_le (Nat.le_refl a.length)] at h
  have h1 := val_lt hd
  rw [hl] at h1
  have h2 : val (b.take a.length) ≤ val b := by
    have := val_app (b.take a.length) (b.drop a.length)
    rw [List.take_append_drop] at this
    omega
  have h3 : val (b.take a.length) = val b := by
    have h5 := val_app (b.take a.length) (b.drop a.length)
    rw [List.take_append_drop] at h5
    rcases Nat.eq_zero_or_pos (val (b.drop a.length)) with h6 | h6
    · rw [h6] at h5; omega
    · have h7 := val_lt ha
      rcases Nat.lt_or_ge b.length a.length with h8 | h8
      · rw [List.take_of_length_le (by omega)]
      · have h9 : (b.take a.length).length = a.length := by simp; omega
        rw [h9] at h5
        have : 4294967296 ^ a.length ≤ 4294967296 ^ a.length * val (b.drop a.length) := Nat.le_mul_of_pos_right _ h6
        omega
  rw [h3] at h
  rcases Nat.eq_zero_or_pos c with rfl | hc
  · omega
  · have : 4294967296 ^ a.length ≤ 4294967296 ^ a.length * c := Nat.le_mul_of_pos_right _ hc
    omega
def cmpN (a b : Nat) : Int := if a < b then -1 else if b < a then 1 else 0
theorem above_dn {a b : List Nat} {n : Nat} (h : Above a b n) (h0 : 0 < n) (h1 : decide (((a.getD ((n : Int) - 1).toNat 0 : Nat) : Int) < ((b.getD ((n : Int) - 1).toNat 0 : Nat) : Int)) = false) (h2 : decide (((a.getD ((n : Int) - 1).toNat 0 : Nat) : Int) ≤ ((b.getD ((n : Int) - 1).toNat 0 : Nat) : Int)) = true) : Above a b (n - 1) := by
  have h3 := of_decide_eq_false h1
  have h4 := of_decide_eq_true h2
  rw [show ((n : Int) - 1).toNat = n - 1 by omega] at h3 h4
  intro j hj
  rcases Nat.lt_or_ge j n with h5 | h5
  · obtain rfl : j = n - 1 := by omega
    omega
  · exact h j h5
theorem cmp_lt {a b : List Nat} {n : Nat} (ha : Limbs a) (h : Above a b n) (h0 : 0 < n) (h1 : decide (((a.getD ((n : Int) - 1).toNat 0 : Nat) : Int) < ((b.getD ((n : Int) - 1).toNat 0 : Nat) : Int)) = true) : cmpN (val a) (val b) = -1 := by
  have h3 := of_decide_eq_true h1
  rw [show ((n : Int) - 1).toNat = n - 1 by omega] at h3
  unfold cmpN
  rw [if_pos (lt_of_diff ha (k := n - 1) (by rw [show n - 1 + 1 = n by omega]; exact h) (by omega))]
theorem cmp_gt {a b : List Nat} {n : Nat} (hb : Limbs b) (h : Above a b n) (h0 : 0 < n) (h1 : decide (((a.getD ((n : Int) - 1).toNat 0 : Nat) : Int) ≤ ((b.getD ((n : Int) - 1).toNat 0 : Nat) : Int)) = false) : cmpN (val a) (val b) = 1 := by
  have h3 := of_decide_eq_false h1
  rw [show ((n : Int) - 1).toNat = n - 1 by omega] at h3
  have h4 := lt_of_diff hb (k := n - 1) (a := b) (b := a) (by rw [show n - 1 + 1 = n by omega]; exact fun j hj => (h j hj).symm) (by omega)
  unfold cmpN
  rw [if_neg (by omega), if_pos h4]
theorem cmp_eq {a b : List Nat} {n : Nat} (h : Above a b n) (h0 : n = 0) : cmpN (val a) (val b) = 0 := by
  subst h0
  have := eq_of_above h
  unfold cmpN
  rw [if_neg (by omega), if_neg (by omega)]
set_option maxHeartbeats 4000000 in
set_option maxRecDepth 100000 in
theorem rword_c (A : Option Addr) (m : List Nat) (c : Nat) (i : Int) (w : World) (hr : SRow w .u32 A m c) (hl : Limbs m) (hi : 0 ≤ i) : Calls Try.prog 63 #[sv A m c, iv i] w (IsRet (.int .u64 ((m.getD i.toNat 0 : Nat) : Int)) w) := by
  refine enter_abs Try.func63 rfl fun a0 hs0 hd0 hp => ?_
  have hs0 : a0.tmps.size = 14 := hs0
  have hN0 : New w w := Upd.refl _ _
  have hp0 : a0.eval (.tmp 0) = sv A m c := hp 0 _ rfl
  have hp1 : a0.eval (.tmp 1) = iv i := hp 1 _ rfl
  clear hp
  have hb := hl.at i.toNat
  refine wp_seq_k fun K1 hK1 => ?_
  refine wp_g0 [true] [] 14
    [ve (.int .u64 0)] hs0 (.eq (.nil)) ?_ ?_
  · skip
    refine .o1 (tk rfl rfl fun _ w hn k => ⟨_, v_assign rfl rfl, rfl⟩) ?_
    exact .nil
  intro a2 w3 hn4 ha5
  have hs6 := ha5.size.trans hs0
  have hd7 := ha5.defers.trans hd0
  have h8 := ha5.fx 0 hp0
  have h9 := ha5.fx 1 hp1
  have hN10 := hN0.transNew hn4
  clear hs0 hd0 hp0 hp1 hN0 ha5 hn4
  refine st_nil ?_
  refine hK1 _ _ ?_
  clear hK1 K1
  refine wp_seq_k fun K11 hK11 => ?_
  refine wp_seq_k fun K12 hK12 => ?_
  refine wp_g0 [true, true, true, true] [] 14
    [ve (iv i),
     ve (sv A m c),
     ve (iv (m.length : Int)),
     ve (.bool (decide (i < (m.length : Int))))] hs6 (.eq (.eq (.eq (.eq (.nil))))) ?_ ?_
  · skip
    refine .o1 (tk rfl rfl fun _ w hn k => ⟨_, v_move rfl (k.fx 1 h9), rfl⟩) ?_
    refine .o1 (tk rfl rfl fun _ w hn k => ⟨_, v_move rfl (k.fx 0 h8), rfl⟩) ?_
    refine .o1 (tk rfl rfl fun _ w hn k => ⟨_, v_lenR rfl elW (k.eq1 1 6 rfl), rfl⟩) ?_
    refine .o1 (tk rfl rfl fun _ w hn k => ⟨_, v_bin rfl (k.eq1 0 5 rfl) (k.eq1 2 7 rfl) (fun _ => rfl) (r_lssK rfl), rfl⟩) ?_
    exact .nil
  intro a13 w14 hn15 ha16
  have hs17 := ha16.size.trans hs6
  have hd18 := ha16.defers.trans hd7
  have h19 := ha16.fx 0 h8
  have h20 := ha16.fx 1 h9
  have h21 := ha16.ge 3 8 rfl
  have hN22 := hN10.transNew hn15
  clear hs6 hd7 h8 h9 hN10 ha16 hn15
  refine st_nil ?_
  refine hK12 _ _ ?_
  clear hK12 K12
  rcases Bool.eq_false_or_eq_true (decide (i < (m.length : Int))) with ht23 | ht23
  · skip
    have ht23d := of_decide_eq_true ht23
    have hv24 : a13.eval (.tmp 8) = .bool true := h21.trans (congrArg Value.bool ht23)
    clear h21
    refine wp_cond_true hv24 ?_
    refine wp_seq_k fun K25 hK25 => ?_
    refine wp_g0 [true, true, true, true, true, true] [] 14
      [ve (sv A m c),
       ve (iv i),
       (fun (v : Value) (W : World) => ∃ (b3 : Nat) (o4 : Nat), v = .pointer (some ⟨b3, o4, none⟩) ∧ SElem W b3 o4 (.int .u32 ((m.getD ((i : Int).toNat) 0 : Nat) : Int))),
       ve (.int .u32 ((m.getD ((i : Int).toNat) 0 : Nat) : Int)),
       ve (.int .u64 ((m.getD ((i : Int).toNat) 0 : Nat) : Int)),
       ve (.int .u64 ((m.getD ((i : Int).toNat) 0 : Nat) : Int))] hs17 (.eq (.eq (.cons (fun v W W' hn ⟨b3, o4, he, h0⟩ => ⟨b3, o4, he, h0.new_ hn⟩) (.eq (.eq (.eq (.nil))))))) ?_ ?_
    · skip
      refine .o1 (tk rfl rfl fun _ w hn k => ⟨_, v_move rfl (k.fx 0 h19), rfl⟩) ?_
      refine .o1 (tk rfl rfl fun _ w hn k => ⟨_, v_move rfl (k.fx 1 h20), rfl⟩) ?_
      refine .o1 (tk rfl rfl fun _ w hn k => (by
            exact x_eaddr (k := .u32) rfl elW (k.eq1 0 9 rfl) (k.eq1 1 10 rfl) (hr.new_ (hN22.transNew hn)) (by omega) fun b1 o2 hme => ⟨b1, o2, rfl, hme⟩)) ?_
      refine .o1 (tk rfl rfl fun _ w hn k => (by
            obtain ⟨b5, o6, e7, hx8⟩ : (fun (v : Value) (W : World) => ∃ (b3 : Nat) (o4 : Nat), v = .pointer (some ⟨b3, o4, none⟩) ∧ SElem W b3 o4 (.int .u32 ((m.getD ((i : Int).toNat) 0 : Nat) : Int))) _ _ := k.dep 2 11 (by kernel_rfl) (by kernel_rfl)
            exact ⟨_, v_load rfl e7 (l_one Try.isAgg50 hx8.1), rfl⟩)) ?_
      refine .o1 (tk rfl rfl fun _ w hn k => ⟨_, v_conv rfl (k.eq1 3 12 rfl) (n_conv (by kernel_rfl) (by kernel_rfl) (by kernel_rfl) (IntWalk.u64_in _ (by omega))), rfl⟩) ?_
      refine .o1 (tk rfl rfl fun _ w hn k => ⟨_, v_assign rfl (k.eq1 4 13 rfl), rfl⟩) ?_
      exact .nil
    intro a26 w27 hn28 ha29
    have hs30 := ha29.size.trans hs17
    have hd31 := ha29.defers.trans hd18
    have h32 := ha29.ge 5 4 rfl
    have hN33 := hN22.transNew hn28
    clear hs17 hd18 h19 h20 hv24 hN22 ha29 hn28
    refine st_nil ?_
    refine hK25 _ _ ?_
    clear hK25 K25
    refine wp_ret (ret_k hd31 (v := .int .u64 ((m.getD ((i : Int).toNat) 0 : Nat) : Int)) (res_t rfl h32 _) ?_)
    exact ⟨rfl, hN33⟩
  have ht23d := of_decide_eq_false ht23
  have hv34 : a13.eval (.tmp 8) = .bool false := h21.trans (congrArg Value.bool ht23)
  clear h21
  refine wp_cond_false hv34 ?_
  refine wp_skip ?_
  refine hK11 _ _ ?_
  clear hK11 K11
  refine wp_seq_k fun K35 hK35 => ?_
  refine wp_g0 [true] [] 14
    [ve (.int .u64 0)] hs17 (.eq (.nil)) ?_ ?_
  · skip
    refine .o1 (tk rfl rfl fun _ w hn k => ⟨_, v_assign rfl rfl, rfl⟩) ?_
    exact .nil
  intro a36 w37 hn38 ha39
  have hs40 := ha39.size.trans hs17
  have hd41 := ha39.defers.trans hd18
  have h42 := ha39.ge 0 4 rfl
  have hN43 := hN22.transNew hn38
  clear hs17 hd18 h19 h20 hv34 hN22 ha39 hn38
  refine st_nil ?_
  refine hK35 _ _ ?_
  clear hK35 K35
  refine wp_ret (ret_k hd41 (v := .int .u64 0) (res_t rfl h42 _) ?_)
  have hz : m.getD i.toNat 0 = 0 := getD_far (by omega)
  exact ⟨by rw [hz]; rfl, hN43⟩
set_option maxHeartbeats 4000000 in
set_option maxRecDepth 100000 in
theorem rtrim_c (A : Option Addr) (m : List Nat) (c : Nat) (w : World) (hr : SRow w .u32 A m c) (hl : Limbs m) (hs : m.length ≤ 1000000) : Calls Try.prog 56 #[sv A m c] w (RetS 50 .u32 (canon (val m)) w) := by
  refine enter_abs Try.func56 rfl fun a0 hs0 hd0 hp => ?_
  have hs0 : a0.tmps.size = 23 := hs0
  have hN0 : New w w := Upd.refl _ _
  have hp0 : a0.eval (.tmp 0) = sv A m c := hp 0 _ rfl
  clear hp
  refine wp_seq_k fun K1 hK1 => ?_
  refine wp_g0 [true] [] 23
    [ve (sv none ([]) 0)] hs0 (.eq (.nil)) ?_ ?_
  · skip
    refine .o1 (tk rfl rfl fun _ w hn k => ⟨_, v_assign rfl rfl, rfl⟩) ?_
    exact .nil
  intro a2 w3 hn4 ha5
  have hs6 := ha5.size.trans hs0
  have hd7 := ha5.defers.trans hd0
  have h8 := ha5.fx 0 hp0
  have hN9 := hN0.transNew hn4
  clear hs0 hd0 hp0 hN0 ha5 hn4
  refine st_nil ?_
  refine hK1 _ _ ?_
  clear hK1 K1
  refine wp_seq_k fun K10 hK10 => ?_
  refine wp_g0 [true, true, true] [] 23
    [ve (sv A m c),
     ve (iv (m.length : Int)),
     ve (iv (m.length : Int))] hs6 (.eq (.eq (.eq (.nil)))) ?_ ?_
  · skip
    refine .o1 (tk rfl rfl fun _ w hn k => ⟨_, v_move rfl (k.fx 0 h8), rfl⟩) ?_
    refine .o1 (tk rfl rfl fun _ w hn k => ⟨_, v_lenR rfl elW (k.eq1 0 4 rfl), rfl⟩) ?_
    refine .o1 (tk rfl rfl fun _ w hn k => ⟨_, v_assign rfl (k.eq1 1 5 rfl), rfl⟩) ?_
    exact .nil
  intro a11 w12 hn13 ha14
  have hs15 := ha14.size.trans hs6
  have hd16 := ha14.defers.trans hd7
  have h17 := ha14.fx 0 h8
  have h18 := ha14.ge 2 3 rfl
  have hN19 := hN9.transNew hn13
  clear hs6 hd7 h8 hN9 ha14 hn13
  refine st_nil ?_
  refine hK10 _ _ ?_
  clear hK10 K10
  refine wp_seq_k fun K20 hK20 => ?_
  refine wp_block ?_
  refine wp_loopX (fun (mm : Nat) (aa : Act) (ww : World) => ∃ (kk : Nat), mm = kk ∧ aa.tmps.size = 23 ∧ aa.defers = [] ∧ New w ww ∧ aa.eval (.tmp 3) = iv (kk : Int) ∧ aa.eval (.tmp 0) = sv A m c ∧ (kk ≤ m.length) ∧ (val (m.take kk) = val m)) (fun mm => mm) ⟨_, ⟨m.length, rfl, hs15, hd16, hN19, h18, h17, Nat.le_refl _, (by rw [List.take_length])⟩⟩ ?_
  clear hs15 hd16 hN19 h17 h18
  rintro mm a21 w22 ⟨kk, hmm, hs23, hd24, hN25, h26, h27, hk, hv⟩
  refine wp_seq_k fun K28 hK28 => ?_
  refine wp_seq_k fun K29 hK29 => ?_
  rcases Bool.eq_false_or_eq_true (decide ((kk : Int) ≤ 0)) with ht30 | ht30
  · skip
    have ht30d := of_decide_eq_true ht30
    refine wp_g0 [true, true, true, true, true, true, true, true, true, true] [] 23
      [ve (iv (kk : Int)),
       ve (.bool false),
       ve (.bool false),
       ve undef,
       ve undef,
       ve undef,
       ve undef,
       ve undef,
       ve undef,
       ve (.bool false)] hs23 (.eq (.eq (.eq (.eq (.eq (.eq (.eq (.eq (.eq (.eq (.nil))))))))))) ?_ ?_
    · skip
      refine .o1 (tk rfl rfl fun _ w hn k => ⟨_, v_move rfl (k.fx 3 h26), rfl⟩) ?_
      refine .o1 (tk rfl rfl fun _ w hn k => ⟨_, v_bin rfl (k.eq1 0 6 rfl) rfl (fun _ => rfl) (r_gtrK ht30), rfl⟩) ?_
      refine .o1 (tk rfl rfl fun _ w hn k => ⟨_, v_move rfl (k.eq1 1 7 rfl), rfl⟩) ?_
      refine .o1 (sk rfl rfl rfl (fun _ _ _ k => k.eq1 2 8 rfl) (fun _ => rfl)) ?_
      refine .o1 (sk rfl rfl rfl (fun _ _ _ k => k.eq1 2 8 rfl) (fun _ => rfl)) ?_
      refine .o1 (sk rfl rfl rfl (fun _ _ _ k => k.eq1 2 8 rfl) (fun _ => rfl)) ?_
      refine .o1 (sk rfl rfl rfl (fun _ _ _ k => k.eq1 2 8 rfl) (fun _ => rfl)) ?_
      refine .o1 (sk rfl rfl rfl (fun _ _ _ k => k.eq1 2 8 rfl) (fun _ => rfl)) ?_
      refine .o1 (sk rfl rfl rfl (fun _ _ _ k => k.eq1 2 8 rfl) (fun _ => rfl)) ?_
      refine .o1 (tk rfl rfl fun _ w hn k => ⟨_, v_pickF rfl (k.eq1 2 8 rfl) rfl, rfl⟩) ?_
      exact .nil
    intro a31 w32 hn33 ha34
    have hs35 := ha34.size.trans hs23
    have hd36 := ha34.defers.trans hd24
    have h37 := ha34.fx 3 h26
    have h38 := ha34.fx 0 h27
    have h39 := ha34.ge 9 15 rfl
    have hN40 := hN25.transNew hn33
    clear hs23 hd24 h26 h27 hN25 ha34 hn33
    refine st_nil ?_
    refine hK29 _ _ ?_
    clear hK29 K29
    refine wp_cond_false h39 ?_
    refine wp_exit ?_
    refine hK20 _ _ ?_
    clear hK20 K20 hK28 K28
    refine wp_seq_k fun K41 hK41 => ?_
    refine wp_g0 [true, true, true, true, false, false] [(4, false), (5, true)] 23
      [(fun (v : Value) (W : World) => ∃ (A3 : Option Addr) (c4 : Nat), v = sv A3 ([]) c4 ∧ SOwn W w32.heap.size 50 .u32 A3 ([]) c4),
       ve (sv A m c),
       ve (iv (kk : Int)),
       (fun (v : Value) (W : World) => ∃ (A7 : Option Addr) (c8 : Nat), v = sv A7 (m.take kk) c8 ∧ SRow W .u32 A7 (m.take kk) c8),
       vt,
       vt] hs35 (.cons (fun v W W' hn ⟨A3, c4, he, h0⟩ => ⟨A3, c4, he, h0.new_ hn⟩) (.eq (.eq (.cons (fun v W W' hn ⟨A7, c8, he, h0⟩ => ⟨A7, c8, he, h0.new_ hn⟩) (.tt (.tt (.nil))))))) ?_ ?_
    · skip
      refine .o1 (tkA rfl (noG rfl) fun _ w hn k => (by
            exact x_bslice0 .u32 rfl parts0 elW fun A1 c2 W' hmo => ⟨A1, c2, rfl, (hmo.more hn.size)⟩)) ?_
      refine .o1 (tk rfl rfl fun _ w hn k => ⟨_, v_move rfl (k.fx 0 h38), rfl⟩) ?_
      refine .o1 (tk rfl rfl fun _ w hn k => ⟨_, v_move rfl (k.fx 3 h37), rfl⟩) ?_
      refine .o1 (tk rfl rfl fun _ w hn k => (by
            exact x_cutH (k := .u32) rfl elW (k.eq1 1 19 rfl) (k.eq1 2 20 rfl) (hr.new_ (hN40.transNew hn)) (by omega) fun A5 c6 hmr => ⟨A5, c6, rfl, hmr⟩)) ?_
      refine .off ?_
      refine .off ?_
      exact .nil
    intro a42 w43 hn44 ha45
    have hs46 := ha45.size.trans hs35
    have hd47 := ha45.defers.trans hd36
    obtain ⟨A49, cc50, h48, hr51⟩ : (fun (v : Value) (W : World) => ∃ (A3 : Option Addr) (c4 : Nat), v = sv A3 ([]) c4 ∧ SOwn W w32.heap.size 50 .u32 A3 ([]) c4) _ _ := ha45.got 0 18 rfl (by kernel_rfl)
    have h48 : a42.eval (.tmp 18) = sv A49 ([]) cc50 := h48
    obtain ⟨A53, cc54, h52, hr55⟩ : (fun (v : Value) (W : World) => ∃ (A7 : Option Addr) (c8 : Nat), v = sv A7 (m.take kk) c8 ∧ SRow W .u32 A7 (m.take kk) c8) _ _ := ha45.got 3 21 rfl (by kernel_rfl)
    have h52 : a42.eval (.tmp 21) = sv A53 (m.take kk) cc54 := h52
    have hr56 := hr51.more hN40.size
    have hN57 := hN40.transNew hn44
    clear hs35 hd36 h37 h38 h39 hr51 hN40 ha45 hn44
    have hw66 := hN57.size
    refine st_act rfl rfl fun K64 hL65 => a_append (k := .u32) (b := w.heap.size) rfl elW h48 hr56 h52 hr55 (by first | omega | (simp only [List.length_nil, List.length_cons, List.length_append, List.length_take, List.length_drop, List.length_replicate, List.length_set]; omega)) (by first | omega | (simp only [List.length_nil, List.length_cons, List.length_append, List.length_take, List.length_drop, List.length_replicate, List.length_set]; omega)) hw66 fun A58 cc59 w60 hr61 hg62 => hL65 _ _ trivial ?_
    have hN63 := hN57.ownGrown hr56 hg62
    clear hg62 K64 hL65 hw66 hN57 hr56 hr55 h48 h52
    obtain ⟨a67, ha68⟩ : ∃ a', a' = a42.put (some 22) (sv A58 ([] ++ (m.take kk)) cc59) := ⟨_, rfl⟩
    have hs69 : a67.tmps.size = 23 := by rw [ha68, put_size]; exact hs46
    have hd70 : a67.defers = [] := by rw [ha68, put_defers]; exact hd47
    have h71 : a67.eval (.tmp 22) = sv A58 ([] ++ (m.take kk)) cc59 := by rw [ha68]; exact put_same _ _ _ (by rw [hs46]; decide)
    show stepsTo _ _ _ _ _ (a42.put (some 22) (sv A58 ([] ++ (m.take kk)) cc59)) _
    rw [← ha68]
    clear ha68 hs46 hd47
    refine st_take rfl rfl (y_assign (v := sv A58 ([] ++ (m.take kk)) cc59) rfl h71) rfl ?_
    obtain ⟨a72, ha73⟩ : ∃ a', a' = a67.put (some 2) (sv A58 ([] ++ (m.take kk)) cc59) := ⟨_, rfl⟩
    have hs74 : a72.tmps.size = 23 := by rw [ha73, put_size]; exact hs69
    have hd75 : a72.defers = [] := by rw [ha73, put_defers]; exact hd70
    have h76 : a72.eval (.tmp 22) = sv A58 ([] ++ (m.take kk)) cc59 := by rw [ha73, put_ne _ _ _ _ (by decide)]; exact h71
    have h77 : a72.eval (.tmp 2) = sv A58 ([] ++ (m.take kk)) cc59 := by rw [ha73]; exact put_same _ _ _ (by rw [hs69]; decide)
    show stepsTo _ _ _ _ _ (a67.put (some 2) (sv A58 ([] ++ (m.take kk)) cc59)) _
    rw [← ha73]
    clear ha73 hs69 hd70 h71
    refine st_nil ?_
    clear h76
    refine hK41 _ _ ?_
    clear hK41 K41
    refine wp_ret (ret_k hd75 (v := sv A58 ([] ++ (m.take kk)) cc59) (res_t rfl h77 _) ?_)
    have hsp : ([] ++ (m.take kk)) = (canon (val m)) := trim_end hl hk hv (Or.inl (by omega))
    exact ⟨A58, cc59, congrArg (fun l => Ending.returned (sv A58 l cc59)) hsp, by rw [← hsp]; exact hr61, hN63⟩
  have ht30d := of_decide_eq_false ht30
  refine wp_g0 [true, true, true, true, true, true, true, true, true, true] [] 23
    [ve (iv (kk : Int)),
     ve (.bool true),
     ve (.bool true),
     ve (sv A m c),
     ve (iv (kk : Int)),
     ve (iv ((kk : Int) - 1)),
     (fun (v : Value) (W : World) => ∃ (b11 : Nat) (o12 : Nat), v = .pointer (some ⟨b11, o12, none⟩) ∧ SElem W b11 o12 (.int .u32 ((m.getD (((kk : Int) - 1 : Int).toNat) 0 : Nat) : Int))),
     ve (.int .u32 ((m.getD (((kk : Int) - 1 : Int).toNat) 0 : Nat) : Int)),
     ve (.bool (decide (((m.getD (((kk : Int) - 1 : Int).toNat) 0 : Nat) : Int) = 0))),
     ve (.bool (decide (((m.getD (((kk : Int) - 1 : Int).toNat) 0 : Nat) : Int) = 0)))] hs23 (.eq (.eq (.eq (.eq (.eq (.eq (.cons (fun v W W' hn ⟨b11, o12, he, h0⟩ => ⟨b11, o12, he, h0.new_ hn⟩) (.eq (.eq (.eq (.nil))))))))))) ?_ ?_
  · skip
    refine .o1 (tk rfl rfl fun _ w hn k => ⟨_, v_move rfl (k.fx 3 h26), rfl⟩) ?_
    refine .o1 (tk rfl rfl fun _ w hn k => ⟨_, v_bin rfl (k.eq1 0 6 rfl) rfl (fun _ => rfl) (r_gtrK ht30), rfl⟩) ?_
    refine .o1 (tk rfl rfl fun _ w hn k => ⟨_, v_move rfl (k.eq1 1 7 rfl), rfl⟩) ?_
    refine .o1 (tg rfl rfl rfl (fun _ _ k => k.eq1 2 8 rfl) fun _ w hn k => ⟨_, v_move rfl (k.fx 0 h27), rfl⟩) ?_
    refine .o1 (tg rfl rfl rfl (fun _ _ k => k.eq1 2 8 rfl) fun _ w hn k => ⟨_, v_move rfl (k.fx 3 h26), rfl⟩) ?_
    refine .o1 (tg rfl rfl rfl (fun _ _ k => k.eq1 2 8 rfl) fun _ w hn k => ⟨_, v_bin rfl (k.eq1 4 10 rfl) rfl (fun _ => rfl) (r_sub rfl (by omega)), rfl⟩) ?_
    refine .o1 (tg rfl rfl rfl (fun _ _ k => k.eq1 2 8 rfl) fun _ w hn k => (by
          exact x_eaddr (k := .u32) rfl elW (k.eq1 3 9 rfl) (k.eq1 5 11 rfl) (hr.new_ (hN25.transNew hn)) (by omega) fun b9 o10 hme => ⟨b9, o10, rfl, hme⟩)) ?_
    refine .o1 (tg rfl rfl rfl (fun _ _ k => k.eq1 2 8 rfl) fun _ w hn k => (by
          obtain ⟨b13, o14, e15, hx16⟩ : (fun (v : Value) (W : World) => ∃ (b11 : Nat) (o12 : Nat), v = .pointer (some ⟨b11, o12, none⟩) ∧ SElem W b11 o12 (.int .u32 ((m.getD (((kk : Int) - 1 : Int).toNat) 0 : Nat) : Int))) _ _ := k.dep 6 12 (by kernel_rfl) (by kernel_rfl)
          exact ⟨_, v_load rfl e15 (l_one Try.isAgg50 hx16.1), rfl⟩)) ?_
    refine .o1 (tg rfl rfl rfl (fun _ _ k => k.eq1 2 8 rfl) fun _ w hn k => ⟨_, v_bin rfl (k.eq1 7 13 rfl) rfl (fun _ => rfl) (r_eql rfl), rfl⟩) ?_
    refine .o1 (tk rfl rfl fun _ w hn k => ⟨_, v_pickT rfl (k.eq1 2 8 rfl) (k.eq1 8 14 rfl), rfl⟩) ?_
    exact .nil
  intro a78 w79 hn80 ha81
  have hs82 := ha81.size.trans hs23
  have hd83 := ha81.defers.trans hd24
  have h84 := ha81.fx 3 h26
  have h85 := ha81.fx 0 h27
  have h86 := ha81.ge 9 15 rfl
  have hN87 := hN25.transNew hn80
  clear hs23 hd24 h26 h27 hN25 ha81 hn80
  refine st_nil ?_
  refine hK29 _ _ ?_
  clear hK29 K29
  rcases Bool.eq_false_or_eq_true (decide (((m.getD (((kk : Int) - 1 : Int).toNat) 0 : Nat) : Int) = 0)) with ht88 | ht88
  · skip
    have ht88d := of_decide_eq_true ht88
    have hv89 : a78.eval (.tmp 15) = .bool true := h86.trans (congrArg Value.bool ht88)
    clear h86
    refine wp_cond_true hv89 ?_
    refine wp_skip ?_
    refine hK28 _ _ ?_
    clear hK28 K28
    refine wp_block ?_
    refine wp_g0 [true, true, false] [(2, true)] 23
      [ve (iv (kk : Int)),
       ve (iv ((kk : Int) - 1)),
       vt] hs82 (.eq (.eq (.tt (.nil)))) ?_ ?_
    · skip
      refine .o1 (tk rfl rfl fun _ w hn k => ⟨_, v_move rfl (k.fx 3 h84), rfl⟩) ?_
      refine .o1 (tk rfl rfl fun _ w hn k => ⟨_, v_bin rfl (k.eq1 0 16 rfl) rfl (fun _ => rfl) (r_sub rfl (by omega)), rfl⟩) ?_
      refine .off ?_
      exact .nil
    intro a90 w91 hn92 ha93
    have hs94 := ha93.size.trans hs82
    have hd95 := ha93.defers.trans hd83
    have h96 := ha93.fx 3 h84
    have h97 := ha93.fx 0 h85
    have h98 := ha93.ge 1 17 rfl
    have hN99 := hN87.transNew hn92
    clear hs82 hd83 h84 h85 hv89 hN87 ha93 hn92
    refine st_take rfl rfl (y_assign (v := iv ((kk : Int) - 1)) rfl h98) rfl ?_
    obtain ⟨a100, ha101⟩ : ∃ a', a' = a90.put (some 3) (iv ((kk : Int) - 1)) := ⟨_, rfl⟩
    have hs102 : a100.tmps.size = 23 := by rw [ha101, put_size]; exact hs94
    have hd103 : a100.defers = [] := by rw [ha101, put_defers]; exact hd95
    have h104 : a100.eval (.tmp 0) = sv A m c := by rw [ha101, put_ne _ _ _ _ (by decide)]; exact h97
    have h105 : a100.eval (.tmp 17) = iv ((kk : Int) - 1) := by rw [ha101, put_ne _ _ _ _ (by decide)]; exact h98
    have h106 : a100.eval (.tmp 3) = iv ((kk : Int) - 1) := by rw [ha101]; exact put_same _ _ _ (by rw [hs94]; decide)
    show stepsTo _ _ _ _ _ (a90.put (some 3) (iv ((kk : Int) - 1))) _
    rw [← ha101]
    clear ha101 hs94 hd95 h96 h97 h98
    refine st_nil ?_
    clear h105
    refine blk_n ?_
    refine then_n ?_
    exact ⟨_, ⟨kk - 1, rfl, hs102, hd103, hN99, (h106.trans (congrArg (Value.int .i64) (by omega))), h104, (by omega), (trim_dn (by omega) ht88 hv)⟩, (by omega)⟩
  have ht88d := of_decide_eq_false ht88
  have hv107 : a78.eval (.tmp 15) = .bool false := h86.trans (congrArg Value.bool ht88)
  clear h86
  refine wp_cond_false hv107 ?_
  refine wp_exit ?_
  refine hK20 _ _ ?_
  clear hK20 K20 hK28 K28
  refine wp_seq_k fun K108 hK108 => ?_
  refine wp_g0 [true, true, true, true, false, false] [(4, false), (5, true)] 23
    [(fun (v : Value) (W : World) => ∃ (A19 : Option Addr) (c20 : Nat), v = sv A19 ([]) c20 ∧ SOwn W w79.heap.size 50 .u32 A19 ([]) c20),
     ve (sv A m c),
     ve (iv (kk : Int)),
     (fun (v : Value) (W : World) => ∃ (A23 : Option Addr) (c24 : Nat), v = sv A23 (m.take kk) c24 ∧ SRow W .u32 A23 (m.take kk) c24),
     vt,
     vt] hs82 (.cons (fun v W W' hn ⟨A19, c20, he, h0⟩ => ⟨A19, c20, he, h0.new_ hn⟩) (.eq (.eq (.cons (fun v W W' hn ⟨A23, c24, he, h0⟩ => ⟨A23, c24, he, h0.new_ hn⟩) (.tt (.tt (.nil))))))) ?_ ?_
  · skip
    refine .o1 (tkA rfl (noG rfl) fun _ w hn k => (by
          exact x_bslice0 .u32 rfl parts0 elW fun A17 c18 W' hmo => ⟨A17, c18, rfl, (hmo.more hn.size)⟩)) ?_
    refine .o1 (tk rfl rfl fun _ w hn k => ⟨_, v_move rfl (k.fx 0 h85), rfl⟩) ?_
    refine .o1 (tk rfl rfl fun _ w hn k => ⟨_, v_move rfl (k.fx 3 h84), rfl⟩) ?_
    refine .o1 (tk rfl rfl fun _ w hn k => (by
          exact x_cutH (k := .u32) rfl elW (k.eq1 1 19 rfl) (k.eq1 2 20 rfl) (hr.new_ (hN87.transNew hn)) (by omega) fun A21 c22 hmr => ⟨A21, c22, rfl, hmr⟩)) ?_
    refine .off ?_
    refine .off ?_
    exact .nil
  intro a109 w110 hn111 ha112
  have hs113 := ha112.size.trans hs82
  have hd114 := ha112.defers.trans hd83
  obtain ⟨A116, cc117, h115, hr118⟩ : (fun (v : Value) (W : World) => ∃ (A19 : Option Addr) (c20 : Nat), v = sv A19 ([]) c20 ∧ SOwn W w79.heap.size 50 .u32 A19 ([]) c20) _ _ := ha112.got 0 18 rfl (by kernel_rfl)
  have h115 : a109.eval (.tmp 18) = sv A116 ([]) cc117 := h115
  obtain ⟨A120, cc121, h119, hr122⟩ : (fun (v : Value) (W : World) => ∃ (A23 : Option Addr) (c24 : Nat), v = sv A23 (m.take kk) c24 ∧ SRow W .u32 A23 (m.take kk) c24) _ _ := ha112.got 3 21 rfl (by kernel_rfl)
  have h119 : a109.eval (.tmp 21) = sv A120 (m.take kk) cc121 := h119
  have hr123 := hr118.more hN87.size
  have hN124 := hN87.transNew hn111
  clear hs82 hd83 h84 h85 hv107 hr118 hN87 ha112 hn111
  have hw133 := hN124.size
  refine st_act rfl rfl fun K131 hL132 => a_append (k := .u32) (b := w.heap.size) rfl elW h115 hr123 h119 hr122 (by first | omega | (simp only [List.length_nil, List.length_cons, List.length_append, List.length_take, List.length_drop, List.length_replicate, List.length_set]; omega)) (by first | omega | (simp only [List.length_nil, List.length_cons, List.length_append, List.length_take, List.length_drop, List.length_replicate, List.length_set]; omega)) hw133 fun A125 cc126 w127 hr128 hg129 => hL132 _ _ trivial ?_
  have hN130 := hN124.ownGrown hr123 hg129
  clear hg129 K131 hL132 hw133 hN124 hr123 hr122 h115 h119
  obtain ⟨a134, ha135⟩ : ∃ a', a' = a109.put (some 22) (sv A125 ([] ++ (m.take kk)) cc126) := ⟨_, rfl⟩
  have hs136 : a134.tmps.size = 23 := by rw [ha135, put_size]; exact hs113
  have hd137 : a134.defers = [] := by rw [ha135, put_defers]; exact hd114
  have h138 : a134.eval (.tmp 22) = sv A125 ([] ++ (m.take kk)) cc126 := by rw [ha135]; exact put_same _ _ _ (by rw [hs113]; decide)
  show stepsTo _ _ _ _ _ (a109.put (some 22) (sv A125 ([] ++ (m.take kk)) cc126)) _
  rw [← ha135]
  clear ha135 hs113 hd114
  refine st_take rfl rfl (y_assign (v := sv A125 ([] ++ (m.take kk)) cc126) rfl h138) rfl ?_
  obtain ⟨a139, ha140⟩ : ∃ a', a' = a134.put (some 2) (sv A125 ([] ++ (m.take kk)) cc126) := ⟨_, rfl⟩
  have hs141 : a139.tmps.size = 23 := by rw [ha140, put_size]; exact hs136
  have hd142 : a139.defers = [] := by rw [ha140, put_defers]; exact hd137
  have h143 : a139.eval (.tmp 22) = sv A125 ([] ++ (m.take kk)) cc126 := by rw [ha140, put_ne _ _ _ _ (by decide)]; exact h138
  have h144 : a139.eval (.tmp 2) = sv A125 ([] ++ (m.take kk)) cc126 := by rw [ha140]; exact put_same _ _ _ (by rw [hs136]; decide)
  show stepsTo _ _ _ _ _ (a134.put (some 2) (sv A125 ([] ++ (m.take kk)) cc126)) _
  rw [← ha140]
  clear ha140 hs136 hd137 h138
  refine st_nil ?_
  clear h143
  refine hK108 _ _ ?_
  clear hK108 K108
  refine wp_ret (ret_k hd142 (v := sv A125 ([] ++ (m.take kk)) cc126) (res_t rfl h144 _) ?_)
  have hsp : ([] ++ (m.take kk)) = (canon (val m)) := trim_end hl hk hv (Or.inr (trim_nz ht88))
  exact ⟨A125, cc126, congrArg (fun l => Ending.returned (sv A125 l cc126)) hsp, by rw [← hsp]; exact hr128, hN130⟩
set_option maxHeartbeats 4000000 in
set_option maxRecDepth 100000 in
theorem rplus_c (A B : Option Addr) (a b : List Nat) (c d : Nat) (w : World) (hra : SRow w .u32 A a c) (hrb : SRow w .u32 B b d) (ha : Limbs a) (hb : Limbs b) (hsa : a.length ≤ 900000) (hsb : b.length ≤ 900000) : Calls Try.prog 54 #[sv A a c, sv B b d] w (RetS 50 .u32 (canon (val a + val b)) w) := by
  refine enter_abs Try.func54 rfl fun a0 hs0 hd0 hp => ?_
  have hs0 : a0.tmps.size = 37 := hs0
  have hN0 : New w w := Upd.refl _ _
  have hp0 : a0.eval (.tmp 0) = sv A a c := hp 0 _ rfl
  have hp1 : a0.eval (.tmp 1) = sv B b d := hp 1 _ rfl
  clear hp
  refine wp_seq_k fun K1 hK1 => ?_
  refine wp_g0 [true] [] 37
    [ve (sv none ([]) 0)] hs0 (.eq (.nil)) ?_ ?_
  · skip
    refine .o1 (tk rfl rfl fun _ w hn k => ⟨_, v_assign rfl rfl, rfl⟩) ?_
    exact .nil
  intro a2 w3 hn4 ha5
  have hs6 := ha5.size.trans hs0
  have hd7 := ha5.defers.trans hd0
  have h8 := ha5.fx 0 hp0
  have h9 := ha5.fx 1 hp1
  have hN10 := hN0.transNew hn4
  clear hs0 hd0 hp0 hp1 hN0 ha5 hn4
  refine st_nil ?_
  refine hK1 _ _ ?_
  clear hK1 K1
  refine wp_seq_k fun K11 hK11 => ?_
  refine wp_g0 [true] [] 37
    [ve (sv none ([]) 0)] hs6 (.eq (.nil)) ?_ ?_
  · skip
    refine .o1 (tk rfl rfl fun _ w hn k => ⟨_, v_assign rfl rfl, rfl⟩) ?_
    exact .nil
  intro a12 w13 hn14 ha15
  have hs16 := ha15.size.trans hs6
  have hd17 := ha15.defers.trans hd7
  have h18 := ha15.fx 0 h8
  have h19 := ha15.fx 1 h9
  have h20 := ha15.ge 0 5 rfl
  have hN21 := hN10.transNew hn14
  clear hs6 hd7 h8 h9 hN10 ha15 hn14
  refine st_nil ?_
  refine hK11 _ _ ?_
  clear hK11 K11
  refine wp_seq_k fun K22 hK22 => ?_
  refine wp_g0 [true] [] 37
    [ve (.int .u64 0)] hs16 (.eq (.nil)) ?_ ?_
  · skip
    refine .o1 (tk rfl rfl fun _ w hn k => ⟨_, v_assign rfl rfl, rfl⟩) ?_
    exact .nil
  intro a23 w24 hn25 ha26
  have hs27 := ha26.size.trans hs16
  have hd28 := ha26.defers.trans hd17
  have h29 := ha26.fx 0 h18
  have h30 := ha26.fx 1 h19
  have h31 := ha26.fx 5 h20
  have h32 := ha26.ge 0 6 rfl
  have hN33 := hN21.transNew hn25
  clear hs16 hd17 h18 h19 h20 hN21 ha26 hn25
  refine st_nil ?_
  refine hK22 _ _ ?_
  clear hK22 K22
  refine wp_seq_k fun K34 hK34 => ?_
  refine wp_seq_k fun K35 hK35 => ?_
  refine wp_g0 [true] [] 37
    [ve (iv 0)] hs27 (.eq (.nil)) ?_ ?_
  · skip
    refine .o1 (tk rfl rfl fun _ w hn k => ⟨_, v_assign rfl rfl, rfl⟩) ?_
    exact .nil
  intro a36 w37 hn38 ha39
  have hs40 := ha39.size.trans hs27
  have hd41 := ha39.defers.trans hd28
  have h42 := ha39.fx 0 h29
  have h43 := ha39.fx 1 h30
  have h44 := ha39.fx 5 h31
  have h45 := ha39.fx 6 h32
  have h46 := ha39.ge 0 7 rfl
  have hN47 := hN33.transNew hn38
  clear hs27 hd28 h29 h30 h31 h32 hN33 ha39 hn38
  refine st_nil ?_
  refine hK35 _ _ ?_
  clear hK35 K35
  refine wp_block ?_
  refine wp_loopX (fun (mm : Nat) (aa : Act) (ww : World) => ∃ (i : Nat) (ds : List Nat) (cc : Nat) (A1 : Option Addr) (c1 : Nat), mm = max a.length b.length + 1 - i ∧ aa.tmps.size = 37 ∧ aa.defers = [] ∧ New w ww ∧ aa.eval (.tmp 5) = sv A1 ds c1 ∧ aa.eval (.tmp 6) = .int .u64 (cc : Int) ∧ aa.eval (.tmp 7) = iv (i : Int) ∧ aa.eval (.tmp 0) = sv A a c ∧ aa.eval (.tmp 1) = sv B b d ∧ SOwn ww w.heap.size 50 .u32 A1 ds c1 ∧ (i ≤ max a.length b.length + 1) ∧ (cc ≤ 1) ∧ (ds.length = i) ∧ (Limbs ds) ∧ (val ds + 4294967296 ^ i * cc = val (a.take i) + val (b.take i))) (fun mm => mm) ⟨_, ⟨0, [], 0, none, 0, rfl, hs40, hd41, hN47, h44, h45, h46, h42, h43, SOwn.nil _ _ _ _, (by omega), (by omega), rfl, Limbs.nil, (by simp [val])⟩⟩ ?_
  clear hs40 hd41 hN47 h42 h43 h44 h45 h46
  rintro mm a48 w49 ⟨i, ds, cc, A1, c1, hmm, hs50, hd51, hN52, h53, h54, h55, h56, h57, hr58, hi, hc, hln, hd, hv⟩
  refine wp_seq_k fun K59 hK59 => ?_
  refine wp_seq_k fun K60 hK60 => ?_
  refine wp_g0 [true, true, true, true, true, true, true, true] [] 37
    [ve (iv (i : Int)),
     ve (sv A a c),
     ve (iv (a.length : Int)),
     ve (sv B b d),
     ve (iv (b.length : Int)),
     ve (iv (max (a.length : Int) (b.length : Int))),
     ve (iv ((max (a.length : Int) (b.length : Int)) + 1)),
     ve (.bool (decide ((i : Int) < ((max (a.length : Int) (b.length : Int)) + 1))))] hs50 (.eq (.eq (.eq (.eq (.eq (.eq (.eq (.eq (.nil))))))))) ?_ ?_
  · skip
    refine .o1 (tk rfl rfl fun _ w hn k => ⟨_, v_move rfl (k.fx 7 h55), rfl⟩) ?_
    refine .o1 (tk rfl rfl fun _ w hn k => ⟨_, v_move rfl (k.fx 0 h56), rfl⟩) ?_
    refine .o1 (tk rfl rfl fun _ w hn k => ⟨_, v_lenR rfl elW (k.eq1 1 9 rfl), rfl⟩) ?_
    refine .o1 (tk rfl rfl fun _ w hn k => ⟨_, v_move rfl (k.fx 1 h57), rfl⟩) ?_
    refine .o1 (tk rfl rfl fun _ w hn k => ⟨_, v_lenR rfl elW (k.eq1 3 11 rfl), rfl⟩) ?_
    refine .o1 (tk rfl rfl fun _ w hn k => ⟨_, v_max rfl (k.eq1 2 10 rfl) (k.eq1 4 12 rfl), rfl⟩) ?_
    refine .o1 (tk rfl rfl fun _ w hn k => ⟨_, v_bin rfl (k.eq1 5 13 rfl) rfl (fun _ => rfl) (r_add rfl (by omega)), rfl⟩) ?_
    refine .o1 (tk rfl rfl fun _ w hn k => ⟨_, v_bin rfl (k.eq1 0 8 rfl) (k.eq1 6 14 rfl) (fun _ => rfl) (r_lssK rfl), rfl⟩) ?_
    exact .nil
  intro a61 w62 hn63 ha64
  have hs65 := ha64.size.trans hs50
  have hd66 := ha64.defers.trans hd51
  have h67 := ha64.fx 5 h53
  have h68 := ha64.fx 6 h54
  have h69 := ha64.fx 7 h55
  have h70 := ha64.fx 0 h56
  have h71 := ha64.fx 1 h57
  have h72 := ha64.ge 7 15 rfl
  have hr73 := hr58.new_ hn63
  have hN74 := hN52.transNew hn63
  clear hs50 hd51 h53 h54 h55 h56 h57 hr58 hN52 ha64 hn63
  refine st_nil ?_
  refine hK60 _ _ ?_
  clear hK60 K60
  rcases Bool.eq_false_or_eq_true (decide ((i : Int) < ((max (a.length : Int) (b.length : Int)) + 1))) with ht75 | ht75
  · skip
    have ht75d := of_decide_eq_true ht75
    have hv76 : a61.eval (.tmp 15) = .bool true := h72.trans (congrArg Value.bool ht75)
    clear h72
    refine wp_cond_true hv76 ?_
    refine wp_skip ?_
    refine hK59 _ _ ?_
    clear hK59 K59
    refine wp_seq_k fun K77 hK77 => ?_
    refine wp_block ?_
    refine wp_seq_k fun K78 hK78 => ?_
    have hai := ha.at i
    have hbi := hb.at i
    have hst := plus_step (i := i) ha hb hd hln hc hv
    refine wp_g0 [true, true, true, true, true, true, true, true, true, false] [(9, true)] 37
      [ve (.int .u64 (cc : Int)),
       ve (sv A a c),
       ve (iv (i : Int)),
       ve (.int .u64 ((a.getD i 0 : Nat) : Int)),
       ve (.int .u64 ((cc + (a.getD i 0) : Nat) : Int)),
       ve (sv B b d),
       ve (iv (i : Int)),
       ve (.int .u64 ((b.getD i 0 : Nat) : Int)),
       ve (.int .u64 (((cc + (a.getD i 0)) + (b.getD i 0) : Nat) : Int)),
       vt] hs65 (.eq (.eq (.eq (.eq (.eq (.eq (.eq (.eq (.eq (.tt (.nil))))))))))) ?_ ?_
    · skip
      refine .o1 (tk rfl rfl fun _ w hn k => ⟨_, v_move rfl (k.fx 6 h68), rfl⟩) ?_
      refine .o1 (tk rfl rfl fun _ w hn k => ⟨_, v_move rfl (k.fx 0 h70), rfl⟩) ?_
      refine .o1 (tk rfl rfl fun _ w hn k => ⟨_, v_move rfl (k.fx 7 h69), rfl⟩) ?_
      refine .o1 (ck rfl rfl rfl (fun _ w hn k => ⟨#[sv A a c, iv (i : Int)], args2 (k.eq1 1 19 rfl) (k.eq1 2 20 rfl), fun _ => by kernel_rfl, rword_c _ _ _ _ _ (hra.new_ (hN74.transNew hn)) ha (by omega)⟩) fun _ => rfl) ?_
      refine .o1 (tk rfl rfl fun _ w hn k => ⟨_, v_bin rfl (k.eq1 0 18 rfl) (k.eq1 3 21 rfl) (fun _ => rfl) (n_add (by omega) (IntWalk.u64_in _ (by omega))), rfl⟩) ?_
      refine .o1 (tk rfl rfl fun _ w hn k => ⟨_, v_move rfl (k.fx 1 h71), rfl⟩) ?_
      refine .o1 (tk rfl rfl fun _ w hn k => ⟨_, v_move rfl (k.fx 7 h69), rfl⟩) ?_
      refine .o1 (ck rfl rfl rfl (fun _ w hn k => ⟨#[sv B b d, iv (i : Int)], args2 (k.eq1 5 23 rfl) (k.eq1 6 24 rfl), fun _ => by kernel_rfl, rword_c _ _ _ _ _ (hrb.new_ (hN74.transNew hn)) hb (by omega)⟩) fun _ => rfl) ?_
      refine .o1 (tk rfl rfl fun _ w hn k => ⟨_, v_bin rfl (k.eq1 4 22 rfl) (k.eq1 7 25 rfl) (fun _ => rfl) (n_add (by omega) (IntWalk.u64_in _ (by omega))), rfl⟩) ?_
      refine .off ?_
      exact .nil
    intro a79 w80 hn81 ha82
    have hs83 := ha82.size.trans hs65
    have hd84 := ha82.defers.trans hd66
    have h85 := ha82.fx 5 h67
    have h86 := ha82.fx 6 h68
    have h87 := ha82.fx 7 h69
    have h88 := ha82.fx 0 h70
    have h89 := ha82.fx 1 h71
    have h90 := ha82.ge 8 26 rfl
    have hr91 := hr73.new_ hn81
    have hN92 := hN74.transNew hn81
    clear hs65 hd66 h67 h68 h69 h70 h71 hv76 hr73 hN74 ha82 hn81
    refine st_take rfl rfl (y_assign (v := .int .u64 (((cc + (a.getD i 0)) + (b.getD i 0) : Nat) : Int)) rfl h90) rfl ?_
    obtain ⟨a93, ha94⟩ : ∃ a', a' = a79.put (some 6) (.int .u64 (((cc + (a.getD i 0)) + (b.getD i 0) : Nat) : Int)) := ⟨_, rfl⟩
    have hs95 : a93.tmps.size = 37 := by rw [ha94, put_size]; exact hs83
    have hd96 : a93.defers = [] := by rw [ha94, put_defers]; exact hd84
    have h97 : a93.eval (.tmp 5) = sv A1 ds c1 := by rw [ha94, put_ne _ _ _ _ (by decide)]; exact h85
    have h98 : a93.eval (.tmp 7) = iv (i : Int) := by rw [ha94, put_ne _ _ _ _ (by decide)]; exact h87
    have h99 : a93.eval (.tmp 0) = sv A a c := by rw [ha94, put_ne _ _ _ _ (by decide)]; exact h88
    have h100 : a93.eval (.tmp 1) = sv B b d := by rw [ha94, put_ne _ _ _ _ (by decide)]; exact h89
    have h101 : a93.eval (.tmp 26) = .int .u64 (((cc + (a.getD i 0)) + (b.getD i 0) : Nat) : Int) := by rw [ha94, put_ne _ _ _ _ (by decide)]; exact h90
    have h102 : a93.eval (.tmp 6) = .int .u64 (((cc + (a.getD i 0)) + (b.getD i 0) : Nat) : Int) := by rw [ha94]; exact put_same _ _ _ (by rw [hs83]; decide)
    show stepsTo _ _ _ _ _ (a79.put (some 6) (.int .u64 (((cc + (a.getD i 0)) + (b.getD i 0) : Nat) : Int))) _
    rw [← ha94]
    clear ha94 hs83 hd84 h85 h86 h87 h88 h89 h90
    refine st_nil ?_
    clear h101
    refine hK78 _ _ ?_
    clear hK78 K78
    refine wp_seq_k fun K103 hK103 => ?_
    refine wp_g0 [true, true, true, true, true, false, false] [(5, false), (6, true)] 37
      [ve (sv A1 ds c1),
       ve (.int .u64 (((cc + (a.getD i 0)) + (b.getD i 0) : Nat) : Int)),
       ve (.int .u64 ((((cc + (a.getD i 0)) + (b.getD i 0)) % 4294967296 : Nat) : Int)),
       ve (.int .u32 ((((cc + (a.getD i 0)) + (b.getD i 0)) % 4294967296 : Nat) : Int)),
       (fun (v : Value) (W : World) => ∃ (A3 : Option Addr) (c4 : Nat), v = sv A3 ([(((cc + (a.getD i 0)) + (b.getD i 0)) % 4294967296)]) c4 ∧ SOwn W w80.heap.size 50 .u32 A3 ([(((cc + (a.getD i 0)) + (b.getD i 0)) % 4294967296)]) c4),
       vt,
       vt] hs95 (.eq (.eq (.eq (.eq (.cons (fun v W W' hn ⟨A3, c4, he, h0⟩ => ⟨A3, c4, he, h0.new_ hn⟩) (.tt (.tt (.nil)))))))) ?_ ?_
    · skip
      refine .o1 (tk rfl rfl fun _ w hn k => ⟨_, v_move rfl (k.fx 5 h97), rfl⟩) ?_
      refine .o1 (tk rfl rfl fun _ w hn k => ⟨_, v_move rfl (k.fx 6 h102), rfl⟩) ?_
      refine .o1 (tk rfl rfl fun _ w hn k => ⟨_, v_bin rfl (k.eq1 1 28 rfl) rfl (fun _ => rfl) (n_andMask64 ((cc + (a.getD i 0)) + (b.getD i 0)) (by omega)), rfl⟩) ?_
      refine .o1 (tk rfl rfl fun _ w hn k => ⟨_, v_conv rfl (k.eq1 2 29 rfl) (n_conv (by kernel_rfl) (by kernel_rfl) (by kernel_rfl) (IntWalk.u32_in _ (by omega))), rfl⟩) ?_
      refine .o1 (tkA rfl (noG rfl) fun _ w hn k => (by
            exact x_bslice (k := .u32) (ps := [(0, .int .u32 ((((cc + (a.getD i 0)) + (b.getD i 0)) % 4294967296 : Nat) : Int))]) [(((cc + (a.getD i 0)) + (b.getD i 0)) % 4294967296)] rfl (parts1 (k.eq1 3 30 rfl)) elW rfl (by omega) (by omega) (by first | kernel_rfl | (simp only [enc, List.map_cons, List.map_nil, Int.toNat_natCast, Int.toNat_of_nonneg (by omega : (0 : Int) ≤ _)]; kernel_rfl)) fun A1 c2 W' hmo => ⟨A1, c2, rfl, (hmo.more hn.size)⟩)) ?_
      refine .off ?_
      refine .off ?_
      exact .nil
    intro a104 w105 hn106 ha107
    have hs108 := ha107.size.trans hs95
    have hd109 := ha107.defers.trans hd96
    have h110 := ha107.fx 5 h97
    have h111 := ha107.fx 7 h98
    have h112 := ha107.fx 0 h99
    have h113 := ha107.fx 1 h100
    have h114 := ha107.fx 6 h102
    have h115 := ha107.ge 0 27 rfl
    obtain ⟨A117, cc118, h116, hr119⟩ : (fun (v : Value) (W : World) => ∃ (A3 : Option Addr) (c4 : Nat), v = sv A3 ([(((cc + (a.getD i 0)) + (b.getD i 0)) % 4294967296)]) c4 ∧ SOwn W w80.heap.size 50 .u32 A3 ([(((cc + (a.getD i 0)) + (b.getD i 0)) % 4294967296)]) c4) _ _ := ha107.got 4 31 rfl (by kernel_rfl)
    have h116 : a104.eval (.tmp 31) = sv A117 ([(((cc + (a.getD i 0)) + (b.getD i 0)) % 4294967296)]) cc118 := h116
    have hr120 := hr91.new_ hn106
    have hr121 := hr119.more hN92.size
    have hN122 := hN92.transNew hn106
    clear hs95 hd96 h97 h98 h99 h100 h102 hr91 hr119 hN92 ha107 hn106
    have hw131 := hN122.size
    refine st_act rfl rfl fun K129 hL130 => a_append (k := .u32) (b := w.heap.size) rfl elW h115 hr120 h116 hr121.row (by first | omega | (simp only [List.length_nil, List.length_cons, List.length_append, List.length_take, List.length_drop, List.length_replicate, List.length_set]; omega)) (by first | omega | (simp only [List.length_nil, List.length_cons, List.length_append, List.length_take, List.length_drop, List.length_replicate, List.length_set]; omega)) hw131 fun A123 cc124 w125 hr126 hg127 => hL130 _ _ trivial ?_
    have hN128 := hN122.ownGrown hr120 hg127
    clear hg127 K129 hL130 hw131 hN122 hr120 hr121 h110 h115 h116
    obtain ⟨a132, ha133⟩ : ∃ a', a' = a104.put (some 32) (sv A123 (ds ++ [(((cc + (a.getD i 0)) + (b.getD i 0)) % 4294967296)]) cc124) := ⟨_, rfl⟩
    have hs134 : a132.tmps.size = 37 := by rw [ha133, put_size]; exact hs108
    have hd135 : a132.defers = [] := by rw [ha133, put_defers]; exact hd109
    have h136 : a132.eval (.tmp 7) = iv (i : Int) := by rw [ha133, put_ne _ _ _ _ (by decide)]; exact h111
    have h137 : a132.eval (.tmp 0) = sv A a c := by rw [ha133, put_ne _ _ _ _ (by decide)]; exact h112
    have h138 : a132.eval (.tmp 1) = sv B b d := by rw [ha133, put_ne _ _ _ _ (by decide)]; exact h113
    have h139 : a132.eval (.tmp 6) = .int .u64 (((cc + (a.getD i 0)) + (b.getD i 0) : Nat) : Int) := by rw [ha133, put_ne _ _ _ _ (by decide)]; exact h114
    have h140 : a132.eval (.tmp 32) = sv A123 (ds ++ [(((cc + (a.getD i 0)) + (b.getD i 0)) % 4294967296)]) cc124 := by rw [ha133]; exact put_same _ _ _ (by rw [hs108]; decide)
    show stepsTo _ _ _ _ _ (a104.put (some 32) (sv A123 (ds ++ [(((cc + (a.getD i 0)) + (b.getD i 0)) % 4294967296)]) cc124)) _
    rw [← ha133]
    clear ha133 hs108 hd109 h111 h112 h113 h114
    refine st_take rfl rfl (y_assign (v := sv A123 (ds ++ [(((cc + (a.getD i 0)) + (b.getD i 0)) % 4294967296)]) cc124) rfl h140) rfl ?_
    obtain ⟨a141, ha142⟩ : ∃ a', a' = a132.put (some 5) (sv A123 (ds ++ [(((cc + (a.getD i 0)) + (b.getD i 0)) % 4294967296)]) cc124) := ⟨_, rfl⟩
    have hs143 : a141.tmps.size = 37 := by rw [ha142, put_size]; exact hs134
    have hd144 : a141.defers = [] := by rw [ha142, put_defers]; exact hd135
    have h145 : a141.eval (.tmp 7) = iv (i : Int) := by rw [ha142, put_ne _ _ _ _ (by decide)]; exact h136
    have h146 : a141.eval (.tmp 0) = sv A a c := by rw [ha142, put_ne _ _ _ _ (by decide)]; exact h137
    have h147 : a141.eval (.tmp 1) = sv B b d := by rw [ha142, put_ne _ _ _ _ (by decide)]; exact h138
    have h148 : a141.eval (.tmp 6) = .int .u64 (((cc + (a.getD i 0)) + (b.getD i 0) : Nat) : Int) := by rw [ha142, put_ne _ _ _ _ (by decide)]; exact h139
    have h149 : a141.eval (.tmp 32) = sv A123 (ds ++ [(((cc + (a.getD i 0)) + (b.getD i 0)) % 4294967296)]) cc124 := by rw [ha142, put_ne _ _ _ _ (by decide)]; exact h140
    have h150 : a141.eval (.tmp 5) = sv A123 (ds ++ [(((cc + (a.getD i 0)) + (b.getD i 0)) % 4294967296)]) cc124 := by rw [ha142]; exact put_same _ _ _ (by rw [hs134]; decide)
    show stepsTo _ _ _ _ _ (a132.put (some 5) (sv A123 (ds ++ [(((cc + (a.getD i 0)) + (b.getD i 0)) % 4294967296)]) cc124)) _
    rw [← ha142]
    clear ha142 hs134 hd135 h136 h137 h138 h139 h140
    refine st_nil ?_
    clear h149
    refine hK103 _ _ ?_
    clear hK103 K103
    refine wp_g0 [true, true, false] [(2, true)] 37
      [ve (.int .u64 (((cc + (a.getD i 0)) + (b.getD i 0) : Nat) : Int)),
       ve (.int .u64 ((((cc + (a.getD i 0)) + (b.getD i 0)) / 4294967296 : Nat) : Int)),
       vt] hs143 (.eq (.eq (.tt (.nil)))) ?_ ?_
    · skip
      refine .o1 (tk rfl rfl fun _ w hn k => ⟨_, v_move rfl (k.fx 6 h148), rfl⟩) ?_
      refine .o1 (tk rfl rfl fun _ w hn k => ⟨_, v_bin rfl (k.eq1 0 33 rfl) rfl (fun _ => rfl) (n_shr ((cc + (a.getD i 0)) + (b.getD i 0)) 32 (by decide)), rfl⟩) ?_
      refine .off ?_
      exact .nil
    intro a151 w152 hn153 ha154
    have hs155 := ha154.size.trans hs143
    have hd156 := ha154.defers.trans hd144
    have h157 := ha154.fx 7 h145
    have h158 := ha154.fx 0 h146
    have h159 := ha154.fx 1 h147
    have h160 := ha154.fx 6 h148
    have h161 := ha154.fx 5 h150
    have h162 := ha154.ge 1 34 rfl
    have hr163 := hr126.new_ hn153
    have hN164 := hN128.transNew hn153
    clear hs143 hd144 h145 h146 h147 h148 h150 hr126 hN128 ha154 hn153
    refine st_take rfl rfl (y_assign (v := .int .u64 ((((cc + (a.getD i 0)) + (b.getD i 0)) / 4294967296 : Nat) : Int)) rfl h162) rfl ?_
    obtain ⟨a165, ha166⟩ : ∃ a', a' = a151.put (some 6) (.int .u64 ((((cc + (a.getD i 0)) + (b.getD i 0)) / 4294967296 : Nat) : Int)) := ⟨_, rfl⟩
    have hs167 : a165.tmps.size = 37 := by rw [ha166, put_size]; exact hs155
    have hd168 : a165.defers = [] := by rw [ha166, put_defers]; exact hd156
    have h169 : a165.eval (.tmp 7) = iv (i : Int) := by rw [ha166, put_ne _ _ _ _ (by decide)]; exact h157
    have h170 : a165.eval (.tmp 0) = sv A a c := by rw [ha166, put_ne _ _ _ _ (by decide)]; exact h158
    have h171 : a165.eval (.tmp 1) = sv B b d := by rw [ha166, put_ne _ _ _ _ (by decide)]; exact h159
    have h172 : a165.eval (.tmp 5) = sv A123 (ds ++ [(((cc + (a.getD i 0)) + (b.getD i 0)) % 4294967296)]) cc124 := by rw [ha166, put_ne _ _ _ _ (by decide)]; exact h161
    have h173 : a165.eval (.tmp 34) = .int .u64 ((((cc + (a.getD i 0)) + (b.getD i 0)) / 4294967296 : Nat) : Int) := by rw [ha166, put_ne _ _ _ _ (by decide)]; exact h162
    have h174 : a165.eval (.tmp 6) = .int .u64 ((((cc + (a.getD i 0)) + (b.getD i 0)) / 4294967296 : Nat) : Int) := by rw [ha166]; exact put_same _ _ _ (by rw [hs155]; decide)
    show stepsTo _ _ _ _ _ (a151.put (some 6) (.int .u64 ((((cc + (a.getD i 0)) + (b.getD i 0)) / 4294967296 : Nat) : Int))) _
    rw [← ha166]
    clear ha166 hs155 hd156 h157 h158 h159 h160 h161 h162
    refine st_nil ?_
    clear h173
    refine hK77 _ _ ?_
    clear hK77 K77
    refine wp_g0 [true, true, false] [(2, true)] 37
      [ve (iv (i : Int)),
       ve (iv ((i + 1 : Nat) : Int)),
       vt] hs167 (.eq (.eq (.tt (.nil)))) ?_ ?_
    · skip
      refine .o1 (tk rfl rfl fun _ w hn k => ⟨_, v_move rfl (k.fx 7 h169), rfl⟩) ?_
      refine .o1 (tk rfl rfl fun _ w hn k => ⟨_, v_bin rfl (k.eq1 0 16 rfl) rfl (fun _ => rfl) (n_add (by omega) (IntWalk.i64_in _ (by omega))), rfl⟩) ?_
      refine .off ?_
      exact .nil
    intro a175 w176 hn177 ha178
    have hs179 := ha178.size.trans hs167
    have hd180 := ha178.defers.trans hd168
    have h181 := ha178.fx 7 h169
    have h182 := ha178.fx 0 h170
    have h183 := ha178.fx 1 h171
    have h184 := ha178.fx 5 h172
    have h185 := ha178.fx 6 h174
    have h186 := ha178.ge 1 17 rfl
    have hr187 := hr163.new_ hn177
    have hN188 := hN164.transNew hn177
    clear hs167 hd168 h169 h170 h171 h172 h174 hr163 hN164 ha178 hn177
    refine st_take rfl rfl (y_assign (v := iv ((i + 1 : Nat) : Int)) rfl h186) rfl ?_
    obtain ⟨a189, ha190⟩ : ∃ a', a' = a175.put (some 7) (iv ((i + 1 : Nat) : Int)) := ⟨_, rfl⟩
    have hs191 : a189.tmps.size = 37 := by rw [ha190, put_size]; exact hs179
    have hd192 : a189.defers = [] := by rw [ha190, put_defers]; exact hd180
    have h193 : a189.eval (.tmp 0) = sv A a c := by rw [ha190, put_ne _ _ _ _ (by decide)]; exact h182
    have h194 : a189.eval (.tmp 1) = sv B b d := by rw [ha190, put_ne _ _ _ _ (by decide)]; exact h183
    have h195 : a189.eval (.tmp 5) = sv A123 (ds ++ [(((cc + (a.getD i 0)) + (b.getD i 0)) % 4294967296)]) cc124 := by rw [ha190, put_ne _ _ _ _ (by decide)]; exact h184
    have h196 : a189.eval (.tmp 6) = .int .u64 ((((cc + (a.getD i 0)) + (b.getD i 0)) / 4294967296 : Nat) : Int) := by rw [ha190, put_ne _ _ _ _ (by decide)]; exact h185
    have h197 : a189.eval (.tmp 17) = iv ((i + 1 : Nat) : Int) := by rw [ha190, put_ne _ _ _ _ (by decide)]; exact h186
    have h198 : a189.eval (.tmp 7) = iv ((i + 1 : Nat) : Int) := by rw [ha190]; exact put_same _ _ _ (by rw [hs179]; decide)
    show stepsTo _ _ _ _ _ (a175.put (some 7) (iv ((i + 1 : Nat) : Int))) _
    rw [← ha190]
    clear ha190 hs179 hd180 h181 h182 h183 h184 h185 h186
    refine st_nil ?_
    clear h197
    refine then_n ?_
    exact ⟨_, ⟨i + 1, (ds ++ [(((cc + (a.getD i 0)) + (b.getD i 0)) % 4294967296)]), (cc + a.getD i 0 + b.getD i 0) / 4294967296, A123, cc124, rfl, hs191, hd192, hN188, h195, (h196.trans (congrArg (Value.int .u64) (by omega))), (h198.trans (congrArg (Value.int .i64) (by omega))), h193, h194, hr187, (by omega), hst.2.1, (by simp; omega), hst.1, hst.2.2⟩, (by omega)⟩
  have ht75d := of_decide_eq_false ht75
  have hv199 : a61.eval (.tmp 15) = .bool false := h72.trans (congrArg Value.bool ht75)
  clear h72
  refine wp_cond_false hv199 ?_
  refine wp_exit ?_
  refine hK34 _ _ ?_
  clear hK34 K34 hK59 K59
  refine wp_seq_k fun K200 hK200 => ?_
  refine wp_g0 [true, true, true] [] 37
    [ve (sv A1 ds c1),
     (fun (v : Value) (W : World) => ∃ (A7 : Option Addr) (c8 : Nat), v = sv A7 (canon (val ds)) c8 ∧ SOwn W w62.heap.size 50 .u32 A7 (canon (val ds)) c8),
     (fun (v : Value) (W : World) => ∃ (A13 : Option Addr) (c14 : Nat), v = sv A13 (canon (val ds)) c14 ∧ SOwn W w62.heap.size 50 .u32 A13 (canon (val ds)) c14)] hs65 (.eq (.cons (fun v W W' hn ⟨A7, c8, he, h0⟩ => ⟨A7, c8, he, h0.new_ hn⟩) (.cons (fun v W W' hn ⟨A13, c14, he, h0⟩ => ⟨A13, c14, he, h0.new_ hn⟩) (.nil)))) ?_ ?_
  · skip
    refine .o1 (tk rfl rfl fun _ w hn k => ⟨_, v_move rfl (k.fx 5 h67), rfl⟩) ?_
    refine .o1 (tkC rfl (noG rfl) rfl fun _ w hn k => (by
          refine ⟨#[sv A1 ds c1], _, args1 (k.eq1 0 35 rfl), fun w => by kernel_rfl, rtrim_c _ _ _ _ (hr73.new_ hn).row hd (by omega), ?_⟩
          rintro e w' ⟨A5, c6, rfl, hmo, hm⟩
          exact ⟨_, rfl, hm, ⟨A5, c6, rfl, (hmo.more hn.size)⟩⟩)) ?_
    refine .o1 (tk rfl rfl fun _ w hn k => (by
          obtain ⟨A9, c10, e11, hx12⟩ : (fun (v : Value) (W : World) => ∃ (A7 : Option Addr) (c8 : Nat), v = sv A7 (canon (val ds)) c8 ∧ SOwn W w62.heap.size 50 .u32 A7 (canon (val ds)) c8) _ _ := k.dep 1 36 (by kernel_rfl) (by kernel_rfl)
          exact ⟨_, v_assign rfl e11, ⟨A9, c10, rfl, hx12⟩⟩)) ?_
    exact .nil
  intro a201 w202 hn203 ha204
  have hs205 := ha204.size.trans hs65
  have hd206 := ha204.defers.trans hd66
  obtain ⟨A208, cc209, h207, hr210⟩ : (fun (v : Value) (W : World) => ∃ (A13 : Option Addr) (c14 : Nat), v = sv A13 (canon (val ds)) c14 ∧ SOwn W w62.heap.size 50 .u32 A13 (canon (val ds)) c14) _ _ := ha204.got 2 4 rfl (by kernel_rfl)
  have h207 : a201.eval (.tmp 4) = sv A208 (canon (val ds)) cc209 := h207
  have hr211 := hr210.more hN74.size
  have hN212 := hN74.transNew hn203
  clear hs65 hd66 h67 h68 h69 h70 h71 hv199 hr73 hr210 hN74 ha204 hn203
  refine st_nil ?_
  refine hK200 _ _ ?_
  clear hK200 K200
  refine wp_ret (ret_k hd206 (v := sv A208 (canon (val ds)) cc209) (res_t rfl h207 _) ?_)
  have hsp : (canon (val ds)) = (canon (val a + val b)) := congrArg canon (plus_end ha hb hd hln hc (by omega) hv)
  exact ⟨A208, cc209, congrArg (fun l => Ending.returned (sv A208 l cc209)) hsp, by rw [← hsp]; exact hr211, hN212⟩
set_option maxHeartbeats 4000000 in
set_option maxRecDepth 100000 in
theorem rminus_c (A B : Option Addr) (a b : List Nat) (c d : Nat) (w : World) (hra : SRow w .u32 A a c) (hrb : SRow w .u32 B b d) (ha : Limbs a) (hb : Limbs b) (hsa : a.length ≤ 900000) (hsb : b.length ≤ 900000) (hle : val b ≤ val a) : Calls Try.prog 69 #[sv A a c, sv B b d] w (RetS 50 .u32 (canon (val a - val b)) w) := by
  refine enter_abs Try.func69 rfl fun a0 hs0 hd0 hp => ?_
  have hs0 : a0.tmps.size = 36 := hs0
  have hN0 : New w w := Upd.refl _ _
  have hp0 : a0.eval (.tmp 0) = sv A a c := hp 0 _ rfl
  have hp1 : a0.eval (.tmp 1) = sv B b d := hp 1 _ rfl
  clear hp
  refine wp_seq_k fun K1 hK1 => ?_
  refine wp_g0 [true] [] 36
    [ve (sv none ([]) 0)] hs0 (.eq (.nil)) ?_ ?_
  · skip
    refine .o1 (tk rfl rfl fun _ w hn k => ⟨_, v_assign rfl rfl, rfl⟩) ?_
    exact .nil
  intro a2 w3 hn4 ha5
  have hs6 := ha5.size.trans hs0
  have hd7 := ha5.defers.trans hd0
  have h8 := ha5.fx 0 hp0
  have h9 := ha5.fx 1 hp1
  have hN10 := hN0.transNew hn4
  clear hs0 hd0 hp0 hp1 hN0 ha5 hn4
  refine st_nil ?_
  refine hK1 _ _ ?_
  clear hK1 K1
  refine wp_seq_k fun K11 hK11 => ?_
  refine wp_g0 [true] [] 36
    [ve (sv none ([]) 0)] hs6 (.eq (.nil)) ?_ ?_
  · skip
    refine .o1 (tk rfl rfl fun _ w hn k => ⟨_, v_assign rfl rfl, rfl⟩) ?_
    exact .nil
  intro a12 w13 hn14 ha15
  have hs16 := ha15.size.trans hs6
  have hd17 := ha15.defers.trans hd7
  have h18 := ha15.fx 0 h8
  have h19 := ha15.fx 1 h9
  have h20 := ha15.ge 0 5 rfl
  have hN21 := hN10.transNew hn14
  clear hs6 hd7 h8 h9 hN10 ha15 hn14
  refine st_nil ?_
  refine hK11 _ _ ?_
  clear hK11 K11
  refine wp_seq_k fun K22 hK22 => ?_
  refine wp_g0 [true] [] 36
    [ve (.int .u64 0)] hs16 (.eq (.nil)) ?_ ?_
  · skip
    refine .o1 (tk rfl rfl fun _ w hn k => ⟨_, v_assign rfl rfl, rfl⟩) ?_
    exact .nil
  intro a23 w24 hn25 ha26
  have hs27 := ha26.size.trans hs16
  have hd28 := ha26.defers.trans hd17
  have h29 := ha26.fx 0 h18
  have h30 := ha26.fx 1 h19
  have h31 := ha26.fx 5 h20
  have h32 := ha26.ge 0 6 rfl
  have hN33 := hN21.transNew hn25
  clear hs16 hd17 h18 h19 h20 hN21 ha26 hn25
  refine st_nil ?_
  refine hK22 _ _ ?_
  clear hK22 K22
  refine wp_seq_k fun K34 hK34 => ?_
  refine wp_seq_k fun K35 hK35 => ?_
  refine wp_g0 [true] [] 36
    [ve (iv 0)] hs27 (.eq (.nil)) ?_ ?_
  · skip
    refine .o1 (tk rfl rfl fun _ w hn k => ⟨_, v_assign rfl rfl, rfl⟩) ?_
    exact .nil
  intro a36 w37 hn38 ha39
  have hs40 := ha39.size.trans hs27
  have hd41 := ha39.defers.trans hd28
  have h42 := ha39.fx 0 h29
  have h43 := ha39.fx 1 h30
  have h44 := ha39.fx 5 h31
  have h45 := ha39.fx 6 h32
  have h46 := ha39.ge 0 7 rfl
  have hN47 := hN33.transNew hn38
  clear hs27 hd28 h29 h30 h31 h32 hN33 ha39 hn38
  refine st_nil ?_
  refine hK35 _ _ ?_
  clear hK35 K35
  refine wp_block ?_
  refine wp_loopX (fun (mm : Nat) (aa : Act) (ww : World) => ∃ (i : Nat) (ds : List Nat) (cc : Nat) (A1 : Option Addr) (c1 : Nat), mm = a.length - i ∧ aa.tmps.size = 36 ∧ aa.defers = [] ∧ New w ww ∧ aa.eval (.tmp 5) = sv A1 ds c1 ∧ aa.eval (.tmp 6) = .int .u64 (cc : Int) ∧ aa.eval (.tmp 7) = iv (i : Int) ∧ aa.eval (.tmp 0) = sv A a c ∧ aa.eval (.tmp 1) = sv B b d ∧ SOwn ww w.heap.size 50 .u32 A1 ds c1 ∧ (i ≤ a.length) ∧ (cc ≤ 1) ∧ (ds.length = i) ∧ (Limbs ds) ∧ (val ds + val (b.take i) = val (a.take i) + 4294967296 ^ i * cc)) (fun mm => mm) ⟨_, ⟨0, [], 0, none, 0, rfl, hs40, hd41, hN47, h44, h45, h46, h42, h43, SOwn.nil _ _ _ _, (by omega), (by omega), rfl, Limbs.nil, (by simp [val])⟩⟩ ?_
  clear hs40 hd41 hN47 h42 h43 h44 h45 h46
  rintro mm a48 w49 ⟨i, ds, cc, A1, c1, hmm, hs50, hd51, hN52, h53, h54, h55, h56, h57, hr58, hi, hc, hln, hd, hv⟩
  refine wp_seq_k fun K59 hK59 => ?_
  refine wp_seq_k fun K60 hK60 => ?_
  refine wp_g0 [true, true, true, true] [] 36
    [ve (iv (i : Int)),
     ve (sv A a c),
     ve (iv (a.length : Int)),
     ve (.bool (decide ((i : Int) < (a.length : Int))))] hs50 (.eq (.eq (.eq (.eq (.nil))))) ?_ ?_
  · skip
    refine .o1 (tk rfl rfl fun _ w hn k => ⟨_, v_move rfl (k.fx 7 h55), rfl⟩) ?_
    refine .o1 (tk rfl rfl fun _ w hn k => ⟨_, v_move rfl (k.fx 0 h56), rfl⟩) ?_
    refine .o1 (tk rfl rfl fun _ w hn k => ⟨_, v_lenR rfl elW (k.eq1 1 10 rfl), rfl⟩) ?_
    refine .o1 (tk rfl rfl fun _ w hn k => ⟨_, v_bin rfl (k.eq1 0 9 rfl) (k.eq1 2 11 rfl) (fun _ => rfl) (r_lssK rfl), rfl⟩) ?_
    exact .nil
  intro a61 w62 hn63 ha64
  have hs65 := ha64.size.trans hs50
  have hd66 := ha64.defers.trans hd51
  have h67 := ha64.fx 5 h53
  have h68 := ha64.fx 6 h54
  have h69 := ha64.fx 7 h55
  have h70 := ha64.fx 0 h56
  have h71 := ha64.fx 1 h57
  have h72 := ha64.ge 3 12 rfl
  have hr73 := hr58.new_ hn63
  have hN74 := hN52.transNew hn63
  clear hs50 hd51 h53 h54 h55 h56 h57 hr58 hN52 ha64 hn63
  refine st_nil ?_
  refine hK60 _ _ ?_
  clear hK60 K60
  rcases Bool.eq_false_or_eq_true (decide ((i : Int) < (a.length : Int))) with ht75 | ht75
  · skip
    have ht75d := of_decide_eq_true ht75
    have hv76 : a61.eval (.tmp 12) = .bool true := h72.trans (congrArg Value.bool ht75)
    clear h72
    refine wp_cond_true hv76 ?_
    refine wp_skip ?_
    refine hK59 _ _ ?_
    clear hK59 K59
    refine wp_seq_k fun K77 hK77 => ?_
    refine wp_block ?_
    refine wp_seq_k fun K78 hK78 => ?_
    have hai := ha.at i
    have hbi := hb.at i
    have hst := minus_step (i := i) ha hb hd hln hc hv
    refine wp_g0 [true, true, true, true, true, true, true, true, true, true, true] [] 36
      [ve (sv A a c),
       ve (iv (i : Int)),
       ve (.int .u64 ((a.getD i 0 : Nat) : Int)),
       ve (.int .u64 (((a.getD i 0) + 4294967296 : Nat) : Int)),
       ve (sv B b d),
       ve (iv (i : Int)),
       ve (.int .u64 ((b.getD i 0 : Nat) : Int)),
       ve (.int .u64 ((((a.getD i 0) + 4294967296) - (b.getD i 0) : Nat) : Int)),
       ve (.int .u64 (cc : Int)),
       ve (.int .u64 (((((a.getD i 0) + 4294967296) - (b.getD i 0)) - cc : Nat) : Int)),
       ve (.int .u64 (((((a.getD i 0) + 4294967296) - (b.getD i 0)) - cc : Nat) : Int))] hs65 (.eq (.eq (.eq (.eq (.eq (.eq (.eq (.eq (.eq (.eq (.eq (.nil)))))))))))) ?_ ?_
    · skip
      refine .o1 (tk rfl rfl fun _ w hn k => ⟨_, v_move rfl (k.fx 0 h70), rfl⟩) ?_
      refine .o1 (tk rfl rfl fun _ w hn k => ⟨_, v_move rfl (k.fx 7 h69), rfl⟩) ?_
      refine .o1 (ck rfl rfl rfl (fun _ w hn k => ⟨#[sv A a c, iv (i : Int)], args2 (k.eq1 0 15 rfl) (k.eq1 1 16 rfl), fun _ => by kernel_rfl, rword_c _ _ _ _ _ (hra.new_ (hN74.transNew hn)) ha (by omega)⟩) fun _ => rfl) ?_
      refine .o1 (tk rfl rfl fun _ w hn k => ⟨_, v_bin rfl (k.eq1 2 17 rfl) rfl (fun _ => rfl) (n_add (by omega) (IntWalk.u64_in _ (by omega))), rfl⟩) ?_
      refine .o1 (tk rfl rfl fun _ w hn k => ⟨_, v_move rfl (k.fx 1 h71), rfl⟩) ?_
      refine .o1 (tk rfl rfl fun _ w hn k => ⟨_, v_move rfl (k.fx 7 h69), rfl⟩) ?_
      refine .o1 (ck rfl rfl rfl (fun _ w hn k => ⟨#[sv B b d, iv (i : Int)], args2 (k.eq1 4 19 rfl) (k.eq1 5 20 rfl), fun _ => by kernel_rfl, rword_c _ _ _ _ _ (hrb.new_ (hN74.transNew hn)) hb (by omega)⟩) fun _ => rfl) ?_
      refine .o1 (tk rfl rfl fun _ w hn k => ⟨_, v_bin rfl (k.eq1 3 18 rfl) (k.eq1 6 21 rfl) (fun _ => rfl) (n_sub (by omega) (IntWalk.u64_in _ (by omega))), rfl⟩) ?_
      refine .o1 (tk rfl rfl fun _ w hn k => ⟨_, v_move rfl (k.fx 6 h68), rfl⟩) ?_
      refine .o1 (tk rfl rfl fun _ w hn k => ⟨_, v_bin rfl (k.eq1 7 22 rfl) (k.eq1 8 23 rfl) (fun _ => rfl) (n_sub (by omega) (IntWalk.u64_in _ (by omega))), rfl⟩) ?_
      refine .o1 (tk rfl rfl fun _ w hn k => ⟨_, v_assign rfl (k.eq1 9 24 rfl), rfl⟩) ?_
      exact .nil
    intro a79 w80 hn81 ha82
    have hs83 := ha82.size.trans hs65
    have hd84 := ha82.defers.trans hd66
    have h85 := ha82.fx 5 h67
    have h86 := ha82.fx 7 h69
    have h87 := ha82.fx 0 h70
    have h88 := ha82.fx 1 h71
    have h89 := ha82.ge 10 8 rfl
    have hr90 := hr73.new_ hn81
    have hN91 := hN74.transNew hn81
    clear hs65 hd66 h67 h68 h69 h70 h71 hv76 hr73 hN74 ha82 hn81
    refine st_nil ?_
    refine hK78 _ _ ?_
    clear hK78 K78
    refine wp_seq_k fun K92 hK92 => ?_
    refine wp_g0 [true, true, true, true, true, false, false] [(5, false), (6, true)] 36
      [ve (sv A1 ds c1),
       ve (.int .u64 (((((a.getD i 0) + 4294967296) - (b.getD i 0)) - cc : Nat) : Int)),
       ve (.int .u64 ((((((a.getD i 0) + 4294967296) - (b.getD i 0)) - cc) % 4294967296 : Nat) : Int)),
       ve (.int .u32 ((((((a.getD i 0) + 4294967296) - (b.getD i 0)) - cc) % 4294967296 : Nat) : Int)),
       (fun (v : Value) (W : World) => ∃ (A3 : Option Addr) (c4 : Nat), v = sv A3 ([(((((a.getD i 0) + 4294967296) - (b.getD i 0)) - cc) % 4294967296)]) c4 ∧ SOwn W w80.heap.size 50 .u32 A3 ([(((((a.getD i 0) + 4294967296) - (b.getD i 0)) - cc) % 4294967296)]) c4),
       vt,
       vt] hs83 (.eq (.eq (.eq (.eq (.cons (fun v W W' hn ⟨A3, c4, he, h0⟩ => ⟨A3, c4, he, h0.new_ hn⟩) (.tt (.tt (.nil)))))))) ?_ ?_
    · skip
      refine .o1 (tk rfl rfl fun _ w hn k => ⟨_, v_move rfl (k.fx 5 h85), rfl⟩) ?_
      refine .o1 (tk rfl rfl fun _ w hn k => ⟨_, v_move rfl (k.fx 8 h89), rfl⟩) ?_
      refine .o1 (tk rfl rfl fun _ w hn k => ⟨_, v_bin rfl (k.eq1 1 26 rfl) rfl (fun _ => rfl) (n_andMask64 ((((a.getD i 0) + 4294967296) - (b.getD i 0)) - cc) (by omega)), rfl⟩) ?_
      refine .o1 (tk rfl rfl fun _ w hn k => ⟨_, v_conv rfl (k.eq1 2 27 rfl) (n_conv (by kernel_rfl) (by kernel_rfl) (by kernel_rfl) (IntWalk.u32_in _ (by omega))), rfl⟩) ?_
      refine .o1 (tkA rfl (noG rfl) fun _ w hn k => (by
            exact x_bslice (k := .u32) (ps := [(0, .int .u32 ((((((a.getD i 0) + 4294967296) - (b.getD i 0)) - cc) % 4294967296 : Nat) : Int))]) [(((((a.getD i 0) + 4294967296) - (b.getD i 0)) - cc) % 4294967296)] rfl (parts1 (k.eq1 3 28 rfl)) elW rfl (by omega) (by omega) (by first | kernel_rfl | (simp only [enc, List.map_cons, List.map_nil, Int.toNat_natCast, Int.toNat_of_nonneg (by omega : (0 : Int) ≤ _)]; kernel_rfl)) fun A1 c2 W' hmo => ⟨A1, c2, rfl, (hmo.more hn.size)⟩)) ?_
      refine .off ?_
      refine .off ?_
      exact .nil
    intro a93 w94 hn95 ha96
    have hs97 := ha96.size.trans hs83
    have hd98 := ha96.defers.trans hd84
    have h99 := ha96.fx 5 h85
    have h100 := ha96.fx 7 h86
    have h101 := ha96.fx 0 h87
    have h102 := ha96.fx 1 h88
    have h103 := ha96.fx 8 h89
    have h104 := ha96.ge 0 25 rfl
    obtain ⟨A106, cc107, h105, hr108⟩ : (fun (v : Value) (W : World) => ∃ (A3 : Option Addr) (c4 : Nat), v = sv A3 ([(((((a.getD i 0) + 4294967296) - (b.getD i 0)) - cc) % 4294967296)]) c4 ∧ SOwn W w80.heap.size 50 .u32 A3 ([(((((a.getD i 0) + 4294967296) - (b.getD i 0)) - cc) % 4294967296)]) c4) _ _ := ha96.got 4 29 rfl (by kernel_rfl)
    have h105 : a93.eval (.tmp 29) = sv A106 ([(((((a.getD i 0) + 4294967296) - (b.getD i 0)) - cc) % 4294967296)]) cc107 := h105
    have hr109 := hr90.new_ hn95
    have hr110 := hr108.more hN91.size
    have hN111 := hN91.transNew hn95
    clear hs83 hd84 h85 h86 h87 h88 h89 hr90 hr108 hN91 ha96 hn95
    have hw120 := hN111.size
    refine st_act rfl rfl fun K118 hL119 => a_append (k := .u32) (b := w.heap.size) rfl elW h104 hr109 h105 hr110.row (by first | omega | (simp only [List.length_nil, List.length_cons, List.length_append, List.length_take, List.length_drop, List.length_replicate, List.length_set]; omega)) (by first | omega | (simp only [List.length_nil, List.length_cons, List.length_append, List.length_take, List.length_drop, List.length_replicate, List.length_set]; omega)) hw120 fun A112 cc113 w114 hr115 hg116 => hL119 _ _ trivial ?_
    have hN117 := hN111.ownGrown hr109 hg116
    clear hg116 K118 hL119 hw120 hN111 hr109 hr110 h99 h104 h105
    obtain ⟨a121, ha122⟩ : ∃ a', a' = a93.put (some 30) (sv A112 (ds ++ [(((((a.getD i 0) + 4294967296) - (b.getD i 0)) - cc) % 4294967296)]) cc113) := ⟨_, rfl⟩
    have hs123 : a121.tmps.size = 36 := by rw [ha122, put_size]; exact hs97
    have hd124 : a121.defers = [] := by rw [ha122, put_defers]; exact hd98
    have h125 : a121.eval (.tmp 7) = iv (i : Int) := by rw [ha122, put_ne _ _ _ _ (by decide)]; exact h100
    have h126 : a121.eval (.tmp 0) = sv A a c := by rw [ha122, put_ne _ _ _ _ (by decide)]; exact h101
    have h127 : a121.eval (.tmp 1) = sv B b d := by rw [ha122, put_ne _ _ _ _ (by decide)]; exact h102
    have h128 : a121.eval (.tmp 8) = .int .u64 (((((a.getD i 0) + 4294967296) - (b.getD i 0)) - cc : Nat) : Int) := by rw [ha122, put_ne _ _ _ _ (by decide)]; exact h103
    have h129 : a121.eval (.tmp 30) = sv A112 (ds ++ [(((((a.getD i 0) + 4294967296) - (b.getD i 0)) - cc) % 4294967296)]) cc113 := by rw [ha122]; exact put_same _ _ _ (by rw [hs97]; decide)
    show stepsTo _ _ _ _ _ (a93.put (some 30) (sv A112 (ds ++ [(((((a.getD i 0) + 4294967296) - (b.getD i 0)) - cc) % 4294967296)]) cc113)) _
    rw [← ha122]
    clear ha122 hs97 hd98 h100 h101 h102 h103
    refine st_take rfl rfl (y_assign (v := sv A112 (ds ++ [(((((a.getD i 0) + 4294967296) - (b.getD i 0)) - cc) % 4294967296)]) cc113) rfl h129) rfl ?_
    obtain ⟨a130, ha131⟩ : ∃ a', a' = a121.put (some 5) (sv A112 (ds ++ [(((((a.getD i 0) + 4294967296) - (b.getD i 0)) - cc) % 4294967296)]) cc113) := ⟨_, rfl⟩
    have hs132 : a130.tmps.size = 36 := by rw [ha131, put_size]; exact hs123
    have hd133 : a130.defers = [] := by rw [ha131, put_defers]; exact hd124
    have h134 : a130.eval (.tmp 7) = iv (i : Int) := by rw [ha131, put_ne _ _ _ _ (by decide)]; exact h125
    have h135 : a130.eval (.tmp 0) = sv A a c := by rw [ha131, put_ne _ _ _ _ (by decide)]; exact h126
    have h136 : a130.eval (.tmp 1) = sv B b d := by rw [ha131, put_ne _ _ _ _ (by decide)]; exact h127
    have h137 : a130.eval (.tmp 8) = .int .u64 (((((a.getD i 0) + 4294967296) - (b.getD i 0)) - cc : Nat) : Int) := by rw [ha131, put_ne _ _ _ _ (by decide)]; exact h128
    have h138 : a130.eval (.tmp 30) = sv A112 (ds ++ [(((((a.getD i 0) + 4294967296) - (b.getD i 0)) - cc) % 4294967296)]) cc113 := by rw [ha131, put_ne _ _ _ _ (by decide)]; exact h129
    have h139 : a130.eval (.tmp 5) = sv A112 (ds ++ [(((((a.getD i 0) + 4294967296) - (b.getD i 0)) - cc) % 4294967296)]) cc113 := by rw [ha131]; exact put_same _ _ _ (by rw [hs123]; decide)
    show stepsTo _ _ _ _ _ (a121.put (some 5) (sv A112 (ds ++ [(((((a.getD i 0) + 4294967296) - (b.getD i 0)) - cc) % 4294967296)]) cc113)) _
    rw [← ha131]
    clear ha131 hs123 hd124 h125 h126 h127 h128 h129
    refine st_nil ?_
    clear h138
    refine hK92 _ _ ?_
    clear hK92 K92
    refine wp_g0 [true, true, true, true] [] 36
      [ve (.int .u64 (((((a.getD i 0) + 4294967296) - (b.getD i 0)) - cc : Nat) : Int)),
       ve (.int .u64 ((((((a.getD i 0) + 4294967296) - (b.getD i 0)) - cc) / 4294967296 : Nat) : Int)),
       ve (.int .u64 ((1 - (((((a.getD i 0) + 4294967296) - (b.getD i 0)) - cc) / 4294967296) : Nat) : Int)),
       ve (.int .u64 ((1 - (((((a.getD i 0) + 4294967296) - (b.getD i 0)) - cc) / 4294967296) : Nat) : Int))] hs132 (.eq (.eq (.eq (.eq (.nil))))) ?_ ?_
    · skip
      refine .o1 (tk rfl rfl fun _ w hn k => ⟨_, v_move rfl (k.fx 8 h137), rfl⟩) ?_
      refine .o1 (tk rfl rfl fun _ w hn k => ⟨_, v_bin rfl (k.eq1 0 31 rfl) rfl (fun _ => rfl) (n_shr ((((a.getD i 0) + 4294967296) - (b.getD i 0)) - cc) 32 (by decide)), rfl⟩) ?_
      refine .o1 (tk rfl rfl fun _ w hn k => ⟨_, v_bin rfl rfl (k.eq1 1 32 rfl) (fun _ => rfl) (n_sub (by omega) (IntWalk.u64_in _ (by omega))), rfl⟩) ?_
      refine .o1 (tk rfl rfl fun _ w hn k => ⟨_, v_assign rfl (k.eq1 2 33 rfl), rfl⟩) ?_
      exact .nil
    intro a140 w141 hn142 ha143
    have hs144 := ha143.size.trans hs132
    have hd145 := ha143.defers.trans hd133
    have h146 := ha143.fx 7 h134
    have h147 := ha143.fx 0 h135
    have h148 := ha143.fx 1 h136
    have h149 := ha143.fx 5 h139
    have h150 := ha143.ge 3 6 rfl
    have hr151 := hr115.new_ hn142
    have hN152 := hN117.transNew hn142
    clear hs132 hd133 h134 h135 h136 h137 h139 hr115 hN117 ha143 hn142
    refine st_nil ?_
    refine hK77 _ _ ?_
    clear hK77 K77
    refine wp_g0 [true, true, false] [(2, true)] 36
      [ve (iv (i : Int)),
       ve (iv ((i + 1 : Nat) : Int)),
       vt] hs144 (.eq (.eq (.tt (.nil)))) ?_ ?_
    · skip
      refine .o1 (tk rfl rfl fun _ w hn k => ⟨_, v_move rfl (k.fx 7 h146), rfl⟩) ?_
      refine .o1 (tk rfl rfl fun _ w hn k => ⟨_, v_bin rfl (k.eq1 0 13 rfl) rfl (fun _ => rfl) (n_add (by omega) (IntWalk.i64_in _ (by omega))), rfl⟩) ?_
      refine .off ?_
      exact .nil
    intro a153 w154 hn155 ha156
    have hs157 := ha156.size.trans hs144
    have hd158 := ha156.defers.trans hd145
    have h159 := ha156.fx 7 h146
    have h160 := ha156.fx 0 h147
    have h161 := ha156.fx 1 h148
    have h162 := ha156.fx 5 h149
    have h163 := ha156.fx 6 h150
    have h164 := ha156.ge 1 14 rfl
    have hr165 := hr151.new_ hn155
    have hN166 := hN152.transNew hn155
    clear hs144 hd145 h146 h147 h148 h149 h150 hr151 hN152 ha156 hn155
    refine st_take rfl rfl (y_assign (v := iv ((i + 1 : Nat) : Int)) rfl h164) rfl ?_
    obtain ⟨a167, ha168⟩ : ∃ a', a' = a153.put (some 7) (iv ((i + 1 : Nat) : Int)) := ⟨_, rfl⟩
    have hs169 : a167.tmps.size = 36 := by rw [ha168, put_size]; exact hs157
    have hd170 : a167.defers = [] := by rw [ha168, put_defers]; exact hd158
    have h171 : a167.eval (.tmp 0) = sv A a c := by rw [ha168, put_ne _ _ _ _ (by decide)]; exact h160
    have h172 : a167.eval (.tmp 1) = sv B b d := by rw [ha168, put_ne _ _ _ _ (by decide)]; exact h161
    have h173 : a167.eval (.tmp 5) = sv A112 (ds ++ [(((((a.getD i 0) + 4294967296) - (b.getD i 0)) - cc) % 4294967296)]) cc113 := by rw [ha168, put_ne _ _ _ _ (by decide)]; exact h162
    have h174 : a167.eval (.tmp 6) = .int .u64 ((1 - (((((a.getD i 0) + 4294967296) - (b.getD i 0)) - cc) / 4294967296) : Nat) : Int) := by rw [ha168, put_ne _ _ _ _ (by decide)]; exact h163
    have h175 : a167.eval (.tmp 14) = iv ((i + 1 : Nat) : Int) := by rw [ha168, put_ne _ _ _ _ (by decide)]; exact h164
    have h176 : a167.eval (.tmp 7) = iv ((i + 1 : Nat) : Int) := by rw [ha168]; exact put_same _ _ _ (by rw [hs157]; decide)
    show stepsTo _ _ _ _ _ (a153.put (some 7) (iv ((i + 1 : Nat) : Int))) _
    rw [← ha168]
    clear ha168 hs157 hd158 h159 h160 h161 h162 h163 h164
    refine st_nil ?_
    clear h175
    refine then_n ?_
    exact ⟨_, ⟨i + 1, (ds ++ [(((((a.getD i 0) + 4294967296) - (b.getD i 0)) - cc) % 4294967296)]), 1 - (a.getD i 0 + 4294967296 - b.getD i 0 - cc) / 4294967296, A112, cc113, rfl, hs169, hd170, hN166, h173, (h174.trans (congrArg (Value.int .u64) (by omega))), (h176.trans (congrArg (Value.int .i64) (by omega))), h171, h172, hr165, (by omega), (by omega), (by simp; omega), hst.1, hst.2⟩, (by omega)⟩
  have ht75d := of_decide_eq_false ht75
  have hv177 : a61.eval (.tmp 12) = .bool false := h72.trans (congrArg Value.bool ht75)
  clear h72
  refine wp_cond_false hv177 ?_
  refine wp_exit ?_
  refine hK34 _ _ ?_
  clear hK34 K34 hK59 K59
  refine wp_seq_k fun K178 hK178 => ?_
  refine wp_g0 [true, true, true] [] 36
    [ve (sv A1 ds c1),
     (fun (v : Value) (W : World) => ∃ (A7 : Option Addr) (c8 : Nat), v = sv A7 (canon (val ds)) c8 ∧ SOwn W w62.heap.size 50 .u32 A7 (canon (val ds)) c8),
     (fun (v : Value) (W : World) => ∃ (A13 : Option Addr) (c14 : Nat), v = sv A13 (canon (val ds)) c14 ∧ SOwn W w62.heap.size 50 .u32 A13 (canon (val ds)) c14)] hs65 (.eq (.cons (fun v W W' hn ⟨A7, c8, he, h0⟩ => ⟨A7, c8, he, h0.new_ hn⟩) (.cons (fun v W W' hn ⟨A13, c14, he, h0⟩ => ⟨A13, c14, he, h0.new_ hn⟩) (.nil)))) ?_ ?_
  · skip
    refine .o1 (tk rfl rfl fun _ w hn k => ⟨_, v_move rfl (k.fx 5 h67), rfl⟩) ?_
    refine .o1 (tkC rfl (noG rfl) rfl fun _ w hn k => (by
          refine ⟨#[sv A1 ds c1], _, args1 (k.eq1 0 34 rfl), fun w => by kernel_rfl, rtrim_c _ _ _ _ (hr73.new_ hn).row hd (by omega), ?_⟩
          rintro e w' ⟨A5, c6, rfl, hmo, hm⟩
          exact ⟨_, rfl, hm, ⟨A5, c6, rfl, (hmo.more hn.size)⟩⟩)) ?_
    refine .o1 (tk rfl rfl fun _ w hn k => (by
          obtain ⟨A9, c10, e11, hx12⟩ : (fun (v : Value) (W : World) => ∃ (A7 : Option Addr) (c8 : Nat), v = sv A7 (canon (val ds)) c8 ∧ SOwn W w62.heap.size 50 .u32 A7 (canon (val ds)) c8) _ _ := k.dep 1 35 (by kernel_rfl) (by kernel_rfl)
          exact ⟨_, v_assign rfl e11, ⟨A9, c10, rfl, hx12⟩⟩)) ?_
    exact .nil
  intro a179 w180 hn181 ha182
  have hs183 := ha182.size.trans hs65
  have hd184 := ha182.defers.trans hd66
  obtain ⟨A186, cc187, h185, hr188⟩ : (fun (v : Value) (W : World) => ∃ (A13 : Option Addr) (c14 : Nat), v = sv A13 (canon (val ds)) c14 ∧ SOwn W w62.heap.size 50 .u32 A13 (canon (val ds)) c14) _ _ := ha182.got 2 4 rfl (by kernel_rfl)
  have h185 : a179.eval (.tmp 4) = sv A186 (canon (val ds)) cc187 := h185
  have hr189 := hr188.more hN74.size
  have hN190 := hN74.transNew hn181
  clear hs65 hd66 h67 h68 h69 h70 h71 hv177 hr73 hr188 hN74 ha182 hn181
  refine st_nil ?_
  refine hK178 _ _ ?_
  clear hK178 K178
  refine wp_ret (ret_k hd184 (v := sv A186 (canon (val ds)) cc187) (res_t rfl h185 _) ?_)
  have hsp : (canon (val ds)) = (canon (val a - val b)) := congrArg canon (minus_end ha hb hd (by omega) hle hv)
  exact ⟨A186, cc187, congrArg (fun l => Ending.returned (sv A186 l cc187)) hsp, by rw [← hsp]; exact hr189, hN190⟩
set_option maxHeartbeats 4000000 in
set_option maxRecDepth 100000 in
theorem rcmp_c (A B : Option Addr) (a b : List Nat) (c d : Nat) (w : World) (hra : SRow w .u32 A a c) (hrb : SRow w .u32 B b d) (ha : Limbs a) (hb : Limbs b) (hsa : a.length ≤ 900000) (hsb : b.length ≤ 900000) : Calls Try.prog 71 #[sv A a c, sv B b d] w (IsRet (.int .i64 (cmpN (val a) (val b))) w) := by
  refine enter_abs Try.func71 rfl fun a0 hs0 hd0 hp => ?_
  have hs0 : a0.tmps.size = 30 := hs0
  have hN0 : New w w := Upd.refl _ _
  have hp0 : a0.eval (.tmp 0) = sv A a c := hp 0 _ rfl
  have hp1 : a0.eval (.tmp 1) = sv B b d := hp 1 _ rfl
  clear hp
  refine wp_seq_k fun K1 hK1 => ?_
  refine wp_g0 [true] [] 30
    [ve (iv 0)] hs0 (.eq (.nil)) ?_ ?_
  · skip
    refine .o1 (tk rfl rfl fun _ w hn k => ⟨_, v_assign rfl rfl, rfl⟩) ?_
    exact .nil
  intro a2 w3 hn4 ha5
  have hs6 := ha5.size.trans hs0
  have hd7 := ha5.defers.trans hd0
  have h8 := ha5.fx 0 hp0
  have h9 := ha5.fx 1 hp1
  have hN10 := hN0.transNew hn4
  clear hs0 hd0 hp0 hp1 hN0 ha5 hn4
  refine st_nil ?_
  refine hK1 _ _ ?_
  clear hK1 K1
  refine wp_seq_k fun K11 hK11 => ?_
  refine wp_seq_k fun K12 hK12 => ?_
  refine wp_g0 [true, true, true, true, true, true, true] [] 30
    [ve (sv A a c),
     ve (iv (a.length : Int)),
     ve (sv B b d),
     ve (iv (b.length : Int)),
     ve (iv (max (a.length : Int) (b.length : Int))),
     ve (iv ((max (a.length : Int) (b.length : Int)) - 1)),
     ve (iv ((max (a.length : Int) (b.length : Int)) - 1))] hs6 (.eq (.eq (.eq (.eq (.eq (.eq (.eq (.nil)))))))) ?_ ?_
  · skip
    refine .o1 (tk rfl rfl fun _ w hn k => ⟨_, v_move rfl (k.fx 0 h8), rfl⟩) ?_
    refine .o1 (tk rfl rfl fun _ w hn k => ⟨_, v_lenR rfl elW (k.eq1 0 8 rfl), rfl⟩) ?_
    refine .o1 (tk rfl rfl fun _ w hn k => ⟨_, v_move rfl (k.fx 1 h9), rfl⟩) ?_
    refine .o1 (tk rfl rfl fun _ w hn k => ⟨_, v_lenR rfl elW (k.eq1 2 10 rfl), rfl⟩) ?_
    refine .o1 (tk rfl rfl fun _ w hn k => ⟨_, v_max rfl (k.eq1 1 9 rfl) (k.eq1 3 11 rfl), rfl⟩) ?_
    refine .o1 (tk rfl rfl fun _ w hn k => ⟨_, v_bin rfl (k.eq1 4 12 rfl) rfl (fun _ => rfl) (r_sub rfl (by omega)), rfl⟩) ?_
    refine .o1 (tk rfl rfl fun _ w hn k => ⟨_, v_assign rfl (k.eq1 5 13 rfl), rfl⟩) ?_
    exact .nil
  intro a13 w14 hn15 ha16
  have hs17 := ha16.size.trans hs6
  have hd18 := ha16.defers.trans hd7
  have h19 := ha16.fx 0 h8
  have h20 := ha16.fx 1 h9
  have h21 := ha16.ge 6 5 rfl
  have hN22 := hN10.transNew hn15
  clear hs6 hd7 h8 h9 hN10 ha16 hn15
  refine st_nil ?_
  refine hK12 _ _ ?_
  clear hK12 K12
  refine wp_block ?_
  refine wp_loopX (fun (mm : Nat) (aa : Act) (ww : World) => ∃ (n : Nat), mm = n ∧ aa.tmps.size = 30 ∧ aa.defers = [] ∧ New w ww ∧ aa.eval (.tmp 5) = iv ((n : Int) - 1) ∧ aa.eval (.tmp 0) = sv A a c ∧ aa.eval (.tmp 1) = sv B b d ∧ (n ≤ max a.length b.length) ∧ (Above a b n)) (fun mm => mm) ⟨_, ⟨(max a.length b.length), rfl, hs17, hd18, hN22, (h21.trans (congrArg (Value.int .i64) (by omega))), h19, h20, Nat.le_refl _, above_of_len⟩⟩ ?_
  clear hs17 hd18 hN22 h19 h20 h21
  rintro mm a23 w24 ⟨n, hmm, hs25, hd26, hN27, h28, h29, h30, hn, hab⟩
  refine wp_seq_k fun K31 hK31 => ?_
  refine wp_seq_k fun K32 hK32 => ?_
  rcases Bool.eq_false_or_eq_true (decide (((n : Int) - 1) < 0)) with ht33 | ht33
  · skip
    have ht33d := of_decide_eq_true ht33
    refine wp_g0 [true, true] [] 30
      [ve (iv ((n : Int) - 1)),
       ve (.bool false)] hs25 (.eq (.eq (.nil))) ?_ ?_
    · skip
      refine .o1 (tk rfl rfl fun _ w hn k => ⟨_, v_move rfl (k.fx 5 h28), rfl⟩) ?_
      refine .o1 (tk rfl rfl fun _ w hn k => ⟨_, v_bin rfl (k.eq1 0 14 rfl) rfl (fun _ => rfl) (r_geqK ht33), rfl⟩) ?_
      exact .nil
    intro a34 w35 hn36 ha37
    have hs38 := ha37.size.trans hs25
    have hd39 := ha37.defers.trans hd26
    have h40 := ha37.fx 5 h28
    have h41 := ha37.fx 0 h29
    have h42 := ha37.fx 1 h30
    have h43 := ha37.ge 1 15 rfl
    have hN44 := hN27.transNew hn36
    clear hs25 hd26 h28 h29 h30 hN27 ha37 hn36
    refine st_nil ?_
    refine hK32 _ _ ?_
    clear hK32 K32
    refine wp_cond_false h43 ?_
    refine wp_exit ?_
    refine hK11 _ _ ?_
    clear hK11 K11 hK31 K31
    refine wp_seq_k fun K45 hK45 => ?_
    refine wp_g0 [true] [] 30
      [ve (iv 0)] hs38 (.eq (.nil)) ?_ ?_
    · skip
      refine .o1 (tk rfl rfl fun _ w hn k => ⟨_, v_assign rfl rfl, rfl⟩) ?_
      exact .nil
    intro a46 w47 hn48 ha49
    have hs50 := ha49.size.trans hs38
    have hd51 := ha49.defers.trans hd39
    have h52 := ha49.ge 0 4 rfl
    have hN53 := hN44.transNew hn48
    clear hs38 hd39 h40 h41 h42 h43 hN44 ha49 hn48
    refine st_nil ?_
    refine hK45 _ _ ?_
    clear hK45 K45
    refine wp_ret (ret_k hd51 (v := iv 0) (res_t rfl h52 _) ?_)
    exact ⟨by rw [show cmpN (val a) (val b) = 0 from cmp_eq hab (by omega)], hN53⟩
  have ht33d := of_decide_eq_false ht33
  refine wp_g0 [true, true] [] 30
    [ve (iv ((n : Int) - 1)),
     ve (.bool true)] hs25 (.eq (.eq (.nil))) ?_ ?_
  · skip
    refine .o1 (tk rfl rfl fun _ w hn k => ⟨_, v_move rfl (k.fx 5 h28), rfl⟩) ?_
    refine .o1 (tk rfl rfl fun _ w hn k => ⟨_, v_bin rfl (k.eq1 0 14 rfl) rfl (fun _ => rfl) (r_geqK ht33), rfl⟩) ?_
    exact .nil
  intro a54 w55 hn56 ha57
  have hs58 := ha57.size.trans hs25
  have hd59 := ha57.defers.trans hd26
  have h60 := ha57.fx 5 h28
  have h61 := ha57.fx 0 h29
  have h62 := ha57.fx 1 h30
  have h63 := ha57.ge 1 15 rfl
  have hN64 := hN27.transNew hn56
  clear hs25 hd26 h28 h29 h30 hN27 ha57 hn56
  refine st_nil ?_
  refine hK32 _ _ ?_
  clear hK32 K32
  refine wp_cond_true h63 ?_
  refine wp_skip ?_
  refine hK31 _ _ ?_
  clear hK31 K31
  refine wp_seq_k fun K65 hK65 => ?_
  refine wp_block ?_
  refine wp_seq_k fun K66 hK66 => ?_
  refine wp_g0 [true, true, true, true, true, true, true, true] [] 30
    [ve (sv A a c),
     ve (iv ((n : Int) - 1)),
     ve (.int .u64 ((a.getD (((n : Int) - 1 : Int).toNat) 0 : Nat) : Int)),
     ve (sv B b d),
     ve (iv ((n : Int) - 1)),
     ve (.int .u64 ((b.getD (((n : Int) - 1 : Int).toNat) 0 : Nat) : Int)),
     ve (.int .u64 ((a.getD (((n : Int) - 1 : Int).toNat) 0 : Nat) : Int)),
     ve (.int .u64 ((b.getD (((n : Int) - 1 : Int).toNat) 0 : Nat) : Int))] hs58 (.eq (.eq (.eq (.eq (.eq (.eq (.eq (.eq (.nil))))))))) ?_ ?_
  · skip
    refine .o1 (tk rfl rfl fun _ w hn k => ⟨_, v_move rfl (k.fx 0 h61), rfl⟩) ?_
    refine .o1 (tk rfl rfl fun _ w hn k => ⟨_, v_move rfl (k.fx 5 h60), rfl⟩) ?_
    refine .o1 (ck rfl rfl rfl (fun _ w hn k => ⟨#[sv A a c, iv ((n : Int) - 1)], args2 (k.eq1 0 18 rfl) (k.eq1 1 19 rfl), fun _ => by kernel_rfl, rword_c _ _ _ _ _ (hra.new_ (hN64.transNew hn)) ha (by omega)⟩) fun _ => rfl) ?_
    refine .o1 (tk rfl rfl fun _ w hn k => ⟨_, v_move rfl (k.fx 1 h62), rfl⟩) ?_
    refine .o1 (tk rfl rfl fun _ w hn k => ⟨_, v_move rfl (k.fx 5 h60), rfl⟩) ?_
    refine .o1 (ck rfl rfl rfl (fun _ w hn k => ⟨#[sv B b d, iv ((n : Int) - 1)], args2 (k.eq1 3 21 rfl) (k.eq1 4 22 rfl), fun _ => by kernel_rfl, rword_c _ _ _ _ _ (hrb.new_ (hN64.transNew hn)) hb (by omega)⟩) fun _ => rfl) ?_
    refine .o1 (tk rfl rfl fun _ w hn k => ⟨_, v_assign rfl (k.eq1 2 20 rfl), rfl⟩) ?_
    refine .o1 (tk rfl rfl fun _ w hn k => ⟨_, v_assign rfl (k.eq1 5 23 rfl), rfl⟩) ?_
    exact .nil
  intro a67 w68 hn69 ha70
  have hs71 := ha70.size.trans hs58
  have hd72 := ha70.defers.trans hd59
  have h73 := ha70.fx 5 h60
  have h74 := ha70.fx 0 h61
  have h75 := ha70.fx 1 h62
  have h76 := ha70.ge 6 6 rfl
  have h77 := ha70.ge 7 7 rfl
  have hN78 := hN64.transNew hn69
  clear hs58 hd59 h60 h61 h62 h63 hN64 ha70 hn69
  refine st_nil ?_
  refine hK66 _ _ ?_
  clear hK66 K66
  refine wp_seq_k fun K79 hK79 => ?_
  refine wp_seq_k fun K80 hK80 => ?_
  refine wp_g0 [true, true, true] [] 30
    [ve (.int .u64 ((a.getD (((n : Int) - 1 : Int).toNat) 0 : Nat) : Int)),
     ve (.int .u64 ((b.getD (((n : Int) - 1 : Int).toNat) 0 : Nat) : Int)),
     ve (.bool (decide (((a.getD (((n : Int) - 1 : Int).toNat) 0 : Nat) : Int) < ((b.getD (((n : Int) - 1 : Int).toNat) 0 : Nat) : Int))))] hs71 (.eq (.eq (.eq (.nil)))) ?_ ?_
  · skip
    refine .o1 (tk rfl rfl fun _ w hn k => ⟨_, v_move rfl (k.fx 6 h76), rfl⟩) ?_
    refine .o1 (tk rfl rfl fun _ w hn k => ⟨_, v_move rfl (k.fx 7 h77), rfl⟩) ?_
    refine .o1 (tk rfl rfl fun _ w hn k => ⟨_, v_bin rfl (k.eq1 0 24 rfl) (k.eq1 1 25 rfl) (fun _ => rfl) (r_lssK rfl), rfl⟩) ?_
    exact .nil
  intro a81 w82 hn83 ha84
  have hs85 := ha84.size.trans hs71
  have hd86 := ha84.defers.trans hd72
  have h87 := ha84.fx 5 h73
  have h88 := ha84.fx 0 h74
  have h89 := ha84.fx 1 h75
  have h90 := ha84.fx 6 h76
  have h91 := ha84.fx 7 h77
  have h92 := ha84.ge 2 26 rfl
  have hN93 := hN78.transNew hn83
  clear hs71 hd72 h73 h74 h75 h76 h77 hN78 ha84 hn83
  refine st_nil ?_
  refine hK80 _ _ ?_
  clear hK80 K80
  rcases Bool.eq_false_or_eq_true (decide (((a.getD (((n : Int) - 1 : Int).toNat) 0 : Nat) : Int) < ((b.getD (((n : Int) - 1 : Int).toNat) 0 : Nat) : Int))) with ht94 | ht94
  · skip
    have ht94d := of_decide_eq_true ht94
    have hv95 : a81.eval (.tmp 26) = .bool true := h92.trans (congrArg Value.bool ht94)
    clear h92
    refine wp_cond_true hv95 ?_
    refine wp_seq_k fun K96 hK96 => ?_
    refine wp_g0 [true] [] 30
      [ve (iv (-1))] hs85 (.eq (.nil)) ?_ ?_
    · skip
      refine .o1 (tk rfl rfl fun _ w hn k => ⟨_, v_assign rfl rfl, rfl⟩) ?_
      exact .nil
    intro a97 w98 hn99 ha100
    have hs101 := ha100.size.trans hs85
    have hd102 := ha100.defers.trans hd86
    have h103 := ha100.ge 0 4 rfl
    have hN104 := hN93.transNew hn99
    clear hs85 hd86 h87 h88 h89 h90 h91 hv95 hN93 ha100 hn99
    refine st_nil ?_
    refine hK96 _ _ ?_
    clear hK96 K96
    refine wp_ret (ret_k hd102 (v := iv (-1)) (res_t rfl h103 _) ?_)
    exact ⟨by rw [show cmpN (val a) (val b) = -1 from cmp_lt ha hab (by omega) ht94], hN104⟩
  have ht94d := of_decide_eq_false ht94
  have hv105 : a81.eval (.tmp 26) = .bool false := h92.trans (congrArg Value.bool ht94)
  clear h92
  refine wp_cond_false hv105 ?_
  refine wp_skip ?_
  refine hK79 _ _ ?_
  clear hK79 K79
  refine wp_seq_k fun K106 hK106 => ?_
  rcases Bool.eq_false_or_eq_true (decide (((a.getD (((n : Int) - 1 : Int).toNat) 0 : Nat) : Int) ≤ ((b.getD (((n : Int) - 1 : Int).toNat) 0 : Nat) : Int))) with ht107 | ht107
  · skip
    have ht107d := of_decide_eq_true ht107
    refine wp_g0 [true, true, true] [] 30
      [ve (.int .u64 ((a.getD (((n : Int) - 1 : Int).toNat) 0 : Nat) : Int)),
       ve (.int .u64 ((b.getD (((n : Int) - 1 : Int).toNat) 0 : Nat) : Int)),
       ve (.bool false)] hs85 (.eq (.eq (.eq (.nil)))) ?_ ?_
    · skip
      refine .o1 (tk rfl rfl fun _ w hn k => ⟨_, v_move rfl (k.fx 6 h90), rfl⟩) ?_
      refine .o1 (tk rfl rfl fun _ w hn k => ⟨_, v_move rfl (k.fx 7 h91), rfl⟩) ?_
      refine .o1 (tk rfl rfl fun _ w hn k => ⟨_, v_bin rfl (k.eq1 0 27 rfl) (k.eq1 1 28 rfl) (fun _ => rfl) (r_gtrK ht107), rfl⟩) ?_
      exact .nil
    intro a108 w109 hn110 ha111
    have hs112 := ha111.size.trans hs85
    have hd113 := ha111.defers.trans hd86
    have h114 := ha111.fx 5 h87
    have h115 := ha111.fx 0 h88
    have h116 := ha111.fx 1 h89
    have h117 := ha111.ge 2 29 rfl
    have hN118 := hN93.transNew hn110
    clear hs85 hd86 h87 h88 h89 h90 h91 hv105 hN93 ha111 hn110
    refine st_nil ?_
    refine hK106 _ _ ?_
    clear hK106 K106
    refine wp_cond_false h117 ?_
    refine wp_skip ?_
    refine hK65 _ _ ?_
    clear hK65 K65
    refine wp_g0 [true, true, false] [(2, true)] 30
      [ve (iv ((n : Int) - 1)),
       ve (iv (((n : Int) - 1) - 1)),
       vt] hs112 (.eq (.eq (.tt (.nil)))) ?_ ?_
    · skip
      refine .o1 (tk rfl rfl fun _ w hn k => ⟨_, v_move rfl (k.fx 5 h114), rfl⟩) ?_
      refine .o1 (tk rfl rfl fun _ w hn k => ⟨_, v_bin rfl (k.eq1 0 16 rfl) rfl (fun _ => rfl) (r_sub rfl (by omega)), rfl⟩) ?_
      refine .off ?_
      exact .nil
    intro a119 w120 hn121 ha122
    have hs123 := ha122.size.trans hs112
    have hd124 := ha122.defers.trans hd113
    have h125 := ha122.fx 5 h114
    have h126 := ha122.fx 0 h115
    have h127 := ha122.fx 1 h116
    have h128 := ha122.ge 1 17 rfl
    have hN129 := hN118.transNew hn121
    clear hs112 hd113 h114 h115 h116 h117 hN118 ha122 hn121
    refine st_take rfl rfl (y_assign (v := iv (((n : Int) - 1) - 1)) rfl h128) rfl ?_
    obtain ⟨a130, ha131⟩ : ∃ a', a' = a119.put (some 5) (iv (((n : Int) - 1) - 1)) := ⟨_, rfl⟩
    have hs132 : a130.tmps.size = 30 := by rw [ha131, put_size]; exact hs123
    have hd133 : a130.defers = [] := by rw [ha131, put_defers]; exact hd124
    have h134 : a130.eval (.tmp 0) = sv A a c := by rw [ha131, put_ne _ _ _ _ (by decide)]; exact h126
    have h135 : a130.eval (.tmp 1) = sv B b d := by rw [ha131, put_ne _ _ _ _ (by decide)]; exact h127
    have h136 : a130.eval (.tmp 17) = iv (((n : Int) - 1) - 1) := by rw [ha131, put_ne _ _ _ _ (by decide)]; exact h128
    have h137 : a130.eval (.tmp 5) = iv (((n : Int) - 1) - 1) := by rw [ha131]; exact put_same _ _ _ (by rw [hs123]; decide)
    show stepsTo _ _ _ _ _ (a119.put (some 5) (iv (((n : Int) - 1) - 1))) _
    rw [← ha131]
    clear ha131 hs123 hd124 h125 h126 h127 h128
    refine st_nil ?_
    clear h136
    refine then_n ?_
    exact ⟨_, ⟨n - 1, rfl, hs132, hd133, hN129, (h137.trans (congrArg (Value.int .i64) (by omega))), h134, h135, (by omega), (above_dn hab (by omega) ht94 ht107)⟩, (by omega)⟩
  have ht107d := of_decide_eq_false ht107
  refine wp_g0 [true, true, true] [] 30
    [ve (.int .u64 ((a.getD (((n : Int) - 1 : Int).toNat) 0 : Nat) : Int)),
     ve (.int .u64 ((b.getD (((n : Int) - 1 : Int).toNat) 0 : Nat) : Int)),
     ve (.bool true)] hs85 (.eq (.eq (.eq (.nil)))) ?_ ?_
  · skip
    refine .o1 (tk rfl rfl fun _ w hn k => ⟨_, v_move rfl (k.fx 6 h90), rfl⟩) ?_
    refine .o1 (tk rfl rfl fun _ w hn k => ⟨_, v_move rfl (k.fx 7 h91), rfl⟩) ?_
    refine .o1 (tk rfl rfl fun _ w hn k => ⟨_, v_bin rfl (k.eq1 0 27 rfl) (k.eq1 1 28 rfl) (fun _ => rfl) (r_gtrK ht107), rfl⟩) ?_
    exact .nil
  intro a138 w139 hn140 ha141
  have hs142 := ha141.size.trans hs85
  have hd143 := ha141.defers.trans hd86
  have h144 := ha141.fx 5 h87
  have h145 := ha141.fx 0 h88
  have h146 := ha141.fx 1 h89
  have h147 := ha141.ge 2 29 rfl
  have hN148 := hN93.transNew hn140
  clear hs85 hd86 h87 h88 h89 h90 h91 hv105 hN93 ha141 hn140
  refine st_nil ?_
  refine hK106 _ _ ?_
  clear hK106 K106
  refine wp_cond_true h147 ?_
  refine wp_seq_k fun K149 hK149 => ?_
  refine wp_g0 [true] [] 30
    [ve (iv 1)] hs142 (.eq (.nil)) ?_ ?_
  · skip
    refine .o1 (tk rfl rfl fun _ w hn k => ⟨_, v_assign rfl rfl, rfl⟩) ?_
    exact .nil
  intro a150 w151 hn152 ha153
  have hs154 := ha153.size.trans hs142
  have hd155 := ha153.defers.trans hd143
  have h156 := ha153.ge 0 4 rfl
  have hN157 := hN148.transNew hn152
  clear hs142 hd143 h144 h145 h146 h147 hN148 ha153 hn152
  refine st_nil ?_
  refine hK149 _ _ ?_
  clear hK149 K149
  refine wp_ret (ret_k hd155 (v := iv 1) (res_t rfl h156 _) ?_)
  exact ⟨by rw [show cmpN (val a) (val b) = 1 from cmp_gt hb hab (by omega) ht107], hN157⟩
end Go.Proofs.Ytfhflpchfgkgcaa
