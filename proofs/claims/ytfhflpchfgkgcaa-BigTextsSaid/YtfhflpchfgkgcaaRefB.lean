/- Package renref2: powers, products, quotients of sizes. -/
import Derived.Test.YtfhflpchfgkgcaaRefA
namespace Go.Proofs.Ytfhflpchfgkgcaa
open Go.RowKit
set_option linter.unusedSimpArgs false
set_option linter.unusedVariables false
def powL (n : Nat) : List Nat := (List.replicate (n / 32 + 1) 0).set (n / 32) (1 * 2 ^ (n % 32))
theorem powL_len (n : Nat) : (powL n).length = n / 32 + 1 := by simp [powL]
theorem powL_limbs (n : Nat) : Limbs (powL n) := by
  have : 2 ^ (n % 32) < 2 ^ 32 := Nat.pow_lt_pow_right (by omega) (by omega)
  exact (Limbs.rep _).set _ (by omega)
theorem powL_val (n : Nat) : val (powL n) = 2 ^ n := by
  have h := val_set (List.replicate (n / 32 + 1) 0) (n / 32) (1 * 2 ^ (n % 32)) (by simp)
  rw [val_rep] at h
  have e : (List.replicate (n / 32 + 1) 0).getD (n / 32) 0 = 0 := by simp [List.getD]
  rw [e, Nat.mul_zero, Nat.add_zero, Nat.one_mul, pow_limb, Nat.zero_add] at h
  unfold powL; rw [Nat.one_mul]; exact h
theorem times_step {l l0 y : List Nat} {i k c u : Nat} (hl : Limbs l) (hy : Limbs y) (hik : i + k < l.length) (hu : u < 4294967296) (hc : c < 4294967296)
    (h : val l + 4294967296 ^ (i + k) * c = val l0 + u * (4294967296 ^ i * val (y.take k))) :
    Limbs (l.set (i + k) ((c + l.getD (i + k) 0 + u * y.getD k 0) % 4294967296)) ∧ (c + l.getD (i + k) 0 + u * y.getD k 0) / 4294967296 < 4294967296 ∧ c + l.getD (i + k) 0 + u * y.getD k 0 < 18446744073709551616 ∧
      val (l.set (i + k) ((c + l.getD (i + k) 0 + u * y.getD k 0) % 4294967296)) + 4294967296 ^ (i + (k + 1)) * ((c + l.getD (i + k) 0 + u * y.getD k 0) / 4294967296) = val l0 + u * (4294967296 ^ i * val (y.take (k + 1))) := by
  have h1 := mul_step hl hy hik hu hc h
  rw [show c + (u * y.getD k 0 + l.getD (i + k) 0) = c + l.getD (i + k) 0 + u * y.getD k 0 by omega] at h1
  exact h1
theorem times_row {a b L L0 : List Nat} {i c kk : Nat} (ha : Limbs a) (hb : Limbs b) (hi : i < a.length) (hL : Limbs L) (h0 : val L0 = val (a.take i) * val b) (hk : kk = b.length + 1)
    (h : val L + 4294967296 ^ (i + kk) * c = val L0 + a.getD i 0 * (4294967296 ^ i * val (b.take kk))) : val L = val (a.take (i + 1)) * val b := by
  subst hk
  rw [List.take_of_length_le (by omega), h0] at h
  have h1 : val (a.take i) * val b + a.getD i 0 * (4294967296 ^ i * val b) = val (a.take (i + 1)) * val b := by
    rw [val_take, Nat.add_mul]
    congr 1
    rw [Nat.mul_left_comm, ← Nat.mul_assoc]
  rw [h1] at h
  have h2 := mul_lt ha hb (i + 1)
  rw [show i + 1 + b.length = i + (b.length + 1) by omega] at h2
  rcases Nat.eq_zero_or_pos c with hc | hc
  · rw [hc, Nat.mul_zero, Nat.add_zero] at h; exact h
  · have : 4294967296 ^ (i + (b.length + 1)) ≤ 4294967296 ^ (i + (b.length + 1)) * c := Nat.le_mul_of_pos_right _ hc
    omega
theorem limbs_1 : Limbs [1] := Limbs.cons (by omega) Limbs.nil
def RetSS (T : TypeId) (k : IntKind) (xs ys : List Nat) (w : World) (en : Ending) (w' : World) : Prop := ∃ A c B d, en = .returned (.tuple #[sv A xs c, sv B ys d]) ∧ SOwn w' w.heap.size T k A xs c ∧ SOwn w' w.heap.size T k B ys d ∧ New w w'
theorem div_start0 {a b : List Nat} (ha : Limbs a) : val a / 2 ^ (32 * a.length) % val b = 0 := by
  have := val_lt ha
  rw [pow32] at this
  rw [Nat.div_eq_of_lt this, Nat.zero_mod]
theorem div_start {a b : List Nat} (ha : Limbs a) : val (List.replicate a.length 0) = 2 ^ (32 * a.length) * (val a / 2 ^ (32 * a.length) / val b) := by
  have := val_lt ha
  rw [pow32] at this
  rw [val_rep, Nat.div_eq_of_lt this, Nat.zero_div, Nat.mul_zero]
theorem bit_at {a : List Nat} (ha : Limbs a) {T : Nat} : val a / 2 ^ T % 2 = a.getD (T / 32) 0 / 2 ^ (T % 32) % 2 := by
  have h := bit_of ha (p := T / 32) (s := T % 32) (by omega)
  rw [show 32 * (T / 32) + T % 32 = T by omega] at h
  exact h
theorem rem_len {b : List Nat} {x : Nat} (hb : Limbs b) (hb0 : 0 < val b) : (canon (x % val b)).length ≤ b.length := canon_len_le (Nat.lt_trans (Nat.mod_lt _ hb0) (val_lt hb))
theorem rem_len2 {b : List Nat} {x : Nat} (hb : Limbs b) (hb0 : 0 < val b) (c : Nat) (hc : c ≤ 1) : (canon (2 * (x % val b) + c)).length ≤ b.length + 1 := by
  refine canon_len_le ?_
  have h1 := Nat.mod_lt x hb0
  have h2 := val_lt hb
  rw [Nat.pow_succ]
  generalize 4294967296 ^ b.length = p at *
  omega
theorem bit_one {x : Nat} (h : decide (((x % 2 : Nat) : Int) = 1) = true) : x % 2 = 1 := by have := of_decide_eq_true h; omega
theorem bit_nil {x : Nat} (h : decide (((x % 2 : Nat) : Int) = 1) = false) : x % 2 = 0 := by have := of_decide_eq_false h; omega
theorem cmpN_ge {a b : Nat} (h : decide (cmpN a b < 0) = false) : b ≤ a := by
  have := of_decide_eq_false h
  unfold cmpN at this
  split at this
  · omega
  · split at this <;> omega
theorem cmpN_lt {a b : Nat} (h : decide (cmpN a b < 0) = true) : a < b := by
  have := of_decide_eq_true h
  unfold cmpN at this
  split at this
  · omega
  · split at this <;> omega
theorem set_bit_at {l : List Nat} (hl : Limbs l) {T Q : Nat} (hT : 0 < T) (hp : (T - 1) / 32 < l.length) (h : val l = 2 ^ T * Q) :
    Limbs (l.set ((T - 1) / 32) (l.getD ((T - 1) / 32) 0 ||| 2 ^ ((T - 1) % 32))) ∧ val (l.set ((T - 1) / 32) (l.getD ((T - 1) / 32) 0 ||| 2 ^ ((T - 1) % 32))) = 2 ^ (T - 1) * (2 * Q + 1) ∧ l.getD ((T - 1) / 32) 0 ||| 2 ^ ((T - 1) % 32) < 4294967296 := by
  have h1 := set_bit hl (p := (T - 1) / 32) (s := (T - 1) % 32) (Q := Q) hp (by omega) (by rw [show 32 * ((T - 1) / 32) + (T - 1) % 32 + 1 = T by omega]; exact h)
  rw [show 32 * ((T - 1) / 32) + (T - 1) % 32 = T - 1 by omega] at h1
  exact h1
theorem div_yes1 {V B T q c : Nat} {Q : List Nat} (hB : 0 < B) (hb : V / 2 ^ (T - 1) % 2 = q) (hT : 0 < T) (hc : c ≤ 1) (hqc : q = c) (hq : val Q = 2 ^ T * (V / 2 ^ T / B)) (hge : B ≤ 2 * (V / 2 ^ T % B) + c) :
    V / 2 ^ (T - 1) % B = 2 * (V / 2 ^ T % B) + c - B ∧ 2 ^ (T - 1) * (2 * (V / 2 ^ T / B) + 1) = 2 ^ (T - 1) * (V / 2 ^ (T - 1) / B) := by
  have h1 := div_two V (T - 1)
  rw [show T - 1 + 1 = T by omega, hb, hqc] at h1
  obtain ⟨h2, h3⟩ := div_yes (H := V / 2 ^ T) hB hc hge
  rw [h1]
  exact ⟨h3, by rw [h2]⟩
theorem div_no1 {V B T q c : Nat} {Q : List Nat} (hB : 0 < B) (hb : V / 2 ^ (T - 1) % 2 = q) (hT : 0 < T) (hc : c ≤ 1) (hqc : q = c) (hq : val Q = 2 ^ T * (V / 2 ^ T / B)) (hlt : 2 * (V / 2 ^ T % B) + c < B) :
    2 * (V / 2 ^ T % B) + c = V / 2 ^ (T - 1) % B ∧ val Q = 2 ^ (T - 1) * (V / 2 ^ (T - 1) / B) := by
  have h1 := div_two V (T - 1)
  rw [show T - 1 + 1 = T by omega, hb, hqc] at h1
  obtain ⟨h2, h3⟩ := div_no (H := V / 2 ^ T) hlt
  rw [h1]
  refine ⟨h3.symm, ?_⟩
  rw [h2, hq, ← Nat.mul_assoc, ← Nat.pow_succ, show (T - 1).succ = T by omega]
set_option maxHeartbeats 4000000 in
set_option maxRecDepth 100000 in
theorem rpower_c (n : Nat) (w : World) (hn : n ≤ 256) : Calls Try.prog 68 #[iv (n : Int)] w (RetS 50 .u32 (powL n) w) := by
  refine enter_abs Try.func68 rfl fun a0 hs0 hd0 hp => ?_
  have hs0 : a0.tmps.size = 17 := hs0
  have hN0 : New w w := Upd.refl _ _
  have hp0 : a0.eval (.tmp 0) = iv (n : Int) := hp 0 _ rfl
  clear hp
  refine wp_seq_k fun K1 hK1 => ?_
  refine wp_g0 [true] [] 17
    [ve (sv none ([]) 0)] hs0 (.eq (.nil)) ?_ ?_
  · skip
    refine .o1 (tk rfl rfl fun _ w hn k => ⟨_, v_assign rfl rfl, rfl⟩) ?_
    exact .nil
  intro a2 w3 hn4 ha5
  have hs6 := ha5.size.trans hs0
  have hd7 := ha5.defers.trans hd0
  have h8 := ha5.fx 0 hp0
  have hN9 := hN0.transNew hn4
  clear hs0 hd0 hp0 hN0 ha5 hn4
  refine st_nil ?_
  refine hK1 _ _ ?_
  clear hK1 K1
  refine wp_seq_k fun K10 hK10 => ?_
  refine wp_g0 [true, true, true, true, true] [] 17
    [ve (iv (n : Int)),
     ve (iv ((n / 32 : Nat) : Int)),
     ve (iv (((n / 32) + 1 : Nat) : Int)),
     (fun (v : Value) (W : World) => ∃ (A3 : Option Addr) (c4 : Nat), v = sv A3 (List.replicate ((n / 32) + 1) 0) c4 ∧ SOwn W w3.heap.size 50 .u32 A3 (List.replicate ((n / 32) + 1) 0) c4),
     (fun (v : Value) (W : World) => ∃ (A9 : Option Addr) (c10 : Nat), v = sv A9 (List.replicate ((n / 32) + 1) 0) c10 ∧ SOwn W w3.heap.size 50 .u32 A9 (List.replicate ((n / 32) + 1) 0) c10)] hs6 (.eq (.eq (.eq (.cons (fun v W W' hn ⟨A3, c4, he, h0⟩ => ⟨A3, c4, he, h0.new_ hn⟩) (.cons (fun v W W' hn ⟨A9, c10, he, h0⟩ => ⟨A9, c10, he, h0.new_ hn⟩) (.nil)))))) ?_ ?_
  · skip
    refine .o1 (tk rfl rfl fun _ w hn k => ⟨_, v_move rfl (k.fx 0 h8), rfl⟩) ?_
    refine .o1 (tk rfl rfl fun _ w hn k => ⟨_, v_bin rfl (k.eq1 0 4 rfl) rfl (fun _ => rfl) (n_quoN n 32 (by omega) (IntWalk.i64_in _ (by omega))), rfl⟩) ?_
    refine .o1 (tk rfl rfl fun _ w hn k => ⟨_, v_bin rfl (k.eq1 1 5 rfl) rfl (fun _ => rfl) (n_add (by omega) (IntWalk.i64_in _ (by omega))), rfl⟩) ?_
    refine .o1 (tkA rfl (noG rfl) fun _ w hn k => (by
          exact x_make .u32 rfl (k.eq1 2 6 rfl) (k.eq1 2 6 rfl) elW (by omega) (by omega) (by omega) fun A1 c2 W' hmo => ⟨A1, c2, rfl, (hmo.more hn.size)⟩)) ?_
    refine .o1 (tk rfl rfl fun _ w hn k => (by
          obtain ⟨A5, c6, e7, hx8⟩ : (fun (v : Value) (W : World) => ∃ (A3 : Option Addr) (c4 : Nat), v = sv A3 (List.replicate ((n / 32) + 1) 0) c4 ∧ SOwn W w3.heap.size 50 .u32 A3 (List.replicate ((n / 32) + 1) 0) c4) _ _ := k.dep 3 7 (by kernel_rfl) (by kernel_rfl)
          exact ⟨_, v_assign rfl e7, ⟨A5, c6, rfl, hx8⟩⟩)) ?_
    exact .nil
  intro a11 w12 hn13 ha14
  have hs15 := ha14.size.trans hs6
  have hd16 := ha14.defers.trans hd7
  have h17 := ha14.fx 0 h8
  obtain ⟨A19, cc20, h18, hr21⟩ : (fun (v : Value) (W : World) => ∃ (A9 : Option Addr) (c10 : Nat), v = sv A9 (List.replicate ((n / 32) + 1) 0) c10 ∧ SOwn W w3.heap.size 50 .u32 A9 (List.replicate ((n / 32) + 1) 0) c10) _ _ := ha14.got 4 3 rfl (by kernel_rfl)
  have h18 : a11.eval (.tmp 3) = sv A19 (List.replicate ((n / 32) + 1) 0) cc20 := h18
  have hr22 := hr21.more hN9.size
  have hN23 := hN9.transNew hn13
  clear hs6 hd7 h8 hr21 hN9 ha14 hn13
  refine st_nil ?_
  refine hK10 _ _ ?_
  clear hK10 K10
  refine wp_seq_k fun K24 hK24 => ?_
  have hlr : (List.replicate (n / 32 + 1) 0).length = n / 32 + 1 := List.length_replicate
  obtain ⟨gg, rfl, hge25⟩ := hr22.head (by simp)
  refine wp_g0 [true, true, true, true, true, true, true, true, false] [(8, false)] 17
    [ve (sv (some ⟨gg, 0, none⟩) (List.replicate ((n / 32) + 1) 0) cc20),
     ve (iv (n : Int)),
     ve (iv ((n / 32 : Nat) : Int)),
     ve (iv (n : Int)),
     ve (iv ((n % 32 : Nat) : Int)),
     ve (.int .u64 ((n % 32 : Nat) : Int)),
     ve (.int .u32 ((1 * 2 ^ (n % 32) : Nat) : Int)),
     ve (.pointer (some ⟨gg, (n / 32), none⟩)),
     vt] hs15 (.eq (.eq (.eq (.eq (.eq (.eq (.eq (.eq (.tt (.nil)))))))))) ?_ ?_
  · skip
    refine .o1 (tk rfl rfl fun _ w hn k => ⟨_, v_move rfl (k.fx 3 h18), rfl⟩) ?_
    refine .o1 (tk rfl rfl fun _ w hn k => ⟨_, v_move rfl (k.fx 0 h17), rfl⟩) ?_
    refine .o1 (tk rfl rfl fun _ w hn k => ⟨_, v_bin rfl (k.eq1 1 9 rfl) rfl (fun _ => rfl) (n_quoN n 32 (by omega) (IntWalk.i64_in _ (by omega))), rfl⟩) ?_
    refine .o1 (tk rfl rfl fun _ w hn k => ⟨_, v_move rfl (k.fx 0 h17), rfl⟩) ?_
    refine .o1 (tk rfl rfl fun _ w hn k => ⟨_, v_bin rfl (k.eq1 3 11 rfl) rfl (fun _ => rfl) (n_remN n 32 (by omega)), rfl⟩) ?_
    refine .o1 (tk rfl rfl fun _ w hn k => ⟨_, v_conv rfl (k.eq1 4 12 rfl) (n_conv (by kernel_rfl) (by kernel_rfl) (by kernel_rfl) (IntWalk.u64_in _ (by omega))), rfl⟩) ?_
    refine .o1 (tk rfl rfl fun _ w hn k => ⟨_, v_bin rfl rfl (k.eq1 5 13 rfl) (fun _ => rfl) (n_shl 1 (n % 32) (by show _ < 32; omega) (pow_wrap32 _ (by omega))), rfl⟩) ?_
    refine .o1 (tk rfl rfl fun _ w hn k => ⟨_, v_eptr rfl elW (k.eq1 0 8 rfl) (k.eq1 2 10 rfl) (by omega), rfl⟩) ?_
    refine .off ?_
    exact .nil
  intro a26 w27 hn28 ha29
  have hs30 := ha29.size.trans hs15
  have hd31 := ha29.defers.trans hd16
  have h32 := ha29.fx 3 h18
  have h33 := ha29.ge 6 14 rfl
  have h34 := ha29.ge 7 15 rfl
  have hr35 := hr22.new_ hn28
  have hN36 := hN23.transNew hn28
  clear hs15 hd16 h17 h18 hr22 hN23 ha29 hn28
  obtain ⟨w37, -, hst38, hr39, hge40, hu41, hf42⟩ := s_elem (P := Try.prog) (t := 50) (i := (n / 32)) (((1 * 2 ^ (n % 32) : Nat) : Int)) Try.sizeOf50 hr35 (by omega) (by omega)
  refine st_act rfl rfl fun K43 hL44 => a_store' rfl h34 h33 hst38 (hL44 _ _ trivial ?_)
  have hN45 := hN36.trans hu41 (fun k hk hkb => by subst hkb; omega)
  have h46 : a26.eval (.tmp 3) = sv (some ⟨gg, 0, none⟩) ((List.replicate ((n / 32) + 1) 0).set (n / 32) (1 * 2 ^ (n % 32))) cc20 := h32.trans (sv_set _ _ _ _ _)
  clear hr35 hst38 K43 hL44 hN36 h32 hge40 hu41 hf42
  refine st_nil ?_
  clear h33 h34
  refine hK24 _ _ ?_
  clear hK24 K24
  refine wp_seq_k fun K47 hK47 => ?_
  refine wp_g0 [true, true] [] 17
    [ve (sv (some ⟨gg, 0, none⟩) ((List.replicate ((n / 32) + 1) 0).set (n / 32) (1 * 2 ^ (n % 32))) cc20),
     ve (sv (some ⟨gg, 0, none⟩) ((List.replicate ((n / 32) + 1) 0).set (n / 32) (1 * 2 ^ (n % 32))) cc20)] hs30 (.eq (.eq (.nil))) ?_ ?_
  · skip
    refine .o1 (tk rfl rfl fun _ w hn k => ⟨_, v_move rfl (k.fx 3 h46), rfl⟩) ?_
    refine .o1 (tk rfl rfl fun _ w hn k => ⟨_, v_assign rfl (k.eq1 0 16 rfl), rfl⟩) ?_
    exact .nil
  intro a48 w49 hn50 ha51
  have hs52 := ha51.size.trans hs30
  have hd53 := ha51.defers.trans hd31
  have h54 := ha51.ge 1 2 rfl
  have hr55 := hr39.new_ hn50
  have hN56 := hN45.transNew hn50
  clear hs30 hd31 h46 hr39 hN45 ha51 hn50
  refine st_nil ?_
  refine hK47 _ _ ?_
  clear hK47 K47
  refine wp_ret (ret_k hd53 (v := sv (some ⟨gg, 0, none⟩) ((List.replicate ((n / 32) + 1) 0).set (n / 32) (1 * 2 ^ (n % 32))) cc20) (res_t rfl h54 _) ?_)
  exact ⟨(some ⟨gg, 0, none⟩), cc20, rfl, hr55, hN56⟩
set_option maxHeartbeats 8000000 in
set_option maxRecDepth 100000 in
theorem rtimes_c (A B : Option Addr) (a b : List Nat) (c d : Nat) (w : World) (hra : SRow w .u32 A a c) (hrb : SRow w .u32 B b d) (ha : Limbs a) (hb : Limbs b) (hsa : a.length ≤ 400000) (hsb : b.length ≤ 400000) : Calls Try.prog 55 #[sv A a c, sv B b d] w (RetS 50 .u32 (canon (val a * val b)) w) := by
  refine enter_abs Try.func55 rfl fun a0 hs0 hd0 hp => ?_
  have hs0 : a0.tmps.size = 60 := hs0
  have hN0 : New w w := Upd.refl _ _
  have hp0 : a0.eval (.tmp 0) = sv A a c := hp 0 _ rfl
  have hp1 : a0.eval (.tmp 1) = sv B b d := hp 1 _ rfl
  clear hp
  refine wp_seq_k fun K1 hK1 => ?_
  refine wp_g0 [true] [] 60
    [ve (sv none ([]) 0)] hs0 (.eq (.nil)) ?_ ?_
  · skip
    refine .o1 (tk rfl rfl fun _ w hn k => ⟨_, v_assign rfl rfl, rfl⟩) ?_
    exact .nil
  intro a2 w3 hn4 ha5
  have hs6 := ha5.size.trans hs0
  have hd7 := ha5.defers.trans hd0
  have h8 := ha5.fx 0 hp0
  have h9 := ha5.fx 1 hp1
  have hN10 := hN0.transNew hn4
  clear hs0 hd0 hp0 hp1 hN0 ha5 hn4
  refine st_nil ?_
  refine hK1 _ _ ?_
  clear hK1 K1
  refine wp_seq_k fun K11 hK11 => ?_
  refine wp_g0 [true, true, true, true, true, true, true, true] [] 60
    [ve (sv A a c),
     ve (iv (a.length : Int)),
     ve (sv B b d),
     ve (iv (b.length : Int)),
     ve (iv ((a.length + b.length : Nat) : Int)),
     ve (iv (((a.length + b.length) + 1 : Nat) : Int)),
     (fun (v : Value) (W : World) => ∃ (A3 : Option Addr) (c4 : Nat), v = sv A3 (List.replicate ((a.length + b.length) + 1) 0) c4 ∧ SOwn W w3.heap.size 50 .u32 A3 (List.replicate ((a.length + b.length) + 1) 0) c4),
     (fun (v : Value) (W : World) => ∃ (A9 : Option Addr) (c10 : Nat), v = sv A9 (List.replicate ((a.length + b.length) + 1) 0) c10 ∧ SOwn W w3.heap.size 50 .u32 A9 (List.replicate ((a.length + b.length) + 1) 0) c10)] hs6 (.eq (.eq (.eq (.eq (.eq (.eq (.cons (fun v W W' hn ⟨A3, c4, he, h0⟩ => ⟨A3, c4, he, h0.new_ hn⟩) (.cons (fun v W W' hn ⟨A9, c10, he, h0⟩ => ⟨A9, c10, he, h0.new_ hn⟩) (.nil))))))))) ?_ ?_
  · skip
    refine .o1 (tk rfl rfl fun _ w hn k => ⟨_, v_move rfl (k.fx 0 h8), rfl⟩) ?_
    refine .o1 (tk rfl rfl fun _ w hn k => ⟨_, v_lenR rfl elW (k.eq1 0 9 rfl), rfl⟩) ?_
    refine .o1 (tk rfl rfl fun _ w hn k => ⟨_, v_move rfl (k.fx 1 h9), rfl⟩) ?_
    refine .o1 (tk rfl rfl fun _ w hn k => ⟨_, v_lenR rfl elW (k.eq1 2 11 rfl), rfl⟩) ?_
    refine .o1 (tk rfl rfl fun _ w hn k => ⟨_, v_bin rfl (k.eq1 1 10 rfl) (k.eq1 3 12 rfl) (fun _ => rfl) (n_add (by omega) (IntWalk.i64_in _ (by omega))), rfl⟩) ?_
    refine .o1 (tk rfl rfl fun _ w hn k => ⟨_, v_bin rfl (k.eq1 4 13 rfl) rfl (fun _ => rfl) (n_add (by omega) (IntWalk.i64_in _ (by omega))), rfl⟩) ?_
    refine .o1 (tkA rfl (noG rfl) fun _ w hn k => (by
          exact x_make .u32 rfl (k.eq1 5 14 rfl) (k.eq1 5 14 rfl) elW (by omega) (by omega) (by omega) fun A1 c2 W' hmo => ⟨A1, c2, rfl, (hmo.more hn.size)⟩)) ?_
    refine .o1 (tk rfl rfl fun _ w hn k => (by
          obtain ⟨A5, c6, e7, hx8⟩ : (fun (v : Value) (W : World) => ∃ (A3 : Option Addr) (c4 : Nat), v = sv A3 (List.replicate ((a.length + b.length) + 1) 0) c4 ∧ SOwn W w3.heap.size 50 .u32 A3 (List.replicate ((a.length + b.length) + 1) 0) c4) _ _ := k.dep 6 15 (by kernel_rfl) (by kernel_rfl)
          exact ⟨_, v_assign rfl e7, ⟨A5, c6, rfl, hx8⟩⟩)) ?_
    exact .nil
  intro a12 w13 hn14 ha15
  have hs16 := ha15.size.trans hs6
  have hd17 := ha15.defers.trans hd7
  have h18 := ha15.fx 0 h8
  have h19 := ha15.fx 1 h9
  obtain ⟨A21, cc22, h20, hr23⟩ : (fun (v : Value) (W : World) => ∃ (A9 : Option Addr) (c10 : Nat), v = sv A9 (List.replicate ((a.length + b.length) + 1) 0) c10 ∧ SOwn W w3.heap.size 50 .u32 A9 (List.replicate ((a.length + b.length) + 1) 0) c10) _ _ := ha15.got 7 5 rfl (by kernel_rfl)
  have h20 : a12.eval (.tmp 5) = sv A21 (List.replicate ((a.length + b.length) + 1) 0) cc22 := h20
  have hr24 := hr23.more hN10.size
  have hN25 := hN10.transNew hn14
  clear hs6 hd7 h8 h9 hr23 hN10 ha15 hn14
  refine st_nil ?_
  refine hK11 _ _ ?_
  clear hK11 K11
  refine wp_seq_k fun K26 hK26 => ?_
  refine wp_seq_k fun K27 hK27 => ?_
  obtain ⟨gg, rfl, hge28⟩ := hr24.head (by first | (simp; done) | (simp; omega))
  refine wp_g0 [true] [] 60
    [ve (iv 0)] hs16 (.eq (.nil)) ?_ ?_
  · skip
    refine .o1 (tk rfl rfl fun _ w hn k => ⟨_, v_assign rfl rfl, rfl⟩) ?_
    exact .nil
  intro a29 w30 hn31 ha32
  have hs33 := ha32.size.trans hs16
  have hd34 := ha32.defers.trans hd17
  have h35 := ha32.fx 0 h18
  have h36 := ha32.fx 1 h19
  have h37 := ha32.fx 5 h20
  have h38 := ha32.ge 0 6 rfl
  have hr39 := hr24.new_ hn31
  have hN40 := hN25.transNew hn31
  clear hs16 hd17 h18 h19 h20 hr24 hN25 ha32 hn31
  refine st_nil ?_
  refine hK27 _ _ ?_
  clear hK27 K27
  refine wp_block ?_
  refine wp_loopX (fun (mm : Nat) (aa : Act) (ww : World) => ∃ (ii : Nat) (L0 : List Nat), mm = a.length - ii ∧ aa.tmps.size = 60 ∧ aa.defers = [] ∧ New w ww ∧ aa.eval (.tmp 5) = sv (some ⟨gg, 0, none⟩) L0 cc22 ∧ aa.eval (.tmp 6) = iv (ii : Int) ∧ aa.eval (.tmp 0) = sv A a c ∧ aa.eval (.tmp 1) = sv B b d ∧ SOwn ww w.heap.size 50 .u32 (some ⟨gg, 0, none⟩) L0 cc22 ∧ (ii ≤ a.length) ∧ (Limbs L0) ∧ (L0.length = a.length + b.length + 1) ∧ (val L0 = val (a.take ii) * val b)) (fun mm => mm) ⟨_, ⟨0, (List.replicate ((a.length + b.length) + 1) 0), rfl, hs33, hd34, hN40, h37, h38, h35, h36, hr39, (by omega), (Limbs.rep _), (by simp), (by simp [val, val_rep])⟩⟩ ?_
  clear hs33 hd34 hN40 h35 h36 h37 h38 hr39
  rintro mm a41 w42 ⟨ii, L0, hmm, hs43, hd44, hN45, h46, h47, h48, h49, hr50, hi, hL0, hln0, hv0⟩
  refine wp_seq_k fun K51 hK51 => ?_
  refine wp_seq_k fun K52 hK52 => ?_
  refine wp_g0 [true, true, true, true] [] 60
    [ve (iv (ii : Int)),
     ve (sv A a c),
     ve (iv (a.length : Int)),
     ve (.bool (decide ((ii : Int) < (a.length : Int))))] hs43 (.eq (.eq (.eq (.eq (.nil))))) ?_ ?_
  · skip
    refine .o1 (tk rfl rfl fun _ w hn k => ⟨_, v_move rfl (k.fx 6 h47), rfl⟩) ?_
    refine .o1 (tk rfl rfl fun _ w hn k => ⟨_, v_move rfl (k.fx 0 h48), rfl⟩) ?_
    refine .o1 (tk rfl rfl fun _ w hn k => ⟨_, v_lenR rfl elW (k.eq1 1 17 rfl), rfl⟩) ?_
    refine .o1 (tk rfl rfl fun _ w hn k => ⟨_, v_bin rfl (k.eq1 0 16 rfl) (k.eq1 2 18 rfl) (fun _ => rfl) (r_lssK rfl), rfl⟩) ?_
    exact .nil
  intro a53 w54 hn55 ha56
  have hs57 := ha56.size.trans hs43
  have hd58 := ha56.defers.trans hd44
  have h59 := ha56.fx 5 h46
  have h60 := ha56.fx 6 h47
  have h61 := ha56.fx 0 h48
  have h62 := ha56.fx 1 h49
  have h63 := ha56.ge 3 19 rfl
  have hr64 := hr50.new_ hn55
  have hN65 := hN45.transNew hn55
  clear hs43 hd44 h46 h47 h48 h49 hr50 hN45 ha56 hn55
  refine st_nil ?_
  refine hK52 _ _ ?_
  clear hK52 K52
  rcases Bool.eq_false_or_eq_true (decide ((ii : Int) < (a.length : Int))) with ht66 | ht66
  · skip
    have ht66d := of_decide_eq_true ht66
    have hv67 : a53.eval (.tmp 19) = .bool true := h63.trans (congrArg Value.bool ht66)
    clear h63
    refine wp_cond_true hv67 ?_
    refine wp_skip ?_
    refine hK51 _ _ ?_
    clear hK51 K51
    refine wp_seq_k fun K68 hK68 => ?_
    refine wp_block ?_
    refine wp_seq_k fun K69 hK69 => ?_
    refine wp_g0 [true] [] 60
      [ve (.int .u64 0)] hs57 (.eq (.nil)) ?_ ?_
    · skip
      refine .o1 (tk rfl rfl fun _ w hn k => ⟨_, v_assign rfl rfl, rfl⟩) ?_
      exact .nil
    intro a70 w71 hn72 ha73
    have hs74 := ha73.size.trans hs57
    have hd75 := ha73.defers.trans hd58
    have h76 := ha73.fx 5 h59
    have h77 := ha73.fx 6 h60
    have h78 := ha73.fx 0 h61
    have h79 := ha73.fx 1 h62
    have h80 := ha73.ge 0 7 rfl
    have hr81 := hr64.new_ hn72
    have hN82 := hN65.transNew hn72
    clear hs57 hd58 h59 h60 h61 h62 hv67 hr64 hN65 ha73 hn72
    refine st_nil ?_
    refine hK69 _ _ ?_
    clear hK69 K69
    refine wp_seq_k fun K83 hK83 => ?_
    refine wp_g0 [true] [] 60
      [ve (iv 0)] hs74 (.eq (.nil)) ?_ ?_
    · skip
      refine .o1 (tk rfl rfl fun _ w hn k => ⟨_, v_assign rfl rfl, rfl⟩) ?_
      exact .nil
    intro a84 w85 hn86 ha87
    have hs88 := ha87.size.trans hs74
    have hd89 := ha87.defers.trans hd75
    have h90 := ha87.fx 5 h76
    have h91 := ha87.fx 6 h77
    have h92 := ha87.fx 0 h78
    have h93 := ha87.fx 1 h79
    have h94 := ha87.fx 7 h80
    have h95 := ha87.ge 0 8 rfl
    have hr96 := hr81.new_ hn86
    have hN97 := hN82.transNew hn86
    clear hs74 hd75 h76 h77 h78 h79 h80 hr81 hN82 ha87 hn86
    refine st_nil ?_
    refine hK83 _ _ ?_
    clear hK83 K83
    refine wp_block ?_
    refine wp_loopX (fun (mm : Nat) (aa : Act) (ww : World) => ∃ (kk : Nat) (L : List Nat) (cc : Nat), mm = b.length + 1 - kk ∧ aa.tmps.size = 60 ∧ aa.defers = [] ∧ New w ww ∧ aa.eval (.tmp 5) = sv (some ⟨gg, 0, none⟩) L cc22 ∧ aa.eval (.tmp 7) = .int .u64 (cc : Int) ∧ aa.eval (.tmp 8) = iv (kk : Int) ∧ aa.eval (.tmp 0) = sv A a c ∧ aa.eval (.tmp 1) = sv B b d ∧ aa.eval (.tmp 6) = iv (ii : Int) ∧ SOwn ww w.heap.size 50 .u32 (some ⟨gg, 0, none⟩) L cc22 ∧ (kk ≤ b.length + 1) ∧ (cc < 4294967296) ∧ (Limbs L) ∧ (L.length = a.length + b.length + 1) ∧ (val L + 4294967296 ^ (ii + kk) * cc = val L0 + a.getD ii 0 * (4294967296 ^ ii * val (b.take kk)))) (fun mm => mm) ⟨_, ⟨0, L0, 0, rfl, hs88, hd89, hN97, h90, h94, h95, h92, h93, h91, hr96, (by omega), (by omega), hL0, hln0, (by simp [val])⟩⟩ ?_
    clear hs88 hd89 hN97 h90 h91 h92 h93 h94 h95 hr96
    rintro mm a98 w99 ⟨kk, L, cc, hmm, hs100, hd101, hN102, h103, h104, h105, h106, h107, h108, hr109, hk, hc, hL, hln, hv⟩
    refine wp_seq_k fun K110 hK110 => ?_
    refine wp_seq_k fun K111 hK111 => ?_
    refine wp_g0 [true, true, true, true, true] [] 60
      [ve (iv (kk : Int)),
       ve (sv B b d),
       ve (iv (b.length : Int)),
       ve (iv ((b.length + 1 : Nat) : Int)),
       ve (.bool (decide ((kk : Int) < ((b.length + 1 : Nat) : Int))))] hs100 (.eq (.eq (.eq (.eq (.eq (.nil)))))) ?_ ?_
    · skip
      refine .o1 (tk rfl rfl fun _ w hn k => ⟨_, v_move rfl (k.fx 8 h105), rfl⟩) ?_
      refine .o1 (tk rfl rfl fun _ w hn k => ⟨_, v_move rfl (k.fx 1 h107), rfl⟩) ?_
      refine .o1 (tk rfl rfl fun _ w hn k => ⟨_, v_lenR rfl elW (k.eq1 1 23 rfl), rfl⟩) ?_
      refine .o1 (tk rfl rfl fun _ w hn k => ⟨_, v_bin rfl (k.eq1 2 24 rfl) rfl (fun _ => rfl) (n_add (by omega) (IntWalk.i64_in _ (by omega))), rfl⟩) ?_
      refine .o1 (tk rfl rfl fun _ w hn k => ⟨_, v_bin rfl (k.eq1 0 22 rfl) (k.eq1 3 25 rfl) (fun _ => rfl) (r_lssK rfl), rfl⟩) ?_
      exact .nil
    intro a112 w113 hn114 ha115
    have hs116 := ha115.size.trans hs100
    have hd117 := ha115.defers.trans hd101
    have h118 := ha115.fx 5 h103
    have h119 := ha115.fx 7 h104
    have h120 := ha115.fx 8 h105
    have h121 := ha115.fx 0 h106
    have h122 := ha115.fx 1 h107
    have h123 := ha115.fx 6 h108
    have h124 := ha115.ge 4 26 rfl
    have hr125 := hr109.new_ hn114
    have hN126 := hN102.transNew hn114
    clear hs100 hd101 h103 h104 h105 h106 h107 h108 hr109 hN102 ha115 hn114
    refine st_nil ?_
    refine hK111 _ _ ?_
    clear hK111 K111
    rcases Bool.eq_false_or_eq_true (decide ((kk : Int) < ((b.length + 1 : Nat) : Int))) with ht127 | ht127
    · skip
      have ht127d := of_decide_eq_true ht127
      have hv128 : a112.eval (.tmp 26) = .bool true := h124.trans (congrArg Value.bool ht127)
      clear h124
      refine wp_cond_true hv128 ?_
      refine wp_skip ?_
      refine hK110 _ _ ?_
      clear hK110 K110
      refine wp_seq_k fun K129 hK129 => ?_
      refine wp_block ?_
      refine wp_seq_k fun K130 hK130 => ?_
      have hai := ha.at ii
      have hbk := hb.at kk
      have hLk := hL.at (ii + kk)
      have hm : a.getD ii 0 * b.getD kk 0 ≤ 4294967295 * 4294967295 := Nat.mul_le_mul (by omega) (by omega)
      have hst := times_step hL hb (i := ii) (k := kk) (by omega) hai hc hv
      refine wp_g0 [true, true, true, true, true, true, true, true, true, true, true, true, true, true, true, true, true, true, true, false] [(19, true)] 60
        [ve (.int .u64 (cc : Int)),
         ve (sv (some ⟨gg, 0, none⟩) L cc22),
         ve (iv (ii : Int)),
         ve (iv (kk : Int)),
         ve (iv ((ii + kk : Nat) : Int)),
         ve (.pointer (some ⟨gg, (ii + kk), none⟩)),
         ve (.int .u32 ((L.getD (ii + kk) 0 : Nat) : Int)),
         ve (.int .u64 ((L.getD (ii + kk) 0 : Nat) : Int)),
         ve (.int .u64 ((cc + (L.getD (ii + kk) 0) : Nat) : Int)),
         ve (sv A a c),
         ve (iv (ii : Int)),
         (fun (v : Value) (W : World) => ∃ (b13 : Nat) (o14 : Nat), v = .pointer (some ⟨b13, o14, none⟩) ∧ SElem W b13 o14 (.int .u32 ((a.getD ii 0 : Nat) : Int))),
         ve (.int .u32 ((a.getD ii 0 : Nat) : Int)),
         ve (.int .u64 ((a.getD ii 0 : Nat) : Int)),
         ve (sv B b d),
         ve (iv (kk : Int)),
         ve (.int .u64 ((b.getD kk 0 : Nat) : Int)),
         ve (.int .u64 (((a.getD ii 0) * (b.getD kk 0) : Nat) : Int)),
         ve (.int .u64 (((cc + (L.getD (ii + kk) 0)) + ((a.getD ii 0) * (b.getD kk 0)) : Nat) : Int)),
         vt] hs116 (.eq (.eq (.eq (.eq (.eq (.eq (.eq (.eq (.eq (.eq (.eq (.cons (fun v W W' hn ⟨b13, o14, he, h0⟩ => ⟨b13, o14, he, h0.new_ hn⟩) (.eq (.eq (.eq (.eq (.eq (.eq (.eq (.tt (.nil))))))))))))))))))))) ?_ ?_
      · skip
        refine .o1 (tk rfl rfl fun _ w hn k => ⟨_, v_move rfl (k.fx 7 h119), rfl⟩) ?_
        refine .o1 (tk rfl rfl fun _ w hn k => ⟨_, v_move rfl (k.fx 5 h118), rfl⟩) ?_
        refine .o1 (tk rfl rfl fun _ w hn k => ⟨_, v_move rfl (k.fx 6 h123), rfl⟩) ?_
        refine .o1 (tk rfl rfl fun _ w hn k => ⟨_, v_move rfl (k.fx 8 h120), rfl⟩) ?_
        refine .o1 (tk rfl rfl fun _ w hn k => ⟨_, v_bin rfl (k.eq1 2 31 rfl) (k.eq1 3 32 rfl) (fun _ => rfl) (n_add (by omega) (IntWalk.i64_in _ (by omega))), rfl⟩) ?_
        refine .o1 (tk rfl rfl fun _ w hn k => ⟨_, v_eptr rfl elW (k.eq1 1 30 rfl) (k.eq1 4 33 rfl) (by omega), rfl⟩) ?_
        refine .o1 (tk rfl rfl fun _ w hn k => ⟨_, v_load rfl (k.eq1 5 34 rfl) (l_own Try.isAgg50 (hr125.new_ hn).row (by omega)), rfl⟩) ?_
        refine .o1 (tk rfl rfl fun _ w hn k => ⟨_, v_conv rfl (k.eq1 6 35 rfl) (n_conv (by kernel_rfl) (by kernel_rfl) (by kernel_rfl) (IntWalk.u64_in _ (by omega))), rfl⟩) ?_
        refine .o1 (tk rfl rfl fun _ w hn k => ⟨_, v_bin rfl (k.eq1 0 29 rfl) (k.eq1 7 36 rfl) (fun _ => rfl) (n_add (by omega) (IntWalk.u64_in _ (by omega))), rfl⟩) ?_
        refine .o1 (tk rfl rfl fun _ w hn k => ⟨_, v_move rfl (k.fx 0 h121), rfl⟩) ?_
        refine .o1 (tk rfl rfl fun _ w hn k => ⟨_, v_move rfl (k.fx 6 h123), rfl⟩) ?_
        refine .o1 (tk rfl rfl fun _ w hn k => (by
              exact x_eaddr (k := .u32) rfl elW (k.eq1 9 38 rfl) (k.eq1 10 39 rfl) (hra.new_ (hN126.transNew hn)) (by omega) fun b11 o12 hme => ⟨b11, o12, rfl, hme⟩)) ?_
        refine .o1 (tk rfl rfl fun _ w hn k => (by
              obtain ⟨b15, o16, e17, hx18⟩ : (fun (v : Value) (W : World) => ∃ (b13 : Nat) (o14 : Nat), v = .pointer (some ⟨b13, o14, none⟩) ∧ SElem W b13 o14 (.int .u32 ((a.getD ii 0 : Nat) : Int))) _ _ := k.dep 11 40 (by kernel_rfl) (by kernel_rfl)
              exact ⟨_, v_load rfl e17 (l_one Try.isAgg50 hx18.1), rfl⟩)) ?_
        refine .o1 (tk rfl rfl fun _ w hn k => ⟨_, v_conv rfl (k.eq1 12 41 rfl) (n_conv (by kernel_rfl) (by kernel_rfl) (by kernel_rfl) (IntWalk.u64_in _ (by omega))), rfl⟩) ?_
        refine .o1 (tk rfl rfl fun _ w hn k => ⟨_, v_move rfl (k.fx 1 h122), rfl⟩) ?_
        refine .o1 (tk rfl rfl fun _ w hn k => ⟨_, v_move rfl (k.fx 8 h120), rfl⟩) ?_
        refine .o1 (ck rfl rfl rfl (fun _ w hn k => ⟨#[sv B b d, iv (kk : Int)], args2 (k.eq1 14 43 rfl) (k.eq1 15 44 rfl), fun _ => by kernel_rfl, rword_c _ _ _ _ _ (hrb.new_ (hN126.transNew hn)) hb (by omega)⟩) fun _ => rfl) ?_
        refine .o1 (tk rfl rfl fun _ w hn k => ⟨_, v_bin rfl (k.eq1 13 42 rfl) (k.eq1 16 45 rfl) (fun _ => rfl) (n_mul (Int.natCast_mul _ _).symm (IntWalk.u64_in _ (by omega))), rfl⟩) ?_
        refine .o1 (tk rfl rfl fun _ w hn k => ⟨_, v_bin rfl (k.eq1 8 37 rfl) (k.eq1 17 46 rfl) (fun _ => rfl) (n_add (by omega) (IntWalk.u64_in _ (by omega))), rfl⟩) ?_
        refine .off ?_
        exact .nil
      intro a131 w132 hn133 ha134
      have hs135 := ha134.size.trans hs116
      have hd136 := ha134.defers.trans hd117
      have h137 := ha134.fx 5 h118
      have h138 := ha134.fx 7 h119
      have h139 := ha134.fx 8 h120
      have h140 := ha134.fx 0 h121
      have h141 := ha134.fx 1 h122
      have h142 := ha134.fx 6 h123
      have h143 := ha134.ge 18 47 rfl
      have hr144 := hr125.new_ hn133
      have hN145 := hN126.transNew hn133
      clear hs116 hd117 h118 h119 h120 h121 h122 h123 hv128 hr125 hN126 ha134 hn133
      refine st_take rfl rfl (y_assign (v := .int .u64 (((cc + (L.getD (ii + kk) 0)) + ((a.getD ii 0) * (b.getD kk 0)) : Nat) : Int)) rfl h143) rfl ?_
      obtain ⟨a146, ha147⟩ : ∃ a', a' = a131.put (some 7) (.int .u64 (((cc + (L.getD (ii + kk) 0)) + ((a.getD ii 0) * (b.getD kk 0)) : Nat) : Int)) := ⟨_, rfl⟩
      have hs148 : a146.tmps.size = 60 := by rw [ha147, put_size]; exact hs135
      have hd149 : a146.defers = [] := by rw [ha147, put_defers]; exact hd136
      have h150 : a146.eval (.tmp 5) = sv (some ⟨gg, 0, none⟩) L cc22 := by rw [ha147, put_ne _ _ _ _ (by decide)]; exact h137
      have h151 : a146.eval (.tmp 8) = iv (kk : Int) := by rw [ha147, put_ne _ _ _ _ (by decide)]; exact h139
      have h152 : a146.eval (.tmp 0) = sv A a c := by rw [ha147, put_ne _ _ _ _ (by decide)]; exact h140
      have h153 : a146.eval (.tmp 1) = sv B b d := by rw [ha147, put_ne _ _ _ _ (by decide)]; exact h141
      have h154 : a146.eval (.tmp 6) = iv (ii : Int) := by rw [ha147, put_ne _ _ _ _ (by decide)]; exact h142
      have h155 : a146.eval (.tmp 47) = .int .u64 (((cc + (L.getD (ii + kk) 0)) + ((a.getD ii 0) * (b.getD kk 0)) : Nat) : Int) := by rw [ha147, put_ne _ _ _ _ (by decide)]; exact h143
      have h156 : a146.eval (.tmp 7) = .int .u64 (((cc + (L.getD (ii + kk) 0)) + ((a.getD ii 0) * (b.getD kk 0)) : Nat) : Int) := by rw [ha147]; exact put_same _ _ _ (by rw [hs135]; decide)
      show stepsTo _ _ _ _ _ (a131.put (some 7) (.int .u64 (((cc + (L.getD (ii + kk) 0)) + ((a.getD ii 0) * (b.getD kk 0)) : Nat) : Int))) _
      rw [← ha147]
      clear ha147 hs135 hd136 h137 h138 h139 h140 h141 h142 h143
      refine st_nil ?_
      clear h155
      refine hK130 _ _ ?_
      clear hK130 K130
      refine wp_seq_k fun K157 hK157 => ?_
      refine wp_g0 [true, true, true, true, true, true, true, true, false] [(8, false)] 60
        [ve (sv (some ⟨gg, 0, none⟩) L cc22),
         ve (iv (ii : Int)),
         ve (iv (kk : Int)),
         ve (iv ((ii + kk : Nat) : Int)),
         ve (.int .u64 (((cc + (L.getD (ii + kk) 0)) + ((a.getD ii 0) * (b.getD kk 0)) : Nat) : Int)),
         ve (.int .u64 ((((cc + (L.getD (ii + kk) 0)) + ((a.getD ii 0) * (b.getD kk 0))) % 4294967296 : Nat) : Int)),
         ve (.int .u32 ((((cc + (L.getD (ii + kk) 0)) + ((a.getD ii 0) * (b.getD kk 0))) % 4294967296 : Nat) : Int)),
         ve (.pointer (some ⟨gg, (ii + kk), none⟩)),
         vt] hs148 (.eq (.eq (.eq (.eq (.eq (.eq (.eq (.eq (.tt (.nil)))))))))) ?_ ?_
      · skip
        refine .o1 (tk rfl rfl fun _ w hn k => ⟨_, v_move rfl (k.fx 5 h150), rfl⟩) ?_
        refine .o1 (tk rfl rfl fun _ w hn k => ⟨_, v_move rfl (k.fx 6 h154), rfl⟩) ?_
        refine .o1 (tk rfl rfl fun _ w hn k => ⟨_, v_move rfl (k.fx 8 h151), rfl⟩) ?_
        refine .o1 (tk rfl rfl fun _ w hn k => ⟨_, v_bin rfl (k.eq1 1 49 rfl) (k.eq1 2 50 rfl) (fun _ => rfl) (n_add (by omega) (IntWalk.i64_in _ (by omega))), rfl⟩) ?_
        refine .o1 (tk rfl rfl fun _ w hn k => ⟨_, v_move rfl (k.fx 7 h156), rfl⟩) ?_
        refine .o1 (tk rfl rfl fun _ w hn k => ⟨_, v_bin rfl (k.eq1 4 52 rfl) rfl (fun _ => rfl) (n_andMask64 ((cc + (L.getD (ii + kk) 0)) + ((a.getD ii 0) * (b.getD kk 0))) (by omega)), rfl⟩) ?_
        refine .o1 (tk rfl rfl fun _ w hn k => ⟨_, v_conv rfl (k.eq1 5 53 rfl) (n_conv (by kernel_rfl) (by kernel_rfl) (by kernel_rfl) (IntWalk.u32_in _ (by omega))), rfl⟩) ?_
        refine .o1 (tk rfl rfl fun _ w hn k => ⟨_, v_eptr rfl elW (k.eq1 0 48 rfl) (k.eq1 3 51 rfl) (by omega), rfl⟩) ?_
        refine .off ?_
        exact .nil
      intro a158 w159 hn160 ha161
      have hs162 := ha161.size.trans hs148
      have hd163 := ha161.defers.trans hd149
      have h164 := ha161.fx 5 h150
      have h165 := ha161.fx 8 h151
      have h166 := ha161.fx 0 h152
      have h167 := ha161.fx 1 h153
      have h168 := ha161.fx 6 h154
      have h169 := ha161.fx 7 h156
      have h170 := ha161.ge 6 54 rfl
      have h171 := ha161.ge 7 55 rfl
      have hr172 := hr144.new_ hn160
      have hN173 := hN145.transNew hn160
      clear hs148 hd149 h150 h151 h152 h153 h154 h156 hr144 hN145 ha161 hn160
      obtain ⟨w174, -, hst175, hr176, hge177, hu178, hf179⟩ := s_elem (P := Try.prog) (t := 50) (i := (ii + kk)) (((((cc + (L.getD (ii + kk) 0)) + ((a.getD ii 0) * (b.getD kk 0))) % 4294967296 : Nat) : Int)) Try.sizeOf50 hr172 (by omega) (by omega)
      refine st_act rfl rfl fun K180 hL181 => a_store' rfl h171 h170 hst175 (hL181 _ _ trivial ?_)
      have hN182 := hN173.trans hu178 (fun k hk hkb => by subst hkb; omega)
      have h183 : a158.eval (.tmp 5) = sv (some ⟨gg, 0, none⟩) (L.set (ii + kk) (((cc + (L.getD (ii + kk) 0)) + ((a.getD ii 0) * (b.getD kk 0))) % 4294967296)) cc22 := h164.trans (sv_set _ _ _ _ _)
      clear hr172 hst175 K180 hL181 hN173 h164 hge177 hu178 hf179
      refine st_nil ?_
      clear h170 h171
      refine hK157 _ _ ?_
      clear hK157 K157
      refine wp_g0 [true, true, false] [(2, true)] 60
        [ve (.int .u64 (((cc + (L.getD (ii + kk) 0)) + ((a.getD ii 0) * (b.getD kk 0)) : Nat) : Int)),
         ve (.int .u64 ((((cc + (L.getD (ii + kk) 0)) + ((a.getD ii 0) * (b.getD kk 0))) / 4294967296 : Nat) : Int)),
         vt] hs162 (.eq (.eq (.tt (.nil)))) ?_ ?_
      · skip
        refine .o1 (tk rfl rfl fun _ w hn k => ⟨_, v_move rfl (k.fx 7 h169), rfl⟩) ?_
        refine .o1 (tk rfl rfl fun _ w hn k => ⟨_, v_bin rfl (k.eq1 0 56 rfl) rfl (fun _ => rfl) (n_shr ((cc + (L.getD (ii + kk) 0)) + ((a.getD ii 0) * (b.getD kk 0))) 32 (by decide)), rfl⟩) ?_
        refine .off ?_
        exact .nil
      intro a184 w185 hn186 ha187
      have hs188 := ha187.size.trans hs162
      have hd189 := ha187.defers.trans hd163
      have h190 := ha187.fx 5 h183
      have h191 := ha187.fx 8 h165
      have h192 := ha187.fx 0 h166
      have h193 := ha187.fx 1 h167
      have h194 := ha187.fx 6 h168
      have h195 := ha187.fx 7 h169
      have h196 := ha187.ge 1 57 rfl
      have hr197 := hr176.new_ hn186
      have hN198 := hN182.transNew hn186
      clear hs162 hd163 h183 h165 h166 h167 h168 h169 hr176 hN182 ha187 hn186
      refine st_take rfl rfl (y_assign (v := .int .u64 ((((cc + (L.getD (ii + kk) 0)) + ((a.getD ii 0) * (b.getD kk 0))) / 4294967296 : Nat) : Int)) rfl h196) rfl ?_
      obtain ⟨a199, ha200⟩ : ∃ a', a' = a184.put (some 7) (.int .u64 ((((cc + (L.getD (ii + kk) 0)) + ((a.getD ii 0) * (b.getD kk 0))) / 4294967296 : Nat) : Int)) := ⟨_, rfl⟩
      have hs201 : a199.tmps.size = 60 := by rw [ha200, put_size]; exact hs188
      have hd202 : a199.defers = [] := by rw [ha200, put_defers]; exact hd189
      have h203 : a199.eval (.tmp 5) = sv (some ⟨gg, 0, none⟩) (L.set (ii + kk) (((cc + (L.getD (ii + kk) 0)) + ((a.getD ii 0) * (b.getD kk 0))) % 4294967296)) cc22 := by rw [ha200, put_ne _ _ _ _ (by decide)]; exact h190
      have h204 : a199.eval (.tmp 8) = iv (kk : Int) := by rw [ha200, put_ne _ _ _ _ (by decide)]; exact h191
      have h205 : a199.eval (.tmp 0) = sv A a c := by rw [ha200, put_ne _ _ _ _ (by decide)]; exact h192
      have h206 : a199.eval (.tmp 1) = sv B b d := by rw [ha200, put_ne _ _ _ _ (by decide)]; exact h193
      have h207 : a199.eval (.tmp 6) = iv (ii : Int) := by rw [ha200, put_ne _ _ _ _ (by decide)]; exact h194
      have h208 : a199.eval (.tmp 57) = .int .u64 ((((cc + (L.getD (ii + kk) 0)) + ((a.getD ii 0) * (b.getD kk 0))) / 4294967296 : Nat) : Int) := by rw [ha200, put_ne _ _ _ _ (by decide)]; exact h196
      have h209 : a199.eval (.tmp 7) = .int .u64 ((((cc + (L.getD (ii + kk) 0)) + ((a.getD ii 0) * (b.getD kk 0))) / 4294967296 : Nat) : Int) := by rw [ha200]; exact put_same _ _ _ (by rw [hs188]; decide)
      show stepsTo _ _ _ _ _ (a184.put (some 7) (.int .u64 ((((cc + (L.getD (ii + kk) 0)) + ((a.getD ii 0) * (b.getD kk 0))) / 4294967296 : Nat) : Int))) _
      rw [← ha200]
      clear ha200 hs188 hd189 h190 h191 h192 h193 h194 h195 h196
      refine st_nil ?_
      clear h208
      refine hK129 _ _ ?_
      clear hK129 K129
      refine wp_g0 [true, true, false] [(2, true)] 60
        [ve (iv (kk : Int)),
         ve (iv ((kk + 1 : Nat) : Int)),
         vt] hs201 (.eq (.eq (.tt (.nil)))) ?_ ?_
      · skip
        refine .o1 (tk rfl rfl fun _ w hn k => ⟨_, v_move rfl (k.fx 8 h204), rfl⟩) ?_
        refine .o1 (tk rfl rfl fun _ w hn k => ⟨_, v_bin rfl (k.eq1 0 27 rfl) rfl (fun _ => rfl) (n_add (by omega) (IntWalk.i64_in _ (by omega))), rfl⟩) ?_
        refine .off ?_
        exact .nil
      intro a210 w211 hn212 ha213
      have hs214 := ha213.size.trans hs201
      have hd215 := ha213.defers.trans hd202
      have h216 := ha213.fx 5 h203
      have h217 := ha213.fx 8 h204
      have h218 := ha213.fx 0 h205
      have h219 := ha213.fx 1 h206
      have h220 := ha213.fx 6 h207
      have h221 := ha213.fx 7 h209
      have h222 := ha213.ge 1 28 rfl
      have hr223 := hr197.new_ hn212
      have hN224 := hN198.transNew hn212
      clear hs201 hd202 h203 h204 h205 h206 h207 h209 hr197 hN198 ha213 hn212
      refine st_take rfl rfl (y_assign (v := iv ((kk + 1 : Nat) : Int)) rfl h222) rfl ?_
      obtain ⟨a225, ha226⟩ : ∃ a', a' = a210.put (some 8) (iv ((kk + 1 : Nat) : Int)) := ⟨_, rfl⟩
      have hs227 : a225.tmps.size = 60 := by rw [ha226, put_size]; exact hs214
      have hd228 : a225.defers = [] := by rw [ha226, put_defers]; exact hd215
      have h229 : a225.eval (.tmp 5) = sv (some ⟨gg, 0, none⟩) (L.set (ii + kk) (((cc + (L.getD (ii + kk) 0)) + ((a.getD ii 0) * (b.getD kk 0))) % 4294967296)) cc22 := by rw [ha226, put_ne _ _ _ _ (by decide)]; exact h216
      have h230 : a225.eval (.tmp 0) = sv A a c := by rw [ha226, put_ne _ _ _ _ (by decide)]; exact h218
      have h231 : a225.eval (.tmp 1) = sv B b d := by rw [ha226, put_ne _ _ _ _ (by decide)]; exact h219
      have h232 : a225.eval (.tmp 6) = iv (ii : Int) := by rw [ha226, put_ne _ _ _ _ (by decide)]; exact h220
      have h233 : a225.eval (.tmp 7) = .int .u64 ((((cc + (L.getD (ii + kk) 0)) + ((a.getD ii 0) * (b.getD kk 0))) / 4294967296 : Nat) : Int) := by rw [ha226, put_ne _ _ _ _ (by decide)]; exact h221
      have h234 : a225.eval (.tmp 28) = iv ((kk + 1 : Nat) : Int) := by rw [ha226, put_ne _ _ _ _ (by decide)]; exact h222
      have h235 : a225.eval (.tmp 8) = iv ((kk + 1 : Nat) : Int) := by rw [ha226]; exact put_same _ _ _ (by rw [hs214]; decide)
      show stepsTo _ _ _ _ _ (a210.put (some 8) (iv ((kk + 1 : Nat) : Int))) _
      rw [← ha226]
      clear ha226 hs214 hd215 h216 h217 h218 h219 h220 h221 h222
      refine st_nil ?_
      clear h234
      refine then_n ?_
      exact ⟨_, ⟨kk + 1, (L.set (ii + kk) (((cc + (L.getD (ii + kk) 0)) + ((a.getD ii 0) * (b.getD kk 0))) % 4294967296)), (cc + L.getD (ii + kk) 0 + a.getD ii 0 * b.getD kk 0) / 4294967296, rfl, hs227, hd228, hN224, h229, (h233.trans (congrArg (Value.int .u64) (by omega))), (h235.trans (congrArg (Value.int .i64) (by omega))), h230, h231, h232, hr223, (by omega), (by omega), hst.1, (by rw [List.length_set]; exact hln), hst.2.2.2⟩, (by omega)⟩
    have ht127d := of_decide_eq_false ht127
    have hv236 : a112.eval (.tmp 26) = .bool false := h124.trans (congrArg Value.bool ht127)
    clear h124
    refine wp_cond_false hv236 ?_
    refine wp_exit ?_
    refine hK68 _ _ ?_
    clear hK68 K68 hK110 K110
    refine wp_g0 [true, true, false] [(2, true)] 60
      [ve (iv (ii : Int)),
       ve (iv ((ii + 1 : Nat) : Int)),
       vt] hs116 (.eq (.eq (.tt (.nil)))) ?_ ?_
    · skip
      refine .o1 (tk rfl rfl fun _ w hn k => ⟨_, v_move rfl (k.fx 6 h123), rfl⟩) ?_
      refine .o1 (tk rfl rfl fun _ w hn k => ⟨_, v_bin rfl (k.eq1 0 20 rfl) rfl (fun _ => rfl) (n_add (by omega) (IntWalk.i64_in _ (by omega))), rfl⟩) ?_
      refine .off ?_
      exact .nil
    intro a237 w238 hn239 ha240
    have hs241 := ha240.size.trans hs116
    have hd242 := ha240.defers.trans hd117
    have h243 := ha240.fx 5 h118
    have h244 := ha240.fx 0 h121
    have h245 := ha240.fx 1 h122
    have h246 := ha240.fx 6 h123
    have h247 := ha240.ge 1 21 rfl
    have hr248 := hr125.new_ hn239
    have hN249 := hN126.transNew hn239
    clear hs116 hd117 h118 h119 h120 h121 h122 h123 hv236 hr125 hN126 ha240 hn239
    refine st_take rfl rfl (y_assign (v := iv ((ii + 1 : Nat) : Int)) rfl h247) rfl ?_
    obtain ⟨a250, ha251⟩ : ∃ a', a' = a237.put (some 6) (iv ((ii + 1 : Nat) : Int)) := ⟨_, rfl⟩
    have hs252 : a250.tmps.size = 60 := by rw [ha251, put_size]; exact hs241
    have hd253 : a250.defers = [] := by rw [ha251, put_defers]; exact hd242
    have h254 : a250.eval (.tmp 5) = sv (some ⟨gg, 0, none⟩) L cc22 := by rw [ha251, put_ne _ _ _ _ (by decide)]; exact h243
    have h255 : a250.eval (.tmp 0) = sv A a c := by rw [ha251, put_ne _ _ _ _ (by decide)]; exact h244
    have h256 : a250.eval (.tmp 1) = sv B b d := by rw [ha251, put_ne _ _ _ _ (by decide)]; exact h245
    have h257 : a250.eval (.tmp 21) = iv ((ii + 1 : Nat) : Int) := by rw [ha251, put_ne _ _ _ _ (by decide)]; exact h247
    have h258 : a250.eval (.tmp 6) = iv ((ii + 1 : Nat) : Int) := by rw [ha251]; exact put_same _ _ _ (by rw [hs241]; decide)
    show stepsTo _ _ _ _ _ (a237.put (some 6) (iv ((ii + 1 : Nat) : Int))) _
    rw [← ha251]
    clear ha251 hs241 hd242 h243 h244 h245 h246 h247
    refine st_nil ?_
    clear h257
    refine then_n ?_
    exact ⟨_, ⟨ii + 1, L, rfl, hs252, hd253, hN249, h254, (h258.trans (congrArg (Value.int .i64) (by omega))), h255, h256, hr248, (by omega), hL, hln, (times_row ha hb (by omega) hL hv0 (by omega) hv)⟩, (by omega)⟩
  have ht66d := of_decide_eq_false ht66
  have hv259 : a53.eval (.tmp 19) = .bool false := h63.trans (congrArg Value.bool ht66)
  clear h63
  refine wp_cond_false hv259 ?_
  refine wp_exit ?_
  refine hK26 _ _ ?_
  clear hK26 K26 hK51 K51
  refine wp_seq_k fun K260 hK260 => ?_
  refine wp_g0 [true, true, true] [] 60
    [ve (sv (some ⟨gg, 0, none⟩) L0 cc22),
     (fun (v : Value) (W : World) => ∃ (A21 : Option Addr) (c22 : Nat), v = sv A21 (canon (val L0)) c22 ∧ SOwn W w54.heap.size 50 .u32 A21 (canon (val L0)) c22),
     (fun (v : Value) (W : World) => ∃ (A27 : Option Addr) (c28 : Nat), v = sv A27 (canon (val L0)) c28 ∧ SOwn W w54.heap.size 50 .u32 A27 (canon (val L0)) c28)] hs57 (.eq (.cons (fun v W W' hn ⟨A21, c22, he, h0⟩ => ⟨A21, c22, he, h0.new_ hn⟩) (.cons (fun v W W' hn ⟨A27, c28, he, h0⟩ => ⟨A27, c28, he, h0.new_ hn⟩) (.nil)))) ?_ ?_
  · skip
    refine .o1 (tk rfl rfl fun _ w hn k => ⟨_, v_move rfl (k.fx 5 h59), rfl⟩) ?_
    refine .o1 (tkC rfl (noG rfl) rfl fun _ w hn k => (by
          refine ⟨#[sv (some ⟨gg, 0, none⟩) L0 cc22], _, args1 (k.eq1 0 58 rfl), fun w => by kernel_rfl, rtrim_c _ _ _ _ (hr64.new_ hn).row hL0 (by first | omega | (simp only [List.length_nil, List.length_cons, List.length_set, List.length_replicate]; omega)), ?_⟩
          rintro e w' ⟨A19, c20, rfl, hmo, hm⟩
          exact ⟨_, rfl, hm, ⟨A19, c20, rfl, (hmo.more hn.size)⟩⟩)) ?_
    refine .o1 (tk rfl rfl fun _ w hn k => (by
          obtain ⟨A23, c24, e25, hx26⟩ : (fun (v : Value) (W : World) => ∃ (A21 : Option Addr) (c22 : Nat), v = sv A21 (canon (val L0)) c22 ∧ SOwn W w54.heap.size 50 .u32 A21 (canon (val L0)) c22) _ _ := k.dep 1 59 (by kernel_rfl) (by kernel_rfl)
          exact ⟨_, v_assign rfl e25, ⟨A23, c24, rfl, hx26⟩⟩)) ?_
    exact .nil
  intro a261 w262 hn263 ha264
  have hs265 := ha264.size.trans hs57
  have hd266 := ha264.defers.trans hd58
  obtain ⟨A268, cc269, h267, hr270⟩ : (fun (v : Value) (W : World) => ∃ (A27 : Option Addr) (c28 : Nat), v = sv A27 (canon (val L0)) c28 ∧ SOwn W w54.heap.size 50 .u32 A27 (canon (val L0)) c28) _ _ := ha264.got 2 4 rfl (by kernel_rfl)
  have h267 : a261.eval (.tmp 4) = sv A268 (canon (val L0)) cc269 := h267
  have hr271 := hr270.more hN65.size
  have hN272 := hN65.transNew hn263
  clear hs57 hd58 h59 h60 h61 h62 hv259 hr64 hr270 hN65 ha264 hn263
  refine st_nil ?_
  refine hK260 _ _ ?_
  clear hK260 K260
  refine wp_ret (ret_k hd266 (v := sv A268 (canon (val L0)) cc269) (res_t rfl h267 _) ?_)
  have hsp : (canon (val L0)) = (canon (val a * val b)) := congrArg canon (by rw [hv0, List.take_of_length_le (by omega)])
  exact ⟨A268, cc269, congrArg (fun l => Ending.returned (sv A268 l cc269)) hsp, by rw [← hsp]; exact hr271, hN272⟩
end Go.Proofs.Ytfhflpchfgkgcaa
