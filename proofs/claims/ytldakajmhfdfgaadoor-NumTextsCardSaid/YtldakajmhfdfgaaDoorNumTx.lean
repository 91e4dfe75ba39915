/- Package renref1: texts. -/
import Derived.Test.YtldakajmhfdfgaaDoorNumRa
import Derived.Test.YtldakajmhfdfgaaDoorNumDc
import Derived.Test.YtldakajmhfdfgaaDoorLoop
import Derived.Test.YtldakajmhfdfgaaDoorNumMath11
namespace Go.Proofs.YtldakajmhfdfgaaDoor
open Go.RowKit
set_option linter.unusedSimpArgs false
set_option linter.unusedVariables false
def byteI (s : ByteArray) (i : Int) : Int := ((s.data.toList.getD i.toNat 0).toNat : Int)
theorem byte_bd (s : ByteArray) (i : Int) : 0 ≤ byteI s i ∧ byteI s i ≤ 255 := by
  have := (s.data.toList.getD i.toNat 0).toNat_lt
  unfold byteI; omega
theorem v_idxs {P : Program} {o : Oper} {a : Act} {w : World} {t : TypeId} {x y : Operand} {s : ByteArray} {k : IntKind} {i : Int} (ho : o.op = .index t x y) (hx : a.eval x = .string s) (hy : a.eval y = .int k i) (hu : P.underlying t = some .string) (hb : 0 ≤ i ∧ i < s.size) :
    (execOp a.eval o).run P w = .ok (.value (.int .u8 (byteI s i))) w := by
  have h := run_index_string w t s k i hu
  rw [dif_pos hb] at h
  have e : byteI s i = ((s[i.toNat]'(by omega)).toNat : Int) := by
    have e2 : s.data.toList.length = s.size := Array.length_toList
    have hl : i.toNat < s.data.toList.length := by omega
    unfold byteI
    rw [List.getD_eq_getElem?_getD, List.getElem?_eq_getElem hl]; rfl
  rw [e]
  simp [execOp, ho, hx, hy, h]
theorem v_lens {P : Program} {o : Oper} {a : Act} {w : World} {x : Operand} {ty : TypeId} {s : ByteArray} (ho : o.op = .call { callee := .builtin .len, args := #[x], argTypes := #[ty] }) (hx : a.eval x = .string s) (hu : P.underlying ty = some .string) : (execOp a.eval o).run P w = .ok (.value (.int .i64 (s.size : Int))) w := by
  have h := run_len_string w ty o.type s hu
  simp [execOp, ho, resolve, invoke, builtin, hx, h, goInt]
theorem r_subU8 {P : Program} {t : TypeId} {x y r : Int} (h : x - y = r) (hr : 0 ≤ r ∧ r ≤ 255) : ∀ w, (binOp .sub t (.int .u8 x) (.int .u8 y)).run P w = .ok (.int .u8 r) w := by
  intro w; subst h; simp [binOp, Op.intArith, IntWalk.u8_in (x - y) hr]
def accB (s : ByteArray) : Nat → Int
  | 0 => 0
  | j + 1 => if decide (byteI s j < 48) then accB s j else if decide (byteI s j ≤ 57) then 10 * accB s j + (byteI s j - 48) else accB s j
def accN (s : ByteArray) : Int := if s.size < 18 then accB s s.size else 0
def sgnN (s : ByteArray) : Int := if !decide ((s.size : Int) ≤ 0) && decide (byteI s 0 = 45) then -(accN s) else accN s
def rParseM (s : ByteArray) : Nm × Bool := if strEq ⟨#[78, 97, 78]⟩ s then (⟨2, 0⟩, true) else if strEq ⟨#[73, 110, 102, 105, 110, 105, 116, 121]⟩ s then (⟨3, 0⟩, true) else if strEq ⟨#[45, 73, 110, 102, 105, 110, 105, 116, 121]⟩ s then (⟨4, 0⟩, true)
  else if (ofM (sgnN s)).2 then (if strEq (itoaS (sgnN s)) s then ((ofM (sgnN s)).1, true) else (⟨2, 0⟩, false)) else (⟨2, 0⟩, false)
theorem acc_yes {s : ByteArray} {j : Nat} (h1 : decide (byteI s (j : Int) < 48) = false) (h2 : decide (byteI s (j : Int) ≤ 57) = true) : 10 * accB s j + (byteI s j - 48) = accB s (j + 1) := by simp only [accB, h1, h2]; rfl
theorem acc_no1 {s : ByteArray} {j : Nat} (h1 : decide (byteI s (j : Int) < 48) = true) : accB s j = accB s (j + 1) := by simp only [accB, h1]; rfl
theorem acc_no2 {s : ByteArray} {j : Nat} (h2 : decide (byteI s (j : Int) ≤ 57) = false) : accB s j = accB s (j + 1) := by simp only [accB, h2]; split <;> rfl
theorem acc_pow (s : ByteArray) : ∀ j : Nat, 0 ≤ accB s j ∧ accB s j + 1 ≤ 10 ^ j
  | 0 => by simp [accB]
  | j + 1 => by
    have ih := acc_pow s j
    have hp : (10 : Int) ^ (j + 1) = 10 * 10 ^ j := by rw [Int.pow_succ]; omega
    have hb := byte_bd s j
    rw [hp]
    simp only [accB]
    split
    · omega
    · split
      · rename_i h1 h2
        simp only [decide_eq_true_eq] at h1 h2
        omega
      · omega
theorem acc_bd (s : ByteArray) (j : Nat) (h : j ≤ 17) : 0 ≤ accB s j ∧ accB s j ≤ 100000000000000000 := by
  have := acc_pow s j
  have hp : (10 : Int) ^ j ≤ 10 ^ 17 := by
    have h2 : ∀ n ≤ 17, (10 : Int) ^ n ≤ 10 ^ 17 := by decide
    exact h2 j h
  have e : (10 : Int) ^ 17 = 100000000000000000 := by decide
  omega
theorem acc_end {s : ByteArray} {j : Nat} (hj : j ≤ s.size) (h18 : 0 < j → s.size < 18) (h : ¬ (j : Int) < s.size ∨ ¬ (s.size : Int) < 18) : accB s j = accN s := by
  unfold accN
  rcases Nat.eq_zero_or_pos j with h0 | h0
  · subst h0
    split
    · have : s.size = 0 := by omega
      rw [this]
    · rfl
  · have := h18 h0
    rw [if_pos this]
    have : j = s.size := by omega
    rw [this]
theorem accN_bd (s : ByteArray) : 0 ≤ accN s ∧ accN s ≤ 100000000000000000 := by
  unfold accN; split
  · exact acc_bd s _ (by omega)
  · omega
theorem sgn_bd (s : ByteArray) : (0 ≤ accN s ∧ accN s ≤ 100000000000000000) ∧ -100000000000000000 ≤ sgnN s ∧ sgnN s ≤ 100000000000000000 := by
  have := accN_bd s
  unfold sgnN; split <;> omega
theorem sgn_no1 {s : ByteArray} (h : decide ((s.size : Int) ≤ 0) = true) : accN s = sgnN s := by unfold sgnN; rw [h]; rfl
theorem sgn_no2 {s : ByteArray} (h : decide (byteI s 0 = 45) = false) : accN s = sgnN s := by unfold sgnN; rw [h, Bool.and_false]; rfl
theorem sgn_yes {s : ByteArray} (h : decide ((s.size : Int) ≤ 0) = false) (h2 : decide (byteI s 0 = 45) = true) : -(accN s) = sgnN s := by unfold sgnN; rw [h, h2]; rfl
set_option maxHeartbeats 4000000 in
set_option maxRecDepth 100000 in
theorem rtext_c (a : Nm) (w : World) : Calls Tryd.prog 21 #[nv a] w (IsRet (.string (textM a)) w) := by
  refine enter_abs Tryd.func21 rfl fun a0 hs0 hd0 hp => ?_
  have hs0 : a0.tmps.size = 17 := hs0
  have hN0 : New w w := Upd.refl _ _
  have hp0 : a0.eval (.tmp 0) = nv a := hp 0 _ rfl
  clear hp
  refine wp_seq_k fun K1 hK1 => ?_
  refine wp_g [true, true] [] [] 17
    [IsNew w 23 [iv a.k, iv a.n],
     ve (.string ⟨#[]⟩)]
    [0] (newsCons (fun v w h => IsNew.old h) newsNil) hs0 (.nw (.eq (.nil))) ?_ (fun i h => by cases h) ?_
  · skip
    refine .o2 (step_allocN (cs := [iv a.k, iv a.n]) (t := 23) rfl (noG rfl) (fun _ w hn k => v_box rfl (k.fx 0 hp0) (fun w => rfl)) (fun q _ hq hb => ⟨q, rfl, hq, hb⟩)) ?_
    refine .o1 (tk rfl rfl fun _ w hn k => ⟨_, v_assign rfl rfl, rfl⟩) ?_
    exact .nil
  intro a2 w3 hn4 ha5
  have hs6 := ha5.size.trans hs0
  have hd7 := ha5.defers.trans hd0
  obtain ⟨q9, h8, hq10, hb11⟩ : IsNew _ _ _ _ _ := ha5.got 0 1 rfl (by kernel_rfl)
  have h12 := ha5.ge 1 2 rfl
  have hq13 := Nat.le_trans hN0.size hq10
  have hN14 := hN0.transNew hn4
  clear hs0 hd0 hp0 hq10 hN0 ha5 hn4
  refine st_nil ?_
  refine hK1 _ _ ?_
  clear hK1 K1
  refine wp_seq_k fun K15 hK15 => ?_
  refine wp_g [true, true, true, false] [] [(3, false)] 17
    [ve (nv a),
     ve (nv (asM a)),
     IsNew w3 23 [iv 0, iv 0],
     vt]
    [2] (newsCons (fun v w h => IsNew.old h) newsNil) hs6 (.eq (.eq (.nw (.tt (.nil))))) ?_ (fun i h => by cases h) ?_
  · skip
    refine .o1 (tk rfl rfl fun _ w hn k => ⟨_, v_load rfl (k.fx 1 h8) (l_two Tryd.isAgg23 Tryd.sizeOf23 (hb11.new_ hn)), rfl⟩) ?_
    refine .o1 (ck rfl rfl rfl (fun _ w hn k => ⟨#[nv a], args1 (k.eq1 0 4 rfl), fun _ => by kernel_rfl, good_c a _⟩) fun _ => rfl) ?_
    refine .o2 (step_allocN (cs := [iv 0, iv 0]) (t := 23) rfl (noG rfl) (fun _ w hn k => rfl) (fun q _ hq hb => ⟨q, rfl, hq, hb⟩)) ?_
    refine .off ?_
    exact .nil
  intro a16 w17 hn18 ha19
  have hs20 := ha19.size.trans hs6
  have hd21 := ha19.defers.trans hd7
  have h22 := ha19.fx 2 h12
  have h23 := ha19.ge 1 5 rfl
  obtain ⟨q25, h24, hq26, hb27⟩ : IsNew _ _ _ _ _ := ha19.got 2 3 rfl (by kernel_rfl)
  have hq28 := Nat.le_trans hN14.size hq26
  have hN29 := hN14.transNew hn18
  clear hs6 hd7 h8 h12 hb11 hq13 hq26 hN14 ha19 hn18
  have hbd_a := as_bd a
  obtain ⟨w30, -, hst31, hb32, hu33, hf34⟩ := s_two (v0 := iv ((asM a).k)) (v1 := iv ((asM a).n)) Tryd.sizeOf23 rfl rfl rfl hb27
  refine st_act rfl rfl fun K35 hL36 => a_store' rfl h24 h23 hst31 (hL36 _ _ trivial ?_)
  have hN37 := hN29.trans hu33 (fun k hk hkb => by subst hkb; omega)
  clear hb27 hst31 K35 hL36 hN29 hu33 hf34
  refine st_nil ?_
  clear h23
  refine hK15 _ _ ?_
  clear hK15 K15
  refine wp_seq_k fun K38 hK38 => ?_
  refine wp_g0 [true, true] [] 17
    [ve (pv q25),
     ve (iv ((asM a).k))] hs20 (.eq (.eq (.nil))) ?_ ?_
  · skip
    refine .o1 (tk rfl rfl fun _ w hn k => ⟨_, v_field rfl (k.fx 3 h24) (fun w => rfl), rfl⟩) ?_
    refine .o1 (tk rfl rfl fun _ w hn k => ⟨_, v_load rfl (k.eq1 0 6 rfl) (l_one Tryd.isAgg3 ((hb32.new_ hn).cell 0)), rfl⟩) ?_
    exact .nil
  intro a39 w40 hn41 ha42
  have hs43 := ha42.size.trans hs20
  have hd44 := ha42.defers.trans hd21
  have h45 := ha42.fx 2 h22
  have h46 := ha42.fx 3 h24
  have h47 := ha42.ge 1 7 rfl
  have hb48 := hb32.new_ hn41
  have hN49 := hN37.transNew hn41
  clear hs20 hd21 h22 h24 hb32 hN37 ha42 hn41
  refine st_nil ?_
  refine hK38 _ _ ?_
  clear hK38 K38
  refine wp_block ?_
  refine wp_seq_k fun K50 hK50 => ?_
  refine wp_g0 [true, true] [] 17
    [ve (.bool (decide (((asM a).k) = 2))),
     ve (.bool (decide (((asM a).k) = 2)))] hs43 (.eq (.eq (.nil))) ?_ ?_
  · skip
    refine .o1 (tk rfl rfl fun _ w hn k => ⟨_, v_bin rfl (k.fx 7 h47) rfl (fun _ => rfl) (r_eql rfl), rfl⟩) ?_
    refine .o1 (tk rfl rfl fun _ w hn k => ⟨_, v_assign rfl (k.eq1 0 12 rfl), rfl⟩) ?_
    exact .nil
  intro a51 w52 hn53 ha54
  have hs55 := ha54.size.trans hs43
  have hd56 := ha54.defers.trans hd44
  have h57 := ha54.fx 2 h45
  have h58 := ha54.fx 3 h46
  have h59 := ha54.fx 7 h47
  have h60 := ha54.ge 1 11 rfl
  have hb61 := hb48.new_ hn53
  have hN62 := hN49.transNew hn53
  clear hs43 hd44 h45 h46 h47 hb48 hN49 ha54 hn53
  refine st_nil ?_
  refine hK50 _ _ ?_
  clear hK50 K50
  rcases Bool.eq_false_or_eq_true (decide (((asM a).k) = 2)) with ht63 | ht63
  · skip
    have ht63d := of_decide_eq_true ht63
    have hv64 : a51.eval (.tmp 11) = .bool true := h60.trans (congrArg Value.bool ht63)
    clear h60
    refine wp_cond_true hv64 ?_
    refine wp_seq_k fun K65 hK65 => ?_
    refine wp_g0 [true] [] 17
      [ve (.string ⟨#[78, 97, 78]⟩)] hs55 (.eq (.nil)) ?_ ?_
    · skip
      refine .o1 (tk rfl rfl fun _ w hn k => ⟨_, v_assign rfl rfl, rfl⟩) ?_
      exact .nil
    intro a66 w67 hn68 ha69
    have hs70 := ha69.size.trans hs55
    have hd71 := ha69.defers.trans hd56
    have h72 := ha69.ge 0 2 rfl
    have hN73 := hN62.transNew hn68
    clear hs55 hd56 h57 h58 h59 hv64 hb61 hq28 hN62 ha69 hn68
    refine st_nil ?_
    refine hK65 _ _ ?_
    clear hK65 K65
    refine wp_ret (ret_k hd71 (v := .string ⟨#[78, 97, 78]⟩) (res_t rfl h72 _) ?_)
    refine ⟨?_, hN73⟩
    show Ending.returned (.string ⟨#[78, 97, 78]⟩) = Ending.returned (.string (textM a))
    first | rfl | (simp [textM, ht63])
  have ht63d := of_decide_eq_false ht63
  have hv74 : a51.eval (.tmp 11) = .bool false := h60.trans (congrArg Value.bool ht63)
  clear h60
  refine wp_cond_false hv74 ?_
  refine wp_seq_k fun K75 hK75 => ?_
  refine wp_g0 [true, true] [] 17
    [ve (.bool (decide (((asM a).k) = 3))),
     ve (.bool (decide (((asM a).k) = 3)))] hs55 (.eq (.eq (.nil))) ?_ ?_
  · skip
    refine .o1 (tk rfl rfl fun _ w hn k => ⟨_, v_bin rfl (k.fx 7 h59) rfl (fun _ => rfl) (r_eql rfl), rfl⟩) ?_
    refine .o1 (tk rfl rfl fun _ w hn k => ⟨_, v_assign rfl (k.eq1 0 14 rfl), rfl⟩) ?_
    exact .nil
  intro a76 w77 hn78 ha79
  have hs80 := ha79.size.trans hs55
  have hd81 := ha79.defers.trans hd56
  have h82 := ha79.fx 2 h57
  have h83 := ha79.fx 3 h58
  have h84 := ha79.fx 7 h59
  have h85 := ha79.ge 1 13 rfl
  have hb86 := hb61.new_ hn78
  have hN87 := hN62.transNew hn78
  clear hs55 hd56 h57 h58 h59 hv74 hb61 hN62 ha79 hn78
  refine st_nil ?_
  refine hK75 _ _ ?_
  clear hK75 K75
  rcases Bool.eq_false_or_eq_true (decide (((asM a).k) = 3)) with ht88 | ht88
  · skip
    have ht88d := of_decide_eq_true ht88
    have hv89 : a76.eval (.tmp 13) = .bool true := h85.trans (congrArg Value.bool ht88)
    clear h85
    refine wp_cond_true hv89 ?_
    refine wp_seq_k fun K90 hK90 => ?_
    refine wp_g0 [true] [] 17
      [ve (.string ⟨#[73, 110, 102, 105, 110, 105, 116, 121]⟩)] hs80 (.eq (.nil)) ?_ ?_
    · skip
      refine .o1 (tk rfl rfl fun _ w hn k => ⟨_, v_assign rfl rfl, rfl⟩) ?_
      exact .nil
    intro a91 w92 hn93 ha94
    have hs95 := ha94.size.trans hs80
    have hd96 := ha94.defers.trans hd81
    have h97 := ha94.ge 0 2 rfl
    have hN98 := hN87.transNew hn93
    clear hs80 hd81 h82 h83 h84 hv89 hb86 hq28 hN87 ha94 hn93
    refine st_nil ?_
    refine hK90 _ _ ?_
    clear hK90 K90
    refine wp_ret (ret_k hd96 (v := .string ⟨#[73, 110, 102, 105, 110, 105, 116, 121]⟩) (res_t rfl h97 _) ?_)
    refine ⟨?_, hN98⟩
    show Ending.returned (.string ⟨#[73, 110, 102, 105, 110, 105, 116, 121]⟩) = Ending.returned (.string (textM a))
    first | rfl | (simp [textM, ht63, ht88])
  have ht88d := of_decide_eq_false ht88
  have hv99 : a76.eval (.tmp 13) = .bool false := h85.trans (congrArg Value.bool ht88)
  clear h85
  refine wp_cond_false hv99 ?_
  refine wp_seq_k fun K100 hK100 => ?_
  refine wp_g0 [true, true] [] 17
    [ve (.bool (decide (((asM a).k) = 4))),
     ve (.bool (decide (((asM a).k) = 4)))] hs80 (.eq (.eq (.nil))) ?_ ?_
  · skip
    refine .o1 (tk rfl rfl fun _ w hn k => ⟨_, v_bin rfl (k.fx 7 h84) rfl (fun _ => rfl) (r_eql rfl), rfl⟩) ?_
    refine .o1 (tk rfl rfl fun _ w hn k => ⟨_, v_assign rfl (k.eq1 0 16 rfl), rfl⟩) ?_
    exact .nil
  intro a101 w102 hn103 ha104
  have hs105 := ha104.size.trans hs80
  have hd106 := ha104.defers.trans hd81
  have h107 := ha104.fx 2 h82
  have h108 := ha104.fx 3 h83
  have h109 := ha104.ge 1 15 rfl
  have hb110 := hb86.new_ hn103
  have hN111 := hN87.transNew hn103
  clear hs80 hd81 h82 h83 h84 hv99 hb86 hN87 ha104 hn103
  refine st_nil ?_
  refine hK100 _ _ ?_
  clear hK100 K100
  rcases Bool.eq_false_or_eq_true (decide (((asM a).k) = 4)) with ht112 | ht112
  · skip
    have ht112d := of_decide_eq_true ht112
    have hv113 : a101.eval (.tmp 15) = .bool true := h109.trans (congrArg Value.bool ht112)
    clear h109
    refine wp_cond_true hv113 ?_
    refine wp_seq_k fun K114 hK114 => ?_
    refine wp_g0 [true] [] 17
      [ve (.string ⟨#[45, 73, 110, 102, 105, 110, 105, 116, 121]⟩)] hs105 (.eq (.nil)) ?_ ?_
    · skip
      refine .o1 (tk rfl rfl fun _ w hn k => ⟨_, v_assign rfl rfl, rfl⟩) ?_
      exact .nil
    intro a115 w116 hn117 ha118
    have hs119 := ha118.size.trans hs105
    have hd120 := ha118.defers.trans hd106
    have h121 := ha118.ge 0 2 rfl
    have hN122 := hN111.transNew hn117
    clear hs105 hd106 h107 h108 hv113 hb110 hq28 hN111 ha118 hn117
    refine st_nil ?_
    refine hK114 _ _ ?_
    clear hK114 K114
    refine wp_ret (ret_k hd120 (v := .string ⟨#[45, 73, 110, 102, 105, 110, 105, 116, 121]⟩) (res_t rfl h121 _) ?_)
    refine ⟨?_, hN122⟩
    show Ending.returned (.string ⟨#[45, 73, 110, 102, 105, 110, 105, 116, 121]⟩) = Ending.returned (.string (textM a))
    first | rfl | (simp [textM, ht63, ht88, ht112])
  have ht112d := of_decide_eq_false ht112
  have hv123 : a101.eval (.tmp 15) = .bool false := h109.trans (congrArg Value.bool ht112)
  clear h109
  refine wp_cond_false hv123 ?_
  refine wp_seq_k fun K124 hK124 => ?_
  refine wp_g0 [true, true, true, true] [] 17
    [ve (.pointer (some ⟨q25, 1, none⟩)),
     ve (iv ((asM a).n)),
     ve (.string (itoaS ((asM a).n))),
     ve (.string (itoaS ((asM a).n)))] hs105 (.eq (.eq (.eq (.eq (.nil))))) ?_ ?_
  · skip
    refine .o1 (tk rfl rfl fun _ w hn k => ⟨_, v_field rfl (k.fx 3 h108) (fun w => rfl), rfl⟩) ?_
    refine .o1 (tk rfl rfl fun _ w hn k => ⟨_, v_load rfl (k.eq1 0 8 rfl) (l_one Tryd.isAgg3 ((hb110.new_ hn).cell 1)), rfl⟩) ?_
    refine .o1 (ck rfl rfl rfl (fun _ w hn k => ⟨#[iv ((asM a).n)], args1 (k.eq1 1 9 rfl), fun _ => by kernel_rfl, dec_c _ _ (by omega) (by omega)⟩) fun _ => rfl) ?_
    refine .o1 (tk rfl rfl fun _ w hn k => ⟨_, v_assign rfl (k.eq1 2 10 rfl), rfl⟩) ?_
    exact .nil
  intro a125 w126 hn127 ha128
  have hs129 := ha128.size.trans hs105
  have hd130 := ha128.defers.trans hd106
  have h131 := ha128.ge 3 2 rfl
  have hN132 := hN111.transNew hn127
  clear hs105 hd106 h107 h108 hv123 hb110 hq28 hN111 ha128 hn127
  refine st_nil ?_
  refine hK124 _ _ ?_
  clear hK124 K124
  refine wp_ret (ret_k hd130 (v := .string (itoaS ((asM a).n))) (res_t rfl h131 _) ?_)
  refine ⟨?_, hN132⟩
  show Ending.returned (.string (itoaS ((asM a).n))) = Ending.returned (.string (textM a))
  first | rfl | (simp [textM, ht63, ht88, ht112])
theorem rtext_k2 (w : World) : Calls Tryd.prog 21 #[nv (Nm.mk 2 0)] w (IsRet (.string ⟨#[78, 97, 78]⟩) w) := rtext_c (Nm.mk 2 0) w
theorem rtext_k3 (w : World) : Calls Tryd.prog 21 #[nv (Nm.mk 3 0)] w (IsRet (.string ⟨#[73, 110, 102, 105, 110, 105, 116, 121]⟩) w) := rtext_c (Nm.mk 3 0) w
theorem rtext_k4 (w : World) : Calls Tryd.prog 21 #[nv (Nm.mk 4 0)] w (IsRet (.string ⟨#[45, 73, 110, 102, 105, 110, 105, 116, 121]⟩) w) := rtext_c (Nm.mk 4 0) w
set_option maxHeartbeats 16000000 in
set_option maxRecDepth 100000 in
theorem rparse_c (s : ByteArray) (w : World) : Calls Tryd.prog 17 #[.string s] w (IsRet (.tuple #[nv ((rParseM s).1), .bool ((rParseM s).2)]) w) := by
  refine enter_abs Tryd.func17 rfl fun a0 hs0 hd0 hp => ?_
  have hs0 : a0.tmps.size = 74 := hs0
  have hN0 : New w w := Upd.refl _ _
  have hp0 : a0.eval (.tmp 0) = .string s := hp 0 _ rfl
  clear hp
  refine wp_seq_k fun K1 hK1 => ?_
  refine wp_g [true, true] [] [] 74
    [IsNew w 23 [iv 0, iv 0],
     ve (.bool false)]
    [0] (newsCons (fun v w h => IsNew.old h) newsNil) hs0 (.nw (.eq (.nil))) ?_ (fun i h => by cases h) ?_
  · skip
    refine .o2 (step_allocN (cs := [iv 0, iv 0]) (t := 23) rfl (noG rfl) (fun _ w hn k => rfl) (fun q _ hq hb => ⟨q, rfl, hq, hb⟩)) ?_
    refine .o1 (tk rfl rfl fun _ w hn k => ⟨_, v_assign rfl rfl, rfl⟩) ?_
    exact .nil
  intro a2 w3 hn4 ha5
  have hs6 := ha5.size.trans hs0
  have hd7 := ha5.defers.trans hd0
  have h8 := ha5.fx 0 hp0
  obtain ⟨q10, h9, hq11, hb12⟩ : IsNew _ _ _ _ _ := ha5.got 0 2 rfl (by kernel_rfl)
  have h13 := ha5.ge 1 3 rfl
  have hq14 := Nat.le_trans hN0.size hq11
  have hN15 := hN0.transNew hn4
  clear hs0 hd0 hp0 hq11 hN0 ha5 hn4
  refine st_nil ?_
  refine hK1 _ _ ?_
  clear hK1 K1
  refine wp_seq_k fun K16 hK16 => ?_
  refine wp_seq_k fun K17 hK17 => ?_
  refine wp_g0 [true] [] 74
    [ve (iv 2)] hs6 (.eq (.nil)) ?_ ?_
  · skip
    refine .o1 (tk rfl rfl fun _ w hn k => ⟨_, v_assign rfl rfl, rfl⟩) ?_
    exact .nil
  intro a18 w19 hn20 ha21
  have hs22 := ha21.size.trans hs6
  have hd23 := ha21.defers.trans hd7
  have h24 := ha21.fx 0 h8
  have h25 := ha21.fx 2 h9
  have h26 := ha21.fx 3 h13
  have h27 := ha21.ge 0 4 rfl
  have hb28 := hb12.new_ hn20
  have hN29 := hN15.transNew hn20
  clear hs6 hd7 h8 h9 h13 hb12 hN15 ha21 hn20
  refine st_nil ?_
  refine hK17 _ _ ?_
  clear hK17 K17
  refine wp_block ?_
  refine wp_loop_rounds 4 ?_
  refine rounds_go ?_
  refine wp_seq_k fun K30 hK30 => ?_
  refine wp_seq_k fun K31 hK31 => ?_
  refine wp_g0 [true, true] [] 74
    [ve (iv 2),
     ve (.bool true)] hs22 (.eq (.eq (.nil))) ?_ ?_
  · skip
    refine .o1 (tk rfl rfl fun _ w hn k => ⟨_, v_move rfl (k.fx 4 h27), rfl⟩) ?_
    refine .o1 (tk rfl rfl fun _ w hn k => ⟨_, v_bin rfl (k.eq1 0 9 rfl) rfl (fun _ => rfl) (fun w => by kernel_rfl), rfl⟩) ?_
    exact .nil
  intro a32 w33 hn34 ha35
  have hs36 := ha35.size.trans hs22
  have hd37 := ha35.defers.trans hd23
  have h38 := ha35.fx 0 h24
  have h39 := ha35.fx 2 h25
  have h40 := ha35.fx 3 h26
  have h41 := ha35.fx 4 h27
  have h42 := ha35.ge 0 9 rfl
  have h43 := ha35.ge 1 10 rfl
  have hb44 := hb28.new_ hn34
  have hN45 := hN29.transNew hn34
  clear hs22 hd23 h24 h25 h26 h27 hb28 hN29 ha35 hn34
  refine st_nil ?_
  refine hK31 _ _ ?_
  clear hK31 K31
  refine wp_cond_true h43 ?_
  refine wp_skip ?_
  refine hK30 _ _ ?_
  clear hK30 K30
  refine wp_seq_k fun K46 hK46 => ?_
  refine wp_block ?_
  refine wp_seq_k fun K47 hK47 => ?_
  refine wp_g0 [true, true, true, true, true] [] 74
    [ve (iv 2),
     ve (nv (Nm.mk 2 0)),
     ve (.string ⟨#[78, 97, 78]⟩),
     ve (.string s),
     ve (.bool (strEq ⟨#[78, 97, 78]⟩ s))] hs36 (.eq (.eq (.eq (.eq (.eq (.nil)))))) ?_ ?_
  · skip
    refine .o1 (tk rfl rfl fun _ w hn k => ⟨_, v_move rfl (k.fx 4 h41), rfl⟩) ?_
    refine .o1 (ck rfl rfl rfl (fun _ w hn k => ⟨#[iv 2], args1 (k.eq1 0 13 rfl), fun _ => by kernel_rfl, rkind_c 2 _⟩) fun _ => rfl) ?_
    refine .o1 (ck rfl rfl rfl (fun _ w hn k => ⟨#[nv (Nm.mk 2 0)], args1 (k.eq1 1 14 rfl), fun _ => by kernel_rfl, rtext_k2 _⟩) fun _ => rfl) ?_
    refine .o1 (tk rfl rfl fun _ w hn k => ⟨_, v_move rfl (k.fx 0 h38), rfl⟩) ?_
    refine .o1 (tk rfl rfl fun _ w hn k => ⟨_, v_bin rfl (k.eq1 2 15 rfl) (k.eq1 3 16 rfl) (fun _ => rfl) (r_eqlS rfl), rfl⟩) ?_
    exact .nil
  intro a48 w49 hn50 ha51
  have hs52 := ha51.size.trans hs36
  have hd53 := ha51.defers.trans hd37
  have h54 := ha51.fx 0 h38
  have h55 := ha51.fx 2 h39
  have h56 := ha51.fx 3 h40
  have h57 := ha51.fx 4 h41
  have h58 := ha51.fx 9 h42
  have h59 := ha51.fx 10 h43
  have h60 := ha51.ge 0 13 rfl
  have h61 := ha51.ge 1 14 rfl
  have h62 := ha51.ge 2 15 rfl
  have h63 := ha51.ge 3 16 rfl
  have h64 := ha51.ge 4 17 rfl
  have hb65 := hb44.new_ hn50
  have hN66 := hN45.transNew hn50
  clear hs36 hd37 h38 h39 h40 h41 h42 h43 hb44 hN45 ha51 hn50
  refine st_nil ?_
  refine hK47 _ _ ?_
  clear hK47 K47
  rcases Bool.eq_false_or_eq_true (strEq ⟨#[78, 97, 78]⟩ s) with ht67 | ht67
  · skip
    have hv68 : a48.eval (.tmp 17) = .bool true := h64.trans (congrArg Value.bool ht67)
    clear h64
    refine wp_cond_true hv68 ?_
    refine wp_seq_k fun K69 hK69 => ?_
    refine wp_g0 [true, true, false, false] [(2, false), (3, true)] 74
      [ve (iv 2),
       ve (nv (Nm.mk 2 0)),
       vt,
       vt] hs52 (.eq (.eq (.tt (.tt (.nil))))) ?_ ?_
    · skip
      refine .o1 (tk rfl rfl fun _ w hn k => ⟨_, v_move rfl (k.fx 4 h57), rfl⟩) ?_
      refine .o1 (ck rfl rfl rfl (fun _ w hn k => ⟨#[iv 2], args1 (k.eq1 0 18 rfl), fun _ => by kernel_rfl, rkind_c 2 _⟩) fun _ => rfl) ?_
      refine .off ?_
      refine .off ?_
      exact .nil
    intro a70 w71 hn72 ha73
    have hs74 := ha73.size.trans hs52
    have hd75 := ha73.defers.trans hd53
    have h76 := ha73.fx 0 h54
    have h77 := ha73.fx 2 h55
    have h78 := ha73.fx 3 h56
    have h79 := ha73.fx 4 h57
    have h80 := ha73.fx 9 h58
    have h81 := ha73.fx 10 h59
    have h82 := ha73.fx 13 h60
    have h83 := ha73.fx 14 h61
    have h84 := ha73.fx 15 h62
    have h85 := ha73.fx 16 h63
    have h86 := ha73.fx 17 hv68
    have h87 := ha73.ge 0 18 rfl
    have h88 := ha73.ge 1 19 rfl
    have hb89 := hb65.new_ hn72
    have hN90 := hN66.transNew hn72
    clear hs52 hd53 h54 h55 h56 h57 h58 h59 h60 h61 h62 h63 hv68 hb65 hN66 ha73 hn72
    obtain ⟨w91, -, hst92, hb93, hu94, hf95⟩ := s_two (v0 := iv 2) (v1 := iv 0) Tryd.sizeOf23 rfl rfl rfl hb89
    refine st_act rfl rfl fun K96 hL97 => a_store' rfl h77 h88 hst92 (hL97 _ _ trivial ?_)
    have hN98 := hN90.trans hu94 (fun k hk hkb => by subst hkb; omega)
    clear hb89 hst92 K96 hL97 hN90 hu94 hf95
    refine st_take rfl rfl (y_assign (v := .bool true) rfl rfl) rfl ?_
    obtain ⟨a99, ha100⟩ : ∃ a', a' = a70.put (some 3) (.bool true) := ⟨_, rfl⟩
    have hs101 : a99.tmps.size = 74 := by rw [ha100, put_size]; exact hs74
    have hd102 : a99.defers = [] := by rw [ha100, put_defers]; exact hd75
    have h103 : a99.eval (.tmp 0) = .string s := by rw [ha100, put_ne _ _ _ _ (by decide)]; exact h76
    have h104 : a99.eval (.tmp 2) = pv q10 := by rw [ha100, put_ne _ _ _ _ (by decide)]; exact h77
    have h105 : a99.eval (.tmp 4) = iv 2 := by rw [ha100, put_ne _ _ _ _ (by decide)]; exact h79
    have h106 : a99.eval (.tmp 9) = iv 2 := by rw [ha100, put_ne _ _ _ _ (by decide)]; exact h80
    have h107 : a99.eval (.tmp 10) = .bool true := by rw [ha100, put_ne _ _ _ _ (by decide)]; exact h81
    have h108 : a99.eval (.tmp 13) = iv 2 := by rw [ha100, put_ne _ _ _ _ (by decide)]; exact h82
    have h109 : a99.eval (.tmp 14) = nv (Nm.mk 2 0) := by rw [ha100, put_ne _ _ _ _ (by decide)]; exact h83
    have h110 : a99.eval (.tmp 15) = .string ⟨#[78, 97, 78]⟩ := by rw [ha100, put_ne _ _ _ _ (by decide)]; exact h84
    have h111 : a99.eval (.tmp 16) = .string s := by rw [ha100, put_ne _ _ _ _ (by decide)]; exact h85
    have h112 : a99.eval (.tmp 17) = .bool true := by rw [ha100, put_ne _ _ _ _ (by decide)]; exact h86
    have h113 : a99.eval (.tmp 18) = iv 2 := by rw [ha100, put_ne _ _ _ _ (by decide)]; exact h87
    have h114 : a99.eval (.tmp 19) = nv (Nm.mk 2 0) := by rw [ha100, put_ne _ _ _ _ (by decide)]; exact h88
    have h115 : a99.eval (.tmp 3) = .bool true := by rw [ha100]; exact put_same _ _ _ (by rw [hs74]; decide)
    show stepsTo _ _ _ _ _ (a70.put (some 3) (.bool true)) _
    rw [← ha100]
    clear ha100 hs74 hd75 h76 h77 h78 h79 h80 h81 h82 h83 h84 h85 h86 h87 h88
    refine st_nil ?_
    refine hK69 _ _ ?_
    clear hK69 K69
    refine wp_ret (ret_k hd102 (v := .tuple #[nv (Nm.mk 2 0), .bool true]) (res_ct rfl h104 h115 (l_two Tryd.isAgg23 Tryd.sizeOf23 hb93)) ?_)
    refine ⟨?_, hN98⟩
    show Ending.returned (.tuple #[nv (Nm.mk 2 0), .bool true]) = Ending.returned (.tuple #[nv ((rParseM s).1), .bool ((rParseM s).2)])
    first | rfl | (simp [rParseM, ht67])
  have hv116 : a48.eval (.tmp 17) = .bool false := h64.trans (congrArg Value.bool ht67)
  clear h64
  refine wp_cond_false hv116 ?_
  refine wp_skip ?_
  refine hK46 _ _ ?_
  clear hK46 K46
  refine wp_g0 [true, true, false] [(2, true)] 74
    [ve (iv 2),
     ve (iv 3),
     vt] hs52 (.eq (.eq (.tt (.nil)))) ?_ ?_
  · skip
    refine .o1 (tk rfl rfl fun _ w hn k => ⟨_, v_move rfl (k.fx 4 h57), rfl⟩) ?_
    refine .o1 (tk rfl rfl fun _ w hn k => ⟨_, v_bin rfl (k.eq1 0 11 rfl) rfl (fun _ => rfl) (fun w => by kernel_rfl), rfl⟩) ?_
    refine .off ?_
    exact .nil
  intro a117 w118 hn119 ha120
  have hs121 := ha120.size.trans hs52
  have hd122 := ha120.defers.trans hd53
  have h123 := ha120.fx 0 h54
  have h124 := ha120.fx 2 h55
  have h125 := ha120.fx 3 h56
  have h126 := ha120.fx 4 h57
  have h127 := ha120.fx 9 h58
  have h128 := ha120.fx 10 h59
  have h129 := ha120.fx 13 h60
  have h130 := ha120.fx 14 h61
  have h131 := ha120.fx 15 h62
  have h132 := ha120.fx 16 h63
  have h133 := ha120.fx 17 hv116
  have h134 := ha120.ge 0 11 rfl
  have h135 := ha120.ge 1 12 rfl
  have hb136 := hb65.new_ hn119
  have hN137 := hN66.transNew hn119
  clear hs52 hd53 h54 h55 h56 h57 h58 h59 h60 h61 h62 h63 hv116 hb65 hN66 ha120 hn119
  refine st_take rfl rfl (y_assign (v := iv 3) rfl h135) rfl ?_
  obtain ⟨a138, ha139⟩ : ∃ a', a' = a117.put (some 4) (iv 3) := ⟨_, rfl⟩
  have hs140 : a138.tmps.size = 74 := by rw [ha139, put_size]; exact hs121
  have hd141 : a138.defers = [] := by rw [ha139, put_defers]; exact hd122
  have h142 : a138.eval (.tmp 0) = .string s := by rw [ha139, put_ne _ _ _ _ (by decide)]; exact h123
  have h143 : a138.eval (.tmp 2) = pv q10 := by rw [ha139, put_ne _ _ _ _ (by decide)]; exact h124
  have h144 : a138.eval (.tmp 3) = .bool false := by rw [ha139, put_ne _ _ _ _ (by decide)]; exact h125
  have h145 : a138.eval (.tmp 9) = iv 2 := by rw [ha139, put_ne _ _ _ _ (by decide)]; exact h127
  have h146 : a138.eval (.tmp 10) = .bool true := by rw [ha139, put_ne _ _ _ _ (by decide)]; exact h128
  have h147 : a138.eval (.tmp 13) = iv 2 := by rw [ha139, put_ne _ _ _ _ (by decide)]; exact h129
  have h148 : a138.eval (.tmp 14) = nv (Nm.mk 2 0) := by rw [ha139, put_ne _ _ _ _ (by decide)]; exact h130
  have h149 : a138.eval (.tmp 15) = .string ⟨#[78, 97, 78]⟩ := by rw [ha139, put_ne _ _ _ _ (by decide)]; exact h131
  have h150 : a138.eval (.tmp 16) = .string s := by rw [ha139, put_ne _ _ _ _ (by decide)]; exact h132
  have h151 : a138.eval (.tmp 17) = .bool false := by rw [ha139, put_ne _ _ _ _ (by decide)]; exact h133
  have h152 : a138.eval (.tmp 11) = iv 2 := by rw [ha139, put_ne _ _ _ _ (by decide)]; exact h134
  have h153 : a138.eval (.tmp 12) = iv 3 := by rw [ha139, put_ne _ _ _ _ (by decide)]; exact h135
  have h154 : a138.eval (.tmp 4) = iv 3 := by rw [ha139]; exact put_same _ _ _ (by rw [hs121]; decide)
  show stepsTo _ _ _ _ _ (a117.put (some 4) (iv 3)) _
  rw [← ha139]
  clear ha139 hs121 hd122 h123 h124 h125 h126 h127 h128 h129 h130 h131 h132 h133 h134 h135
  refine st_nil ?_
  refine then_n ?_
  refine rounds_go ?_
  refine wp_seq_k fun K155 hK155 => ?_
  refine wp_seq_k fun K156 hK156 => ?_
  refine wp_g0 [true, true] [] 74
    [ve (iv 3),
     ve (.bool true)] hs140 (.eq (.eq (.nil))) ?_ ?_
  · skip
    refine .o1 (tk rfl rfl fun _ w hn k => ⟨_, v_move rfl (k.fx 4 h154), rfl⟩) ?_
    refine .o1 (tk rfl rfl fun _ w hn k => ⟨_, v_bin rfl (k.eq1 0 9 rfl) rfl (fun _ => rfl) (fun w => by kernel_rfl), rfl⟩) ?_
    exact .nil
  intro a157 w158 hn159 ha160
  have hs161 := ha160.size.trans hs140
  have hd162 := ha160.defers.trans hd141
  have h163 := ha160.fx 0 h142
  have h164 := ha160.fx 2 h143
  have h165 := ha160.fx 3 h144
  have h166 := ha160.fx 13 h147
  have h167 := ha160.fx 14 h148
  have h168 := ha160.fx 15 h149
  have h169 := ha160.fx 16 h150
  have h170 := ha160.fx 17 h151
  have h171 := ha160.fx 11 h152
  have h172 := ha160.fx 12 h153
  have h173 := ha160.fx 4 h154
  have h174 := ha160.ge 0 9 rfl
  have h175 := ha160.ge 1 10 rfl
  have hb176 := hb136.new_ hn159
  have hN177 := hN137.transNew hn159
  clear hs140 hd141 h142 h143 h144 h145 h146 h147 h148 h149 h150 h151 h152 h153 h154 hb136 hN137 ha160 hn159
  refine st_nil ?_
  refine hK156 _ _ ?_
  clear hK156 K156
  refine wp_cond_true h175 ?_
  refine wp_skip ?_
  refine hK155 _ _ ?_
  clear hK155 K155
  refine wp_seq_k fun K178 hK178 => ?_
  refine wp_block ?_
  refine wp_seq_k fun K179 hK179 => ?_
  refine wp_g0 [true, true, true, true, true] [] 74
    [ve (iv 3),
     ve (nv (Nm.mk 3 0)),
     ve (.string ⟨#[73, 110, 102, 105, 110, 105, 116, 121]⟩),
     ve (.string s),
     ve (.bool (strEq ⟨#[73, 110, 102, 105, 110, 105, 116, 121]⟩ s))] hs161 (.eq (.eq (.eq (.eq (.eq (.nil)))))) ?_ ?_
  · skip
    refine .o1 (tk rfl rfl fun _ w hn k => ⟨_, v_move rfl (k.fx 4 h173), rfl⟩) ?_
    refine .o1 (ck rfl rfl rfl (fun _ w hn k => ⟨#[iv 3], args1 (k.eq1 0 13 rfl), fun _ => by kernel_rfl, rkind_c 3 _⟩) fun _ => rfl) ?_
    refine .o1 (ck rfl rfl rfl (fun _ w hn k => ⟨#[nv (Nm.mk 3 0)], args1 (k.eq1 1 14 rfl), fun _ => by kernel_rfl, rtext_k3 _⟩) fun _ => rfl) ?_
    refine .o1 (tk rfl rfl fun _ w hn k => ⟨_, v_move rfl (k.fx 0 h163), rfl⟩) ?_
    refine .o1 (tk rfl rfl fun _ w hn k => ⟨_, v_bin rfl (k.eq1 2 15 rfl) (k.eq1 3 16 rfl) (fun _ => rfl) (r_eqlS rfl), rfl⟩) ?_
    exact .nil
  intro a180 w181 hn182 ha183
  have hs184 := ha183.size.trans hs161
  have hd185 := ha183.defers.trans hd162
  have h186 := ha183.fx 0 h163
  have h187 := ha183.fx 2 h164
  have h188 := ha183.fx 3 h165
  have h189 := ha183.fx 11 h171
  have h190 := ha183.fx 12 h172
  have h191 := ha183.fx 4 h173
  have h192 := ha183.fx 9 h174
  have h193 := ha183.fx 10 h175
  have h194 := ha183.ge 0 13 rfl
  have h195 := ha183.ge 1 14 rfl
  have h196 := ha183.ge 2 15 rfl
  have h197 := ha183.ge 3 16 rfl
  have h198 := ha183.ge 4 17 rfl
  have hb199 := hb176.new_ hn182
  have hN200 := hN177.transNew hn182
  clear hs161 hd162 h163 h164 h165 h166 h167 h168 h169 h170 h171 h172 h173 h174 h175 hb176 hN177 ha183 hn182
  refine st_nil ?_
  refine hK179 _ _ ?_
  clear hK179 K179
  rcases Bool.eq_false_or_eq_true (strEq ⟨#[73, 110, 102, 105, 110, 105, 116, 121]⟩ s) with ht201 | ht201
  · skip
    have hv202 : a180.eval (.tmp 17) = .bool true := h198.trans (congrArg Value.bool ht201)
    clear h198
    refine wp_cond_true hv202 ?_
    refine wp_seq_k fun K203 hK203 => ?_
    refine wp_g0 [true, true, false, false] [(2, false), (3, true)] 74
      [ve (iv 3),
       ve (nv (Nm.mk 3 0)),
       vt,
       vt] hs184 (.eq (.eq (.tt (.tt (.nil))))) ?_ ?_
    · skip
      refine .o1 (tk rfl rfl fun _ w hn k => ⟨_, v_move rfl (k.fx 4 h191), rfl⟩) ?_
      refine .o1 (ck rfl rfl rfl (fun _ w hn k => ⟨#[iv 3], args1 (k.eq1 0 18 rfl), fun _ => by kernel_rfl, rkind_c 3 _⟩) fun _ => rfl) ?_
      refine .off ?_
      refine .off ?_
      exact .nil
    intro a204 w205 hn206 ha207
    have hs208 := ha207.size.trans hs184
    have hd209 := ha207.defers.trans hd185
    have h210 := ha207.fx 0 h186
    have h211 := ha207.fx 2 h187
    have h212 := ha207.fx 3 h188
    have h213 := ha207.fx 11 h189
    have h214 := ha207.fx 12 h190
    have h215 := ha207.fx 4 h191
    have h216 := ha207.fx 9 h192
    have h217 := ha207.fx 10 h193
    have h218 := ha207.fx 13 h194
    have h219 := ha207.fx 14 h195
    have h220 := ha207.fx 15 h196
    have h221 := ha207.fx 16 h197
    have h222 := ha207.fx 17 hv202
    have h223 := ha207.ge 0 18 rfl
    have h224 := ha207.ge 1 19 rfl
    have hb225 := hb199.new_ hn206
    have hN226 := hN200.transNew hn206
    clear hs184 hd185 h186 h187 h188 h189 h190 h191 h192 h193 h194 h195 h196 h197 hv202 hb199 hN200 ha207 hn206
    obtain ⟨w227, -, hst228, hb229, hu230, hf231⟩ := s_two (v0 := iv 3) (v1 := iv 0) Tryd.sizeOf23 rfl rfl rfl hb225
    refine st_act rfl rfl fun K232 hL233 => a_store' rfl h211 h224 hst228 (hL233 _ _ trivial ?_)
    have hN234 := hN226.trans hu230 (fun k hk hkb => by subst hkb; omega)
    clear hb225 hst228 K232 hL233 hN226 hu230 hf231
    refine st_take rfl rfl (y_assign (v := .bool true) rfl rfl) rfl ?_
    obtain ⟨a235, ha236⟩ : ∃ a', a' = a204.put (some 3) (.bool true) := ⟨_, rfl⟩
    have hs237 : a235.tmps.size = 74 := by rw [ha236, put_size]; exact hs208
    have hd238 : a235.defers = [] := by rw [ha236, put_defers]; exact hd209
    have h239 : a235.eval (.tmp 0) = .string s := by rw [ha236, put_ne _ _ _ _ (by decide)]; exact h210
    have h240 : a235.eval (.tmp 2) = pv q10 := by rw [ha236, put_ne _ _ _ _ (by decide)]; exact h211
    have h241 : a235.eval (.tmp 11) = iv 2 := by rw [ha236, put_ne _ _ _ _ (by decide)]; exact h213
    have h242 : a235.eval (.tmp 12) = iv 3 := by rw [ha236, put_ne _ _ _ _ (by decide)]; exact h214
    have h243 : a235.eval (.tmp 4) = iv 3 := by rw [ha236, put_ne _ _ _ _ (by decide)]; exact h215
    have h244 : a235.eval (.tmp 9) = iv 3 := by rw [ha236, put_ne _ _ _ _ (by decide)]; exact h216
    have h245 : a235.eval (.tmp 10) = .bool true := by rw [ha236, put_ne _ _ _ _ (by decide)]; exact h217
    have h246 : a235.eval (.tmp 13) = iv 3 := by rw [ha236, put_ne _ _ _ _ (by decide)]; exact h218
    have h247 : a235.eval (.tmp 14) = nv (Nm.mk 3 0) := by rw [ha236, put_ne _ _ _ _ (by decide)]; exact h219
    have h248 : a235.eval (.tmp 15) = .string ⟨#[73, 110, 102, 105, 110, 105, 116, 121]⟩ := by rw [ha236, put_ne _ _ _ _ (by decide)]; exact h220
    have h249 : a235.eval (.tmp 16) = .string s := by rw [ha236, put_ne _ _ _ _ (by decide)]; exact h221
    have h250 : a235.eval (.tmp 17) = .bool true := by rw [ha236, put_ne _ _ _ _ (by decide)]; exact h222
    have h251 : a235.eval (.tmp 18) = iv 3 := by rw [ha236, put_ne _ _ _ _ (by decide)]; exact h223
    have h252 : a235.eval (.tmp 19) = nv (Nm.mk 3 0) := by rw [ha236, put_ne _ _ _ _ (by decide)]; exact h224
    have h253 : a235.eval (.tmp 3) = .bool true := by rw [ha236]; exact put_same _ _ _ (by rw [hs208]; decide)
    show stepsTo _ _ _ _ _ (a204.put (some 3) (.bool true)) _
    rw [← ha236]
    clear ha236 hs208 hd209 h210 h211 h212 h213 h214 h215 h216 h217 h218 h219 h220 h221 h222 h223 h224
    refine st_nil ?_
    refine hK203 _ _ ?_
    clear hK203 K203
    refine wp_ret (ret_k hd238 (v := .tuple #[nv (Nm.mk 3 0), .bool true]) (res_ct rfl h240 h253 (l_two Tryd.isAgg23 Tryd.sizeOf23 hb229)) ?_)
    refine ⟨?_, hN234⟩
    show Ending.returned (.tuple #[nv (Nm.mk 3 0), .bool true]) = Ending.returned (.tuple #[nv ((rParseM s).1), .bool ((rParseM s).2)])
    first | rfl | (simp [rParseM, ht67, ht201])
  have hv254 : a180.eval (.tmp 17) = .bool false := h198.trans (congrArg Value.bool ht201)
  clear h198
  refine wp_cond_false hv254 ?_
  refine wp_skip ?_
  refine hK178 _ _ ?_
  clear hK178 K178
  refine wp_g0 [true, true, false] [(2, true)] 74
    [ve (iv 3),
     ve (iv 4),
     vt] hs184 (.eq (.eq (.tt (.nil)))) ?_ ?_
  · skip
    refine .o1 (tk rfl rfl fun _ w hn k => ⟨_, v_move rfl (k.fx 4 h191), rfl⟩) ?_
    refine .o1 (tk rfl rfl fun _ w hn k => ⟨_, v_bin rfl (k.eq1 0 11 rfl) rfl (fun _ => rfl) (fun w => by kernel_rfl), rfl⟩) ?_
    refine .off ?_
    exact .nil
  intro a255 w256 hn257 ha258
  have hs259 := ha258.size.trans hs184
  have hd260 := ha258.defers.trans hd185
  have h261 := ha258.fx 0 h186
  have h262 := ha258.fx 2 h187
  have h263 := ha258.fx 3 h188
  have h264 := ha258.fx 4 h191
  have h265 := ha258.fx 9 h192
  have h266 := ha258.fx 10 h193
  have h267 := ha258.fx 13 h194
  have h268 := ha258.fx 14 h195
  have h269 := ha258.fx 15 h196
  have h270 := ha258.fx 16 h197
  have h271 := ha258.fx 17 hv254
  have h272 := ha258.ge 0 11 rfl
  have h273 := ha258.ge 1 12 rfl
  have hb274 := hb199.new_ hn257
  have hN275 := hN200.transNew hn257
  clear hs184 hd185 h186 h187 h188 h189 h190 h191 h192 h193 h194 h195 h196 h197 hv254 hb199 hN200 ha258 hn257
  refine st_take rfl rfl (y_assign (v := iv 4) rfl h273) rfl ?_
  obtain ⟨a276, ha277⟩ : ∃ a', a' = a255.put (some 4) (iv 4) := ⟨_, rfl⟩
  have hs278 : a276.tmps.size = 74 := by rw [ha277, put_size]; exact hs259
  have hd279 : a276.defers = [] := by rw [ha277, put_defers]; exact hd260
  have h280 : a276.eval (.tmp 0) = .string s := by rw [ha277, put_ne _ _ _ _ (by decide)]; exact h261
  have h281 : a276.eval (.tmp 2) = pv q10 := by rw [ha277, put_ne _ _ _ _ (by decide)]; exact h262
  have h282 : a276.eval (.tmp 3) = .bool false := by rw [ha277, put_ne _ _ _ _ (by decide)]; exact h263
  have h283 : a276.eval (.tmp 9) = iv 3 := by rw [ha277, put_ne _ _ _ _ (by decide)]; exact h265
  have h284 : a276.eval (.tmp 10) = .bool true := by rw [ha277, put_ne _ _ _ _ (by decide)]; exact h266
  have h285 : a276.eval (.tmp 13) = iv 3 := by rw [ha277, put_ne _ _ _ _ (by decide)]; exact h267
  have h286 : a276.eval (.tmp 14) = nv (Nm.mk 3 0) := by rw [ha277, put_ne _ _ _ _ (by decide)]; exact h268
  have h287 : a276.eval (.tmp 15) = .string ⟨#[73, 110, 102, 105, 110, 105, 116, 121]⟩ := by rw [ha277, put_ne _ _ _ _ (by decide)]; exact h269
  have h288 : a276.eval (.tmp 16) = .string s := by rw [ha277, put_ne _ _ _ _ (by decide)]; exact h270
  have h289 : a276.eval (.tmp 17) = .bool false := by rw [ha277, put_ne _ _ _ _ (by decide)]; exact h271
  have h290 : a276.eval (.tmp 11) = iv 3 := by rw [ha277, put_ne _ _ _ _ (by decide)]; exact h272
  have h291 : a276.eval (.tmp 12) = iv 4 := by rw [ha277, put_ne _ _ _ _ (by decide)]; exact h273
  have h292 : a276.eval (.tmp 4) = iv 4 := by rw [ha277]; exact put_same _ _ _ (by rw [hs259]; decide)
  show stepsTo _ _ _ _ _ (a255.put (some 4) (iv 4)) _
  rw [← ha277]
  clear ha277 hs259 hd260 h261 h262 h263 h264 h265 h266 h267 h268 h269 h270 h271 h272 h273
  refine st_nil ?_
  refine then_n ?_
  refine rounds_go ?_
  refine wp_seq_k fun K293 hK293 => ?_
  refine wp_seq_k fun K294 hK294 => ?_
  refine wp_g0 [true, true] [] 74
    [ve (iv 4),
     ve (.bool true)] hs278 (.eq (.eq (.nil))) ?_ ?_
  · skip
    refine .o1 (tk rfl rfl fun _ w hn k => ⟨_, v_move rfl (k.fx 4 h292), rfl⟩) ?_
    refine .o1 (tk rfl rfl fun _ w hn k => ⟨_, v_bin rfl (k.eq1 0 9 rfl) rfl (fun _ => rfl) (fun w => by kernel_rfl), rfl⟩) ?_
    exact .nil
  intro a295 w296 hn297 ha298
  have hs299 := ha298.size.trans hs278
  have hd300 := ha298.defers.trans hd279
  have h301 := ha298.fx 0 h280
  have h302 := ha298.fx 2 h281
  have h303 := ha298.fx 3 h282
  have h304 := ha298.fx 13 h285
  have h305 := ha298.fx 14 h286
  have h306 := ha298.fx 15 h287
  have h307 := ha298.fx 16 h288
  have h308 := ha298.fx 17 h289
  have h309 := ha298.fx 11 h290
  have h310 := ha298.fx 12 h291
  have h311 := ha298.fx 4 h292
  have h312 := ha298.ge 0 9 rfl
  have h313 := ha298.ge 1 10 rfl
  have hb314 := hb274.new_ hn297
  have hN315 := hN275.transNew hn297
  clear hs278 hd279 h280 h281 h282 h283 h284 h285 h286 h287 h288 h289 h290 h291 h292 hb274 hN275 ha298 hn297
  refine st_nil ?_
  refine hK294 _ _ ?_
  clear hK294 K294
  refine wp_cond_true h313 ?_
  refine wp_skip ?_
  refine hK293 _ _ ?_
  clear hK293 K293
  refine wp_seq_k fun K316 hK316 => ?_
  refine wp_block ?_
  refine wp_seq_k fun K317 hK317 => ?_
  refine wp_g0 [true, true, true, true, true] [] 74
    [ve (iv 4),
     ve (nv (Nm.mk 4 0)),
     ve (.string ⟨#[45, 73, 110, 102, 105, 110, 105, 116, 121]⟩),
     ve (.string s),
     ve (.bool (strEq ⟨#[45, 73, 110, 102, 105, 110, 105, 116, 121]⟩ s))] hs299 (.eq (.eq (.eq (.eq (.eq (.nil)))))) ?_ ?_
  · skip
    refine .o1 (tk rfl rfl fun _ w hn k => ⟨_, v_move rfl (k.fx 4 h311), rfl⟩) ?_
    refine .o1 (ck rfl rfl rfl (fun _ w hn k => ⟨#[iv 4], args1 (k.eq1 0 13 rfl), fun _ => by kernel_rfl, rkind_c 4 _⟩) fun _ => rfl) ?_
    refine .o1 (ck rfl rfl rfl (fun _ w hn k => ⟨#[nv (Nm.mk 4 0)], args1 (k.eq1 1 14 rfl), fun _ => by kernel_rfl, rtext_k4 _⟩) fun _ => rfl) ?_
    refine .o1 (tk rfl rfl fun _ w hn k => ⟨_, v_move rfl (k.fx 0 h301), rfl⟩) ?_
    refine .o1 (tk rfl rfl fun _ w hn k => ⟨_, v_bin rfl (k.eq1 2 15 rfl) (k.eq1 3 16 rfl) (fun _ => rfl) (r_eqlS rfl), rfl⟩) ?_
    exact .nil
  intro a318 w319 hn320 ha321
  have hs322 := ha321.size.trans hs299
  have hd323 := ha321.defers.trans hd300
  have h324 := ha321.fx 0 h301
  have h325 := ha321.fx 2 h302
  have h326 := ha321.fx 3 h303
  have h327 := ha321.fx 11 h309
  have h328 := ha321.fx 12 h310
  have h329 := ha321.fx 4 h311
  have h330 := ha321.fx 9 h312
  have h331 := ha321.fx 10 h313
  have h332 := ha321.ge 0 13 rfl
  have h333 := ha321.ge 1 14 rfl
  have h334 := ha321.ge 2 15 rfl
  have h335 := ha321.ge 3 16 rfl
  have h336 := ha321.ge 4 17 rfl
  have hb337 := hb314.new_ hn320
  have hN338 := hN315.transNew hn320
  clear hs299 hd300 h301 h302 h303 h304 h305 h306 h307 h308 h309 h310 h311 h312 h313 hb314 hN315 ha321 hn320
  refine st_nil ?_
  refine hK317 _ _ ?_
  clear hK317 K317
  rcases Bool.eq_false_or_eq_true (strEq ⟨#[45, 73, 110, 102, 105, 110, 105, 116, 121]⟩ s) with ht339 | ht339
  · skip
    have hv340 : a318.eval (.tmp 17) = .bool true := h336.trans (congrArg Value.bool ht339)
    clear h336
    refine wp_cond_true hv340 ?_
    refine wp_seq_k fun K341 hK341 => ?_
    refine wp_g0 [true, true, false, false] [(2, false), (3, true)] 74
      [ve (iv 4),
       ve (nv (Nm.mk 4 0)),
       vt,
       vt] hs322 (.eq (.eq (.tt (.tt (.nil))))) ?_ ?_
    · skip
      refine .o1 (tk rfl rfl fun _ w hn k => ⟨_, v_move rfl (k.fx 4 h329), rfl⟩) ?_
      refine .o1 (ck rfl rfl rfl (fun _ w hn k => ⟨#[iv 4], args1 (k.eq1 0 18 rfl), fun _ => by kernel_rfl, rkind_c 4 _⟩) fun _ => rfl) ?_
      refine .off ?_
      refine .off ?_
      exact .nil
    intro a342 w343 hn344 ha345
    have hs346 := ha345.size.trans hs322
    have hd347 := ha345.defers.trans hd323
    have h348 := ha345.fx 0 h324
    have h349 := ha345.fx 2 h325
    have h350 := ha345.fx 3 h326
    have h351 := ha345.fx 11 h327
    have h352 := ha345.fx 12 h328
    have h353 := ha345.fx 4 h329
    have h354 := ha345.fx 9 h330
    have h355 := ha345.fx 10 h331
    have h356 := ha345.fx 13 h332
    have h357 := ha345.fx 14 h333
    have h358 := ha345.fx 15 h334
    have h359 := ha345.fx 16 h335
    have h360 := ha345.fx 17 hv340
    have h361 := ha345.ge 0 18 rfl
    have h362 := ha345.ge 1 19 rfl
    have hb363 := hb337.new_ hn344
    have hN364 := hN338.transNew hn344
    clear hs322 hd323 h324 h325 h326 h327 h328 h329 h330 h331 h332 h333 h334 h335 hv340 hb337 hN338 ha345 hn344
    obtain ⟨w365, -, hst366, hb367, hu368, hf369⟩ := s_two (v0 := iv 4) (v1 := iv 0) Tryd.sizeOf23 rfl rfl rfl hb363
    refine st_act rfl rfl fun K370 hL371 => a_store' rfl h349 h362 hst366 (hL371 _ _ trivial ?_)
    have hN372 := hN364.trans hu368 (fun k hk hkb => by subst hkb; omega)
    clear hb363 hst366 K370 hL371 hN364 hu368 hf369
    refine st_take rfl rfl (y_assign (v := .bool true) rfl rfl) rfl ?_
    obtain ⟨a373, ha374⟩ : ∃ a', a' = a342.put (some 3) (.bool true) := ⟨_, rfl⟩
    have hs375 : a373.tmps.size = 74 := by rw [ha374, put_size]; exact hs346
    have hd376 : a373.defers = [] := by rw [ha374, put_defers]; exact hd347
    have h377 : a373.eval (.tmp 0) = .string s := by rw [ha374, put_ne _ _ _ _ (by decide)]; exact h348
    have h378 : a373.eval (.tmp 2) = pv q10 := by rw [ha374, put_ne _ _ _ _ (by decide)]; exact h349
    have h379 : a373.eval (.tmp 11) = iv 3 := by rw [ha374, put_ne _ _ _ _ (by decide)]; exact h351
    have h380 : a373.eval (.tmp 12) = iv 4 := by rw [ha374, put_ne _ _ _ _ (by decide)]; exact h352
    have h381 : a373.eval (.tmp 4) = iv 4 := by rw [ha374, put_ne _ _ _ _ (by decide)]; exact h353
    have h382 : a373.eval (.tmp 9) = iv 4 := by rw [ha374, put_ne _ _ _ _ (by decide)]; exact h354
    have h383 : a373.eval (.tmp 10) = .bool true := by rw [ha374, put_ne _ _ _ _ (by decide)]; exact h355
    have h384 : a373.eval (.tmp 13) = iv 4 := by rw [ha374, put_ne _ _ _ _ (by decide)]; exact h356
    have h385 : a373.eval (.tmp 14) = nv (Nm.mk 4 0) := by rw [ha374, put_ne _ _ _ _ (by decide)]; exact h357
    have h386 : a373.eval (.tmp 15) = .string ⟨#[45, 73, 110, 102, 105, 110, 105, 116, 121]⟩ := by rw [ha374, put_ne _ _ _ _ (by decide)]; exact h358
    have h387 : a373.eval (.tmp 16) = .string s := by rw [ha374, put_ne _ _ _ _ (by decide)]; exact h359
    have h388 : a373.eval (.tmp 17) = .bool true := by rw [ha374, put_ne _ _ _ _ (by decide)]; exact h360
    have h389 : a373.eval (.tmp 18) = iv 4 := by rw [ha374, put_ne _ _ _ _ (by decide)]; exact h361
    have h390 : a373.eval (.tmp 19) = nv (Nm.mk 4 0) := by rw [ha374, put_ne _ _ _ _ (by decide)]; exact h362
    have h391 : a373.eval (.tmp 3) = .bool true := by rw [ha374]; exact put_same _ _ _ (by rw [hs346]; decide)
    show stepsTo _ _ _ _ _ (a342.put (some 3) (.bool true)) _
    rw [← ha374]
    clear ha374 hs346 hd347 h348 h349 h350 h351 h352 h353 h354 h355 h356 h357 h358 h359 h360 h361 h362
    refine st_nil ?_
    refine hK341 _ _ ?_
    clear hK341 K341
    refine wp_ret (ret_k hd376 (v := .tuple #[nv (Nm.mk 4 0), .bool true]) (res_ct rfl h378 h391 (l_two Tryd.isAgg23 Tryd.sizeOf23 hb367)) ?_)
    refine ⟨?_, hN372⟩
    show Ending.returned (.tuple #[nv (Nm.mk 4 0), .bool true]) = Ending.returned (.tuple #[nv ((rParseM s).1), .bool ((rParseM s).2)])
    first | rfl | (simp [rParseM, ht67, ht201, ht339])
  have hv392 : a318.eval (.tmp 17) = .bool false := h336.trans (congrArg Value.bool ht339)
  clear h336
  refine wp_cond_false hv392 ?_
  refine wp_skip ?_
  refine hK316 _ _ ?_
  clear hK316 K316
  refine wp_g0 [true, true, false] [(2, true)] 74
    [ve (iv 4),
     ve (iv 5),
     vt] hs322 (.eq (.eq (.tt (.nil)))) ?_ ?_
  · skip
    refine .o1 (tk rfl rfl fun _ w hn k => ⟨_, v_move rfl (k.fx 4 h329), rfl⟩) ?_
    refine .o1 (tk rfl rfl fun _ w hn k => ⟨_, v_bin rfl (k.eq1 0 11 rfl) rfl (fun _ => rfl) (fun w => by kernel_rfl), rfl⟩) ?_
    refine .off ?_
    exact .nil
  intro a393 w394 hn395 ha396
  have hs397 := ha396.size.trans hs322
  have hd398 := ha396.defers.trans hd323
  have h399 := ha396.fx 0 h324
  have h400 := ha396.fx 2 h325
  have h401 := ha396.fx 3 h326
  have h402 := ha396.fx 4 h329
  have h403 := ha396.fx 9 h330
  have h404 := ha396.fx 10 h331
  have h405 := ha396.fx 13 h332
  have h406 := ha396.fx 14 h333
  have h407 := ha396.fx 15 h334
  have h408 := ha396.fx 16 h335
  have h409 := ha396.fx 17 hv392
  have h410 := ha396.ge 0 11 rfl
  have h411 := ha396.ge 1 12 rfl
  have hb412 := hb337.new_ hn395
  have hN413 := hN338.transNew hn395
  clear hs322 hd323 h324 h325 h326 h327 h328 h329 h330 h331 h332 h333 h334 h335 hv392 hb337 hN338 ha396 hn395
  refine st_take rfl rfl (y_assign (v := iv 5) rfl h411) rfl ?_
  obtain ⟨a414, ha415⟩ : ∃ a', a' = a393.put (some 4) (iv 5) := ⟨_, rfl⟩
  have hs416 : a414.tmps.size = 74 := by rw [ha415, put_size]; exact hs397
  have hd417 : a414.defers = [] := by rw [ha415, put_defers]; exact hd398
  have h418 : a414.eval (.tmp 0) = .string s := by rw [ha415, put_ne _ _ _ _ (by decide)]; exact h399
  have h419 : a414.eval (.tmp 2) = pv q10 := by rw [ha415, put_ne _ _ _ _ (by decide)]; exact h400
  have h420 : a414.eval (.tmp 3) = .bool false := by rw [ha415, put_ne _ _ _ _ (by decide)]; exact h401
  have h421 : a414.eval (.tmp 9) = iv 4 := by rw [ha415, put_ne _ _ _ _ (by decide)]; exact h403
  have h422 : a414.eval (.tmp 10) = .bool true := by rw [ha415, put_ne _ _ _ _ (by decide)]; exact h404
  have h423 : a414.eval (.tmp 13) = iv 4 := by rw [ha415, put_ne _ _ _ _ (by decide)]; exact h405
  have h424 : a414.eval (.tmp 14) = nv (Nm.mk 4 0) := by rw [ha415, put_ne _ _ _ _ (by decide)]; exact h406
  have h425 : a414.eval (.tmp 15) = .string ⟨#[45, 73, 110, 102, 105, 110, 105, 116, 121]⟩ := by rw [ha415, put_ne _ _ _ _ (by decide)]; exact h407
  have h426 : a414.eval (.tmp 16) = .string s := by rw [ha415, put_ne _ _ _ _ (by decide)]; exact h408
  have h427 : a414.eval (.tmp 17) = .bool false := by rw [ha415, put_ne _ _ _ _ (by decide)]; exact h409
  have h428 : a414.eval (.tmp 11) = iv 4 := by rw [ha415, put_ne _ _ _ _ (by decide)]; exact h410
  have h429 : a414.eval (.tmp 12) = iv 5 := by rw [ha415, put_ne _ _ _ _ (by decide)]; exact h411
  have h430 : a414.eval (.tmp 4) = iv 5 := by rw [ha415]; exact put_same _ _ _ (by rw [hs397]; decide)
  show stepsTo _ _ _ _ _ (a393.put (some 4) (iv 5)) _
  rw [← ha415]
  clear ha415 hs397 hd398 h399 h400 h401 h402 h403 h404 h405 h406 h407 h408 h409 h410 h411
  refine st_nil ?_
  refine then_n ?_
  refine rounds_go ?_
  refine wp_seq_k fun K431 hK431 => ?_
  refine wp_seq_k fun K432 hK432 => ?_
  refine wp_g0 [true, true] [] 74
    [ve (iv 5),
     ve (.bool false)] hs416 (.eq (.eq (.nil))) ?_ ?_
  · skip
    refine .o1 (tk rfl rfl fun _ w hn k => ⟨_, v_move rfl (k.fx 4 h430), rfl⟩) ?_
    refine .o1 (tk rfl rfl fun _ w hn k => ⟨_, v_bin rfl (k.eq1 0 9 rfl) rfl (fun _ => rfl) (fun w => by kernel_rfl), rfl⟩) ?_
    exact .nil
  intro a433 w434 hn435 ha436
  have hs437 := ha436.size.trans hs416
  have hd438 := ha436.defers.trans hd417
  have h439 := ha436.fx 0 h418
  have h440 := ha436.fx 2 h419
  have h441 := ha436.fx 3 h420
  have h442 := ha436.fx 13 h423
  have h443 := ha436.fx 14 h424
  have h444 := ha436.fx 15 h425
  have h445 := ha436.fx 16 h426
  have h446 := ha436.fx 17 h427
  have h447 := ha436.fx 11 h428
  have h448 := ha436.fx 12 h429
  have h449 := ha436.fx 4 h430
  have h450 := ha436.ge 0 9 rfl
  have h451 := ha436.ge 1 10 rfl
  have hb452 := hb412.new_ hn435
  have hN453 := hN413.transNew hn435
  clear hs416 hd417 h418 h419 h420 h421 h422 h423 h424 h425 h426 h427 h428 h429 h430 hb412 hN413 ha436 hn435
  refine st_nil ?_
  refine hK432 _ _ ?_
  clear hK432 K432
  refine wp_cond_false h451 ?_
  refine wp_exit ?_
  refine hK16 _ _ ?_
  clear hK16 K16 hK431 K431
  refine wp_seq_k fun K454 hK454 => ?_
  refine wp_g0 [true] [] 74
    [ve (iv 0)] hs437 (.eq (.nil)) ?_ ?_
  · skip
    refine .o1 (tk rfl rfl fun _ w hn k => ⟨_, v_assign rfl rfl, rfl⟩) ?_
    exact .nil
  intro a455 w456 hn457 ha458
  have hs459 := ha458.size.trans hs437
  have hd460 := ha458.defers.trans hd438
  have h461 := ha458.fx 0 h439
  have h462 := ha458.fx 2 h440
  have h463 := ha458.fx 3 h441
  have h464 := ha458.ge 0 5 rfl
  have hb465 := hb452.new_ hn457
  have hN466 := hN453.transNew hn457
  clear hs437 hd438 h439 h440 h441 h442 h443 h444 h445 h446 h447 h448 h449 h450 h451 hb452 hN453 ha458 hn457
  refine st_nil ?_
  refine hK454 _ _ ?_
  clear hK454 K454
  refine wp_seq_k fun K467 hK467 => ?_
  refine wp_seq_k fun K468 hK468 => ?_
  refine wp_g0 [true] [] 74
    [ve (iv 0)] hs459 (.eq (.nil)) ?_ ?_
  · skip
    refine .o1 (tk rfl rfl fun _ w hn k => ⟨_, v_assign rfl rfl, rfl⟩) ?_
    exact .nil
  intro a469 w470 hn471 ha472
  have hs473 := ha472.size.trans hs459
  have hd474 := ha472.defers.trans hd460
  have h475 := ha472.fx 0 h461
  have h476 := ha472.fx 2 h462
  have h477 := ha472.fx 3 h463
  have h478 := ha472.fx 5 h464
  have h479 := ha472.ge 0 6 rfl
  have hb480 := hb465.new_ hn471
  have hN481 := hN466.transNew hn471
  clear hs459 hd460 h461 h462 h463 h464 hb465 hN466 ha472 hn471
  refine st_nil ?_
  refine hK468 _ _ ?_
  clear hK468 K468
  refine wp_block ?_
  refine wp_loopX (fun (x : Nat) (aa : Act) (ww : World) => aa.tmps.size = 74 ∧ aa.defers = [] ∧ New w ww ∧ aa.eval (.tmp 5) = iv (accB s x) ∧ aa.eval (.tmp 6) = iv (x : Int) ∧ aa.eval (.tmp 0) = .string s ∧ aa.eval (.tmp 2) = pv q10 ∧ aa.eval (.tmp 3) = .bool false ∧ Blk ww q10 23 [iv 0, iv 0] ∧ (x ≤ s.size) ∧ (0 < x → s.size < 18)) (fun (x : Nat) => s.size - x) ⟨0, hs473, hd474, hN481, h478, h479, h475, h476, h477, hb480, Nat.zero_le _, (fun h => absurd h (by omega))⟩ ?_
  clear hs473 hd474 hN481 h475 h476 h477 h478 h479 hb480
  rintro j a482 w483 ⟨hs484, hd485, hN486, h487, h488, h489, h490, h491, hb492, hj, hj18⟩
  have h493 : a482.eval (.tmp 5) = iv (accB s j) := h487
  clear h487
  have h494 : a482.eval (.tmp 6) = iv (j : Int) := h488
  clear h488
  refine wp_seq_k fun K495 hK495 => ?_
  refine wp_seq_k fun K496 hK496 => ?_
  rcases Bool.eq_false_or_eq_true (decide ((j : Int) < (s.size : Int))) with ht497 | ht497
  · skip
    have ht497d := of_decide_eq_true ht497
    refine wp_g0 [true, true, true, true, true, true, true, true, true] [] 74
      [ve (iv (j : Int)),
       ve (.string s),
       ve (iv (s.size : Int)),
       ve (.bool true),
       ve (.bool true),
       ve (.string s),
       ve (iv (s.size : Int)),
       ve (.bool (decide ((s.size : Int) < 18))),
       ve (.bool (decide ((s.size : Int) < 18)))] hs484 (.eq (.eq (.eq (.eq (.eq (.eq (.eq (.eq (.eq (.nil)))))))))) ?_ ?_
    · skip
      refine .o1 (tk rfl rfl fun _ w hn k => ⟨_, v_move rfl (k.fx 6 h494), rfl⟩) ?_
      refine .o1 (tk rfl rfl fun _ w hn k => ⟨_, v_move rfl (k.fx 0 h489), rfl⟩) ?_
      refine .o1 (tk rfl rfl fun _ w hn k => ⟨_, v_lens rfl (k.eq1 1 21 rfl) (by kernel_rfl), rfl⟩) ?_
      refine .o1 (tk rfl rfl fun _ w hn k => ⟨_, v_bin rfl (k.eq1 0 20 rfl) (k.eq1 2 22 rfl) (fun _ => rfl) (r_lssK ht497), rfl⟩) ?_
      refine .o1 (tk rfl rfl fun _ w hn k => ⟨_, v_move rfl (k.eq1 3 23 rfl), rfl⟩) ?_
      refine .o1 (tg rfl rfl rfl (fun _ _ k => k.eq1 4 24 rfl) fun _ w hn k => ⟨_, v_move rfl (k.fx 0 h489), rfl⟩) ?_
      refine .o1 (tg rfl rfl rfl (fun _ _ k => k.eq1 4 24 rfl) fun _ w hn k => ⟨_, v_lens rfl (k.eq1 5 25 rfl) (by kernel_rfl), rfl⟩) ?_
      refine .o1 (tg rfl rfl rfl (fun _ _ k => k.eq1 4 24 rfl) fun _ w hn k => ⟨_, v_bin rfl (k.eq1 6 26 rfl) rfl (fun _ => rfl) (r_lssK rfl), rfl⟩) ?_
      refine .o1 (tk rfl rfl fun _ w hn k => ⟨_, v_pickT rfl (k.eq1 4 24 rfl) (k.eq1 7 27 rfl), rfl⟩) ?_
      exact .nil
    intro a498 w499 hn500 ha501
    have hs502 := ha501.size.trans hs484
    have hd503 := ha501.defers.trans hd485
    have h504 := ha501.fx 5 h493
    have h505 := ha501.fx 6 h494
    have h506 := ha501.fx 0 h489
    have h507 := ha501.fx 2 h490
    have h508 := ha501.fx 3 h491
    have h509 := ha501.ge 0 20 rfl
    have h510 := ha501.ge 1 21 rfl
    have h511 := ha501.ge 2 22 rfl
    have h512 := ha501.ge 3 23 rfl
    have h513 := ha501.ge 4 24 rfl
    have h514 := ha501.ge 5 25 rfl
    have h515 := ha501.ge 6 26 rfl
    have h516 := ha501.ge 7 27 rfl
    have h517 := ha501.ge 8 28 rfl
    have hb518 := hb492.new_ hn500
    have hN519 := hN486.transNew hn500
    clear hs484 hd485 h493 h494 h489 h490 h491 hb492 hN486 ha501 hn500
    refine st_nil ?_
    refine hK496 _ _ ?_
    clear hK496 K496
    rcases Bool.eq_false_or_eq_true (decide ((s.size : Int) < 18)) with ht520 | ht520
    · skip
      have ht520d := of_decide_eq_true ht520
      have hv521 : a498.eval (.tmp 27) = .bool true := h516.trans (congrArg Value.bool ht520)
      clear h516
      have hv522 : a498.eval (.tmp 28) = .bool true := h517.trans (congrArg Value.bool ht520)
      clear h517
      refine wp_cond_true hv522 ?_
      refine wp_skip ?_
      refine hK495 _ _ ?_
      clear hK495 K495
      refine wp_seq_k fun K523 hK523 => ?_
      refine wp_block ?_
      refine wp_seq_k fun K524 hK524 => ?_
      rcases Bool.eq_false_or_eq_true (decide ((byteI s (j : Int)) < 48)) with ht525 | ht525
      · skip
        have ht525d := of_decide_eq_true ht525
        have hbj := byte_bd s (j : Int)
        refine wp_g0 [true, true, true, true, true, true, true, true, true, true] [] 74
          [ve (.string s),
           ve (iv (j : Int)),
           ve (.int .u8 (byteI s (j : Int))),
           ve (.bool false),
           ve (.bool false),
           ve undef,
           ve undef,
           ve undef,
           ve undef,
           ve (.bool false)] hs502 (.eq (.eq (.eq (.eq (.eq (.eq (.eq (.eq (.eq (.eq (.nil))))))))))) ?_ ?_
        · skip
          refine .o1 (tk rfl rfl fun _ w hn k => ⟨_, v_move rfl (k.fx 0 h506), rfl⟩) ?_
          refine .o1 (tk rfl rfl fun _ w hn k => ⟨_, v_move rfl (k.fx 6 h505), rfl⟩) ?_
          refine .o1 (tk rfl rfl fun _ w hn k => ⟨_, v_idxs rfl (k.eq1 0 31 rfl) (k.eq1 1 32 rfl) (by kernel_rfl) (by omega), rfl⟩) ?_
          refine .o1 (tk rfl rfl fun _ w hn k => ⟨_, v_bin rfl (k.eq1 2 33 rfl) rfl (fun _ => rfl) (r_geqK ht525), rfl⟩) ?_
          refine .o1 (tk rfl rfl fun _ w hn k => ⟨_, v_move rfl (k.eq1 3 34 rfl), rfl⟩) ?_
          refine .o1 (sk rfl rfl rfl (fun _ _ _ k => k.eq1 4 35 rfl) (fun _ => rfl)) ?_
          refine .o1 (sk rfl rfl rfl (fun _ _ _ k => k.eq1 4 35 rfl) (fun _ => rfl)) ?_
          refine .o1 (sk rfl rfl rfl (fun _ _ _ k => k.eq1 4 35 rfl) (fun _ => rfl)) ?_
          refine .o1 (sk rfl rfl rfl (fun _ _ _ k => k.eq1 4 35 rfl) (fun _ => rfl)) ?_
          refine .o1 (tk rfl rfl fun _ w hn k => ⟨_, v_pickF rfl (k.eq1 4 35 rfl) rfl, rfl⟩) ?_
          exact .nil
        intro a526 w527 hn528 ha529
        have hs530 := ha529.size.trans hs502
        have hd531 := ha529.defers.trans hd503
        have h532 := ha529.fx 5 h504
        have h533 := ha529.fx 6 h505
        have h534 := ha529.fx 0 h506
        have h535 := ha529.fx 2 h507
        have h536 := ha529.fx 3 h508
        have h537 := ha529.fx 20 h509
        have h538 := ha529.fx 21 h510
        have h539 := ha529.fx 22 h511
        have h540 := ha529.fx 23 h512
        have h541 := ha529.fx 24 h513
        have h542 := ha529.fx 25 h514
        have h543 := ha529.fx 26 h515
        have h544 := ha529.fx 27 hv521
        have h545 := ha529.fx 28 hv522
        have h546 := ha529.ge 0 31 rfl
        have h547 := ha529.ge 1 32 rfl
        have h548 := ha529.ge 2 33 rfl
        have h549 := ha529.ge 3 34 rfl
        have h550 := ha529.ge 4 35 rfl
        have h551 := ha529.ge 5 36 rfl
        have h552 := ha529.ge 6 37 rfl
        have h553 := ha529.ge 7 38 rfl
        have h554 := ha529.ge 8 39 rfl
        have h555 := ha529.ge 9 40 rfl
        have hb556 := hb518.new_ hn528
        have hN557 := hN519.transNew hn528
        clear hs502 hd503 h504 h505 h506 h507 h508 h509 h510 h511 h512 h513 h514 h515 hv521 hv522 hb518 hN519 ha529 hn528
        refine st_nil ?_
        refine hK524 _ _ ?_
        clear hK524 K524
        refine wp_cond_false h555 ?_
        refine wp_skip ?_
        refine hK523 _ _ ?_
        clear hK523 K523
        refine wp_g0 [true, true, false] [(2, true)] 74
          [ve (iv (j : Int)),
           ve (iv ((j : Int) + 1)),
           vt] hs530 (.eq (.eq (.tt (.nil)))) ?_ ?_
        · skip
          refine .o1 (tk rfl rfl fun _ w hn k => ⟨_, v_move rfl (k.fx 6 h533), rfl⟩) ?_
          refine .o1 (tk rfl rfl fun _ w hn k => ⟨_, v_bin rfl (k.eq1 0 29 rfl) rfl (fun _ => rfl) (r_add rfl (by omega)), rfl⟩) ?_
          refine .off ?_
          exact .nil
        intro a558 w559 hn560 ha561
        have hs562 := ha561.size.trans hs530
        have hd563 := ha561.defers.trans hd531
        have h564 := ha561.fx 5 h532
        have h565 := ha561.fx 6 h533
        have h566 := ha561.fx 0 h534
        have h567 := ha561.fx 2 h535
        have h568 := ha561.fx 3 h536
        have h569 := ha561.fx 20 h537
        have h570 := ha561.fx 21 h538
        have h571 := ha561.fx 22 h539
        have h572 := ha561.fx 23 h540
        have h573 := ha561.fx 24 h541
        have h574 := ha561.fx 25 h542
        have h575 := ha561.fx 26 h543
        have h576 := ha561.fx 27 h544
        have h577 := ha561.fx 28 h545
        have h578 := ha561.fx 31 h546
        have h579 := ha561.fx 32 h547
        have h580 := ha561.fx 33 h548
        have h581 := ha561.fx 34 h549
        have h582 := ha561.fx 35 h550
        have h583 := ha561.fx 36 h551
        have h584 := ha561.fx 37 h552
        have h585 := ha561.fx 38 h553
        have h586 := ha561.fx 39 h554
        have h587 := ha561.fx 40 h555
        have h588 := ha561.ge 0 29 rfl
        have h589 := ha561.ge 1 30 rfl
        have hb590 := hb556.new_ hn560
        have hN591 := hN557.transNew hn560
        clear hs530 hd531 h532 h533 h534 h535 h536 h537 h538 h539 h540 h541 h542 h543 h544 h545 h546 h547 h548 h549 h550 h551 h552 h553 h554 h555 hb556 hN557 ha561 hn560
        refine st_take rfl rfl (y_assign (v := iv ((j : Int) + 1)) rfl h589) rfl ?_
        obtain ⟨a592, ha593⟩ : ∃ a', a' = a558.put (some 6) (iv ((j : Int) + 1)) := ⟨_, rfl⟩
        have hs594 : a592.tmps.size = 74 := by rw [ha593, put_size]; exact hs562
        have hd595 : a592.defers = [] := by rw [ha593, put_defers]; exact hd563
        have h596 : a592.eval (.tmp 5) = iv (accB s j) := by rw [ha593, put_ne _ _ _ _ (by decide)]; exact h564
        have h597 : a592.eval (.tmp 0) = .string s := by rw [ha593, put_ne _ _ _ _ (by decide)]; exact h566
        have h598 : a592.eval (.tmp 2) = pv q10 := by rw [ha593, put_ne _ _ _ _ (by decide)]; exact h567
        have h599 : a592.eval (.tmp 3) = .bool false := by rw [ha593, put_ne _ _ _ _ (by decide)]; exact h568
        have h600 : a592.eval (.tmp 20) = iv (j : Int) := by rw [ha593, put_ne _ _ _ _ (by decide)]; exact h569
        have h601 : a592.eval (.tmp 21) = .string s := by rw [ha593, put_ne _ _ _ _ (by decide)]; exact h570
        have h602 : a592.eval (.tmp 22) = iv (s.size : Int) := by rw [ha593, put_ne _ _ _ _ (by decide)]; exact h571
        have h603 : a592.eval (.tmp 23) = .bool true := by rw [ha593, put_ne _ _ _ _ (by decide)]; exact h572
        have h604 : a592.eval (.tmp 24) = .bool true := by rw [ha593, put_ne _ _ _ _ (by decide)]; exact h573
        have h605 : a592.eval (.tmp 25) = .string s := by rw [ha593, put_ne _ _ _ _ (by decide)]; exact h574
        have h606 : a592.eval (.tmp 26) = iv (s.size : Int) := by rw [ha593, put_ne _ _ _ _ (by decide)]; exact h575
        have h607 : a592.eval (.tmp 27) = .bool true := by rw [ha593, put_ne _ _ _ _ (by decide)]; exact h576
        have h608 : a592.eval (.tmp 28) = .bool true := by rw [ha593, put_ne _ _ _ _ (by decide)]; exact h577
        have h609 : a592.eval (.tmp 31) = .string s := by rw [ha593, put_ne _ _ _ _ (by decide)]; exact h578
        have h610 : a592.eval (.tmp 32) = iv (j : Int) := by rw [ha593, put_ne _ _ _ _ (by decide)]; exact h579
        have h611 : a592.eval (.tmp 33) = .int .u8 (byteI s (j : Int)) := by rw [ha593, put_ne _ _ _ _ (by decide)]; exact h580
        have h612 : a592.eval (.tmp 34) = .bool false := by rw [ha593, put_ne _ _ _ _ (by decide)]; exact h581
        have h613 : a592.eval (.tmp 35) = .bool false := by rw [ha593, put_ne _ _ _ _ (by decide)]; exact h582
        have h614 : a592.eval (.tmp 36) = undef := by rw [ha593, put_ne _ _ _ _ (by decide)]; exact h583
        have h615 : a592.eval (.tmp 37) = undef := by rw [ha593, put_ne _ _ _ _ (by decide)]; exact h584
        have h616 : a592.eval (.tmp 38) = undef := by rw [ha593, put_ne _ _ _ _ (by decide)]; exact h585
        have h617 : a592.eval (.tmp 39) = undef := by rw [ha593, put_ne _ _ _ _ (by decide)]; exact h586
        have h618 : a592.eval (.tmp 40) = .bool false := by rw [ha593, put_ne _ _ _ _ (by decide)]; exact h587
        have h619 : a592.eval (.tmp 29) = iv (j : Int) := by rw [ha593, put_ne _ _ _ _ (by decide)]; exact h588
        have h620 : a592.eval (.tmp 30) = iv ((j : Int) + 1) := by rw [ha593, put_ne _ _ _ _ (by decide)]; exact h589
        have h621 : a592.eval (.tmp 6) = iv ((j : Int) + 1) := by rw [ha593]; exact put_same _ _ _ (by rw [hs562]; decide)
        show stepsTo _ _ _ _ _ (a558.put (some 6) (iv ((j : Int) + 1))) _
        rw [← ha593]
        clear ha593 hs562 hd563 h564 h565 h566 h567 h568 h569 h570 h571 h572 h573 h574 h575 h576 h577 h578 h579 h580 h581 h582 h583 h584 h585 h586 h587 h588 h589
        refine st_nil ?_
        refine then_n ?_
        exact ⟨j + 1, ⟨hs594, hd595, hN591, (h596.trans (congrArg (Value.int .i64) (acc_no1 ht525))), (h621.trans (congrArg (Value.int .i64) (by omega))), h597, h598, h599, hb590, (by omega), (fun _ => by omega)⟩, by show (_ : Nat) < _; omega⟩
      have ht525d := of_decide_eq_false ht525
      have hbj := byte_bd s (j : Int)
      refine wp_g0 [true, true, true, true, true, true, true, true, true, true] [] 74
        [ve (.string s),
         ve (iv (j : Int)),
         ve (.int .u8 (byteI s (j : Int))),
         ve (.bool true),
         ve (.bool true),
         ve (.string s),
         ve (iv (j : Int)),
         ve (.int .u8 (byteI s (j : Int))),
         ve (.bool (decide ((byteI s (j : Int)) ≤ 57))),
         ve (.bool (decide ((byteI s (j : Int)) ≤ 57)))] hs502 (.eq (.eq (.eq (.eq (.eq (.eq (.eq (.eq (.eq (.eq (.nil))))))))))) ?_ ?_
      · skip
        refine .o1 (tk rfl rfl fun _ w hn k => ⟨_, v_move rfl (k.fx 0 h506), rfl⟩) ?_
        refine .o1 (tk rfl rfl fun _ w hn k => ⟨_, v_move rfl (k.fx 6 h505), rfl⟩) ?_
        refine .o1 (tk rfl rfl fun _ w hn k => ⟨_, v_idxs rfl (k.eq1 0 31 rfl) (k.eq1 1 32 rfl) (by kernel_rfl) (by omega), rfl⟩) ?_
        refine .o1 (tk rfl rfl fun _ w hn k => ⟨_, v_bin rfl (k.eq1 2 33 rfl) rfl (fun _ => rfl) (r_geqK ht525), rfl⟩) ?_
        refine .o1 (tk rfl rfl fun _ w hn k => ⟨_, v_move rfl (k.eq1 3 34 rfl), rfl⟩) ?_
        refine .o1 (tg rfl rfl rfl (fun _ _ k => k.eq1 4 35 rfl) fun _ w hn k => ⟨_, v_move rfl (k.fx 0 h506), rfl⟩) ?_
        refine .o1 (tg rfl rfl rfl (fun _ _ k => k.eq1 4 35 rfl) fun _ w hn k => ⟨_, v_move rfl (k.fx 6 h505), rfl⟩) ?_
        refine .o1 (tg rfl rfl rfl (fun _ _ k => k.eq1 4 35 rfl) fun _ w hn k => ⟨_, v_idxs rfl (k.eq1 5 36 rfl) (k.eq1 6 37 rfl) (by kernel_rfl) (by omega), rfl⟩) ?_
        refine .o1 (tg rfl rfl rfl (fun _ _ k => k.eq1 4 35 rfl) fun _ w hn k => ⟨_, v_bin rfl (k.eq1 7 38 rfl) rfl (fun _ => rfl) (r_leqK rfl), rfl⟩) ?_
        refine .o1 (tk rfl rfl fun _ w hn k => ⟨_, v_pickT rfl (k.eq1 4 35 rfl) (k.eq1 8 39 rfl), rfl⟩) ?_
        exact .nil
      intro a622 w623 hn624 ha625
      have hs626 := ha625.size.trans hs502
      have hd627 := ha625.defers.trans hd503
      have h628 := ha625.fx 5 h504
      have h629 := ha625.fx 6 h505
      have h630 := ha625.fx 0 h506
      have h631 := ha625.fx 2 h507
      have h632 := ha625.fx 3 h508
      have h633 := ha625.fx 20 h509
      have h634 := ha625.fx 21 h510
      have h635 := ha625.fx 22 h511
      have h636 := ha625.fx 23 h512
      have h637 := ha625.fx 24 h513
      have h638 := ha625.fx 25 h514
      have h639 := ha625.fx 26 h515
      have h640 := ha625.fx 27 hv521
      have h641 := ha625.fx 28 hv522
      have h642 := ha625.ge 0 31 rfl
      have h643 := ha625.ge 1 32 rfl
      have h644 := ha625.ge 2 33 rfl
      have h645 := ha625.ge 3 34 rfl
      have h646 := ha625.ge 4 35 rfl
      have h647 := ha625.ge 5 36 rfl
      have h648 := ha625.ge 6 37 rfl
      have h649 := ha625.ge 7 38 rfl
      have h650 := ha625.ge 8 39 rfl
      have h651 := ha625.ge 9 40 rfl
      have hb652 := hb518.new_ hn624
      have hN653 := hN519.transNew hn624
      clear hs502 hd503 h504 h505 h506 h507 h508 h509 h510 h511 h512 h513 h514 h515 hv521 hv522 hb518 hN519 ha625 hn624
      refine st_nil ?_
      refine hK524 _ _ ?_
      clear hK524 K524
      rcases Bool.eq_false_or_eq_true (decide ((byteI s (j : Int)) ≤ 57)) with ht654 | ht654
      · skip
        have ht654d := of_decide_eq_true ht654
        have hv655 : a622.eval (.tmp 39) = .bool true := h650.trans (congrArg Value.bool ht654)
        clear h650
        have hv656 : a622.eval (.tmp 40) = .bool true := h651.trans (congrArg Value.bool ht654)
        clear h651
        refine wp_cond_true hv656 ?_
        have hab := acc_bd s j (by omega)
        refine wp_g0 [true, true, true, true, true, true, true, true, false] [(8, true)] 74
          [ve (iv (accB s j)),
           ve (iv (10 * (accB s j))),
           ve (.string s),
           ve (iv (j : Int)),
           ve (.int .u8 (byteI s (j : Int))),
           ve (.int .u8 ((byteI s (j : Int)) - 48)),
           ve (iv ((byteI s (j : Int)) - 48)),
           ve (iv ((10 * (accB s j)) + ((byteI s (j : Int)) - 48))),
           vt] hs626 (.eq (.eq (.eq (.eq (.eq (.eq (.eq (.eq (.tt (.nil)))))))))) ?_ ?_
        · skip
          refine .o1 (tk rfl rfl fun _ w hn k => ⟨_, v_move rfl (k.fx 5 h628), rfl⟩) ?_
          refine .o1 (tk rfl rfl fun _ w hn k => ⟨_, v_bin rfl rfl (k.eq1 0 41 rfl) (fun _ => rfl) (r_mul rfl (by omega)), rfl⟩) ?_
          refine .o1 (tk rfl rfl fun _ w hn k => ⟨_, v_move rfl (k.fx 0 h630), rfl⟩) ?_
          refine .o1 (tk rfl rfl fun _ w hn k => ⟨_, v_move rfl (k.fx 6 h629), rfl⟩) ?_
          refine .o1 (tk rfl rfl fun _ w hn k => ⟨_, v_idxs rfl (k.eq1 2 43 rfl) (k.eq1 3 44 rfl) (by kernel_rfl) (by omega), rfl⟩) ?_
          refine .o1 (tk rfl rfl fun _ w hn k => ⟨_, v_bin rfl (k.eq1 4 45 rfl) rfl (fun _ => rfl) (r_subU8 rfl (by omega)), rfl⟩) ?_
          refine .o1 (tk rfl rfl fun _ w hn k => ⟨_, v_conv rfl (k.eq1 5 46 rfl) (run_conv (by kernel_rfl) (by kernel_rfl) (by kernel_rfl) (IntWalk.i64_in _ (by omega))), rfl⟩) ?_
          refine .o1 (tk rfl rfl fun _ w hn k => ⟨_, v_bin rfl (k.eq1 1 42 rfl) (k.eq1 6 47 rfl) (fun _ => rfl) (r_add rfl (by omega)), rfl⟩) ?_
          refine .off ?_
          exact .nil
        intro a657 w658 hn659 ha660
        have hs661 := ha660.size.trans hs626
        have hd662 := ha660.defers.trans hd627
        have h663 := ha660.fx 5 h628
        have h664 := ha660.fx 6 h629
        have h665 := ha660.fx 0 h630
        have h666 := ha660.fx 2 h631
        have h667 := ha660.fx 3 h632
        have h668 := ha660.fx 20 h633
        have h669 := ha660.fx 21 h634
        have h670 := ha660.fx 22 h635
        have h671 := ha660.fx 23 h636
        have h672 := ha660.fx 24 h637
        have h673 := ha660.fx 25 h638
        have h674 := ha660.fx 26 h639
        have h675 := ha660.fx 27 h640
        have h676 := ha660.fx 28 h641
        have h677 := ha660.fx 31 h642
        have h678 := ha660.fx 32 h643
        have h679 := ha660.fx 33 h644
        have h680 := ha660.fx 34 h645
        have h681 := ha660.fx 35 h646
        have h682 := ha660.fx 36 h647
        have h683 := ha660.fx 37 h648
        have h684 := ha660.fx 38 h649
        have h685 := ha660.fx 39 hv655
        have h686 := ha660.fx 40 hv656
        have h687 := ha660.ge 0 41 rfl
        have h688 := ha660.ge 1 42 rfl
        have h689 := ha660.ge 2 43 rfl
        have h690 := ha660.ge 3 44 rfl
        have h691 := ha660.ge 4 45 rfl
        have h692 := ha660.ge 5 46 rfl
        have h693 := ha660.ge 6 47 rfl
        have h694 := ha660.ge 7 48 rfl
        have hb695 := hb652.new_ hn659
        have hN696 := hN653.transNew hn659
        clear hs626 hd627 h628 h629 h630 h631 h632 h633 h634 h635 h636 h637 h638 h639 h640 h641 h642 h643 h644 h645 h646 h647 h648 h649 hv655 hv656 hb652 hN653 ha660 hn659
        refine st_take rfl rfl (y_assign (v := iv ((10 * (accB s j)) + ((byteI s (j : Int)) - 48))) rfl h694) rfl ?_
        obtain ⟨a697, ha698⟩ : ∃ a', a' = a657.put (some 5) (iv ((10 * (accB s j)) + ((byteI s (j : Int)) - 48))) := ⟨_, rfl⟩
        have hs699 : a697.tmps.size = 74 := by rw [ha698, put_size]; exact hs661
        have hd700 : a697.defers = [] := by rw [ha698, put_defers]; exact hd662
        have h701 : a697.eval (.tmp 6) = iv (j : Int) := by rw [ha698, put_ne _ _ _ _ (by decide)]; exact h664
        have h702 : a697.eval (.tmp 0) = .string s := by rw [ha698, put_ne _ _ _ _ (by decide)]; exact h665
        have h703 : a697.eval (.tmp 2) = pv q10 := by rw [ha698, put_ne _ _ _ _ (by decide)]; exact h666
        have h704 : a697.eval (.tmp 3) = .bool false := by rw [ha698, put_ne _ _ _ _ (by decide)]; exact h667
        have h705 : a697.eval (.tmp 20) = iv (j : Int) := by rw [ha698, put_ne _ _ _ _ (by decide)]; exact h668
        have h706 : a697.eval (.tmp 21) = .string s := by rw [ha698, put_ne _ _ _ _ (by decide)]; exact h669
        have h707 : a697.eval (.tmp 22) = iv (s.size : Int) := by rw [ha698, put_ne _ _ _ _ (by decide)]; exact h670
        have h708 : a697.eval (.tmp 23) = .bool true := by rw [ha698, put_ne _ _ _ _ (by decide)]; exact h671
        have h709 : a697.eval (.tmp 24) = .bool true := by rw [ha698, put_ne _ _ _ _ (by decide)]; exact h672
        have h710 : a697.eval (.tmp 25) = .string s := by rw [ha698, put_ne _ _ _ _ (by decide)]; exact h673
        have h711 : a697.eval (.tmp 26) = iv (s.size : Int) := by rw [ha698, put_ne _ _ _ _ (by decide)]; exact h674
        have h712 : a697.eval (.tmp 27) = .bool true := by rw [ha698, put_ne _ _ _ _ (by decide)]; exact h675
        have h713 : a697.eval (.tmp 28) = .bool true := by rw [ha698, put_ne _ _ _ _ (by decide)]; exact h676
        have h714 : a697.eval (.tmp 31) = .string s := by rw [ha698, put_ne _ _ _ _ (by decide)]; exact h677
        have h715 : a697.eval (.tmp 32) = iv (j : Int) := by rw [ha698, put_ne _ _ _ _ (by decide)]; exact h678
        have h716 : a697.eval (.tmp 33) = .int .u8 (byteI s (j : Int)) := by rw [ha698, put_ne _ _ _ _ (by decide)]; exact h679
        have h717 : a697.eval (.tmp 34) = .bool true := by rw [ha698, put_ne _ _ _ _ (by decide)]; exact h680
        have h718 : a697.eval (.tmp 35) = .bool true := by rw [ha698, put_ne _ _ _ _ (by decide)]; exact h681
        have h719 : a697.eval (.tmp 36) = .string s := by rw [ha698, put_ne _ _ _ _ (by decide)]; exact h682
        have h720 : a697.eval (.tmp 37) = iv (j : Int) := by rw [ha698, put_ne _ _ _ _ (by decide)]; exact h683
        have h721 : a697.eval (.tmp 38) = .int .u8 (byteI s (j : Int)) := by rw [ha698, put_ne _ _ _ _ (by decide)]; exact h684
        have h722 : a697.eval (.tmp 39) = .bool true := by rw [ha698, put_ne _ _ _ _ (by decide)]; exact h685
        have h723 : a697.eval (.tmp 40) = .bool true := by rw [ha698, put_ne _ _ _ _ (by decide)]; exact h686
        have h724 : a697.eval (.tmp 41) = iv (accB s j) := by rw [ha698, put_ne _ _ _ _ (by decide)]; exact h687
        have h725 : a697.eval (.tmp 42) = iv (10 * (accB s j)) := by rw [ha698, put_ne _ _ _ _ (by decide)]; exact h688
        have h726 : a697.eval (.tmp 43) = .string s := by rw [ha698, put_ne _ _ _ _ (by decide)]; exact h689
        have h727 : a697.eval (.tmp 44) = iv (j : Int) := by rw [ha698, put_ne _ _ _ _ (by decide)]; exact h690
        have h728 : a697.eval (.tmp 45) = .int .u8 (byteI s (j : Int)) := by rw [ha698, put_ne _ _ _ _ (by decide)]; exact h691
        have h729 : a697.eval (.tmp 46) = .int .u8 ((byteI s (j : Int)) - 48) := by rw [ha698, put_ne _ _ _ _ (by decide)]; exact h692
        have h730 : a697.eval (.tmp 47) = iv ((byteI s (j : Int)) - 48) := by rw [ha698, put_ne _ _ _ _ (by decide)]; exact h693
        have h731 : a697.eval (.tmp 48) = iv ((10 * (accB s j)) + ((byteI s (j : Int)) - 48)) := by rw [ha698, put_ne _ _ _ _ (by decide)]; exact h694
        have h732 : a697.eval (.tmp 5) = iv ((10 * (accB s j)) + ((byteI s (j : Int)) - 48)) := by rw [ha698]; exact put_same _ _ _ (by rw [hs661]; decide)
        show stepsTo _ _ _ _ _ (a657.put (some 5) (iv ((10 * (accB s j)) + ((byteI s (j : Int)) - 48)))) _
        rw [← ha698]
        clear ha698 hs661 hd662 h663 h664 h665 h666 h667 h668 h669 h670 h671 h672 h673 h674 h675 h676 h677 h678 h679 h680 h681 h682 h683 h684 h685 h686 h687 h688 h689 h690 h691 h692 h693 h694
        refine st_nil ?_
        refine hK523 _ _ ?_
        clear hK523 K523
        refine wp_g0 [true, true, false] [(2, true)] 74
          [ve (iv (j : Int)),
           ve (iv ((j : Int) + 1)),
           vt] hs699 (.eq (.eq (.tt (.nil)))) ?_ ?_
        · skip
          refine .o1 (tk rfl rfl fun _ w hn k => ⟨_, v_move rfl (k.fx 6 h701), rfl⟩) ?_
          refine .o1 (tk rfl rfl fun _ w hn k => ⟨_, v_bin rfl (k.eq1 0 29 rfl) rfl (fun _ => rfl) (r_add rfl (by omega)), rfl⟩) ?_
          refine .off ?_
          exact .nil
        intro a733 w734 hn735 ha736
        have hs737 := ha736.size.trans hs699
        have hd738 := ha736.defers.trans hd700
        have h739 := ha736.fx 6 h701
        have h740 := ha736.fx 0 h702
        have h741 := ha736.fx 2 h703
        have h742 := ha736.fx 3 h704
        have h743 := ha736.fx 20 h705
        have h744 := ha736.fx 21 h706
        have h745 := ha736.fx 22 h707
        have h746 := ha736.fx 23 h708
        have h747 := ha736.fx 24 h709
        have h748 := ha736.fx 25 h710
        have h749 := ha736.fx 26 h711
        have h750 := ha736.fx 27 h712
        have h751 := ha736.fx 28 h713
        have h752 := ha736.fx 31 h714
        have h753 := ha736.fx 32 h715
        have h754 := ha736.fx 33 h716
        have h755 := ha736.fx 34 h717
        have h756 := ha736.fx 35 h718
        have h757 := ha736.fx 36 h719
        have h758 := ha736.fx 37 h720
        have h759 := ha736.fx 38 h721
        have h760 := ha736.fx 39 h722
        have h761 := ha736.fx 40 h723
        have h762 := ha736.fx 41 h724
        have h763 := ha736.fx 42 h725
        have h764 := ha736.fx 43 h726
        have h765 := ha736.fx 44 h727
        have h766 := ha736.fx 45 h728
        have h767 := ha736.fx 46 h729
        have h768 := ha736.fx 47 h730
        have h769 := ha736.fx 48 h731
        have h770 := ha736.fx 5 h732
        have h771 := ha736.ge 0 29 rfl
        have h772 := ha736.ge 1 30 rfl
        have hb773 := hb695.new_ hn735
        have hN774 := hN696.transNew hn735
        clear hs699 hd700 h701 h702 h703 h704 h705 h706 h707 h708 h709 h710 h711 h712 h713 h714 h715 h716 h717 h718 h719 h720 h721 h722 h723 h724 h725 h726 h727 h728 h729 h730 h731 h732 hb695 hN696 ha736 hn735
        refine st_take rfl rfl (y_assign (v := iv ((j : Int) + 1)) rfl h772) rfl ?_
        obtain ⟨a775, ha776⟩ : ∃ a', a' = a733.put (some 6) (iv ((j : Int) + 1)) := ⟨_, rfl⟩
        have hs777 : a775.tmps.size = 74 := by rw [ha776, put_size]; exact hs737
        have hd778 : a775.defers = [] := by rw [ha776, put_defers]; exact hd738
        have h779 : a775.eval (.tmp 0) = .string s := by rw [ha776, put_ne _ _ _ _ (by decide)]; exact h740
        have h780 : a775.eval (.tmp 2) = pv q10 := by rw [ha776, put_ne _ _ _ _ (by decide)]; exact h741
        have h781 : a775.eval (.tmp 3) = .bool false := by rw [ha776, put_ne _ _ _ _ (by decide)]; exact h742
        have h782 : a775.eval (.tmp 20) = iv (j : Int) := by rw [ha776, put_ne _ _ _ _ (by decide)]; exact h743
        have h783 : a775.eval (.tmp 21) = .string s := by rw [ha776, put_ne _ _ _ _ (by decide)]; exact h744
        have h784 : a775.eval (.tmp 22) = iv (s.size : Int) := by rw [ha776, put_ne _ _ _ _ (by decide)]; exact h745
        have h785 : a775.eval (.tmp 23) = .bool true := by rw [ha776, put_ne _ _ _ _ (by decide)]; exact h746
        have h786 : a775.eval (.tmp 24) = .bool true := by rw [ha776, put_ne _ _ _ _ (by decide)]; exact h747
        have h787 : a775.eval (.tmp 25) = .string s := by rw [ha776, put_ne _ _ _ _ (by decide)]; exact h748
        have h788 : a775.eval (.tmp 26) = iv (s.size : Int) := by rw [ha776, put_ne _ _ _ _ (by decide)]; exact h749
        have h789 : a775.eval (.tmp 27) = .bool true := by rw [ha776, put_ne _ _ _ _ (by decide)]; exact h750
        have h790 : a775.eval (.tmp 28) = .bool true := by rw [ha776, put_ne _ _ _ _ (by decide)]; exact h751
        have h791 : a775.eval (.tmp 31) = .string s := by rw [ha776, put_ne _ _ _ _ (by decide)]; exact h752
        have h792 : a775.eval (.tmp 32) = iv (j : Int) := by rw [ha776, put_ne _ _ _ _ (by decide)]; exact h753
        have h793 : a775.eval (.tmp 33) = .int .u8 (byteI s (j : Int)) := by rw [ha776, put_ne _ _ _ _ (by decide)]; exact h754
        have h794 : a775.eval (.tmp 34) = .bool true := by rw [ha776, put_ne _ _ _ _ (by decide)]; exact h755
        have h795 : a775.eval (.tmp 35) = .bool true := by rw [ha776, put_ne _ _ _ _ (by decide)]; exact h756
        have h796 : a775.eval (.tmp 36) = .string s := by rw [ha776, put_ne _ _ _ _ (by decide)]; exact h757
        have h797 : a775.eval (.tmp 37) = iv (j : Int) := by rw [ha776, put_ne _ _ _ _ (by decide)]; exact h758
        have h798 : a775.eval (.tmp 38) = .int .u8 (byteI s (j : Int)) := by rw [ha776, put_ne _ _ _ _ (by decide)]; exact h759
        have h799 : a775.eval (.tmp 39) = .bool true := by rw [ha776, put_ne _ _ _ _ (by decide)]; exact h760
        have h800 : a775.eval (.tmp 40) = .bool true := by rw [ha776, put_ne _ _ _ _ (by decide)]; exact h761
        have h801 : a775.eval (.tmp 41) = iv (accB s j) := by rw [ha776, put_ne _ _ _ _ (by decide)]; exact h762
        have h802 : a775.eval (.tmp 42) = iv (10 * (accB s j)) := by rw [ha776, put_ne _ _ _ _ (by decide)]; exact h763
        have h803 : a775.eval (.tmp 43) = .string s := by rw [ha776, put_ne _ _ _ _ (by decide)]; exact h764
        have h804 : a775.eval (.tmp 44) = iv (j : Int) := by rw [ha776, put_ne _ _ _ _ (by decide)]; exact h765
        have h805 : a775.eval (.tmp 45) = .int .u8 (byteI s (j : Int)) := by rw [ha776, put_ne _ _ _ _ (by decide)]; exact h766
        have h806 : a775.eval (.tmp 46) = .int .u8 ((byteI s (j : Int)) - 48) := by rw [ha776, put_ne _ _ _ _ (by decide)]; exact h767
        have h807 : a775.eval (.tmp 47) = iv ((byteI s (j : Int)) - 48) := by rw [ha776, put_ne _ _ _ _ (by decide)]; exact h768
        have h808 : a775.eval (.tmp 48) = iv ((10 * (accB s j)) + ((byteI s (j : Int)) - 48)) := by rw [ha776, put_ne _ _ _ _ (by decide)]; exact h769
        have h809 : a775.eval (.tmp 5) = iv ((10 * (accB s j)) + ((byteI s (j : Int)) - 48)) := by rw [ha776, put_ne _ _ _ _ (by decide)]; exact h770
        have h810 : a775.eval (.tmp 29) = iv (j : Int) := by rw [ha776, put_ne _ _ _ _ (by decide)]; exact h771
        have h811 : a775.eval (.tmp 30) = iv ((j : Int) + 1) := by rw [ha776, put_ne _ _ _ _ (by decide)]; exact h772
        have h812 : a775.eval (.tmp 6) = iv ((j : Int) + 1) := by rw [ha776]; exact put_same _ _ _ (by rw [hs737]; decide)
        show stepsTo _ _ _ _ _ (a733.put (some 6) (iv ((j : Int) + 1))) _
        rw [← ha776]
        clear ha776 hs737 hd738 h739 h740 h741 h742 h743 h744 h745 h746 h747 h748 h749 h750 h751 h752 h753 h754 h755 h756 h757 h758 h759 h760 h761 h762 h763 h764 h765 h766 h767 h768 h769 h770 h771 h772
        refine st_nil ?_
        refine then_n ?_
        exact ⟨j + 1, ⟨hs777, hd778, hN774, (h809.trans (congrArg (Value.int .i64) (acc_yes ht525 ht654))), (h812.trans (congrArg (Value.int .i64) (by omega))), h779, h780, h781, hb773, (by omega), (fun _ => by omega)⟩, by show (_ : Nat) < _; omega⟩
      have ht654d := of_decide_eq_false ht654
      have hv813 : a622.eval (.tmp 39) = .bool false := h650.trans (congrArg Value.bool ht654)
      clear h650
      have hv814 : a622.eval (.tmp 40) = .bool false := h651.trans (congrArg Value.bool ht654)
      clear h651
      refine wp_cond_false hv814 ?_
      refine wp_skip ?_
      refine hK523 _ _ ?_
      clear hK523 K523
      refine wp_g0 [true, true, false] [(2, true)] 74
        [ve (iv (j : Int)),
         ve (iv ((j : Int) + 1)),
         vt] hs626 (.eq (.eq (.tt (.nil)))) ?_ ?_
      · skip
        refine .o1 (tk rfl rfl fun _ w hn k => ⟨_, v_move rfl (k.fx 6 h629), rfl⟩) ?_
        refine .o1 (tk rfl rfl fun _ w hn k => ⟨_, v_bin rfl (k.eq1 0 29 rfl) rfl (fun _ => rfl) (r_add rfl (by omega)), rfl⟩) ?_
        refine .off ?_
        exact .nil
      intro a815 w816 hn817 ha818
      have hs819 := ha818.size.trans hs626
      have hd820 := ha818.defers.trans hd627
      have h821 := ha818.fx 5 h628
      have h822 := ha818.fx 6 h629
      have h823 := ha818.fx 0 h630
      have h824 := ha818.fx 2 h631
      have h825 := ha818.fx 3 h632
      have h826 := ha818.fx 20 h633
      have h827 := ha818.fx 21 h634
      have h828 := ha818.fx 22 h635
      have h829 := ha818.fx 23 h636
      have h830 := ha818.fx 24 h637
      have h831 := ha818.fx 25 h638
      have h832 := ha818.fx 26 h639
      have h833 := ha818.fx 27 h640
      have h834 := ha818.fx 28 h641
      have h835 := ha818.fx 31 h642
      have h836 := ha818.fx 32 h643
      have h837 := ha818.fx 33 h644
      have h838 := ha818.fx 34 h645
      have h839 := ha818.fx 35 h646
      have h840 := ha818.fx 36 h647
      have h841 := ha818.fx 37 h648
      have h842 := ha818.fx 38 h649
      have h843 := ha818.fx 39 hv813
      have h844 := ha818.fx 40 hv814
      have h845 := ha818.ge 0 29 rfl
      have h846 := ha818.ge 1 30 rfl
      have hb847 := hb652.new_ hn817
      have hN848 := hN653.transNew hn817
      clear hs626 hd627 h628 h629 h630 h631 h632 h633 h634 h635 h636 h637 h638 h639 h640 h641 h642 h643 h644 h645 h646 h647 h648 h649 hv813 hv814 hb652 hN653 ha818 hn817
      refine st_take rfl rfl (y_assign (v := iv ((j : Int) + 1)) rfl h846) rfl ?_
      obtain ⟨a849, ha850⟩ : ∃ a', a' = a815.put (some 6) (iv ((j : Int) + 1)) := ⟨_, rfl⟩
      have hs851 : a849.tmps.size = 74 := by rw [ha850, put_size]; exact hs819
      have hd852 : a849.defers = [] := by rw [ha850, put_defers]; exact hd820
      have h853 : a849.eval (.tmp 5) = iv (accB s j) := by rw [ha850, put_ne _ _ _ _ (by decide)]; exact h821
      have h854 : a849.eval (.tmp 0) = .string s := by rw [ha850, put_ne _ _ _ _ (by decide)]; exact h823
      have h855 : a849.eval (.tmp 2) = pv q10 := by rw [ha850, put_ne _ _ _ _ (by decide)]; exact h824
      have h856 : a849.eval (.tmp 3) = .bool false := by rw [ha850, put_ne _ _ _ _ (by decide)]; exact h825
      have h857 : a849.eval (.tmp 20) = iv (j : Int) := by rw [ha850, put_ne _ _ _ _ (by decide)]; exact h826
      have h858 : a849.eval (.tmp 21) = .string s := by rw [ha850, put_ne _ _ _ _ (by decide)]; exact h827
      have h859 : a849.eval (.tmp 22) = iv (s.size : Int) := by rw [ha850, put_ne _ _ _ _ (by decide)]; exact h828
      have h860 : a849.eval (.tmp 23) = .bool true := by rw [ha850, put_ne _ _ _ _ (by decide)]; exact h829
      have h861 : a849.eval (.tmp 24) = .bool true := by rw [ha850, put_ne _ _ _ _ (by decide)]; exact h830
      have h862 : a849.eval (.tmp 25) = .string s := by rw [ha850, put_ne _ _ _ _ (by decide)]; exact h831
      have h863 : a849.eval (.tmp 26) = iv (s.size : Int) := by rw [ha850, put_ne _ _ _ _ (by decide)]; exact h832
      have h864 : a849.eval (.tmp 27) = .bool true := by rw [ha850, put_ne _ _ _ _ (by decide)]; exact h833
      have h865 : a849.eval (.tmp 28) = .bool true := by rw [ha850, put_ne _ _ _ _ (by decide)]; exact h834
      have h866 : a849.eval (.tmp 31) = .string s := by rw [ha850, put_ne _ _ _ _ (by decide)]; exact h835
      have h867 : a849.eval (.tmp 32) = iv (j : Int) := by rw [ha850, put_ne _ _ _ _ (by decide)]; exact h836
      have h868 : a849.eval (.tmp 33) = .int .u8 (byteI s (j : Int)) := by rw [ha850, put_ne _ _ _ _ (by decide)]; exact h837
      have h869 : a849.eval (.tmp 34) = .bool true := by rw [ha850, put_ne _ _ _ _ (by decide)]; exact h838
      have h870 : a849.eval (.tmp 35) = .bool true := by rw [ha850, put_ne _ _ _ _ (by decide)]; exact h839
      have h871 : a849.eval (.tmp 36) = .string s := by rw [ha850, put_ne _ _ _ _ (by decide)]; exact h840
      have h872 : a849.eval (.tmp 37) = iv (j : Int) := by rw [ha850, put_ne _ _ _ _ (by decide)]; exact h841
      have h873 : a849.eval (.tmp 38) = .int .u8 (byteI s (j : Int)) := by rw [ha850, put_ne _ _ _ _ (by decide)]; exact h842
      have h874 : a849.eval (.tmp 39) = .bool false := by rw [ha850, put_ne _ _ _ _ (by decide)]; exact h843
      have h875 : a849.eval (.tmp 40) = .bool false := by rw [ha850, put_ne _ _ _ _ (by decide)]; exact h844
      have h876 : a849.eval (.tmp 29) = iv (j : Int) := by rw [ha850, put_ne _ _ _ _ (by decide)]; exact h845
      have h877 : a849.eval (.tmp 30) = iv ((j : Int) + 1) := by rw [ha850, put_ne _ _ _ _ (by decide)]; exact h846
      have h878 : a849.eval (.tmp 6) = iv ((j : Int) + 1) := by rw [ha850]; exact put_same _ _ _ (by rw [hs819]; decide)
      show stepsTo _ _ _ _ _ (a815.put (some 6) (iv ((j : Int) + 1))) _
      rw [← ha850]
      clear ha850 hs819 hd820 h821 h822 h823 h824 h825 h826 h827 h828 h829 h830 h831 h832 h833 h834 h835 h836 h837 h838 h839 h840 h841 h842 h843 h844 h845 h846
      refine st_nil ?_
      refine then_n ?_
      exact ⟨j + 1, ⟨hs851, hd852, hN848, (h853.trans (congrArg (Value.int .i64) (acc_no2 ht654))), (h878.trans (congrArg (Value.int .i64) (by omega))), h854, h855, h856, hb847, (by omega), (fun _ => by omega)⟩, by show (_ : Nat) < _; omega⟩
    have ht520d := of_decide_eq_false ht520
    have hv879 : a498.eval (.tmp 27) = .bool false := h516.trans (congrArg Value.bool ht520)
    clear h516
    have hv880 : a498.eval (.tmp 28) = .bool false := h517.trans (congrArg Value.bool ht520)
    clear h517
    refine wp_cond_false hv880 ?_
    refine wp_exit ?_
    refine hK467 _ _ ?_
    clear hK467 K467 hK495 K495
    refine wp_seq_k fun K881 hK881 => ?_
    refine wp_seq_k fun K882 hK882 => ?_
    have h883 : a498.eval (.tmp 5) = .int .i64 (accN s) := h504.trans (congrArg (Value.int .i64) (acc_end hj hj18 (Or.inr (of_decide_eq_false ht520))))
    clear h504
    rcases Bool.eq_false_or_eq_true (decide ((s.size : Int) ≤ 0)) with ht884 | ht884
    · skip
      have ht884d := of_decide_eq_true ht884
      refine wp_g0 [true, true, true, true, true, true, true, true] [] 74
        [ve (.string s),
         ve (iv (s.size : Int)),
         ve (.bool false),
         ve (.bool false),
         ve undef,
         ve undef,
         ve undef,
         ve (.bool false)] hs502 (.eq (.eq (.eq (.eq (.eq (.eq (.eq (.eq (.nil))))))))) ?_ ?_
      · skip
        refine .o1 (tk rfl rfl fun _ w hn k => ⟨_, v_move rfl (k.fx 0 h506), rfl⟩) ?_
        refine .o1 (tk rfl rfl fun _ w hn k => ⟨_, v_lens rfl (k.eq1 0 49 rfl) (by kernel_rfl), rfl⟩) ?_
        refine .o1 (tk rfl rfl fun _ w hn k => ⟨_, v_bin rfl (k.eq1 1 50 rfl) rfl (fun _ => rfl) (r_gtrK ht884), rfl⟩) ?_
        refine .o1 (tk rfl rfl fun _ w hn k => ⟨_, v_move rfl (k.eq1 2 51 rfl), rfl⟩) ?_
        refine .o1 (sk rfl rfl rfl (fun _ _ _ k => k.eq1 3 52 rfl) (fun _ => rfl)) ?_
        refine .o1 (sk rfl rfl rfl (fun _ _ _ k => k.eq1 3 52 rfl) (fun _ => rfl)) ?_
        refine .o1 (sk rfl rfl rfl (fun _ _ _ k => k.eq1 3 52 rfl) (fun _ => rfl)) ?_
        refine .o1 (tk rfl rfl fun _ w hn k => ⟨_, v_pickF rfl (k.eq1 3 52 rfl) rfl, rfl⟩) ?_
        exact .nil
      intro a885 w886 hn887 ha888
      have hs889 := ha888.size.trans hs502
      have hd890 := ha888.defers.trans hd503
      have h891 := ha888.fx 5 h883
      have h892 := ha888.fx 0 h506
      have h893 := ha888.fx 2 h507
      have h894 := ha888.fx 3 h508
      have h895 := ha888.ge 7 56 rfl
      have hb896 := hb518.new_ hn887
      have hN897 := hN519.transNew hn887
      clear hs502 hd503 h883 h505 h506 h507 h508 h509 h510 h511 h512 h513 h514 h515 hv879 hv880 hb518 hN519 ha888 hn887
      refine st_nil ?_
      refine hK882 _ _ ?_
      clear hK882 K882
      refine wp_cond_false h895 ?_
      refine wp_skip ?_
      refine hK881 _ _ ?_
      clear hK881 K881
      refine wp_seq_k fun K898 hK898 => ?_
      have h899 : a885.eval (.tmp 5) = .int .i64 (sgnN s) := h891.trans (congrArg (Value.int .i64) (sgn_no1 ht884))
      clear h891
      refine wp_g [true, true, true, true, true, true, false, false] [4] [(6, false), (7, true)] 74
        [ve (iv (sgnN s)),
         ve (.tuple #[nv ((ofM (sgnN s)).1), .bool ((ofM (sgnN s)).2)]),
         ve (.tuple #[nv ((ofM (sgnN s)).1), .bool ((ofM (sgnN s)).2)]),
         ve (nv ((ofM (sgnN s)).1)),
         ve (.bool ((ofM (sgnN s)).2)),
         IsNew w886 23 [iv 0, iv 0],
         vt,
         vt]
        [5] (newsCons (fun v w h => IsNew.old h) newsNil) hs889 (.eq (.eq (.eq (.eq (.eq (.nw (.tt (.tt (.nil))))))))) ?_ ?_ ?_
      · skip
        refine .o1 (tk rfl rfl fun _ w hn k => ⟨_, v_move rfl (k.fx 5 h899), rfl⟩) ?_
        refine .o1 (ck rfl rfl rfl (fun _ w hn k => ⟨#[iv (sgnN s)], args1 (k.eq1 0 60 rfl), fun _ => by kernel_rfl, rof_c (sgnN s) _⟩) fun _ => rfl) ?_
        refine .o1 (tk rfl rfl fun _ w hn k => ⟨_, v_move rfl (k.eq1 1 61 rfl), rfl⟩) ?_
        refine .o1 (tk rfl rfl fun _ w hn k => ⟨_, v_extract rfl (k.eq1 2 59 rfl) rfl, rfl⟩) ?_
        refine .o3 ?_
        refine .o2 (step_allocN (cs := [iv 0, iv 0]) (t := 23) rfl (noG rfl) (fun _ w hn k => rfl) (fun q _ hq hb => ⟨q, rfl, hq, hb⟩)) ?_
        refine .off ?_
        refine .off ?_
        exact .nil
      · skip
        intro i h
        simp only [List.contains_eq_mem, List.mem_cons, List.not_mem_nil, or_false, decide_eq_true_eq] at h
        subst h
        · exact eager_take rfl rfl fun _ w hn k => ⟨.bool ((ofM (sgnN s)).2), fun w => v_extract rfl (k.eq1 2 59 rfl) rfl, rfl⟩
      intro a900 w901 hn902 ha903
      have hs904 := ha903.size.trans hs889
      have hd905 := ha903.defers.trans hd890
      have h906 := ha903.fx 5 h899
      have h907 := ha903.fx 0 h892
      have h908 := ha903.fx 2 h893
      have h909 := ha903.fx 3 h894
      have h910 := ha903.ge 3 62 rfl
      have h911 := ha903.ge 4 63 rfl
      obtain ⟨q913, h912, hq914, hb915⟩ : IsNew _ _ _ _ _ := ha903.got 5 7 rfl (by kernel_rfl)
      have hb916 := hb896.new_ hn902
      have hne917 : q10 ≠ q913 := by have h1 := hb896.lt; have h2 := hq914; omega
      have hq918 := Nat.le_trans hN897.size hq914
      have hN919 := hN897.transNew hn902
      clear hs889 hd890 h899 h892 h893 h894 h895 hb896 hq914 hN897 ha903 hn902
      obtain ⟨w920, -, hst921, hb922, hu923, hf924⟩ := s_two (v0 := iv ((ofM (sgnN s)).1.k)) (v1 := iv ((ofM (sgnN s)).1.n)) Tryd.sizeOf23 rfl rfl rfl hb915
      refine st_act rfl rfl fun K925 hL926 => a_store' rfl h912 h910 hst921 (hL926 _ _ trivial ?_)
      have hb927 := hf924 _ _ _ (hne917) hb916
      have hN928 := hN919.trans hu923 (fun k hk hkb => by subst hkb; omega)
      clear hb915 hst921 K925 hL926 hN919 hb916 hu923 hf924
      refine st_take rfl rfl (y_assign (v := .bool ((ofM (sgnN s)).2)) rfl h911) rfl ?_
      obtain ⟨a929, ha930⟩ : ∃ a', a' = a900.put (some 8) (.bool ((ofM (sgnN s)).2)) := ⟨_, rfl⟩
      have hs931 : a929.tmps.size = 74 := by rw [ha930, put_size]; exact hs904
      have hd932 : a929.defers = [] := by rw [ha930, put_defers]; exact hd905
      have h933 : a929.eval (.tmp 5) = iv (sgnN s) := by rw [ha930, put_ne _ _ _ _ (by decide)]; exact h906
      have h934 : a929.eval (.tmp 0) = .string s := by rw [ha930, put_ne _ _ _ _ (by decide)]; exact h907
      have h935 : a929.eval (.tmp 2) = pv q10 := by rw [ha930, put_ne _ _ _ _ (by decide)]; exact h908
      have h936 : a929.eval (.tmp 3) = .bool false := by rw [ha930, put_ne _ _ _ _ (by decide)]; exact h909
      have h937 : a929.eval (.tmp 62) = nv ((ofM (sgnN s)).1) := by rw [ha930, put_ne _ _ _ _ (by decide)]; exact h910
      have h938 : a929.eval (.tmp 63) = .bool ((ofM (sgnN s)).2) := by rw [ha930, put_ne _ _ _ _ (by decide)]; exact h911
      have h939 : a929.eval (.tmp 7) = pv q913 := by rw [ha930, put_ne _ _ _ _ (by decide)]; exact h912
      have h940 : a929.eval (.tmp 8) = .bool ((ofM (sgnN s)).2) := by rw [ha930]; exact put_same _ _ _ (by rw [hs904]; decide)
      show stepsTo _ _ _ _ _ (a900.put (some 8) (.bool ((ofM (sgnN s)).2))) _
      rw [← ha930]
      clear ha930 hs904 hd905 h906 h907 h908 h909 h910 h911 h912
      refine st_nil ?_
      clear h937 h938
      refine hK898 _ _ ?_
      clear hK898 K898
      refine wp_seq_k fun K941 hK941 => ?_
      refine wp_seq_k fun K942 hK942 => ?_
      rcases Bool.eq_false_or_eq_true ((ofM (sgnN s)).2) with ht943 | ht943
      · skip
        have hv944 : a929.eval (.tmp 8) = .bool true := h940.trans (congrArg Value.bool ht943)
        clear h940
        rcases Bool.eq_false_or_eq_true (strEq (itoaS (sgnN s)) s) with ht945 | ht945
        · skip
          have hsg2 := sgn_bd s
          refine wp_g0 [true, true, true, true, true, true, true, true] [] 74
            [ve (.bool true),
             ve (.bool false),
             ve (.bool false),
             ve (iv (sgnN s)),
             ve (.string (itoaS (sgnN s))),
             ve (.string s),
             ve (.bool false),
             ve (.bool false)] hs931 (.eq (.eq (.eq (.eq (.eq (.eq (.eq (.eq (.nil))))))))) ?_ ?_
          · skip
            refine .o1 (tk rfl rfl fun _ w hn k => ⟨_, v_move rfl (k.fx 8 hv944), rfl⟩) ?_
            refine .o1 (tk rfl rfl fun _ w hn k => ⟨_, v_not rfl (k.eq1 0 64 rfl), rfl⟩) ?_
            refine .o1 (tk rfl rfl fun _ w hn k => ⟨_, v_move rfl (k.eq1 1 65 rfl), rfl⟩) ?_
            refine .o1 (tg rfl rfl rfl (fun _ _ k => k.eq1 2 66 rfl) fun _ w hn k => ⟨_, v_move rfl (k.fx 5 h933), rfl⟩) ?_
            refine .o1 (cg rfl rfl rfl (fun _ _ k => k.eq1 2 66 rfl) rfl (fun _ w hn k => ⟨#[iv (sgnN s)], args1 (k.eq1 3 67 rfl), fun _ => by kernel_rfl, dec_c _ _ (by omega) (by omega)⟩) fun _ => rfl) ?_
            refine .o1 (tg rfl rfl rfl (fun _ _ k => k.eq1 2 66 rfl) fun _ w hn k => ⟨_, v_move rfl (k.fx 0 h934), rfl⟩) ?_
            refine .o1 (tg rfl rfl rfl (fun _ _ k => k.eq1 2 66 rfl) fun _ w hn k => ⟨_, v_bin rfl (k.eq1 4 68 rfl) (k.eq1 5 69 rfl) (fun _ => rfl) (r_neqS ht945), rfl⟩) ?_
            refine .o1 (tk rfl rfl fun _ w hn k => ⟨_, v_pickF rfl (k.eq1 2 66 rfl) (k.eq1 6 70 rfl), rfl⟩) ?_
            exact .nil
          intro a946 w947 hn948 ha949
          have hs950 := ha949.size.trans hs931
          have hd951 := ha949.defers.trans hd932
          have h952 := ha949.fx 2 h935
          have h953 := ha949.fx 3 h936
          have h954 := ha949.fx 7 h939
          have h955 := ha949.ge 7 71 rfl
          have hb956 := hb927.new_ hn948
          have hb957 := hb922.new_ hn948
          have hN958 := hN928.transNew hn948
          clear hs931 hd932 h933 h934 h935 h936 h939 hv944 hb927 hb922 hN928 ha949 hn948
          refine st_nil ?_
          refine hK942 _ _ ?_
          clear hK942 K942
          refine wp_cond_false h955 ?_
          refine wp_skip ?_
          refine hK941 _ _ ?_
          clear hK941 K941
          refine wp_seq_k fun K959 hK959 => ?_
          refine wp_g0 [true, false, false] [(1, false), (2, true)] 74
            [ve (nv ((ofM (sgnN s)).1)),
             vt,
             vt] hs950 (.eq (.tt (.tt (.nil)))) ?_ ?_
          · skip
            refine .o1 (tk rfl rfl fun _ w hn k => ⟨_, v_load rfl (k.fx 7 h954) (l_two Tryd.isAgg23 Tryd.sizeOf23 (hb957.new_ hn)), rfl⟩) ?_
            refine .off ?_
            refine .off ?_
            exact .nil
          intro a960 w961 hn962 ha963
          have hs964 := ha963.size.trans hs950
          have hd965 := ha963.defers.trans hd951
          have h966 := ha963.fx 2 h952
          have h967 := ha963.fx 3 h953
          have h968 := ha963.ge 0 73 rfl
          have hb969 := hb956.new_ hn962
          have hN970 := hN958.transNew hn962
          clear hs950 hd951 h952 h953 h954 h955 hb956 hb957 hq918 hN958 ha963 hn962
          obtain ⟨w971, -, hst972, hb973, hu974, hf975⟩ := s_two (v0 := iv ((ofM (sgnN s)).1.k)) (v1 := iv ((ofM (sgnN s)).1.n)) Tryd.sizeOf23 rfl rfl rfl hb969
          refine st_act rfl rfl fun K976 hL977 => a_store' rfl h966 h968 hst972 (hL977 _ _ trivial ?_)
          have hN978 := hN970.trans hu974 (fun k hk hkb => by subst hkb; omega)
          clear hb969 hst972 K976 hL977 hN970 hu974 hf975
          refine st_take rfl rfl (y_assign (v := .bool true) rfl rfl) rfl ?_
          obtain ⟨a979, ha980⟩ : ∃ a', a' = a960.put (some 3) (.bool true) := ⟨_, rfl⟩
          have hs981 : a979.tmps.size = 74 := by rw [ha980, put_size]; exact hs964
          have hd982 : a979.defers = [] := by rw [ha980, put_defers]; exact hd965
          have h983 : a979.eval (.tmp 2) = pv q10 := by rw [ha980, put_ne _ _ _ _ (by decide)]; exact h966
          have h984 : a979.eval (.tmp 73) = nv ((ofM (sgnN s)).1) := by rw [ha980, put_ne _ _ _ _ (by decide)]; exact h968
          have h985 : a979.eval (.tmp 3) = .bool true := by rw [ha980]; exact put_same _ _ _ (by rw [hs964]; decide)
          show stepsTo _ _ _ _ _ (a960.put (some 3) (.bool true)) _
          rw [← ha980]
          clear ha980 hs964 hd965 h966 h967 h968
          refine st_nil ?_
          clear h984
          refine hK959 _ _ ?_
          clear hK959 K959
          refine wp_ret (ret_k hd982 (v := .tuple #[nv ((ofM (sgnN s)).1), .bool true]) (res_ct rfl h983 h985 (l_two Tryd.isAgg23 Tryd.sizeOf23 hb973)) ?_)
          refine ⟨?_, hN978⟩
          show Ending.returned (.tuple #[nv ((ofM (sgnN s)).1), .bool true]) = Ending.returned (.tuple #[nv ((rParseM s).1), .bool ((rParseM s).2)])
          first | rfl | (simp [rParseM, ht67, ht201, ht339, ht497, ht520, ht884, ht943, ht945])
        have hsg2 := sgn_bd s
        refine wp_g0 [true, true, true, true, true, true, true, true] [] 74
          [ve (.bool true),
           ve (.bool false),
           ve (.bool false),
           ve (iv (sgnN s)),
           ve (.string (itoaS (sgnN s))),
           ve (.string s),
           ve (.bool true),
           ve (.bool true)] hs931 (.eq (.eq (.eq (.eq (.eq (.eq (.eq (.eq (.nil))))))))) ?_ ?_
        · skip
          refine .o1 (tk rfl rfl fun _ w hn k => ⟨_, v_move rfl (k.fx 8 hv944), rfl⟩) ?_
          refine .o1 (tk rfl rfl fun _ w hn k => ⟨_, v_not rfl (k.eq1 0 64 rfl), rfl⟩) ?_
          refine .o1 (tk rfl rfl fun _ w hn k => ⟨_, v_move rfl (k.eq1 1 65 rfl), rfl⟩) ?_
          refine .o1 (tg rfl rfl rfl (fun _ _ k => k.eq1 2 66 rfl) fun _ w hn k => ⟨_, v_move rfl (k.fx 5 h933), rfl⟩) ?_
          refine .o1 (cg rfl rfl rfl (fun _ _ k => k.eq1 2 66 rfl) rfl (fun _ w hn k => ⟨#[iv (sgnN s)], args1 (k.eq1 3 67 rfl), fun _ => by kernel_rfl, dec_c _ _ (by omega) (by omega)⟩) fun _ => rfl) ?_
          refine .o1 (tg rfl rfl rfl (fun _ _ k => k.eq1 2 66 rfl) fun _ w hn k => ⟨_, v_move rfl (k.fx 0 h934), rfl⟩) ?_
          refine .o1 (tg rfl rfl rfl (fun _ _ k => k.eq1 2 66 rfl) fun _ w hn k => ⟨_, v_bin rfl (k.eq1 4 68 rfl) (k.eq1 5 69 rfl) (fun _ => rfl) (r_neqS ht945), rfl⟩) ?_
          refine .o1 (tk rfl rfl fun _ w hn k => ⟨_, v_pickF rfl (k.eq1 2 66 rfl) (k.eq1 6 70 rfl), rfl⟩) ?_
          exact .nil
        intro a986 w987 hn988 ha989
        have hs990 := ha989.size.trans hs931
        have hd991 := ha989.defers.trans hd932
        have h992 := ha989.fx 2 h935
        have h993 := ha989.fx 3 h936
        have h994 := ha989.fx 7 h939
        have h995 := ha989.ge 7 71 rfl
        have hb996 := hb927.new_ hn988
        have hb997 := hb922.new_ hn988
        have hN998 := hN928.transNew hn988
        clear hs931 hd932 h933 h934 h935 h936 h939 hv944 hb927 hb922 hN928 ha989 hn988
        refine st_nil ?_
        refine hK942 _ _ ?_
        clear hK942 K942
        refine wp_cond_true h995 ?_
        refine wp_seq_k fun K999 hK999 => ?_
        refine wp_g0 [true, false, false] [(1, false), (2, true)] 74
          [ve (nv (Nm.mk 2 0)),
           vt,
           vt] hs990 (.eq (.tt (.tt (.nil)))) ?_ ?_
        · skip
          refine .o1 (ck rfl rfl rfl (fun _ w hn k => ⟨#[], rfl, fun _ => by kernel_rfl, rNaN_c  _⟩) fun _ => rfl) ?_
          refine .off ?_
          refine .off ?_
          exact .nil
        intro a1000 w1001 hn1002 ha1003
        have hs1004 := ha1003.size.trans hs990
        have hd1005 := ha1003.defers.trans hd991
        have h1006 := ha1003.fx 2 h992
        have h1007 := ha1003.fx 3 h993
        have h1008 := ha1003.fx 7 h994
        have h1009 := ha1003.ge 0 72 rfl
        have hb1010 := hb996.new_ hn1002
        have hb1011 := hb997.new_ hn1002
        have hN1012 := hN998.transNew hn1002
        clear hs990 hd991 h992 h993 h994 h995 hb996 hb997 hN998 ha1003 hn1002
        obtain ⟨w1013, -, hst1014, hb1015, hu1016, hf1017⟩ := s_two (v0 := iv 2) (v1 := iv 0) Tryd.sizeOf23 rfl rfl rfl hb1010
        refine st_act rfl rfl fun K1018 hL1019 => a_store' rfl h1006 h1009 hst1014 (hL1019 _ _ trivial ?_)
        have hb1020 := hf1017 _ _ _ (fun h => hne917 h.symm) hb1011
        have hN1021 := hN1012.trans hu1016 (fun k hk hkb => by subst hkb; omega)
        clear hb1010 hst1014 K1018 hL1019 hN1012 hb1011 hu1016 hf1017
        refine st_take rfl rfl (y_assign (v := .bool false) rfl rfl) rfl ?_
        obtain ⟨a1022, ha1023⟩ : ∃ a', a' = a1000.put (some 3) (.bool false) := ⟨_, rfl⟩
        have hs1024 : a1022.tmps.size = 74 := by rw [ha1023, put_size]; exact hs1004
        have hd1025 : a1022.defers = [] := by rw [ha1023, put_defers]; exact hd1005
        have h1026 : a1022.eval (.tmp 2) = pv q10 := by rw [ha1023, put_ne _ _ _ _ (by decide)]; exact h1006
        have h1027 : a1022.eval (.tmp 7) = pv q913 := by rw [ha1023, put_ne _ _ _ _ (by decide)]; exact h1008
        have h1028 : a1022.eval (.tmp 72) = nv (Nm.mk 2 0) := by rw [ha1023, put_ne _ _ _ _ (by decide)]; exact h1009
        have h1029 : a1022.eval (.tmp 3) = .bool false := by rw [ha1023]; exact put_same _ _ _ (by rw [hs1004]; decide)
        show stepsTo _ _ _ _ _ (a1000.put (some 3) (.bool false)) _
        rw [← ha1023]
        clear ha1023 hs1004 hd1005 h1006 h1007 h1008 h1009
        refine st_nil ?_
        clear h1028
        refine hK999 _ _ ?_
        clear hK999 K999
        refine wp_ret (ret_k hd1025 (v := .tuple #[nv (Nm.mk 2 0), .bool false]) (res_ct rfl h1026 h1029 (l_two Tryd.isAgg23 Tryd.sizeOf23 hb1015)) ?_)
        refine ⟨?_, hN1021⟩
        show Ending.returned (.tuple #[nv (Nm.mk 2 0), .bool false]) = Ending.returned (.tuple #[nv ((rParseM s).1), .bool ((rParseM s).2)])
        first | rfl | (simp [rParseM, ht67, ht201, ht339, ht497, ht520, ht884, ht943, ht945])
      have hv1030 : a929.eval (.tmp 8) = .bool false := h940.trans (congrArg Value.bool ht943)
      clear h940
      have hsg2 := sgn_bd s
      refine wp_g0 [true, true, true, true, true, true, true, true] [] 74
        [ve (.bool false),
         ve (.bool true),
         ve (.bool true),
         ve undef,
         ve undef,
         ve undef,
         ve undef,
         ve (.bool true)] hs931 (.eq (.eq (.eq (.eq (.eq (.eq (.eq (.eq (.nil))))))))) ?_ ?_
      · skip
        refine .o1 (tk rfl rfl fun _ w hn k => ⟨_, v_move rfl (k.fx 8 hv1030), rfl⟩) ?_
        refine .o1 (tk rfl rfl fun _ w hn k => ⟨_, v_not rfl (k.eq1 0 64 rfl), rfl⟩) ?_
        refine .o1 (tk rfl rfl fun _ w hn k => ⟨_, v_move rfl (k.eq1 1 65 rfl), rfl⟩) ?_
        refine .o1 (sk rfl rfl rfl (fun _ _ _ k => k.eq1 2 66 rfl) (fun _ => rfl)) ?_
        refine .o1 (sk rfl rfl rfl (fun _ _ _ k => k.eq1 2 66 rfl) (fun _ => rfl)) ?_
        refine .o1 (sk rfl rfl rfl (fun _ _ _ k => k.eq1 2 66 rfl) (fun _ => rfl)) ?_
        refine .o1 (sk rfl rfl rfl (fun _ _ _ k => k.eq1 2 66 rfl) (fun _ => rfl)) ?_
        refine .o1 (tk rfl rfl fun _ w hn k => ⟨_, v_pickT rfl (k.eq1 2 66 rfl) rfl, rfl⟩) ?_
        exact .nil
      intro a1031 w1032 hn1033 ha1034
      have hs1035 := ha1034.size.trans hs931
      have hd1036 := ha1034.defers.trans hd932
      have h1037 := ha1034.fx 2 h935
      have h1038 := ha1034.fx 3 h936
      have h1039 := ha1034.fx 7 h939
      have h1040 := ha1034.ge 7 71 rfl
      have hb1041 := hb927.new_ hn1033
      have hb1042 := hb922.new_ hn1033
      have hN1043 := hN928.transNew hn1033
      clear hs931 hd932 h933 h934 h935 h936 h939 hv1030 hb927 hb922 hN928 ha1034 hn1033
      refine st_nil ?_
      refine hK942 _ _ ?_
      clear hK942 K942
      refine wp_cond_true h1040 ?_
      refine wp_seq_k fun K1044 hK1044 => ?_
      refine wp_g0 [true, false, false] [(1, false), (2, true)] 74
        [ve (nv (Nm.mk 2 0)),
         vt,
         vt] hs1035 (.eq (.tt (.tt (.nil)))) ?_ ?_
      · skip
        refine .o1 (ck rfl rfl rfl (fun _ w hn k => ⟨#[], rfl, fun _ => by kernel_rfl, rNaN_c  _⟩) fun _ => rfl) ?_
        refine .off ?_
        refine .off ?_
        exact .nil
      intro a1045 w1046 hn1047 ha1048
      have hs1049 := ha1048.size.trans hs1035
      have hd1050 := ha1048.defers.trans hd1036
      have h1051 := ha1048.fx 2 h1037
      have h1052 := ha1048.fx 3 h1038
      have h1053 := ha1048.fx 7 h1039
      have h1054 := ha1048.ge 0 72 rfl
      have hb1055 := hb1041.new_ hn1047
      have hb1056 := hb1042.new_ hn1047
      have hN1057 := hN1043.transNew hn1047
      clear hs1035 hd1036 h1037 h1038 h1039 h1040 hb1041 hb1042 hN1043 ha1048 hn1047
      obtain ⟨w1058, -, hst1059, hb1060, hu1061, hf1062⟩ := s_two (v0 := iv 2) (v1 := iv 0) Tryd.sizeOf23 rfl rfl rfl hb1055
      refine st_act rfl rfl fun K1063 hL1064 => a_store' rfl h1051 h1054 hst1059 (hL1064 _ _ trivial ?_)
      have hb1065 := hf1062 _ _ _ (fun h => hne917 h.symm) hb1056
      have hN1066 := hN1057.trans hu1061 (fun k hk hkb => by subst hkb; omega)
      clear hb1055 hst1059 K1063 hL1064 hN1057 hb1056 hu1061 hf1062
      refine st_take rfl rfl (y_assign (v := .bool false) rfl rfl) rfl ?_
      obtain ⟨a1067, ha1068⟩ : ∃ a', a' = a1045.put (some 3) (.bool false) := ⟨_, rfl⟩
      have hs1069 : a1067.tmps.size = 74 := by rw [ha1068, put_size]; exact hs1049
      have hd1070 : a1067.defers = [] := by rw [ha1068, put_defers]; exact hd1050
      have h1071 : a1067.eval (.tmp 2) = pv q10 := by rw [ha1068, put_ne _ _ _ _ (by decide)]; exact h1051
      have h1072 : a1067.eval (.tmp 7) = pv q913 := by rw [ha1068, put_ne _ _ _ _ (by decide)]; exact h1053
      have h1073 : a1067.eval (.tmp 72) = nv (Nm.mk 2 0) := by rw [ha1068, put_ne _ _ _ _ (by decide)]; exact h1054
      have h1074 : a1067.eval (.tmp 3) = .bool false := by rw [ha1068]; exact put_same _ _ _ (by rw [hs1049]; decide)
      show stepsTo _ _ _ _ _ (a1045.put (some 3) (.bool false)) _
      rw [← ha1068]
      clear ha1068 hs1049 hd1050 h1051 h1052 h1053 h1054
      refine st_nil ?_
      clear h1073
      refine hK1044 _ _ ?_
      clear hK1044 K1044
      refine wp_ret (ret_k hd1070 (v := .tuple #[nv (Nm.mk 2 0), .bool false]) (res_ct rfl h1071 h1074 (l_two Tryd.isAgg23 Tryd.sizeOf23 hb1060)) ?_)
      refine ⟨?_, hN1066⟩
      show Ending.returned (.tuple #[nv (Nm.mk 2 0), .bool false]) = Ending.returned (.tuple #[nv ((rParseM s).1), .bool ((rParseM s).2)])
      first | rfl | (simp [rParseM, ht67, ht201, ht339, ht497, ht520, ht884, ht943])
    have ht884d := of_decide_eq_false ht884
    refine wp_g0 [true, true, true, true, true, true, true, true] [] 74
      [ve (.string s),
       ve (iv (s.size : Int)),
       ve (.bool true),
       ve (.bool true),
       ve (.string s),
       ve (.int .u8 (byteI s 0)),
       ve (.bool (decide ((byteI s 0) = 45))),
       ve (.bool (decide ((byteI s 0) = 45)))] hs502 (.eq (.eq (.eq (.eq (.eq (.eq (.eq (.eq (.nil))))))))) ?_ ?_
    · skip
      refine .o1 (tk rfl rfl fun _ w hn k => ⟨_, v_move rfl (k.fx 0 h506), rfl⟩) ?_
      refine .o1 (tk rfl rfl fun _ w hn k => ⟨_, v_lens rfl (k.eq1 0 49 rfl) (by kernel_rfl), rfl⟩) ?_
      refine .o1 (tk rfl rfl fun _ w hn k => ⟨_, v_bin rfl (k.eq1 1 50 rfl) rfl (fun _ => rfl) (r_gtrK ht884), rfl⟩) ?_
      refine .o1 (tk rfl rfl fun _ w hn k => ⟨_, v_move rfl (k.eq1 2 51 rfl), rfl⟩) ?_
      refine .o1 (tg rfl rfl rfl (fun _ _ k => k.eq1 3 52 rfl) fun _ w hn k => ⟨_, v_move rfl (k.fx 0 h506), rfl⟩) ?_
      refine .o1 (tg rfl rfl rfl (fun _ _ k => k.eq1 3 52 rfl) fun _ w hn k => ⟨_, v_idxs rfl (k.eq1 4 53 rfl) rfl (by kernel_rfl) (by omega), rfl⟩) ?_
      refine .o1 (tg rfl rfl rfl (fun _ _ k => k.eq1 3 52 rfl) fun _ w hn k => ⟨_, v_bin rfl (k.eq1 5 54 rfl) rfl (fun _ => rfl) (r_eql rfl), rfl⟩) ?_
      refine .o1 (tk rfl rfl fun _ w hn k => ⟨_, v_pickT rfl (k.eq1 3 52 rfl) (k.eq1 6 55 rfl), rfl⟩) ?_
      exact .nil
    intro a1075 w1076 hn1077 ha1078
    have hs1079 := ha1078.size.trans hs502
    have hd1080 := ha1078.defers.trans hd503
    have h1081 := ha1078.fx 5 h883
    have h1082 := ha1078.fx 0 h506
    have h1083 := ha1078.fx 2 h507
    have h1084 := ha1078.fx 3 h508
    have h1085 := ha1078.ge 7 56 rfl
    have hb1086 := hb518.new_ hn1077
    have hN1087 := hN519.transNew hn1077
    clear hs502 hd503 h883 h505 h506 h507 h508 h509 h510 h511 h512 h513 h514 h515 hv879 hv880 hb518 hN519 ha1078 hn1077
    refine st_nil ?_
    refine hK882 _ _ ?_
    clear hK882 K882
    rcases Bool.eq_false_or_eq_true (decide ((byteI s 0) = 45)) with ht1088 | ht1088
    · skip
      have ht1088d := of_decide_eq_true ht1088
      have hv1089 : a1075.eval (.tmp 56) = .bool true := h1085.trans (congrArg Value.bool ht1088)
      clear h1085
      refine wp_cond_true hv1089 ?_
      have hsg := sgn_bd s
      refine wp_g0 [true, true, false] [(2, true)] 74
        [ve (iv (accN s)),
         ve (iv (-(accN s))),
         vt] hs1079 (.eq (.eq (.tt (.nil)))) ?_ ?_
      · skip
        refine .o1 (tk rfl rfl fun _ w hn k => ⟨_, v_move rfl (k.fx 5 h1081), rfl⟩) ?_
        refine .o1 (tk rfl rfl fun _ w hn k => ⟨_, v_neg rfl (k.eq1 0 57 rfl) (by omega), rfl⟩) ?_
        refine .off ?_
        exact .nil
      intro a1090 w1091 hn1092 ha1093
      have hs1094 := ha1093.size.trans hs1079
      have hd1095 := ha1093.defers.trans hd1080
      have h1096 := ha1093.fx 5 h1081
      have h1097 := ha1093.fx 0 h1082
      have h1098 := ha1093.fx 2 h1083
      have h1099 := ha1093.fx 3 h1084
      have h1100 := ha1093.ge 1 58 rfl
      have hb1101 := hb1086.new_ hn1092
      have hN1102 := hN1087.transNew hn1092
      clear hs1079 hd1080 h1081 h1082 h1083 h1084 hv1089 hb1086 hN1087 ha1093 hn1092
      refine st_take rfl rfl (y_assign (v := iv (-(accN s))) rfl h1100) rfl ?_
      obtain ⟨a1103, ha1104⟩ : ∃ a', a' = a1090.put (some 5) (iv (-(accN s))) := ⟨_, rfl⟩
      have hs1105 : a1103.tmps.size = 74 := by rw [ha1104, put_size]; exact hs1094
      have hd1106 : a1103.defers = [] := by rw [ha1104, put_defers]; exact hd1095
      have h1107 : a1103.eval (.tmp 0) = .string s := by rw [ha1104, put_ne _ _ _ _ (by decide)]; exact h1097
      have h1108 : a1103.eval (.tmp 2) = pv q10 := by rw [ha1104, put_ne _ _ _ _ (by decide)]; exact h1098
      have h1109 : a1103.eval (.tmp 3) = .bool false := by rw [ha1104, put_ne _ _ _ _ (by decide)]; exact h1099
      have h1110 : a1103.eval (.tmp 58) = iv (-(accN s)) := by rw [ha1104, put_ne _ _ _ _ (by decide)]; exact h1100
      have h1111 : a1103.eval (.tmp 5) = iv (-(accN s)) := by rw [ha1104]; exact put_same _ _ _ (by rw [hs1094]; decide)
      show stepsTo _ _ _ _ _ (a1090.put (some 5) (iv (-(accN s)))) _
      rw [← ha1104]
      clear ha1104 hs1094 hd1095 h1096 h1097 h1098 h1099 h1100
      refine st_nil ?_
      clear h1110
      refine hK881 _ _ ?_
      clear hK881 K881
      refine wp_seq_k fun K1112 hK1112 => ?_
      have h1113 : a1103.eval (.tmp 5) = .int .i64 (sgnN s) := h1111.trans (congrArg (Value.int .i64) (sgn_yes ht884 ht1088))
      clear h1111
      refine wp_g [true, true, true, true, true, true, false, false] [4] [(6, false), (7, true)] 74
        [ve (iv (sgnN s)),
         ve (.tuple #[nv ((ofM (sgnN s)).1), .bool ((ofM (sgnN s)).2)]),
         ve (.tuple #[nv ((ofM (sgnN s)).1), .bool ((ofM (sgnN s)).2)]),
         ve (nv ((ofM (sgnN s)).1)),
         ve (.bool ((ofM (sgnN s)).2)),
         IsNew w1091 23 [iv 0, iv 0],
         vt,
         vt]
        [5] (newsCons (fun v w h => IsNew.old h) newsNil) hs1105 (.eq (.eq (.eq (.eq (.eq (.nw (.tt (.tt (.nil))))))))) ?_ ?_ ?_
      · skip
        refine .o1 (tk rfl rfl fun _ w hn k => ⟨_, v_move rfl (k.fx 5 h1113), rfl⟩) ?_
        refine .o1 (ck rfl rfl rfl (fun _ w hn k => ⟨#[iv (sgnN s)], args1 (k.eq1 0 60 rfl), fun _ => by kernel_rfl, rof_c (sgnN s) _⟩) fun _ => rfl) ?_
        refine .o1 (tk rfl rfl fun _ w hn k => ⟨_, v_move rfl (k.eq1 1 61 rfl), rfl⟩) ?_
        refine .o1 (tk rfl rfl fun _ w hn k => ⟨_, v_extract rfl (k.eq1 2 59 rfl) rfl, rfl⟩) ?_
        refine .o3 ?_
        refine .o2 (step_allocN (cs := [iv 0, iv 0]) (t := 23) rfl (noG rfl) (fun _ w hn k => rfl) (fun q _ hq hb => ⟨q, rfl, hq, hb⟩)) ?_
        refine .off ?_
        refine .off ?_
        exact .nil
      · skip
        intro i h
        simp only [List.contains_eq_mem, List.mem_cons, List.not_mem_nil, or_false, decide_eq_true_eq] at h
        subst h
        · exact eager_take rfl rfl fun _ w hn k => ⟨.bool ((ofM (sgnN s)).2), fun w => v_extract rfl (k.eq1 2 59 rfl) rfl, rfl⟩
      intro a1114 w1115 hn1116 ha1117
      have hs1118 := ha1117.size.trans hs1105
      have hd1119 := ha1117.defers.trans hd1106
      have h1120 := ha1117.fx 0 h1107
      have h1121 := ha1117.fx 2 h1108
      have h1122 := ha1117.fx 3 h1109
      have h1123 := ha1117.fx 5 h1113
      have h1124 := ha1117.ge 3 62 rfl
      have h1125 := ha1117.ge 4 63 rfl
      obtain ⟨q1127, h1126, hq1128, hb1129⟩ : IsNew _ _ _ _ _ := ha1117.got 5 7 rfl (by kernel_rfl)
      have hb1130 := hb1101.new_ hn1116
      have hne1131 : q10 ≠ q1127 := by have h1 := hb1101.lt; have h2 := hq1128; omega
      have hq1132 := Nat.le_trans hN1102.size hq1128
      have hN1133 := hN1102.transNew hn1116
      clear hs1105 hd1106 h1107 h1108 h1109 h1113 hb1101 hq1128 hN1102 ha1117 hn1116
      obtain ⟨w1134, -, hst1135, hb1136, hu1137, hf1138⟩ := s_two (v0 := iv ((ofM (sgnN s)).1.k)) (v1 := iv ((ofM (sgnN s)).1.n)) Tryd.sizeOf23 rfl rfl rfl hb1129
      refine st_act rfl rfl fun K1139 hL1140 => a_store' rfl h1126 h1124 hst1135 (hL1140 _ _ trivial ?_)
      have hb1141 := hf1138 _ _ _ (hne1131) hb1130
      have hN1142 := hN1133.trans hu1137 (fun k hk hkb => by subst hkb; omega)
      clear hb1129 hst1135 K1139 hL1140 hN1133 hb1130 hu1137 hf1138
      refine st_take rfl rfl (y_assign (v := .bool ((ofM (sgnN s)).2)) rfl h1125) rfl ?_
      obtain ⟨a1143, ha1144⟩ : ∃ a', a' = a1114.put (some 8) (.bool ((ofM (sgnN s)).2)) := ⟨_, rfl⟩
      have hs1145 : a1143.tmps.size = 74 := by rw [ha1144, put_size]; exact hs1118
      have hd1146 : a1143.defers = [] := by rw [ha1144, put_defers]; exact hd1119
      have h1147 : a1143.eval (.tmp 0) = .string s := by rw [ha1144, put_ne _ _ _ _ (by decide)]; exact h1120
      have h1148 : a1143.eval (.tmp 2) = pv q10 := by rw [ha1144, put_ne _ _ _ _ (by decide)]; exact h1121
      have h1149 : a1143.eval (.tmp 3) = .bool false := by rw [ha1144, put_ne _ _ _ _ (by decide)]; exact h1122
      have h1150 : a1143.eval (.tmp 5) = iv (sgnN s) := by rw [ha1144, put_ne _ _ _ _ (by decide)]; exact h1123
      have h1151 : a1143.eval (.tmp 62) = nv ((ofM (sgnN s)).1) := by rw [ha1144, put_ne _ _ _ _ (by decide)]; exact h1124
      have h1152 : a1143.eval (.tmp 63) = .bool ((ofM (sgnN s)).2) := by rw [ha1144, put_ne _ _ _ _ (by decide)]; exact h1125
      have h1153 : a1143.eval (.tmp 7) = pv q1127 := by rw [ha1144, put_ne _ _ _ _ (by decide)]; exact h1126
      have h1154 : a1143.eval (.tmp 8) = .bool ((ofM (sgnN s)).2) := by rw [ha1144]; exact put_same _ _ _ (by rw [hs1118]; decide)
      show stepsTo _ _ _ _ _ (a1114.put (some 8) (.bool ((ofM (sgnN s)).2))) _
      rw [← ha1144]
      clear ha1144 hs1118 hd1119 h1120 h1121 h1122 h1123 h1124 h1125 h1126
      refine st_nil ?_
      clear h1151 h1152
      refine hK1112 _ _ ?_
      clear hK1112 K1112
      refine wp_seq_k fun K1155 hK1155 => ?_
      refine wp_seq_k fun K1156 hK1156 => ?_
      rcases Bool.eq_false_or_eq_true ((ofM (sgnN s)).2) with ht1157 | ht1157
      · skip
        have hv1158 : a1143.eval (.tmp 8) = .bool true := h1154.trans (congrArg Value.bool ht1157)
        clear h1154
        rcases Bool.eq_false_or_eq_true (strEq (itoaS (sgnN s)) s) with ht1159 | ht1159
        · skip
          have hsg2 := sgn_bd s
          refine wp_g0 [true, true, true, true, true, true, true, true] [] 74
            [ve (.bool true),
             ve (.bool false),
             ve (.bool false),
             ve (iv (sgnN s)),
             ve (.string (itoaS (sgnN s))),
             ve (.string s),
             ve (.bool false),
             ve (.bool false)] hs1145 (.eq (.eq (.eq (.eq (.eq (.eq (.eq (.eq (.nil))))))))) ?_ ?_
          · skip
            refine .o1 (tk rfl rfl fun _ w hn k => ⟨_, v_move rfl (k.fx 8 hv1158), rfl⟩) ?_
            refine .o1 (tk rfl rfl fun _ w hn k => ⟨_, v_not rfl (k.eq1 0 64 rfl), rfl⟩) ?_
            refine .o1 (tk rfl rfl fun _ w hn k => ⟨_, v_move rfl (k.eq1 1 65 rfl), rfl⟩) ?_
            refine .o1 (tg rfl rfl rfl (fun _ _ k => k.eq1 2 66 rfl) fun _ w hn k => ⟨_, v_move rfl (k.fx 5 h1150), rfl⟩) ?_
            refine .o1 (cg rfl rfl rfl (fun _ _ k => k.eq1 2 66 rfl) rfl (fun _ w hn k => ⟨#[iv (sgnN s)], args1 (k.eq1 3 67 rfl), fun _ => by kernel_rfl, dec_c _ _ (by omega) (by omega)⟩) fun _ => rfl) ?_
            refine .o1 (tg rfl rfl rfl (fun _ _ k => k.eq1 2 66 rfl) fun _ w hn k => ⟨_, v_move rfl (k.fx 0 h1147), rfl⟩) ?_
            refine .o1 (tg rfl rfl rfl (fun _ _ k => k.eq1 2 66 rfl) fun _ w hn k => ⟨_, v_bin rfl (k.eq1 4 68 rfl) (k.eq1 5 69 rfl) (fun _ => rfl) (r_neqS ht1159), rfl⟩) ?_
            refine .o1 (tk rfl rfl fun _ w hn k => ⟨_, v_pickF rfl (k.eq1 2 66 rfl) (k.eq1 6 70 rfl), rfl⟩) ?_
            exact .nil
          intro a1160 w1161 hn1162 ha1163
          have hs1164 := ha1163.size.trans hs1145
          have hd1165 := ha1163.defers.trans hd1146
          have h1166 := ha1163.fx 2 h1148
          have h1167 := ha1163.fx 3 h1149
          have h1168 := ha1163.fx 7 h1153
          have h1169 := ha1163.ge 7 71 rfl
          have hb1170 := hb1141.new_ hn1162
          have hb1171 := hb1136.new_ hn1162
          have hN1172 := hN1142.transNew hn1162
          clear hs1145 hd1146 h1147 h1148 h1149 h1150 h1153 hv1158 hb1141 hb1136 hN1142 ha1163 hn1162
          refine st_nil ?_
          refine hK1156 _ _ ?_
          clear hK1156 K1156
          refine wp_cond_false h1169 ?_
          refine wp_skip ?_
          refine hK1155 _ _ ?_
          clear hK1155 K1155
          refine wp_seq_k fun K1173 hK1173 => ?_
          refine wp_g0 [true, false, false] [(1, false), (2, true)] 74
            [ve (nv ((ofM (sgnN s)).1)),
             vt,
             vt] hs1164 (.eq (.tt (.tt (.nil)))) ?_ ?_
          · skip
            refine .o1 (tk rfl rfl fun _ w hn k => ⟨_, v_load rfl (k.fx 7 h1168) (l_two Tryd.isAgg23 Tryd.sizeOf23 (hb1171.new_ hn)), rfl⟩) ?_
            refine .off ?_
            refine .off ?_
            exact .nil
          intro a1174 w1175 hn1176 ha1177
          have hs1178 := ha1177.size.trans hs1164
          have hd1179 := ha1177.defers.trans hd1165
          have h1180 := ha1177.fx 2 h1166
          have h1181 := ha1177.fx 3 h1167
          have h1182 := ha1177.ge 0 73 rfl
          have hb1183 := hb1170.new_ hn1176
          have hN1184 := hN1172.transNew hn1176
          clear hs1164 hd1165 h1166 h1167 h1168 h1169 hb1170 hb1171 hq1132 hN1172 ha1177 hn1176
          obtain ⟨w1185, -, hst1186, hb1187, hu1188, hf1189⟩ := s_two (v0 := iv ((ofM (sgnN s)).1.k)) (v1 := iv ((ofM (sgnN s)).1.n)) Tryd.sizeOf23 rfl rfl rfl hb1183
          refine st_act rfl rfl fun K1190 hL1191 => a_store' rfl h1180 h1182 hst1186 (hL1191 _ _ trivial ?_)
          have hN1192 := hN1184.trans hu1188 (fun k hk hkb => by subst hkb; omega)
          clear hb1183 hst1186 K1190 hL1191 hN1184 hu1188 hf1189
          refine st_take rfl rfl (y_assign (v := .bool true) rfl rfl) rfl ?_
          obtain ⟨a1193, ha1194⟩ : ∃ a', a' = a1174.put (some 3) (.bool true) := ⟨_, rfl⟩
          have hs1195 : a1193.tmps.size = 74 := by rw [ha1194, put_size]; exact hs1178
          have hd1196 : a1193.defers = [] := by rw [ha1194, put_defers]; exact hd1179
          have h1197 : a1193.eval (.tmp 2) = pv q10 := by rw [ha1194, put_ne _ _ _ _ (by decide)]; exact h1180
          have h1198 : a1193.eval (.tmp 73) = nv ((ofM (sgnN s)).1) := by rw [ha1194, put_ne _ _ _ _ (by decide)]; exact h1182
          have h1199 : a1193.eval (.tmp 3) = .bool true := by rw [ha1194]; exact put_same _ _ _ (by rw [hs1178]; decide)
          show stepsTo _ _ _ _ _ (a1174.put (some 3) (.bool true)) _
          rw [← ha1194]
          clear ha1194 hs1178 hd1179 h1180 h1181 h1182
          refine st_nil ?_
          clear h1198
          refine hK1173 _ _ ?_
          clear hK1173 K1173
          refine wp_ret (ret_k hd1196 (v := .tuple #[nv ((ofM (sgnN s)).1), .bool true]) (res_ct rfl h1197 h1199 (l_two Tryd.isAgg23 Tryd.sizeOf23 hb1187)) ?_)
          refine ⟨?_, hN1192⟩
          show Ending.returned (.tuple #[nv ((ofM (sgnN s)).1), .bool true]) = Ending.returned (.tuple #[nv ((rParseM s).1), .bool ((rParseM s).2)])
          first | rfl | (simp [rParseM, ht67, ht201, ht339, ht497, ht520, ht884, ht1088, ht1157, ht1159])
        have hsg2 := sgn_bd s
        refine wp_g0 [true, true, true, true, true, true, true, true] [] 74
          [ve (.bool true),
           ve (.bool false),
           ve (.bool false),
           ve (iv (sgnN s)),
           ve (.string (itoaS (sgnN s))),
           ve (.string s),
           ve (.bool true),
           ve (.bool true)] hs1145 (.eq (.eq (.eq (.eq (.eq (.eq (.eq (.eq (.nil))))))))) ?_ ?_
        · skip
          refine .o1 (tk rfl rfl fun _ w hn k => ⟨_, v_move rfl (k.fx 8 hv1158), rfl⟩) ?_
          refine .o1 (tk rfl rfl fun _ w hn k => ⟨_, v_not rfl (k.eq1 0 64 rfl), rfl⟩) ?_
          refine .o1 (tk rfl rfl fun _ w hn k => ⟨_, v_move rfl (k.eq1 1 65 rfl), rfl⟩) ?_
          refine .o1 (tg rfl rfl rfl (fun _ _ k => k.eq1 2 66 rfl) fun _ w hn k => ⟨_, v_move rfl (k.fx 5 h1150), rfl⟩) ?_
          refine .o1 (cg rfl rfl rfl (fun _ _ k => k.eq1 2 66 rfl) rfl (fun _ w hn k => ⟨#[iv (sgnN s)], args1 (k.eq1 3 67 rfl), fun _ => by kernel_rfl, dec_c _ _ (by omega) (by omega)⟩) fun _ => rfl) ?_
          refine .o1 (tg rfl rfl rfl (fun _ _ k => k.eq1 2 66 rfl) fun _ w hn k => ⟨_, v_move rfl (k.fx 0 h1147), rfl⟩) ?_
          refine .o1 (tg rfl rfl rfl (fun _ _ k => k.eq1 2 66 rfl) fun _ w hn k => ⟨_, v_bin rfl (k.eq1 4 68 rfl) (k.eq1 5 69 rfl) (fun _ => rfl) (r_neqS ht1159), rfl⟩) ?_
          refine .o1 (tk rfl rfl fun _ w hn k => ⟨_, v_pickF rfl (k.eq1 2 66 rfl) (k.eq1 6 70 rfl), rfl⟩) ?_
          exact .nil
        intro a1200 w1201 hn1202 ha1203
        have hs1204 := ha1203.size.trans hs1145
        have hd1205 := ha1203.defers.trans hd1146
        have h1206 := ha1203.fx 2 h1148
        have h1207 := ha1203.fx 3 h1149
        have h1208 := ha1203.fx 7 h1153
        have h1209 := ha1203.ge 7 71 rfl
        have hb1210 := hb1141.new_ hn1202
        have hb1211 := hb1136.new_ hn1202
        have hN1212 := hN1142.transNew hn1202
        clear hs1145 hd1146 h1147 h1148 h1149 h1150 h1153 hv1158 hb1141 hb1136 hN1142 ha1203 hn1202
        refine st_nil ?_
        refine hK1156 _ _ ?_
        clear hK1156 K1156
        refine wp_cond_true h1209 ?_
        refine wp_seq_k fun K1213 hK1213 => ?_
        refine wp_g0 [true, false, false] [(1, false), (2, true)] 74
          [ve (nv (Nm.mk 2 0)),
           vt,
           vt] hs1204 (.eq (.tt (.tt (.nil)))) ?_ ?_
        · skip
          refine .o1 (ck rfl rfl rfl (fun _ w hn k => ⟨#[], rfl, fun _ => by kernel_rfl, rNaN_c  _⟩) fun _ => rfl) ?_
          refine .off ?_
          refine .off ?_
          exact .nil
        intro a1214 w1215 hn1216 ha1217
        have hs1218 := ha1217.size.trans hs1204
        have hd1219 := ha1217.defers.trans hd1205
        have h1220 := ha1217.fx 2 h1206
        have h1221 := ha1217.fx 3 h1207
        have h1222 := ha1217.fx 7 h1208
        have h1223 := ha1217.ge 0 72 rfl
        have hb1224 := hb1210.new_ hn1216
        have hb1225 := hb1211.new_ hn1216
        have hN1226 := hN1212.transNew hn1216
        clear hs1204 hd1205 h1206 h1207 h1208 h1209 hb1210 hb1211 hN1212 ha1217 hn1216
        obtain ⟨w1227, -, hst1228, hb1229, hu1230, hf1231⟩ := s_two (v0 := iv 2) (v1 := iv 0) Tryd.sizeOf23 rfl rfl rfl hb1224
        refine st_act rfl rfl fun K1232 hL1233 => a_store' rfl h1220 h1223 hst1228 (hL1233 _ _ trivial ?_)
        have hb1234 := hf1231 _ _ _ (fun h => hne1131 h.symm) hb1225
        have hN1235 := hN1226.trans hu1230 (fun k hk hkb => by subst hkb; omega)
        clear hb1224 hst1228 K1232 hL1233 hN1226 hb1225 hu1230 hf1231
        refine st_take rfl rfl (y_assign (v := .bool false) rfl rfl) rfl ?_
        obtain ⟨a1236, ha1237⟩ : ∃ a', a' = a1214.put (some 3) (.bool false) := ⟨_, rfl⟩
        have hs1238 : a1236.tmps.size = 74 := by rw [ha1237, put_size]; exact hs1218
        have hd1239 : a1236.defers = [] := by rw [ha1237, put_defers]; exact hd1219
        have h1240 : a1236.eval (.tmp 2) = pv q10 := by rw [ha1237, put_ne _ _ _ _ (by decide)]; exact h1220
        have h1241 : a1236.eval (.tmp 7) = pv q1127 := by rw [ha1237, put_ne _ _ _ _ (by decide)]; exact h1222
        have h1242 : a1236.eval (.tmp 72) = nv (Nm.mk 2 0) := by rw [ha1237, put_ne _ _ _ _ (by decide)]; exact h1223
        have h1243 : a1236.eval (.tmp 3) = .bool false := by rw [ha1237]; exact put_same _ _ _ (by rw [hs1218]; decide)
        show stepsTo _ _ _ _ _ (a1214.put (some 3) (.bool false)) _
        rw [← ha1237]
        clear ha1237 hs1218 hd1219 h1220 h1221 h1222 h1223
        refine st_nil ?_
        clear h1242
        refine hK1213 _ _ ?_
        clear hK1213 K1213
        refine wp_ret (ret_k hd1239 (v := .tuple #[nv (Nm.mk 2 0), .bool false]) (res_ct rfl h1240 h1243 (l_two Tryd.isAgg23 Tryd.sizeOf23 hb1229)) ?_)
        refine ⟨?_, hN1235⟩
        show Ending.returned (.tuple #[nv (Nm.mk 2 0), .bool false]) = Ending.returned (.tuple #[nv ((rParseM s).1), .bool ((rParseM s).2)])
        first | rfl | (simp [rParseM, ht67, ht201, ht339, ht497, ht520, ht884, ht1088, ht1157, ht1159])
      have hv1244 : a1143.eval (.tmp 8) = .bool false := h1154.trans (congrArg Value.bool ht1157)
      clear h1154
      have hsg2 := sgn_bd s
      refine wp_g0 [true, true, true, true, true, true, true, true] [] 74
        [ve (.bool false),
         ve (.bool true),
         ve (.bool true),
         ve undef,
         ve undef,
         ve undef,
         ve undef,
         ve (.bool true)] hs1145 (.eq (.eq (.eq (.eq (.eq (.eq (.eq (.eq (.nil))))))))) ?_ ?_
      · skip
        refine .o1 (tk rfl rfl fun _ w hn k => ⟨_, v_move rfl (k.fx 8 hv1244), rfl⟩) ?_
        refine .o1 (tk rfl rfl fun _ w hn k => ⟨_, v_not rfl (k.eq1 0 64 rfl), rfl⟩) ?_
        refine .o1 (tk rfl rfl fun _ w hn k => ⟨_, v_move rfl (k.eq1 1 65 rfl), rfl⟩) ?_
        refine .o1 (sk rfl rfl rfl (fun _ _ _ k => k.eq1 2 66 rfl) (fun _ => rfl)) ?_
        refine .o1 (sk rfl rfl rfl (fun _ _ _ k => k.eq1 2 66 rfl) (fun _ => rfl)) ?_
        refine .o1 (sk rfl rfl rfl (fun _ _ _ k => k.eq1 2 66 rfl) (fun _ => rfl)) ?_
        refine .o1 (sk rfl rfl rfl (fun _ _ _ k => k.eq1 2 66 rfl) (fun _ => rfl)) ?_
        refine .o1 (tk rfl rfl fun _ w hn k => ⟨_, v_pickT rfl (k.eq1 2 66 rfl) rfl, rfl⟩) ?_
        exact .nil
      intro a1245 w1246 hn1247 ha1248
      have hs1249 := ha1248.size.trans hs1145
      have hd1250 := ha1248.defers.trans hd1146
      have h1251 := ha1248.fx 2 h1148
      have h1252 := ha1248.fx 3 h1149
      have h1253 := ha1248.fx 7 h1153
      have h1254 := ha1248.ge 7 71 rfl
      have hb1255 := hb1141.new_ hn1247
      have hb1256 := hb1136.new_ hn1247
      have hN1257 := hN1142.transNew hn1247
      clear hs1145 hd1146 h1147 h1148 h1149 h1150 h1153 hv1244 hb1141 hb1136 hN1142 ha1248 hn1247
      refine st_nil ?_
      refine hK1156 _ _ ?_
      clear hK1156 K1156
      refine wp_cond_true h1254 ?_
      refine wp_seq_k fun K1258 hK1258 => ?_
      refine wp_g0 [true, false, false] [(1, false), (2, true)] 74
        [ve (nv (Nm.mk 2 0)),
         vt,
         vt] hs1249 (.eq (.tt (.tt (.nil)))) ?_ ?_
      · skip
        refine .o1 (ck rfl rfl rfl (fun _ w hn k => ⟨#[], rfl, fun _ => by kernel_rfl, rNaN_c  _⟩) fun _ => rfl) ?_
        refine .off ?_
        refine .off ?_
        exact .nil
      intro a1259 w1260 hn1261 ha1262
      have hs1263 := ha1262.size.trans hs1249
      have hd1264 := ha1262.defers.trans hd1250
      have h1265 := ha1262.fx 2 h1251
      have h1266 := ha1262.fx 3 h1252
      have h1267 := ha1262.fx 7 h1253
      have h1268 := ha1262.ge 0 72 rfl
      have hb1269 := hb1255.new_ hn1261
      have hb1270 := hb1256.new_ hn1261
      have hN1271 := hN1257.transNew hn1261
      clear hs1249 hd1250 h1251 h1252 h1253 h1254 hb1255 hb1256 hN1257 ha1262 hn1261
      obtain ⟨w1272, -, hst1273, hb1274, hu1275, hf1276⟩ := s_two (v0 := iv 2) (v1 := iv 0) Tryd.sizeOf23 rfl rfl rfl hb1269
      refine st_act rfl rfl fun K1277 hL1278 => a_store' rfl h1265 h1268 hst1273 (hL1278 _ _ trivial ?_)
      have hb1279 := hf1276 _ _ _ (fun h => hne1131 h.symm) hb1270
      have hN1280 := hN1271.trans hu1275 (fun k hk hkb => by subst hkb; omega)
      clear hb1269 hst1273 K1277 hL1278 hN1271 hb1270 hu1275 hf1276
      refine st_take rfl rfl (y_assign (v := .bool false) rfl rfl) rfl ?_
      obtain ⟨a1281, ha1282⟩ : ∃ a', a' = a1259.put (some 3) (.bool false) := ⟨_, rfl⟩
      have hs1283 : a1281.tmps.size = 74 := by rw [ha1282, put_size]; exact hs1263
      have hd1284 : a1281.defers = [] := by rw [ha1282, put_defers]; exact hd1264
      have h1285 : a1281.eval (.tmp 2) = pv q10 := by rw [ha1282, put_ne _ _ _ _ (by decide)]; exact h1265
      have h1286 : a1281.eval (.tmp 7) = pv q1127 := by rw [ha1282, put_ne _ _ _ _ (by decide)]; exact h1267
      have h1287 : a1281.eval (.tmp 72) = nv (Nm.mk 2 0) := by rw [ha1282, put_ne _ _ _ _ (by decide)]; exact h1268
      have h1288 : a1281.eval (.tmp 3) = .bool false := by rw [ha1282]; exact put_same _ _ _ (by rw [hs1263]; decide)
      show stepsTo _ _ _ _ _ (a1259.put (some 3) (.bool false)) _
      rw [← ha1282]
      clear ha1282 hs1263 hd1264 h1265 h1266 h1267 h1268
      refine st_nil ?_
      clear h1287
      refine hK1258 _ _ ?_
      clear hK1258 K1258
      refine wp_ret (ret_k hd1284 (v := .tuple #[nv (Nm.mk 2 0), .bool false]) (res_ct rfl h1285 h1288 (l_two Tryd.isAgg23 Tryd.sizeOf23 hb1274)) ?_)
      refine ⟨?_, hN1280⟩
      show Ending.returned (.tuple #[nv (Nm.mk 2 0), .bool false]) = Ending.returned (.tuple #[nv ((rParseM s).1), .bool ((rParseM s).2)])
      first | rfl | (simp [rParseM, ht67, ht201, ht339, ht497, ht520, ht884, ht1088, ht1157])
    have ht1088d := of_decide_eq_false ht1088
    have hv1289 : a1075.eval (.tmp 56) = .bool false := h1085.trans (congrArg Value.bool ht1088)
    clear h1085
    refine wp_cond_false hv1289 ?_
    refine wp_skip ?_
    refine hK881 _ _ ?_
    clear hK881 K881
    refine wp_seq_k fun K1290 hK1290 => ?_
    have h1291 : a1075.eval (.tmp 5) = .int .i64 (sgnN s) := h1081.trans (congrArg (Value.int .i64) (sgn_no2 ht1088))
    clear h1081
    refine wp_g [true, true, true, true, true, true, false, false] [4] [(6, false), (7, true)] 74
      [ve (iv (sgnN s)),
       ve (.tuple #[nv ((ofM (sgnN s)).1), .bool ((ofM (sgnN s)).2)]),
       ve (.tuple #[nv ((ofM (sgnN s)).1), .bool ((ofM (sgnN s)).2)]),
       ve (nv ((ofM (sgnN s)).1)),
       ve (.bool ((ofM (sgnN s)).2)),
       IsNew w1076 23 [iv 0, iv 0],
       vt,
       vt]
      [5] (newsCons (fun v w h => IsNew.old h) newsNil) hs1079 (.eq (.eq (.eq (.eq (.eq (.nw (.tt (.tt (.nil))))))))) ?_ ?_ ?_
    · skip
      refine .o1 (tk rfl rfl fun _ w hn k => ⟨_, v_move rfl (k.fx 5 h1291), rfl⟩) ?_
      refine .o1 (ck rfl rfl rfl (fun _ w hn k => ⟨#[iv (sgnN s)], args1 (k.eq1 0 60 rfl), fun _ => by kernel_rfl, rof_c (sgnN s) _⟩) fun _ => rfl) ?_
      refine .o1 (tk rfl rfl fun _ w hn k => ⟨_, v_move rfl (k.eq1 1 61 rfl), rfl⟩) ?_
      refine .o1 (tk rfl rfl fun _ w hn k => ⟨_, v_extract rfl (k.eq1 2 59 rfl) rfl, rfl⟩) ?_
      refine .o3 ?_
      refine .o2 (step_allocN (cs := [iv 0, iv 0]) (t := 23) rfl (noG rfl) (fun _ w hn k => rfl) (fun q _ hq hb => ⟨q, rfl, hq, hb⟩)) ?_
      refine .off ?_
      refine .off ?_
      exact .nil
    · skip
      intro i h
      simp only [List.contains_eq_mem, List.mem_cons, List.not_mem_nil, or_false, decide_eq_true_eq] at h
      subst h
      · exact eager_take rfl rfl fun _ w hn k => ⟨.bool ((ofM (sgnN s)).2), fun w => v_extract rfl (k.eq1 2 59 rfl) rfl, rfl⟩
    intro a1292 w1293 hn1294 ha1295
    have hs1296 := ha1295.size.trans hs1079
    have hd1297 := ha1295.defers.trans hd1080
    have h1298 := ha1295.fx 5 h1291
    have h1299 := ha1295.fx 0 h1082
    have h1300 := ha1295.fx 2 h1083
    have h1301 := ha1295.fx 3 h1084
    have h1302 := ha1295.ge 3 62 rfl
    have h1303 := ha1295.ge 4 63 rfl
    obtain ⟨q1305, h1304, hq1306, hb1307⟩ : IsNew _ _ _ _ _ := ha1295.got 5 7 rfl (by kernel_rfl)
    have hb1308 := hb1086.new_ hn1294
    have hne1309 : q10 ≠ q1305 := by have h1 := hb1086.lt; have h2 := hq1306; omega
    have hq1310 := Nat.le_trans hN1087.size hq1306
    have hN1311 := hN1087.transNew hn1294
    clear hs1079 hd1080 h1291 h1082 h1083 h1084 hv1289 hb1086 hq1306 hN1087 ha1295 hn1294
    obtain ⟨w1312, -, hst1313, hb1314, hu1315, hf1316⟩ := s_two (v0 := iv ((ofM (sgnN s)).1.k)) (v1 := iv ((ofM (sgnN s)).1.n)) Tryd.sizeOf23 rfl rfl rfl hb1307
    refine st_act rfl rfl fun K1317 hL1318 => a_store' rfl h1304 h1302 hst1313 (hL1318 _ _ trivial ?_)
    have hb1319 := hf1316 _ _ _ (hne1309) hb1308
    have hN1320 := hN1311.trans hu1315 (fun k hk hkb => by subst hkb; omega)
    clear hb1307 hst1313 K1317 hL1318 hN1311 hb1308 hu1315 hf1316
    refine st_take rfl rfl (y_assign (v := .bool ((ofM (sgnN s)).2)) rfl h1303) rfl ?_
    obtain ⟨a1321, ha1322⟩ : ∃ a', a' = a1292.put (some 8) (.bool ((ofM (sgnN s)).2)) := ⟨_, rfl⟩
    have hs1323 : a1321.tmps.size = 74 := by rw [ha1322, put_size]; exact hs1296
    have hd1324 : a1321.defers = [] := by rw [ha1322, put_defers]; exact hd1297
    have h1325 : a1321.eval (.tmp 5) = iv (sgnN s) := by rw [ha1322, put_ne _ _ _ _ (by decide)]; exact h1298
    have h1326 : a1321.eval (.tmp 0) = .string s := by rw [ha1322, put_ne _ _ _ _ (by decide)]; exact h1299
    have h1327 : a1321.eval (.tmp 2) = pv q10 := by rw [ha1322, put_ne _ _ _ _ (by decide)]; exact h1300
    have h1328 : a1321.eval (.tmp 3) = .bool false := by rw [ha1322, put_ne _ _ _ _ (by decide)]; exact h1301
    have h1329 : a1321.eval (.tmp 62) = nv ((ofM (sgnN s)).1) := by rw [ha1322, put_ne _ _ _ _ (by decide)]; exact h1302
    have h1330 : a1321.eval (.tmp 63) = .bool ((ofM (sgnN s)).2) := by rw [ha1322, put_ne _ _ _ _ (by decide)]; exact h1303
    have h1331 : a1321.eval (.tmp 7) = pv q1305 := by rw [ha1322, put_ne _ _ _ _ (by decide)]; exact h1304
    have h1332 : a1321.eval (.tmp 8) = .bool ((ofM (sgnN s)).2) := by rw [ha1322]; exact put_same _ _ _ (by rw [hs1296]; decide)
    show stepsTo _ _ _ _ _ (a1292.put (some 8) (.bool ((ofM (sgnN s)).2))) _
    rw [← ha1322]
    clear ha1322 hs1296 hd1297 h1298 h1299 h1300 h1301 h1302 h1303 h1304
    refine st_nil ?_
    clear h1329 h1330
    refine hK1290 _ _ ?_
    clear hK1290 K1290
    refine wp_seq_k fun K1333 hK1333 => ?_
    refine wp_seq_k fun K1334 hK1334 => ?_
    rcases Bool.eq_false_or_eq_true ((ofM (sgnN s)).2) with ht1335 | ht1335
    · skip
      have hv1336 : a1321.eval (.tmp 8) = .bool true := h1332.trans (congrArg Value.bool ht1335)
      clear h1332
      rcases Bool.eq_false_or_eq_true (strEq (itoaS (sgnN s)) s) with ht1337 | ht1337
      · skip
        have hsg2 := sgn_bd s
        refine wp_g0 [true, true, true, true, true, true, true, true] [] 74
          [ve (.bool true),
           ve (.bool false),
           ve (.bool false),
           ve (iv (sgnN s)),
           ve (.string (itoaS (sgnN s))),
           ve (.string s),
           ve (.bool false),
           ve (.bool false)] hs1323 (.eq (.eq (.eq (.eq (.eq (.eq (.eq (.eq (.nil))))))))) ?_ ?_
        · skip
          refine .o1 (tk rfl rfl fun _ w hn k => ⟨_, v_move rfl (k.fx 8 hv1336), rfl⟩) ?_
          refine .o1 (tk rfl rfl fun _ w hn k => ⟨_, v_not rfl (k.eq1 0 64 rfl), rfl⟩) ?_
          refine .o1 (tk rfl rfl fun _ w hn k => ⟨_, v_move rfl (k.eq1 1 65 rfl), rfl⟩) ?_
          refine .o1 (tg rfl rfl rfl (fun _ _ k => k.eq1 2 66 rfl) fun _ w hn k => ⟨_, v_move rfl (k.fx 5 h1325), rfl⟩) ?_
          refine .o1 (cg rfl rfl rfl (fun _ _ k => k.eq1 2 66 rfl) rfl (fun _ w hn k => ⟨#[iv (sgnN s)], args1 (k.eq1 3 67 rfl), fun _ => by kernel_rfl, dec_c _ _ (by omega) (by omega)⟩) fun _ => rfl) ?_
          refine .o1 (tg rfl rfl rfl (fun _ _ k => k.eq1 2 66 rfl) fun _ w hn k => ⟨_, v_move rfl (k.fx 0 h1326), rfl⟩) ?_
          refine .o1 (tg rfl rfl rfl (fun _ _ k => k.eq1 2 66 rfl) fun _ w hn k => ⟨_, v_bin rfl (k.eq1 4 68 rfl) (k.eq1 5 69 rfl) (fun _ => rfl) (r_neqS ht1337), rfl⟩) ?_
          refine .o1 (tk rfl rfl fun _ w hn k => ⟨_, v_pickF rfl (k.eq1 2 66 rfl) (k.eq1 6 70 rfl), rfl⟩) ?_
          exact .nil
        intro a1338 w1339 hn1340 ha1341
        have hs1342 := ha1341.size.trans hs1323
        have hd1343 := ha1341.defers.trans hd1324
        have h1344 := ha1341.fx 2 h1327
        have h1345 := ha1341.fx 3 h1328
        have h1346 := ha1341.fx 7 h1331
        have h1347 := ha1341.ge 7 71 rfl
        have hb1348 := hb1319.new_ hn1340
        have hb1349 := hb1314.new_ hn1340
        have hN1350 := hN1320.transNew hn1340
        clear hs1323 hd1324 h1325 h1326 h1327 h1328 h1331 hv1336 hb1319 hb1314 hN1320 ha1341 hn1340
        refine st_nil ?_
        refine hK1334 _ _ ?_
        clear hK1334 K1334
        refine wp_cond_false h1347 ?_
        refine wp_skip ?_
        refine hK1333 _ _ ?_
        clear hK1333 K1333
        refine wp_seq_k fun K1351 hK1351 => ?_
        refine wp_g0 [true, false, false] [(1, false), (2, true)] 74
          [ve (nv ((ofM (sgnN s)).1)),
           vt,
           vt] hs1342 (.eq (.tt (.tt (.nil)))) ?_ ?_
        · skip
          refine .o1 (tk rfl rfl fun _ w hn k => ⟨_, v_load rfl (k.fx 7 h1346) (l_two Tryd.isAgg23 Tryd.sizeOf23 (hb1349.new_ hn)), rfl⟩) ?_
          refine .off ?_
          refine .off ?_
          exact .nil
        intro a1352 w1353 hn1354 ha1355
        have hs1356 := ha1355.size.trans hs1342
        have hd1357 := ha1355.defers.trans hd1343
        have h1358 := ha1355.fx 2 h1344
        have h1359 := ha1355.fx 3 h1345
        have h1360 := ha1355.ge 0 73 rfl
        have hb1361 := hb1348.new_ hn1354
        have hN1362 := hN1350.transNew hn1354
        clear hs1342 hd1343 h1344 h1345 h1346 h1347 hb1348 hb1349 hq1310 hN1350 ha1355 hn1354
        obtain ⟨w1363, -, hst1364, hb1365, hu1366, hf1367⟩ := s_two (v0 := iv ((ofM (sgnN s)).1.k)) (v1 := iv ((ofM (sgnN s)).1.n)) Tryd.sizeOf23 rfl rfl rfl hb1361
        refine st_act rfl rfl fun K1368 hL1369 => a_store' rfl h1358 h1360 hst1364 (hL1369 _ _ trivial ?_)
        have hN1370 := hN1362.trans hu1366 (fun k hk hkb => by subst hkb; omega)
        clear hb1361 hst1364 K1368 hL1369 hN1362 hu1366 hf1367
        refine st_take rfl rfl (y_assign (v := .bool true) rfl rfl) rfl ?_
        obtain ⟨a1371, ha1372⟩ : ∃ a', a' = a1352.put (some 3) (.bool true) := ⟨_, rfl⟩
        have hs1373 : a1371.tmps.size = 74 := by rw [ha1372, put_size]; exact hs1356
        have hd1374 : a1371.defers = [] := by rw [ha1372, put_defers]; exact hd1357
        have h1375 : a1371.eval (.tmp 2) = pv q10 := by rw [ha1372, put_ne _ _ _ _ (by decide)]; exact h1358
        have h1376 : a1371.eval (.tmp 73) = nv ((ofM (sgnN s)).1) := by rw [ha1372, put_ne _ _ _ _ (by decide)]; exact h1360
        have h1377 : a1371.eval (.tmp 3) = .bool true := by rw [ha1372]; exact put_same _ _ _ (by rw [hs1356]; decide)
        show stepsTo _ _ _ _ _ (a1352.put (some 3) (.bool true)) _
        rw [← ha1372]
        clear ha1372 hs1356 hd1357 h1358 h1359 h1360
        refine st_nil ?_
        clear h1376
        refine hK1351 _ _ ?_
        clear hK1351 K1351
        refine wp_ret (ret_k hd1374 (v := .tuple #[nv ((ofM (sgnN s)).1), .bool true]) (res_ct rfl h1375 h1377 (l_two Tryd.isAgg23 Tryd.sizeOf23 hb1365)) ?_)
        refine ⟨?_, hN1370⟩
        show Ending.returned (.tuple #[nv ((ofM (sgnN s)).1), .bool true]) = Ending.returned (.tuple #[nv ((rParseM s).1), .bool ((rParseM s).2)])
        first | rfl | (simp [rParseM, ht67, ht201, ht339, ht497, ht520, ht884, ht1088, ht1335, ht1337])
      have hsg2 := sgn_bd s
      refine wp_g0 [true, true, true, true, true, true, true, true] [] 74
        [ve (.bool true),
         ve (.bool false),
         ve (.bool false),
         ve (iv (sgnN s)),
         ve (.string (itoaS (sgnN s))),
         ve (.string s),
         ve (.bool true),
         ve (.bool true)] hs1323 (.eq (.eq (.eq (.eq (.eq (.eq (.eq (.eq (.nil))))))))) ?_ ?_
      · skip
        refine .o1 (tk rfl rfl fun _ w hn k => ⟨_, v_move rfl (k.fx 8 hv1336), rfl⟩) ?_
        refine .o1 (tk rfl rfl fun _ w hn k => ⟨_, v_not rfl (k.eq1 0 64 rfl), rfl⟩) ?_
        refine .o1 (tk rfl rfl fun _ w hn k => ⟨_, v_move rfl (k.eq1 1 65 rfl), rfl⟩) ?_
        refine .o1 (tg rfl rfl rfl (fun _ _ k => k.eq1 2 66 rfl) fun _ w hn k => ⟨_, v_move rfl (k.fx 5 h1325), rfl⟩) ?_
        refine .o1 (cg rfl rfl rfl (fun _ _ k => k.eq1 2 66 rfl) rfl (fun _ w hn k => ⟨#[iv (sgnN s)], args1 (k.eq1 3 67 rfl), fun _ => by kernel_rfl, dec_c _ _ (by omega) (by omega)⟩) fun _ => rfl) ?_
        refine .o1 (tg rfl rfl rfl (fun _ _ k => k.eq1 2 66 rfl) fun _ w hn k => ⟨_, v_move rfl (k.fx 0 h1326), rfl⟩) ?_
        refine .o1 (tg rfl rfl rfl (fun _ _ k => k.eq1 2 66 rfl) fun _ w hn k => ⟨_, v_bin rfl (k.eq1 4 68 rfl) (k.eq1 5 69 rfl) (fun _ => rfl) (r_neqS ht1337), rfl⟩) ?_
        refine .o1 (tk rfl rfl fun _ w hn k => ⟨_, v_pickF rfl (k.eq1 2 66 rfl) (k.eq1 6 70 rfl), rfl⟩) ?_
        exact .nil
      intro a1378 w1379 hn1380 ha1381
      have hs1382 := ha1381.size.trans hs1323
      have hd1383 := ha1381.defers.trans hd1324
      have h1384 := ha1381.fx 2 h1327
      have h1385 := ha1381.fx 3 h1328
      have h1386 := ha1381.fx 7 h1331
      have h1387 := ha1381.ge 7 71 rfl
      have hb1388 := hb1319.new_ hn1380
      have hb1389 := hb1314.new_ hn1380
      have hN1390 := hN1320.transNew hn1380
      clear hs1323 hd1324 h1325 h1326 h1327 h1328 h1331 hv1336 hb1319 hb1314 hN1320 ha1381 hn1380
      refine st_nil ?_
      refine hK1334 _ _ ?_
      clear hK1334 K1334
      refine wp_cond_true h1387 ?_
      refine wp_seq_k fun K1391 hK1391 => ?_
      refine wp_g0 [true, false, false] [(1, false), (2, true)] 74
        [ve (nv (Nm.mk 2 0)),
         vt,
         vt] hs1382 (.eq (.tt (.tt (.nil)))) ?_ ?_
      · skip
        refine .o1 (ck rfl rfl rfl (fun _ w hn k => ⟨#[], rfl, fun _ => by kernel_rfl, rNaN_c  _⟩) fun _ => rfl) ?_
        refine .off ?_
        refine .off ?_
        exact .nil
      intro a1392 w1393 hn1394 ha1395
      have hs1396 := ha1395.size.trans hs1382
      have hd1397 := ha1395.defers.trans hd1383
      have h1398 := ha1395.fx 2 h1384
      have h1399 := ha1395.fx 3 h1385
      have h1400 := ha1395.fx 7 h1386
      have h1401 := ha1395.ge 0 72 rfl
      have hb1402 := hb1388.new_ hn1394
      have hb1403 := hb1389.new_ hn1394
      have hN1404 := hN1390.transNew hn1394
      clear hs1382 hd1383 h1384 h1385 h1386 h1387 hb1388 hb1389 hN1390 ha1395 hn1394
      obtain ⟨w1405, -, hst1406, hb1407, hu1408, hf1409⟩ := s_two (v0 := iv 2) (v1 := iv 0) Tryd.sizeOf23 rfl rfl rfl hb1402
      refine st_act rfl rfl fun K1410 hL1411 => a_store' rfl h1398 h1401 hst1406 (hL1411 _ _ trivial ?_)
      have hb1412 := hf1409 _ _ _ (fun h => hne1309 h.symm) hb1403
      have hN1413 := hN1404.trans hu1408 (fun k hk hkb => by subst hkb; omega)
      clear hb1402 hst1406 K1410 hL1411 hN1404 hb1403 hu1408 hf1409
      refine st_take rfl rfl (y_assign (v := .bool false) rfl rfl) rfl ?_
      obtain ⟨a1414, ha1415⟩ : ∃ a', a' = a1392.put (some 3) (.bool false) := ⟨_, rfl⟩
      have hs1416 : a1414.tmps.size = 74 := by rw [ha1415, put_size]; exact hs1396
      have hd1417 : a1414.defers = [] := by rw [ha1415, put_defers]; exact hd1397
      have h1418 : a1414.eval (.tmp 2) = pv q10 := by rw [ha1415, put_ne _ _ _ _ (by decide)]; exact h1398
      have h1419 : a1414.eval (.tmp 7) = pv q1305 := by rw [ha1415, put_ne _ _ _ _ (by decide)]; exact h1400
      have h1420 : a1414.eval (.tmp 72) = nv (Nm.mk 2 0) := by rw [ha1415, put_ne _ _ _ _ (by decide)]; exact h1401
      have h1421 : a1414.eval (.tmp 3) = .bool false := by rw [ha1415]; exact put_same _ _ _ (by rw [hs1396]; decide)
      show stepsTo _ _ _ _ _ (a1392.put (some 3) (.bool false)) _
      rw [← ha1415]
      clear ha1415 hs1396 hd1397 h1398 h1399 h1400 h1401
      refine st_nil ?_
      clear h1420
      refine hK1391 _ _ ?_
      clear hK1391 K1391
      refine wp_ret (ret_k hd1417 (v := .tuple #[nv (Nm.mk 2 0), .bool false]) (res_ct rfl h1418 h1421 (l_two Tryd.isAgg23 Tryd.sizeOf23 hb1407)) ?_)
      refine ⟨?_, hN1413⟩
      show Ending.returned (.tuple #[nv (Nm.mk 2 0), .bool false]) = Ending.returned (.tuple #[nv ((rParseM s).1), .bool ((rParseM s).2)])
      first | rfl | (simp [rParseM, ht67, ht201, ht339, ht497, ht520, ht884, ht1088, ht1335, ht1337])
    have hv1422 : a1321.eval (.tmp 8) = .bool false := h1332.trans (congrArg Value.bool ht1335)
    clear h1332
    have hsg2 := sgn_bd s
    refine wp_g0 [true, true, true, true, true, true, true, true] [] 74
      [ve (.bool false),
       ve (.bool true),
       ve (.bool true),
       ve undef,
       ve undef,
       ve undef,
       ve undef,
       ve (.bool true)] hs1323 (.eq (.eq (.eq (.eq (.eq (.eq (.eq (.eq (.nil))))))))) ?_ ?_
    · skip
      refine .o1 (tk rfl rfl fun _ w hn k => ⟨_, v_move rfl (k.fx 8 hv1422), rfl⟩) ?_
      refine .o1 (tk rfl rfl fun _ w hn k => ⟨_, v_not rfl (k.eq1 0 64 rfl), rfl⟩) ?_
      refine .o1 (tk rfl rfl fun _ w hn k => ⟨_, v_move rfl (k.eq1 1 65 rfl), rfl⟩) ?_
      refine .o1 (sk rfl rfl rfl (fun _ _ _ k => k.eq1 2 66 rfl) (fun _ => rfl)) ?_
      refine .o1 (sk rfl rfl rfl (fun _ _ _ k => k.eq1 2 66 rfl) (fun _ => rfl)) ?_
      refine .o1 (sk rfl rfl rfl (fun _ _ _ k => k.eq1 2 66 rfl) (fun _ => rfl)) ?_
      refine .o1 (sk rfl rfl rfl (fun _ _ _ k => k.eq1 2 66 rfl) (fun _ => rfl)) ?_
      refine .o1 (tk rfl rfl fun _ w hn k => ⟨_, v_pickT rfl (k.eq1 2 66 rfl) rfl, rfl⟩) ?_
      exact .nil
    intro a1423 w1424 hn1425 ha1426
    have hs1427 := ha1426.size.trans hs1323
    have hd1428 := ha1426.defers.trans hd1324
    have h1429 := ha1426.fx 2 h1327
    have h1430 := ha1426.fx 3 h1328
    have h1431 := ha1426.fx 7 h1331
    have h1432 := ha1426.ge 7 71 rfl
    have hb1433 := hb1319.new_ hn1425
    have hb1434 := hb1314.new_ hn1425
    have hN1435 := hN1320.transNew hn1425
    clear hs1323 hd1324 h1325 h1326 h1327 h1328 h1331 hv1422 hb1319 hb1314 hN1320 ha1426 hn1425
    refine st_nil ?_
    refine hK1334 _ _ ?_
    clear hK1334 K1334
    refine wp_cond_true h1432 ?_
    refine wp_seq_k fun K1436 hK1436 => ?_
    refine wp_g0 [true, false, false] [(1, false), (2, true)] 74
      [ve (nv (Nm.mk 2 0)),
       vt,
       vt] hs1427 (.eq (.tt (.tt (.nil)))) ?_ ?_
    · skip
      refine .o1 (ck rfl rfl rfl (fun _ w hn k => ⟨#[], rfl, fun _ => by kernel_rfl, rNaN_c  _⟩) fun _ => rfl) ?_
      refine .off ?_
      refine .off ?_
      exact .nil
    intro a1437 w1438 hn1439 ha1440
    have hs1441 := ha1440.size.trans hs1427
    have hd1442 := ha1440.defers.trans hd1428
    have h1443 := ha1440.fx 2 h1429
    have h1444 := ha1440.fx 3 h1430
    have h1445 := ha1440.fx 7 h1431
    have h1446 := ha1440.ge 0 72 rfl
    have hb1447 := hb1433.new_ hn1439
    have hb1448 := hb1434.new_ hn1439
    have hN1449 := hN1435.transNew hn1439
    clear hs1427 hd1428 h1429 h1430 h1431 h1432 hb1433 hb1434 hN1435 ha1440 hn1439
    obtain ⟨w1450, -, hst1451, hb1452, hu1453, hf1454⟩ := s_two (v0 := iv 2) (v1 := iv 0) Tryd.sizeOf23 rfl rfl rfl hb1447
    refine st_act rfl rfl fun K1455 hL1456 => a_store' rfl h1443 h1446 hst1451 (hL1456 _ _ trivial ?_)
    have hb1457 := hf1454 _ _ _ (fun h => hne1309 h.symm) hb1448
    have hN1458 := hN1449.trans hu1453 (fun k hk hkb => by subst hkb; omega)
    clear hb1447 hst1451 K1455 hL1456 hN1449 hb1448 hu1453 hf1454
    refine st_take rfl rfl (y_assign (v := .bool false) rfl rfl) rfl ?_
    obtain ⟨a1459, ha1460⟩ : ∃ a', a' = a1437.put (some 3) (.bool false) := ⟨_, rfl⟩
    have hs1461 : a1459.tmps.size = 74 := by rw [ha1460, put_size]; exact hs1441
    have hd1462 : a1459.defers = [] := by rw [ha1460, put_defers]; exact hd1442
    have h1463 : a1459.eval (.tmp 2) = pv q10 := by rw [ha1460, put_ne _ _ _ _ (by decide)]; exact h1443
    have h1464 : a1459.eval (.tmp 7) = pv q1305 := by rw [ha1460, put_ne _ _ _ _ (by decide)]; exact h1445
    have h1465 : a1459.eval (.tmp 72) = nv (Nm.mk 2 0) := by rw [ha1460, put_ne _ _ _ _ (by decide)]; exact h1446
    have h1466 : a1459.eval (.tmp 3) = .bool false := by rw [ha1460]; exact put_same _ _ _ (by rw [hs1441]; decide)
    show stepsTo _ _ _ _ _ (a1437.put (some 3) (.bool false)) _
    rw [← ha1460]
    clear ha1460 hs1441 hd1442 h1443 h1444 h1445 h1446
    refine st_nil ?_
    clear h1465
    refine hK1436 _ _ ?_
    clear hK1436 K1436
    refine wp_ret (ret_k hd1462 (v := .tuple #[nv (Nm.mk 2 0), .bool false]) (res_ct rfl h1463 h1466 (l_two Tryd.isAgg23 Tryd.sizeOf23 hb1452)) ?_)
    refine ⟨?_, hN1458⟩
    show Ending.returned (.tuple #[nv (Nm.mk 2 0), .bool false]) = Ending.returned (.tuple #[nv ((rParseM s).1), .bool ((rParseM s).2)])
    first | rfl | (simp [rParseM, ht67, ht201, ht339, ht497, ht520, ht884, ht1088, ht1335])
  have ht497d := of_decide_eq_false ht497
  refine wp_g0 [true, true, true, true, true, true, true, true, true] [] 74
    [ve (iv (j : Int)),
     ve (.string s),
     ve (iv (s.size : Int)),
     ve (.bool false),
     ve (.bool false),
     ve undef,
     ve undef,
     ve undef,
     ve (.bool false)] hs484 (.eq (.eq (.eq (.eq (.eq (.eq (.eq (.eq (.eq (.nil)))))))))) ?_ ?_
  · skip
    refine .o1 (tk rfl rfl fun _ w hn k => ⟨_, v_move rfl (k.fx 6 h494), rfl⟩) ?_
    refine .o1 (tk rfl rfl fun _ w hn k => ⟨_, v_move rfl (k.fx 0 h489), rfl⟩) ?_
    refine .o1 (tk rfl rfl fun _ w hn k => ⟨_, v_lens rfl (k.eq1 1 21 rfl) (by kernel_rfl), rfl⟩) ?_
    refine .o1 (tk rfl rfl fun _ w hn k => ⟨_, v_bin rfl (k.eq1 0 20 rfl) (k.eq1 2 22 rfl) (fun _ => rfl) (r_lssK ht497), rfl⟩) ?_
    refine .o1 (tk rfl rfl fun _ w hn k => ⟨_, v_move rfl (k.eq1 3 23 rfl), rfl⟩) ?_
    refine .o1 (sk rfl rfl rfl (fun _ _ _ k => k.eq1 4 24 rfl) (fun _ => rfl)) ?_
    refine .o1 (sk rfl rfl rfl (fun _ _ _ k => k.eq1 4 24 rfl) (fun _ => rfl)) ?_
    refine .o1 (sk rfl rfl rfl (fun _ _ _ k => k.eq1 4 24 rfl) (fun _ => rfl)) ?_
    refine .o1 (tk rfl rfl fun _ w hn k => ⟨_, v_pickF rfl (k.eq1 4 24 rfl) rfl, rfl⟩) ?_
    exact .nil
  intro a1467 w1468 hn1469 ha1470
  have hs1471 := ha1470.size.trans hs484
  have hd1472 := ha1470.defers.trans hd485
  have h1473 := ha1470.fx 5 h493
  have h1474 := ha1470.fx 6 h494
  have h1475 := ha1470.fx 0 h489
  have h1476 := ha1470.fx 2 h490
  have h1477 := ha1470.fx 3 h491
  have h1478 := ha1470.ge 0 20 rfl
  have h1479 := ha1470.ge 1 21 rfl
  have h1480 := ha1470.ge 2 22 rfl
  have h1481 := ha1470.ge 3 23 rfl
  have h1482 := ha1470.ge 4 24 rfl
  have h1483 := ha1470.ge 5 25 rfl
  have h1484 := ha1470.ge 6 26 rfl
  have h1485 := ha1470.ge 7 27 rfl
  have h1486 := ha1470.ge 8 28 rfl
  have hb1487 := hb492.new_ hn1469
  have hN1488 := hN486.transNew hn1469
  clear hs484 hd485 h493 h494 h489 h490 h491 hb492 hN486 ha1470 hn1469
  refine st_nil ?_
  refine hK496 _ _ ?_
  clear hK496 K496
  refine wp_cond_false h1486 ?_
  refine wp_exit ?_
  refine hK467 _ _ ?_
  clear hK467 K467 hK495 K495
  refine wp_seq_k fun K1489 hK1489 => ?_
  refine wp_seq_k fun K1490 hK1490 => ?_
  have h1491 : a1467.eval (.tmp 5) = .int .i64 (accN s) := h1473.trans (congrArg (Value.int .i64) (acc_end hj hj18 (Or.inl (of_decide_eq_false ht497))))
  clear h1473
  rcases Bool.eq_false_or_eq_true (decide ((s.size : Int) ≤ 0)) with ht1492 | ht1492
  · skip
    have ht1492d := of_decide_eq_true ht1492
    refine wp_g0 [true, true, true, true, true, true, true, true] [] 74
      [ve (.string s),
       ve (iv (s.size : Int)),
       ve (.bool false),
       ve (.bool false),
       ve undef,
       ve undef,
       ve undef,
       ve (.bool false)] hs1471 (.eq (.eq (.eq (.eq (.eq (.eq (.eq (.eq (.nil))))))))) ?_ ?_
    · skip
      refine .o1 (tk rfl rfl fun _ w hn k => ⟨_, v_move rfl (k.fx 0 h1475), rfl⟩) ?_
      refine .o1 (tk rfl rfl fun _ w hn k => ⟨_, v_lens rfl (k.eq1 0 49 rfl) (by kernel_rfl), rfl⟩) ?_
      refine .o1 (tk rfl rfl fun _ w hn k => ⟨_, v_bin rfl (k.eq1 1 50 rfl) rfl (fun _ => rfl) (r_gtrK ht1492), rfl⟩) ?_
      refine .o1 (tk rfl rfl fun _ w hn k => ⟨_, v_move rfl (k.eq1 2 51 rfl), rfl⟩) ?_
      refine .o1 (sk rfl rfl rfl (fun _ _ _ k => k.eq1 3 52 rfl) (fun _ => rfl)) ?_
      refine .o1 (sk rfl rfl rfl (fun _ _ _ k => k.eq1 3 52 rfl) (fun _ => rfl)) ?_
      refine .o1 (sk rfl rfl rfl (fun _ _ _ k => k.eq1 3 52 rfl) (fun _ => rfl)) ?_
      refine .o1 (tk rfl rfl fun _ w hn k => ⟨_, v_pickF rfl (k.eq1 3 52 rfl) rfl, rfl⟩) ?_
      exact .nil
    intro a1493 w1494 hn1495 ha1496
    have hs1497 := ha1496.size.trans hs1471
    have hd1498 := ha1496.defers.trans hd1472
    have h1499 := ha1496.fx 5 h1491
    have h1500 := ha1496.fx 0 h1475
    have h1501 := ha1496.fx 2 h1476
    have h1502 := ha1496.fx 3 h1477
    have h1503 := ha1496.ge 7 56 rfl
    have hb1504 := hb1487.new_ hn1495
    have hN1505 := hN1488.transNew hn1495
    clear hs1471 hd1472 h1491 h1474 h1475 h1476 h1477 h1478 h1479 h1480 h1481 h1482 h1483 h1484 h1485 h1486 hb1487 hN1488 ha1496 hn1495
    refine st_nil ?_
    refine hK1490 _ _ ?_
    clear hK1490 K1490
    refine wp_cond_false h1503 ?_
    refine wp_skip ?_
    refine hK1489 _ _ ?_
    clear hK1489 K1489
    refine wp_seq_k fun K1506 hK1506 => ?_
    have h1507 : a1493.eval (.tmp 5) = .int .i64 (sgnN s) := h1499.trans (congrArg (Value.int .i64) (sgn_no1 ht1492))
    clear h1499
    refine wp_g [true, true, true, true, true, true, false, false] [4] [(6, false), (7, true)] 74
      [ve (iv (sgnN s)),
       ve (.tuple #[nv ((ofM (sgnN s)).1), .bool ((ofM (sgnN s)).2)]),
       ve (.tuple #[nv ((ofM (sgnN s)).1), .bool ((ofM (sgnN s)).2)]),
       ve (nv ((ofM (sgnN s)).1)),
       ve (.bool ((ofM (sgnN s)).2)),
       IsNew w1494 23 [iv 0, iv 0],
       vt,
       vt]
      [5] (newsCons (fun v w h => IsNew.old h) newsNil) hs1497 (.eq (.eq (.eq (.eq (.eq (.nw (.tt (.tt (.nil))))))))) ?_ ?_ ?_
    · skip
      refine .o1 (tk rfl rfl fun _ w hn k => ⟨_, v_move rfl (k.fx 5 h1507), rfl⟩) ?_
      refine .o1 (ck rfl rfl rfl (fun _ w hn k => ⟨#[iv (sgnN s)], args1 (k.eq1 0 60 rfl), fun _ => by kernel_rfl, rof_c (sgnN s) _⟩) fun _ => rfl) ?_
      refine .o1 (tk rfl rfl fun _ w hn k => ⟨_, v_move rfl (k.eq1 1 61 rfl), rfl⟩) ?_
      refine .o1 (tk rfl rfl fun _ w hn k => ⟨_, v_extract rfl (k.eq1 2 59 rfl) rfl, rfl⟩) ?_
      refine .o3 ?_
      refine .o2 (step_allocN (cs := [iv 0, iv 0]) (t := 23) rfl (noG rfl) (fun _ w hn k => rfl) (fun q _ hq hb => ⟨q, rfl, hq, hb⟩)) ?_
      refine .off ?_
      refine .off ?_
      exact .nil
    · skip
      intro i h
      simp only [List.contains_eq_mem, List.mem_cons, List.not_mem_nil, or_false, decide_eq_true_eq] at h
      subst h
      · exact eager_take rfl rfl fun _ w hn k => ⟨.bool ((ofM (sgnN s)).2), fun w => v_extract rfl (k.eq1 2 59 rfl) rfl, rfl⟩
    intro a1508 w1509 hn1510 ha1511
    have hs1512 := ha1511.size.trans hs1497
    have hd1513 := ha1511.defers.trans hd1498
    have h1514 := ha1511.fx 5 h1507
    have h1515 := ha1511.fx 0 h1500
    have h1516 := ha1511.fx 2 h1501
    have h1517 := ha1511.fx 3 h1502
    have h1518 := ha1511.ge 3 62 rfl
    have h1519 := ha1511.ge 4 63 rfl
    obtain ⟨q1521, h1520, hq1522, hb1523⟩ : IsNew _ _ _ _ _ := ha1511.got 5 7 rfl (by kernel_rfl)
    have hb1524 := hb1504.new_ hn1510
    have hne1525 : q10 ≠ q1521 := by have h1 := hb1504.lt; have h2 := hq1522; omega
    have hq1526 := Nat.le_trans hN1505.size hq1522
    have hN1527 := hN1505.transNew hn1510
    clear hs1497 hd1498 h1507 h1500 h1501 h1502 h1503 hb1504 hq1522 hN1505 ha1511 hn1510
    obtain ⟨w1528, -, hst1529, hb1530, hu1531, hf1532⟩ := s_two (v0 := iv ((ofM (sgnN s)).1.k)) (v1 := iv ((ofM (sgnN s)).1.n)) Tryd.sizeOf23 rfl rfl rfl hb1523
    refine st_act rfl rfl fun K1533 hL1534 => a_store' rfl h1520 h1518 hst1529 (hL1534 _ _ trivial ?_)
    have hb1535 := hf1532 _ _ _ (hne1525) hb1524
    have hN1536 := hN1527.trans hu1531 (fun k hk hkb => by subst hkb; omega)
    clear hb1523 hst1529 K1533 hL1534 hN1527 hb1524 hu1531 hf1532
    refine st_take rfl rfl (y_assign (v := .bool ((ofM (sgnN s)).2)) rfl h1519) rfl ?_
    obtain ⟨a1537, ha1538⟩ : ∃ a', a' = a1508.put (some 8) (.bool ((ofM (sgnN s)).2)) := ⟨_, rfl⟩
    have hs1539 : a1537.tmps.size = 74 := by rw [ha1538, put_size]; exact hs1512
    have hd1540 : a1537.defers = [] := by rw [ha1538, put_defers]; exact hd1513
    have h1541 : a1537.eval (.tmp 5) = iv (sgnN s) := by rw [ha1538, put_ne _ _ _ _ (by decide)]; exact h1514
    have h1542 : a1537.eval (.tmp 0) = .string s := by rw [ha1538, put_ne _ _ _ _ (by decide)]; exact h1515
    have h1543 : a1537.eval (.tmp 2) = pv q10 := by rw [ha1538, put_ne _ _ _ _ (by decide)]; exact h1516
    have h1544 : a1537.eval (.tmp 3) = .bool false := by rw [ha1538, put_ne _ _ _ _ (by decide)]; exact h1517
    have h1545 : a1537.eval (.tmp 62) = nv ((ofM (sgnN s)).1) := by rw [ha1538, put_ne _ _ _ _ (by decide)]; exact h1518
    have h1546 : a1537.eval (.tmp 63) = .bool ((ofM (sgnN s)).2) := by rw [ha1538, put_ne _ _ _ _ (by decide)]; exact h1519
    have h1547 : a1537.eval (.tmp 7) = pv q1521 := by rw [ha1538, put_ne _ _ _ _ (by decide)]; exact h1520
    have h1548 : a1537.eval (.tmp 8) = .bool ((ofM (sgnN s)).2) := by rw [ha1538]; exact put_same _ _ _ (by rw [hs1512]; decide)
    show stepsTo _ _ _ _ _ (a1508.put (some 8) (.bool ((ofM (sgnN s)).2))) _
    rw [← ha1538]
    clear ha1538 hs1512 hd1513 h1514 h1515 h1516 h1517 h1518 h1519 h1520
    refine st_nil ?_
    clear h1545 h1546
    refine hK1506 _ _ ?_
    clear hK1506 K1506
    refine wp_seq_k fun K1549 hK1549 => ?_
    refine wp_seq_k fun K1550 hK1550 => ?_
    rcases Bool.eq_false_or_eq_true ((ofM (sgnN s)).2) with ht1551 | ht1551
    · skip
      have hv1552 : a1537.eval (.tmp 8) = .bool true := h1548.trans (congrArg Value.bool ht1551)
      clear h1548
      rcases Bool.eq_false_or_eq_true (strEq (itoaS (sgnN s)) s) with ht1553 | ht1553
      · skip
        have hsg2 := sgn_bd s
        refine wp_g0 [true, true, true, true, true, true, true, true] [] 74
          [ve (.bool true),
           ve (.bool false),
           ve (.bool false),
           ve (iv (sgnN s)),
           ve (.string (itoaS (sgnN s))),
           ve (.string s),
           ve (.bool false),
           ve (.bool false)] hs1539 (.eq (.eq (.eq (.eq (.eq (.eq (.eq (.eq (.nil))))))))) ?_ ?_
        · skip
          refine .o1 (tk rfl rfl fun _ w hn k => ⟨_, v_move rfl (k.fx 8 hv1552), rfl⟩) ?_
          refine .o1 (tk rfl rfl fun _ w hn k => ⟨_, v_not rfl (k.eq1 0 64 rfl), rfl⟩) ?_
          refine .o1 (tk rfl rfl fun _ w hn k => ⟨_, v_move rfl (k.eq1 1 65 rfl), rfl⟩) ?_
          refine .o1 (tg rfl rfl rfl (fun _ _ k => k.eq1 2 66 rfl) fun _ w hn k => ⟨_, v_move rfl (k.fx 5 h1541), rfl⟩) ?_
          refine .o1 (cg rfl rfl rfl (fun _ _ k => k.eq1 2 66 rfl) rfl (fun _ w hn k => ⟨#[iv (sgnN s)], args1 (k.eq1 3 67 rfl), fun _ => by kernel_rfl, dec_c _ _ (by omega) (by omega)⟩) fun _ => rfl) ?_
          refine .o1 (tg rfl rfl rfl (fun _ _ k => k.eq1 2 66 rfl) fun _ w hn k => ⟨_, v_move rfl (k.fx 0 h1542), rfl⟩) ?_
          refine .o1 (tg rfl rfl rfl (fun _ _ k => k.eq1 2 66 rfl) fun _ w hn k => ⟨_, v_bin rfl (k.eq1 4 68 rfl) (k.eq1 5 69 rfl) (fun _ => rfl) (r_neqS ht1553), rfl⟩) ?_
          refine .o1 (tk rfl rfl fun _ w hn k => ⟨_, v_pickF rfl (k.eq1 2 66 rfl) (k.eq1 6 70 rfl), rfl⟩) ?_
          exact .nil
        intro a1554 w1555 hn1556 ha1557
        have hs1558 := ha1557.size.trans hs1539
        have hd1559 := ha1557.defers.trans hd1540
        have h1560 := ha1557.fx 2 h1543
        have h1561 := ha1557.fx 3 h1544
        have h1562 := ha1557.fx 7 h1547
        have h1563 := ha1557.ge 7 71 rfl
        have hb1564 := hb1535.new_ hn1556
        have hb1565 := hb1530.new_ hn1556
        have hN1566 := hN1536.transNew hn1556
        clear hs1539 hd1540 h1541 h1542 h1543 h1544 h1547 hv1552 hb1535 hb1530 hN1536 ha1557 hn1556
        refine st_nil ?_
        refine hK1550 _ _ ?_
        clear hK1550 K1550
        refine wp_cond_false h1563 ?_
        refine wp_skip ?_
        refine hK1549 _ _ ?_
        clear hK1549 K1549
        refine wp_seq_k fun K1567 hK1567 => ?_
        refine wp_g0 [true, false, false] [(1, false), (2, true)] 74
          [ve (nv ((ofM (sgnN s)).1)),
           vt,
           vt] hs1558 (.eq (.tt (.tt (.nil)))) ?_ ?_
        · skip
          refine .o1 (tk rfl rfl fun _ w hn k => ⟨_, v_load rfl (k.fx 7 h1562) (l_two Tryd.isAgg23 Tryd.sizeOf23 (hb1565.new_ hn)), rfl⟩) ?_
          refine .off ?_
          refine .off ?_
          exact .nil
        intro a1568 w1569 hn1570 ha1571
        have hs1572 := ha1571.size.trans hs1558
        have hd1573 := ha1571.defers.trans hd1559
        have h1574 := ha1571.fx 2 h1560
        have h1575 := ha1571.fx 3 h1561
        have h1576 := ha1571.ge 0 73 rfl
        have hb1577 := hb1564.new_ hn1570
        have hN1578 := hN1566.transNew hn1570
        clear hs1558 hd1559 h1560 h1561 h1562 h1563 hb1564 hb1565 hq1526 hN1566 ha1571 hn1570
        obtain ⟨w1579, -, hst1580, hb1581, hu1582, hf1583⟩ := s_two (v0 := iv ((ofM (sgnN s)).1.k)) (v1 := iv ((ofM (sgnN s)).1.n)) Tryd.sizeOf23 rfl rfl rfl hb1577
        refine st_act rfl rfl fun K1584 hL1585 => a_store' rfl h1574 h1576 hst1580 (hL1585 _ _ trivial ?_)
        have hN1586 := hN1578.trans hu1582 (fun k hk hkb => by subst hkb; omega)
        clear hb1577 hst1580 K1584 hL1585 hN1578 hu1582 hf1583
        refine st_take rfl rfl (y_assign (v := .bool true) rfl rfl) rfl ?_
        obtain ⟨a1587, ha1588⟩ : ∃ a', a' = a1568.put (some 3) (.bool true) := ⟨_, rfl⟩
        have hs1589 : a1587.tmps.size = 74 := by rw [ha1588, put_size]; exact hs1572
        have hd1590 : a1587.defers = [] := by rw [ha1588, put_defers]; exact hd1573
        have h1591 : a1587.eval (.tmp 2) = pv q10 := by rw [ha1588, put_ne _ _ _ _ (by decide)]; exact h1574
        have h1592 : a1587.eval (.tmp 73) = nv ((ofM (sgnN s)).1) := by rw [ha1588, put_ne _ _ _ _ (by decide)]; exact h1576
        have h1593 : a1587.eval (.tmp 3) = .bool true := by rw [ha1588]; exact put_same _ _ _ (by rw [hs1572]; decide)
        show stepsTo _ _ _ _ _ (a1568.put (some 3) (.bool true)) _
        rw [← ha1588]
        clear ha1588 hs1572 hd1573 h1574 h1575 h1576
        refine st_nil ?_
        clear h1592
        refine hK1567 _ _ ?_
        clear hK1567 K1567
        refine wp_ret (ret_k hd1590 (v := .tuple #[nv ((ofM (sgnN s)).1), .bool true]) (res_ct rfl h1591 h1593 (l_two Tryd.isAgg23 Tryd.sizeOf23 hb1581)) ?_)
        refine ⟨?_, hN1586⟩
        show Ending.returned (.tuple #[nv ((ofM (sgnN s)).1), .bool true]) = Ending.returned (.tuple #[nv ((rParseM s).1), .bool ((rParseM s).2)])
        first | rfl | (simp [rParseM, ht67, ht201, ht339, ht497, ht1492, ht1551, ht1553])
      have hsg2 := sgn_bd s
      refine wp_g0 [true, true, true, true, true, true, true, true] [] 74
        [ve (.bool true),
         ve (.bool false),
         ve (.bool false),
         ve (iv (sgnN s)),
         ve (.string (itoaS (sgnN s))),
         ve (.string s),
         ve (.bool true),
         ve (.bool true)] hs1539 (.eq (.eq (.eq (.eq (.eq (.eq (.eq (.eq (.nil))))))))) ?_ ?_
      · skip
        refine .o1 (tk rfl rfl fun _ w hn k => ⟨_, v_move rfl (k.fx 8 hv1552), rfl⟩) ?_
        refine .o1 (tk rfl rfl fun _ w hn k => ⟨_, v_not rfl (k.eq1 0 64 rfl), rfl⟩) ?_
        refine .o1 (tk rfl rfl fun _ w hn k => ⟨_, v_move rfl (k.eq1 1 65 rfl), rfl⟩) ?_
        refine .o1 (tg rfl rfl rfl (fun _ _ k => k.eq1 2 66 rfl) fun _ w hn k => ⟨_, v_move rfl (k.fx 5 h1541), rfl⟩) ?_
        refine .o1 (cg rfl rfl rfl (fun _ _ k => k.eq1 2 66 rfl) rfl (fun _ w hn k => ⟨#[iv (sgnN s)], args1 (k.eq1 3 67 rfl), fun _ => by kernel_rfl, dec_c _ _ (by omega) (by omega)⟩) fun _ => rfl) ?_
        refine .o1 (tg rfl rfl rfl (fun _ _ k => k.eq1 2 66 rfl) fun _ w hn k => ⟨_, v_move rfl (k.fx 0 h1542), rfl⟩) ?_
        refine .o1 (tg rfl rfl rfl (fun _ _ k => k.eq1 2 66 rfl) fun _ w hn k => ⟨_, v_bin rfl (k.eq1 4 68 rfl) (k.eq1 5 69 rfl) (fun _ => rfl) (r_neqS ht1553), rfl⟩) ?_
        refine .o1 (tk rfl rfl fun _ w hn k => ⟨_, v_pickF rfl (k.eq1 2 66 rfl) (k.eq1 6 70 rfl), rfl⟩) ?_
        exact .nil
      intro a1594 w1595 hn1596 ha1597
      have hs1598 := ha1597.size.trans hs1539
      have hd1599 := ha1597.defers.trans hd1540
      have h1600 := ha1597.fx 2 h1543
      have h1601 := ha1597.fx 3 h1544
      have h1602 := ha1597.fx 7 h1547
      have h1603 := ha1597.ge 7 71 rfl
      have hb1604 := hb1535.new_ hn1596
      have hb1605 := hb1530.new_ hn1596
      have hN1606 := hN1536.transNew hn1596
      clear hs1539 hd1540 h1541 h1542 h1543 h1544 h1547 hv1552 hb1535 hb1530 hN1536 ha1597 hn1596
      refine st_nil ?_
      refine hK1550 _ _ ?_
      clear hK1550 K1550
      refine wp_cond_true h1603 ?_
      refine wp_seq_k fun K1607 hK1607 => ?_
      refine wp_g0 [true, false, false] [(1, false), (2, true)] 74
        [ve (nv (Nm.mk 2 0)),
         vt,
         vt] hs1598 (.eq (.tt (.tt (.nil)))) ?_ ?_
      · skip
        refine .o1 (ck rfl rfl rfl (fun _ w hn k => ⟨#[], rfl, fun _ => by kernel_rfl, rNaN_c  _⟩) fun _ => rfl) ?_
        refine .off ?_
        refine .off ?_
        exact .nil
      intro a1608 w1609 hn1610 ha1611
      have hs1612 := ha1611.size.trans hs1598
      have hd1613 := ha1611.defers.trans hd1599
      have h1614 := ha1611.fx 2 h1600
      have h1615 := ha1611.fx 3 h1601
      have h1616 := ha1611.fx 7 h1602
      have h1617 := ha1611.ge 0 72 rfl
      have hb1618 := hb1604.new_ hn1610
      have hb1619 := hb1605.new_ hn1610
      have hN1620 := hN1606.transNew hn1610
      clear hs1598 hd1599 h1600 h1601 h1602 h1603 hb1604 hb1605 hN1606 ha1611 hn1610
      obtain ⟨w1621, -, hst1622, hb1623, hu1624, hf1625⟩ := s_two (v0 := iv 2) (v1 := iv 0) Tryd.sizeOf23 rfl rfl rfl hb1618
      refine st_act rfl rfl fun K1626 hL1627 => a_store' rfl h1614 h1617 hst1622 (hL1627 _ _ trivial ?_)
      have hb1628 := hf1625 _ _ _ (fun h => hne1525 h.symm) hb1619
      have hN1629 := hN1620.trans hu1624 (fun k hk hkb => by subst hkb; omega)
      clear hb1618 hst1622 K1626 hL1627 hN1620 hb1619 hu1624 hf1625
      refine st_take rfl rfl (y_assign (v := .bool false) rfl rfl) rfl ?_
      obtain ⟨a1630, ha1631⟩ : ∃ a', a' = a1608.put (some 3) (.bool false) := ⟨_, rfl⟩
      have hs1632 : a1630.tmps.size = 74 := by rw [ha1631, put_size]; exact hs1612
      have hd1633 : a1630.defers = [] := by rw [ha1631, put_defers]; exact hd1613
      have h1634 : a1630.eval (.tmp 2) = pv q10 := by rw [ha1631, put_ne _ _ _ _ (by decide)]; exact h1614
      have h1635 : a1630.eval (.tmp 7) = pv q1521 := by rw [ha1631, put_ne _ _ _ _ (by decide)]; exact h1616
      have h1636 : a1630.eval (.tmp 72) = nv (Nm.mk 2 0) := by rw [ha1631, put_ne _ _ _ _ (by decide)]; exact h1617
      have h1637 : a1630.eval (.tmp 3) = .bool false := by rw [ha1631]; exact put_same _ _ _ (by rw [hs1612]; decide)
      show stepsTo _ _ _ _ _ (a1608.put (some 3) (.bool false)) _
      rw [← ha1631]
      clear ha1631 hs1612 hd1613 h1614 h1615 h1616 h1617
      refine st_nil ?_
      clear h1636
      refine hK1607 _ _ ?_
      clear hK1607 K1607
      refine wp_ret (ret_k hd1633 (v := .tuple #[nv (Nm.mk 2 0), .bool false]) (res_ct rfl h1634 h1637 (l_two Tryd.isAgg23 Tryd.sizeOf23 hb1623)) ?_)
      refine ⟨?_, hN1629⟩
      show Ending.returned (.tuple #[nv (Nm.mk 2 0), .bool false]) = Ending.returned (.tuple #[nv ((rParseM s).1), .bool ((rParseM s).2)])
      first | rfl | (simp [rParseM, ht67, ht201, ht339, ht497, ht1492, ht1551, ht1553])
    have hv1638 : a1537.eval (.tmp 8) = .bool false := h1548.trans (congrArg Value.bool ht1551)
    clear h1548
    have hsg2 := sgn_bd s
    refine wp_g0 [true, true, true, true, true, true, true, true] [] 74
      [ve (.bool false),
       ve (.bool true),
       ve (.bool true),
       ve undef,
       ve undef,
       ve undef,
       ve undef,
       ve (.bool true)] hs1539 (.eq (.eq (.eq (.eq (.eq (.eq (.eq (.eq (.nil))))))))) ?_ ?_
    · skip
      refine .o1 (tk rfl rfl fun _ w hn k => ⟨_, v_move rfl (k.fx 8 hv1638), rfl⟩) ?_
      refine .o1 (tk rfl rfl fun _ w hn k => ⟨_, v_not rfl (k.eq1 0 64 rfl), rfl⟩) ?_
      refine .o1 (tk rfl rfl fun _ w hn k => ⟨_, v_move rfl (k.eq1 1 65 rfl), rfl⟩) ?_
      refine .o1 (sk rfl rfl rfl (fun _ _ _ k => k.eq1 2 66 rfl) (fun _ => rfl)) ?_
      refine .o1 (sk rfl rfl rfl (fun _ _ _ k => k.eq1 2 66 rfl) (fun _ => rfl)) ?_
      refine .o1 (sk rfl rfl rfl (fun _ _ _ k => k.eq1 2 66 rfl) (fun _ => rfl)) ?_
      refine .o1 (sk rfl rfl rfl (fun _ _ _ k => k.eq1 2 66 rfl) (fun _ => rfl)) ?_
      refine .o1 (tk rfl rfl fun _ w hn k => ⟨_, v_pickT rfl (k.eq1 2 66 rfl) rfl, rfl⟩) ?_
      exact .nil
    intro a1639 w1640 hn1641 ha1642
    have hs1643 := ha1642.size.trans hs1539
    have hd1644 := ha1642.defers.trans hd1540
    have h1645 := ha1642.fx 2 h1543
    have h1646 := ha1642.fx 3 h1544
    have h1647 := ha1642.fx 7 h1547
    have h1648 := ha1642.ge 7 71 rfl
    have hb1649 := hb1535.new_ hn1641
    have hb1650 := hb1530.new_ hn1641
    have hN1651 := hN1536.transNew hn1641
    clear hs1539 hd1540 h1541 h1542 h1543 h1544 h1547 hv1638 hb1535 hb1530 hN1536 ha1642 hn1641
    refine st_nil ?_
    refine hK1550 _ _ ?_
    clear hK1550 K1550
    refine wp_cond_true h1648 ?_
    refine wp_seq_k fun K1652 hK1652 => ?_
    refine wp_g0 [true, false, false] [(1, false), (2, true)] 74
      [ve (nv (Nm.mk 2 0)),
       vt,
       vt] hs1643 (.eq (.tt (.tt (.nil)))) ?_ ?_
    · skip
      refine .o1 (ck rfl rfl rfl (fun _ w hn k => ⟨#[], rfl, fun _ => by kernel_rfl, rNaN_c  _⟩) fun _ => rfl) ?_
      refine .off ?_
      refine .off ?_
      exact .nil
    intro a1653 w1654 hn1655 ha1656
    have hs1657 := ha1656.size.trans hs1643
    have hd1658 := ha1656.defers.trans hd1644
    have h1659 := ha1656.fx 2 h1645
    have h1660 := ha1656.fx 3 h1646
    have h1661 := ha1656.fx 7 h1647
    have h1662 := ha1656.ge 0 72 rfl
    have hb1663 := hb1649.new_ hn1655
    have hb1664 := hb1650.new_ hn1655
    have hN1665 := hN1651.transNew hn1655
    clear hs1643 hd1644 h1645 h1646 h1647 h1648 hb1649 hb1650 hN1651 ha1656 hn1655
    obtain ⟨w1666, -, hst1667, hb1668, hu1669, hf1670⟩ := s_two (v0 := iv 2) (v1 := iv 0) Tryd.sizeOf23 rfl rfl rfl hb1663
    refine st_act rfl rfl fun K1671 hL1672 => a_store' rfl h1659 h1662 hst1667 (hL1672 _ _ trivial ?_)
    have hb1673 := hf1670 _ _ _ (fun h => hne1525 h.symm) hb1664
    have hN1674 := hN1665.trans hu1669 (fun k hk hkb => by subst hkb; omega)
    clear hb1663 hst1667 K1671 hL1672 hN1665 hb1664 hu1669 hf1670
    refine st_take rfl rfl (y_assign (v := .bool false) rfl rfl) rfl ?_
    obtain ⟨a1675, ha1676⟩ : ∃ a', a' = a1653.put (some 3) (.bool false) := ⟨_, rfl⟩
    have hs1677 : a1675.tmps.size = 74 := by rw [ha1676, put_size]; exact hs1657
    have hd1678 : a1675.defers = [] := by rw [ha1676, put_defers]; exact hd1658
    have h1679 : a1675.eval (.tmp 2) = pv q10 := by rw [ha1676, put_ne _ _ _ _ (by decide)]; exact h1659
    have h1680 : a1675.eval (.tmp 7) = pv q1521 := by rw [ha1676, put_ne _ _ _ _ (by decide)]; exact h1661
    have h1681 : a1675.eval (.tmp 72) = nv (Nm.mk 2 0) := by rw [ha1676, put_ne _ _ _ _ (by decide)]; exact h1662
    have h1682 : a1675.eval (.tmp 3) = .bool false := by rw [ha1676]; exact put_same _ _ _ (by rw [hs1657]; decide)
    show stepsTo _ _ _ _ _ (a1653.put (some 3) (.bool false)) _
    rw [← ha1676]
    clear ha1676 hs1657 hd1658 h1659 h1660 h1661 h1662
    refine st_nil ?_
    clear h1681
    refine hK1652 _ _ ?_
    clear hK1652 K1652
    refine wp_ret (ret_k hd1678 (v := .tuple #[nv (Nm.mk 2 0), .bool false]) (res_ct rfl h1679 h1682 (l_two Tryd.isAgg23 Tryd.sizeOf23 hb1668)) ?_)
    refine ⟨?_, hN1674⟩
    show Ending.returned (.tuple #[nv (Nm.mk 2 0), .bool false]) = Ending.returned (.tuple #[nv ((rParseM s).1), .bool ((rParseM s).2)])
    first | rfl | (simp [rParseM, ht67, ht201, ht339, ht497, ht1492, ht1551])
  have ht1492d := of_decide_eq_false ht1492
  refine wp_g0 [true, true, true, true, true, true, true, true] [] 74
    [ve (.string s),
     ve (iv (s.size : Int)),
     ve (.bool true),
     ve (.bool true),
     ve (.string s),
     ve (.int .u8 (byteI s 0)),
     ve (.bool (decide ((byteI s 0) = 45))),
     ve (.bool (decide ((byteI s 0) = 45)))] hs1471 (.eq (.eq (.eq (.eq (.eq (.eq (.eq (.eq (.nil))))))))) ?_ ?_
  · skip
    refine .o1 (tk rfl rfl fun _ w hn k => ⟨_, v_move rfl (k.fx 0 h1475), rfl⟩) ?_
    refine .o1 (tk rfl rfl fun _ w hn k => ⟨_, v_lens rfl (k.eq1 0 49 rfl) (by kernel_rfl), rfl⟩) ?_
    refine .o1 (tk rfl rfl fun _ w hn k => ⟨_, v_bin rfl (k.eq1 1 50 rfl) rfl (fun _ => rfl) (r_gtrK ht1492), rfl⟩) ?_
    refine .o1 (tk rfl rfl fun _ w hn k => ⟨_, v_move rfl (k.eq1 2 51 rfl), rfl⟩) ?_
    refine .o1 (tg rfl rfl rfl (fun _ _ k => k.eq1 3 52 rfl) fun _ w hn k => ⟨_, v_move rfl (k.fx 0 h1475), rfl⟩) ?_
    refine .o1 (tg rfl rfl rfl (fun _ _ k => k.eq1 3 52 rfl) fun _ w hn k => ⟨_, v_idxs rfl (k.eq1 4 53 rfl) rfl (by kernel_rfl) (by omega), rfl⟩) ?_
    refine .o1 (tg rfl rfl rfl (fun _ _ k => k.eq1 3 52 rfl) fun _ w hn k => ⟨_, v_bin rfl (k.eq1 5 54 rfl) rfl (fun _ => rfl) (r_eql rfl), rfl⟩) ?_
    refine .o1 (tk rfl rfl fun _ w hn k => ⟨_, v_pickT rfl (k.eq1 3 52 rfl) (k.eq1 6 55 rfl), rfl⟩) ?_
    exact .nil
  intro a1683 w1684 hn1685 ha1686
  have hs1687 := ha1686.size.trans hs1471
  have hd1688 := ha1686.defers.trans hd1472
  have h1689 := ha1686.fx 5 h1491
  have h1690 := ha1686.fx 0 h1475
  have h1691 := ha1686.fx 2 h1476
  have h1692 := ha1686.fx 3 h1477
  have h1693 := ha1686.ge 7 56 rfl
  have hb1694 := hb1487.new_ hn1685
  have hN1695 := hN1488.transNew hn1685
  clear hs1471 hd1472 h1491 h1474 h1475 h1476 h1477 h1478 h1479 h1480 h1481 h1482 h1483 h1484 h1485 h1486 hb1487 hN1488 ha1686 hn1685
  refine st_nil ?_
  refine hK1490 _ _ ?_
  clear hK1490 K1490
  rcases Bool.eq_false_or_eq_true (decide ((byteI s 0) = 45)) with ht1696 | ht1696
  · skip
    have ht1696d := of_decide_eq_true ht1696
    have hv1697 : a1683.eval (.tmp 56) = .bool true := h1693.trans (congrArg Value.bool ht1696)
    clear h1693
    refine wp_cond_true hv1697 ?_
    have hsg := sgn_bd s
    refine wp_g0 [true, true, false] [(2, true)] 74
      [ve (iv (accN s)),
       ve (iv (-(accN s))),
       vt] hs1687 (.eq (.eq (.tt (.nil)))) ?_ ?_
    · skip
      refine .o1 (tk rfl rfl fun _ w hn k => ⟨_, v_move rfl (k.fx 5 h1689), rfl⟩) ?_
      refine .o1 (tk rfl rfl fun _ w hn k => ⟨_, v_neg rfl (k.eq1 0 57 rfl) (by omega), rfl⟩) ?_
      refine .off ?_
      exact .nil
    intro a1698 w1699 hn1700 ha1701
    have hs1702 := ha1701.size.trans hs1687
    have hd1703 := ha1701.defers.trans hd1688
    have h1704 := ha1701.fx 5 h1689
    have h1705 := ha1701.fx 0 h1690
    have h1706 := ha1701.fx 2 h1691
    have h1707 := ha1701.fx 3 h1692
    have h1708 := ha1701.ge 1 58 rfl
    have hb1709 := hb1694.new_ hn1700
    have hN1710 := hN1695.transNew hn1700
    clear hs1687 hd1688 h1689 h1690 h1691 h1692 hv1697 hb1694 hN1695 ha1701 hn1700
    refine st_take rfl rfl (y_assign (v := iv (-(accN s))) rfl h1708) rfl ?_
    obtain ⟨a1711, ha1712⟩ : ∃ a', a' = a1698.put (some 5) (iv (-(accN s))) := ⟨_, rfl⟩
    have hs1713 : a1711.tmps.size = 74 := by rw [ha1712, put_size]; exact hs1702
    have hd1714 : a1711.defers = [] := by rw [ha1712, put_defers]; exact hd1703
    have h1715 : a1711.eval (.tmp 0) = .string s := by rw [ha1712, put_ne _ _ _ _ (by decide)]; exact h1705
    have h1716 : a1711.eval (.tmp 2) = pv q10 := by rw [ha1712, put_ne _ _ _ _ (by decide)]; exact h1706
    have h1717 : a1711.eval (.tmp 3) = .bool false := by rw [ha1712, put_ne _ _ _ _ (by decide)]; exact h1707
    have h1718 : a1711.eval (.tmp 58) = iv (-(accN s)) := by rw [ha1712, put_ne _ _ _ _ (by decide)]; exact h1708
    have h1719 : a1711.eval (.tmp 5) = iv (-(accN s)) := by rw [ha1712]; exact put_same _ _ _ (by rw [hs1702]; decide)
    show stepsTo _ _ _ _ _ (a1698.put (some 5) (iv (-(accN s)))) _
    rw [← ha1712]
    clear ha1712 hs1702 hd1703 h1704 h1705 h1706 h1707 h1708
    refine st_nil ?_
    clear h1718
    refine hK1489 _ _ ?_
    clear hK1489 K1489
    refine wp_seq_k fun K1720 hK1720 => ?_
    have h1721 : a1711.eval (.tmp 5) = .int .i64 (sgnN s) := h1719.trans (congrArg (Value.int .i64) (sgn_yes ht1492 ht1696))
    clear h1719
    refine wp_g [true, true, true, true, true, true, false, false] [4] [(6, false), (7, true)] 74
      [ve (iv (sgnN s)),
       ve (.tuple #[nv ((ofM (sgnN s)).1), .bool ((ofM (sgnN s)).2)]),
       ve (.tuple #[nv ((ofM (sgnN s)).1), .bool ((ofM (sgnN s)).2)]),
       ve (nv ((ofM (sgnN s)).1)),
       ve (.bool ((ofM (sgnN s)).2)),
       IsNew w1699 23 [iv 0, iv 0],
       vt,
       vt]
      [5] (newsCons (fun v w h => IsNew.old h) newsNil) hs1713 (.eq (.eq (.eq (.eq (.eq (.nw (.tt (.tt (.nil))))))))) ?_ ?_ ?_
    · skip
      refine .o1 (tk rfl rfl fun _ w hn k => ⟨_, v_move rfl (k.fx 5 h1721), rfl⟩) ?_
      refine .o1 (ck rfl rfl rfl (fun _ w hn k => ⟨#[iv (sgnN s)], args1 (k.eq1 0 60 rfl), fun _ => by kernel_rfl, rof_c (sgnN s) _⟩) fun _ => rfl) ?_
      refine .o1 (tk rfl rfl fun _ w hn k => ⟨_, v_move rfl (k.eq1 1 61 rfl), rfl⟩) ?_
      refine .o1 (tk rfl rfl fun _ w hn k => ⟨_, v_extract rfl (k.eq1 2 59 rfl) rfl, rfl⟩) ?_
      refine .o3 ?_
      refine .o2 (step_allocN (cs := [iv 0, iv 0]) (t := 23) rfl (noG rfl) (fun _ w hn k => rfl) (fun q _ hq hb => ⟨q, rfl, hq, hb⟩)) ?_
      refine .off ?_
      refine .off ?_
      exact .nil
    · skip
      intro i h
      simp only [List.contains_eq_mem, List.mem_cons, List.not_mem_nil, or_false, decide_eq_true_eq] at h
      subst h
      · exact eager_take rfl rfl fun _ w hn k => ⟨.bool ((ofM (sgnN s)).2), fun w => v_extract rfl (k.eq1 2 59 rfl) rfl, rfl⟩
    intro a1722 w1723 hn1724 ha1725
    have hs1726 := ha1725.size.trans hs1713
    have hd1727 := ha1725.defers.trans hd1714
    have h1728 := ha1725.fx 0 h1715
    have h1729 := ha1725.fx 2 h1716
    have h1730 := ha1725.fx 3 h1717
    have h1731 := ha1725.fx 5 h1721
    have h1732 := ha1725.ge 3 62 rfl
    have h1733 := ha1725.ge 4 63 rfl
    obtain ⟨q1735, h1734, hq1736, hb1737⟩ : IsNew _ _ _ _ _ := ha1725.got 5 7 rfl (by kernel_rfl)
    have hb1738 := hb1709.new_ hn1724
    have hne1739 : q10 ≠ q1735 := by have h1 := hb1709.lt; have h2 := hq1736; omega
    have hq1740 := Nat.le_trans hN1710.size hq1736
    have hN1741 := hN1710.transNew hn1724
    clear hs1713 hd1714 h1715 h1716 h1717 h1721 hb1709 hq1736 hN1710 ha1725 hn1724
    obtain ⟨w1742, -, hst1743, hb1744, hu1745, hf1746⟩ := s_two (v0 := iv ((ofM (sgnN s)).1.k)) (v1 := iv ((ofM (sgnN s)).1.n)) Tryd.sizeOf23 rfl rfl rfl hb1737
    refine st_act rfl rfl fun K1747 hL1748 => a_store' rfl h1734 h1732 hst1743 (hL1748 _ _ trivial ?_)
    have hb1749 := hf1746 _ _ _ (hne1739) hb1738
    have hN1750 := hN1741.trans hu1745 (fun k hk hkb => by subst hkb; omega)
    clear hb1737 hst1743 K1747 hL1748 hN1741 hb1738 hu1745 hf1746
    refine st_take rfl rfl (y_assign (v := .bool ((ofM (sgnN s)).2)) rfl h1733) rfl ?_
    obtain ⟨a1751, ha1752⟩ : ∃ a', a' = a1722.put (some 8) (.bool ((ofM (sgnN s)).2)) := ⟨_, rfl⟩
    have hs1753 : a1751.tmps.size = 74 := by rw [ha1752, put_size]; exact hs1726
    have hd1754 : a1751.defers = [] := by rw [ha1752, put_defers]; exact hd1727
    have h1755 : a1751.eval (.tmp 0) = .string s := by rw [ha1752, put_ne _ _ _ _ (by decide)]; exact h1728
    have h1756 : a1751.eval (.tmp 2) = pv q10 := by rw [ha1752, put_ne _ _ _ _ (by decide)]; exact h1729
    have h1757 : a1751.eval (.tmp 3) = .bool false := by rw [ha1752, put_ne _ _ _ _ (by decide)]; exact h1730
    have h1758 : a1751.eval (.tmp 5) = iv (sgnN s) := by rw [ha1752, put_ne _ _ _ _ (by decide)]; exact h1731
    have h1759 : a1751.eval (.tmp 62) = nv ((ofM (sgnN s)).1) := by rw [ha1752, put_ne _ _ _ _ (by decide)]; exact h1732
    have h1760 : a1751.eval (.tmp 63) = .bool ((ofM (sgnN s)).2) := by rw [ha1752, put_ne _ _ _ _ (by decide)]; exact h1733
    have h1761 : a1751.eval (.tmp 7) = pv q1735 := by rw [ha1752, put_ne _ _ _ _ (by decide)]; exact h1734
    have h1762 : a1751.eval (.tmp 8) = .bool ((ofM (sgnN s)).2) := by rw [ha1752]; exact put_same _ _ _ (by rw [hs1726]; decide)
    show stepsTo _ _ _ _ _ (a1722.put (some 8) (.bool ((ofM (sgnN s)).2))) _
    rw [← ha1752]
    clear ha1752 hs1726 hd1727 h1728 h1729 h1730 h1731 h1732 h1733 h1734
    refine st_nil ?_
    clear h1759 h1760
    refine hK1720 _ _ ?_
    clear hK1720 K1720
    refine wp_seq_k fun K1763 hK1763 => ?_
    refine wp_seq_k fun K1764 hK1764 => ?_
    rcases Bool.eq_false_or_eq_true ((ofM (sgnN s)).2) with ht1765 | ht1765
    · skip
      have hv1766 : a1751.eval (.tmp 8) = .bool true := h1762.trans (congrArg Value.bool ht1765)
      clear h1762
      rcases Bool.eq_false_or_eq_true (strEq (itoaS (sgnN s)) s) with ht1767 | ht1767
      · skip
        have hsg2 := sgn_bd s
        refine wp_g0 [true, true, true, true, true, true, true, true] [] 74
          [ve (.bool true),
           ve (.bool false),
           ve (.bool false),
           ve (iv (sgnN s)),
           ve (.string (itoaS (sgnN s))),
           ve (.string s),
           ve (.bool false),
           ve (.bool false)] hs1753 (.eq (.eq (.eq (.eq (.eq (.eq (.eq (.eq (.nil))))))))) ?_ ?_
        · skip
          refine .o1 (tk rfl rfl fun _ w hn k => ⟨_, v_move rfl (k.fx 8 hv1766), rfl⟩) ?_
          refine .o1 (tk rfl rfl fun _ w hn k => ⟨_, v_not rfl (k.eq1 0 64 rfl), rfl⟩) ?_
          refine .o1 (tk rfl rfl fun _ w hn k => ⟨_, v_move rfl (k.eq1 1 65 rfl), rfl⟩) ?_
          refine .o1 (tg rfl rfl rfl (fun _ _ k => k.eq1 2 66 rfl) fun _ w hn k => ⟨_, v_move rfl (k.fx 5 h1758), rfl⟩) ?_
          refine .o1 (cg rfl rfl rfl (fun _ _ k => k.eq1 2 66 rfl) rfl (fun _ w hn k => ⟨#[iv (sgnN s)], args1 (k.eq1 3 67 rfl), fun _ => by kernel_rfl, dec_c _ _ (by omega) (by omega)⟩) fun _ => rfl) ?_
          refine .o1 (tg rfl rfl rfl (fun _ _ k => k.eq1 2 66 rfl) fun _ w hn k => ⟨_, v_move rfl (k.fx 0 h1755), rfl⟩) ?_
          refine .o1 (tg rfl rfl rfl (fun _ _ k => k.eq1 2 66 rfl) fun _ w hn k => ⟨_, v_bin rfl (k.eq1 4 68 rfl) (k.eq1 5 69 rfl) (fun _ => rfl) (r_neqS ht1767), rfl⟩) ?_
          refine .o1 (tk rfl rfl fun _ w hn k => ⟨_, v_pickF rfl (k.eq1 2 66 rfl) (k.eq1 6 70 rfl), rfl⟩) ?_
          exact .nil
        intro a1768 w1769 hn1770 ha1771
        have hs1772 := ha1771.size.trans hs1753
        have hd1773 := ha1771.defers.trans hd1754
        have h1774 := ha1771.fx 2 h1756
        have h1775 := ha1771.fx 3 h1757
        have h1776 := ha1771.fx 7 h1761
        have h1777 := ha1771.ge 7 71 rfl
        have hb1778 := hb1749.new_ hn1770
        have hb1779 := hb1744.new_ hn1770
        have hN1780 := hN1750.transNew hn1770
        clear hs1753 hd1754 h1755 h1756 h1757 h1758 h1761 hv1766 hb1749 hb1744 hN1750 ha1771 hn1770
        refine st_nil ?_
        refine hK1764 _ _ ?_
        clear hK1764 K1764
        refine wp_cond_false h1777 ?_
        refine wp_skip ?_
        refine hK1763 _ _ ?_
        clear hK1763 K1763
        refine wp_seq_k fun K1781 hK1781 => ?_
        refine wp_g0 [true, false, false] [(1, false), (2, true)] 74
          [ve (nv ((ofM (sgnN s)).1)),
           vt,
           vt] hs1772 (.eq (.tt (.tt (.nil)))) ?_ ?_
        · skip
          refine .o1 (tk rfl rfl fun _ w hn k => ⟨_, v_load rfl (k.fx 7 h1776) (l_two Tryd.isAgg23 Tryd.sizeOf23 (hb1779.new_ hn)), rfl⟩) ?_
          refine .off ?_
          refine .off ?_
          exact .nil
        intro a1782 w1783 hn1784 ha1785
        have hs1786 := ha1785.size.trans hs1772
        have hd1787 := ha1785.defers.trans hd1773
        have h1788 := ha1785.fx 2 h1774
        have h1789 := ha1785.fx 3 h1775
        have h1790 := ha1785.ge 0 73 rfl
        have hb1791 := hb1778.new_ hn1784
        have hN1792 := hN1780.transNew hn1784
        clear hs1772 hd1773 h1774 h1775 h1776 h1777 hb1778 hb1779 hq1740 hN1780 ha1785 hn1784
        obtain ⟨w1793, -, hst1794, hb1795, hu1796, hf1797⟩ := s_two (v0 := iv ((ofM (sgnN s)).1.k)) (v1 := iv ((ofM (sgnN s)).1.n)) Tryd.sizeOf23 rfl rfl rfl hb1791
        refine st_act rfl rfl fun K1798 hL1799 => a_store' rfl h1788 h1790 hst1794 (hL1799 _ _ trivial ?_)
        have hN1800 := hN1792.trans hu1796 (fun k hk hkb => by subst hkb; omega)
        clear hb1791 hst1794 K1798 hL1799 hN1792 hu1796 hf1797
        refine st_take rfl rfl (y_assign (v := .bool true) rfl rfl) rfl ?_
        obtain ⟨a1801, ha1802⟩ : ∃ a', a' = a1782.put (some 3) (.bool true) := ⟨_, rfl⟩
        have hs1803 : a1801.tmps.size = 74 := by rw [ha1802, put_size]; exact hs1786
        have hd1804 : a1801.defers = [] := by rw [ha1802, put_defers]; exact hd1787
        have h1805 : a1801.eval (.tmp 2) = pv q10 := by rw [ha1802, put_ne _ _ _ _ (by decide)]; exact h1788
        have h1806 : a1801.eval (.tmp 73) = nv ((ofM (sgnN s)).1) := by rw [ha1802, put_ne _ _ _ _ (by decide)]; exact h1790
        have h1807 : a1801.eval (.tmp 3) = .bool true := by rw [ha1802]; exact put_same _ _ _ (by rw [hs1786]; decide)
        show stepsTo _ _ _ _ _ (a1782.put (some 3) (.bool true)) _
        rw [← ha1802]
        clear ha1802 hs1786 hd1787 h1788 h1789 h1790
        refine st_nil ?_
        clear h1806
        refine hK1781 _ _ ?_
        clear hK1781 K1781
        refine wp_ret (ret_k hd1804 (v := .tuple #[nv ((ofM (sgnN s)).1), .bool true]) (res_ct rfl h1805 h1807 (l_two Tryd.isAgg23 Tryd.sizeOf23 hb1795)) ?_)
        refine ⟨?_, hN1800⟩
        show Ending.returned (.tuple #[nv ((ofM (sgnN s)).1), .bool true]) = Ending.returned (.tuple #[nv ((rParseM s).1), .bool ((rParseM s).2)])
        first | rfl | (simp [rParseM, ht67, ht201, ht339, ht497, ht1492, ht1696, ht1765, ht1767])
      have hsg2 := sgn_bd s
      refine wp_g0 [true, true, true, true, true, true, true, true] [] 74
        [ve (.bool true),
         ve (.bool false),
         ve (.bool false),
         ve (iv (sgnN s)),
         ve (.string (itoaS (sgnN s))),
         ve (.string s),
         ve (.bool true),
         ve (.bool true)] hs1753 (.eq (.eq (.eq (.eq (.eq (.eq (.eq (.eq (.nil))))))))) ?_ ?_
      · skip
        refine .o1 (tk rfl rfl fun _ w hn k => ⟨_, v_move rfl (k.fx 8 hv1766), rfl⟩) ?_
        refine .o1 (tk rfl rfl fun _ w hn k => ⟨_, v_not rfl (k.eq1 0 64 rfl), rfl⟩) ?_
        refine .o1 (tk rfl rfl fun _ w hn k => ⟨_, v_move rfl (k.eq1 1 65 rfl), rfl⟩) ?_
        refine .o1 (tg rfl rfl rfl (fun _ _ k => k.eq1 2 66 rfl) fun _ w hn k => ⟨_, v_move rfl (k.fx 5 h1758), rfl⟩) ?_
        refine .o1 (cg rfl rfl rfl (fun _ _ k => k.eq1 2 66 rfl) rfl (fun _ w hn k => ⟨#[iv (sgnN s)], args1 (k.eq1 3 67 rfl), fun _ => by kernel_rfl, dec_c _ _ (by omega) (by omega)⟩) fun _ => rfl) ?_
        refine .o1 (tg rfl rfl rfl (fun _ _ k => k.eq1 2 66 rfl) fun _ w hn k => ⟨_, v_move rfl (k.fx 0 h1755), rfl⟩) ?_
        refine .o1 (tg rfl rfl rfl (fun _ _ k => k.eq1 2 66 rfl) fun _ w hn k => ⟨_, v_bin rfl (k.eq1 4 68 rfl) (k.eq1 5 69 rfl) (fun _ => rfl) (r_neqS ht1767), rfl⟩) ?_
        refine .o1 (tk rfl rfl fun _ w hn k => ⟨_, v_pickF rfl (k.eq1 2 66 rfl) (k.eq1 6 70 rfl), rfl⟩) ?_
        exact .nil
      intro a1808 w1809 hn1810 ha1811
      have hs1812 := ha1811.size.trans hs1753
      have hd1813 := ha1811.defers.trans hd1754
      have h1814 := ha1811.fx 2 h1756
      have h1815 := ha1811.fx 3 h1757
      have h1816 := ha1811.fx 7 h1761
      have h1817 := ha1811.ge 7 71 rfl
      have hb1818 := hb1749.new_ hn1810
      have hb1819 := hb1744.new_ hn1810
      have hN1820 := hN1750.transNew hn1810
      clear hs1753 hd1754 h1755 h1756 h1757 h1758 h1761 hv1766 hb1749 hb1744 hN1750 ha1811 hn1810
      refine st_nil ?_
      refine hK1764 _ _ ?_
      clear hK1764 K1764
      refine wp_cond_true h1817 ?_
      refine wp_seq_k fun K1821 hK1821 => ?_
      refine wp_g0 [true, false, false] [(1, false), (2, true)] 74
        [ve (nv (Nm.mk 2 0)),
         vt,
         vt] hs1812 (.eq (.tt (.tt (.nil)))) ?_ ?_
      · skip
        refine .o1 (ck rfl rfl rfl (fun _ w hn k => ⟨#[], rfl, fun _ => by kernel_rfl, rNaN_c  _⟩) fun _ => rfl) ?_
        refine .off ?_
        refine .off ?_
        exact .nil
      intro a1822 w1823 hn1824 ha1825
      have hs1826 := ha1825.size.trans hs1812
      have hd1827 := ha1825.defers.trans hd1813
      have h1828 := ha1825.fx 2 h1814
      have h1829 := ha1825.fx 3 h1815
      have h1830 := ha1825.fx 7 h1816
      have h1831 := ha1825.ge 0 72 rfl
      have hb1832 := hb1818.new_ hn1824
      have hb1833 := hb1819.new_ hn1824
      have hN1834 := hN1820.transNew hn1824
      clear hs1812 hd1813 h1814 h1815 h1816 h1817 hb1818 hb1819 hN1820 ha1825 hn1824
      obtain ⟨w1835, -, hst1836, hb1837, hu1838, hf1839⟩ := s_two (v0 := iv 2) (v1 := iv 0) Tryd.sizeOf23 rfl rfl rfl hb1832
      refine st_act rfl rfl fun K1840 hL1841 => a_store' rfl h1828 h1831 hst1836 (hL1841 _ _ trivial ?_)
      have hb1842 := hf1839 _ _ _ (fun h => hne1739 h.symm) hb1833
      have hN1843 := hN1834.trans hu1838 (fun k hk hkb => by subst hkb; omega)
      clear hb1832 hst1836 K1840 hL1841 hN1834 hb1833 hu1838 hf1839
      refine st_take rfl rfl (y_assign (v := .bool false) rfl rfl) rfl ?_
      obtain ⟨a1844, ha1845⟩ : ∃ a', a' = a1822.put (some 3) (.bool false) := ⟨_, rfl⟩
      have hs1846 : a1844.tmps.size = 74 := by rw [ha1845, put_size]; exact hs1826
      have hd1847 : a1844.defers = [] := by rw [ha1845, put_defers]; exact hd1827
      have h1848 : a1844.eval (.tmp 2) = pv q10 := by rw [ha1845, put_ne _ _ _ _ (by decide)]; exact h1828
      have h1849 : a1844.eval (.tmp 7) = pv q1735 := by rw [ha1845, put_ne _ _ _ _ (by decide)]; exact h1830
      have h1850 : a1844.eval (.tmp 72) = nv (Nm.mk 2 0) := by rw [ha1845, put_ne _ _ _ _ (by decide)]; exact h1831
      have h1851 : a1844.eval (.tmp 3) = .bool false := by rw [ha1845]; exact put_same _ _ _ (by rw [hs1826]; decide)
      show stepsTo _ _ _ _ _ (a1822.put (some 3) (.bool false)) _
      rw [← ha1845]
      clear ha1845 hs1826 hd1827 h1828 h1829 h1830 h1831
      refine st_nil ?_
      clear h1850
      refine hK1821 _ _ ?_
      clear hK1821 K1821
      refine wp_ret (ret_k hd1847 (v := .tuple #[nv (Nm.mk 2 0), .bool false]) (res_ct rfl h1848 h1851 (l_two Tryd.isAgg23 Tryd.sizeOf23 hb1837)) ?_)
      refine ⟨?_, hN1843⟩
      show Ending.returned (.tuple #[nv (Nm.mk 2 0), .bool false]) = Ending.returned (.tuple #[nv ((rParseM s).1), .bool ((rParseM s).2)])
      first | rfl | (simp [rParseM, ht67, ht201, ht339, ht497, ht1492, ht1696, ht1765, ht1767])
    have hv1852 : a1751.eval (.tmp 8) = .bool false := h1762.trans (congrArg Value.bool ht1765)
    clear h1762
    have hsg2 := sgn_bd s
    refine wp_g0 [true, true, true, true, true, true, true, true] [] 74
      [ve (.bool false),
       ve (.bool true),
       ve (.bool true),
       ve undef,
       ve undef,
       ve undef,
       ve undef,
       ve (.bool true)] hs1753 (.eq (.eq (.eq (.eq (.eq (.eq (.eq (.eq (.nil))))))))) ?_ ?_
    · skip
      refine .o1 (tk rfl rfl fun _ w hn k => ⟨_, v_move rfl (k.fx 8 hv1852), rfl⟩) ?_
      refine .o1 (tk rfl rfl fun _ w hn k => ⟨_, v_not rfl (k.eq1 0 64 rfl), rfl⟩) ?_
      refine .o1 (tk rfl rfl fun _ w hn k => ⟨_, v_move rfl (k.eq1 1 65 rfl), rfl⟩) ?_
      refine .o1 (sk rfl rfl rfl (fun _ _ _ k => k.eq1 2 66 rfl) (fun _ => rfl)) ?_
      refine .o1 (sk rfl rfl rfl (fun _ _ _ k => k.eq1 2 66 rfl) (fun _ => rfl)) ?_
      refine .o1 (sk rfl rfl rfl (fun _ _ _ k => k.eq1 2 66 rfl) (fun _ => rfl)) ?_
      refine .o1 (sk rfl rfl rfl (fun _ _ _ k => k.eq1 2 66 rfl) (fun _ => rfl)) ?_
      refine .o1 (tk rfl rfl fun _ w hn k => ⟨_, v_pickT rfl (k.eq1 2 66 rfl) rfl, rfl⟩) ?_
      exact .nil
    intro a1853 w1854 hn1855 ha1856
    have hs1857 := ha1856.size.trans hs1753
    have hd1858 := ha1856.defers.trans hd1754
    have h1859 := ha1856.fx 2 h1756
    have h1860 := ha1856.fx 3 h1757
    have h1861 := ha1856.fx 7 h1761
    have h1862 := ha1856.ge 7 71 rfl
    have hb1863 := hb1749.new_ hn1855
    have hb1864 := hb1744.new_ hn1855
    have hN1865 := hN1750.transNew hn1855
    clear hs1753 hd1754 h1755 h1756 h1757 h1758 h1761 hv1852 hb1749 hb1744 hN1750 ha1856 hn1855
    refine st_nil ?_
    refine hK1764 _ _ ?_
    clear hK1764 K1764
    refine wp_cond_true h1862 ?_
    refine wp_seq_k fun K1866 hK1866 => ?_
    refine wp_g0 [true, false, false] [(1, false), (2, true)] 74
      [ve (nv (Nm.mk 2 0)),
       vt,
       vt] hs1857 (.eq (.tt (.tt (.nil)))) ?_ ?_
    · skip
      refine .o1 (ck rfl rfl rfl (fun _ w hn k => ⟨#[], rfl, fun _ => by kernel_rfl, rNaN_c  _⟩) fun _ => rfl) ?_
      refine .off ?_
      refine .off ?_
      exact .nil
    intro a1867 w1868 hn1869 ha1870
    have hs1871 := ha1870.size.trans hs1857
    have hd1872 := ha1870.defers.trans hd1858
    have h1873 := ha1870.fx 2 h1859
    have h1874 := ha1870.fx 3 h1860
    have h1875 := ha1870.fx 7 h1861
    have h1876 := ha1870.ge 0 72 rfl
    have hb1877 := hb1863.new_ hn1869
    have hb1878 := hb1864.new_ hn1869
    have hN1879 := hN1865.transNew hn1869
    clear hs1857 hd1858 h1859 h1860 h1861 h1862 hb1863 hb1864 hN1865 ha1870 hn1869
    obtain ⟨w1880, -, hst1881, hb1882, hu1883, hf1884⟩ := s_two (v0 := iv 2) (v1 := iv 0) Tryd.sizeOf23 rfl rfl rfl hb1877
    refine st_act rfl rfl fun K1885 hL1886 => a_store' rfl h1873 h1876 hst1881 (hL1886 _ _ trivial ?_)
    have hb1887 := hf1884 _ _ _ (fun h => hne1739 h.symm) hb1878
    have hN1888 := hN1879.trans hu1883 (fun k hk hkb => by subst hkb; omega)
    clear hb1877 hst1881 K1885 hL1886 hN1879 hb1878 hu1883 hf1884
    refine st_take rfl rfl (y_assign (v := .bool false) rfl rfl) rfl ?_
    obtain ⟨a1889, ha1890⟩ : ∃ a', a' = a1867.put (some 3) (.bool false) := ⟨_, rfl⟩
    have hs1891 : a1889.tmps.size = 74 := by rw [ha1890, put_size]; exact hs1871
    have hd1892 : a1889.defers = [] := by rw [ha1890, put_defers]; exact hd1872
    have h1893 : a1889.eval (.tmp 2) = pv q10 := by rw [ha1890, put_ne _ _ _ _ (by decide)]; exact h1873
    have h1894 : a1889.eval (.tmp 7) = pv q1735 := by rw [ha1890, put_ne _ _ _ _ (by decide)]; exact h1875
    have h1895 : a1889.eval (.tmp 72) = nv (Nm.mk 2 0) := by rw [ha1890, put_ne _ _ _ _ (by decide)]; exact h1876
    have h1896 : a1889.eval (.tmp 3) = .bool false := by rw [ha1890]; exact put_same _ _ _ (by rw [hs1871]; decide)
    show stepsTo _ _ _ _ _ (a1867.put (some 3) (.bool false)) _
    rw [← ha1890]
    clear ha1890 hs1871 hd1872 h1873 h1874 h1875 h1876
    refine st_nil ?_
    clear h1895
    refine hK1866 _ _ ?_
    clear hK1866 K1866
    refine wp_ret (ret_k hd1892 (v := .tuple #[nv (Nm.mk 2 0), .bool false]) (res_ct rfl h1893 h1896 (l_two Tryd.isAgg23 Tryd.sizeOf23 hb1882)) ?_)
    refine ⟨?_, hN1888⟩
    show Ending.returned (.tuple #[nv (Nm.mk 2 0), .bool false]) = Ending.returned (.tuple #[nv ((rParseM s).1), .bool ((rParseM s).2)])
    first | rfl | (simp [rParseM, ht67, ht201, ht339, ht497, ht1492, ht1696, ht1765])
  have ht1696d := of_decide_eq_false ht1696
  have hv1897 : a1683.eval (.tmp 56) = .bool false := h1693.trans (congrArg Value.bool ht1696)
  clear h1693
  refine wp_cond_false hv1897 ?_
  refine wp_skip ?_
  refine hK1489 _ _ ?_
  clear hK1489 K1489
  refine wp_seq_k fun K1898 hK1898 => ?_
  have h1899 : a1683.eval (.tmp 5) = .int .i64 (sgnN s) := h1689.trans (congrArg (Value.int .i64) (sgn_no2 ht1696))
  clear h1689
  refine wp_g [true, true, true, true, true, true, false, false] [4] [(6, false), (7, true)] 74
    [ve (iv (sgnN s)),
     ve (.tuple #[nv ((ofM (sgnN s)).1), .bool ((ofM (sgnN s)).2)]),
     ve (.tuple #[nv ((ofM (sgnN s)).1), .bool ((ofM (sgnN s)).2)]),
     ve (nv ((ofM (sgnN s)).1)),
     ve (.bool ((ofM (sgnN s)).2)),
     IsNew w1684 23 [iv 0, iv 0],
     vt,
     vt]
    [5] (newsCons (fun v w h => IsNew.old h) newsNil) hs1687 (.eq (.eq (.eq (.eq (.eq (.nw (.tt (.tt (.nil))))))))) ?_ ?_ ?_
  · skip
    refine .o1 (tk rfl rfl fun _ w hn k => ⟨_, v_move rfl (k.fx 5 h1899), rfl⟩) ?_
    refine .o1 (ck rfl rfl rfl (fun _ w hn k => ⟨#[iv (sgnN s)], args1 (k.eq1 0 60 rfl), fun _ => by kernel_rfl, rof_c (sgnN s) _⟩) fun _ => rfl) ?_
    refine .o1 (tk rfl rfl fun _ w hn k => ⟨_, v_move rfl (k.eq1 1 61 rfl), rfl⟩) ?_
    refine .o1 (tk rfl rfl fun _ w hn k => ⟨_, v_extract rfl (k.eq1 2 59 rfl) rfl, rfl⟩) ?_
    refine .o3 ?_
    refine .o2 (step_allocN (cs := [iv 0, iv 0]) (t := 23) rfl (noG rfl) (fun _ w hn k => rfl) (fun q _ hq hb => ⟨q, rfl, hq, hb⟩)) ?_
    refine .off ?_
    refine .off ?_
    exact .nil
  · skip
    intro i h
    simp only [List.contains_eq_mem, List.mem_cons, List.not_mem_nil, or_false, decide_eq_true_eq] at h
    subst h
    · exact eager_take rfl rfl fun _ w hn k => ⟨.bool ((ofM (sgnN s)).2), fun w => v_extract rfl (k.eq1 2 59 rfl) rfl, rfl⟩
  intro a1900 w1901 hn1902 ha1903
  have hs1904 := ha1903.size.trans hs1687
  have hd1905 := ha1903.defers.trans hd1688
  have h1906 := ha1903.fx 5 h1899
  have h1907 := ha1903.fx 0 h1690
  have h1908 := ha1903.fx 2 h1691
  have h1909 := ha1903.fx 3 h1692
  have h1910 := ha1903.ge 3 62 rfl
  have h1911 := ha1903.ge 4 63 rfl
  obtain ⟨q1913, h1912, hq1914, hb1915⟩ : IsNew _ _ _ _ _ := ha1903.got 5 7 rfl (by kernel_rfl)
  have hb1916 := hb1694.new_ hn1902
  have hne1917 : q10 ≠ q1913 := by have h1 := hb1694.lt; have h2 := hq1914; omega
  have hq1918 := Nat.le_trans hN1695.size hq1914
  have hN1919 := hN1695.transNew hn1902
  clear hs1687 hd1688 h1899 h1690 h1691 h1692 hv1897 hb1694 hq1914 hN1695 ha1903 hn1902
  obtain ⟨w1920, -, hst1921, hb1922, hu1923, hf1924⟩ := s_two (v0 := iv ((ofM (sgnN s)).1.k)) (v1 := iv ((ofM (sgnN s)).1.n)) Tryd.sizeOf23 rfl rfl rfl hb1915
  refine st_act rfl rfl fun K1925 hL1926 => a_store' rfl h1912 h1910 hst1921 (hL1926 _ _ trivial ?_)
  have hb1927 := hf1924 _ _ _ (hne1917) hb1916
  have hN1928 := hN1919.trans hu1923 (fun k hk hkb => by subst hkb; omega)
  clear hb1915 hst1921 K1925 hL1926 hN1919 hb1916 hu1923 hf1924
  refine st_take rfl rfl (y_assign (v := .bool ((ofM (sgnN s)).2)) rfl h1911) rfl ?_
  obtain ⟨a1929, ha1930⟩ : ∃ a', a' = a1900.put (some 8) (.bool ((ofM (sgnN s)).2)) := ⟨_, rfl⟩
  have hs1931 : a1929.tmps.size = 74 := by rw [ha1930, put_size]; exact hs1904
  have hd1932 : a1929.defers = [] := by rw [ha1930, put_defers]; exact hd1905
  have h1933 : a1929.eval (.tmp 5) = iv (sgnN s) := by rw [ha1930, put_ne _ _ _ _ (by decide)]; exact h1906
  have h1934 : a1929.eval (.tmp 0) = .string s := by rw [ha1930, put_ne _ _ _ _ (by decide)]; exact h1907
  have h1935 : a1929.eval (.tmp 2) = pv q10 := by rw [ha1930, put_ne _ _ _ _ (by decide)]; exact h1908
  have h1936 : a1929.eval (.tmp 3) = .bool false := by rw [ha1930, put_ne _ _ _ _ (by decide)]; exact h1909
  have h1937 : a1929.eval (.tmp 62) = nv ((ofM (sgnN s)).1) := by rw [ha1930, put_ne _ _ _ _ (by decide)]; exact h1910
  have h1938 : a1929.eval (.tmp 63) = .bool ((ofM (sgnN s)).2) := by rw [ha1930, put_ne _ _ _ _ (by decide)]; exact h1911
  have h1939 : a1929.eval (.tmp 7) = pv q1913 := by rw [ha1930, put_ne _ _ _ _ (by decide)]; exact h1912
  have h1940 : a1929.eval (.tmp 8) = .bool ((ofM (sgnN s)).2) := by rw [ha1930]; exact put_same _ _ _ (by rw [hs1904]; decide)
  show stepsTo _ _ _ _ _ (a1900.put (some 8) (.bool ((ofM (sgnN s)).2))) _
  rw [← ha1930]
  clear ha1930 hs1904 hd1905 h1906 h1907 h1908 h1909 h1910 h1911 h1912
  refine st_nil ?_
  clear h1937 h1938
  refine hK1898 _ _ ?_
  clear hK1898 K1898
  refine wp_seq_k fun K1941 hK1941 => ?_
  refine wp_seq_k fun K1942 hK1942 => ?_
  rcases Bool.eq_false_or_eq_true ((ofM (sgnN s)).2) with ht1943 | ht1943
  · skip
    have hv1944 : a1929.eval (.tmp 8) = .bool true := h1940.trans (congrArg Value.bool ht1943)
    clear h1940
    rcases Bool.eq_false_or_eq_true (strEq (itoaS (sgnN s)) s) with ht1945 | ht1945
    · skip
      have hsg2 := sgn_bd s
      refine wp_g0 [true, true, true, true, true, true, true, true] [] 74
        [ve (.bool true),
         ve (.bool false),
         ve (.bool false),
         ve (iv (sgnN s)),
         ve (.string (itoaS (sgnN s))),
         ve (.string s),
         ve (.bool false),
         ve (.bool false)] hs1931 (.eq (.eq (.eq (.eq (.eq (.eq (.eq (.eq (.nil))))))))) ?_ ?_
      · skip
        refine .o1 (tk rfl rfl fun _ w hn k => ⟨_, v_move rfl (k.fx 8 hv1944), rfl⟩) ?_
        refine .o1 (tk rfl rfl fun _ w hn k => ⟨_, v_not rfl (k.eq1 0 64 rfl), rfl⟩) ?_
        refine .o1 (tk rfl rfl fun _ w hn k => ⟨_, v_move rfl (k.eq1 1 65 rfl), rfl⟩) ?_
        refine .o1 (tg rfl rfl rfl (fun _ _ k => k.eq1 2 66 rfl) fun _ w hn k => ⟨_, v_move rfl (k.fx 5 h1933), rfl⟩) ?_
        refine .o1 (cg rfl rfl rfl (fun _ _ k => k.eq1 2 66 rfl) rfl (fun _ w hn k => ⟨#[iv (sgnN s)], args1 (k.eq1 3 67 rfl), fun _ => by kernel_rfl, dec_c _ _ (by omega) (by omega)⟩) fun _ => rfl) ?_
        refine .o1 (tg rfl rfl rfl (fun _ _ k => k.eq1 2 66 rfl) fun _ w hn k => ⟨_, v_move rfl (k.fx 0 h1934), rfl⟩) ?_
        refine .o1 (tg rfl rfl rfl (fun _ _ k => k.eq1 2 66 rfl) fun _ w hn k => ⟨_, v_bin rfl (k.eq1 4 68 rfl) (k.eq1 5 69 rfl) (fun _ => rfl) (r_neqS ht1945), rfl⟩) ?_
        refine .o1 (tk rfl rfl fun _ w hn k => ⟨_, v_pickF rfl (k.eq1 2 66 rfl) (k.eq1 6 70 rfl), rfl⟩) ?_
        exact .nil
      intro a1946 w1947 hn1948 ha1949
      have hs1950 := ha1949.size.trans hs1931
      have hd1951 := ha1949.defers.trans hd1932
      have h1952 := ha1949.fx 2 h1935
      have h1953 := ha1949.fx 3 h1936
      have h1954 := ha1949.fx 7 h1939
      have h1955 := ha1949.ge 7 71 rfl
      have hb1956 := hb1927.new_ hn1948
      have hb1957 := hb1922.new_ hn1948
      have hN1958 := hN1928.transNew hn1948
      clear hs1931 hd1932 h1933 h1934 h1935 h1936 h1939 hv1944 hb1927 hb1922 hN1928 ha1949 hn1948
      refine st_nil ?_
      refine hK1942 _ _ ?_
      clear hK1942 K1942
      refine wp_cond_false h1955 ?_
      refine wp_skip ?_
      refine hK1941 _ _ ?_
      clear hK1941 K1941
      refine wp_seq_k fun K1959 hK1959 => ?_
      refine wp_g0 [true, false, false] [(1, false), (2, true)] 74
        [ve (nv ((ofM (sgnN s)).1)),
         vt,
         vt] hs1950 (.eq (.tt (.tt (.nil)))) ?_ ?_
      · skip
        refine .o1 (tk rfl rfl fun _ w hn k => ⟨_, v_load rfl (k.fx 7 h1954) (l_two Tryd.isAgg23 Tryd.sizeOf23 (hb1957.new_ hn)), rfl⟩) ?_
        refine .off ?_
        refine .off ?_
        exact .nil
      intro a1960 w1961 hn1962 ha1963
      have hs1964 := ha1963.size.trans hs1950
      have hd1965 := ha1963.defers.trans hd1951
      have h1966 := ha1963.fx 2 h1952
      have h1967 := ha1963.fx 3 h1953
      have h1968 := ha1963.ge 0 73 rfl
      have hb1969 := hb1956.new_ hn1962
      have hN1970 := hN1958.transNew hn1962
      clear hs1950 hd1951 h1952 h1953 h1954 h1955 hb1956 hb1957 hq1918 hN1958 ha1963 hn1962
      obtain ⟨w1971, -, hst1972, hb1973, hu1974, hf1975⟩ := s_two (v0 := iv ((ofM (sgnN s)).1.k)) (v1 := iv ((ofM (sgnN s)).1.n)) Tryd.sizeOf23 rfl rfl rfl hb1969
      refine st_act rfl rfl fun K1976 hL1977 => a_store' rfl h1966 h1968 hst1972 (hL1977 _ _ trivial ?_)
      have hN1978 := hN1970.trans hu1974 (fun k hk hkb => by subst hkb; omega)
      clear hb1969 hst1972 K1976 hL1977 hN1970 hu1974 hf1975
      refine st_take rfl rfl (y_assign (v := .bool true) rfl rfl) rfl ?_
      obtain ⟨a1979, ha1980⟩ : ∃ a', a' = a1960.put (some 3) (.bool true) := ⟨_, rfl⟩
      have hs1981 : a1979.tmps.size = 74 := by rw [ha1980, put_size]; exact hs1964
      have hd1982 : a1979.defers = [] := by rw [ha1980, put_defers]; exact hd1965
      have h1983 : a1979.eval (.tmp 2) = pv q10 := by rw [ha1980, put_ne _ _ _ _ (by decide)]; exact h1966
      have h1984 : a1979.eval (.tmp 73) = nv ((ofM (sgnN s)).1) := by rw [ha1980, put_ne _ _ _ _ (by decide)]; exact h1968
      have h1985 : a1979.eval (.tmp 3) = .bool true := by rw [ha1980]; exact put_same _ _ _ (by rw [hs1964]; decide)
      show stepsTo _ _ _ _ _ (a1960.put (some 3) (.bool true)) _
      rw [← ha1980]
      clear ha1980 hs1964 hd1965 h1966 h1967 h1968
      refine st_nil ?_
      clear h1984
      refine hK1959 _ _ ?_
      clear hK1959 K1959
      refine wp_ret (ret_k hd1982 (v := .tuple #[nv ((ofM (sgnN s)).1), .bool true]) (res_ct rfl h1983 h1985 (l_two Tryd.isAgg23 Tryd.sizeOf23 hb1973)) ?_)
      refine ⟨?_, hN1978⟩
      show Ending.returned (.tuple #[nv ((ofM (sgnN s)).1), .bool true]) = Ending.returned (.tuple #[nv ((rParseM s).1), .bool ((rParseM s).2)])
      first | rfl | (simp [rParseM, ht67, ht201, ht339, ht497, ht1492, ht1696, ht1943, ht1945])
    have hsg2 := sgn_bd s
    refine wp_g0 [true, true, true, true, true, true, true, true] [] 74
      [ve (.bool true),
       ve (.bool false),
       ve (.bool false),
       ve (iv (sgnN s)),
       ve (.string (itoaS (sgnN s))),
       ve (.string s),
       ve (.bool true),
       ve (.bool true)] hs1931 (.eq (.eq (.eq (.eq (.eq (.eq (.eq (.eq (.nil))))))))) ?_ ?_
    · skip
      refine .o1 (tk rfl rfl fun _ w hn k => ⟨_, v_move rfl (k.fx 8 hv1944), rfl⟩) ?_
      refine .o1 (tk rfl rfl fun _ w hn k => ⟨_, v_not rfl (k.eq1 0 64 rfl), rfl⟩) ?_
      refine .o1 (tk rfl rfl fun _ w hn k => ⟨_, v_move rfl (k.eq1 1 65 rfl), rfl⟩) ?_
      refine .o1 (tg rfl rfl rfl (fun _ _ k => k.eq1 2 66 rfl) fun _ w hn k => ⟨_, v_move rfl (k.fx 5 h1933), rfl⟩) ?_
      refine .o1 (cg rfl rfl rfl (fun _ _ k => k.eq1 2 66 rfl) rfl (fun _ w hn k => ⟨#[iv (sgnN s)], args1 (k.eq1 3 67 rfl), fun _ => by kernel_rfl, dec_c _ _ (by omega) (by omega)⟩) fun _ => rfl) ?_
      refine .o1 (tg rfl rfl rfl (fun _ _ k => k.eq1 2 66 rfl) fun _ w hn k => ⟨_, v_move rfl (k.fx 0 h1934), rfl⟩) ?_
      refine .o1 (tg rfl rfl rfl (fun _ _ k => k.eq1 2 66 rfl) fun _ w hn k => ⟨_, v_bin rfl (k.eq1 4 68 rfl) (k.eq1 5 69 rfl) (fun _ => rfl) (r_neqS ht1945), rfl⟩) ?_
      refine .o1 (tk rfl rfl fun _ w hn k => ⟨_, v_pickF rfl (k.eq1 2 66 rfl) (k.eq1 6 70 rfl), rfl⟩) ?_
      exact .nil
    intro a1986 w1987 hn1988 ha1989
    have hs1990 := ha1989.size.trans hs1931
    have hd1991 := ha1989.defers.trans hd1932
    have h1992 := ha1989.fx 2 h1935
    have h1993 := ha1989.fx 3 h1936
    have h1994 := ha1989.fx 7 h1939
    have h1995 := ha1989.ge 7 71 rfl
    have hb1996 := hb1927.new_ hn1988
    have hb1997 := hb1922.new_ hn1988
    have hN1998 := hN1928.transNew hn1988
    clear hs1931 hd1932 h1933 h1934 h1935 h1936 h1939 hv1944 hb1927 hb1922 hN1928 ha1989 hn1988
    refine st_nil ?_
    refine hK1942 _ _ ?_
    clear hK1942 K1942
    refine wp_cond_true h1995 ?_
    refine wp_seq_k fun K1999 hK1999 => ?_
    refine wp_g0 [true, false, false] [(1, false), (2, true)] 74
      [ve (nv (Nm.mk 2 0)),
       vt,
       vt] hs1990 (.eq (.tt (.tt (.nil)))) ?_ ?_
    · skip
      refine .o1 (ck rfl rfl rfl (fun _ w hn k => ⟨#[], rfl, fun _ => by kernel_rfl, rNaN_c  _⟩) fun _ => rfl) ?_
      refine .off ?_
      refine .off ?_
      exact .nil
    intro a2000 w2001 hn2002 ha2003
    have hs2004 := ha2003.size.trans hs1990
    have hd2005 := ha2003.defers.trans hd1991
    have h2006 := ha2003.fx 2 h1992
    have h2007 := ha2003.fx 3 h1993
    have h2008 := ha2003.fx 7 h1994
    have h2009 := ha2003.ge 0 72 rfl
    have hb2010 := hb1996.new_ hn2002
    have hb2011 := hb1997.new_ hn2002
    have hN2012 := hN1998.transNew hn2002
    clear hs1990 hd1991 h1992 h1993 h1994 h1995 hb1996 hb1997 hN1998 ha2003 hn2002
    obtain ⟨w2013, -, hst2014, hb2015, hu2016, hf2017⟩ := s_two (v0 := iv 2) (v1 := iv 0) Tryd.sizeOf23 rfl rfl rfl hb2010
    refine st_act rfl rfl fun K2018 hL2019 => a_store' rfl h2006 h2009 hst2014 (hL2019 _ _ trivial ?_)
    have hb2020 := hf2017 _ _ _ (fun h => hne1917 h.symm) hb2011
    have hN2021 := hN2012.trans hu2016 (fun k hk hkb => by subst hkb; omega)
    clear hb2010 hst2014 K2018 hL2019 hN2012 hb2011 hu2016 hf2017
    refine st_take rfl rfl (y_assign (v := .bool false) rfl rfl) rfl ?_
    obtain ⟨a2022, ha2023⟩ : ∃ a', a' = a2000.put (some 3) (.bool false) := ⟨_, rfl⟩
    have hs2024 : a2022.tmps.size = 74 := by rw [ha2023, put_size]; exact hs2004
    have hd2025 : a2022.defers = [] := by rw [ha2023, put_defers]; exact hd2005
    have h2026 : a2022.eval (.tmp 2) = pv q10 := by rw [ha2023, put_ne _ _ _ _ (by decide)]; exact h2006
    have h2027 : a2022.eval (.tmp 7) = pv q1913 := by rw [ha2023, put_ne _ _ _ _ (by decide)]; exact h2008
    have h2028 : a2022.eval (.tmp 72) = nv (Nm.mk 2 0) := by rw [ha2023, put_ne _ _ _ _ (by decide)]; exact h2009
    have h2029 : a2022.eval (.tmp 3) = .bool false := by rw [ha2023]; exact put_same _ _ _ (by rw [hs2004]; decide)
    show stepsTo _ _ _ _ _ (a2000.put (some 3) (.bool false)) _
    rw [← ha2023]
    clear ha2023 hs2004 hd2005 h2006 h2007 h2008 h2009
    refine st_nil ?_
    clear h2028
    refine hK1999 _ _ ?_
    clear hK1999 K1999
    refine wp_ret (ret_k hd2025 (v := .tuple #[nv (Nm.mk 2 0), .bool false]) (res_ct rfl h2026 h2029 (l_two Tryd.isAgg23 Tryd.sizeOf23 hb2015)) ?_)
    refine ⟨?_, hN2021⟩
    show Ending.returned (.tuple #[nv (Nm.mk 2 0), .bool false]) = Ending.returned (.tuple #[nv ((rParseM s).1), .bool ((rParseM s).2)])
    first | rfl | (simp [rParseM, ht67, ht201, ht339, ht497, ht1492, ht1696, ht1943, ht1945])
  have hv2030 : a1929.eval (.tmp 8) = .bool false := h1940.trans (congrArg Value.bool ht1943)
  clear h1940
  have hsg2 := sgn_bd s
  refine wp_g0 [true, true, true, true, true, true, true, true] [] 74
    [ve (.bool false),
     ve (.bool true),
     ve (.bool true),
     ve undef,
     ve undef,
     ve undef,
     ve undef,
     ve (.bool true)] hs1931 (.eq (.eq (.eq (.eq (.eq (.eq (.eq (.eq (.nil))))))))) ?_ ?_
  · skip
    refine .o1 (tk rfl rfl fun _ w hn k => ⟨_, v_move rfl (k.fx 8 hv2030), rfl⟩) ?_
    refine .o1 (tk rfl rfl fun _ w hn k => ⟨_, v_not rfl (k.eq1 0 64 rfl), rfl⟩) ?_
    refine .o1 (tk rfl rfl fun _ w hn k => ⟨_, v_move rfl (k.eq1 1 65 rfl), rfl⟩) ?_
    refine .o1 (sk rfl rfl rfl (fun _ _ _ k => k.eq1 2 66 rfl) (fun _ => rfl)) ?_
    refine .o1 (sk rfl rfl rfl (fun _ _ _ k => k.eq1 2 66 rfl) (fun _ => rfl)) ?_
    refine .o1 (sk rfl rfl rfl (fun _ _ _ k => k.eq1 2 66 rfl) (fun _ => rfl)) ?_
    refine .o1 (sk rfl rfl rfl (fun _ _ _ k => k.eq1 2 66 rfl) (fun _ => rfl)) ?_
    refine .o1 (tk rfl rfl fun _ w hn k => ⟨_, v_pickT rfl (k.eq1 2 66 rfl) rfl, rfl⟩) ?_
    exact .nil
  intro a2031 w2032 hn2033 ha2034
  have hs2035 := ha2034.size.trans hs1931
  have hd2036 := ha2034.defers.trans hd1932
  have h2037 := ha2034.fx 2 h1935
  have h2038 := ha2034.fx 3 h1936
  have h2039 := ha2034.fx 7 h1939
  have h2040 := ha2034.ge 7 71 rfl
  have hb2041 := hb1927.new_ hn2033
  have hb2042 := hb1922.new_ hn2033
  have hN2043 := hN1928.transNew hn2033
  clear hs1931 hd1932 h1933 h1934 h1935 h1936 h1939 hv2030 hb1927 hb1922 hN1928 ha2034 hn2033
  refine st_nil ?_
  refine hK1942 _ _ ?_
  clear hK1942 K1942
  refine wp_cond_true h2040 ?_
  refine wp_seq_k fun K2044 hK2044 => ?_
  refine wp_g0 [true, false, false] [(1, false), (2, true)] 74
    [ve (nv (Nm.mk 2 0)),
     vt,
     vt] hs2035 (.eq (.tt (.tt (.nil)))) ?_ ?_
  · skip
    refine .o1 (ck rfl rfl rfl (fun _ w hn k => ⟨#[], rfl, fun _ => by kernel_rfl, rNaN_c  _⟩) fun _ => rfl) ?_
    refine .off ?_
    refine .off ?_
    exact .nil
  intro a2045 w2046 hn2047 ha2048
  have hs2049 := ha2048.size.trans hs2035
  have hd2050 := ha2048.defers.trans hd2036
  have h2051 := ha2048.fx 2 h2037
  have h2052 := ha2048.fx 3 h2038
  have h2053 := ha2048.fx 7 h2039
  have h2054 := ha2048.ge 0 72 rfl
  have hb2055 := hb2041.new_ hn2047
  have hb2056 := hb2042.new_ hn2047
  have hN2057 := hN2043.transNew hn2047
  clear hs2035 hd2036 h2037 h2038 h2039 h2040 hb2041 hb2042 hN2043 ha2048 hn2047
  obtain ⟨w2058, -, hst2059, hb2060, hu2061, hf2062⟩ := s_two (v0 := iv 2) (v1 := iv 0) Tryd.sizeOf23 rfl rfl rfl hb2055
  refine st_act rfl rfl fun K2063 hL2064 => a_store' rfl h2051 h2054 hst2059 (hL2064 _ _ trivial ?_)
  have hb2065 := hf2062 _ _ _ (fun h => hne1917 h.symm) hb2056
  have hN2066 := hN2057.trans hu2061 (fun k hk hkb => by subst hkb; omega)
  clear hb2055 hst2059 K2063 hL2064 hN2057 hb2056 hu2061 hf2062
  refine st_take rfl rfl (y_assign (v := .bool false) rfl rfl) rfl ?_
  obtain ⟨a2067, ha2068⟩ : ∃ a', a' = a2045.put (some 3) (.bool false) := ⟨_, rfl⟩
  have hs2069 : a2067.tmps.size = 74 := by rw [ha2068, put_size]; exact hs2049
  have hd2070 : a2067.defers = [] := by rw [ha2068, put_defers]; exact hd2050
  have h2071 : a2067.eval (.tmp 2) = pv q10 := by rw [ha2068, put_ne _ _ _ _ (by decide)]; exact h2051
  have h2072 : a2067.eval (.tmp 7) = pv q1913 := by rw [ha2068, put_ne _ _ _ _ (by decide)]; exact h2053
  have h2073 : a2067.eval (.tmp 72) = nv (Nm.mk 2 0) := by rw [ha2068, put_ne _ _ _ _ (by decide)]; exact h2054
  have h2074 : a2067.eval (.tmp 3) = .bool false := by rw [ha2068]; exact put_same _ _ _ (by rw [hs2049]; decide)
  show stepsTo _ _ _ _ _ (a2045.put (some 3) (.bool false)) _
  rw [← ha2068]
  clear ha2068 hs2049 hd2050 h2051 h2052 h2053 h2054
  refine st_nil ?_
  clear h2073
  refine hK2044 _ _ ?_
  clear hK2044 K2044
  refine wp_ret (ret_k hd2070 (v := .tuple #[nv (Nm.mk 2 0), .bool false]) (res_ct rfl h2071 h2074 (l_two Tryd.isAgg23 Tryd.sizeOf23 hb2060)) ?_)
  refine ⟨?_, hN2066⟩
  show Ending.returned (.tuple #[nv (Nm.mk 2 0), .bool false]) = Ending.returned (.tuple #[nv ((rParseM s).1), .bool ((rParseM s).2)])
  first | rfl | (simp [rParseM, ht67, ht201, ht339, ht497, ht1492, ht1696, ht1943])
end Go.Proofs.YtldakajmhfdfgaaDoor
