/- Package num: a number's text, read back. -/
import Derived.Test.YtldakajmhfdfgaaDoorNumC
import Derived.Test.YtldakajmhfdfgaaDoorNumMath11
import Derived.Lib.SmallJoins
import Derived.Lib.AppendIntMem
import Derived.Lib.ItoaLen
import Derived.LaidSub
import Derived.MakeChecks
namespace Go.Proofs.YtldakajmhfdfgaaDoor
open Go.RowKit
set_option linter.unusedSimpArgs false
set_option linter.unusedVariables false
set_option maxHeartbeats 4000000 in
set_option maxRecDepth 100000 in
theorem parse2_c (s : ByteArray) (w : World) (v : Int)
    (HA : strEq s ⟨#[78, 97, 78]⟩ = false → strEq s ⟨#[73, 110, 102, 105, 110, 105, 116, 121]⟩ = false → strEq s ⟨#[45, 73, 110, 102, 105, 110, 105, 116, 121]⟩ = false → ∀ w', New w w' → Calls Tryd.prog 57 #[.string s] w' (IsRet (.tuple #[.int .i64 v, .nilIface]) w')) (HI : ∀ w', New w w' → Calls Tryd.prog 58 #[.int .i64 v] w' (IsRet (.string (itoaS v)) w')) : Calls Tryd.prog 16 #[.string s] w (IsRet (.tuple #[nv ((parseOkM s v).1), .bool ((parseOkM s v).2)]) w) := by
  refine enter_abs Tryd.func16 rfl fun a0 hs0 hd0 hp => ?_
  have hs0 : a0.tmps.size = 34 := hs0
  have hN0 : New w w := Upd.refl _ _
  have hp0 : a0.eval (.tmp 0) = .string s := hp 0 _ rfl
  clear hp
  refine wp_seq_k fun K hK => ?_
  refine wp_g [true, true] [] [] 34
    [IsNew w 23 [iv 0, iv 0],
     ve (.bool false)]
    [0] (newsCons (fun v w h => IsNew.old h) newsNil) hs0 (.nw (.eq (.nil))) ?_ (fun i h => by cases h) ?_
  · skip
    refine .o2 (step_allocN (cs := [iv 0, iv 0]) (t := 23) rfl (noG rfl) (fun _ w hn k => rfl) (fun q _ hq hb => ⟨q, rfl, hq, hb⟩)) ?_
    refine .o1 (tk rfl rfl fun _ w hn k => ⟨_, v_assign rfl rfl, rfl⟩) ?_
    exact .nil
  intro a1 w2 hn3 ha4
  have hs5 := ha4.size.trans hs0
  have hd6 := ha4.defers.trans hd0
  have h7 := ha4.fx 0 hp0
  obtain ⟨q9, h8, hq10, hb11⟩ : IsNew _ _ _ _ _ := ha4.got 0 2 rfl (by kernel_rfl)
  have h12 := ha4.ge 1 3 rfl
  have hq13 := Nat.le_trans hN0.size hq10
  have hN14 := hN0.transNew hn3
  clear hs0 hd0 hp0 hq10 hN0 ha4 hn3
  refine st_nil ?_
  refine hK _ _ ?_
  clear hK K
  refine wp_seq_k fun K hK => ?_
  refine wp_seq_k fun K hK => ?_
  refine wp_g0 [true] [] 34
    [ve (.string s)] hs5 (.eq (.nil)) ?_ ?_
  · skip
    refine .o1 (tk rfl rfl fun _ w hn k => ⟨_, v_move rfl (k.fx 0 h7), rfl⟩) ?_
    exact .nil
  intro a15 w16 hn17 ha18
  have hs19 := ha18.size.trans hs5
  have hd20 := ha18.defers.trans hd6
  have h21 := ha18.fx 0 h7
  have h22 := ha18.fx 2 h8
  have h23 := ha18.fx 3 h12
  have h24 := ha18.ge 0 6 rfl
  have hb25 := hb11.new_ hn17
  have hN26 := hN14.transNew hn17
  clear hs5 hd6 h7 h8 h12 hb11 hN14 ha18 hn17
  refine st_nil ?_
  refine hK _ _ ?_
  clear hK K
  refine wp_block ?_
  refine wp_seq_k fun K hK => ?_
  refine wp_g0 [true, true] [] 34
    [ve (.bool (strEq s ⟨#[78, 97, 78]⟩)),
     ve (.bool (strEq s ⟨#[78, 97, 78]⟩))] hs19 (.eq (.eq (.nil))) ?_ ?_
  · skip
    refine .o1 (tk rfl rfl fun _ w hn k => ⟨_, v_bin rfl (k.fx 6 h24) rfl (fun _ => rfl) (r_eqlS rfl), rfl⟩) ?_
    refine .o1 (tk rfl rfl fun _ w hn k => ⟨_, v_assign rfl (k.eq1 0 8 rfl), rfl⟩) ?_
    exact .nil
  intro a27 w28 hn29 ha30
  have hs31 := ha30.size.trans hs19
  have hd32 := ha30.defers.trans hd20
  have h33 := ha30.fx 0 h21
  have h34 := ha30.fx 2 h22
  have h35 := ha30.fx 3 h23
  have h36 := ha30.fx 6 h24
  have h37 := ha30.ge 1 7 rfl
  have hb38 := hb25.new_ hn29
  have hN39 := hN26.transNew hn29
  clear hs19 hd20 h21 h22 h23 h24 hb25 hN26 ha30 hn29
  refine st_nil ?_
  refine hK _ _ ?_
  clear hK K
  rcases Bool.eq_false_or_eq_true (strEq s ⟨#[78, 97, 78]⟩) with ht40 | ht40
  · skip
    have hv41 : a27.eval (.tmp 7) = .bool true := h37.trans (congrArg Value.bool ht40)
    clear h37
    refine wp_cond_true hv41 ?_
    refine wp_seq_k fun K hK => ?_
    refine wp_g0 [true, false, false] [(1, false), (2, true)] 34
      [ve (nv (Nm.mk 2 0)),
       vt,
       vt] hs31 (.eq (.tt (.tt (.nil)))) ?_ ?_
    · skip
      refine .o1 (ck rfl rfl rfl (fun _ w hn k => ⟨#[], rfl, fun _ => by kernel_rfl, nan_c  _⟩) fun _ => rfl) ?_
      refine .off ?_
      refine .off ?_
      exact .nil
    intro a42 w43 hn44 ha45
    have hs46 := ha45.size.trans hs31
    have hd47 := ha45.defers.trans hd32
    have h48 := ha45.fx 0 h33
    have h49 := ha45.fx 2 h34
    have h50 := ha45.fx 3 h35
    have h51 := ha45.ge 0 9 rfl
    have hb52 := hb38.new_ hn44
    have hN53 := hN39.transNew hn44
    clear hs31 hd32 h33 h34 h35 h36 hv41 hb38 hN39 ha45 hn44
    obtain ⟨w54, -, hst55, hb56, hu57, hf58⟩ := s_two (v0 := iv 2) (v1 := iv 0) Tryd.sizeOf23 rfl rfl rfl hb52
    refine st_act rfl rfl fun K59 hL60 => a_store' rfl h49 h51 hst55 (hL60 _ _ trivial ?_)
    have hN61 := hN53.trans hu57 (fun k hk hkb => by subst hkb; omega)
    clear hb52 hst55 K59 hL60 hN53 hu57 hf58
    refine st_take rfl rfl (y_assign (v := .bool true) rfl rfl) rfl ?_
    obtain ⟨a62, ha63⟩ : ∃ a', a' = a42.put (some 3) (.bool true) := ⟨_, rfl⟩
    have hs64 : a62.tmps.size = 34 := by rw [ha63, put_size]; exact hs46
    have hd65 : a62.defers = [] := by rw [ha63, put_defers]; exact hd47
    have h66 : a62.eval (.tmp 0) = .string s := by rw [ha63, put_ne _ _ _ _ (by decide)]; exact h48
    have h67 : a62.eval (.tmp 2) = pv q9 := by rw [ha63, put_ne _ _ _ _ (by decide)]; exact h49
    have h68 : a62.eval (.tmp 9) = nv (Nm.mk 2 0) := by rw [ha63, put_ne _ _ _ _ (by decide)]; exact h51
    have h69 : a62.eval (.tmp 3) = .bool true := by rw [ha63]; exact put_same _ _ _ (by rw [hs46]; decide)
    show stepsTo _ _ _ _ _ (a42.put (some 3) (.bool true)) _
    rw [← ha63]
    clear ha63 hs46 hd47 h48 h49 h50 h51
    refine st_nil ?_
    clear h68
    refine hK _ _ ?_
    clear hK K
    refine wp_ret (ret_k hd65 (v := .tuple #[nv (Nm.mk 2 0), .bool true]) (res_ct rfl h67 h69 (l_two Tryd.isAgg23 Tryd.sizeOf23 hb56)) ?_)
    refine ⟨?_, hN61⟩
    show Ending.returned (.tuple #[nv (Nm.mk 2 0), .bool true]) = Ending.returned (.tuple #[nv ((parseOkM s v).1), .bool ((parseOkM s v).2)])
    first | rfl | (simp [parseOkM, infM, ht40])
  have hv70 : a27.eval (.tmp 7) = .bool false := h37.trans (congrArg Value.bool ht40)
  clear h37
  refine wp_cond_false hv70 ?_
  refine wp_seq_k fun K hK => ?_
  refine wp_g0 [true, true] [] 34
    [ve (.bool (strEq s ⟨#[73, 110, 102, 105, 110, 105, 116, 121]⟩)),
     ve (.bool (strEq s ⟨#[73, 110, 102, 105, 110, 105, 116, 121]⟩))] hs31 (.eq (.eq (.nil))) ?_ ?_
  · skip
    refine .o1 (tk rfl rfl fun _ w hn k => ⟨_, v_bin rfl (k.fx 6 h36) rfl (fun _ => rfl) (r_eqlS rfl), rfl⟩) ?_
    refine .o1 (tk rfl rfl fun _ w hn k => ⟨_, v_assign rfl (k.eq1 0 11 rfl), rfl⟩) ?_
    exact .nil
  intro a71 w72 hn73 ha74
  have hs75 := ha74.size.trans hs31
  have hd76 := ha74.defers.trans hd32
  have h77 := ha74.fx 0 h33
  have h78 := ha74.fx 2 h34
  have h79 := ha74.fx 3 h35
  have h80 := ha74.fx 6 h36
  have h81 := ha74.ge 1 10 rfl
  have hb82 := hb38.new_ hn73
  have hN83 := hN39.transNew hn73
  clear hs31 hd32 h33 h34 h35 h36 hv70 hb38 hN39 ha74 hn73
  refine st_nil ?_
  refine hK _ _ ?_
  clear hK K
  rcases Bool.eq_false_or_eq_true (strEq s ⟨#[73, 110, 102, 105, 110, 105, 116, 121]⟩) with ht84 | ht84
  · skip
    have hv85 : a71.eval (.tmp 10) = .bool true := h81.trans (congrArg Value.bool ht84)
    clear h81
    refine wp_cond_true hv85 ?_
    refine wp_seq_k fun K hK => ?_
    refine wp_g0 [true, false, false] [(1, false), (2, true)] 34
      [ve (nv (Nm.mk 3 0)),
       vt,
       vt] hs75 (.eq (.tt (.tt (.nil)))) ?_ ?_
    · skip
      refine .o1 (ck rfl rfl rfl (fun _ w hn k => ⟨#[.bool false], args1 rfl, fun _ => by kernel_rfl, inf_c false _⟩) fun _ => rfl) ?_
      refine .off ?_
      refine .off ?_
      exact .nil
    intro a86 w87 hn88 ha89
    have hs90 := ha89.size.trans hs75
    have hd91 := ha89.defers.trans hd76
    have h92 := ha89.fx 0 h77
    have h93 := ha89.fx 2 h78
    have h94 := ha89.fx 3 h79
    have h95 := ha89.ge 0 12 rfl
    have hb96 := hb82.new_ hn88
    have hN97 := hN83.transNew hn88
    clear hs75 hd76 h77 h78 h79 h80 hv85 hb82 hN83 ha89 hn88
    obtain ⟨w98, -, hst99, hb100, hu101, hf102⟩ := s_two (v0 := iv 3) (v1 := iv 0) Tryd.sizeOf23 rfl rfl rfl hb96
    refine st_act rfl rfl fun K103 hL104 => a_store' rfl h93 h95 hst99 (hL104 _ _ trivial ?_)
    have hN105 := hN97.trans hu101 (fun k hk hkb => by subst hkb; omega)
    clear hb96 hst99 K103 hL104 hN97 hu101 hf102
    refine st_take rfl rfl (y_assign (v := .bool true) rfl rfl) rfl ?_
    obtain ⟨a106, ha107⟩ : ∃ a', a' = a86.put (some 3) (.bool true) := ⟨_, rfl⟩
    have hs108 : a106.tmps.size = 34 := by rw [ha107, put_size]; exact hs90
    have hd109 : a106.defers = [] := by rw [ha107, put_defers]; exact hd91
    have h110 : a106.eval (.tmp 0) = .string s := by rw [ha107, put_ne _ _ _ _ (by decide)]; exact h92
    have h111 : a106.eval (.tmp 2) = pv q9 := by rw [ha107, put_ne _ _ _ _ (by decide)]; exact h93
    have h112 : a106.eval (.tmp 12) = nv (Nm.mk 3 0) := by rw [ha107, put_ne _ _ _ _ (by decide)]; exact h95
    have h113 : a106.eval (.tmp 3) = .bool true := by rw [ha107]; exact put_same _ _ _ (by rw [hs90]; decide)
    show stepsTo _ _ _ _ _ (a86.put (some 3) (.bool true)) _
    rw [← ha107]
    clear ha107 hs90 hd91 h92 h93 h94 h95
    refine st_nil ?_
    clear h112
    refine hK _ _ ?_
    clear hK K
    refine wp_ret (ret_k hd109 (v := .tuple #[nv (Nm.mk 3 0), .bool true]) (res_ct rfl h111 h113 (l_two Tryd.isAgg23 Tryd.sizeOf23 hb100)) ?_)
    refine ⟨?_, hN105⟩
    show Ending.returned (.tuple #[nv (Nm.mk 3 0), .bool true]) = Ending.returned (.tuple #[nv ((parseOkM s v).1), .bool ((parseOkM s v).2)])
    first | rfl | (simp [parseOkM, infM, ht40, ht84])
  have hv114 : a71.eval (.tmp 10) = .bool false := h81.trans (congrArg Value.bool ht84)
  clear h81
  refine wp_cond_false hv114 ?_
  refine wp_seq_k fun K hK => ?_
  refine wp_g0 [true, true] [] 34
    [ve (.bool (strEq s ⟨#[45, 73, 110, 102, 105, 110, 105, 116, 121]⟩)),
     ve (.bool (strEq s ⟨#[45, 73, 110, 102, 105, 110, 105, 116, 121]⟩))] hs75 (.eq (.eq (.nil))) ?_ ?_
  · skip
    refine .o1 (tk rfl rfl fun _ w hn k => ⟨_, v_bin rfl (k.fx 6 h80) rfl (fun _ => rfl) (r_eqlS rfl), rfl⟩) ?_
    refine .o1 (tk rfl rfl fun _ w hn k => ⟨_, v_assign rfl (k.eq1 0 14 rfl), rfl⟩) ?_
    exact .nil
  intro a115 w116 hn117 ha118
  have hs119 := ha118.size.trans hs75
  have hd120 := ha118.defers.trans hd76
  have h121 := ha118.fx 0 h77
  have h122 := ha118.fx 2 h78
  have h123 := ha118.fx 3 h79
  have h124 := ha118.ge 1 13 rfl
  have hb125 := hb82.new_ hn117
  have hN126 := hN83.transNew hn117
  clear hs75 hd76 h77 h78 h79 h80 hv114 hb82 hN83 ha118 hn117
  refine st_nil ?_
  refine hK _ _ ?_
  clear hK K
  rcases Bool.eq_false_or_eq_true (strEq s ⟨#[45, 73, 110, 102, 105, 110, 105, 116, 121]⟩) with ht127 | ht127
  · skip
    have hv128 : a115.eval (.tmp 13) = .bool true := h124.trans (congrArg Value.bool ht127)
    clear h124
    refine wp_cond_true hv128 ?_
    refine wp_seq_k fun K hK => ?_
    refine wp_g0 [true, false, false] [(1, false), (2, true)] 34
      [ve (nv (Nm.mk 4 0)),
       vt,
       vt] hs119 (.eq (.tt (.tt (.nil)))) ?_ ?_
    · skip
      refine .o1 (ck rfl rfl rfl (fun _ w hn k => ⟨#[.bool true], args1 rfl, fun _ => by kernel_rfl, inf_c true _⟩) fun _ => rfl) ?_
      refine .off ?_
      refine .off ?_
      exact .nil
    intro a129 w130 hn131 ha132
    have hs133 := ha132.size.trans hs119
    have hd134 := ha132.defers.trans hd120
    have h135 := ha132.fx 0 h121
    have h136 := ha132.fx 2 h122
    have h137 := ha132.fx 3 h123
    have h138 := ha132.ge 0 15 rfl
    have hb139 := hb125.new_ hn131
    have hN140 := hN126.transNew hn131
    clear hs119 hd120 h121 h122 h123 hv128 hb125 hN126 ha132 hn131
    obtain ⟨w141, -, hst142, hb143, hu144, hf145⟩ := s_two (v0 := iv 4) (v1 := iv 0) Tryd.sizeOf23 rfl rfl rfl hb139
    refine st_act rfl rfl fun K146 hL147 => a_store' rfl h136 h138 hst142 (hL147 _ _ trivial ?_)
    have hN148 := hN140.trans hu144 (fun k hk hkb => by subst hkb; omega)
    clear hb139 hst142 K146 hL147 hN140 hu144 hf145
    refine st_take rfl rfl (y_assign (v := .bool true) rfl rfl) rfl ?_
    obtain ⟨a149, ha150⟩ : ∃ a', a' = a129.put (some 3) (.bool true) := ⟨_, rfl⟩
    have hs151 : a149.tmps.size = 34 := by rw [ha150, put_size]; exact hs133
    have hd152 : a149.defers = [] := by rw [ha150, put_defers]; exact hd134
    have h153 : a149.eval (.tmp 0) = .string s := by rw [ha150, put_ne _ _ _ _ (by decide)]; exact h135
    have h154 : a149.eval (.tmp 2) = pv q9 := by rw [ha150, put_ne _ _ _ _ (by decide)]; exact h136
    have h155 : a149.eval (.tmp 15) = nv (Nm.mk 4 0) := by rw [ha150, put_ne _ _ _ _ (by decide)]; exact h138
    have h156 : a149.eval (.tmp 3) = .bool true := by rw [ha150]; exact put_same _ _ _ (by rw [hs133]; decide)
    show stepsTo _ _ _ _ _ (a129.put (some 3) (.bool true)) _
    rw [← ha150]
    clear ha150 hs133 hd134 h135 h136 h137 h138
    refine st_nil ?_
    clear h155
    refine hK _ _ ?_
    clear hK K
    refine wp_ret (ret_k hd152 (v := .tuple #[nv (Nm.mk 4 0), .bool true]) (res_ct rfl h154 h156 (l_two Tryd.isAgg23 Tryd.sizeOf23 hb143)) ?_)
    refine ⟨?_, hN148⟩
    show Ending.returned (.tuple #[nv (Nm.mk 4 0), .bool true]) = Ending.returned (.tuple #[nv ((parseOkM s v).1), .bool ((parseOkM s v).2)])
    first | rfl | (simp [parseOkM, infM, ht40, ht84, ht127])
  have hv157 : a115.eval (.tmp 13) = .bool false := h124.trans (congrArg Value.bool ht127)
  clear h124
  refine wp_cond_false hv157 ?_
  refine wp_skip ?_
  refine hK _ _ ?_
  clear hK K
  refine wp_seq_k fun K hK => ?_
  refine wp_g0 [true, true, true, true, true, true, true] [] 34
    [ve (.string s),
     ve (.tuple #[iv v, .nilIface]),
     ve (.tuple #[iv v, .nilIface]),
     ve (iv v),
     ve (.nilIface),
     ve (iv v),
     ve (.nilIface)] hs119 (.eq (.eq (.eq (.eq (.eq (.eq (.eq (.nil)))))))) ?_ ?_
  · skip
    refine .o1 (tk rfl rfl fun _ w hn k => ⟨_, v_move rfl (k.fx 0 h121), rfl⟩) ?_
    refine .o1 (ck rfl rfl rfl (fun _ w hn k => ⟨#[.string s], args1 (k.eq1 0 17 rfl), fun _ => by kernel_rfl, HA ht40 ht84 ht127 _ (hN126.transNew hn)⟩) fun _ => rfl) ?_
    refine .o1 (tk rfl rfl fun _ w hn k => ⟨_, v_move rfl (k.eq1 1 18 rfl), rfl⟩) ?_
    refine .o1 (tk rfl rfl fun _ w hn k => ⟨_, v_extract rfl (k.eq1 2 16 rfl) rfl, rfl⟩) ?_
    refine .o1 (tk rfl rfl fun _ w hn k => ⟨_, v_extract rfl (k.eq1 2 16 rfl) rfl, rfl⟩) ?_
    refine .o1 (tk rfl rfl fun _ w hn k => ⟨_, v_assign rfl (k.eq1 3 19 rfl), rfl⟩) ?_
    refine .o1 (tk rfl rfl fun _ w hn k => ⟨_, v_assign rfl (k.eq1 4 20 rfl), rfl⟩) ?_
    exact .nil
  intro a158 w159 hn160 ha161
  have hs162 := ha161.size.trans hs119
  have hd163 := ha161.defers.trans hd120
  have h164 := ha161.fx 0 h121
  have h165 := ha161.fx 2 h122
  have h166 := ha161.fx 3 h123
  have h167 := ha161.ge 5 4 rfl
  have h168 := ha161.ge 6 5 rfl
  have hb169 := hb125.new_ hn160
  have hN170 := hN126.transNew hn160
  clear hs119 hd120 h121 h122 h123 hv157 hb125 hN126 ha161 hn160
  refine st_nil ?_
  refine hK _ _ ?_
  clear hK K
  refine wp_seq_k fun K hK => ?_
  refine wp_seq_k fun K hK => ?_
  rcases Bool.eq_false_or_eq_true (strEq (itoaS v) s) with ht171 | ht171
  · skip
    refine wp_g0 [true, true, true, true, true, true, true, true] [] 34
      [ve (.nilIface),
       ve (.bool false),
       ve (.bool false),
       ve (iv v),
       ve (.string (itoaS v)),
       ve (.string s),
       ve (.bool false),
       ve (.bool false)] hs162 (.eq (.eq (.eq (.eq (.eq (.eq (.eq (.eq (.nil))))))))) ?_ ?_
    · skip
      refine .o1 (tk rfl rfl fun _ w hn k => ⟨_, v_move rfl (k.fx 5 h168), rfl⟩) ?_
      refine .o1 (tk rfl rfl fun _ w hn k => ⟨_, v_bin rfl (k.eq1 0 21 rfl) rfl (fun _ => rfl) (fun w => by kernel_rfl), rfl⟩) ?_
      refine .o1 (tk rfl rfl fun _ w hn k => ⟨_, v_move rfl (k.eq1 1 22 rfl), rfl⟩) ?_
      refine .o1 (tg rfl rfl rfl (fun _ _ k => k.eq1 2 23 rfl) fun _ w hn k => ⟨_, v_move rfl (k.fx 4 h167), rfl⟩) ?_
      refine .o1 (cg rfl rfl rfl (fun _ _ k => k.eq1 2 23 rfl) rfl (fun _ w hn k => ⟨#[iv v], args1 (k.eq1 3 24 rfl), fun _ => by kernel_rfl, HI _ (hN170.transNew hn)⟩) fun _ => rfl) ?_
      refine .o1 (tg rfl rfl rfl (fun _ _ k => k.eq1 2 23 rfl) fun _ w hn k => ⟨_, v_move rfl (k.fx 0 h164), rfl⟩) ?_
      refine .o1 (tg rfl rfl rfl (fun _ _ k => k.eq1 2 23 rfl) fun _ w hn k => ⟨_, v_bin rfl (k.eq1 4 25 rfl) (k.eq1 5 26 rfl) (fun _ => rfl) (r_neqS ht171), rfl⟩) ?_
      refine .o1 (tk rfl rfl fun _ w hn k => ⟨_, v_pickF rfl (k.eq1 2 23 rfl) (k.eq1 6 27 rfl), rfl⟩) ?_
      exact .nil
    intro a172 w173 hn174 ha175
    have hs176 := ha175.size.trans hs162
    have hd177 := ha175.defers.trans hd163
    have h178 := ha175.fx 2 h165
    have h179 := ha175.fx 3 h166
    have h180 := ha175.fx 4 h167
    have h181 := ha175.ge 7 28 rfl
    have hb182 := hb169.new_ hn174
    have hN183 := hN170.transNew hn174
    clear hs162 hd163 h164 h165 h166 h167 h168 hb169 hN170 ha175 hn174
    refine st_nil ?_
    refine hK _ _ ?_
    clear hK K
    refine wp_cond_false h181 ?_
    refine wp_skip ?_
    refine hK _ _ ?_
    clear hK K
    refine wp_seq_k fun K hK => ?_
    refine wp_g0 [true, true, true, true, false, false] [(4, false), (5, true)] 34
      [ve (iv v),
       ve (.tuple #[nv ((ofM v).1), .bool ((ofM v).2)]),
       ve (nv ((ofM v).1)),
       ve (.bool ((ofM v).2)),
       vt,
       vt] hs176 (.eq (.eq (.eq (.eq (.tt (.tt (.nil))))))) ?_ ?_
    · skip
      refine .o1 (tk rfl rfl fun _ w hn k => ⟨_, v_move rfl (k.fx 4 h180), rfl⟩) ?_
      refine .o1 (ck rfl rfl rfl (fun _ w hn k => ⟨#[iv v], args1 (k.eq1 0 30 rfl), fun _ => by kernel_rfl, of_c v _⟩) fun _ => rfl) ?_
      refine .o1 (tk rfl rfl fun _ w hn k => ⟨_, v_extract rfl (k.eq1 1 31 rfl) rfl, rfl⟩) ?_
      refine .o1 (tk rfl rfl fun _ w hn k => ⟨_, v_extract rfl (k.eq1 1 31 rfl) rfl, rfl⟩) ?_
      refine .off ?_
      refine .off ?_
      exact .nil
    intro a184 w185 hn186 ha187
    have hs188 := ha187.size.trans hs176
    have hd189 := ha187.defers.trans hd177
    have h190 := ha187.fx 2 h178
    have h191 := ha187.fx 3 h179
    have h192 := ha187.ge 2 32 rfl
    have h193 := ha187.ge 3 33 rfl
    have hb194 := hb182.new_ hn186
    have hN195 := hN183.transNew hn186
    clear hs176 hd177 h178 h179 h180 h181 hb182 hN183 ha187 hn186
    obtain ⟨w196, -, hst197, hb198, hu199, hf200⟩ := s_two (v0 := iv ((ofM v).1.k)) (v1 := iv ((ofM v).1.n)) Tryd.sizeOf23 rfl rfl rfl hb194
    refine st_act rfl rfl fun K201 hL202 => a_store' rfl h190 h192 hst197 (hL202 _ _ trivial ?_)
    have hN203 := hN195.trans hu199 (fun k hk hkb => by subst hkb; omega)
    clear hb194 hst197 K201 hL202 hN195 hu199 hf200
    refine st_take rfl rfl (y_assign (v := .bool ((ofM v).2)) rfl h193) rfl ?_
    obtain ⟨a204, ha205⟩ : ∃ a', a' = a184.put (some 3) (.bool ((ofM v).2)) := ⟨_, rfl⟩
    have hs206 : a204.tmps.size = 34 := by rw [ha205, put_size]; exact hs188
    have hd207 : a204.defers = [] := by rw [ha205, put_defers]; exact hd189
    have h208 : a204.eval (.tmp 2) = pv q9 := by rw [ha205, put_ne _ _ _ _ (by decide)]; exact h190
    have h209 : a204.eval (.tmp 32) = nv ((ofM v).1) := by rw [ha205, put_ne _ _ _ _ (by decide)]; exact h192
    have h210 : a204.eval (.tmp 33) = .bool ((ofM v).2) := by rw [ha205, put_ne _ _ _ _ (by decide)]; exact h193
    have h211 : a204.eval (.tmp 3) = .bool ((ofM v).2) := by rw [ha205]; exact put_same _ _ _ (by rw [hs188]; decide)
    show stepsTo _ _ _ _ _ (a184.put (some 3) (.bool ((ofM v).2))) _
    rw [← ha205]
    clear ha205 hs188 hd189 h190 h191 h192 h193
    refine st_nil ?_
    clear h209 h210
    refine hK _ _ ?_
    clear hK K
    refine wp_ret (ret_k hd207 (v := .tuple #[nv ((ofM v).1), .bool ((ofM v).2)]) (res_ct rfl h208 h211 (l_two Tryd.isAgg23 Tryd.sizeOf23 hb198)) ?_)
    refine ⟨?_, hN203⟩
    show Ending.returned (.tuple #[nv ((ofM v).1), .bool ((ofM v).2)]) = Ending.returned (.tuple #[nv ((parseOkM s v).1), .bool ((parseOkM s v).2)])
    first | rfl | (simp [parseOkM, infM, ht40, ht84, ht127, ht171])
  refine wp_g0 [true, true, true, true, true, true, true, true] [] 34
    [ve (.nilIface),
     ve (.bool false),
     ve (.bool false),
     ve (iv v),
     ve (.string (itoaS v)),
     ve (.string s),
     ve (.bool true),
     ve (.bool true)] hs162 (.eq (.eq (.eq (.eq (.eq (.eq (.eq (.eq (.nil))))))))) ?_ ?_
  · skip
    refine .o1 (tk rfl rfl fun _ w hn k => ⟨_, v_move rfl (k.fx 5 h168), rfl⟩) ?_
    refine .o1 (tk rfl rfl fun _ w hn k => ⟨_, v_bin rfl (k.eq1 0 21 rfl) rfl (fun _ => rfl) (fun w => by kernel_rfl), rfl⟩) ?_
    refine .o1 (tk rfl rfl fun _ w hn k => ⟨_, v_move rfl (k.eq1 1 22 rfl), rfl⟩) ?_
    refine .o1 (tg rfl rfl rfl (fun _ _ k => k.eq1 2 23 rfl) fun _ w hn k => ⟨_, v_move rfl (k.fx 4 h167), rfl⟩) ?_
    refine .o1 (cg rfl rfl rfl (fun _ _ k => k.eq1 2 23 rfl) rfl (fun _ w hn k => ⟨#[iv v], args1 (k.eq1 3 24 rfl), fun _ => by kernel_rfl, HI _ (hN170.transNew hn)⟩) fun _ => rfl) ?_
    refine .o1 (tg rfl rfl rfl (fun _ _ k => k.eq1 2 23 rfl) fun _ w hn k => ⟨_, v_move rfl (k.fx 0 h164), rfl⟩) ?_
    refine .o1 (tg rfl rfl rfl (fun _ _ k => k.eq1 2 23 rfl) fun _ w hn k => ⟨_, v_bin rfl (k.eq1 4 25 rfl) (k.eq1 5 26 rfl) (fun _ => rfl) (r_neqS ht171), rfl⟩) ?_
    refine .o1 (tk rfl rfl fun _ w hn k => ⟨_, v_pickF rfl (k.eq1 2 23 rfl) (k.eq1 6 27 rfl), rfl⟩) ?_
    exact .nil
  intro a212 w213 hn214 ha215
  have hs216 := ha215.size.trans hs162
  have hd217 := ha215.defers.trans hd163
  have h218 := ha215.fx 2 h165
  have h219 := ha215.fx 3 h166
  have h220 := ha215.fx 4 h167
  have h221 := ha215.ge 7 28 rfl
  have hb222 := hb169.new_ hn214
  have hN223 := hN170.transNew hn214
  clear hs162 hd163 h164 h165 h166 h167 h168 hb169 hN170 ha215 hn214
  refine st_nil ?_
  refine hK _ _ ?_
  clear hK K
  refine wp_cond_true h221 ?_
  refine wp_seq_k fun K hK => ?_
  refine wp_g0 [true, false, false] [(1, false), (2, true)] 34
    [ve (nv (Nm.mk 2 0)),
     vt,
     vt] hs216 (.eq (.tt (.tt (.nil)))) ?_ ?_
  · skip
    refine .o1 (ck rfl rfl rfl (fun _ w hn k => ⟨#[], rfl, fun _ => by kernel_rfl, nan_c  _⟩) fun _ => rfl) ?_
    refine .off ?_
    refine .off ?_
    exact .nil
  intro a224 w225 hn226 ha227
  have hs228 := ha227.size.trans hs216
  have hd229 := ha227.defers.trans hd217
  have h230 := ha227.fx 2 h218
  have h231 := ha227.fx 3 h219
  have h232 := ha227.fx 4 h220
  have h233 := ha227.ge 0 29 rfl
  have hb234 := hb222.new_ hn226
  have hN235 := hN223.transNew hn226
  clear hs216 hd217 h218 h219 h220 h221 hb222 hN223 ha227 hn226
  obtain ⟨w236, -, hst237, hb238, hu239, hf240⟩ := s_two (v0 := iv 2) (v1 := iv 0) Tryd.sizeOf23 rfl rfl rfl hb234
  refine st_act rfl rfl fun K241 hL242 => a_store' rfl h230 h233 hst237 (hL242 _ _ trivial ?_)
  have hN243 := hN235.trans hu239 (fun k hk hkb => by subst hkb; omega)
  clear hb234 hst237 K241 hL242 hN235 hu239 hf240
  refine st_take rfl rfl (y_assign (v := .bool false) rfl rfl) rfl ?_
  obtain ⟨a244, ha245⟩ : ∃ a', a' = a224.put (some 3) (.bool false) := ⟨_, rfl⟩
  have hs246 : a244.tmps.size = 34 := by rw [ha245, put_size]; exact hs228
  have hd247 : a244.defers = [] := by rw [ha245, put_defers]; exact hd229
  have h248 : a244.eval (.tmp 2) = pv q9 := by rw [ha245, put_ne _ _ _ _ (by decide)]; exact h230
  have h249 : a244.eval (.tmp 4) = iv v := by rw [ha245, put_ne _ _ _ _ (by decide)]; exact h232
  have h250 : a244.eval (.tmp 29) = nv (Nm.mk 2 0) := by rw [ha245, put_ne _ _ _ _ (by decide)]; exact h233
  have h251 : a244.eval (.tmp 3) = .bool false := by rw [ha245]; exact put_same _ _ _ (by rw [hs228]; decide)
  show stepsTo _ _ _ _ _ (a224.put (some 3) (.bool false)) _
  rw [← ha245]
  clear ha245 hs228 hd229 h230 h231 h232 h233
  refine st_nil ?_
  clear h250
  refine hK _ _ ?_
  clear hK K
  refine wp_ret (ret_k hd247 (v := .tuple #[nv (Nm.mk 2 0), .bool false]) (res_ct rfl h248 h251 (l_two Tryd.isAgg23 Tryd.sizeOf23 hb238)) ?_)
  refine ⟨?_, hN243⟩
  show Ending.returned (.tuple #[nv (Nm.mk 2 0), .bool false]) = Ending.returned (.tuple #[nv ((parseOkM s v).1), .bool ((parseOkM s v).2)])
  first | rfl | (simp [parseOkM, infM, ht40, ht84, ht127, ht171])
/-- what strconv.Itoa says from this world on -/
def ItoaOk (w0 : World) : Prop := ∀ n : Int, InS n → ∀ w', New w0 w' → Calls Tryd.prog 58 #[.int .i64 n] w' (IsRet (.string (itoaS n)) w')
theorem textW_c {w0 w : World} (HT : ItoaOk w0) (a : Nm) (hN : New w0 w) : Calls Tryd.prog 20 #[nv a] w (IsRet (.string (textM a)) w) :=
  text_c a w fun w' hn => HT _ (as_bd a) w' (hN.transNew hn)
theorem text_size (a : Nm) : (textM a).size ≤ 9223372036854775806 := by
  have key : (textM a).size ≤ 21 := by
    rcases as_cases a with ⟨n, h, h2⟩ | h | h | h | h
    · have ht : textM a = itoaS n := by unfold textM; rw [h]; rfl
      rw [ht]
      have := Lib.itoa_length_le n (by omega) (by omega)
      show (Lib.itoa n).toArray.size ≤ 21
      simpa using this
    · have ht : textM a = itoaS 0 := by unfold textM; rw [h]; rfl
      rw [ht]
      have := Lib.itoa_length_le 0 (by omega) (by omega)
      show (Lib.itoa 0).toArray.size ≤ 21
      simpa using this
    all_goals
      unfold textM
      rw [h]
      decide
  omega
theorem parseW_c {w0 w : World} (HT : ItoaOk w0) (a : Nm) (hN : New w0 w) : Calls Tryd.prog 16 #[.string (textM a)] w (IsRet (.tuple #[nv (readM a), .bool true]) w) := by
  have h := parse2_c (textM a) w (asM a).n (fun h1 h2 h3 w' hn => atoi_ok _ _ (text_size a) (by
    rw [text_whole h1 h2 h3]
    show Lib.atoiAll (Lib.itoa (asM a).n).toArray.toList = _
    rw [List.toList_toArray]
    exact atoi_itoa (as_bd a)) w') fun w' hn => HT _ (as_bd a) w' (hN.transNew hn)
  rw [read_text] at h
  exact h
theorem itoaOk {w0 : World} (ht : Lib.TabIs Tryd.prog w0 "internal/strconv.uint64pow10" .u64 Lib.pow10Tab) : ItoaOk w0 := fun n hn w' hw => by
  unfold InS at hn
  refine (Any.strconv_Itoa Tryd.laysM171 n (by omega) (by omega) w' (Joins.tab_stays (g := 2) (by kernel_rfl) ht hw.below (Nat.le_refl _))).mono ?_
  rintro e w'' ⟨rfl, k, os, rfl⟩
  exact ⟨rfl, Upd.ofBelow (Lib.below_grow _ _ (Nat.le_refl _) k os)⟩
theorem tab_of_laid {l : List (String × DataW Unit)} {w : World} (h : laidMetH Tryd.prog l w) (hl : l.filter (fun x => x.1 == "internal/strconv.uint64pow10") = [("internal/strconv.uint64pow10", Lib.tabData .u64 Lib.pow10Tab)]) : Lib.TabIs Tryd.prog w "internal/strconv.uint64pow10" .u64 Lib.pow10Tab := by
  have h2 := h.filter (fun x => x.1 == "internal/strconv.uint64pow10")
  rw [hl, Go.MakeChecks.laidMetH_plain _ _ _ rfl] at h2
  exact Lib.tabIs_of_head (g := 2) (t := 88) (e := 53) (n := 20) (by kernel_rfl) (by kernel_rfl) (by kernel_rfl) (by kernel_rfl) (by kernel_rfl) (by kernel_rfl) h2
end Go.Proofs.YtldakajmhfdfgaaDoor
