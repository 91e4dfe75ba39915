/- Package num: a text that is no number. -/
import Derived.Test.YtldakajmhfdfgaaDoorNumT
namespace Go.Proofs.YtldakajmhfdfgaaDoor
open Go.RowKit
set_option linter.unusedSimpArgs false
set_option linter.unusedVariables false
def errV (N : Nat) : Value := .iface (Tryd.laysC172_ren.t 168) (.pointer (some ⟨N, 0, none⟩))
def IsTE (v : Value) : Prop := ∃ (x : Int) (N : Nat), v = .tuple #[.int .i64 x, .iface (Tryd.laysC172_ren.t 168) (.pointer (some ⟨N, 0, none⟩))]
def IsI (v : Value) : Prop := ∃ x : Int, v = .int .i64 x
def IsE (v : Value) : Prop := ∃ N : Nat, v = .iface (Tryd.laysC172_ren.t 168) (.pointer (some ⟨N, 0, none⟩))
def IsErr (w : World) (e : Ending) (w' : World) : Prop := ∃ (x : Int) (N : Nat), e = .returned (.tuple #[.int .i64 x, .iface (Tryd.laysC172_ren.t 168) (.pointer (some ⟨N, 0, none⟩))]) ∧ New w w'
def parseErrM (s : ByteArray) : Nm × Bool := if strEq s ⟨#[78, 97, 78]⟩ then (⟨2, 0⟩, true) else if strEq s ⟨#[73, 110, 102, 105, 110, 105, 116, 121]⟩ then (infM false, true) else if strEq s ⟨#[45, 73, 110, 102, 105, 110, 105, 116, 121]⟩ then (infM true, true)
  else (⟨2, 0⟩, false)
set_option maxHeartbeats 4000000 in
set_option maxRecDepth 100000 in
theorem parse3_c (s : ByteArray) (w : World)
    (HE : strEq s ⟨#[78, 97, 78]⟩ = false → strEq s ⟨#[73, 110, 102, 105, 110, 105, 116, 121]⟩ = false → strEq s ⟨#[45, 73, 110, 102, 105, 110, 105, 116, 121]⟩ = false → ∀ w', New w w' → Calls Tryd.prog 57 #[.string s] w' (IsErr w')) : Calls Tryd.prog 16 #[.string s] w (IsRet (.tuple #[nv ((parseErrM s).1), .bool ((parseErrM s).2)]) w) := by
  refine enter_abs Tryd.func16 rfl fun a0 hs0 hd0 hp => ?_
  have hs0 : a0.tmps.size = 34 := hs0
  have hN0 : New w w := Upd.refl _ _
  have hp0 : a0.eval (.tmp 0) = .string s := hp 0 _ rfl
  clear hp
  refine wp_seq_k fun K1 hK1 => ?_
  refine wp_g [true, true] [] [] 34
    [IsNew w 23 [iv 0, iv 0],
     ve (.bool false)]
    [0] (newsCons (fun v w h => IsNew.old h) newsNil) hs0 (.nw (.eq (.nil))) ?_ (fun i h => by cases h) ?_
  · skip
    refine .o2 (step_allocN (cs := [iv 0, iv 0]) (t := 23) rfl (noG rfl) (fun _ w hn k => rfl) (fun q _ hq hb => ⟨q, rfl, hq, hb⟩)) ?_
    refine .o1 (tk rfl rfl fun _ w hn k => ⟨_, v_assign rfl rfl, rfl⟩) ?_
    exact .nil
  intro a2 w3 hn4 ha5
  have hs6 := ha5.size.trans hs0
  have hd7 := ha5.defers.trans hd0
  have h8 := ha5.fx 0 hp0
  obtain ⟨q10, h9, hq11, hb12⟩ : IsNew _ _ _ _ _ := ha5.got 0 2 rfl (by kernel_rfl)
  have h13 := ha5.ge 1 3 rfl
  have hq14 := Nat.le_trans hN0.size hq11
  have hN15 := hN0.transNew hn4
  clear hs0 hd0 hp0 hq11 hN0 ha5 hn4
  refine st_nil ?_
  refine hK1 _ _ ?_
  clear hK1 K1
  refine wp_seq_k fun K16 hK16 => ?_
  refine wp_seq_k fun K17 hK17 => ?_
  refine wp_g0 [true] [] 34
    [ve (.string s)] hs6 (.eq (.nil)) ?_ ?_
  · skip
    refine .o1 (tk rfl rfl fun _ w hn k => ⟨_, v_move rfl (k.fx 0 h8), rfl⟩) ?_
    exact .nil
  intro a18 w19 hn20 ha21
  have hs22 := ha21.size.trans hs6
  have hd23 := ha21.defers.trans hd7
  have h24 := ha21.fx 0 h8
  have h25 := ha21.fx 2 h9
  have h26 := ha21.fx 3 h13
  have h27 := ha21.ge 0 6 rfl
  have hb28 := hb12.new_ hn20
  have hN29 := hN15.transNew hn20
  clear hs6 hd7 h8 h9 h13 hb12 hN15 ha21 hn20
  refine st_nil ?_
  refine hK17 _ _ ?_
  clear hK17 K17
  refine wp_block ?_
  refine wp_seq_k fun K30 hK30 => ?_
  refine wp_g0 [true, true] [] 34
    [ve (.bool (strEq s ⟨#[78, 97, 78]⟩)),
     ve (.bool (strEq s ⟨#[78, 97, 78]⟩))] hs22 (.eq (.eq (.nil))) ?_ ?_
  · skip
    refine .o1 (tk rfl rfl fun _ w hn k => ⟨_, v_bin rfl (k.fx 6 h27) rfl (fun _ => rfl) (r_eqlS rfl), rfl⟩) ?_
    refine .o1 (tk rfl rfl fun _ w hn k => ⟨_, v_assign rfl (k.eq1 0 8 rfl), rfl⟩) ?_
    exact .nil
  intro a31 w32 hn33 ha34
  have hs35 := ha34.size.trans hs22
  have hd36 := ha34.defers.trans hd23
  have h37 := ha34.fx 0 h24
  have h38 := ha34.fx 2 h25
  have h39 := ha34.fx 3 h26
  have h40 := ha34.fx 6 h27
  have h41 := ha34.ge 1 7 rfl
  have hb42 := hb28.new_ hn33
  have hN43 := hN29.transNew hn33
  clear hs22 hd23 h24 h25 h26 h27 hb28 hN29 ha34 hn33
  refine st_nil ?_
  refine hK30 _ _ ?_
  clear hK30 K30
  rcases Bool.eq_false_or_eq_true (strEq s ⟨#[78, 97, 78]⟩) with ht44 | ht44
  · skip
    have hv45 : a31.eval (.tmp 7) = .bool true := h41.trans (congrArg Value.bool ht44)
    clear h41
    refine wp_cond_true hv45 ?_
    refine wp_seq_k fun K46 hK46 => ?_
    refine wp_g0 [true, false, false] [(1, false), (2, true)] 34
      [ve (nv (Nm.mk 2 0)),
       vt,
       vt] hs35 (.eq (.tt (.tt (.nil)))) ?_ ?_
    · skip
      refine .o1 (ck rfl rfl rfl (fun _ w hn k => ⟨#[], rfl, fun _ => by kernel_rfl, nan_c  _⟩) fun _ => rfl) ?_
      refine .off ?_
      refine .off ?_
      exact .nil
    intro a47 w48 hn49 ha50
    have hs51 := ha50.size.trans hs35
    have hd52 := ha50.defers.trans hd36
    have h53 := ha50.fx 0 h37
    have h54 := ha50.fx 2 h38
    have h55 := ha50.fx 3 h39
    have h56 := ha50.ge 0 9 rfl
    have hb57 := hb42.new_ hn49
    have hN58 := hN43.transNew hn49
    clear hs35 hd36 h37 h38 h39 h40 hv45 hb42 hN43 ha50 hn49
    obtain ⟨w59, -, hst60, hb61, hu62, hf63⟩ := s_two (v0 := iv 2) (v1 := iv 0) Tryd.sizeOf23 rfl rfl rfl hb57
    refine st_act rfl rfl fun K64 hL65 => a_store' rfl h54 h56 hst60 (hL65 _ _ trivial ?_)
    have hN66 := hN58.trans hu62 (fun k hk hkb => by subst hkb; omega)
    clear hb57 hst60 K64 hL65 hN58 hu62 hf63
    refine st_take rfl rfl (y_assign (v := .bool true) rfl rfl) rfl ?_
    obtain ⟨a67, ha68⟩ : ∃ a', a' = a47.put (some 3) (.bool true) := ⟨_, rfl⟩
    have hs69 : a67.tmps.size = 34 := by rw [ha68, put_size]; exact hs51
    have hd70 : a67.defers = [] := by rw [ha68, put_defers]; exact hd52
    have h71 : a67.eval (.tmp 0) = .string s := by rw [ha68, put_ne _ _ _ _ (by decide)]; exact h53
    have h72 : a67.eval (.tmp 2) = pv q10 := by rw [ha68, put_ne _ _ _ _ (by decide)]; exact h54
    have h73 : a67.eval (.tmp 9) = nv (Nm.mk 2 0) := by rw [ha68, put_ne _ _ _ _ (by decide)]; exact h56
    have h74 : a67.eval (.tmp 3) = .bool true := by rw [ha68]; exact put_same _ _ _ (by rw [hs51]; decide)
    show stepsTo _ _ _ _ _ (a47.put (some 3) (.bool true)) _
    rw [← ha68]
    clear ha68 hs51 hd52 h53 h54 h55 h56
    refine st_nil ?_
    clear h73
    refine hK46 _ _ ?_
    clear hK46 K46
    refine wp_ret (ret_k hd70 (v := .tuple #[nv (Nm.mk 2 0), .bool true]) (res_ct rfl h72 h74 (l_two Tryd.isAgg23 Tryd.sizeOf23 hb61)) ?_)
    refine ⟨?_, hN66⟩
    show Ending.returned (.tuple #[nv (Nm.mk 2 0), .bool true]) = Ending.returned (.tuple #[nv ((parseErrM s).1), .bool ((parseErrM s).2)])
    first | rfl | (simp [parseErrM, infM, ht44])
  have hv75 : a31.eval (.tmp 7) = .bool false := h41.trans (congrArg Value.bool ht44)
  clear h41
  refine wp_cond_false hv75 ?_
  refine wp_seq_k fun K76 hK76 => ?_
  refine wp_g0 [true, true] [] 34
    [ve (.bool (strEq s ⟨#[73, 110, 102, 105, 110, 105, 116, 121]⟩)),
     ve (.bool (strEq s ⟨#[73, 110, 102, 105, 110, 105, 116, 121]⟩))] hs35 (.eq (.eq (.nil))) ?_ ?_
  · skip
    refine .o1 (tk rfl rfl fun _ w hn k => ⟨_, v_bin rfl (k.fx 6 h40) rfl (fun _ => rfl) (r_eqlS rfl), rfl⟩) ?_
    refine .o1 (tk rfl rfl fun _ w hn k => ⟨_, v_assign rfl (k.eq1 0 11 rfl), rfl⟩) ?_
    exact .nil
  intro a77 w78 hn79 ha80
  have hs81 := ha80.size.trans hs35
  have hd82 := ha80.defers.trans hd36
  have h83 := ha80.fx 0 h37
  have h84 := ha80.fx 2 h38
  have h85 := ha80.fx 3 h39
  have h86 := ha80.fx 6 h40
  have h87 := ha80.ge 1 10 rfl
  have hb88 := hb42.new_ hn79
  have hN89 := hN43.transNew hn79
  clear hs35 hd36 h37 h38 h39 h40 hv75 hb42 hN43 ha80 hn79
  refine st_nil ?_
  refine hK76 _ _ ?_
  clear hK76 K76
  rcases Bool.eq_false_or_eq_true (strEq s ⟨#[73, 110, 102, 105, 110, 105, 116, 121]⟩) with ht90 | ht90
  · skip
    have hv91 : a77.eval (.tmp 10) = .bool true := h87.trans (congrArg Value.bool ht90)
    clear h87
    refine wp_cond_true hv91 ?_
    refine wp_seq_k fun K92 hK92 => ?_
    refine wp_g0 [true, false, false] [(1, false), (2, true)] 34
      [ve (nv (Nm.mk 3 0)),
       vt,
       vt] hs81 (.eq (.tt (.tt (.nil)))) ?_ ?_
    · skip
      refine .o1 (ck rfl rfl rfl (fun _ w hn k => ⟨#[.bool false], args1 rfl, fun _ => by kernel_rfl, inf_c false _⟩) fun _ => rfl) ?_
      refine .off ?_
      refine .off ?_
      exact .nil
    intro a93 w94 hn95 ha96
    have hs97 := ha96.size.trans hs81
    have hd98 := ha96.defers.trans hd82
    have h99 := ha96.fx 0 h83
    have h100 := ha96.fx 2 h84
    have h101 := ha96.fx 3 h85
    have h102 := ha96.ge 0 12 rfl
    have hb103 := hb88.new_ hn95
    have hN104 := hN89.transNew hn95
    clear hs81 hd82 h83 h84 h85 h86 hv91 hb88 hN89 ha96 hn95
    obtain ⟨w105, -, hst106, hb107, hu108, hf109⟩ := s_two (v0 := iv 3) (v1 := iv 0) Tryd.sizeOf23 rfl rfl rfl hb103
    refine st_act rfl rfl fun K110 hL111 => a_store' rfl h100 h102 hst106 (hL111 _ _ trivial ?_)
    have hN112 := hN104.trans hu108 (fun k hk hkb => by subst hkb; omega)
    clear hb103 hst106 K110 hL111 hN104 hu108 hf109
    refine st_take rfl rfl (y_assign (v := .bool true) rfl rfl) rfl ?_
    obtain ⟨a113, ha114⟩ : ∃ a', a' = a93.put (some 3) (.bool true) := ⟨_, rfl⟩
    have hs115 : a113.tmps.size = 34 := by rw [ha114, put_size]; exact hs97
    have hd116 : a113.defers = [] := by rw [ha114, put_defers]; exact hd98
    have h117 : a113.eval (.tmp 0) = .string s := by rw [ha114, put_ne _ _ _ _ (by decide)]; exact h99
    have h118 : a113.eval (.tmp 2) = pv q10 := by rw [ha114, put_ne _ _ _ _ (by decide)]; exact h100
    have h119 : a113.eval (.tmp 12) = nv (Nm.mk 3 0) := by rw [ha114, put_ne _ _ _ _ (by decide)]; exact h102
    have h120 : a113.eval (.tmp 3) = .bool true := by rw [ha114]; exact put_same _ _ _ (by rw [hs97]; decide)
    show stepsTo _ _ _ _ _ (a93.put (some 3) (.bool true)) _
    rw [← ha114]
    clear ha114 hs97 hd98 h99 h100 h101 h102
    refine st_nil ?_
    clear h119
    refine hK92 _ _ ?_
    clear hK92 K92
    refine wp_ret (ret_k hd116 (v := .tuple #[nv (Nm.mk 3 0), .bool true]) (res_ct rfl h118 h120 (l_two Tryd.isAgg23 Tryd.sizeOf23 hb107)) ?_)
    refine ⟨?_, hN112⟩
    show Ending.returned (.tuple #[nv (Nm.mk 3 0), .bool true]) = Ending.returned (.tuple #[nv ((parseErrM s).1), .bool ((parseErrM s).2)])
    first | rfl | (simp [parseErrM, infM, ht44, ht90])
  have hv121 : a77.eval (.tmp 10) = .bool false := h87.trans (congrArg Value.bool ht90)
  clear h87
  refine wp_cond_false hv121 ?_
  refine wp_seq_k fun K122 hK122 => ?_
  refine wp_g0 [true, true] [] 34
    [ve (.bool (strEq s ⟨#[45, 73, 110, 102, 105, 110, 105, 116, 121]⟩)),
     ve (.bool (strEq s ⟨#[45, 73, 110, 102, 105, 110, 105, 116, 121]⟩))] hs81 (.eq (.eq (.nil))) ?_ ?_
  · skip
    refine .o1 (tk rfl rfl fun _ w hn k => ⟨_, v_bin rfl (k.fx 6 h86) rfl (fun _ => rfl) (r_eqlS rfl), rfl⟩) ?_
    refine .o1 (tk rfl rfl fun _ w hn k => ⟨_, v_assign rfl (k.eq1 0 14 rfl), rfl⟩) ?_
    exact .nil
  intro a123 w124 hn125 ha126
  have hs127 := ha126.size.trans hs81
  have hd128 := ha126.defers.trans hd82
  have h129 := ha126.fx 0 h83
  have h130 := ha126.fx 2 h84
  have h131 := ha126.fx 3 h85
  have h132 := ha126.ge 1 13 rfl
  have hb133 := hb88.new_ hn125
  have hN134 := hN89.transNew hn125
  clear hs81 hd82 h83 h84 h85 h86 hv121 hb88 hN89 ha126 hn125
  refine st_nil ?_
  refine hK122 _ _ ?_
  clear hK122 K122
  rcases Bool.eq_false_or_eq_true (strEq s ⟨#[45, 73, 110, 102, 105, 110, 105, 116, 121]⟩) with ht135 | ht135
  · skip
    have hv136 : a123.eval (.tmp 13) = .bool true := h132.trans (congrArg Value.bool ht135)
    clear h132
    refine wp_cond_true hv136 ?_
    refine wp_seq_k fun K137 hK137 => ?_
    refine wp_g0 [true, false, false] [(1, false), (2, true)] 34
      [ve (nv (Nm.mk 4 0)),
       vt,
       vt] hs127 (.eq (.tt (.tt (.nil)))) ?_ ?_
    · skip
      refine .o1 (ck rfl rfl rfl (fun _ w hn k => ⟨#[.bool true], args1 rfl, fun _ => by kernel_rfl, inf_c true _⟩) fun _ => rfl) ?_
      refine .off ?_
      refine .off ?_
      exact .nil
    intro a138 w139 hn140 ha141
    have hs142 := ha141.size.trans hs127
    have hd143 := ha141.defers.trans hd128
    have h144 := ha141.fx 0 h129
    have h145 := ha141.fx 2 h130
    have h146 := ha141.fx 3 h131
    have h147 := ha141.ge 0 15 rfl
    have hb148 := hb133.new_ hn140
    have hN149 := hN134.transNew hn140
    clear hs127 hd128 h129 h130 h131 hv136 hb133 hN134 ha141 hn140
    obtain ⟨w150, -, hst151, hb152, hu153, hf154⟩ := s_two (v0 := iv 4) (v1 := iv 0) Tryd.sizeOf23 rfl rfl rfl hb148
    refine st_act rfl rfl fun K155 hL156 => a_store' rfl h145 h147 hst151 (hL156 _ _ trivial ?_)
    have hN157 := hN149.trans hu153 (fun k hk hkb => by subst hkb; omega)
    clear hb148 hst151 K155 hL156 hN149 hu153 hf154
    refine st_take rfl rfl (y_assign (v := .bool true) rfl rfl) rfl ?_
    obtain ⟨a158, ha159⟩ : ∃ a', a' = a138.put (some 3) (.bool true) := ⟨_, rfl⟩
    have hs160 : a158.tmps.size = 34 := by rw [ha159, put_size]; exact hs142
    have hd161 : a158.defers = [] := by rw [ha159, put_defers]; exact hd143
    have h162 : a158.eval (.tmp 0) = .string s := by rw [ha159, put_ne _ _ _ _ (by decide)]; exact h144
    have h163 : a158.eval (.tmp 2) = pv q10 := by rw [ha159, put_ne _ _ _ _ (by decide)]; exact h145
    have h164 : a158.eval (.tmp 15) = nv (Nm.mk 4 0) := by rw [ha159, put_ne _ _ _ _ (by decide)]; exact h147
    have h165 : a158.eval (.tmp 3) = .bool true := by rw [ha159]; exact put_same _ _ _ (by rw [hs142]; decide)
    show stepsTo _ _ _ _ _ (a138.put (some 3) (.bool true)) _
    rw [← ha159]
    clear ha159 hs142 hd143 h144 h145 h146 h147
    refine st_nil ?_
    clear h164
    refine hK137 _ _ ?_
    clear hK137 K137
    refine wp_ret (ret_k hd161 (v := .tuple #[nv (Nm.mk 4 0), .bool true]) (res_ct rfl h163 h165 (l_two Tryd.isAgg23 Tryd.sizeOf23 hb152)) ?_)
    refine ⟨?_, hN157⟩
    show Ending.returned (.tuple #[nv (Nm.mk 4 0), .bool true]) = Ending.returned (.tuple #[nv ((parseErrM s).1), .bool ((parseErrM s).2)])
    first | rfl | (simp [parseErrM, infM, ht44, ht90, ht135])
  have hv166 : a123.eval (.tmp 13) = .bool false := h132.trans (congrArg Value.bool ht135)
  clear h132
  refine wp_cond_false hv166 ?_
  refine wp_skip ?_
  refine hK16 _ _ ?_
  clear hK16 K16
  refine wp_seq_k fun K167 hK167 => ?_
  refine wp_g0 [true, true, true, true, true, true, true] [] 34
    [ve (.string s),
     (fun v _ => IsTE v),
     (fun v _ => IsTE v),
     (fun v _ => IsI v),
     (fun v _ => IsE v),
     (fun v _ => IsI v),
     (fun v _ => IsE v)] hs127 (.eq (.cons (fun _ _ _ _ h => h) (.cons (fun _ _ _ _ h => h) (.cons (fun _ _ _ _ h => h) (.cons (fun _ _ _ _ h => h) (.cons (fun _ _ _ _ h => h) (.cons (fun _ _ _ _ h => h) (.nil)))))))) ?_ ?_
  · skip
    refine .o1 (tk rfl rfl fun _ w hn k => ⟨_, v_move rfl (k.fx 0 h129), rfl⟩) ?_
    refine .o1 (step_callG rfl (noG rfl) rfl fun _ w hn k => ⟨#[.string s], _, args1 (k.eq1 0 17 rfl), fun w => by kernel_rfl, HE ht44 ht90 ht135 _ (hN134.transNew hn), by
          rintro e w' ⟨x, N, rfl, hm⟩
          exact ⟨_, rfl, hm, ⟨x, N, rfl⟩⟩⟩) ?_
    refine .o1 (tk rfl rfl fun _ w hn k => (by
          have hd : IsTE _ := k.dep 1 18 (by kernel_rfl) (by kernel_rfl)
          obtain ⟨x, N, hx⟩ := hd
          exact ⟨_, v_move rfl hx, ⟨x, N, rfl⟩⟩)) ?_
    refine .o1 (tk rfl rfl fun _ w hn k => (by
          have hd : IsTE _ := k.dep 2 16 (by kernel_rfl) (by kernel_rfl)
          obtain ⟨x, N, hx⟩ := hd
          exact ⟨_, v_extract rfl hx rfl, ⟨x, rfl⟩⟩)) ?_
    refine .o1 (tk rfl rfl fun _ w hn k => (by
          have hd : IsTE _ := k.dep 2 16 (by kernel_rfl) (by kernel_rfl)
          obtain ⟨x, N, hx⟩ := hd
          exact ⟨_, v_extract rfl hx rfl, ⟨N, rfl⟩⟩)) ?_
    refine .o1 (tk rfl rfl fun _ w hn k => (by
          have hd : IsI _ := k.dep 3 19 (by kernel_rfl) (by kernel_rfl)
          obtain ⟨x, hx⟩ := hd
          exact ⟨_, v_assign rfl hx, ⟨x, rfl⟩⟩)) ?_
    refine .o1 (tk rfl rfl fun _ w hn k => (by
          have hd : IsE _ := k.dep 4 20 (by kernel_rfl) (by kernel_rfl)
          obtain ⟨N, hx⟩ := hd
          exact ⟨_, v_assign rfl hx, ⟨N, rfl⟩⟩)) ?_
    exact .nil
  intro a168 w169 hn170 ha171
  have hs172 := ha171.size.trans hs127
  have hd173 := ha171.defers.trans hd128
  have h174 := ha171.fx 0 h129
  have h175 := ha171.fx 2 h130
  have h176 := ha171.fx 3 h131
  obtain ⟨xe, h177⟩ : IsI _ := ha171.got 5 4 rfl (by kernel_rfl)
  obtain ⟨ne, h178⟩ : IsE _ := ha171.got 6 5 rfl (by kernel_rfl)
  have hb179 := hb133.new_ hn170
  have hN180 := hN134.transNew hn170
  clear hs127 hd128 h129 h130 h131 hv166 hb133 hN134 ha171 hn170
  refine st_nil ?_
  refine hK167 _ _ ?_
  clear hK167 K167
  refine wp_seq_k fun K181 hK181 => ?_
  refine wp_seq_k fun K182 hK182 => ?_
  refine wp_g0 [true, true, true, true, true, true, true, true] [] 34
    [ve (.iface (Tryd.laysC172_ren.t 168) (.pointer (some ⟨ne, 0, none⟩))),
     ve (.bool true),
     ve (.bool true),
     ve undef,
     ve undef,
     ve undef,
     ve undef,
     ve (.bool true)] hs172 (.eq (.eq (.eq (.eq (.eq (.eq (.eq (.eq (.nil))))))))) ?_ ?_
  · skip
    refine .o1 (tk rfl rfl fun _ w hn k => ⟨_, v_move rfl (k.fx 5 h178), rfl⟩) ?_
    refine .o1 (tk rfl rfl fun _ w hn k => ⟨_, v_bin rfl (k.eq1 0 21 rfl) rfl (fun _ => rfl) (fun w => rfl), rfl⟩) ?_
    refine .o1 (tk rfl rfl fun _ w hn k => ⟨_, v_move rfl (k.eq1 1 22 rfl), rfl⟩) ?_
    refine .o1 (sk rfl rfl rfl (fun _ _ _ k => k.eq1 2 23 rfl) (fun _ => rfl)) ?_
    refine .o1 (sk rfl rfl rfl (fun _ _ _ k => k.eq1 2 23 rfl) (fun _ => rfl)) ?_
    refine .o1 (sk rfl rfl rfl (fun _ _ _ k => k.eq1 2 23 rfl) (fun _ => rfl)) ?_
    refine .o1 (sk rfl rfl rfl (fun _ _ _ k => k.eq1 2 23 rfl) (fun _ => rfl)) ?_
    refine .o1 (tk rfl rfl fun _ w hn k => ⟨_, v_pickT rfl (k.eq1 2 23 rfl) rfl, rfl⟩) ?_
    exact .nil
  intro a183 w184 hn185 ha186
  have hs187 := ha186.size.trans hs172
  have hd188 := ha186.defers.trans hd173
  have h189 := ha186.fx 2 h175
  have h190 := ha186.fx 3 h176
  have h191 := ha186.fx 4 h177
  have h192 := ha186.ge 7 28 rfl
  have hb193 := hb179.new_ hn185
  have hN194 := hN180.transNew hn185
  clear hs172 hd173 h174 h175 h176 h177 h178 hb179 hN180 ha186 hn185
  refine st_nil ?_
  refine hK182 _ _ ?_
  clear hK182 K182
  refine wp_cond_true h192 ?_
  refine wp_seq_k fun K195 hK195 => ?_
  refine wp_g0 [true, false, false] [(1, false), (2, true)] 34
    [ve (nv (Nm.mk 2 0)),
     vt,
     vt] hs187 (.eq (.tt (.tt (.nil)))) ?_ ?_
  · skip
    refine .o1 (ck rfl rfl rfl (fun _ w hn k => ⟨#[], rfl, fun _ => by kernel_rfl, nan_c  _⟩) fun _ => rfl) ?_
    refine .off ?_
    refine .off ?_
    exact .nil
  intro a196 w197 hn198 ha199
  have hs200 := ha199.size.trans hs187
  have hd201 := ha199.defers.trans hd188
  have h202 := ha199.fx 2 h189
  have h203 := ha199.fx 3 h190
  have h204 := ha199.fx 4 h191
  have h205 := ha199.ge 0 29 rfl
  have hb206 := hb193.new_ hn198
  have hN207 := hN194.transNew hn198
  clear hs187 hd188 h189 h190 h191 h192 hb193 hN194 ha199 hn198
  obtain ⟨w208, -, hst209, hb210, hu211, hf212⟩ := s_two (v0 := iv 2) (v1 := iv 0) Tryd.sizeOf23 rfl rfl rfl hb206
  refine st_act rfl rfl fun K213 hL214 => a_store' rfl h202 h205 hst209 (hL214 _ _ trivial ?_)
  have hN215 := hN207.trans hu211 (fun k hk hkb => by subst hkb; omega)
  clear hb206 hst209 K213 hL214 hN207 hu211 hf212
  refine st_take rfl rfl (y_assign (v := .bool false) rfl rfl) rfl ?_
  obtain ⟨a216, ha217⟩ : ∃ a', a' = a196.put (some 3) (.bool false) := ⟨_, rfl⟩
  have hs218 : a216.tmps.size = 34 := by rw [ha217, put_size]; exact hs200
  have hd219 : a216.defers = [] := by rw [ha217, put_defers]; exact hd201
  have h220 : a216.eval (.tmp 2) = pv q10 := by rw [ha217, put_ne _ _ _ _ (by decide)]; exact h202
  have h221 : a216.eval (.tmp 4) = iv xe := by rw [ha217, put_ne _ _ _ _ (by decide)]; exact h204
  have h222 : a216.eval (.tmp 29) = nv (Nm.mk 2 0) := by rw [ha217, put_ne _ _ _ _ (by decide)]; exact h205
  have h223 : a216.eval (.tmp 3) = .bool false := by rw [ha217]; exact put_same _ _ _ (by rw [hs200]; decide)
  show stepsTo _ _ _ _ _ (a196.put (some 3) (.bool false)) _
  rw [← ha217]
  clear ha217 hs200 hd201 h202 h203 h204 h205
  refine st_nil ?_
  clear h222
  refine hK195 _ _ ?_
  clear hK195 K195
  refine wp_ret (ret_k hd219 (v := .tuple #[nv (Nm.mk 2 0), .bool false]) (res_ct rfl h220 h223 (l_two Tryd.isAgg23 Tryd.sizeOf23 hb210)) ?_)
  refine ⟨?_, hN215⟩
  show Ending.returned (.tuple #[nv (Nm.mk 2 0), .bool false]) = Ending.returned (.tuple #[nv ((parseErrM s).1), .bool ((parseErrM s).2)])
  first | rfl | (simp [parseErrM, infM, ht44, ht90, ht135])
end Go.Proofs.YtldakajmhfdfgaaDoor
