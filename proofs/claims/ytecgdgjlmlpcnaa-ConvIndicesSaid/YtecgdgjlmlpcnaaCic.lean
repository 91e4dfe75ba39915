import Derived.Test.YtecgdgjlmlpcnaaCib
namespace Go.Proofs.Ytecgdgjlmlpcnaa
open Go.RowKit
set_option linter.unusedSimpArgs false
set_option linter.unusedVariables false
set_option maxHeartbeats 4000000 in
set_option maxRecDepth 100000 in
theorem strange_c (Au : Option Addr) (u : List Nat) (cu : Nat) (w : World) (hru : SRow w .u16 Au u cu) (hu : U16s u) : Calls Try.prog 64 #[sv Au u cu] w (IsRet (.bool (strangeN u)) w) := by
  refine enter_abs Try.func64 rfl fun a0 hs0 hd0 hp => ?_
  have hs0 : a0.tmps.size = 38 := hs0
  have hN0 : New w w := Upd.refl _ _
  have hp0 : a0.eval (.tmp 0) = sv Au u cu := hp 0 _ rfl
  have hmx := hru.max
  refine wp_seq_k fun K1 hK1 => ?_
  refine wp_g0 [true] [] 38
    [ve (.bool false)] hs0 (.eq (.nil)) ?_ ?_
  refine .o1 (tk rfl rfl fun _ w hn k => ⟨_, v_assign rfl rfl, rfl⟩) ?_
  exact .nil
  intro a2 w3 hn4 ha5
  obtain ⟨hs6, hd7, hN9⟩ := aft ha5 hs0 hd0 hN0 hn4
  have h8 := ha5.fx 0 hp0
  refine st_nil (hK1 _ _ ?_)
  refine wp_seq_k fun K10 hK10 => ?_
  refine wp_g0 [true] [] 38
    [ve (.bool false)] hs6 (.eq (.nil)) ?_ ?_
  refine .o1 (tk rfl rfl fun _ w hn k => ⟨_, v_assign rfl rfl, rfl⟩) ?_
  exact .nil
  intro a11 w12 hn13 ha14
  obtain ⟨hs15, hd16, hN19⟩ := aft ha14 hs6 hd7 hN9 hn13
  have h17 := ha14.fx 0 h8
  have h18 := ha14.ge 0 3 rfl
  refine st_nil (hK10 _ _ ?_)
  refine wp_seq_k fun K20 hK20 => ?_
  refine wp_seq_k fun K21 hK21 => ?_
  refine wp_g0 [true, true, true] [] 38
    [ve (sv Au u cu),
     ve (iv (u.length : Int)),
     ve (iv 0)] hs15 (.eq (.eq (.eq (.nil)))) ?_ ?_
  refine .o1 (tk rfl rfl fun _ w hn k => ⟨_, v_move rfl (k.fx 0 h17), rfl⟩) ?_
  refine .o1 (tk rfl rfl fun _ w hn k => ⟨_, v_lenR rfl elU (k.eq1 0 6 rfl), rfl⟩) ?_
  refine .o1 (tk rfl rfl fun _ w hn k => ⟨_, v_move rfl rfl, rfl⟩) ?_
  exact .nil
  intro a22 w23 hn24 ha25
  obtain ⟨hs26, hd27, hN32⟩ := aft ha25 hs15 hd16 hN19 hn24
  have h28 := ha25.fx 3 h18
  have h29 := ha25.ge 0 6 rfl
  have h30 := ha25.ge 1 7 rfl
  have h31 := ha25.ge 2 8 rfl
  refine st_nil (hK21 _ _ ?_)
  refine wp_block ?_
  refine wp_loopX (fun (mm : Nat) (aa : Act) (ww : World) => ∃ (i : Nat), mm = u.length - i ∧ aa.tmps.size = 38 ∧ aa.defers = [] ∧ New w ww ∧ aa.eval (.tmp 3) = .bool ((u.take i).any dgtN) ∧ aa.eval (.tmp 8) = iv (i : Int) ∧ aa.eval (.tmp 6) = sv Au u cu ∧ aa.eval (.tmp 7) = iv (u.length : Int) ∧ (i ≤ u.length) ∧ ((u.take i).all okcN = true)) (fun mm => mm) ⟨_, ⟨0, rfl, hs26, hd27, hN32, (h28.trans rfl), h31, h29, h30, (Nat.zero_le _), rfl⟩⟩ ?_
  rintro mm a33 w34 ⟨i, hmm, hs35, hd36, hN37, h38, h39, h40, h41, hi, hall⟩
  refine wp_seq_k fun K42 hK42 => ?_
  refine wp_g0 [true] [] 38
    [ve (.bool (decide ((i : Int) < (u.length : Int))))] hs35 (.eq (.nil)) ?_ ?_
  refine .o1 (tk rfl rfl fun _ w hn k => ⟨_, v_bin rfl (k.fx 8 h39) (k.fx 7 h41) (fun _ => rfl) (r_lssK rfl), rfl⟩) ?_
  exact .nil
  intro a43 w44 hn45 ha46
  obtain ⟨hs47, hd48, hN54⟩ := aft ha46 hs35 hd36 hN37 hn45
  have h49 := ha46.fx 3 h38
  have h50 := ha46.fx 8 h39
  have h51 := ha46.fx 6 h40
  have h52 := ha46.fx 7 h41
  have h53 := ha46.ge 0 9 rfl
  refine st_nil (hK42 _ _ ?_)
  refine wp_seq_k fun K55 hK55 => ?_
  rcases Bool.eq_false_or_eq_true (decide ((i : Int) < (u.length : Int))) with ht56 | ht56
  have ht56d := of_decide_eq_true ht56
  have hv57 := hB h53 ht56
  refine wp_cond_true hv57 ?_
  refine wp_skip ?_
  refine hK55 _ _ ?_
  refine wp_seq_j (fun (aa : Act) (ww : World) => aa.tmps.size = 38 ∧ aa.defers = [] ∧ New w ww ∧ aa.eval (.tmp 3) = .bool ((u.take (i + 1)).any dgtN) ∧ aa.eval (.tmp 6) = sv Au u cu ∧ aa.eval (.tmp 7) = iv (u.length : Int) ∧ aa.eval (.tmp 8) = iv (i : Int) ∧ (okcN (u.getD i 0) = true)) ?_ ?_
  rintro a58 w59 ⟨hs60, hd61, hN62, h63, h64, h65, h66, hok⟩
  refine wp_g0 [true, false] [(1, true)] 38
    [ve (iv ((i + 1 : Nat) : Int)),
     vt] hs60 (.eq (.tt (.nil))) ?_ ?_
  refine .o1 (tk rfl rfl fun _ w hn k => ⟨_, v_bin rfl (k.fx 8 h66) rfl (fun _ => rfl) (n_add (by omega) (IntWalk.i64_in _ (by omega))), rfl⟩) ?_
  refine .off ?_
  exact .nil
  intro a67 w68 hn69 ha70
  obtain ⟨hs71, hd72, hN78⟩ := aft ha70 hs60 hd61 hN62 hn69
  have h73 := ha70.fx 3 h63
  have h74 := ha70.fx 6 h64
  have h75 := ha70.fx 7 h65
  have h76 := ha70.fx 8 h66
  have h77 := ha70.ge 0 36 rfl
  refine st_take rfl rfl (y_move (v := iv ((i + 1 : Nat) : Int)) rfl h77) rfl ?_
  obtain ⟨a79, ha80⟩ : ∃ a', a' = a67.put (some 8) (iv ((i + 1 : Nat) : Int)) := ⟨_, rfl⟩
  have hs81 : a79.tmps.size = 38 := by rw [ha80, put_size]; exact hs71
  have hd82 : a79.defers = [] := by rw [ha80, put_defers]; exact hd72
  have h83 := pn ha80 h73 (by decide)
  have h84 := pn ha80 h74 (by decide)
  have h85 := pn ha80 h75 (by decide)
  have h86 := pn ha80 h77 (by decide)
  have h87 : a79.eval (.tmp 8) = iv ((i + 1 : Nat) : Int) := by rw [ha80]; exact put_same _ _ _ (by rw [hs71]; decide)
  show stepsTo _ _ _ _ _ (a67.put (some 8) (iv ((i + 1 : Nat) : Int))) _
  rw [← ha80]
  refine st_nil ?_
  refine then_n ?_
  exact ⟨_, ⟨i + 1, rfl, hs81, hd82, hN78, h83, (h87.trans (congrArg (Value.int .i64) (by omega))), h84, h85, (by omega), (all_up (by omega) hall hok)⟩, (by omega)⟩
  intro K88 hK88
  refine wp_block ?_
  refine wp_seq_k fun K89 hK89 => ?_
  have hb := hu.at16 i
  refine wp_g0 [true, true, true] [] 38
    [(fun (v_ : Value) (W : World) => ∃ (b3 : Nat) (o4 : Nat), v_ = .pointer (some ⟨b3, o4, none⟩) ∧ SElem W b3 o4 (.int .u16 ((u.getD i 0 : Nat) : Int))),
     ve (.int .u16 ((u.getD i 0 : Nat) : Int)),
     ve (.int .u16 ((u.getD i 0 : Nat) : Int))] hs47 (.cons (fun v W W' hn ⟨b3, o4, he, h0⟩ => ⟨b3, o4, he, h0.new_ hn⟩) (.eq (.eq (.nil)))) ?_ ?_
  refine .o1 (tk rfl rfl fun _ w hn k => (by
        exact x_eaddr (k := .u16) rfl elU (k.fx 6 h51) (k.fx 8 h50) (hru.new_ (hN54.transNew hn)) (by omega) fun b1 o2 hme => ⟨b1, o2, rfl, hme⟩)) ?_
  refine .o1 (tk rfl rfl fun _ w hn k => (by
        obtain ⟨b5, o6, e7, hx8⟩ : (fun (v_ : Value) (W : World) => ∃ (b3 : Nat) (o4 : Nat), v_ = .pointer (some ⟨b3, o4, none⟩) ∧ SElem W b3 o4 (.int .u16 ((u.getD i 0 : Nat) : Int))) _ _ := k.dep 0 10 (by kernel_rfl) (by kernel_rfl)
        exact ⟨_, v_load rfl e7 (l_one Try.isAgg66 hx8.1), rfl⟩)) ?_
  refine .o1 (tk rfl rfl fun _ w hn k => ⟨_, v_assign rfl (k.eq1 1 11 rfl), rfl⟩) ?_
  exact .nil
  intro a90 w91 hn92 ha93
  obtain ⟨hs94, hd95, hN101⟩ := aft ha93 hs47 hd48 hN54 hn92
  have h96 := ha93.fx 3 h49
  have h97 := ha93.fx 8 h50
  have h98 := ha93.fx 6 h51
  have h99 := ha93.fx 7 h52
  have h100 := ha93.ge 2 5 rfl
  refine st_nil (hK89 _ _ ?_)
  refine wp_seq_j (fun (aa : Act) (ww : World) => aa.tmps.size = 38 ∧ aa.defers = [] ∧ New w ww ∧ aa.eval (.tmp 3) = .bool ((u.take (i + 1)).any dgtN) ∧ aa.eval (.tmp 5) = .int .u16 ((u.getD i 0 : Nat) : Int) ∧ aa.eval (.tmp 6) = sv Au u cu ∧ aa.eval (.tmp 7) = iv (u.length : Int) ∧ aa.eval (.tmp 8) = iv (i : Int)) ?_ ?_
  rintro a102 w103 ⟨hs104, hd105, hN106, h107, h108, h109, h110, h111⟩
  refine wp_block ?_
  refine wp_seq_k fun K112 hK112 => ?_
  refine wp_seq_k fun K113 hK113 => ?_
  have hb := hu.at16 i
  refine wp_g0 [true, true, true] [] 38
    [ve (.int .u16 ((u.getD i 0 : Nat) : Int)),
     ve (.bool (dgtN (u.getD i 0))),
     ve (.bool (dgtN (u.getD i 0)))] hs104 (.eq (.eq (.eq (.nil)))) ?_ ?_
  refine .o1 (tk rfl rfl fun _ w hn k => ⟨_, v_move rfl (k.fx 5 h108), rfl⟩) ?_
  refine .o1 (ck rfl rfl rfl (fun _ w hn k => ⟨#[.int .u16 ((u.getD i 0 : Nat) : Int)], args1 (k.eq1 0 18 rfl), fun _ => by kernel_rfl, digit_c (u.getD i 0) _ (by omega)⟩) fun _ => rfl) ?_
  refine .o1 (tk rfl rfl fun _ w hn k => ⟨_, v_assign rfl (k.eq1 1 19 rfl), rfl⟩) ?_
  exact .nil
  intro a114 w115 hn116 ha117
  obtain ⟨hs118, hd119, hN126⟩ := aft ha117 hs104 hd105 hN106 hn116
  have h120 := ha117.fx 3 h107
  have h121 := ha117.fx 5 h108
  have h122 := ha117.fx 6 h109
  have h123 := ha117.fx 7 h110
  have h124 := ha117.fx 8 h111
  have h125 := ha117.ge 2 17 rfl
  refine st_nil (hK113 _ _ ?_)
  rcases Bool.eq_false_or_eq_true (dgtN (u.getD i 0)) with ht127 | ht127
  have hv128 := hB h125 ht127
  refine wp_cond_true hv128 ?_
  refine wp_skip ?_
  refine hK112 _ _ ?_
  refine wp_cond_true hv128 ?_
  refine wp_skip ?_
  exact hK88 _ _ ⟨hs118, hd119, hN126, h120, h122, h123, h124, (by unfold okcN; simp only [ht127, bsm])⟩
  have hv129 := hB h125 ht127
  refine wp_cond_false hv129 ?_
  refine wp_seq_k fun K130 hK130 => ?_
  rcases Bool.eq_false_or_eq_true (decide (((u.getD i 0 : Nat) : Int) < 97)) with ht131 | ht131
  have ht131d := of_decide_eq_true ht131
  refine wp_g0 [true, true, true, true, true, true, true] [] 38
    [ve (.int .u16 ((u.getD i 0 : Nat) : Int)),
     ve (.bool false),
     ve (.bool false),
     ve undef,
     ve undef,
     ve (.bool false),
     ve (.bool false)] hs118 (.eq (.eq (.eq (.eq (.eq (.eq (.eq (.nil)))))))) ?_ ?_
  refine .o1 (tk rfl rfl fun _ w hn k => ⟨_, v_move rfl (k.fx 5 h121), rfl⟩) ?_
  refine .o1 (tk rfl rfl fun _ w hn k => ⟨_, v_bin rfl (k.eq1 0 20 rfl) rfl (fun _ => rfl) (r_geqK ht131), rfl⟩) ?_
  refine .o1 (tk rfl rfl fun _ w hn k => ⟨_, v_move rfl (k.eq1 1 21 rfl), rfl⟩) ?_
  refine .o1 (sk rfl rfl rfl (fun _ _ _ k => k.eq1 2 22 rfl) (fun _ => rfl)) ?_
  refine .o1 (sk rfl rfl rfl (fun _ _ _ k => k.eq1 2 22 rfl) (fun _ => rfl)) ?_
  refine .o1 (tk rfl rfl fun _ w hn k => ⟨_, v_pickF rfl (k.eq1 2 22 rfl) rfl, rfl⟩) ?_
  refine .o1 (tk rfl rfl fun _ w hn k => ⟨_, v_assign rfl (k.eq1 5 25 rfl), rfl⟩) ?_
  exact .nil
  intro a132 w133 hn134 ha135
  obtain ⟨hs136, hd137, hN144⟩ := aft ha135 hs118 hd119 hN126 hn134
  have h138 := ha135.fx 3 h120
  have h139 := ha135.fx 5 h121
  have h140 := ha135.fx 6 h122
  have h141 := ha135.fx 7 h123
  have h142 := ha135.fx 8 h124
  have h143 := ha135.ge 6 17 rfl
  refine st_nil (hK130 _ _ ?_)
  refine wp_cond_false h143 ?_
  rcases Bool.eq_false_or_eq_true (decide (((u.getD i 0 : Nat) : Int) < 65)) with ht145 | ht145
  have ht145d := of_decide_eq_true ht145
  refine wp_g0 [true, true, true, true, true, true, true] [] 38
    [ve (.int .u16 ((u.getD i 0 : Nat) : Int)),
     ve (.bool false),
     ve (.bool false),
     ve undef,
     ve undef,
     ve (.bool false),
     ve (.bool false)] hs136 (.eq (.eq (.eq (.eq (.eq (.eq (.eq (.nil)))))))) ?_ ?_
  refine .o1 (tk rfl rfl fun _ w hn k => ⟨_, v_move rfl (k.fx 5 h139), rfl⟩) ?_
  refine .o1 (tk rfl rfl fun _ w hn k => ⟨_, v_bin rfl (k.eq1 0 26 rfl) rfl (fun _ => rfl) (r_geqK ht145), rfl⟩) ?_
  refine .o1 (tk rfl rfl fun _ w hn k => ⟨_, v_move rfl (k.eq1 1 27 rfl), rfl⟩) ?_
  refine .o1 (sk rfl rfl rfl (fun _ _ _ k => k.eq1 2 28 rfl) (fun _ => rfl)) ?_
  refine .o1 (sk rfl rfl rfl (fun _ _ _ k => k.eq1 2 28 rfl) (fun _ => rfl)) ?_
  refine .o1 (tk rfl rfl fun _ w hn k => ⟨_, v_pickF rfl (k.eq1 2 28 rfl) rfl, rfl⟩) ?_
  refine .o1 (tk rfl rfl fun _ w hn k => ⟨_, v_assign rfl (k.eq1 5 31 rfl), rfl⟩) ?_
  exact .nil
  intro a146 w147 hn148 ha149
  obtain ⟨hs150, hd151, hN158⟩ := aft ha149 hs136 hd137 hN144 hn148
  have h152 := ha149.fx 3 h138
  have h153 := ha149.fx 5 h139
  have h154 := ha149.fx 6 h140
  have h155 := ha149.fx 7 h141
  have h156 := ha149.fx 8 h142
  have h157 := ha149.ge 6 17 rfl
  refine st_nil (hK112 _ _ ?_)
  refine wp_cond_false h157 ?_
  refine wp_seq_k fun K159 hK159 => ?_
  have hb := hu.at16 i
  refine wp_g0 [true, true, true, true] [] 38
    [(fun (v_ : Value) (W : World) => ∃ (A11 : Option Addr) (c12 : Nat), v_ = sv A11 (asc ⟨#[120, 88, 111, 79, 46, 43, 45, 95]⟩) c12 ∧ SOwn W w147.heap.size 66 .u16 A11 (asc ⟨#[120, 88, 111, 79, 46, 43, 45, 95]⟩) c12),
     ve (.int .u16 ((u.getD i 0 : Nat) : Int)),
     ve (.bool ((asc ⟨#[120, 88, 111, 79, 46, 43, 45, 95]⟩).any (fun y : Nat => decide (((u.getD i 0) : Int) = (y : Int))))),
     ve (.bool ((asc ⟨#[120, 88, 111, 79, 46, 43, 45, 95]⟩).any (fun y : Nat => decide (((u.getD i 0) : Int) = (y : Int)))))] hs150 (.cons (fun v W W' hn ⟨A11, c12, he, h0⟩ => ⟨A11, c12, he, h0.new_ hn⟩) (.eq (.eq (.eq (.nil))))) ?_ ?_
  refine .o1 (tkC rfl (noG rfl) rfl fun _ w hn k => (by
        refine ⟨#[.string ⟨#[120, 88, 111, 79, 46, 43, 45, 95]⟩], _, args1 rfl, fun w => by kernel_rfl, ascii_c ⟨#[120, 88, 111, 79, 46, 43, 45, 95]⟩ _ (by first | omega | (show (_ : Nat) ≤ _; decide)), ?_⟩
        rintro e w' ⟨A9, c10, rfl, hmo0, hm⟩
        exact ⟨_, rfl, hm, ⟨A9, c10, rfl, (hmo0.more hn.size)⟩⟩)) ?_
  refine .o1 (tk rfl rfl fun _ w hn k => ⟨_, v_move rfl (k.fx 5 h153), rfl⟩) ?_
  refine .o1 (tkC rfl (noG rfl) rfl fun _ w hn k => (by
        obtain ⟨A13, c14, e15, hx16⟩ : (fun (v_ : Value) (W : World) => ∃ (A11 : Option Addr) (c12 : Nat), v_ = sv A11 (asc ⟨#[120, 88, 111, 79, 46, 43, 45, 95]⟩) c12 ∧ SOwn W w147.heap.size 66 .u16 A11 (asc ⟨#[120, 88, 111, 79, 46, 43, 45, 95]⟩) c12) _ _ := k.dep 0 33 (by kernel_rfl) (by kernel_rfl)
        refine ⟨#[sv A13 (asc ⟨#[120, 88, 111, 79, 46, 43, 45, 95]⟩) c14, .int .u16 ((u.getD i 0 : Nat) : Int)], _, args2 e15 (k.eq1 1 34 rfl), fun w => by kernel_rfl, contains16_c _ (asc ⟨#[120, 88, 111, 79, 46, 43, 45, 95]⟩) _ (u.getD i 0) _ hx16.row (by omega), ?_⟩
        rintro e w' ⟨rfl, hm⟩
        exact ⟨_, rfl, hm, rfl⟩)) ?_
  refine .o1 (tk rfl rfl fun _ w hn k => ⟨_, v_assign rfl (k.eq1 2 35 rfl), rfl⟩) ?_
  exact .nil
  intro a160 w161 hn162 ha163
  obtain ⟨hs164, hd165, hN171⟩ := aft ha163 hs150 hd151 hN158 hn162
  have h166 := ha163.fx 3 h152
  have h167 := ha163.fx 6 h154
  have h168 := ha163.fx 7 h155
  have h169 := ha163.fx 8 h156
  have h170 := ha163.ge 3 32 rfl
  refine st_nil (hK159 _ _ ?_)
  rcases Bool.eq_false_or_eq_true (((asc ⟨#[120, 88, 111, 79, 46, 43, 45, 95]⟩).any (fun y : Nat => decide (((u.getD i 0) : Int) = (y : Int))))) with ht172 | ht172
  have hv173 := hB h170 ht172
  refine wp_cond_true hv173 ?_
  refine wp_skip ?_
  exact hK88 _ _ ⟨hs164, hd165, hN171, h166, h167, h168, h169, (by unfold okcN; simp only [ht127, ht131, ht145, ht172, bsm])⟩
  have hv174 := hB h170 ht172
  refine wp_cond_false hv174 ?_
  refine wp_seq_k fun K175 hK175 => ?_
  refine wp_g0 [true] [] 38
    [ve (.bool false)] hs164 (.eq (.nil)) ?_ ?_
  refine .o1 (tk rfl rfl fun _ w hn k => ⟨_, v_assign rfl rfl, rfl⟩) ?_
  exact .nil
  intro a176 w177 hn178 ha179
  obtain ⟨hs180, hd181, hN183⟩ := aft ha179 hs164 hd165 hN171 hn178
  have h182 := ha179.ge 0 2 rfl
  refine st_nil (hK175 _ _ ?_)
  refine wp_ret (ret_k hd181 (v := .bool false) (res_t rfl h182 _) ?_)
  exact ⟨by rw [show strangeN u = false from by unfold strangeN; rw [all_bad (i := i) (by omega) (by unfold okcN; simp only [ht127, ht131, ht145, ht172, bsm]), Bool.false_and]], hN183⟩
  have ht145d := of_decide_eq_false ht145
  refine wp_g0 [true, true, true, true, true, true, true] [] 38
    [ve (.int .u16 ((u.getD i 0 : Nat) : Int)),
     ve (.bool true),
     ve (.bool true),
     ve (.int .u16 ((u.getD i 0 : Nat) : Int)),
     ve (.bool (decide (((u.getD i 0 : Nat) : Int) ≤ 70))),
     ve (.bool (decide (((u.getD i 0 : Nat) : Int) ≤ 70))),
     ve (.bool (decide (((u.getD i 0 : Nat) : Int) ≤ 70)))] hs136 (.eq (.eq (.eq (.eq (.eq (.eq (.eq (.nil)))))))) ?_ ?_
  refine .o1 (tk rfl rfl fun _ w hn k => ⟨_, v_move rfl (k.fx 5 h139), rfl⟩) ?_
  refine .o1 (tk rfl rfl fun _ w hn k => ⟨_, v_bin rfl (k.eq1 0 26 rfl) rfl (fun _ => rfl) (r_geqK ht145), rfl⟩) ?_
  refine .o1 (tk rfl rfl fun _ w hn k => ⟨_, v_move rfl (k.eq1 1 27 rfl), rfl⟩) ?_
  refine .o1 (tg rfl rfl rfl (fun _ _ k => k.eq1 2 28 rfl) fun _ w hn k => ⟨_, v_move rfl (k.fx 5 h139), rfl⟩) ?_
  refine .o1 (tg rfl rfl rfl (fun _ _ k => k.eq1 2 28 rfl) fun _ w hn k => ⟨_, v_bin rfl (k.eq1 3 29 rfl) rfl (fun _ => rfl) (r_leqK rfl), rfl⟩) ?_
  refine .o1 (tk rfl rfl fun _ w hn k => ⟨_, v_pickT rfl (k.eq1 2 28 rfl) (k.eq1 4 30 rfl), rfl⟩) ?_
  refine .o1 (tk rfl rfl fun _ w hn k => ⟨_, v_assign rfl (k.eq1 5 31 rfl), rfl⟩) ?_
  exact .nil
  intro a184 w185 hn186 ha187
  obtain ⟨hs188, hd189, hN196⟩ := aft ha187 hs136 hd137 hN144 hn186
  have h190 := ha187.fx 3 h138
  have h191 := ha187.fx 5 h139
  have h192 := ha187.fx 6 h140
  have h193 := ha187.fx 7 h141
  have h194 := ha187.fx 8 h142
  have h195 := ha187.ge 6 17 rfl
  refine st_nil (hK112 _ _ ?_)
  rcases Bool.eq_false_or_eq_true (decide (((u.getD i 0 : Nat) : Int) ≤ 70)) with ht197 | ht197
  have ht197d := of_decide_eq_true ht197
  have hv198 := hB h195 ht197
  refine wp_cond_true hv198 ?_
  refine wp_skip ?_
  exact hK88 _ _ ⟨hs188, hd189, hN196, h190, h192, h193, h194, (by unfold okcN; simp only [ht127, ht131, ht145, ht197, bsm])⟩
  have ht197d := of_decide_eq_false ht197
  have hv199 := hB h195 ht197
  refine wp_cond_false hv199 ?_
  refine wp_seq_k fun K200 hK200 => ?_
  have hb := hu.at16 i
  refine wp_g0 [true, true, true, true] [] 38
    [(fun (v_ : Value) (W : World) => ∃ (A19 : Option Addr) (c20 : Nat), v_ = sv A19 (asc ⟨#[120, 88, 111, 79, 46, 43, 45, 95]⟩) c20 ∧ SOwn W w185.heap.size 66 .u16 A19 (asc ⟨#[120, 88, 111, 79, 46, 43, 45, 95]⟩) c20),
     ve (.int .u16 ((u.getD i 0 : Nat) : Int)),
     ve (.bool ((asc ⟨#[120, 88, 111, 79, 46, 43, 45, 95]⟩).any (fun y : Nat => decide (((u.getD i 0) : Int) = (y : Int))))),
     ve (.bool ((asc ⟨#[120, 88, 111, 79, 46, 43, 45, 95]⟩).any (fun y : Nat => decide (((u.getD i 0) : Int) = (y : Int)))))] hs188 (.cons (fun v W W' hn ⟨A19, c20, he, h0⟩ => ⟨A19, c20, he, h0.new_ hn⟩) (.eq (.eq (.eq (.nil))))) ?_ ?_
  refine .o1 (tkC rfl (noG rfl) rfl fun _ w hn k => (by
        refine ⟨#[.string ⟨#[120, 88, 111, 79, 46, 43, 45, 95]⟩], _, args1 rfl, fun w => by kernel_rfl, ascii_c ⟨#[120, 88, 111, 79, 46, 43, 45, 95]⟩ _ (by first | omega | (show (_ : Nat) ≤ _; decide)), ?_⟩
        rintro e w' ⟨A17, c18, rfl, hmo0, hm⟩
        exact ⟨_, rfl, hm, ⟨A17, c18, rfl, (hmo0.more hn.size)⟩⟩)) ?_
  refine .o1 (tk rfl rfl fun _ w hn k => ⟨_, v_move rfl (k.fx 5 h191), rfl⟩) ?_
  refine .o1 (tkC rfl (noG rfl) rfl fun _ w hn k => (by
        obtain ⟨A21, c22, e23, hx24⟩ : (fun (v_ : Value) (W : World) => ∃ (A19 : Option Addr) (c20 : Nat), v_ = sv A19 (asc ⟨#[120, 88, 111, 79, 46, 43, 45, 95]⟩) c20 ∧ SOwn W w185.heap.size 66 .u16 A19 (asc ⟨#[120, 88, 111, 79, 46, 43, 45, 95]⟩) c20) _ _ := k.dep 0 33 (by kernel_rfl) (by kernel_rfl)
        refine ⟨#[sv A21 (asc ⟨#[120, 88, 111, 79, 46, 43, 45, 95]⟩) c22, .int .u16 ((u.getD i 0 : Nat) : Int)], _, args2 e23 (k.eq1 1 34 rfl), fun w => by kernel_rfl, contains16_c _ (asc ⟨#[120, 88, 111, 79, 46, 43, 45, 95]⟩) _ (u.getD i 0) _ hx24.row (by omega), ?_⟩
        rintro e w' ⟨rfl, hm⟩
        exact ⟨_, rfl, hm, rfl⟩)) ?_
  refine .o1 (tk rfl rfl fun _ w hn k => ⟨_, v_assign rfl (k.eq1 2 35 rfl), rfl⟩) ?_
  exact .nil
  intro a201 w202 hn203 ha204
  obtain ⟨hs205, hd206, hN212⟩ := aft ha204 hs188 hd189 hN196 hn203
  have h207 := ha204.fx 3 h190
  have h208 := ha204.fx 6 h192
  have h209 := ha204.fx 7 h193
  have h210 := ha204.fx 8 h194
  have h211 := ha204.ge 3 32 rfl
  refine st_nil (hK200 _ _ ?_)
  rcases Bool.eq_false_or_eq_true (((asc ⟨#[120, 88, 111, 79, 46, 43, 45, 95]⟩).any (fun y : Nat => decide (((u.getD i 0) : Int) = (y : Int))))) with ht213 | ht213
  have hv214 := hB h211 ht213
  refine wp_cond_true hv214 ?_
  refine wp_skip ?_
  exact hK88 _ _ ⟨hs205, hd206, hN212, h207, h208, h209, h210, (by unfold okcN; simp only [ht127, ht131, ht145, ht197, ht213, bsm])⟩
  have hv215 := hB h211 ht213
  refine wp_cond_false hv215 ?_
  refine wp_seq_k fun K216 hK216 => ?_
  refine wp_g0 [true] [] 38
    [ve (.bool false)] hs205 (.eq (.nil)) ?_ ?_
  refine .o1 (tk rfl rfl fun _ w hn k => ⟨_, v_assign rfl rfl, rfl⟩) ?_
  exact .nil
  intro a217 w218 hn219 ha220
  obtain ⟨hs221, hd222, hN224⟩ := aft ha220 hs205 hd206 hN212 hn219
  have h223 := ha220.ge 0 2 rfl
  refine st_nil (hK216 _ _ ?_)
  refine wp_ret (ret_k hd222 (v := .bool false) (res_t rfl h223 _) ?_)
  exact ⟨by rw [show strangeN u = false from by unfold strangeN; rw [all_bad (i := i) (by omega) (by unfold okcN; simp only [ht127, ht131, ht145, ht197, ht213, bsm]), Bool.false_and]], hN224⟩
  have ht131d := of_decide_eq_false ht131
  refine wp_g0 [true, true, true, true, true, true, true] [] 38
    [ve (.int .u16 ((u.getD i 0 : Nat) : Int)),
     ve (.bool true),
     ve (.bool true),
     ve (.int .u16 ((u.getD i 0 : Nat) : Int)),
     ve (.bool (decide (((u.getD i 0 : Nat) : Int) ≤ 102))),
     ve (.bool (decide (((u.getD i 0 : Nat) : Int) ≤ 102))),
     ve (.bool (decide (((u.getD i 0 : Nat) : Int) ≤ 102)))] hs118 (.eq (.eq (.eq (.eq (.eq (.eq (.eq (.nil)))))))) ?_ ?_
  refine .o1 (tk rfl rfl fun _ w hn k => ⟨_, v_move rfl (k.fx 5 h121), rfl⟩) ?_
  refine .o1 (tk rfl rfl fun _ w hn k => ⟨_, v_bin rfl (k.eq1 0 20 rfl) rfl (fun _ => rfl) (r_geqK ht131), rfl⟩) ?_
  refine .o1 (tk rfl rfl fun _ w hn k => ⟨_, v_move rfl (k.eq1 1 21 rfl), rfl⟩) ?_
  refine .o1 (tg rfl rfl rfl (fun _ _ k => k.eq1 2 22 rfl) fun _ w hn k => ⟨_, v_move rfl (k.fx 5 h121), rfl⟩) ?_
  refine .o1 (tg rfl rfl rfl (fun _ _ k => k.eq1 2 22 rfl) fun _ w hn k => ⟨_, v_bin rfl (k.eq1 3 23 rfl) rfl (fun _ => rfl) (r_leqK rfl), rfl⟩) ?_
  refine .o1 (tk rfl rfl fun _ w hn k => ⟨_, v_pickT rfl (k.eq1 2 22 rfl) (k.eq1 4 24 rfl), rfl⟩) ?_
  refine .o1 (tk rfl rfl fun _ w hn k => ⟨_, v_assign rfl (k.eq1 5 25 rfl), rfl⟩) ?_
  exact .nil
  intro a225 w226 hn227 ha228
  obtain ⟨hs229, hd230, hN237⟩ := aft ha228 hs118 hd119 hN126 hn227
  have h231 := ha228.fx 3 h120
  have h232 := ha228.fx 5 h121
  have h233 := ha228.fx 6 h122
  have h234 := ha228.fx 7 h123
  have h235 := ha228.fx 8 h124
  have h236 := ha228.ge 6 17 rfl
  refine st_nil (hK130 _ _ ?_)
  rcases Bool.eq_false_or_eq_true (decide (((u.getD i 0 : Nat) : Int) ≤ 102)) with ht238 | ht238
  have ht238d := of_decide_eq_true ht238
  have hv239 := hB h236 ht238
  refine wp_cond_true hv239 ?_
  refine wp_skip ?_
  refine hK112 _ _ ?_
  refine wp_cond_true hv239 ?_
  refine wp_skip ?_
  exact hK88 _ _ ⟨hs229, hd230, hN237, h231, h233, h234, h235, (by unfold okcN; simp only [ht127, ht131, ht238, bsm])⟩
  have ht238d := of_decide_eq_false ht238
  have hv240 := hB h236 ht238
  refine wp_cond_false hv240 ?_
  rcases Bool.eq_false_or_eq_true (decide (((u.getD i 0 : Nat) : Int) < 65)) with ht241 | ht241
  have ht241d := of_decide_eq_true ht241
  refine wp_g0 [true, true, true, true, true, true, true] [] 38
    [ve (.int .u16 ((u.getD i 0 : Nat) : Int)),
     ve (.bool false),
     ve (.bool false),
     ve undef,
     ve undef,
     ve (.bool false),
     ve (.bool false)] hs229 (.eq (.eq (.eq (.eq (.eq (.eq (.eq (.nil)))))))) ?_ ?_
  refine .o1 (tk rfl rfl fun _ w hn k => ⟨_, v_move rfl (k.fx 5 h232), rfl⟩) ?_
  refine .o1 (tk rfl rfl fun _ w hn k => ⟨_, v_bin rfl (k.eq1 0 26 rfl) rfl (fun _ => rfl) (r_geqK ht241), rfl⟩) ?_
  refine .o1 (tk rfl rfl fun _ w hn k => ⟨_, v_move rfl (k.eq1 1 27 rfl), rfl⟩) ?_
  refine .o1 (sk rfl rfl rfl (fun _ _ _ k => k.eq1 2 28 rfl) (fun _ => rfl)) ?_
  refine .o1 (sk rfl rfl rfl (fun _ _ _ k => k.eq1 2 28 rfl) (fun _ => rfl)) ?_
  refine .o1 (tk rfl rfl fun _ w hn k => ⟨_, v_pickF rfl (k.eq1 2 28 rfl) rfl, rfl⟩) ?_
  refine .o1 (tk rfl rfl fun _ w hn k => ⟨_, v_assign rfl (k.eq1 5 31 rfl), rfl⟩) ?_
  exact .nil
  intro a242 w243 hn244 ha245
  obtain ⟨hs246, hd247, hN254⟩ := aft ha245 hs229 hd230 hN237 hn244
  have h248 := ha245.fx 3 h231
  have h249 := ha245.fx 5 h232
  have h250 := ha245.fx 6 h233
  have h251 := ha245.fx 7 h234
  have h252 := ha245.fx 8 h235
  have h253 := ha245.ge 6 17 rfl
  refine st_nil (hK112 _ _ ?_)
  refine wp_cond_false h253 ?_
  refine wp_seq_k fun K255 hK255 => ?_
  have hb := hu.at16 i
  refine wp_g0 [true, true, true, true] [] 38
    [(fun (v_ : Value) (W : World) => ∃ (A27 : Option Addr) (c28 : Nat), v_ = sv A27 (asc ⟨#[120, 88, 111, 79, 46, 43, 45, 95]⟩) c28 ∧ SOwn W w243.heap.size 66 .u16 A27 (asc ⟨#[120, 88, 111, 79, 46, 43, 45, 95]⟩) c28),
     ve (.int .u16 ((u.getD i 0 : Nat) : Int)),
     ve (.bool ((asc ⟨#[120, 88, 111, 79, 46, 43, 45, 95]⟩).any (fun y : Nat => decide (((u.getD i 0) : Int) = (y : Int))))),
     ve (.bool ((asc ⟨#[120, 88, 111, 79, 46, 43, 45, 95]⟩).any (fun y : Nat => decide (((u.getD i 0) : Int) = (y : Int)))))] hs246 (.cons (fun v W W' hn ⟨A27, c28, he, h0⟩ => ⟨A27, c28, he, h0.new_ hn⟩) (.eq (.eq (.eq (.nil))))) ?_ ?_
  refine .o1 (tkC rfl (noG rfl) rfl fun _ w hn k => (by
        refine ⟨#[.string ⟨#[120, 88, 111, 79, 46, 43, 45, 95]⟩], _, args1 rfl, fun w => by kernel_rfl, ascii_c ⟨#[120, 88, 111, 79, 46, 43, 45, 95]⟩ _ (by first | omega | (show (_ : Nat) ≤ _; decide)), ?_⟩
        rintro e w' ⟨A25, c26, rfl, hmo0, hm⟩
        exact ⟨_, rfl, hm, ⟨A25, c26, rfl, (hmo0.more hn.size)⟩⟩)) ?_
  refine .o1 (tk rfl rfl fun _ w hn k => ⟨_, v_move rfl (k.fx 5 h249), rfl⟩) ?_
  refine .o1 (tkC rfl (noG rfl) rfl fun _ w hn k => (by
        obtain ⟨A29, c30, e31, hx32⟩ : (fun (v_ : Value) (W : World) => ∃ (A27 : Option Addr) (c28 : Nat), v_ = sv A27 (asc ⟨#[120, 88, 111, 79, 46, 43, 45, 95]⟩) c28 ∧ SOwn W w243.heap.size 66 .u16 A27 (asc ⟨#[120, 88, 111, 79, 46, 43, 45, 95]⟩) c28) _ _ := k.dep 0 33 (by kernel_rfl) (by kernel_rfl)
        refine ⟨#[sv A29 (asc ⟨#[120, 88, 111, 79, 46, 43, 45, 95]⟩) c30, .int .u16 ((u.getD i 0 : Nat) : Int)], _, args2 e31 (k.eq1 1 34 rfl), fun w => by kernel_rfl, contains16_c _ (asc ⟨#[120, 88, 111, 79, 46, 43, 45, 95]⟩) _ (u.getD i 0) _ hx32.row (by omega), ?_⟩
        rintro e w' ⟨rfl, hm⟩
        exact ⟨_, rfl, hm, rfl⟩)) ?_
  refine .o1 (tk rfl rfl fun _ w hn k => ⟨_, v_assign rfl (k.eq1 2 35 rfl), rfl⟩) ?_
  exact .nil
  intro a256 w257 hn258 ha259
  obtain ⟨hs260, hd261, hN267⟩ := aft ha259 hs246 hd247 hN254 hn258
  have h262 := ha259.fx 3 h248
  have h263 := ha259.fx 6 h250
  have h264 := ha259.fx 7 h251
  have h265 := ha259.fx 8 h252
  have h266 := ha259.ge 3 32 rfl
  refine st_nil (hK255 _ _ ?_)
  rcases Bool.eq_false_or_eq_true (((asc ⟨#[120, 88, 111, 79, 46, 43, 45, 95]⟩).any (fun y : Nat => decide (((u.getD i 0) : Int) = (y : Int))))) with ht268 | ht268
  have hv269 := hB h266 ht268
  refine wp_cond_true hv269 ?_
  refine wp_skip ?_
  exact hK88 _ _ ⟨hs260, hd261, hN267, h262, h263, h264, h265, (by unfold okcN; simp only [ht127, ht131, ht238, ht241, ht268, bsm])⟩
  have hv270 := hB h266 ht268
  refine wp_cond_false hv270 ?_
  refine wp_seq_k fun K271 hK271 => ?_
  refine wp_g0 [true] [] 38
    [ve (.bool false)] hs260 (.eq (.nil)) ?_ ?_
  refine .o1 (tk rfl rfl fun _ w hn k => ⟨_, v_assign rfl rfl, rfl⟩) ?_
  exact .nil
  intro a272 w273 hn274 ha275
  obtain ⟨hs276, hd277, hN279⟩ := aft ha275 hs260 hd261 hN267 hn274
  have h278 := ha275.ge 0 2 rfl
  refine st_nil (hK271 _ _ ?_)
  refine wp_ret (ret_k hd277 (v := .bool false) (res_t rfl h278 _) ?_)
  exact ⟨by rw [show strangeN u = false from by unfold strangeN; rw [all_bad (i := i) (by omega) (by unfold okcN; simp only [ht127, ht131, ht238, ht241, ht268, bsm]), Bool.false_and]], hN279⟩
  have ht241d := of_decide_eq_false ht241
  refine wp_g0 [true, true, true, true, true, true, true] [] 38
    [ve (.int .u16 ((u.getD i 0 : Nat) : Int)),
     ve (.bool true),
     ve (.bool true),
     ve (.int .u16 ((u.getD i 0 : Nat) : Int)),
     ve (.bool (decide (((u.getD i 0 : Nat) : Int) ≤ 70))),
     ve (.bool (decide (((u.getD i 0 : Nat) : Int) ≤ 70))),
     ve (.bool (decide (((u.getD i 0 : Nat) : Int) ≤ 70)))] hs229 (.eq (.eq (.eq (.eq (.eq (.eq (.eq (.nil)))))))) ?_ ?_
  refine .o1 (tk rfl rfl fun _ w hn k => ⟨_, v_move rfl (k.fx 5 h232), rfl⟩) ?_
  refine .o1 (tk rfl rfl fun _ w hn k => ⟨_, v_bin rfl (k.eq1 0 26 rfl) rfl (fun _ => rfl) (r_geqK ht241), rfl⟩) ?_
  refine .o1 (tk rfl rfl fun _ w hn k => ⟨_, v_move rfl (k.eq1 1 27 rfl), rfl⟩) ?_
  refine .o1 (tg rfl rfl rfl (fun _ _ k => k.eq1 2 28 rfl) fun _ w hn k => ⟨_, v_move rfl (k.fx 5 h232), rfl⟩) ?_
  refine .o1 (tg rfl rfl rfl (fun _ _ k => k.eq1 2 28 rfl) fun _ w hn k => ⟨_, v_bin rfl (k.eq1 3 29 rfl) rfl (fun _ => rfl) (r_leqK rfl), rfl⟩) ?_
  refine .o1 (tk rfl rfl fun _ w hn k => ⟨_, v_pickT rfl (k.eq1 2 28 rfl) (k.eq1 4 30 rfl), rfl⟩) ?_
  refine .o1 (tk rfl rfl fun _ w hn k => ⟨_, v_assign rfl (k.eq1 5 31 rfl), rfl⟩) ?_
  exact .nil
  intro a280 w281 hn282 ha283
  obtain ⟨hs284, hd285, hN292⟩ := aft ha283 hs229 hd230 hN237 hn282
  have h286 := ha283.fx 3 h231
  have h287 := ha283.fx 5 h232
  have h288 := ha283.fx 6 h233
  have h289 := ha283.fx 7 h234
  have h290 := ha283.fx 8 h235
  have h291 := ha283.ge 6 17 rfl
  refine st_nil (hK112 _ _ ?_)
  rcases Bool.eq_false_or_eq_true (decide (((u.getD i 0 : Nat) : Int) ≤ 70)) with ht293 | ht293
  have ht293d := of_decide_eq_true ht293
  have hv294 := hB h291 ht293
  refine wp_cond_true hv294 ?_
  refine wp_skip ?_
  exact hK88 _ _ ⟨hs284, hd285, hN292, h286, h288, h289, h290, (by unfold okcN; simp only [ht127, ht131, ht238, ht241, ht293, bsm])⟩
  have ht293d := of_decide_eq_false ht293
  have hv295 := hB h291 ht293
  refine wp_cond_false hv295 ?_
  refine wp_seq_k fun K296 hK296 => ?_
  have hb := hu.at16 i
  refine wp_g0 [true, true, true, true] [] 38
    [(fun (v_ : Value) (W : World) => ∃ (A35 : Option Addr) (c36 : Nat), v_ = sv A35 (asc ⟨#[120, 88, 111, 79, 46, 43, 45, 95]⟩) c36 ∧ SOwn W w281.heap.size 66 .u16 A35 (asc ⟨#[120, 88, 111, 79, 46, 43, 45, 95]⟩) c36),
     ve (.int .u16 ((u.getD i 0 : Nat) : Int)),
     ve (.bool ((asc ⟨#[120, 88, 111, 79, 46, 43, 45, 95]⟩).any (fun y : Nat => decide (((u.getD i 0) : Int) = (y : Int))))),
     ve (.bool ((asc ⟨#[120, 88, 111, 79, 46, 43, 45, 95]⟩).any (fun y : Nat => decide (((u.getD i 0) : Int) = (y : Int)))))] hs284 (.cons (fun v W W' hn ⟨A35, c36, he, h0⟩ => ⟨A35, c36, he, h0.new_ hn⟩) (.eq (.eq (.eq (.nil))))) ?_ ?_
  refine .o1 (tkC rfl (noG rfl) rfl fun _ w hn k => (by
        refine ⟨#[.string ⟨#[120, 88, 111, 79, 46, 43, 45, 95]⟩], _, args1 rfl, fun w => by kernel_rfl, ascii_c ⟨#[120, 88, 111, 79, 46, 43, 45, 95]⟩ _ (by first | omega | (show (_ : Nat) ≤ _; decide)), ?_⟩
        rintro e w' ⟨A33, c34, rfl, hmo0, hm⟩
        exact ⟨_, rfl, hm, ⟨A33, c34, rfl, (hmo0.more hn.size)⟩⟩)) ?_
  refine .o1 (tk rfl rfl fun _ w hn k => ⟨_, v_move rfl (k.fx 5 h287), rfl⟩) ?_
  refine .o1 (tkC rfl (noG rfl) rfl fun _ w hn k => (by
        obtain ⟨A37, c38, e39, hx40⟩ : (fun (v_ : Value) (W : World) => ∃ (A35 : Option Addr) (c36 : Nat), v_ = sv A35 (asc ⟨#[120, 88, 111, 79, 46, 43, 45, 95]⟩) c36 ∧ SOwn W w281.heap.size 66 .u16 A35 (asc ⟨#[120, 88, 111, 79, 46, 43, 45, 95]⟩) c36) _ _ := k.dep 0 33 (by kernel_rfl) (by kernel_rfl)
        refine ⟨#[sv A37 (asc ⟨#[120, 88, 111, 79, 46, 43, 45, 95]⟩) c38, .int .u16 ((u.getD i 0 : Nat) : Int)], _, args2 e39 (k.eq1 1 34 rfl), fun w => by kernel_rfl, contains16_c _ (asc ⟨#[120, 88, 111, 79, 46, 43, 45, 95]⟩) _ (u.getD i 0) _ hx40.row (by omega), ?_⟩
        rintro e w' ⟨rfl, hm⟩
        exact ⟨_, rfl, hm, rfl⟩)) ?_
  refine .o1 (tk rfl rfl fun _ w hn k => ⟨_, v_assign rfl (k.eq1 2 35 rfl), rfl⟩) ?_
  exact .nil
  intro a297 w298 hn299 ha300
  obtain ⟨hs301, hd302, hN308⟩ := aft ha300 hs284 hd285 hN292 hn299
  have h303 := ha300.fx 3 h286
  have h304 := ha300.fx 6 h288
  have h305 := ha300.fx 7 h289
  have h306 := ha300.fx 8 h290
  have h307 := ha300.ge 3 32 rfl
  refine st_nil (hK296 _ _ ?_)
  rcases Bool.eq_false_or_eq_true (((asc ⟨#[120, 88, 111, 79, 46, 43, 45, 95]⟩).any (fun y : Nat => decide (((u.getD i 0) : Int) = (y : Int))))) with ht309 | ht309
  have hv310 := hB h307 ht309
  refine wp_cond_true hv310 ?_
  refine wp_skip ?_
  exact hK88 _ _ ⟨hs301, hd302, hN308, h303, h304, h305, h306, (by unfold okcN; simp only [ht127, ht131, ht238, ht241, ht293, ht309, bsm])⟩
  have hv311 := hB h307 ht309
  refine wp_cond_false hv311 ?_
  refine wp_seq_k fun K312 hK312 => ?_
  refine wp_g0 [true] [] 38
    [ve (.bool false)] hs301 (.eq (.nil)) ?_ ?_
  refine .o1 (tk rfl rfl fun _ w hn k => ⟨_, v_assign rfl rfl, rfl⟩) ?_
  exact .nil
  intro a313 w314 hn315 ha316
  obtain ⟨hs317, hd318, hN320⟩ := aft ha316 hs301 hd302 hN308 hn315
  have h319 := ha316.ge 0 2 rfl
  refine st_nil (hK312 _ _ ?_)
  refine wp_ret (ret_k hd318 (v := .bool false) (res_t rfl h319 _) ?_)
  exact ⟨by rw [show strangeN u = false from by unfold strangeN; rw [all_bad (i := i) (by omega) (by unfold okcN; simp only [ht127, ht131, ht238, ht241, ht293, ht309, bsm]), Bool.false_and]], hN320⟩
  intro K321 hK321
  rcases Bool.eq_false_or_eq_true (((u.take i).any dgtN)) with ht322 | ht322
  have hv323 := hB h96 ht322
  have hb := hu.at16 i
  refine wp_g0 [true, true, true, true, true, false] [(5, true)] 38
    [ve (.bool true),
     ve (.bool true),
     ve undef,
     ve undef,
     ve (.bool true),
     vt] hs94 (.eq (.eq (.eq (.eq (.eq (.tt (.nil))))))) ?_ ?_
  refine .o1 (tk rfl rfl fun _ w hn k => ⟨_, v_move rfl (k.fx 3 hv323), rfl⟩) ?_
  refine .o1 (tk rfl rfl fun _ w hn k => ⟨_, v_move rfl (k.eq1 0 12 rfl), rfl⟩) ?_
  refine .o1 (sk rfl rfl rfl (fun _ _ _ k => k.eq1 1 13 rfl) (fun _ => rfl)) ?_
  refine .o1 (sk rfl rfl rfl (fun _ _ _ k => k.eq1 1 13 rfl) (fun _ => rfl)) ?_
  refine .o1 (tk rfl rfl fun _ w hn k => ⟨_, v_pickT rfl (k.eq1 1 13 rfl) rfl, rfl⟩) ?_
  refine .off ?_
  exact .nil
  intro a324 w325 hn326 ha327
  obtain ⟨hs328, hd329, hN336⟩ := aft ha327 hs94 hd95 hN101 hn326
  have h330 := ha327.fx 3 hv323
  have h331 := ha327.fx 8 h97
  have h332 := ha327.fx 6 h98
  have h333 := ha327.fx 7 h99
  have h334 := ha327.fx 5 h100
  have h335 := ha327.ge 4 16 rfl
  refine st_take rfl rfl (y_assign (v := .bool true) rfl h335) rfl ?_
  obtain ⟨a337, ha338⟩ : ∃ a', a' = a324.put (some 3) (.bool true) := ⟨_, rfl⟩
  have hs339 : a337.tmps.size = 38 := by rw [ha338, put_size]; exact hs328
  have hd340 : a337.defers = [] := by rw [ha338, put_defers]; exact hd329
  have h341 := pn ha338 h331 (by decide)
  have h342 := pn ha338 h332 (by decide)
  have h343 := pn ha338 h333 (by decide)
  have h344 := pn ha338 h334 (by decide)
  have h345 := pn ha338 h335 (by decide)
  have h346 : a337.eval (.tmp 3) = .bool true := by rw [ha338]; exact put_same _ _ _ (by rw [hs328]; decide)
  show stepsTo _ _ _ _ _ (a324.put (some 3) (.bool true)) _
  rw [← ha338]
  refine st_nil ?_
  exact hK321 _ _ ⟨hs339, hd340, hN336, (h346.trans (congrArg Value.bool (by rw [any_up (by omega)]; simp only [ht322, bsm]))), h344, h342, h343, h341⟩
  have hv347 := hB h96 ht322
  have hb := hu.at16 i
  refine wp_g0 [true, true, true, true, true, false] [(5, true)] 38
    [ve (.bool false),
     ve (.bool false),
     ve (.int .u16 ((u.getD i 0 : Nat) : Int)),
     ve (.bool (dgtN (u.getD i 0))),
     ve (.bool (dgtN (u.getD i 0))),
     vt] hs94 (.eq (.eq (.eq (.eq (.eq (.tt (.nil))))))) ?_ ?_
  refine .o1 (tk rfl rfl fun _ w hn k => ⟨_, v_move rfl (k.fx 3 hv347), rfl⟩) ?_
  refine .o1 (tk rfl rfl fun _ w hn k => ⟨_, v_move rfl (k.eq1 0 12 rfl), rfl⟩) ?_
  refine .o1 (tg rfl rfl rfl (fun _ _ k => k.eq1 1 13 rfl) fun _ w hn k => ⟨_, v_move rfl (k.fx 5 h100), rfl⟩) ?_
  refine .o1 (cg rfl rfl rfl (fun _ _ k => k.eq1 1 13 rfl) rfl (fun _ w hn k => ⟨#[.int .u16 ((u.getD i 0 : Nat) : Int)], args1 (k.eq1 2 14 rfl), fun _ => by kernel_rfl, digit_c (u.getD i 0) _ (by omega)⟩) fun _ => rfl) ?_
  refine .o1 (tk rfl rfl fun _ w hn k => ⟨_, v_pickF rfl (k.eq1 1 13 rfl) (k.eq1 3 15 rfl), rfl⟩) ?_
  refine .off ?_
  exact .nil
  intro a348 w349 hn350 ha351
  obtain ⟨hs352, hd353, hN360⟩ := aft ha351 hs94 hd95 hN101 hn350
  have h354 := ha351.fx 3 hv347
  have h355 := ha351.fx 8 h97
  have h356 := ha351.fx 6 h98
  have h357 := ha351.fx 7 h99
  have h358 := ha351.fx 5 h100
  have h359 := ha351.ge 4 16 rfl
  refine st_take rfl rfl (y_assign (v := .bool (dgtN (u.getD i 0))) rfl h359) rfl ?_
  obtain ⟨a361, ha362⟩ : ∃ a', a' = a348.put (some 3) (.bool (dgtN (u.getD i 0))) := ⟨_, rfl⟩
  have hs363 : a361.tmps.size = 38 := by rw [ha362, put_size]; exact hs352
  have hd364 : a361.defers = [] := by rw [ha362, put_defers]; exact hd353
  have h365 := pn ha362 h355 (by decide)
  have h366 := pn ha362 h356 (by decide)
  have h367 := pn ha362 h357 (by decide)
  have h368 := pn ha362 h358 (by decide)
  have h369 := pn ha362 h359 (by decide)
  have h370 : a361.eval (.tmp 3) = .bool (dgtN (u.getD i 0)) := by rw [ha362]; exact put_same _ _ _ (by rw [hs352]; decide)
  show stepsTo _ _ _ _ _ (a348.put (some 3) (.bool (dgtN (u.getD i 0)))) _
  rw [← ha362]
  refine st_nil ?_
  exact hK321 _ _ ⟨hs363, hd364, hN360, (h370.trans (congrArg Value.bool (by rw [any_up (by omega)]; simp only [ht322, bsm]))), h368, h366, h367, h365⟩
  have ht56d := of_decide_eq_false ht56
  have hv371 := hB h53 ht56
  refine wp_cond_false hv371 ?_
  refine wp_exit ?_
  refine hK20 _ _ ?_
  refine wp_seq_k fun K372 hK372 => ?_
  refine wp_g0 [true, true] [] 38
    [ve (.bool ((u.take i).any dgtN)),
     ve (.bool ((u.take i).any dgtN))] hs47 (.eq (.eq (.nil))) ?_ ?_
  refine .o1 (tk rfl rfl fun _ w hn k => ⟨_, v_move rfl (k.fx 3 h49), rfl⟩) ?_
  refine .o1 (tk rfl rfl fun _ w hn k => ⟨_, v_assign rfl (k.eq1 0 37 rfl), rfl⟩) ?_
  exact .nil
  intro a373 w374 hn375 ha376
  obtain ⟨hs377, hd378, hN380⟩ := aft ha376 hs47 hd48 hN54 hn375
  have h379 := ha376.ge 1 2 rfl
  refine st_nil (hK372 _ _ ?_)
  refine wp_ret (ret_k hd378 (v := .bool ((u.take i).any dgtN)) (res_t rfl h379 _) ?_)
  exact ⟨by rw [show strangeN u = ((u.take i).any dgtN) from by unfold strangeN; rw [List.take_of_length_le (by omega)] at hall; rw [hall, Bool.true_and, List.take_of_length_le (by omega)]], hN380⟩
set_option maxHeartbeats 4000000 in
set_option maxRecDepth 100000 in
theorem value_c (Au : Option Addr) (u : List Nat) (cu : Nat) (w : World) (hru : SRow w .u16 Au u cu) (hu : U16s u) (hd : ∀ j, j < u.length → 48 ≤ u.getD j 0 ∧ u.getD j 0 ≤ 57) : Calls Try.prog 70 #[sv Au u cu] w (IsRet (.tuple #[iv ((valR u 0).1), .bool ((valR u 0).2)]) w) := by
  refine enter_abs Try.func70 rfl fun a0 hs0 hd0 hp => ?_
  have hs0 : a0.tmps.size = 25 := hs0
  have hN0 : New w w := Upd.refl _ _
  have hp0 : a0.eval (.tmp 0) = sv Au u cu := hp 0 _ rfl
  have hmx := hru.max
  refine wp_seq_k fun K1 hK1 => ?_
  refine wp_g0 [true, true] [] 25
    [ve (iv 0),
     ve (.bool false)] hs0 (.eq (.eq (.nil))) ?_ ?_
  refine .o1 (tk rfl rfl fun _ w hn k => ⟨_, v_assign rfl rfl, rfl⟩) ?_
  refine .o1 (tk rfl rfl fun _ w hn k => ⟨_, v_assign rfl rfl, rfl⟩) ?_
  exact .nil
  intro a2 w3 hn4 ha5
  obtain ⟨hs6, hd7, hN9⟩ := aft ha5 hs0 hd0 hN0 hn4
  have h8 := ha5.fx 0 hp0
  refine st_nil (hK1 _ _ ?_)
  refine wp_seq_k fun K10 hK10 => ?_
  refine wp_g0 [true] [] 25
    [ve (iv 0)] hs6 (.eq (.nil)) ?_ ?_
  refine .o1 (tk rfl rfl fun _ w hn k => ⟨_, v_assign rfl rfl, rfl⟩) ?_
  exact .nil
  intro a11 w12 hn13 ha14
  obtain ⟨hs15, hd16, hN19⟩ := aft ha14 hs6 hd7 hN9 hn13
  have h17 := ha14.fx 0 h8
  have h18 := ha14.ge 0 4 rfl
  refine st_nil (hK10 _ _ ?_)
  refine wp_seq_k fun K20 hK20 => ?_
  refine wp_seq_k fun K21 hK21 => ?_
  refine wp_g0 [true, true, true] [] 25
    [ve (sv Au u cu),
     ve (iv (u.length : Int)),
     ve (iv 0)] hs15 (.eq (.eq (.eq (.nil)))) ?_ ?_
  refine .o1 (tk rfl rfl fun _ w hn k => ⟨_, v_move rfl (k.fx 0 h17), rfl⟩) ?_
  refine .o1 (tk rfl rfl fun _ w hn k => ⟨_, v_lenR rfl elU (k.eq1 0 7 rfl), rfl⟩) ?_
  refine .o1 (tk rfl rfl fun _ w hn k => ⟨_, v_move rfl rfl, rfl⟩) ?_
  exact .nil
  intro a22 w23 hn24 ha25
  obtain ⟨hs26, hd27, hN32⟩ := aft ha25 hs15 hd16 hN19 hn24
  have h28 := ha25.fx 4 h18
  have h29 := ha25.ge 0 7 rfl
  have h30 := ha25.ge 1 8 rfl
  have h31 := ha25.ge 2 9 rfl
  refine st_nil (hK21 _ _ ?_)
  refine wp_block ?_
  refine wp_loopX (fun (mm : Nat) (aa : Act) (ww : World) => ∃ (i : Nat) (n : Int), mm = u.length - i ∧ aa.tmps.size = 25 ∧ aa.defers = [] ∧ New w ww ∧ aa.eval (.tmp 4) = iv n ∧ aa.eval (.tmp 9) = iv (i : Int) ∧ aa.eval (.tmp 7) = sv Au u cu ∧ aa.eval (.tmp 8) = iv (u.length : Int) ∧ (i ≤ u.length) ∧ (0 ≤ n ∧ n ≤ 9007199254741000) ∧ (valR u 0 = valR (u.drop i) n)) (fun mm => mm) ⟨_, ⟨0, 0, rfl, hs26, hd27, hN32, h28, h31, h29, h30, (Nat.zero_le _), (by omega), (by rw [List.drop_zero])⟩⟩ ?_
  rintro mm a33 w34 ⟨i, n, hmm, hs35, hd36, hN37, h38, h39, h40, h41, hi, hn, hv⟩
  refine wp_seq_k fun K42 hK42 => ?_
  refine wp_g0 [true] [] 25
    [ve (.bool (decide ((i : Int) < (u.length : Int))))] hs35 (.eq (.nil)) ?_ ?_
  refine .o1 (tk rfl rfl fun _ w hn k => ⟨_, v_bin rfl (k.fx 9 h39) (k.fx 8 h41) (fun _ => rfl) (r_lssK rfl), rfl⟩) ?_
  exact .nil
  intro a43 w44 hn45 ha46
  obtain ⟨hs47, hd48, hN54⟩ := aft ha46 hs35 hd36 hN37 hn45
  have h49 := ha46.fx 4 h38
  have h50 := ha46.fx 9 h39
  have h51 := ha46.fx 7 h40
  have h52 := ha46.fx 8 h41
  have h53 := ha46.ge 0 10 rfl
  refine st_nil (hK42 _ _ ?_)
  refine wp_seq_k fun K55 hK55 => ?_
  rcases Bool.eq_false_or_eq_true (decide ((i : Int) < (u.length : Int))) with ht56 | ht56
  have ht56d := of_decide_eq_true ht56
  have hv57 := hB h53 ht56
  refine wp_cond_true hv57 ?_
  refine wp_skip ?_
  refine hK55 _ _ ?_
  refine wp_seq_k fun K58 hK58 => ?_
  refine wp_block ?_
  refine wp_seq_k fun K59 hK59 => ?_
  have hb := hu.at16 i
  refine wp_g0 [true, true, true] [] 25
    [(fun (v_ : Value) (W : World) => ∃ (b3 : Nat) (o4 : Nat), v_ = .pointer (some ⟨b3, o4, none⟩) ∧ SElem W b3 o4 (.int .u16 ((u.getD i 0 : Nat) : Int))),
     ve (.int .u16 ((u.getD i 0 : Nat) : Int)),
     ve (.int .u16 ((u.getD i 0 : Nat) : Int))] hs47 (.cons (fun v W W' hn ⟨b3, o4, he, h0⟩ => ⟨b3, o4, he, h0.new_ hn⟩) (.eq (.eq (.nil)))) ?_ ?_
  refine .o1 (tk rfl rfl fun _ w hn k => (by
        exact x_eaddr (k := .u16) rfl elU (k.fx 7 h51) (k.fx 9 h50) (hru.new_ (hN54.transNew hn)) (by omega) fun b1 o2 hme => ⟨b1, o2, rfl, hme⟩)) ?_
  refine .o1 (tk rfl rfl fun _ w hn k => (by
        obtain ⟨b5, o6, e7, hx8⟩ : (fun (v_ : Value) (W : World) => ∃ (b3 : Nat) (o4 : Nat), v_ = .pointer (some ⟨b3, o4, none⟩) ∧ SElem W b3 o4 (.int .u16 ((u.getD i 0 : Nat) : Int))) _ _ := k.dep 0 11 (by kernel_rfl) (by kernel_rfl)
        exact ⟨_, v_load rfl e7 (l_one Try.isAgg66 hx8.1), rfl⟩)) ?_
  refine .o1 (tk rfl rfl fun _ w hn k => ⟨_, v_assign rfl (k.eq1 1 12 rfl), rfl⟩) ?_
  exact .nil
  intro a60 w61 hn62 ha63
  obtain ⟨hs64, hd65, hN71⟩ := aft ha63 hs47 hd48 hN54 hn62
  have h66 := ha63.fx 4 h49
  have h67 := ha63.fx 9 h50
  have h68 := ha63.fx 7 h51
  have h69 := ha63.fx 8 h52
  have h70 := ha63.ge 2 6 rfl
  refine st_nil (hK59 _ _ ?_)
  refine wp_seq_k fun K72 hK72 => ?_
  refine wp_seq_k fun K73 hK73 => ?_
  rcases Bool.eq_false_or_eq_true (decide (n ≤ 900719925474099)) with ht74 | ht74
  have ht74d := of_decide_eq_true ht74
  refine wp_g0 [true, true] [] 25
    [ve (iv n),
     ve (.bool false)] hs64 (.eq (.eq (.nil))) ?_ ?_
  refine .o1 (tk rfl rfl fun _ w hn k => ⟨_, v_move rfl (k.fx 4 h66), rfl⟩) ?_
  refine .o1 (tk rfl rfl fun _ w hn k => ⟨_, v_bin rfl (k.eq1 0 13 rfl) rfl (fun _ => rfl) (r_gtrK ht74), rfl⟩) ?_
  exact .nil
  intro a75 w76 hn77 ha78
  obtain ⟨hs79, hd80, hN87⟩ := aft ha78 hs64 hd65 hN71 hn77
  have h81 := ha78.fx 4 h66
  have h82 := ha78.fx 9 h67
  have h83 := ha78.fx 7 h68
  have h84 := ha78.fx 8 h69
  have h85 := ha78.fx 6 h70
  have h86 := ha78.ge 1 14 rfl
  refine st_nil (hK73 _ _ ?_)
  refine wp_cond_false h86 ?_
  refine wp_skip ?_
  refine hK72 _ _ ?_
  have hdg := hd i (by omega)
  have hb := hu.at16 i
  refine wp_g0 [true, true, true, true, true, true, false] [(6, true)] 25
    [ve (iv n),
     ve (iv (10 * n)),
     ve (.int .u16 ((u.getD i 0 : Nat) : Int)),
     ve (.int .u16 (((u.getD i 0) - 48 : Nat) : Int)),
     ve (iv (((u.getD i 0) - 48 : Nat) : Int)),
     ve (iv ((10 * n) + (((u.getD i 0) - 48 : Nat) : Int))),
     vt] hs79 (.eq (.eq (.eq (.eq (.eq (.eq (.tt (.nil)))))))) ?_ ?_
  refine .o1 (tk rfl rfl fun _ w hn k => ⟨_, v_move rfl (k.fx 4 h81), rfl⟩) ?_
  refine .o1 (tk rfl rfl fun _ w hn k => ⟨_, v_bin rfl rfl (k.eq1 0 15 rfl) (fun _ => rfl) (n_mul rfl (IntWalk.i64_in _ (by omega))), rfl⟩) ?_
  refine .o1 (tk rfl rfl fun _ w hn k => ⟨_, v_move rfl (k.fx 6 h85), rfl⟩) ?_
  refine .o1 (tk rfl rfl fun _ w hn k => ⟨_, v_bin rfl (k.eq1 2 17 rfl) rfl (fun _ => rfl) (n_sub (by omega) (IntWalk.u16_in _ (by omega))), rfl⟩) ?_
  refine .o1 (tk rfl rfl fun _ w hn k => ⟨_, v_conv rfl (k.eq1 3 18 rfl) (n_conv (by kernel_rfl) (by kernel_rfl) (by kernel_rfl) (IntWalk.i64_in _ (by omega))), rfl⟩) ?_
  refine .o1 (tk rfl rfl fun _ w hn k => ⟨_, v_bin rfl (k.eq1 1 16 rfl) (k.eq1 4 19 rfl) (fun _ => rfl) (r_add rfl (by omega)), rfl⟩) ?_
  refine .off ?_
  exact .nil
  intro a88 w89 hn90 ha91
  obtain ⟨hs92, hd93, hN99⟩ := aft ha91 hs79 hd80 hN87 hn90
  have h94 := ha91.fx 4 h81
  have h95 := ha91.fx 9 h82
  have h96 := ha91.fx 7 h83
  have h97 := ha91.fx 8 h84
  have h98 := ha91.ge 5 20 rfl
  refine st_take rfl rfl (y_assign (v := iv ((10 * n) + (((u.getD i 0) - 48 : Nat) : Int))) rfl h98) rfl ?_
  obtain ⟨a100, ha101⟩ : ∃ a', a' = a88.put (some 4) (iv ((10 * n) + (((u.getD i 0) - 48 : Nat) : Int))) := ⟨_, rfl⟩
  have hs102 : a100.tmps.size = 25 := by rw [ha101, put_size]; exact hs92
  have hd103 : a100.defers = [] := by rw [ha101, put_defers]; exact hd93
  have h104 := pn ha101 h95 (by decide)
  have h105 := pn ha101 h96 (by decide)
  have h106 := pn ha101 h97 (by decide)
  have h107 := pn ha101 h98 (by decide)
  have h108 : a100.eval (.tmp 4) = iv ((10 * n) + (((u.getD i 0) - 48 : Nat) : Int)) := by rw [ha101]; exact put_same _ _ _ (by rw [hs92]; decide)
  show stepsTo _ _ _ _ _ (a88.put (some 4) (iv ((10 * n) + (((u.getD i 0) - 48 : Nat) : Int)))) _
  rw [← ha101]
  refine st_nil (hK58 _ _ ?_)
  refine wp_g0 [true, false] [(1, true)] 25
    [ve (iv ((i + 1 : Nat) : Int)),
     vt] hs102 (.eq (.tt (.nil))) ?_ ?_
  refine .o1 (tk rfl rfl fun _ w hn k => ⟨_, v_bin rfl (k.fx 9 h104) rfl (fun _ => rfl) (n_add (by omega) (IntWalk.i64_in _ (by omega))), rfl⟩) ?_
  refine .off ?_
  exact .nil
  intro a109 w110 hn111 ha112
  obtain ⟨hs113, hd114, hN120⟩ := aft ha112 hs102 hd103 hN99 hn111
  have h115 := ha112.fx 9 h104
  have h116 := ha112.fx 7 h105
  have h117 := ha112.fx 8 h106
  have h118 := ha112.fx 4 h108
  have h119 := ha112.ge 0 21 rfl
  refine st_take rfl rfl (y_move (v := iv ((i + 1 : Nat) : Int)) rfl h119) rfl ?_
  obtain ⟨a121, ha122⟩ : ∃ a', a' = a109.put (some 9) (iv ((i + 1 : Nat) : Int)) := ⟨_, rfl⟩
  have hs123 : a121.tmps.size = 25 := by rw [ha122, put_size]; exact hs113
  have hd124 : a121.defers = [] := by rw [ha122, put_defers]; exact hd114
  have h125 := pn ha122 h116 (by decide)
  have h126 := pn ha122 h117 (by decide)
  have h127 := pn ha122 h118 (by decide)
  have h128 := pn ha122 h119 (by decide)
  have h129 : a121.eval (.tmp 9) = iv ((i + 1 : Nat) : Int) := by rw [ha122]; exact put_same _ _ _ (by rw [hs113]; decide)
  show stepsTo _ _ _ _ _ (a109.put (some 9) (iv ((i + 1 : Nat) : Int))) _
  rw [← ha122]
  refine st_nil ?_
  refine then_n ?_
  exact ⟨_, ⟨i + 1, 10 * n + (((u.getD i 0 : Nat) : Int) - 48), rfl, hs123, hd124, hN120, (h127.trans (congrArg (Value.int .i64) (by omega))), (h129.trans (congrArg (Value.int .i64) (by omega))), h125, h126, (by omega), (by omega), (hv.trans (by rw [drop_at (by omega)]; simp only [valR, ht74]; rfl))⟩, (by omega)⟩
  have ht74d := of_decide_eq_false ht74
  refine wp_g0 [true, true] [] 25
    [ve (iv n),
     ve (.bool true)] hs64 (.eq (.eq (.nil))) ?_ ?_
  refine .o1 (tk rfl rfl fun _ w hn k => ⟨_, v_move rfl (k.fx 4 h66), rfl⟩) ?_
  refine .o1 (tk rfl rfl fun _ w hn k => ⟨_, v_bin rfl (k.eq1 0 13 rfl) rfl (fun _ => rfl) (r_gtrK ht74), rfl⟩) ?_
  exact .nil
  intro a130 w131 hn132 ha133
  obtain ⟨hs134, hd135, hN142⟩ := aft ha133 hs64 hd65 hN71 hn132
  have h136 := ha133.fx 4 h66
  have h137 := ha133.fx 9 h67
  have h138 := ha133.fx 7 h68
  have h139 := ha133.fx 8 h69
  have h140 := ha133.fx 6 h70
  have h141 := ha133.ge 1 14 rfl
  refine st_nil (hK73 _ _ ?_)
  refine wp_cond_true h141 ?_
  refine wp_seq_k fun K143 hK143 => ?_
  refine wp_g0 [true, true] [] 25
    [ve (iv 0),
     ve (.bool false)] hs134 (.eq (.eq (.nil))) ?_ ?_
  refine .o1 (tk rfl rfl fun _ w hn k => ⟨_, v_assign rfl rfl, rfl⟩) ?_
  refine .o1 (tk rfl rfl fun _ w hn k => ⟨_, v_assign rfl rfl, rfl⟩) ?_
  exact .nil
  intro a144 w145 hn146 ha147
  obtain ⟨hs148, hd149, hN152⟩ := aft ha147 hs134 hd135 hN142 hn146
  have h150 := ha147.ge 0 2 rfl
  have h151 := ha147.ge 1 3 rfl
  refine st_nil (hK143 _ _ ?_)
  refine wp_ret (ret_k hd149 (v := .tuple #[iv 0, .bool false]) (res_tt rfl h150 h151 _) ?_)
  exact ⟨by rw [show valR u 0 = (0, false) from hv.trans (by rw [drop_at (by omega)]; simp only [valR, ht74]; rfl)], hN152⟩
  have ht56d := of_decide_eq_false ht56
  have hv153 := hB h53 ht56
  refine wp_cond_false hv153 ?_
  refine wp_exit ?_
  refine hK20 _ _ ?_
  refine wp_seq_k fun K154 hK154 => ?_
  refine wp_g0 [true, true, true, true, true] [] 25
    [ve (iv n),
     ve (iv n),
     ve (.bool (decide (n ≤ 9007199254740991))),
     ve (iv n),
     ve (.bool (decide (n ≤ 9007199254740991)))] hs47 (.eq (.eq (.eq (.eq (.eq (.nil)))))) ?_ ?_
  refine .o1 (tk rfl rfl fun _ w hn k => ⟨_, v_move rfl (k.fx 4 h49), rfl⟩) ?_
  refine .o1 (tk rfl rfl fun _ w hn k => ⟨_, v_move rfl (k.fx 4 h49), rfl⟩) ?_
  refine .o1 (tk rfl rfl fun _ w hn k => ⟨_, v_bin rfl (k.eq1 1 23 rfl) rfl (fun _ => rfl) (r_leqK rfl), rfl⟩) ?_
  refine .o1 (tk rfl rfl fun _ w hn k => ⟨_, v_assign rfl (k.eq1 0 22 rfl), rfl⟩) ?_
  refine .o1 (tk rfl rfl fun _ w hn k => ⟨_, v_assign rfl (k.eq1 2 24 rfl), rfl⟩) ?_
  exact .nil
  intro a155 w156 hn157 ha158
  obtain ⟨hs159, hd160, hN163⟩ := aft ha158 hs47 hd48 hN54 hn157
  have h161 := ha158.ge 3 2 rfl
  have h162 := ha158.ge 4 3 rfl
  refine st_nil (hK154 _ _ ?_)
  refine wp_ret (ret_k hd160 (v := .tuple #[iv n, .bool (decide (n ≤ 9007199254740991))]) (res_tt rfl h161 h162 _) ?_)
  exact ⟨by rw [show valR u 0 = (n, decide (n ≤ 9007199254740991)) from hv.trans (by rw [List.drop_eq_nil_of_le (by omega)]; rfl)], hN163⟩
set_option maxHeartbeats 16000000 in
set_option maxRecDepth 100000 in
theorem tnumber_c (Au : Option Addr) (u : List Nat) (cu : Nat) (w : World) (hru : SRow w .u16 Au u cu) (hu : U16s u) : Calls Try.prog 45 #[sv Au u cu] w (IsRet (.tuple #[nv ((numT u).1), .bool ((numT u).2)]) w) := by
  refine enter_abs Try.func45 rfl fun a0 hs0 hd0 hp => ?_
  have hs0 : a0.tmps.size = 91 := hs0
  have hN0 : New w w := Upd.refl _ _
  have hp0 : a0.eval (.tmp 0) = sv Au u cu := hp 0 _ rfl
  have hmx := hru.max
  refine wp_seq_k fun K1 hK1 => ?_
  refine wp_g [true, true] [] [] 91
    [IsNew w 23 [iv 0, iv 0],
     ve (.bool false)]
    [0] (newsCons (fun v w h => IsNew.old h) newsNil) hs0 (.nw (.eq (.nil))) ?_ (fun i h => by cases h) ?_
  refine .o2 (step_allocN (cs := [iv 0, iv 0]) (t := 23) rfl (noG rfl) (fun _ w hn k => rfl) (fun q _ hq hb => ⟨q, rfl, hq, hb⟩)) ?_
  refine .o1 (tk rfl rfl fun _ w hn k => ⟨_, v_assign rfl rfl, rfl⟩) ?_
  exact .nil
  intro a2 w3 hn4 ha5
  obtain ⟨hs6, hd7, hN14⟩ := aft ha5 hs0 hd0 hN0 hn4
  have h8 := ha5.fx 0 hp0
  obtain ⟨q10, h9, hq11, hb12⟩ : IsNew _ _ _ _ _ := ha5.got 0 2 rfl (by kernel_rfl)
  have hq13 := Nat.le_trans hN0.size hq11
  refine st_nil (hK1 _ _ ?_)
  refine wp_seq_j (fun (aa : Act) (ww : World) => ∃ (A3 : Option Addr), ∃ (c3 : Nat), aa.tmps.size = 91 ∧ aa.defers = [] ∧ New w ww ∧ aa.eval (.tmp 0) = sv A3 (u.dropWhile blankN) c3 ∧ aa.eval (.tmp 2) = pv q10 ∧ Blk ww q10 23 [iv 0, iv 0] ∧ SRow ww .u16 A3 (u.dropWhile blankN) c3) ?_ ?_
  rintro a15 w16 ⟨A3, c3, hs17, hd18, hN19, h20, h21, hb22, hr23⟩
  refine wp_seq_j (fun (aa : Act) (ww : World) => ∃ (A4 : Option Addr), ∃ (c4 : Nat), aa.tmps.size = 91 ∧ aa.defers = [] ∧ New w ww ∧ aa.eval (.tmp 0) = sv A4 (trimN u) c4 ∧ aa.eval (.tmp 2) = pv q10 ∧ Blk ww q10 23 [iv 0, iv 0] ∧ SRow ww .u16 A4 (trimN u) c4) ?_ ?_
  rintro a24 w25 ⟨A4, c4, hs26, hd27, hN28, h29, h30, hb31, hr32⟩
  have hut := hu.trim
  refine wp_seq_k fun K33 hK33 => ?_
  refine wp_g [true, true, false] [] [(2, false)] 91
    [ve (nv (Nm.mk 2 0)),
     IsNew w25 23 [iv 0, iv 0],
     vt]
    [1] (newsCons (fun v w h => IsNew.old h) newsNil) hs26 (.eq (.nw (.tt (.nil)))) ?_ (fun i h => by cases h) ?_
  refine .o1 (tk rfl rfl fun _ w hn k => ⟨_, v_build (ps := [(0, iv 2)]) rfl (parts1 rfl) (by kernel_rfl), rfl⟩) ?_
  refine .o2 (step_allocN (cs := [iv 0, iv 0]) (t := 23) rfl (noG rfl) (fun _ w hn k => rfl) (fun q _ hq hb => ⟨q, rfl, hq, hb⟩)) ?_
  refine .off ?_
  exact .nil
  intro a34 w35 hn36 ha37
  obtain ⟨hs38, hd39, hN51⟩ := aft ha37 hs26 hd27 hN28 hn36
  have h40 := ha37.fx 0 h29
  have h41 := ha37.fx 2 h30
  have h42 := ha37.ge 0 39 rfl
  obtain ⟨q44, h43, hq45, hb46⟩ : IsNew _ _ _ _ _ := ha37.got 1 4 rfl (by kernel_rfl)
  have hb47 := hb31.new_ hn36
  have hne48 : q10 ≠ q44 := by have h1 := hb31.lt; have h2 := hq45; omega
  have hq49 := Nat.le_trans hN28.size hq45
  have hr50 := hr32.new_ hn36
  obtain ⟨w52, -, hst53, hb54, hu55, hf56⟩ := s_two (v0 := iv 2) (v1 := iv 0) Try.sizeOf23 rfl rfl rfl hb46
  refine st_act rfl rfl fun K57 hL58 => a_store' rfl h43 h42 hst53 (hL58 _ _ trivial ?_)
  have hr59 := hr50.far hb46 hu55 (by first | rfl | decide | simp [notK])
  have hb60 := hf56 _ _ _ (hne48) hb47
  have hN61 := hN51.trans hu55 (fun k hk hkb => by subst hkb; omega)
  refine st_nil (hK33 _ _ ?_)
  refine wp_seq_k fun K62 hK62 => ?_
  refine wp_seq_k fun K63 hK63 => ?_
  refine wp_g0 [true, true, true] [] 91
    [ve (sv A4 (trimN u) c4),
     ve (iv ((trimN u).length : Int)),
     ve (.bool (decide (((trimN u).length : Int) = 0)))] hs38 (.eq (.eq (.eq (.nil)))) ?_ ?_
  refine .o1 (tk rfl rfl fun _ w hn k => ⟨_, v_move rfl (k.fx 0 h40), rfl⟩) ?_
  refine .o1 (tk rfl rfl fun _ w hn k => ⟨_, v_lenR rfl elU (k.eq1 0 40 rfl), rfl⟩) ?_
  refine .o1 (tk rfl rfl fun _ w hn k => ⟨_, v_bin rfl (k.eq1 1 41 rfl) rfl (fun _ => rfl) (r_eql rfl), rfl⟩) ?_
  exact .nil
  intro a64 w65 hn66 ha67
  obtain ⟨hs68, hd69, hN77⟩ := aft ha67 hs38 hd39 hN61 hn66
  have h70 := ha67.fx 0 h40
  have h71 := ha67.fx 2 h41
  have h72 := ha67.fx 4 h43
  have h73 := ha67.ge 2 42 rfl
  have hb74 := hb60.new_ hn66
  have hb75 := hb54.new_ hn66
  have hr76 := hr59.new_ hn66
  refine st_nil (hK63 _ _ ?_)
  rcases Bool.eq_false_or_eq_true (decide (((trimN u).length : Int) = 0)) with ht78 | ht78
  have ht78d := of_decide_eq_true ht78
  have hv79 := hB h73 ht78
  refine wp_cond_true hv79 ?_
  refine wp_seq_k fun K80 hK80 => ?_
  refine wp_g0 [true, false, false] [(1, false), (2, true)] 91
    [ve (nv (Nm.mk 0 0)),
     vt,
     vt] hs68 (.eq (.tt (.tt (.nil)))) ?_ ?_
  refine .o1 (tk rfl rfl fun _ w hn k => ⟨_, v_build (ps := []) rfl parts0 (by kernel_rfl), rfl⟩) ?_
  refine .off ?_
  refine .off ?_
  exact .nil
  intro a81 w82 hn83 ha84
  obtain ⟨hs85, hd86, hN90⟩ := aft ha84 hs68 hd69 hN77 hn83
  have h87 := ha84.fx 2 h71
  have h88 := ha84.ge 0 43 rfl
  have hb89 := hb74.new_ hn83
  obtain ⟨w91, -, hst92, hb93, hu94, hf95⟩ := s_two (v0 := iv 0) (v1 := iv 0) Try.sizeOf23 rfl rfl rfl hb89
  refine st_act rfl rfl fun K96 hL97 => a_store' rfl h87 h88 hst92 (hL97 _ _ trivial ?_)
  have hN98 := hN90.trans hu94 (fun k hk hkb => by subst hkb; omega)
  refine st_take rfl rfl (y_assign (v := .bool true) rfl rfl) rfl ?_
  obtain ⟨a99, ha100⟩ : ∃ a', a' = a81.put (some 3) (.bool true) := ⟨_, rfl⟩
  have hs101 : a99.tmps.size = 91 := by rw [ha100, put_size]; exact hs85
  have hd102 : a99.defers = [] := by rw [ha100, put_defers]; exact hd86
  have h103 := pn ha100 h87 (by decide)
  have h104 := pn ha100 h88 (by decide)
  have h105 : a99.eval (.tmp 3) = .bool true := by rw [ha100]; exact put_same _ _ _ (by rw [hs85]; decide)
  show stepsTo _ _ _ _ _ (a81.put (some 3) (.bool true)) _
  rw [← ha100]
  refine st_nil (hK80 _ _ ?_)
  refine wp_ret (ret_k hd102 (v := .tuple #[nv (Nm.mk 0 0), .bool true]) (res_ct rfl h103 h105 (l_two Try.isAgg23 Try.sizeOf23 hb93)) ?_)
  refine ⟨?_, hN98⟩
  show Ending.returned (.tuple #[nv (Nm.mk 0 0), .bool true]) = Ending.returned (.tuple #[nv ((numT u).1), .bool ((numT u).2)])
  first | rfl | (simp only [numT, bodyT, ht78, bsm] <;> rfl) | (simp [numT, bodyT, ht78]; done) | (exfalso; omega)
  have ht78d := of_decide_eq_false ht78
  have hv106 := hB h73 ht78
  refine wp_cond_false hv106 ?_
  refine wp_skip ?_
  refine hK62 _ _ ?_
  refine wp_seq_k fun K107 hK107 => ?_
  refine wp_g0 [true, true, true, true, true, true, true] [] 91
    [ve (sv A4 (trimN u) c4),
     ve (sv A4 (trimN u) c4),
     (fun (v_ : Value) (W : World) => ∃ (b3 : Nat) (o4 : Nat), v_ = .pointer (some ⟨b3, o4, none⟩) ∧ SElem W b3 o4 (.int .u16 (((trimN u).getD 0 0 : Nat) : Int))),
     ve (.int .u16 (((trimN u).getD 0 0 : Nat) : Int)),
     ve (.bool (decide ((((trimN u).getD 0 0 : Nat) : Int) = 45))),
     ve (sv A4 (trimN u) c4),
     ve (.bool (decide ((((trimN u).getD 0 0 : Nat) : Int) = 45)))] hs68 (.eq (.eq (.cons (fun v W W' hn ⟨b3, o4, he, h0⟩ => ⟨b3, o4, he, h0.new_ hn⟩) (.eq (.eq (.eq (.eq (.nil)))))))) ?_ ?_
  refine .o1 (tk rfl rfl fun _ w hn k => ⟨_, v_move rfl (k.fx 0 h70), rfl⟩) ?_
  refine .o1 (tk rfl rfl fun _ w hn k => ⟨_, v_move rfl (k.fx 0 h70), rfl⟩) ?_
  refine .o1 (tk rfl rfl fun _ w hn k => (by
        exact x_eaddr (k := .u16) rfl elU (k.eq1 1 45 rfl) rfl (hr76.new_ hn) (by omega) fun b1 o2 hme => ⟨b1, o2, rfl, hme⟩)) ?_
  refine .o1 (tk rfl rfl fun _ w hn k => (by
        obtain ⟨b5, o6, e7, hx8⟩ : (fun (v_ : Value) (W : World) => ∃ (b3 : Nat) (o4 : Nat), v_ = .pointer (some ⟨b3, o4, none⟩) ∧ SElem W b3 o4 (.int .u16 (((trimN u).getD 0 0 : Nat) : Int))) _ _ := k.dep 2 46 (by kernel_rfl) (by kernel_rfl)
        exact ⟨_, v_load rfl e7 (l_one Try.isAgg66 hx8.1), rfl⟩)) ?_
  refine .o1 (tk rfl rfl fun _ w hn k => ⟨_, v_bin rfl (k.eq1 3 47 rfl) rfl (fun _ => rfl) (r_eql rfl), rfl⟩) ?_
  refine .o1 (tk rfl rfl fun _ w hn k => ⟨_, v_assign rfl (k.eq1 0 44 rfl), rfl⟩) ?_
  refine .o1 (tk rfl rfl fun _ w hn k => ⟨_, v_assign rfl (k.eq1 4 48 rfl), rfl⟩) ?_
  exact .nil
  intro a108 w109 hn110 ha111
  obtain ⟨hs112, hd113, hN122⟩ := aft ha111 hs68 hd69 hN77 hn110
  have h114 := ha111.fx 0 h70
  have h115 := ha111.fx 2 h71
  have h116 := ha111.fx 4 h72
  have h117 := ha111.ge 5 5 rfl
  have h118 := ha111.ge 6 6 rfl
  have hb119 := hb74.new_ hn110
  have hb120 := hb75.new_ hn110
  have hr121 := hr76.new_ hn110
  refine st_nil (hK107 _ _ ?_)
  refine wp_seq_j (fun (aa : Act) (ww : World) => ∃ (ng : Bool), ∃ (dd : List Nat), ∃ (A5 : Option Addr), ∃ (c5 : Nat), aa.tmps.size = 91 ∧ aa.defers = [] ∧ New w ww ∧ aa.eval (.tmp 5) = sv A5 dd c5 ∧ aa.eval (.tmp 6) = .bool ng ∧ aa.eval (.tmp 0) = sv A4 (trimN u) c4 ∧ aa.eval (.tmp 2) = pv q10 ∧ aa.eval (.tmp 4) = pv q44 ∧ Blk ww q10 23 [iv 0, iv 0] ∧ Blk ww q44 23 [iv 2, iv 0] ∧ SRow ww .u16 A5 dd c5 ∧ SRow ww .u16 A4 (trimN u) c4 ∧ (numT u = bodyT (trimN u) dd ng) ∧ (U16s dd)) ?_ ?_
  rintro a123 w124 ⟨ng, dd, A5, c5, hs125, hd126, hN127, h128, h129, h130, h131, h132, hb133, hb134, hr135, hr136, hbody, hdd⟩
  refine wp_seq_k fun K137 hK137 => ?_
  refine wp_g [true, true, true, true, true, false, false] [3] [(5, false), (6, true)] 91
    [ve (nv (Nm.mk 2 0)),
     ve (sv A4 (trimN u) c4),
     ve (.bool (strangeN (trimN u))),
     ve (.bool (!(strangeN (trimN u)))),
     IsNew w124 23 [iv 0, iv 0],
     vt,
     vt]
    [4] (newsCons (fun v w h => IsNew.old h) newsNil) hs125 (.eq (.eq (.eq (.eq (.nw (.tt (.tt (.nil)))))))) ?_ ?_ ?_
  refine .o1 (tk rfl rfl fun _ w hn k => ⟨_, v_load rfl (k.fx 4 h132) (l_two Try.isAgg23 Try.sizeOf23 (hb134.new_ hn)), rfl⟩) ?_
  refine .o1 (tk rfl rfl fun _ w hn k => ⟨_, v_move rfl (k.fx 0 h130), rfl⟩) ?_
  refine .o1 (ck rfl rfl rfl (fun _ w hn k => ⟨#[sv A4 (trimN u) c4], args1 (k.eq1 1 59 rfl), fun _ => by kernel_rfl, strange_c _ (trimN u) _ _ (hr136.new_ hn) hut⟩) fun _ => rfl) ?_
  refine .o3 ?_
  refine .o2 (step_allocN (cs := [iv 0, iv 0]) (t := 23) rfl (noG rfl) (fun _ w hn k => rfl) (fun q _ hq hb => ⟨q, rfl, hq, hb⟩)) ?_
  refine .off ?_
  refine .off ?_
  exact .nil
  intro i h
  simp only [List.contains_eq_mem, List.mem_cons, List.not_mem_nil, or_false, decide_eq_true_eq] at h
  subst h
  exact eager_take rfl rfl fun _ w hn k => ⟨.bool (!(strangeN (trimN u))), fun w => v_not rfl (k.eq1 2 60 rfl), rfl⟩
  intro a138 w139 hn140 ha141
  obtain ⟨hs142, hd143, hN160⟩ := aft ha141 hs125 hd126 hN127 hn140
  have h144 := ha141.fx 5 h128
  have h145 := ha141.fx 6 h129
  have h146 := ha141.fx 2 h131
  have h147 := ha141.fx 4 h132
  have h148 := ha141.ge 0 58 rfl
  have h149 := ha141.ge 3 61 rfl
  obtain ⟨q151, h150, hq152, hb153⟩ : IsNew _ _ _ _ _ := ha141.got 4 7 rfl (by kernel_rfl)
  have hb154 := hb133.new_ hn140
  have hb155 := hb134.new_ hn140
  have hne156 : q10 ≠ q151 := by have h1 := hb133.lt; have h2 := hq152; omega
  have hne157 : q44 ≠ q151 := by have h1 := hb134.lt; have h2 := hq152; omega
  have hq158 := Nat.le_trans hN127.size hq152
  have hr159 := hr135.new_ hn140
  obtain ⟨w161, -, hst162, hb163, hu164, hf165⟩ := s_two (v0 := iv 2) (v1 := iv 0) Try.sizeOf23 rfl rfl rfl hb153
  refine st_act rfl rfl fun K166 hL167 => a_store' rfl h150 h148 hst162 (hL167 _ _ trivial ?_)
  have hr168 := hr159.far hb153 hu164 (by first | rfl | decide | simp [notK])
  have hb169 := hf165 _ _ _ (hne156) hb154
  have hb170 := hf165 _ _ _ (hne157) hb155
  have hN171 := hN160.trans hu164 (fun k hk hkb => by subst hkb; omega)
  refine st_take rfl rfl (y_assign (v := .bool (!(strangeN (trimN u)))) rfl h149) rfl ?_
  obtain ⟨a172, ha173⟩ : ∃ a', a' = a138.put (some 8) (.bool (!(strangeN (trimN u)))) := ⟨_, rfl⟩
  have hs174 : a172.tmps.size = 91 := by rw [ha173, put_size]; exact hs142
  have hd175 : a172.defers = [] := by rw [ha173, put_defers]; exact hd143
  have h176 := pn ha173 h144 (by decide)
  have h177 := pn ha173 h145 (by decide)
  have h178 := pn ha173 h146 (by decide)
  have h179 := pn ha173 h147 (by decide)
  have h180 := pn ha173 h148 (by decide)
  have h181 := pn ha173 h149 (by decide)
  have h182 := pn ha173 h150 (by decide)
  have h183 : a172.eval (.tmp 8) = .bool (!(strangeN (trimN u))) := by rw [ha173]; exact put_same _ _ _ (by rw [hs142]; decide)
  show stepsTo _ _ _ _ _ (a138.put (some 8) (.bool (!(strangeN (trimN u))))) _
  rw [← ha173]
  refine st_nil (hK137 _ _ ?_)
  refine wp_seq_k fun K184 hK184 => ?_
  refine wp_block ?_
  refine wp_seq_k fun K185 hK185 => ?_
  refine wp_g0 [true, true, true, true] [] 91
    [ve (sv A5 dd c5),
     (fun (v_ : Value) (W : World) => ∃ (A11 : Option Addr) (c12 : Nat), v_ = sv A11 (asc ⟨#[73, 110, 102, 105, 110, 105, 116, 121]⟩) c12 ∧ SOwn W w161.heap.size 66 .u16 A11 (asc ⟨#[73, 110, 102, 105, 110, 105, 116, 121]⟩) c12),
     ve (.bool (decide (dd = (asc ⟨#[73, 110, 102, 105, 110, 105, 116, 121]⟩)))),
     ve (.bool (decide (dd = (asc ⟨#[73, 110, 102, 105, 110, 105, 116, 121]⟩))))] hs174 (.eq (.cons (fun v W W' hn ⟨A11, c12, he, h0⟩ => ⟨A11, c12, he, h0.new_ hn⟩) (.eq (.eq (.nil))))) ?_ ?_
  refine .o1 (tk rfl rfl fun _ w hn k => ⟨_, v_move rfl (k.fx 5 h176), rfl⟩) ?_
  refine .o1 (tkC rfl (noG rfl) rfl fun _ w hn k => (by
        refine ⟨#[.string ⟨#[73, 110, 102, 105, 110, 105, 116, 121]⟩], _, args1 rfl, fun w => by kernel_rfl, ascii_c ⟨#[73, 110, 102, 105, 110, 105, 116, 121]⟩ _ (by first | omega | (show (_ : Nat) ≤ _; decide)), ?_⟩
        rintro e w' ⟨A9, c10, rfl, hmo0, hm⟩
        exact ⟨_, rfl, hm, ⟨A9, c10, rfl, (hmo0.more hn.size)⟩⟩)) ?_
  refine .o1 (tkC rfl (noG rfl) rfl fun _ w hn k => (by
        obtain ⟨A13, c14, e15, hx16⟩ : (fun (v_ : Value) (W : World) => ∃ (A11 : Option Addr) (c12 : Nat), v_ = sv A11 (asc ⟨#[73, 110, 102, 105, 110, 105, 116, 121]⟩) c12 ∧ SOwn W w161.heap.size 66 .u16 A11 (asc ⟨#[73, 110, 102, 105, 110, 105, 116, 121]⟩) c12) _ _ := k.dep 1 64 (by kernel_rfl) (by kernel_rfl)
        refine ⟨#[sv A5 dd c5, sv A13 (asc ⟨#[73, 110, 102, 105, 110, 105, 116, 121]⟩) c14], _, args2 (k.eq1 0 63 rfl) e15, fun w => by kernel_rfl, tsame_c _ dd _ _ (asc ⟨#[73, 110, 102, 105, 110, 105, 116, 121]⟩) _ _ (hr168.new_ hn) hx16.row, ?_⟩
        rintro e w' ⟨rfl, hm⟩
        exact ⟨_, rfl, hm, rfl⟩)) ?_
  refine .o1 (tk rfl rfl fun _ w hn k => ⟨_, v_assign rfl (k.eq1 2 65 rfl), rfl⟩) ?_
  exact .nil
  intro a186 w187 hn188 ha189
  obtain ⟨hs190, hd191, hN203⟩ := aft ha189 hs174 hd175 hN171 hn188
  have h192 := ha189.fx 5 h176
  have h193 := ha189.fx 6 h177
  have h194 := ha189.fx 2 h178
  have h195 := ha189.fx 4 h179
  have h196 := ha189.fx 7 h182
  have h197 := ha189.fx 8 h183
  have h198 := ha189.ge 3 62 rfl
  have hb199 := hb169.new_ hn188
  have hb200 := hb170.new_ hn188
  have hb201 := hb163.new_ hn188
  have hr202 := hr168.new_ hn188
  refine st_nil (hK185 _ _ ?_)
  rcases Bool.eq_false_or_eq_true (decide (dd = (asc ⟨#[73, 110, 102, 105, 110, 105, 116, 121]⟩))) with ht204 | ht204
  have ht204d := of_decide_eq_true ht204
  have hv205 := hB h198 ht204
  refine wp_cond_true hv205 ?_
  refine wp_g0 [true, false] [(1, false)] 91
    [ve (nv (Nm.mk 3 0)),
     vt] hs190 (.eq (.tt (.nil))) ?_ ?_
  refine .o1 (tk rfl rfl fun _ w hn k => ⟨_, v_build (ps := [(0, iv 3)]) rfl (parts1 rfl) (by kernel_rfl), rfl⟩) ?_
  refine .off ?_
  exact .nil
  intro a206 w207 hn208 ha209
  obtain ⟨hs210, hd211, hN219⟩ := aft ha209 hs190 hd191 hN203 hn208
  have h212 := ha209.fx 6 h193
  have h213 := ha209.fx 2 h194
  have h214 := ha209.fx 7 h196
  have h215 := ha209.fx 8 h197
  have h216 := ha209.ge 0 66 rfl
  have hb217 := hb199.new_ hn208
  have hb218 := hb201.new_ hn208
  obtain ⟨w220, -, hst221, hb222, hu223, hf224⟩ := s_two (v0 := iv 3) (v1 := iv 0) Try.sizeOf23 rfl rfl rfl hb218
  refine st_act rfl rfl fun K225 hL226 => a_store' rfl h214 h216 hst221 (hL226 _ _ trivial ?_)
  have hb227 := hf224 _ _ _ (hne156) hb217
  have hN228 := hN219.trans hu223 (fun k hk hkb => by subst hkb; omega)
  refine st_nil (hK184 _ _ ?_)
  refine wp_seq_k fun K229 hK229 => ?_
  refine wp_seq_k fun K230 hK230 => ?_
  refine wp_g0 [true] [] 91
    [ve (.bool ng)] hs210 (.eq (.nil)) ?_ ?_
  refine .o1 (tk rfl rfl fun _ w hn k => ⟨_, v_move rfl (k.fx 6 h212), rfl⟩) ?_
  exact .nil
  intro a231 w232 hn233 ha234
  obtain ⟨hs235, hd236, hN243⟩ := aft ha234 hs210 hd211 hN228 hn233
  have h237 := ha234.fx 2 h213
  have h238 := ha234.fx 7 h214
  have h239 := ha234.fx 8 h215
  have h240 := ha234.ge 0 86 rfl
  have hb241 := hb227.new_ hn233
  have hb242 := hb222.new_ hn233
  refine st_nil (hK230 _ _ ?_)
  rcases Bool.eq_false_or_eq_true (ng) with ht244 | ht244
  have hv245 := hB h240 ht244
  refine wp_cond_true hv245 ?_
  refine wp_g0 [true, true, false] [(2, false)] 91
    [ve (nv (Nm.mk 3 0)),
     ve (nv (negM (Nm.mk 3 0))),
     vt] hs235 (.eq (.eq (.tt (.nil)))) ?_ ?_
  refine .o1 (tk rfl rfl fun _ w hn k => ⟨_, v_load rfl (k.fx 7 h238) (l_two Try.isAgg23 Try.sizeOf23 (hb242.new_ hn)), rfl⟩) ?_
  refine .o1 (ck rfl rfl rfl (fun _ w hn k => ⟨#[nv (Nm.mk 3 0)], args1 (k.eq1 0 87 rfl), fun _ => by kernel_rfl, nneg_c (Nm.mk 3 0) _ ⟩) fun _ => rfl) ?_
  refine .off ?_
  exact .nil
  intro a246 w247 hn248 ha249
  obtain ⟨hs250, hd251, hN258⟩ := aft ha249 hs235 hd236 hN243 hn248
  have h252 := ha249.fx 2 h237
  have h253 := ha249.fx 7 h238
  have h254 := ha249.fx 8 h239
  have h255 := ha249.ge 1 88 rfl
  have hb256 := hb241.new_ hn248
  have hb257 := hb242.new_ hn248
  obtain ⟨w259, -, hst260, hb261, hu262, hf263⟩ := s_two (v0 := iv ((negM (Nm.mk 3 0)).k)) (v1 := iv ((negM (Nm.mk 3 0)).n)) Try.sizeOf23 rfl rfl rfl hb257
  refine st_act rfl rfl fun K264 hL265 => a_store' rfl h253 h255 hst260 (hL265 _ _ trivial ?_)
  have hb266 := hf263 _ _ _ (hne156) hb256
  have hN267 := hN258.trans hu262 (fun k hk hkb => by subst hkb; omega)
  refine st_nil (hK229 _ _ ?_)
  refine wp_seq_k fun K268 hK268 => ?_
  refine wp_g [true, true, false, false] [1] [(2, false), (3, true)] 91
    [ve (nv (negM (Nm.mk 3 0))),
     ve (.bool (!(strangeN (trimN u)))),
     vt,
     vt]
    [] newsNil hs250 (.eq (.eq (.tt (.tt (.nil))))) ?_ ?_ ?_
  refine .o1 (tk rfl rfl fun _ w hn k => ⟨_, v_load rfl (k.fx 7 h253) (l_two Try.isAgg23 Try.sizeOf23 (hb261.new_ hn)), rfl⟩) ?_
  refine .o3 ?_
  refine .off ?_
  refine .off ?_
  exact .nil
  intro i h
  simp only [List.contains_eq_mem, List.mem_cons, List.not_mem_nil, or_false, decide_eq_true_eq] at h
  subst h
  exact eager_take rfl rfl fun _ w hn k => ⟨.bool (!(strangeN (trimN u))), fun w => v_move rfl (k.fx 8 h254), rfl⟩
  intro a269 w270 hn271 ha272
  obtain ⟨hs273, hd274, hN279⟩ := aft ha272 hs250 hd251 hN267 hn271
  have h275 := ha272.fx 2 h252
  have h276 := ha272.ge 0 89 rfl
  have h277 := ha272.ge 1 90 rfl
  have hb278 := hb266.new_ hn271
  obtain ⟨w280, -, hst281, hb282, hu283, hf284⟩ := s_two (v0 := iv ((negM (Nm.mk 3 0)).k)) (v1 := iv ((negM (Nm.mk 3 0)).n)) Try.sizeOf23 rfl rfl rfl hb278
  refine st_act rfl rfl fun K285 hL286 => a_store' rfl h275 h276 hst281 (hL286 _ _ trivial ?_)
  have hN287 := hN279.trans hu283 (fun k hk hkb => by subst hkb; omega)
  refine st_take rfl rfl (y_assign (v := .bool (!(strangeN (trimN u)))) rfl h277) rfl ?_
  obtain ⟨a288, ha289⟩ : ∃ a', a' = a269.put (some 3) (.bool (!(strangeN (trimN u)))) := ⟨_, rfl⟩
  have hs290 : a288.tmps.size = 91 := by rw [ha289, put_size]; exact hs273
  have hd291 : a288.defers = [] := by rw [ha289, put_defers]; exact hd274
  have h292 := pn ha289 h275 (by decide)
  have h293 := pn ha289 h276 (by decide)
  have h294 := pn ha289 h277 (by decide)
  have h295 : a288.eval (.tmp 3) = .bool (!(strangeN (trimN u))) := by rw [ha289]; exact put_same _ _ _ (by rw [hs273]; decide)
  show stepsTo _ _ _ _ _ (a269.put (some 3) (.bool (!(strangeN (trimN u))))) _
  rw [← ha289]
  refine st_nil (hK268 _ _ ?_)
  refine wp_ret (ret_k hd291 (v := .tuple #[nv (negM (Nm.mk 3 0)), .bool (!(strangeN (trimN u)))]) (res_ct rfl h292 h295 (l_two Try.isAgg23 Try.sizeOf23 hb282)) ?_)
  refine ⟨?_, hN287⟩
  show Ending.returned (.tuple #[nv (negM (Nm.mk 3 0)), .bool (!(strangeN (trimN u)))]) = Ending.returned (.tuple #[nv ((numT u).1), .bool ((numT u).2)])
  first | rfl | (simp only [hbody, bodyT, ht78, ht204, ht244, bsm] <;> rfl) | (simp [hbody, bodyT, ht78, ht204, ht244]; done) | (exfalso; omega)
  have hv296 := hB h240 ht244
  refine wp_cond_false hv296 ?_
  refine wp_skip ?_
  refine hK229 _ _ ?_
  refine wp_seq_k fun K297 hK297 => ?_
  refine wp_g [true, true, false, false] [1] [(2, false), (3, true)] 91
    [ve (nv (Nm.mk 3 0)),
     ve (.bool (!(strangeN (trimN u)))),
     vt,
     vt]
    [] newsNil hs235 (.eq (.eq (.tt (.tt (.nil))))) ?_ ?_ ?_
  refine .o1 (tk rfl rfl fun _ w hn k => ⟨_, v_load rfl (k.fx 7 h238) (l_two Try.isAgg23 Try.sizeOf23 (hb242.new_ hn)), rfl⟩) ?_
  refine .o3 ?_
  refine .off ?_
  refine .off ?_
  exact .nil
  intro i h
  simp only [List.contains_eq_mem, List.mem_cons, List.not_mem_nil, or_false, decide_eq_true_eq] at h
  subst h
  exact eager_take rfl rfl fun _ w hn k => ⟨.bool (!(strangeN (trimN u))), fun w => v_move rfl (k.fx 8 h239), rfl⟩
  intro a298 w299 hn300 ha301
  obtain ⟨hs302, hd303, hN308⟩ := aft ha301 hs235 hd236 hN243 hn300
  have h304 := ha301.fx 2 h237
  have h305 := ha301.ge 0 89 rfl
  have h306 := ha301.ge 1 90 rfl
  have hb307 := hb241.new_ hn300
  obtain ⟨w309, -, hst310, hb311, hu312, hf313⟩ := s_two (v0 := iv 3) (v1 := iv 0) Try.sizeOf23 rfl rfl rfl hb307
  refine st_act rfl rfl fun K314 hL315 => a_store' rfl h304 h305 hst310 (hL315 _ _ trivial ?_)
  have hN316 := hN308.trans hu312 (fun k hk hkb => by subst hkb; omega)
  refine st_take rfl rfl (y_assign (v := .bool (!(strangeN (trimN u)))) rfl h306) rfl ?_
  obtain ⟨a317, ha318⟩ : ∃ a', a' = a298.put (some 3) (.bool (!(strangeN (trimN u)))) := ⟨_, rfl⟩
  have hs319 : a317.tmps.size = 91 := by rw [ha318, put_size]; exact hs302
  have hd320 : a317.defers = [] := by rw [ha318, put_defers]; exact hd303
  have h321 := pn ha318 h304 (by decide)
  have h322 := pn ha318 h305 (by decide)
  have h323 := pn ha318 h306 (by decide)
  have h324 : a317.eval (.tmp 3) = .bool (!(strangeN (trimN u))) := by rw [ha318]; exact put_same _ _ _ (by rw [hs302]; decide)
  show stepsTo _ _ _ _ _ (a298.put (some 3) (.bool (!(strangeN (trimN u))))) _
  rw [← ha318]
  refine st_nil (hK297 _ _ ?_)
  refine wp_ret (ret_k hd320 (v := .tuple #[nv (Nm.mk 3 0), .bool (!(strangeN (trimN u)))]) (res_ct rfl h321 h324 (l_two Try.isAgg23 Try.sizeOf23 hb311)) ?_)
  refine ⟨?_, hN316⟩
  show Ending.returned (.tuple #[nv (Nm.mk 3 0), .bool (!(strangeN (trimN u)))]) = Ending.returned (.tuple #[nv ((numT u).1), .bool ((numT u).2)])
  first | rfl | (simp only [hbody, bodyT, ht78, ht204, ht244, bsm] <;> rfl) | (simp [hbody, bodyT, ht78, ht204, ht244]; done) | (exfalso; omega)
  have ht204d := of_decide_eq_false ht204
  have hv325 := hB h198 ht204
  refine wp_cond_false hv325 ?_
  refine wp_seq_k fun K326 hK326 => ?_
  rcases Bool.eq_false_or_eq_true (decide ((dd.length : Int) ≤ 0)) with ht327 | ht327
  have ht327d := of_decide_eq_true ht327
  refine wp_g0 [true, true, true, true, true, true, true, true, true] [] 91
    [ve (sv A5 dd c5),
     ve (iv (dd.length : Int)),
     ve (.bool false),
     ve (.bool false),
     ve undef,
     ve undef,
     ve undef,
     ve (.bool false),
     ve (.bool false)] hs190 (.eq (.eq (.eq (.eq (.eq (.eq (.eq (.eq (.eq (.nil)))))))))) ?_ ?_
  refine .o1 (tk rfl rfl fun _ w hn k => ⟨_, v_move rfl (k.fx 5 h192), rfl⟩) ?_
  refine .o1 (tk rfl rfl fun _ w hn k => ⟨_, v_lenR rfl elU (k.eq1 0 68 rfl), rfl⟩) ?_
  refine .o1 (tk rfl rfl fun _ w hn k => ⟨_, v_bin rfl (k.eq1 1 69 rfl) rfl (fun _ => rfl) (r_gtrK ht327), rfl⟩) ?_
  refine .o1 (tk rfl rfl fun _ w hn k => ⟨_, v_move rfl (k.eq1 2 70 rfl), rfl⟩) ?_
  refine .o1 (sk rfl rfl rfl (fun _ _ _ k => k.eq1 3 71 rfl) (fun _ => rfl)) ?_
  refine .o1 (sk rfl rfl rfl (fun _ _ _ k => k.eq1 3 71 rfl) (fun _ => rfl)) ?_
  refine .o1 (sk rfl rfl rfl (fun _ _ _ k => k.eq1 3 71 rfl) (fun _ => rfl)) ?_
  refine .o1 (tk rfl rfl fun _ w hn k => ⟨_, v_pickF rfl (k.eq1 3 71 rfl) rfl, rfl⟩) ?_
  refine .o1 (tk rfl rfl fun _ w hn k => ⟨_, v_assign rfl (k.eq1 7 75 rfl), rfl⟩) ?_
  exact .nil
  intro a328 w329 hn330 ha331
  obtain ⟨hs332, hd333, hN345⟩ := aft ha331 hs190 hd191 hN203 hn330
  have h334 := ha331.fx 5 h192
  have h335 := ha331.fx 6 h193
  have h336 := ha331.fx 2 h194
  have h337 := ha331.fx 4 h195
  have h338 := ha331.fx 7 h196
  have h339 := ha331.fx 8 h197
  have h340 := ha331.ge 8 67 rfl
  have hb341 := hb199.new_ hn330
  have hb342 := hb200.new_ hn330
  have hb343 := hb201.new_ hn330
  have hr344 := hr202.new_ hn330
  refine st_nil (hK326 _ _ ?_)
  refine wp_cond_false h340 ?_
  refine wp_skip ?_
  refine hK184 _ _ ?_
  refine wp_seq_k fun K346 hK346 => ?_
  refine wp_seq_k fun K347 hK347 => ?_
  refine wp_g0 [true] [] 91
    [ve (.bool ng)] hs332 (.eq (.nil)) ?_ ?_
  refine .o1 (tk rfl rfl fun _ w hn k => ⟨_, v_move rfl (k.fx 6 h335), rfl⟩) ?_
  exact .nil
  intro a348 w349 hn350 ha351
  obtain ⟨hs352, hd353, hN360⟩ := aft ha351 hs332 hd333 hN345 hn350
  have h354 := ha351.fx 2 h336
  have h355 := ha351.fx 7 h338
  have h356 := ha351.fx 8 h339
  have h357 := ha351.ge 0 86 rfl
  have hb358 := hb341.new_ hn350
  have hb359 := hb343.new_ hn350
  refine st_nil (hK347 _ _ ?_)
  rcases Bool.eq_false_or_eq_true (ng) with ht361 | ht361
  have hv362 := hB h357 ht361
  refine wp_cond_true hv362 ?_
  refine wp_g0 [true, true, false] [(2, false)] 91
    [ve (nv (Nm.mk 2 0)),
     ve (nv (negM (Nm.mk 2 0))),
     vt] hs352 (.eq (.eq (.tt (.nil)))) ?_ ?_
  refine .o1 (tk rfl rfl fun _ w hn k => ⟨_, v_load rfl (k.fx 7 h355) (l_two Try.isAgg23 Try.sizeOf23 (hb359.new_ hn)), rfl⟩) ?_
  refine .o1 (ck rfl rfl rfl (fun _ w hn k => ⟨#[nv (Nm.mk 2 0)], args1 (k.eq1 0 87 rfl), fun _ => by kernel_rfl, nneg_c (Nm.mk 2 0) _ ⟩) fun _ => rfl) ?_
  refine .off ?_
  exact .nil
  intro a363 w364 hn365 ha366
  obtain ⟨hs367, hd368, hN375⟩ := aft ha366 hs352 hd353 hN360 hn365
  have h369 := ha366.fx 2 h354
  have h370 := ha366.fx 7 h355
  have h371 := ha366.fx 8 h356
  have h372 := ha366.ge 1 88 rfl
  have hb373 := hb358.new_ hn365
  have hb374 := hb359.new_ hn365
  obtain ⟨w376, -, hst377, hb378, hu379, hf380⟩ := s_two (v0 := iv ((negM (Nm.mk 2 0)).k)) (v1 := iv ((negM (Nm.mk 2 0)).n)) Try.sizeOf23 rfl rfl rfl hb374
  refine st_act rfl rfl fun K381 hL382 => a_store' rfl h370 h372 hst377 (hL382 _ _ trivial ?_)
  have hb383 := hf380 _ _ _ (hne156) hb373
  have hN384 := hN375.trans hu379 (fun k hk hkb => by subst hkb; omega)
  refine st_nil (hK346 _ _ ?_)
  refine wp_seq_k fun K385 hK385 => ?_
  refine wp_g [true, true, false, false] [1] [(2, false), (3, true)] 91
    [ve (nv (negM (Nm.mk 2 0))),
     ve (.bool (!(strangeN (trimN u)))),
     vt,
     vt]
    [] newsNil hs367 (.eq (.eq (.tt (.tt (.nil))))) ?_ ?_ ?_
  refine .o1 (tk rfl rfl fun _ w hn k => ⟨_, v_load rfl (k.fx 7 h370) (l_two Try.isAgg23 Try.sizeOf23 (hb378.new_ hn)), rfl⟩) ?_
  refine .o3 ?_
  refine .off ?_
  refine .off ?_
  exact .nil
  intro i h
  simp only [List.contains_eq_mem, List.mem_cons, List.not_mem_nil, or_false, decide_eq_true_eq] at h
  subst h
  exact eager_take rfl rfl fun _ w hn k => ⟨.bool (!(strangeN (trimN u))), fun w => v_move rfl (k.fx 8 h371), rfl⟩
  intro a386 w387 hn388 ha389
  obtain ⟨hs390, hd391, hN396⟩ := aft ha389 hs367 hd368 hN384 hn388
  have h392 := ha389.fx 2 h369
  have h393 := ha389.ge 0 89 rfl
  have h394 := ha389.ge 1 90 rfl
  have hb395 := hb383.new_ hn388
  obtain ⟨w397, -, hst398, hb399, hu400, hf401⟩ := s_two (v0 := iv ((negM (Nm.mk 2 0)).k)) (v1 := iv ((negM (Nm.mk 2 0)).n)) Try.sizeOf23 rfl rfl rfl hb395
  refine st_act rfl rfl fun K402 hL403 => a_store' rfl h392 h393 hst398 (hL403 _ _ trivial ?_)
  have hN404 := hN396.trans hu400 (fun k hk hkb => by subst hkb; omega)
  refine st_take rfl rfl (y_assign (v := .bool (!(strangeN (trimN u)))) rfl h394) rfl ?_
  obtain ⟨a405, ha406⟩ : ∃ a', a' = a386.put (some 3) (.bool (!(strangeN (trimN u)))) := ⟨_, rfl⟩
  have hs407 : a405.tmps.size = 91 := by rw [ha406, put_size]; exact hs390
  have hd408 : a405.defers = [] := by rw [ha406, put_defers]; exact hd391
  have h409 := pn ha406 h392 (by decide)
  have h410 := pn ha406 h393 (by decide)
  have h411 := pn ha406 h394 (by decide)
  have h412 : a405.eval (.tmp 3) = .bool (!(strangeN (trimN u))) := by rw [ha406]; exact put_same _ _ _ (by rw [hs390]; decide)
  show stepsTo _ _ _ _ _ (a386.put (some 3) (.bool (!(strangeN (trimN u))))) _
  rw [← ha406]
  refine st_nil (hK385 _ _ ?_)
  refine wp_ret (ret_k hd408 (v := .tuple #[nv (negM (Nm.mk 2 0)), .bool (!(strangeN (trimN u)))]) (res_ct rfl h409 h412 (l_two Try.isAgg23 Try.sizeOf23 hb399)) ?_)
  refine ⟨?_, hN404⟩
  show Ending.returned (.tuple #[nv (negM (Nm.mk 2 0)), .bool (!(strangeN (trimN u)))]) = Ending.returned (.tuple #[nv ((numT u).1), .bool ((numT u).2)])
  first | rfl | (simp only [hbody, bodyT, ht78, ht204, ht327, ht361, bsm] <;> rfl) | (simp [hbody, bodyT, ht78, ht204, ht327, ht361]; done) | (exfalso; omega)
  have hv413 := hB h357 ht361
  refine wp_cond_false hv413 ?_
  refine wp_skip ?_
  refine hK346 _ _ ?_
  refine wp_seq_k fun K414 hK414 => ?_
  refine wp_g [true, true, false, false] [1] [(2, false), (3, true)] 91
    [ve (nv (Nm.mk 2 0)),
     ve (.bool (!(strangeN (trimN u)))),
     vt,
     vt]
    [] newsNil hs352 (.eq (.eq (.tt (.tt (.nil))))) ?_ ?_ ?_
  refine .o1 (tk rfl rfl fun _ w hn k => ⟨_, v_load rfl (k.fx 7 h355) (l_two Try.isAgg23 Try.sizeOf23 (hb359.new_ hn)), rfl⟩) ?_
  refine .o3 ?_
  refine .off ?_
  refine .off ?_
  exact .nil
  intro i h
  simp only [List.contains_eq_mem, List.mem_cons, List.not_mem_nil, or_false, decide_eq_true_eq] at h
  subst h
  exact eager_take rfl rfl fun _ w hn k => ⟨.bool (!(strangeN (trimN u))), fun w => v_move rfl (k.fx 8 h356), rfl⟩
  intro a415 w416 hn417 ha418
  obtain ⟨hs419, hd420, hN425⟩ := aft ha418 hs352 hd353 hN360 hn417
  have h421 := ha418.fx 2 h354
  have h422 := ha418.ge 0 89 rfl
  have h423 := ha418.ge 1 90 rfl
  have hb424 := hb358.new_ hn417
  obtain ⟨w426, -, hst427, hb428, hu429, hf430⟩ := s_two (v0 := iv 2) (v1 := iv 0) Try.sizeOf23 rfl rfl rfl hb424
  refine st_act rfl rfl fun K431 hL432 => a_store' rfl h421 h422 hst427 (hL432 _ _ trivial ?_)
  have hN433 := hN425.trans hu429 (fun k hk hkb => by subst hkb; omega)
  refine st_take rfl rfl (y_assign (v := .bool (!(strangeN (trimN u)))) rfl h423) rfl ?_
  obtain ⟨a434, ha435⟩ : ∃ a', a' = a415.put (some 3) (.bool (!(strangeN (trimN u)))) := ⟨_, rfl⟩
  have hs436 : a434.tmps.size = 91 := by rw [ha435, put_size]; exact hs419
  have hd437 : a434.defers = [] := by rw [ha435, put_defers]; exact hd420
  have h438 := pn ha435 h421 (by decide)
  have h439 := pn ha435 h422 (by decide)
  have h440 := pn ha435 h423 (by decide)
  have h441 : a434.eval (.tmp 3) = .bool (!(strangeN (trimN u))) := by rw [ha435]; exact put_same _ _ _ (by rw [hs419]; decide)
  show stepsTo _ _ _ _ _ (a415.put (some 3) (.bool (!(strangeN (trimN u))))) _
  rw [← ha435]
  refine st_nil (hK414 _ _ ?_)
  refine wp_ret (ret_k hd437 (v := .tuple #[nv (Nm.mk 2 0), .bool (!(strangeN (trimN u)))]) (res_ct rfl h438 h441 (l_two Try.isAgg23 Try.sizeOf23 hb428)) ?_)
  refine ⟨?_, hN433⟩
  show Ending.returned (.tuple #[nv (Nm.mk 2 0), .bool (!(strangeN (trimN u)))]) = Ending.returned (.tuple #[nv ((numT u).1), .bool ((numT u).2)])
  first | rfl | (simp only [hbody, bodyT, ht78, ht204, ht327, ht361, bsm] <;> rfl) | (simp [hbody, bodyT, ht78, ht204, ht327, ht361]; done) | (exfalso; omega)
  have ht327d := of_decide_eq_false ht327
  refine wp_g0 [true, true, true, true, true, true, true, true, true] [] 91
    [ve (sv A5 dd c5),
     ve (iv (dd.length : Int)),
     ve (.bool true),
     ve (.bool true),
     ve (sv A5 dd c5),
     ve (.bool (dd.any (fun y : Nat => !dgtN y))),
     ve (.bool (!(dd.any (fun y : Nat => !dgtN y)))),
     ve (.bool (!(dd.any (fun y : Nat => !dgtN y)))),
     ve (.bool (!(dd.any (fun y : Nat => !dgtN y))))] hs190 (.eq (.eq (.eq (.eq (.eq (.eq (.eq (.eq (.eq (.nil)))))))))) ?_ ?_
  refine .o1 (tk rfl rfl fun _ w hn k => ⟨_, v_move rfl (k.fx 5 h192), rfl⟩) ?_
  refine .o1 (tk rfl rfl fun _ w hn k => ⟨_, v_lenR rfl elU (k.eq1 0 68 rfl), rfl⟩) ?_
  refine .o1 (tk rfl rfl fun _ w hn k => ⟨_, v_bin rfl (k.eq1 1 69 rfl) rfl (fun _ => rfl) (r_gtrK ht327), rfl⟩) ?_
  refine .o1 (tk rfl rfl fun _ w hn k => ⟨_, v_move rfl (k.eq1 2 70 rfl), rfl⟩) ?_
  refine .o1 (tg rfl rfl rfl (fun _ _ k => k.eq1 3 71 rfl) fun _ w hn k => ⟨_, v_move rfl (k.fx 5 h192), rfl⟩) ?_
  refine .o1 (cg rfl rfl rfl (fun _ _ k => k.eq1 3 71 rfl) rfl (fun _ w hn k => ⟨#[sv A5 dd c5, .func (.func 68) #[] #[]], args2 (k.eq1 4 72 rfl) rfl, fun _ => by kernel_rfl, containsf_c _ dd _ _ (hr202.new_ hn) hdd⟩) fun _ => rfl) ?_
  refine .o1 (tg rfl rfl rfl (fun _ _ k => k.eq1 3 71 rfl) fun _ w hn k => ⟨_, v_not rfl (k.eq1 5 73 rfl), rfl⟩) ?_
  refine .o1 (tk rfl rfl fun _ w hn k => ⟨_, v_pickT rfl (k.eq1 3 71 rfl) (k.eq1 6 74 rfl), rfl⟩) ?_
  refine .o1 (tk rfl rfl fun _ w hn k => ⟨_, v_assign rfl (k.eq1 7 75 rfl), rfl⟩) ?_
  exact .nil
  intro a442 w443 hn444 ha445
  obtain ⟨hs446, hd447, hN459⟩ := aft ha445 hs190 hd191 hN203 hn444
  have h448 := ha445.fx 5 h192
  have h449 := ha445.fx 6 h193
  have h450 := ha445.fx 2 h194
  have h451 := ha445.fx 4 h195
  have h452 := ha445.fx 7 h196
  have h453 := ha445.fx 8 h197
  have h454 := ha445.ge 8 67 rfl
  have hb455 := hb199.new_ hn444
  have hb456 := hb200.new_ hn444
  have hb457 := hb201.new_ hn444
  have hr458 := hr202.new_ hn444
  refine st_nil (hK326 _ _ ?_)
  rcases Bool.eq_false_or_eq_true (dd.any (fun y : Nat => !dgtN y)) with ht460 | ht460
  have hv461 : a442.eval (.tmp 67) = .bool false := h454.trans (congrArg Value.bool (by rw [ht460]; rfl))
  refine wp_cond_false hv461 ?_
  refine wp_skip ?_
  refine hK184 _ _ ?_
  refine wp_seq_k fun K462 hK462 => ?_
  refine wp_seq_k fun K463 hK463 => ?_
  refine wp_g0 [true] [] 91
    [ve (.bool ng)] hs446 (.eq (.nil)) ?_ ?_
  refine .o1 (tk rfl rfl fun _ w hn k => ⟨_, v_move rfl (k.fx 6 h449), rfl⟩) ?_
  exact .nil
  intro a464 w465 hn466 ha467
  obtain ⟨hs468, hd469, hN476⟩ := aft ha467 hs446 hd447 hN459 hn466
  have h470 := ha467.fx 2 h450
  have h471 := ha467.fx 7 h452
  have h472 := ha467.fx 8 h453
  have h473 := ha467.ge 0 86 rfl
  have hb474 := hb455.new_ hn466
  have hb475 := hb457.new_ hn466
  refine st_nil (hK463 _ _ ?_)
  rcases Bool.eq_false_or_eq_true (ng) with ht477 | ht477
  have hv478 := hB h473 ht477
  refine wp_cond_true hv478 ?_
  refine wp_g0 [true, true, false] [(2, false)] 91
    [ve (nv (Nm.mk 2 0)),
     ve (nv (negM (Nm.mk 2 0))),
     vt] hs468 (.eq (.eq (.tt (.nil)))) ?_ ?_
  refine .o1 (tk rfl rfl fun _ w hn k => ⟨_, v_load rfl (k.fx 7 h471) (l_two Try.isAgg23 Try.sizeOf23 (hb475.new_ hn)), rfl⟩) ?_
  refine .o1 (ck rfl rfl rfl (fun _ w hn k => ⟨#[nv (Nm.mk 2 0)], args1 (k.eq1 0 87 rfl), fun _ => by kernel_rfl, nneg_c (Nm.mk 2 0) _ ⟩) fun _ => rfl) ?_
  refine .off ?_
  exact .nil
  intro a479 w480 hn481 ha482
  obtain ⟨hs483, hd484, hN491⟩ := aft ha482 hs468 hd469 hN476 hn481
  have h485 := ha482.fx 2 h470
  have h486 := ha482.fx 7 h471
  have h487 := ha482.fx 8 h472
  have h488 := ha482.ge 1 88 rfl
  have hb489 := hb474.new_ hn481
  have hb490 := hb475.new_ hn481
  obtain ⟨w492, -, hst493, hb494, hu495, hf496⟩ := s_two (v0 := iv ((negM (Nm.mk 2 0)).k)) (v1 := iv ((negM (Nm.mk 2 0)).n)) Try.sizeOf23 rfl rfl rfl hb490
  refine st_act rfl rfl fun K497 hL498 => a_store' rfl h486 h488 hst493 (hL498 _ _ trivial ?_)
  have hb499 := hf496 _ _ _ (hne156) hb489
  have hN500 := hN491.trans hu495 (fun k hk hkb => by subst hkb; omega)
  refine st_nil (hK462 _ _ ?_)
  refine wp_seq_k fun K501 hK501 => ?_
  refine wp_g [true, true, false, false] [1] [(2, false), (3, true)] 91
    [ve (nv (negM (Nm.mk 2 0))),
     ve (.bool (!(strangeN (trimN u)))),
     vt,
     vt]
    [] newsNil hs483 (.eq (.eq (.tt (.tt (.nil))))) ?_ ?_ ?_
  refine .o1 (tk rfl rfl fun _ w hn k => ⟨_, v_load rfl (k.fx 7 h486) (l_two Try.isAgg23 Try.sizeOf23 (hb494.new_ hn)), rfl⟩) ?_
  refine .o3 ?_
  refine .off ?_
  refine .off ?_
  exact .nil
  intro i h
  simp only [List.contains_eq_mem, List.mem_cons, List.not_mem_nil, or_false, decide_eq_true_eq] at h
  subst h
  exact eager_take rfl rfl fun _ w hn k => ⟨.bool (!(strangeN (trimN u))), fun w => v_move rfl (k.fx 8 h487), rfl⟩
  intro a502 w503 hn504 ha505
  obtain ⟨hs506, hd507, hN512⟩ := aft ha505 hs483 hd484 hN500 hn504
  have h508 := ha505.fx 2 h485
  have h509 := ha505.ge 0 89 rfl
  have h510 := ha505.ge 1 90 rfl
  have hb511 := hb499.new_ hn504
  obtain ⟨w513, -, hst514, hb515, hu516, hf517⟩ := s_two (v0 := iv ((negM (Nm.mk 2 0)).k)) (v1 := iv ((negM (Nm.mk 2 0)).n)) Try.sizeOf23 rfl rfl rfl hb511
  refine st_act rfl rfl fun K518 hL519 => a_store' rfl h508 h509 hst514 (hL519 _ _ trivial ?_)
  have hN520 := hN512.trans hu516 (fun k hk hkb => by subst hkb; omega)
  refine st_take rfl rfl (y_assign (v := .bool (!(strangeN (trimN u)))) rfl h510) rfl ?_
  obtain ⟨a521, ha522⟩ : ∃ a', a' = a502.put (some 3) (.bool (!(strangeN (trimN u)))) := ⟨_, rfl⟩
  have hs523 : a521.tmps.size = 91 := by rw [ha522, put_size]; exact hs506
  have hd524 : a521.defers = [] := by rw [ha522, put_defers]; exact hd507
  have h525 := pn ha522 h508 (by decide)
  have h526 := pn ha522 h509 (by decide)
  have h527 := pn ha522 h510 (by decide)
  have h528 : a521.eval (.tmp 3) = .bool (!(strangeN (trimN u))) := by rw [ha522]; exact put_same _ _ _ (by rw [hs506]; decide)
  show stepsTo _ _ _ _ _ (a502.put (some 3) (.bool (!(strangeN (trimN u))))) _
  rw [← ha522]
  refine st_nil (hK501 _ _ ?_)
  refine wp_ret (ret_k hd524 (v := .tuple #[nv (negM (Nm.mk 2 0)), .bool (!(strangeN (trimN u)))]) (res_ct rfl h525 h528 (l_two Try.isAgg23 Try.sizeOf23 hb515)) ?_)
  refine ⟨?_, hN520⟩
  show Ending.returned (.tuple #[nv (negM (Nm.mk 2 0)), .bool (!(strangeN (trimN u)))]) = Ending.returned (.tuple #[nv ((numT u).1), .bool ((numT u).2)])
  first | rfl | (simp only [hbody, bodyT, ht78, ht204, ht327, ht460, ht477, bsm] <;> rfl) | (simp [hbody, bodyT, ht78, ht204, ht327, ht460, ht477]; done) | (exfalso; omega)
  have hv529 := hB h473 ht477
  refine wp_cond_false hv529 ?_
  refine wp_skip ?_
  refine hK462 _ _ ?_
  refine wp_seq_k fun K530 hK530 => ?_
  refine wp_g [true, true, false, false] [1] [(2, false), (3, true)] 91
    [ve (nv (Nm.mk 2 0)),
     ve (.bool (!(strangeN (trimN u)))),
     vt,
     vt]
    [] newsNil hs468 (.eq (.eq (.tt (.tt (.nil))))) ?_ ?_ ?_
  refine .o1 (tk rfl rfl fun _ w hn k => ⟨_, v_load rfl (k.fx 7 h471) (l_two Try.isAgg23 Try.sizeOf23 (hb475.new_ hn)), rfl⟩) ?_
  refine .o3 ?_
  refine .off ?_
  refine .off ?_
  exact .nil
  intro i h
  simp only [List.contains_eq_mem, List.mem_cons, List.not_mem_nil, or_false, decide_eq_true_eq] at h
  subst h
  exact eager_take rfl rfl fun _ w hn k => ⟨.bool (!(strangeN (trimN u))), fun w => v_move rfl (k.fx 8 h472), rfl⟩
  intro a531 w532 hn533 ha534
  obtain ⟨hs535, hd536, hN541⟩ := aft ha534 hs468 hd469 hN476 hn533
  have h537 := ha534.fx 2 h470
  have h538 := ha534.ge 0 89 rfl
  have h539 := ha534.ge 1 90 rfl
  have hb540 := hb474.new_ hn533
  obtain ⟨w542, -, hst543, hb544, hu545, hf546⟩ := s_two (v0 := iv 2) (v1 := iv 0) Try.sizeOf23 rfl rfl rfl hb540
  refine st_act rfl rfl fun K547 hL548 => a_store' rfl h537 h538 hst543 (hL548 _ _ trivial ?_)
  have hN549 := hN541.trans hu545 (fun k hk hkb => by subst hkb; omega)
  refine st_take rfl rfl (y_assign (v := .bool (!(strangeN (trimN u)))) rfl h539) rfl ?_
  obtain ⟨a550, ha551⟩ : ∃ a', a' = a531.put (some 3) (.bool (!(strangeN (trimN u)))) := ⟨_, rfl⟩
  have hs552 : a550.tmps.size = 91 := by rw [ha551, put_size]; exact hs535
  have hd553 : a550.defers = [] := by rw [ha551, put_defers]; exact hd536
  have h554 := pn ha551 h537 (by decide)
  have h555 := pn ha551 h538 (by decide)
  have h556 := pn ha551 h539 (by decide)
  have h557 : a550.eval (.tmp 3) = .bool (!(strangeN (trimN u))) := by rw [ha551]; exact put_same _ _ _ (by rw [hs535]; decide)
  show stepsTo _ _ _ _ _ (a531.put (some 3) (.bool (!(strangeN (trimN u))))) _
  rw [← ha551]
  refine st_nil (hK530 _ _ ?_)
  refine wp_ret (ret_k hd553 (v := .tuple #[nv (Nm.mk 2 0), .bool (!(strangeN (trimN u)))]) (res_ct rfl h554 h557 (l_two Try.isAgg23 Try.sizeOf23 hb544)) ?_)
  refine ⟨?_, hN549⟩
  show Ending.returned (.tuple #[nv (Nm.mk 2 0), .bool (!(strangeN (trimN u)))]) = Ending.returned (.tuple #[nv ((numT u).1), .bool ((numT u).2)])
  first | rfl | (simp only [hbody, bodyT, ht78, ht204, ht327, ht460, ht477, bsm] <;> rfl) | (simp [hbody, bodyT, ht78, ht204, ht327, ht460, ht477]; done) | (exfalso; omega)
  have hv558 : a442.eval (.tmp 67) = .bool true := h454.trans (congrArg Value.bool (by rw [ht460]; rfl))
  refine wp_cond_true hv558 ?_
  refine wp_seq_k fun K559 hK559 => ?_
  refine wp_g0 [true, true, true, true, true, true, true] [] 91
    [ve (sv A5 dd c5),
     ve (.tuple #[iv ((valR dd 0).1), .bool ((valR dd 0).2)]),
     ve (.tuple #[iv ((valR dd 0).1), .bool ((valR dd 0).2)]),
     ve (iv ((valR dd 0).1)),
     ve (.bool ((valR dd 0).2)),
     ve (iv ((valR dd 0).1)),
     ve (.bool ((valR dd 0).2))] hs446 (.eq (.eq (.eq (.eq (.eq (.eq (.eq (.nil)))))))) ?_ ?_
  refine .o1 (tk rfl rfl fun _ w hn k => ⟨_, v_move rfl (k.fx 5 h448), rfl⟩) ?_
  refine .o1 (ck rfl rfl rfl (fun _ w hn k => ⟨#[sv A5 dd c5], args1 (k.eq1 0 77 rfl), fun _ => by kernel_rfl, value_c _ dd _ _ (hr458.new_ hn) hdd (digs_of ht460)⟩) fun _ => rfl) ?_
  refine .o1 (tk rfl rfl fun _ w hn k => ⟨_, v_move rfl (k.eq1 1 78 rfl), rfl⟩) ?_
  refine .o1 (tk rfl rfl fun _ w hn k => ⟨_, v_extract rfl (k.eq1 2 76 rfl) rfl, rfl⟩) ?_
  refine .o1 (tk rfl rfl fun _ w hn k => ⟨_, v_extract rfl (k.eq1 2 76 rfl) rfl, rfl⟩) ?_
  refine .o1 (tk rfl rfl fun _ w hn k => ⟨_, v_assign rfl (k.eq1 3 79 rfl), rfl⟩) ?_
  refine .o1 (tk rfl rfl fun _ w hn k => ⟨_, v_assign rfl (k.eq1 4 80 rfl), rfl⟩) ?_
  exact .nil
  intro a560 w561 hn562 ha563
  obtain ⟨hs564, hd565, hN575⟩ := aft ha563 hs446 hd447 hN459 hn562
  have h566 := ha563.fx 6 h449
  have h567 := ha563.fx 2 h450
  have h568 := ha563.fx 4 h451
  have h569 := ha563.fx 7 h452
  have h570 := ha563.ge 5 9 rfl
  have h571 := ha563.ge 6 10 rfl
  have hb572 := hb455.new_ hn562
  have hb573 := hb456.new_ hn562
  have hb574 := hb457.new_ hn562
  refine st_nil (hK559 _ _ ?_)
  refine wp_seq_k fun K576 hK576 => ?_
  refine wp_seq_k fun K577 hK577 => ?_
  refine wp_g0 [true, true] [] 91
    [ve (.bool ((valR dd 0).2)),
     ve (.bool (!((valR dd 0).2)))] hs564 (.eq (.eq (.nil))) ?_ ?_
  refine .o1 (tk rfl rfl fun _ w hn k => ⟨_, v_move rfl (k.fx 10 h571), rfl⟩) ?_
  refine .o1 (tk rfl rfl fun _ w hn k => ⟨_, v_not rfl (k.eq1 0 81 rfl), rfl⟩) ?_
  exact .nil
  intro a578 w579 hn580 ha581
  obtain ⟨hs582, hd583, hN593⟩ := aft ha581 hs564 hd565 hN575 hn580
  have h584 := ha581.fx 6 h566
  have h585 := ha581.fx 2 h567
  have h586 := ha581.fx 4 h568
  have h587 := ha581.fx 7 h569
  have h588 := ha581.fx 9 h570
  have h589 := ha581.ge 1 82 rfl
  have hb590 := hb572.new_ hn580
  have hb591 := hb573.new_ hn580
  have hb592 := hb574.new_ hn580
  refine st_nil (hK577 _ _ ?_)
  rcases Bool.eq_false_or_eq_true ((valR dd 0).2) with ht594 | ht594
  have hv595 : a578.eval (.tmp 82) = .bool false := h589.trans (congrArg Value.bool (by rw [ht594]; rfl))
  refine wp_cond_false hv595 ?_
  refine wp_skip ?_
  refine hK576 _ _ ?_
  refine wp_g0 [true, true, false, false] [(2, false), (3, true)] 91
    [ve (iv ((valR dd 0).1)),
     ve (nv (Nm.mk 0 ((valR dd 0).1))),
     vt,
     vt] hs582 (.eq (.eq (.tt (.tt (.nil))))) ?_ ?_
  refine .o1 (tk rfl rfl fun _ w hn k => ⟨_, v_move rfl (k.fx 9 h588), rfl⟩) ?_
  refine .o1 (tk rfl rfl fun _ w hn k => ⟨_, v_build (ps := [(1, iv ((valR dd 0).1))]) rfl (parts1 (k.eq1 0 84 rfl)) (by kernel_rfl), rfl⟩) ?_
  refine .off ?_
  refine .off ?_
  exact .nil
  intro a596 w597 hn598 ha599
  obtain ⟨hs600, hd601, hN608⟩ := aft ha599 hs582 hd583 hN593 hn598
  have h602 := ha599.fx 6 h584
  have h603 := ha599.fx 2 h585
  have h604 := ha599.fx 7 h587
  have h605 := ha599.ge 1 85 rfl
  have hb606 := hb590.new_ hn598
  have hb607 := hb592.new_ hn598
  obtain ⟨w609, -, hst610, hb611, hu612, hf613⟩ := s_two (v0 := iv 0) (v1 := iv ((valR dd 0).1)) Try.sizeOf23 rfl rfl rfl hb607
  refine st_act rfl rfl fun K614 hL615 => a_store' rfl h604 h605 hst610 (hL615 _ _ trivial ?_)
  have hb616 := hf613 _ _ _ (hne156) hb606
  have hN617 := hN608.trans hu612 (fun k hk hkb => by subst hkb; omega)
  refine st_take rfl rfl (y_assign (v := .bool true) rfl rfl) rfl ?_
  obtain ⟨a618, ha619⟩ : ∃ a', a' = a596.put (some 8) (.bool true) := ⟨_, rfl⟩
  have hs620 : a618.tmps.size = 91 := by rw [ha619, put_size]; exact hs600
  have hd621 : a618.defers = [] := by rw [ha619, put_defers]; exact hd601
  have h622 := pn ha619 h602 (by decide)
  have h623 := pn ha619 h603 (by decide)
  have h624 := pn ha619 h604 (by decide)
  have h625 := pn ha619 h605 (by decide)
  have h626 : a618.eval (.tmp 8) = .bool true := by rw [ha619]; exact put_same _ _ _ (by rw [hs600]; decide)
  show stepsTo _ _ _ _ _ (a596.put (some 8) (.bool true)) _
  rw [← ha619]
  refine st_nil (hK184 _ _ ?_)
  refine wp_seq_k fun K627 hK627 => ?_
  refine wp_seq_k fun K628 hK628 => ?_
  refine wp_g0 [true] [] 91
    [ve (.bool ng)] hs620 (.eq (.nil)) ?_ ?_
  refine .o1 (tk rfl rfl fun _ w hn k => ⟨_, v_move rfl (k.fx 6 h622), rfl⟩) ?_
  exact .nil
  intro a629 w630 hn631 ha632
  obtain ⟨hs633, hd634, hN641⟩ := aft ha632 hs620 hd621 hN617 hn631
  have h635 := ha632.fx 2 h623
  have h636 := ha632.fx 7 h624
  have h637 := ha632.fx 8 h626
  have h638 := ha632.ge 0 86 rfl
  have hb639 := hb616.new_ hn631
  have hb640 := hb611.new_ hn631
  refine st_nil (hK628 _ _ ?_)
  rcases Bool.eq_false_or_eq_true (ng) with ht642 | ht642
  have hv643 := hB h638 ht642
  refine wp_cond_true hv643 ?_
  refine wp_g0 [true, true, false] [(2, false)] 91
    [ve (nv (Nm.mk 0 ((valR dd 0).1))),
     ve (nv (negM (Nm.mk 0 ((valR dd 0).1)))),
     vt] hs633 (.eq (.eq (.tt (.nil)))) ?_ ?_
  refine .o1 (tk rfl rfl fun _ w hn k => ⟨_, v_load rfl (k.fx 7 h636) (l_two Try.isAgg23 Try.sizeOf23 (hb640.new_ hn)), rfl⟩) ?_
  refine .o1 (ck rfl rfl rfl (fun _ w hn k => ⟨#[nv (Nm.mk 0 ((valR dd 0).1))], args1 (k.eq1 0 87 rfl), fun _ => by kernel_rfl, nneg_c (Nm.mk 0 ((valR dd 0).1)) _ ⟩) fun _ => rfl) ?_
  refine .off ?_
  exact .nil
  intro a644 w645 hn646 ha647
  obtain ⟨hs648, hd649, hN656⟩ := aft ha647 hs633 hd634 hN641 hn646
  have h650 := ha647.fx 2 h635
  have h651 := ha647.fx 7 h636
  have h652 := ha647.fx 8 h637
  have h653 := ha647.ge 1 88 rfl
  have hb654 := hb639.new_ hn646
  have hb655 := hb640.new_ hn646
  obtain ⟨w657, -, hst658, hb659, hu660, hf661⟩ := s_two (v0 := iv ((negM (Nm.mk 0 ((valR dd 0).1))).k)) (v1 := iv ((negM (Nm.mk 0 ((valR dd 0).1))).n)) Try.sizeOf23 rfl rfl rfl hb655
  refine st_act rfl rfl fun K662 hL663 => a_store' rfl h651 h653 hst658 (hL663 _ _ trivial ?_)
  have hb664 := hf661 _ _ _ (hne156) hb654
  have hN665 := hN656.trans hu660 (fun k hk hkb => by subst hkb; omega)
  refine st_nil (hK627 _ _ ?_)
  refine wp_seq_k fun K666 hK666 => ?_
  refine wp_g [true, true, false, false] [1] [(2, false), (3, true)] 91
    [ve (nv (negM (Nm.mk 0 ((valR dd 0).1)))),
     ve (.bool true),
     vt,
     vt]
    [] newsNil hs648 (.eq (.eq (.tt (.tt (.nil))))) ?_ ?_ ?_
  refine .o1 (tk rfl rfl fun _ w hn k => ⟨_, v_load rfl (k.fx 7 h651) (l_two Try.isAgg23 Try.sizeOf23 (hb659.new_ hn)), rfl⟩) ?_
  refine .o3 ?_
  refine .off ?_
  refine .off ?_
  exact .nil
  intro i h
  simp only [List.contains_eq_mem, List.mem_cons, List.not_mem_nil, or_false, decide_eq_true_eq] at h
  subst h
  exact eager_take rfl rfl fun _ w hn k => ⟨.bool true, fun w => v_move rfl (k.fx 8 h652), rfl⟩
  intro a667 w668 hn669 ha670
  obtain ⟨hs671, hd672, hN677⟩ := aft ha670 hs648 hd649 hN665 hn669
  have h673 := ha670.fx 2 h650
  have h674 := ha670.ge 0 89 rfl
  have h675 := ha670.ge 1 90 rfl
  have hb676 := hb664.new_ hn669
  obtain ⟨w678, -, hst679, hb680, hu681, hf682⟩ := s_two (v0 := iv ((negM (Nm.mk 0 ((valR dd 0).1))).k)) (v1 := iv ((negM (Nm.mk 0 ((valR dd 0).1))).n)) Try.sizeOf23 rfl rfl rfl hb676
  refine st_act rfl rfl fun K683 hL684 => a_store' rfl h673 h674 hst679 (hL684 _ _ trivial ?_)
  have hN685 := hN677.trans hu681 (fun k hk hkb => by subst hkb; omega)
  refine st_take rfl rfl (y_assign (v := .bool true) rfl h675) rfl ?_
  obtain ⟨a686, ha687⟩ : ∃ a', a' = a667.put (some 3) (.bool true) := ⟨_, rfl⟩
  have hs688 : a686.tmps.size = 91 := by rw [ha687, put_size]; exact hs671
  have hd689 : a686.defers = [] := by rw [ha687, put_defers]; exact hd672
  have h690 := pn ha687 h673 (by decide)
  have h691 := pn ha687 h674 (by decide)
  have h692 := pn ha687 h675 (by decide)
  have h693 : a686.eval (.tmp 3) = .bool true := by rw [ha687]; exact put_same _ _ _ (by rw [hs671]; decide)
  show stepsTo _ _ _ _ _ (a667.put (some 3) (.bool true)) _
  rw [← ha687]
  refine st_nil (hK666 _ _ ?_)
  refine wp_ret (ret_k hd689 (v := .tuple #[nv (negM (Nm.mk 0 ((valR dd 0).1))), .bool true]) (res_ct rfl h690 h693 (l_two Try.isAgg23 Try.sizeOf23 hb680)) ?_)
  refine ⟨?_, hN685⟩
  show Ending.returned (.tuple #[nv (negM (Nm.mk 0 ((valR dd 0).1))), .bool true]) = Ending.returned (.tuple #[nv ((numT u).1), .bool ((numT u).2)])
  first | rfl | (simp only [hbody, bodyT, ht78, ht204, ht327, ht460, ht594, ht642, bsm] <;> rfl) | (simp [hbody, bodyT, ht78, ht204, ht327, ht460, ht594, ht642]; done) | (exfalso; omega)
  have hv694 := hB h638 ht642
  refine wp_cond_false hv694 ?_
  refine wp_skip ?_
  refine hK627 _ _ ?_
  refine wp_seq_k fun K695 hK695 => ?_
  refine wp_g [true, true, false, false] [1] [(2, false), (3, true)] 91
    [ve (nv (Nm.mk 0 ((valR dd 0).1))),
     ve (.bool true),
     vt,
     vt]
    [] newsNil hs633 (.eq (.eq (.tt (.tt (.nil))))) ?_ ?_ ?_
  refine .o1 (tk rfl rfl fun _ w hn k => ⟨_, v_load rfl (k.fx 7 h636) (l_two Try.isAgg23 Try.sizeOf23 (hb640.new_ hn)), rfl⟩) ?_
  refine .o3 ?_
  refine .off ?_
  refine .off ?_
  exact .nil
  intro i h
  simp only [List.contains_eq_mem, List.mem_cons, List.not_mem_nil, or_false, decide_eq_true_eq] at h
  subst h
  exact eager_take rfl rfl fun _ w hn k => ⟨.bool true, fun w => v_move rfl (k.fx 8 h637), rfl⟩
  intro a696 w697 hn698 ha699
  obtain ⟨hs700, hd701, hN706⟩ := aft ha699 hs633 hd634 hN641 hn698
  have h702 := ha699.fx 2 h635
  have h703 := ha699.ge 0 89 rfl
  have h704 := ha699.ge 1 90 rfl
  have hb705 := hb639.new_ hn698
  obtain ⟨w707, -, hst708, hb709, hu710, hf711⟩ := s_two (v0 := iv 0) (v1 := iv ((valR dd 0).1)) Try.sizeOf23 rfl rfl rfl hb705
  refine st_act rfl rfl fun K712 hL713 => a_store' rfl h702 h703 hst708 (hL713 _ _ trivial ?_)
  have hN714 := hN706.trans hu710 (fun k hk hkb => by subst hkb; omega)
  refine st_take rfl rfl (y_assign (v := .bool true) rfl h704) rfl ?_
  obtain ⟨a715, ha716⟩ : ∃ a', a' = a696.put (some 3) (.bool true) := ⟨_, rfl⟩
  have hs717 : a715.tmps.size = 91 := by rw [ha716, put_size]; exact hs700
  have hd718 : a715.defers = [] := by rw [ha716, put_defers]; exact hd701
  have h719 := pn ha716 h702 (by decide)
  have h720 := pn ha716 h703 (by decide)
  have h721 := pn ha716 h704 (by decide)
  have h722 : a715.eval (.tmp 3) = .bool true := by rw [ha716]; exact put_same _ _ _ (by rw [hs700]; decide)
  show stepsTo _ _ _ _ _ (a696.put (some 3) (.bool true)) _
  rw [← ha716]
  refine st_nil (hK695 _ _ ?_)
  refine wp_ret (ret_k hd718 (v := .tuple #[nv (Nm.mk 0 ((valR dd 0).1)), .bool true]) (res_ct rfl h719 h722 (l_two Try.isAgg23 Try.sizeOf23 hb709)) ?_)
  refine ⟨?_, hN714⟩
  show Ending.returned (.tuple #[nv (Nm.mk 0 ((valR dd 0).1)), .bool true]) = Ending.returned (.tuple #[nv ((numT u).1), .bool ((numT u).2)])
  first | rfl | (simp only [hbody, bodyT, ht78, ht204, ht327, ht460, ht594, ht642, bsm] <;> rfl) | (simp [hbody, bodyT, ht78, ht204, ht327, ht460, ht594, ht642]; done) | (exfalso; omega)
  have hv723 : a578.eval (.tmp 82) = .bool true := h589.trans (congrArg Value.bool (by rw [ht594]; rfl))
  refine wp_cond_true hv723 ?_
  refine wp_seq_k fun K724 hK724 => ?_
  refine wp_g0 [true, false, false] [(1, false), (2, true)] 91
    [ve (nv (Nm.mk 2 0)),
     vt,
     vt] hs582 (.eq (.tt (.tt (.nil)))) ?_ ?_
  refine .o1 (tk rfl rfl fun _ w hn k => ⟨_, v_load rfl (k.fx 4 h586) (l_two Try.isAgg23 Try.sizeOf23 (hb591.new_ hn)), rfl⟩) ?_
  refine .off ?_
  refine .off ?_
  exact .nil
  intro a725 w726 hn727 ha728
  obtain ⟨hs729, hd730, hN734⟩ := aft ha728 hs582 hd583 hN593 hn727
  have h731 := ha728.fx 2 h585
  have h732 := ha728.ge 0 83 rfl
  have hb733 := hb590.new_ hn727
  obtain ⟨w735, -, hst736, hb737, hu738, hf739⟩ := s_two (v0 := iv 2) (v1 := iv 0) Try.sizeOf23 rfl rfl rfl hb733
  refine st_act rfl rfl fun K740 hL741 => a_store' rfl h731 h732 hst736 (hL741 _ _ trivial ?_)
  have hN742 := hN734.trans hu738 (fun k hk hkb => by subst hkb; omega)
  refine st_take rfl rfl (y_assign (v := .bool false) rfl rfl) rfl ?_
  obtain ⟨a743, ha744⟩ : ∃ a', a' = a725.put (some 3) (.bool false) := ⟨_, rfl⟩
  have hs745 : a743.tmps.size = 91 := by rw [ha744, put_size]; exact hs729
  have hd746 : a743.defers = [] := by rw [ha744, put_defers]; exact hd730
  have h747 := pn ha744 h731 (by decide)
  have h748 := pn ha744 h732 (by decide)
  have h749 : a743.eval (.tmp 3) = .bool false := by rw [ha744]; exact put_same _ _ _ (by rw [hs729]; decide)
  show stepsTo _ _ _ _ _ (a725.put (some 3) (.bool false)) _
  rw [← ha744]
  refine st_nil (hK724 _ _ ?_)
  refine wp_ret (ret_k hd746 (v := .tuple #[nv (Nm.mk 2 0), .bool false]) (res_ct rfl h747 h749 (l_two Try.isAgg23 Try.sizeOf23 hb737)) ?_)
  refine ⟨?_, hN742⟩
  show Ending.returned (.tuple #[nv (Nm.mk 2 0), .bool false]) = Ending.returned (.tuple #[nv ((numT u).1), .bool ((numT u).2)])
  first | rfl | (simp only [hbody, bodyT, ht78, ht204, ht327, ht460, ht594, bsm] <;> rfl) | (simp [hbody, bodyT, ht78, ht204, ht327, ht460, ht594]; done) | (exfalso; omega)
  intro K750 hK750
  refine wp_seq_k fun K751 hK751 => ?_
  rcases Bool.eq_false_or_eq_true (decide ((((trimN u).getD 0 0 : Nat) : Int) = 45)) with ht752 | ht752
  have ht752d := of_decide_eq_true ht752
  have hv753 := hB h118 ht752
  refine wp_g0 [true, true, true, true, true, true, true] [] 91
    [ve (.bool true),
     ve (.bool true),
     ve undef,
     ve undef,
     ve undef,
     ve undef,
     ve (.bool true)] hs112 (.eq (.eq (.eq (.eq (.eq (.eq (.eq (.nil)))))))) ?_ ?_
  refine .o1 (tk rfl rfl fun _ w hn k => ⟨_, v_move rfl (k.fx 6 hv753), rfl⟩) ?_
  refine .o1 (tk rfl rfl fun _ w hn k => ⟨_, v_move rfl (k.eq1 0 49 rfl), rfl⟩) ?_
  refine .o1 (sk rfl rfl rfl (fun _ _ _ k => k.eq1 1 50 rfl) (fun _ => rfl)) ?_
  refine .o1 (sk rfl rfl rfl (fun _ _ _ k => k.eq1 1 50 rfl) (fun _ => rfl)) ?_
  refine .o1 (sk rfl rfl rfl (fun _ _ _ k => k.eq1 1 50 rfl) (fun _ => rfl)) ?_
  refine .o1 (sk rfl rfl rfl (fun _ _ _ k => k.eq1 1 50 rfl) (fun _ => rfl)) ?_
  refine .o1 (tk rfl rfl fun _ w hn k => ⟨_, v_pickT rfl (k.eq1 1 50 rfl) rfl, rfl⟩) ?_
  exact .nil
  intro a754 w755 hn756 ha757
  obtain ⟨hs758, hd759, hN769⟩ := aft ha757 hs112 hd113 hN122 hn756
  have h760 := ha757.fx 0 h114
  have h761 := ha757.fx 2 h115
  have h762 := ha757.fx 4 h116
  have h763 := ha757.fx 5 h117
  have h764 := ha757.fx 6 hv753
  have h765 := ha757.ge 6 55 rfl
  have hb766 := hb119.new_ hn756
  have hb767 := hb120.new_ hn756
  have hr768 := hr121.new_ hn756
  refine st_nil (hK751 _ _ ?_)
  refine wp_cond_true h765 ?_
  refine wp_g0 [true, true, true] [] 91
    [ve (sv A4 (trimN u) c4),
     (fun (v_ : Value) (W : World) => ∃ (A19 : Option Addr) (c20 : Nat), v_ = sv A19 ((trimN u).drop 1) c20 ∧ SRow W .u16 A19 ((trimN u).drop 1) c20),
     (fun (v_ : Value) (W : World) => ∃ (A25 : Option Addr) (c26 : Nat), v_ = sv A25 ((trimN u).drop 1) c26 ∧ SRow W .u16 A25 ((trimN u).drop 1) c26)] hs758 (.eq (.cons (fun v W W' hn ⟨A19, c20, he, h0⟩ => ⟨A19, c20, he, h0.new_ hn⟩) (.cons (fun v W W' hn ⟨A25, c26, he, h0⟩ => ⟨A25, c26, he, h0.new_ hn⟩) (.nil)))) ?_ ?_
  refine .o1 (tk rfl rfl fun _ w hn k => ⟨_, v_move rfl (k.fx 0 h760), rfl⟩) ?_
  refine .o1 (tk rfl rfl fun _ w hn k => (by
        exact x_cutL (k := .u16) rfl elU (k.eq1 0 56 rfl) rfl (hr768.new_ hn) (by omega) fun A17 c18 hmr => ⟨A17, c18, rfl, hmr⟩)) ?_
  refine .o1 (tk rfl rfl fun _ w hn k => (by
        obtain ⟨A21, c22, e23, hx24⟩ : (fun (v_ : Value) (W : World) => ∃ (A19 : Option Addr) (c20 : Nat), v_ = sv A19 ((trimN u).drop 1) c20 ∧ SRow W .u16 A19 ((trimN u).drop 1) c20) _ _ := k.dep 1 57 (by kernel_rfl) (by kernel_rfl)
        exact ⟨_, v_assign rfl e23, ⟨A21, c22, rfl, hx24⟩⟩)) ?_
  exact .nil
  intro a770 w771 hn772 ha773
  obtain ⟨hs774, hd775, hN787⟩ := aft ha773 hs758 hd759 hN769 hn772
  have h776 := ha773.fx 0 h760
  have h777 := ha773.fx 2 h761
  have h778 := ha773.fx 4 h762
  have h779 := ha773.fx 6 h764
  obtain ⟨A781, cc782, h780, hr783⟩ : (fun (v_ : Value) (W : World) => ∃ (A25 : Option Addr) (c26 : Nat), v_ = sv A25 ((trimN u).drop 1) c26 ∧ SRow W .u16 A25 ((trimN u).drop 1) c26) _ _ := ha773.got 2 5 rfl (by kernel_rfl)
  have h780 : a770.eval (.tmp 5) = sv A781 ((trimN u).drop 1) cc782 := h780
  have hb784 := hb766.new_ hn772
  have hb785 := hb767.new_ hn772
  have hr786 := hr768.new_ hn772
  refine st_nil ?_
  exact hK750 _ _ ⟨true, ((trimN u).drop 1), A781, cc782, hs774, hd775, hN787, h780, h779, h776, h777, h778, hb784, hb785, hr783, hr786, (by unfold numT; simp only [ht78, ht752, bsm]), (hut.drop 1)⟩
  have ht752d := of_decide_eq_false ht752
  have hv788 := hB h118 ht752
  refine wp_g0 [true, true, true, true, true, true, true] [] 91
    [ve (.bool false),
     ve (.bool false),
     ve (sv A4 (trimN u) c4),
     (fun (v_ : Value) (W : World) => ∃ (b29 : Nat) (o30 : Nat), v_ = .pointer (some ⟨b29, o30, none⟩) ∧ SElem W b29 o30 (.int .u16 (((trimN u).getD 0 0 : Nat) : Int))),
     ve (.int .u16 (((trimN u).getD 0 0 : Nat) : Int)),
     ve (.bool (decide ((((trimN u).getD 0 0 : Nat) : Int) = 43))),
     ve (.bool (decide ((((trimN u).getD 0 0 : Nat) : Int) = 43)))] hs112 (.eq (.eq (.eq (.cons (fun v W W' hn ⟨b29, o30, he, h0⟩ => ⟨b29, o30, he, h0.new_ hn⟩) (.eq (.eq (.eq (.nil)))))))) ?_ ?_
  refine .o1 (tk rfl rfl fun _ w hn k => ⟨_, v_move rfl (k.fx 6 hv788), rfl⟩) ?_
  refine .o1 (tk rfl rfl fun _ w hn k => ⟨_, v_move rfl (k.eq1 0 49 rfl), rfl⟩) ?_
  refine .o1 (tg rfl rfl rfl (fun _ _ k => k.eq1 1 50 rfl) fun _ w hn k => ⟨_, v_move rfl (k.fx 0 h114), rfl⟩) ?_
  refine .o1 (tg rfl rfl rfl (fun _ _ k => k.eq1 1 50 rfl) fun _ w hn k => (by
        exact x_eaddr (k := .u16) rfl elU (k.eq1 2 51 rfl) rfl (hr121.new_ hn) (by omega) fun b27 o28 hme => ⟨b27, o28, rfl, hme⟩)) ?_
  refine .o1 (tg rfl rfl rfl (fun _ _ k => k.eq1 1 50 rfl) fun _ w hn k => (by
        obtain ⟨b31, o32, e33, hx34⟩ : (fun (v_ : Value) (W : World) => ∃ (b29 : Nat) (o30 : Nat), v_ = .pointer (some ⟨b29, o30, none⟩) ∧ SElem W b29 o30 (.int .u16 (((trimN u).getD 0 0 : Nat) : Int))) _ _ := k.dep 3 52 (by kernel_rfl) (by kernel_rfl)
        exact ⟨_, v_load rfl e33 (l_one Try.isAgg66 hx34.1), rfl⟩)) ?_
  refine .o1 (tg rfl rfl rfl (fun _ _ k => k.eq1 1 50 rfl) fun _ w hn k => ⟨_, v_bin rfl (k.eq1 4 53 rfl) rfl (fun _ => rfl) (r_eql rfl), rfl⟩) ?_
  refine .o1 (tk rfl rfl fun _ w hn k => ⟨_, v_pickF rfl (k.eq1 1 50 rfl) (k.eq1 5 54 rfl), rfl⟩) ?_
  exact .nil
  intro a789 w790 hn791 ha792
  obtain ⟨hs793, hd794, hN804⟩ := aft ha792 hs112 hd113 hN122 hn791
  have h795 := ha792.fx 0 h114
  have h796 := ha792.fx 2 h115
  have h797 := ha792.fx 4 h116
  have h798 := ha792.fx 5 h117
  have h799 := ha792.fx 6 hv788
  have h800 := ha792.ge 6 55 rfl
  have hb801 := hb119.new_ hn791
  have hb802 := hb120.new_ hn791
  have hr803 := hr121.new_ hn791
  refine st_nil (hK751 _ _ ?_)
  rcases Bool.eq_false_or_eq_true (decide ((((trimN u).getD 0 0 : Nat) : Int) = 43)) with ht805 | ht805
  have ht805d := of_decide_eq_true ht805
  have hv806 := hB h800 ht805
  refine wp_cond_true hv806 ?_
  refine wp_g0 [true, true, true] [] 91
    [ve (sv A4 (trimN u) c4),
     (fun (v_ : Value) (W : World) => ∃ (A37 : Option Addr) (c38 : Nat), v_ = sv A37 ((trimN u).drop 1) c38 ∧ SRow W .u16 A37 ((trimN u).drop 1) c38),
     (fun (v_ : Value) (W : World) => ∃ (A43 : Option Addr) (c44 : Nat), v_ = sv A43 ((trimN u).drop 1) c44 ∧ SRow W .u16 A43 ((trimN u).drop 1) c44)] hs793 (.eq (.cons (fun v W W' hn ⟨A37, c38, he, h0⟩ => ⟨A37, c38, he, h0.new_ hn⟩) (.cons (fun v W W' hn ⟨A43, c44, he, h0⟩ => ⟨A43, c44, he, h0.new_ hn⟩) (.nil)))) ?_ ?_
  refine .o1 (tk rfl rfl fun _ w hn k => ⟨_, v_move rfl (k.fx 0 h795), rfl⟩) ?_
  refine .o1 (tk rfl rfl fun _ w hn k => (by
        exact x_cutL (k := .u16) rfl elU (k.eq1 0 56 rfl) rfl (hr803.new_ hn) (by omega) fun A35 c36 hmr => ⟨A35, c36, rfl, hmr⟩)) ?_
  refine .o1 (tk rfl rfl fun _ w hn k => (by
        obtain ⟨A39, c40, e41, hx42⟩ : (fun (v_ : Value) (W : World) => ∃ (A37 : Option Addr) (c38 : Nat), v_ = sv A37 ((trimN u).drop 1) c38 ∧ SRow W .u16 A37 ((trimN u).drop 1) c38) _ _ := k.dep 1 57 (by kernel_rfl) (by kernel_rfl)
        exact ⟨_, v_assign rfl e41, ⟨A39, c40, rfl, hx42⟩⟩)) ?_
  exact .nil
  intro a807 w808 hn809 ha810
  obtain ⟨hs811, hd812, hN824⟩ := aft ha810 hs793 hd794 hN804 hn809
  have h813 := ha810.fx 0 h795
  have h814 := ha810.fx 2 h796
  have h815 := ha810.fx 4 h797
  have h816 := ha810.fx 6 h799
  obtain ⟨A818, cc819, h817, hr820⟩ : (fun (v_ : Value) (W : World) => ∃ (A43 : Option Addr) (c44 : Nat), v_ = sv A43 ((trimN u).drop 1) c44 ∧ SRow W .u16 A43 ((trimN u).drop 1) c44) _ _ := ha810.got 2 5 rfl (by kernel_rfl)
  have h817 : a807.eval (.tmp 5) = sv A818 ((trimN u).drop 1) cc819 := h817
  have hb821 := hb801.new_ hn809
  have hb822 := hb802.new_ hn809
  have hr823 := hr803.new_ hn809
  refine st_nil ?_
  exact hK750 _ _ ⟨false, ((trimN u).drop 1), A818, cc819, hs811, hd812, hN824, h817, h816, h813, h814, h815, hb821, hb822, hr820, hr823, (by unfold numT; simp only [ht78, ht752, ht805, bsm]), (hut.drop 1)⟩
  have ht805d := of_decide_eq_false ht805
  have hv825 := hB h800 ht805
  refine wp_cond_false hv825 ?_
  refine wp_skip ?_
  exact hK750 _ _ ⟨false, (trimN u), A4, c4, hs793, hd794, hN804, h798, h799, h795, h796, h797, hb801, hb802, hr803, hr803, (by unfold numT; simp only [ht78, ht752, ht805, bsm]), hut⟩
  intro K826 hK826
  refine wp_block ?_
  refine wp_loopX (fun (mm : Nat) (aa : Act) (ww : World) => ∃ (cu2 : List Nat) (A2 : Option Addr) (c2 : Nat), mm = cu2.length ∧ aa.tmps.size = 91 ∧ aa.defers = [] ∧ New w ww ∧ aa.eval (.tmp 0) = sv A2 cu2 c2 ∧ aa.eval (.tmp 2) = pv q10 ∧ Blk ww q10 23 [iv 0, iv 0] ∧ SRow ww .u16 A2 cu2 c2 ∧ (rtrimN cu2 = trimN u) ∧ (U16s cu2)) (fun mm => mm) ⟨_, ⟨(u.dropWhile blankN), A3, c3, rfl, hs17, hd18, hN19, h20, h21, hb22, hr23, rfl, (hu.dw _)⟩⟩ ?_
  rintro mm a827 w828 ⟨cu2, A2, c2, hmm, hs829, hd830, hN831, h832, h833, hb834, hr835, hc2, hcu2⟩
  refine wp_seq_k fun K836 hK836 => ?_
  refine wp_seq_k fun K837 hK837 => ?_
  have hix2 : ((cu2.length : Int) - 1).toNat = cu2.length - 1 := by omega
  rcases Bool.eq_false_or_eq_true (decide ((cu2.length : Int) ≤ 0)) with ht838 | ht838
  have ht838d := of_decide_eq_true ht838
  have hb := hcu2.at16 ((cu2.length : Int) - 1).toNat
  have hm2 := hr835.max
  refine wp_g0 [true, true, true, true, true, true, true, true, true, true, true, true] [] 91
    [ve (sv A2 cu2 c2),
     ve (iv (cu2.length : Int)),
     ve (.bool false),
     ve (.bool false),
     ve undef,
     ve undef,
     ve undef,
     ve undef,
     ve undef,
     ve undef,
     ve undef,
     ve (.bool false)] hs829 (.eq (.eq (.eq (.eq (.eq (.eq (.eq (.eq (.eq (.eq (.eq (.eq (.nil))))))))))))) ?_ ?_
  refine .o1 (tk rfl rfl fun _ w hn k => ⟨_, v_move rfl (k.fx 0 h832), rfl⟩) ?_
  refine .o1 (tk rfl rfl fun _ w hn k => ⟨_, v_lenR rfl elU (k.eq1 0 22 rfl), rfl⟩) ?_
  refine .o1 (tk rfl rfl fun _ w hn k => ⟨_, v_bin rfl (k.eq1 1 23 rfl) rfl (fun _ => rfl) (r_gtrK ht838), rfl⟩) ?_
  refine .o1 (tk rfl rfl fun _ w hn k => ⟨_, v_move rfl (k.eq1 2 24 rfl), rfl⟩) ?_
  refine .o1 (sk rfl rfl rfl (fun _ _ _ k => k.eq1 3 25 rfl) (fun _ => rfl)) ?_
  refine .o1 (sk rfl rfl rfl (fun _ _ _ k => k.eq1 3 25 rfl) (fun _ => rfl)) ?_
  refine .o1 (sk rfl rfl rfl (fun _ _ _ k => k.eq1 3 25 rfl) (fun _ => rfl)) ?_
  refine .o1 (sk rfl rfl rfl (fun _ _ _ k => k.eq1 3 25 rfl) (fun _ => rfl)) ?_
  refine .o1 (sk rfl rfl rfl (fun _ _ _ k => k.eq1 3 25 rfl) (fun _ => rfl)) ?_
  refine .o1 (sk rfl rfl rfl (fun _ _ _ k => k.eq1 3 25 rfl) (fun _ => rfl)) ?_
  refine .o1 (sk rfl rfl rfl (fun _ _ _ k => k.eq1 3 25 rfl) (fun _ => rfl)) ?_
  refine .o1 (tk rfl rfl fun _ w hn k => ⟨_, v_pickF rfl (k.eq1 3 25 rfl) rfl, rfl⟩) ?_
  exact .nil
  intro a839 w840 hn841 ha842
  obtain ⟨hs843, hd844, hN850⟩ := aft ha842 hs829 hd830 hN831 hn841
  have h845 := ha842.fx 0 h832
  have h846 := ha842.fx 2 h833
  have h847 := ha842.ge 11 33 rfl
  have hb848 := hb834.new_ hn841
  have hr849 := hr835.new_ hn841
  refine st_nil (hK837 _ _ ?_)
  refine wp_cond_false h847 ?_
  refine wp_exit ?_
  have hrt := rt_end (l := cu2) (Or.inl (by omega))
  have he851 : cu2 = (trimN u) := hrt.symm.trans hc2
  rw [he851] at h845
  rw [he851] at hr849
  exact hK826 _ _ ⟨A2, c2, hs843, hd844, hN850, h845, h846, hb848, hr849⟩
  have ht838d := of_decide_eq_false ht838
  have hb := hcu2.at16 ((cu2.length : Int) - 1).toNat
  have hm2 := hr835.max
  refine wp_g0 [true, true, true, true, true, true, true, true, true, true, true, true] [] 91
    [ve (sv A2 cu2 c2),
     ve (iv (cu2.length : Int)),
     ve (.bool true),
     ve (.bool true),
     ve (sv A2 cu2 c2),
     ve (sv A2 cu2 c2),
     ve (iv (cu2.length : Int)),
     ve (iv ((cu2.length : Int) - 1)),
     (fun (v_ : Value) (W : World) => ∃ (b47 : Nat) (o48 : Nat), v_ = .pointer (some ⟨b47, o48, none⟩) ∧ SElem W b47 o48 (.int .u16 ((cu2.getD (((cu2.length : Int) - 1 : Int).toNat) 0 : Nat) : Int))),
     ve (.int .u16 ((cu2.getD (((cu2.length : Int) - 1 : Int).toNat) 0 : Nat) : Int)),
     ve (.bool (blankN (cu2.getD (((cu2.length : Int) - 1 : Int).toNat) 0))),
     ve (.bool (blankN (cu2.getD (((cu2.length : Int) - 1 : Int).toNat) 0)))] hs829 (.eq (.eq (.eq (.eq (.eq (.eq (.eq (.eq (.cons (fun v W W' hn ⟨b47, o48, he, h0⟩ => ⟨b47, o48, he, h0.new_ hn⟩) (.eq (.eq (.eq (.nil))))))))))))) ?_ ?_
  refine .o1 (tk rfl rfl fun _ w hn k => ⟨_, v_move rfl (k.fx 0 h832), rfl⟩) ?_
  refine .o1 (tk rfl rfl fun _ w hn k => ⟨_, v_lenR rfl elU (k.eq1 0 22 rfl), rfl⟩) ?_
  refine .o1 (tk rfl rfl fun _ w hn k => ⟨_, v_bin rfl (k.eq1 1 23 rfl) rfl (fun _ => rfl) (r_gtrK ht838), rfl⟩) ?_
  refine .o1 (tk rfl rfl fun _ w hn k => ⟨_, v_move rfl (k.eq1 2 24 rfl), rfl⟩) ?_
  refine .o1 (tg rfl rfl rfl (fun _ _ k => k.eq1 3 25 rfl) fun _ w hn k => ⟨_, v_move rfl (k.fx 0 h832), rfl⟩) ?_
  refine .o1 (tg rfl rfl rfl (fun _ _ k => k.eq1 3 25 rfl) fun _ w hn k => ⟨_, v_move rfl (k.fx 0 h832), rfl⟩) ?_
  refine .o1 (tg rfl rfl rfl (fun _ _ k => k.eq1 3 25 rfl) fun _ w hn k => ⟨_, v_lenR rfl elU (k.eq1 5 27 rfl), rfl⟩) ?_
  refine .o1 (tg rfl rfl rfl (fun _ _ k => k.eq1 3 25 rfl) fun _ w hn k => ⟨_, v_bin rfl (k.eq1 6 28 rfl) rfl (fun _ => rfl) (r_sub rfl (by omega)), rfl⟩) ?_
  refine .o1 (tg rfl rfl rfl (fun _ _ k => k.eq1 3 25 rfl) fun _ w hn k => (by
        exact x_eaddr (k := .u16) rfl elU (k.eq1 4 26 rfl) (k.eq1 7 29 rfl) (hr835.new_ hn) (by omega) fun b45 o46 hme => ⟨b45, o46, rfl, hme⟩)) ?_
  refine .o1 (tg rfl rfl rfl (fun _ _ k => k.eq1 3 25 rfl) fun _ w hn k => (by
        obtain ⟨b49, o50, e51, hx52⟩ : (fun (v_ : Value) (W : World) => ∃ (b47 : Nat) (o48 : Nat), v_ = .pointer (some ⟨b47, o48, none⟩) ∧ SElem W b47 o48 (.int .u16 ((cu2.getD (((cu2.length : Int) - 1 : Int).toNat) 0 : Nat) : Int))) _ _ := k.dep 8 30 (by kernel_rfl) (by kernel_rfl)
        exact ⟨_, v_load rfl e51 (l_one Try.isAgg66 hx52.1), rfl⟩)) ?_
  refine .o1 (cg rfl rfl rfl (fun _ _ k => k.eq1 3 25 rfl) rfl (fun _ w hn k => ⟨#[.int .u16 ((cu2.getD (((cu2.length : Int) - 1 : Int).toNat) 0 : Nat) : Int)], args1 (k.eq1 9 31 rfl), fun _ => by kernel_rfl, blank_c (cu2.getD (((cu2.length : Int) - 1 : Int).toNat) 0) _ (by omega)⟩) fun _ => rfl) ?_
  refine .o1 (tk rfl rfl fun _ w hn k => ⟨_, v_pickT rfl (k.eq1 3 25 rfl) (k.eq1 10 32 rfl), rfl⟩) ?_
  exact .nil
  intro a852 w853 hn854 ha855
  obtain ⟨hs856, hd857, hN863⟩ := aft ha855 hs829 hd830 hN831 hn854
  have h858 := ha855.fx 0 h832
  have h859 := ha855.fx 2 h833
  have h860 := ha855.ge 11 33 rfl
  have hb861 := hb834.new_ hn854
  have hr862 := hr835.new_ hn854
  refine st_nil (hK837 _ _ ?_)
  rcases Bool.eq_false_or_eq_true (blankN (cu2.getD (((cu2.length : Int) - 1 : Int).toNat) 0)) with ht864 | ht864
  have hv865 := hB h860 ht864
  refine wp_cond_true hv865 ?_
  refine wp_skip ?_
  refine hK836 _ _ ?_
  refine wp_block ?_
  have hm2 := hr862.max
  refine wp_g0 [true, true, true, true, true, false] [(5, true)] 91
    [ve (sv A2 cu2 c2),
     ve (sv A2 cu2 c2),
     ve (iv (cu2.length : Int)),
     ve (iv ((cu2.length : Int) - 1)),
     (fun (v_ : Value) (W : World) => ∃ (A55 : Option Addr) (c56 : Nat), v_ = sv A55 (cu2.take (((cu2.length : Int) - 1 : Int).toNat)) c56 ∧ SRow W .u16 A55 (cu2.take (((cu2.length : Int) - 1 : Int).toNat)) c56),
     vt] hs856 (.eq (.eq (.eq (.eq (.cons (fun v W W' hn ⟨A55, c56, he, h0⟩ => ⟨A55, c56, he, h0.new_ hn⟩) (.tt (.nil))))))) ?_ ?_
  refine .o1 (tk rfl rfl fun _ w hn k => ⟨_, v_move rfl (k.fx 0 h858), rfl⟩) ?_
  refine .o1 (tk rfl rfl fun _ w hn k => ⟨_, v_move rfl (k.fx 0 h858), rfl⟩) ?_
  refine .o1 (tk rfl rfl fun _ w hn k => ⟨_, v_lenR rfl elU (k.eq1 1 35 rfl), rfl⟩) ?_
  refine .o1 (tk rfl rfl fun _ w hn k => ⟨_, v_bin rfl (k.eq1 2 36 rfl) rfl (fun _ => rfl) (r_sub rfl (by omega)), rfl⟩) ?_
  refine .o1 (tk rfl rfl fun _ w hn k => (by
        exact x_cutH (k := .u16) rfl elU (k.eq1 0 34 rfl) (k.eq1 3 37 rfl) (hr862.new_ hn) (by omega) fun A53 c54 hmr => ⟨A53, c54, rfl, hmr⟩)) ?_
  refine .off ?_
  exact .nil
  intro a866 w867 hn868 ha869
  obtain ⟨hs870, hd871, hN880⟩ := aft ha869 hs856 hd857 hN863 hn868
  have h872 := ha869.fx 0 h858
  have h873 := ha869.fx 2 h859
  obtain ⟨A875, cc876, h874, hr877⟩ : (fun (v_ : Value) (W : World) => ∃ (A55 : Option Addr) (c56 : Nat), v_ = sv A55 (cu2.take (((cu2.length : Int) - 1 : Int).toNat)) c56 ∧ SRow W .u16 A55 (cu2.take (((cu2.length : Int) - 1 : Int).toNat)) c56) _ _ := ha869.got 4 38 rfl (by kernel_rfl)
  have h874 : a866.eval (.tmp 38) = sv A875 (cu2.take (((cu2.length : Int) - 1 : Int).toNat)) cc876 := h874
  have hb878 := hb861.new_ hn868
  have hr879 := hr862.new_ hn868
  refine st_take rfl rfl (y_assign (v := sv A875 (cu2.take (((cu2.length : Int) - 1 : Int).toNat)) cc876) rfl h874) rfl ?_
  obtain ⟨a881, ha882⟩ : ∃ a', a' = a866.put (some 0) (sv A875 (cu2.take (((cu2.length : Int) - 1 : Int).toNat)) cc876) := ⟨_, rfl⟩
  have hs883 : a881.tmps.size = 91 := by rw [ha882, put_size]; exact hs870
  have hd884 : a881.defers = [] := by rw [ha882, put_defers]; exact hd871
  have h885 := pn ha882 h873 (by decide)
  have h886 := pn ha882 h874 (by decide)
  have h887 : a881.eval (.tmp 0) = sv A875 (cu2.take (((cu2.length : Int) - 1 : Int).toNat)) cc876 := by rw [ha882]; exact put_same _ _ _ (by rw [hs870]; decide)
  show stepsTo _ _ _ _ _ (a866.put (some 0) (sv A875 (cu2.take (((cu2.length : Int) - 1 : Int).toNat)) cc876)) _
  rw [← ha882]
  refine st_nil ?_
  refine blk_n ?_
  refine then_n ?_
  exact ⟨_, ⟨(cu2.take (((cu2.length : Int) - 1 : Int).toNat)), A875, cc876, rfl, hs883, hd884, hN880, h887, h885, hb878, hr877, (by rw [hix2]; rw [hix2] at ht864; exact (rt_step (by omega) ht864).trans hc2), (hcu2.take _)⟩, (by rw [List.length_take]; omega)⟩
  have hv888 := hB h860 ht864
  refine wp_cond_false hv888 ?_
  refine wp_exit ?_
  rw [hix2] at ht864
  have hrt := rt_end (l := cu2) (Or.inr ⟨by omega, ht864⟩)
  have he889 : cu2 = (trimN u) := hrt.symm.trans hc2
  rw [he889] at h858
  rw [he889] at hr862
  exact hK826 _ _ ⟨A2, c2, hs856, hd857, hN863, h858, h859, hb861, hr862⟩
  intro K890 hK890
  refine wp_block ?_
  refine wp_loopX (fun (mm : Nat) (aa : Act) (ww : World) => ∃ (cur : List Nat) (A1 : Option Addr) (c1 : Nat), mm = cur.length ∧ aa.tmps.size = 91 ∧ aa.defers = [] ∧ New w ww ∧ aa.eval (.tmp 0) = sv A1 cur c1 ∧ aa.eval (.tmp 2) = pv q10 ∧ Blk ww q10 23 [iv 0, iv 0] ∧ SRow ww .u16 A1 cur c1 ∧ (cur.dropWhile blankN = u.dropWhile blankN) ∧ (U16s cur)) (fun mm => mm) ⟨_, ⟨u, Au, cu, rfl, hs6, hd7, hN14, h8, h9, hb12, (hru.new_ hN14), rfl, hu⟩⟩ ?_
  rintro mm a891 w892 ⟨cur, A1, c1, hmm, hs893, hd894, hN895, h896, h897, hb898, hr899, hcd, hcu⟩
  refine wp_seq_k fun K900 hK900 => ?_
  refine wp_seq_k fun K901 hK901 => ?_
  rcases Bool.eq_false_or_eq_true (decide ((cur.length : Int) ≤ 0)) with ht902 | ht902
  have ht902d := of_decide_eq_true ht902
  have hb := hcu.at16 0
  refine wp_g0 [true, true, true, true, true, true, true, true, true] [] 91
    [ve (sv A1 cur c1),
     ve (iv (cur.length : Int)),
     ve (.bool false),
     ve (.bool false),
     ve undef,
     ve undef,
     ve undef,
     ve undef,
     ve (.bool false)] hs893 (.eq (.eq (.eq (.eq (.eq (.eq (.eq (.eq (.eq (.nil)))))))))) ?_ ?_
  refine .o1 (tk rfl rfl fun _ w hn k => ⟨_, v_move rfl (k.fx 0 h896), rfl⟩) ?_
  refine .o1 (tk rfl rfl fun _ w hn k => ⟨_, v_lenR rfl elU (k.eq1 0 11 rfl), rfl⟩) ?_
  refine .o1 (tk rfl rfl fun _ w hn k => ⟨_, v_bin rfl (k.eq1 1 12 rfl) rfl (fun _ => rfl) (r_gtrK ht902), rfl⟩) ?_
  refine .o1 (tk rfl rfl fun _ w hn k => ⟨_, v_move rfl (k.eq1 2 13 rfl), rfl⟩) ?_
  refine .o1 (sk rfl rfl rfl (fun _ _ _ k => k.eq1 3 14 rfl) (fun _ => rfl)) ?_
  refine .o1 (sk rfl rfl rfl (fun _ _ _ k => k.eq1 3 14 rfl) (fun _ => rfl)) ?_
  refine .o1 (sk rfl rfl rfl (fun _ _ _ k => k.eq1 3 14 rfl) (fun _ => rfl)) ?_
  refine .o1 (sk rfl rfl rfl (fun _ _ _ k => k.eq1 3 14 rfl) (fun _ => rfl)) ?_
  refine .o1 (tk rfl rfl fun _ w hn k => ⟨_, v_pickF rfl (k.eq1 3 14 rfl) rfl, rfl⟩) ?_
  exact .nil
  intro a903 w904 hn905 ha906
  obtain ⟨hs907, hd908, hN914⟩ := aft ha906 hs893 hd894 hN895 hn905
  have h909 := ha906.fx 0 h896
  have h910 := ha906.fx 2 h897
  have h911 := ha906.ge 8 19 rfl
  have hb912 := hb898.new_ hn905
  have hr913 := hr899.new_ hn905
  refine st_nil (hK901 _ _ ?_)
  refine wp_cond_false h911 ?_
  refine wp_exit ?_
  have hdw := dw_end (l := cur) (Or.inl (by omega))
  have he915 : cur = (u.dropWhile blankN) := hdw.symm.trans hcd
  rw [he915] at h909
  rw [he915] at hr913
  exact hK890 _ _ ⟨A1, c1, hs907, hd908, hN914, h909, h910, hb912, hr913⟩
  have ht902d := of_decide_eq_false ht902
  have hb := hcu.at16 0
  refine wp_g0 [true, true, true, true, true, true, true, true, true] [] 91
    [ve (sv A1 cur c1),
     ve (iv (cur.length : Int)),
     ve (.bool true),
     ve (.bool true),
     ve (sv A1 cur c1),
     (fun (v_ : Value) (W : World) => ∃ (b65 : Nat) (o66 : Nat), v_ = .pointer (some ⟨b65, o66, none⟩) ∧ SElem W b65 o66 (.int .u16 ((cur.getD 0 0 : Nat) : Int))),
     ve (.int .u16 ((cur.getD 0 0 : Nat) : Int)),
     ve (.bool (blankN (cur.getD 0 0))),
     ve (.bool (blankN (cur.getD 0 0)))] hs893 (.eq (.eq (.eq (.eq (.eq (.cons (fun v W W' hn ⟨b65, o66, he, h0⟩ => ⟨b65, o66, he, h0.new_ hn⟩) (.eq (.eq (.eq (.nil)))))))))) ?_ ?_
  refine .o1 (tk rfl rfl fun _ w hn k => ⟨_, v_move rfl (k.fx 0 h896), rfl⟩) ?_
  refine .o1 (tk rfl rfl fun _ w hn k => ⟨_, v_lenR rfl elU (k.eq1 0 11 rfl), rfl⟩) ?_
  refine .o1 (tk rfl rfl fun _ w hn k => ⟨_, v_bin rfl (k.eq1 1 12 rfl) rfl (fun _ => rfl) (r_gtrK ht902), rfl⟩) ?_
  refine .o1 (tk rfl rfl fun _ w hn k => ⟨_, v_move rfl (k.eq1 2 13 rfl), rfl⟩) ?_
  refine .o1 (tg rfl rfl rfl (fun _ _ k => k.eq1 3 14 rfl) fun _ w hn k => ⟨_, v_move rfl (k.fx 0 h896), rfl⟩) ?_
  refine .o1 (tg rfl rfl rfl (fun _ _ k => k.eq1 3 14 rfl) fun _ w hn k => (by
        exact x_eaddr (k := .u16) rfl elU (k.eq1 4 15 rfl) rfl (hr899.new_ hn) (by omega) fun b63 o64 hme => ⟨b63, o64, rfl, hme⟩)) ?_
  refine .o1 (tg rfl rfl rfl (fun _ _ k => k.eq1 3 14 rfl) fun _ w hn k => (by
        obtain ⟨b67, o68, e69, hx70⟩ : (fun (v_ : Value) (W : World) => ∃ (b65 : Nat) (o66 : Nat), v_ = .pointer (some ⟨b65, o66, none⟩) ∧ SElem W b65 o66 (.int .u16 ((cur.getD 0 0 : Nat) : Int))) _ _ := k.dep 5 16 (by kernel_rfl) (by kernel_rfl)
        exact ⟨_, v_load rfl e69 (l_one Try.isAgg66 hx70.1), rfl⟩)) ?_
  refine .o1 (cg rfl rfl rfl (fun _ _ k => k.eq1 3 14 rfl) rfl (fun _ w hn k => ⟨#[.int .u16 ((cur.getD 0 0 : Nat) : Int)], args1 (k.eq1 6 17 rfl), fun _ => by kernel_rfl, blank_c (cur.getD 0 0) _ (by omega)⟩) fun _ => rfl) ?_
  refine .o1 (tk rfl rfl fun _ w hn k => ⟨_, v_pickT rfl (k.eq1 3 14 rfl) (k.eq1 7 18 rfl), rfl⟩) ?_
  exact .nil
  intro a916 w917 hn918 ha919
  obtain ⟨hs920, hd921, hN927⟩ := aft ha919 hs893 hd894 hN895 hn918
  have h922 := ha919.fx 0 h896
  have h923 := ha919.fx 2 h897
  have h924 := ha919.ge 8 19 rfl
  have hb925 := hb898.new_ hn918
  have hr926 := hr899.new_ hn918
  refine st_nil (hK901 _ _ ?_)
  rcases Bool.eq_false_or_eq_true (blankN (cur.getD 0 0)) with ht928 | ht928
  have hv929 := hB h924 ht928
  refine wp_cond_true hv929 ?_
  refine wp_skip ?_
  refine hK900 _ _ ?_
  refine wp_block ?_
  refine wp_g0 [true, true, false] [(2, true)] 91
    [ve (sv A1 cur c1),
     (fun (v_ : Value) (W : World) => ∃ (A73 : Option Addr) (c74 : Nat), v_ = sv A73 (cur.drop 1) c74 ∧ SRow W .u16 A73 (cur.drop 1) c74),
     vt] hs920 (.eq (.cons (fun v W W' hn ⟨A73, c74, he, h0⟩ => ⟨A73, c74, he, h0.new_ hn⟩) (.tt (.nil)))) ?_ ?_
  refine .o1 (tk rfl rfl fun _ w hn k => ⟨_, v_move rfl (k.fx 0 h922), rfl⟩) ?_
  refine .o1 (tk rfl rfl fun _ w hn k => (by
        exact x_cutL (k := .u16) rfl elU (k.eq1 0 20 rfl) rfl (hr926.new_ hn) (by omega) fun A71 c72 hmr => ⟨A71, c72, rfl, hmr⟩)) ?_
  refine .off ?_
  exact .nil
  intro a930 w931 hn932 ha933
  obtain ⟨hs934, hd935, hN944⟩ := aft ha933 hs920 hd921 hN927 hn932
  have h936 := ha933.fx 0 h922
  have h937 := ha933.fx 2 h923
  obtain ⟨A939, cc940, h938, hr941⟩ : (fun (v_ : Value) (W : World) => ∃ (A73 : Option Addr) (c74 : Nat), v_ = sv A73 (cur.drop 1) c74 ∧ SRow W .u16 A73 (cur.drop 1) c74) _ _ := ha933.got 1 21 rfl (by kernel_rfl)
  have h938 : a930.eval (.tmp 21) = sv A939 (cur.drop 1) cc940 := h938
  have hb942 := hb925.new_ hn932
  have hr943 := hr926.new_ hn932
  refine st_take rfl rfl (y_assign (v := sv A939 (cur.drop 1) cc940) rfl h938) rfl ?_
  obtain ⟨a945, ha946⟩ : ∃ a', a' = a930.put (some 0) (sv A939 (cur.drop 1) cc940) := ⟨_, rfl⟩
  have hs947 : a945.tmps.size = 91 := by rw [ha946, put_size]; exact hs934
  have hd948 : a945.defers = [] := by rw [ha946, put_defers]; exact hd935
  have h949 := pn ha946 h937 (by decide)
  have h950 := pn ha946 h938 (by decide)
  have h951 : a945.eval (.tmp 0) = sv A939 (cur.drop 1) cc940 := by rw [ha946]; exact put_same _ _ _ (by rw [hs934]; decide)
  show stepsTo _ _ _ _ _ (a930.put (some 0) (sv A939 (cur.drop 1) cc940)) _
  rw [← ha946]
  refine st_nil ?_
  refine blk_n ?_
  refine then_n ?_
  exact ⟨_, ⟨(cur.drop 1), A939, cc940, rfl, hs947, hd948, hN944, h951, h949, hb942, hr941, ((dw_step (by omega) ht928).trans hcd), (hcu.drop 1)⟩, (by rw [List.length_drop]; omega)⟩
  have hv952 := hB h924 ht928
  refine wp_cond_false hv952 ?_
  refine wp_exit ?_
  have hdw := dw_end (l := cur) (Or.inr ht928)
  have he953 : cur = (u.dropWhile blankN) := hdw.symm.trans hcd
  rw [he953] at h922
  rw [he953] at hr926
  exact hK890 _ _ ⟨A1, c1, hs920, hd921, hN927, h922, h923, hb925, hr926⟩
set_option maxHeartbeats 8000000 in
set_option maxRecDepth 100000 in
theorem cnumber_c (v : Vl) (Av : Option Addr) (cv : Nat) (Bv : Option Addr) (dv : Nat) (w : World) (hmv : SRow w .u32 Av v.mag cv) (hsv : SRow w .u16 Bv v.s dv) (hvv : VOk v) : Calls Try.prog 26 #[vv v Av cv Bv dv] w (IsRet (.tuple #[nv ((numberV v).1), iv ((numberV v).2)]) w) := by
  refine enter_abs Try.func26 rfl fun a0 hs0 hd0 hp => ?_
  have hs0 : a0.tmps.size = 37 := hs0
  have hN0 : New w w := Upd.refl _ _
  have hp0 : a0.eval (.tmp 0) = vv v Av cv Bv dv := hp 0 _ rfl
  refine wp_seq_k fun K1 hK1 => ?_
  refine wp_g [true, true, true] [] [] 37
    [IsNew w 29 [iv v.k, iv v.nk, iv v.nn, .bool v.neg, sv Av v.mag cv, sv Bv v.s dv, iv v.ref],
     IsNew w 23 [iv 0, iv 0],
     ve (iv 0)]
    [0, 1] (newsCons (fun v w h => IsNew.old h) (newsCons (fun v w h => IsNew.old h) newsNil)) hs0 (.nw (.nw (.eq (.nil)))) ?_ (fun i h => by cases h) ?_
  refine .o2 (step_allocN (cs := [iv v.k, iv v.nk, iv v.nn, .bool v.neg, sv Av v.mag cv, sv Bv v.s dv, iv v.ref]) (t := 29) rfl (noG rfl) (fun _ w hn k => v_box rfl (k.fx 0 hp0) (fun w => rfl)) (fun q _ hq hb => ⟨q, rfl, hq, hb⟩)) ?_
  refine .o2 (step_allocN (cs := [iv 0, iv 0]) (t := 23) rfl (noG rfl) (fun _ w hn k => rfl) (fun q _ hq hb => ⟨q, rfl, hq, hb⟩)) ?_
  refine .o1 (tk rfl rfl fun _ w hn k => ⟨_, v_assign rfl rfl, rfl⟩) ?_
  exact .nil
  intro a2 w3 hn4 ha5
  obtain ⟨hs6, hd7, hN19⟩ := aft ha5 hs0 hd0 hN0 hn4
  obtain ⟨q9, h8, hq10, hb11⟩ : IsNew _ _ _ _ _ := ha5.got 0 1 rfl (by kernel_rfl)
  obtain ⟨q13, h12, hq14, hb15⟩ : IsNew _ _ _ _ _ := ha5.got 1 2 rfl (by kernel_rfl)
  have hne16 : q9 ≠ q13 := ha5.ne 0 1 1 2 h8 h12
  have hq17 := Nat.le_trans hN0.size hq10
  have hq18 := Nat.le_trans hN0.size hq14
  refine st_nil (hK1 _ _ ?_)
  refine wp_seq_k fun K20 hK20 => ?_
  refine wp_g0 [true, true, false] [(2, false)] 37
    [ve (vv v Av cv Bv dv),
     (fun (v_ : Value) (W : World) => ∃ (A5 : Option Addr) (c6 : Nat) (A7 : Option Addr) (c8 : Nat), v_ = vv (cleanV v) A5 c6 A7 c8 ∧ SRow W .u32 A5 ((cleanV v).mag) c6 ∧ SRow W .u16 A7 ((cleanV v).s) c8),
     vt] hs6 (.eq (.cons (fun v W W' hn ⟨A5, c6, A7, c8, he, h0, h1⟩ => ⟨A5, c6, A7, c8, he, h0.new_ hn, h1.new_ hn⟩) (.tt (.nil)))) ?_ ?_
  refine .o1 (tk rfl rfl fun _ w hn k => ⟨_, v_load rfl (k.fx 1 h8) (l_agg Try.isAgg29 Try.sizeOf29 (hb11.new_ hn) rfl), rfl⟩) ?_
  refine .o1 (tkC rfl (noG rfl) rfl fun _ w hn k => (by
        refine ⟨#[vv v Av cv Bv dv], _, args1 (k.eq1 0 6 rfl), fun w => by kernel_rfl, clean_c v _ _ _ _ _ (hmv.new_ (hN19.transNew hn)) (hsv.new_ (hN19.transNew hn)), ?_⟩
        rintro e w' ⟨A1, c2, A3, c4, rfl, hmo0, hmo1, hm⟩
        exact ⟨_, rfl, hm, ⟨A1, c2, A3, c4, rfl, hmo0, hmo1⟩⟩)) ?_
  refine .off ?_
  exact .nil
  intro a21 w22 hn23 ha24
  obtain ⟨hs25, hd26, hN38⟩ := aft ha24 hs6 hd7 hN19 hn23
  have h27 := ha24.fx 1 h8
  have h28 := ha24.fx 2 h12
  obtain ⟨A30, cc31, A33, cc34, h29, hr32, hr35⟩ : (fun (v_ : Value) (W : World) => ∃ (A5 : Option Addr) (c6 : Nat) (A7 : Option Addr) (c8 : Nat), v_ = vv (cleanV v) A5 c6 A7 c8 ∧ SRow W .u32 A5 ((cleanV v).mag) c6 ∧ SRow W .u16 A7 ((cleanV v).s) c8) _ _ := ha24.got 1 7 rfl (by kernel_rfl)
  have h29 : a21.eval (.tmp 7) = vv (cleanV v) A30 cc31 A33 cc34 := h29
  have hb36 := hb11.new_ hn23
  have hb37 := hb15.new_ hn23
  obtain ⟨w39, hst40, hb410, hu42, hf43⟩ := s_many (P := Try.prog) (t := 29) (i := 0) [iv ((cleanV v).k), iv ((cleanV v).nk), iv ((cleanV v).nn), .bool ((cleanV v).neg), sv A30 ((cleanV v).mag) cc31, sv A33 ((cleanV v).s) cc34, iv ((cleanV v).ref)] Try.sizeOf29 rfl rfl rfl hb36 (Nat.le_of_ble_eq_true rfl)
  have hb41 : Blk w39 q9 29 [iv ((cleanV v).k), iv ((cleanV v).nk), iv ((cleanV v).nn), .bool ((cleanV v).neg), sv A30 ((cleanV v).mag) cc31, sv A33 ((cleanV v).s) cc34, iv ((cleanV v).ref)] := hb410
  refine st_act rfl rfl fun K44 hL45 => a_store' rfl h27 h29 hst40 (hL45 _ _ trivial ?_)
  have hr46 := hr32.far hb36 hu42 (by first | rfl | decide | simp [notK])
  have hr47 := hr35.far hb36 hu42 (by first | rfl | decide | simp [notK])
  have hb48 := hf43 _ _ _ (fun h => hne16 h.symm) hb37
  have hN49 := hN38.trans hu42 (fun k hk hkb => by subst hkb; omega)
  refine st_nil (hK20 _ _ ?_)
  refine wp_seq_k fun K50 hK50 => ?_
  refine wp_seq_k fun K51 hK51 => ?_
  refine wp_g0 [true, true] [] 37
    [ve (pv q9),
     ve (iv ((cleanV v).k))] hs25 (.eq (.eq (.nil))) ?_ ?_
  refine .o1 (tk rfl rfl fun _ w hn k => ⟨_, v_field rfl (k.fx 1 h27) (fun w => rfl), rfl⟩) ?_
  refine .o1 (tk rfl rfl fun _ w hn k => ⟨_, v_load rfl (k.eq1 0 8 rfl) (l_one Try.isAgg3 ((hb41.new_ hn).cell 0)), rfl⟩) ?_
  exact .nil
  intro a52 w53 hn54 ha55
  obtain ⟨hs56, hd57, hN65⟩ := aft ha55 hs25 hd26 hN49 hn54
  have h58 := ha55.fx 1 h27
  have h59 := ha55.fx 2 h28
  have h60 := ha55.ge 1 9 rfl
  have hb61 := hb41.new_ hn54
  have hb62 := hb48.new_ hn54
  have hr63 := hr46.new_ hn54
  have hr64 := hr47.new_ hn54
  refine st_nil (hK51 _ _ ?_)
  refine wp_block ?_
  refine wp_seq_k fun K66 hK66 => ?_
  refine wp_g0 [true, true] [] 37
    [ve (.bool (decide (((cleanV v).k) = 0))),
     ve (.bool (decide (((cleanV v).k) = 0)))] hs56 (.eq (.eq (.nil))) ?_ ?_
  refine .o1 (tk rfl rfl fun _ w hn k => ⟨_, v_bin rfl (k.fx 9 h60) rfl (fun _ => rfl) (r_eql rfl), rfl⟩) ?_
  refine .o1 (tk rfl rfl fun _ w hn k => ⟨_, v_assign rfl (k.eq1 0 11 rfl), rfl⟩) ?_
  exact .nil
  intro a67 w68 hn69 ha70
  obtain ⟨hs71, hd72, hN81⟩ := aft ha70 hs56 hd57 hN65 hn69
  have h73 := ha70.fx 1 h58
  have h74 := ha70.fx 2 h59
  have h75 := ha70.fx 9 h60
  have h76 := ha70.ge 1 10 rfl
  have hb77 := hb61.new_ hn69
  have hb78 := hb62.new_ hn69
  have hr79 := hr63.new_ hn69
  have hr80 := hr64.new_ hn69
  refine st_nil (hK66 _ _ ?_)
  rcases Bool.eq_false_or_eq_true (decide (((cleanV v).k) = 0)) with ht82 | ht82
  have ht82d := of_decide_eq_true ht82
  have hv83 := hB h76 ht82
  refine wp_cond_true hv83 ?_
  refine wp_seq_k fun K84 hK84 => ?_
  refine wp_g0 [true, false, false] [(1, false), (2, true)] 37
    [ve (nv (Nm.mk 2 0)),
     vt,
     vt] hs71 (.eq (.tt (.tt (.nil)))) ?_ ?_
  refine .o1 (tk rfl rfl fun _ w hn k => ⟨_, v_build (ps := [(0, iv 2)]) rfl (parts1 rfl) (by kernel_rfl), rfl⟩) ?_
  refine .off ?_
  refine .off ?_
  exact .nil
  intro a85 w86 hn87 ha88
  obtain ⟨hs89, hd90, hN94⟩ := aft ha88 hs71 hd72 hN81 hn87
  have h91 := ha88.fx 2 h74
  have h92 := ha88.ge 0 12 rfl
  have hb93 := hb78.new_ hn87
  obtain ⟨w95, -, hst96, hb97, hu98, hf99⟩ := s_two (v0 := iv 2) (v1 := iv 0) Try.sizeOf23 rfl rfl rfl hb93
  refine st_act rfl rfl fun K100 hL101 => a_store' rfl h91 h92 hst96 (hL101 _ _ trivial ?_)
  have hN102 := hN94.trans hu98 (fun k hk hkb => by subst hkb; omega)
  refine st_take rfl rfl (y_assign (v := iv 0) rfl rfl) rfl ?_
  obtain ⟨a103, ha104⟩ : ∃ a', a' = a85.put (some 3) (iv 0) := ⟨_, rfl⟩
  have hs105 : a103.tmps.size = 37 := by rw [ha104, put_size]; exact hs89
  have hd106 : a103.defers = [] := by rw [ha104, put_defers]; exact hd90
  have h107 := pn ha104 h91 (by decide)
  have h108 := pn ha104 h92 (by decide)
  have h109 : a103.eval (.tmp 3) = iv 0 := by rw [ha104]; exact put_same _ _ _ (by rw [hs89]; decide)
  show stepsTo _ _ _ _ _ (a85.put (some 3) (iv 0)) _
  rw [← ha104]
  refine st_nil (hK84 _ _ ?_)
  refine wp_ret (ret_k hd106 (v := .tuple #[nv (Nm.mk 2 0), iv 0]) (res_ct rfl h107 h109 (l_two Try.isAgg23 Try.sizeOf23 hb97)) ?_)
  refine ⟨?_, hN102⟩
  show Ending.returned (.tuple #[nv (Nm.mk 2 0), iv 0]) = Ending.returned (.tuple #[nv ((numberV v).1), iv ((numberV v).2)])
  first | rfl | (simp only [numberV, ht82, bsm] <;> rfl) | (simp [numberV, ht82]; done) | (exfalso; omega)
  have ht82d := of_decide_eq_false ht82
  have hv110 := hB h76 ht82
  refine wp_cond_false hv110 ?_
  refine wp_seq_k fun K111 hK111 => ?_
  refine wp_seq_k fun K112 hK112 => ?_
  refine wp_g0 [true, true] [] 37
    [ve (.bool (decide (((cleanV v).k) = 1))),
     ve (.bool (decide (((cleanV v).k) = 1)))] hs71 (.eq (.eq (.nil))) ?_ ?_
  refine .o1 (tk rfl rfl fun _ w hn k => ⟨_, v_bin rfl (k.fx 9 h75) rfl (fun _ => rfl) (r_eql rfl), rfl⟩) ?_
  refine .o1 (tk rfl rfl fun _ w hn k => ⟨_, v_assign rfl (k.eq1 0 14 rfl), rfl⟩) ?_
  exact .nil
  intro a113 w114 hn115 ha116
  obtain ⟨hs117, hd118, hN127⟩ := aft ha116 hs71 hd72 hN81 hn115
  have h119 := ha116.fx 1 h73
  have h120 := ha116.fx 2 h74
  have h121 := ha116.fx 9 h75
  have h122 := ha116.ge 1 13 rfl
  have hb123 := hb77.new_ hn115
  have hb124 := hb78.new_ hn115
  have hr125 := hr79.new_ hn115
  have hr126 := hr80.new_ hn115
  refine st_nil (hK112 _ _ ?_)
  rcases Bool.eq_false_or_eq_true (decide (((cleanV v).k) = 1)) with ht128 | ht128
  have ht128d := of_decide_eq_true ht128
  have hv129 := hB h122 ht128
  refine wp_cond_true hv129 ?_
  refine wp_skip ?_
  refine hK111 _ _ ?_
  refine wp_cond_true hv129 ?_
  refine wp_seq_k fun K130 hK130 => ?_
  refine wp_g0 [true, true, true, false, false] [(3, false), (4, true)] 37
    [ve (.pointer (some ⟨q9, 6, none⟩)),
     ve (iv ((cleanV v).ref)),
     ve (nv (Nm.mk 0 ((cleanV v).ref))),
     vt,
     vt] hs117 (.eq (.eq (.eq (.tt (.tt (.nil)))))) ?_ ?_
  refine .o1 (tk rfl rfl fun _ w hn k => ⟨_, v_field rfl (k.fx 1 h119) (fun w => rfl), rfl⟩) ?_
  refine .o1 (tk rfl rfl fun _ w hn k => ⟨_, v_load rfl (k.eq1 0 16 rfl) (l_one Try.isAgg3 ((hb123.new_ hn).cell 6)), rfl⟩) ?_
  refine .o1 (tk rfl rfl fun _ w hn k => ⟨_, v_build (ps := [(1, iv ((cleanV v).ref))]) rfl (parts1 (k.eq1 1 17 rfl)) (by kernel_rfl), rfl⟩) ?_
  refine .off ?_
  refine .off ?_
  exact .nil
  intro a131 w132 hn133 ha134
  obtain ⟨hs135, hd136, hN140⟩ := aft ha134 hs117 hd118 hN127 hn133
  have h137 := ha134.fx 2 h120
  have h138 := ha134.ge 2 18 rfl
  have hb139 := hb124.new_ hn133
  obtain ⟨w141, -, hst142, hb143, hu144, hf145⟩ := s_two (v0 := iv 0) (v1 := iv ((cleanV v).ref)) Try.sizeOf23 rfl rfl rfl hb139
  refine st_act rfl rfl fun K146 hL147 => a_store' rfl h137 h138 hst142 (hL147 _ _ trivial ?_)
  have hN148 := hN140.trans hu144 (fun k hk hkb => by subst hkb; omega)
  refine st_take rfl rfl (y_assign (v := iv 0) rfl rfl) rfl ?_
  obtain ⟨a149, ha150⟩ : ∃ a', a' = a131.put (some 3) (iv 0) := ⟨_, rfl⟩
  have hs151 : a149.tmps.size = 37 := by rw [ha150, put_size]; exact hs135
  have hd152 : a149.defers = [] := by rw [ha150, put_defers]; exact hd136
  have h153 := pn ha150 h137 (by decide)
  have h154 := pn ha150 h138 (by decide)
  have h155 : a149.eval (.tmp 3) = iv 0 := by rw [ha150]; exact put_same _ _ _ (by rw [hs135]; decide)
  show stepsTo _ _ _ _ _ (a131.put (some 3) (iv 0)) _
  rw [← ha150]
  refine st_nil (hK130 _ _ ?_)
  refine wp_ret (ret_k hd152 (v := .tuple #[nv (Nm.mk 0 ((cleanV v).ref)), iv 0]) (res_ct rfl h153 h155 (l_two Try.isAgg23 Try.sizeOf23 hb143)) ?_)
  refine ⟨?_, hN148⟩
  show Ending.returned (.tuple #[nv (Nm.mk 0 ((cleanV v).ref)), iv 0]) = Ending.returned (.tuple #[nv ((numberV v).1), iv ((numberV v).2)])
  first | rfl | (simp only [numberV, ht82, ht128, bsm] <;> rfl) | (simp [numberV, ht82, ht128]; done) | (exfalso; omega)
  have ht128d := of_decide_eq_false ht128
  have hv156 := hB h122 ht128
  refine wp_cond_false hv156 ?_
  refine wp_g0 [true, true] [] 37
    [ve (.bool (decide (((cleanV v).k) = 2))),
     ve (.bool (decide (((cleanV v).k) = 2)))] hs117 (.eq (.eq (.nil))) ?_ ?_
  refine .o1 (tk rfl rfl fun _ w hn k => ⟨_, v_bin rfl (k.fx 9 h121) rfl (fun _ => rfl) (r_eql rfl), rfl⟩) ?_
  refine .o1 (tk rfl rfl fun _ w hn k => ⟨_, v_assign rfl (k.eq1 0 15 rfl), rfl⟩) ?_
  exact .nil
  intro a157 w158 hn159 ha160
  obtain ⟨hs161, hd162, hN171⟩ := aft ha160 hs117 hd118 hN127 hn159
  have h163 := ha160.fx 1 h119
  have h164 := ha160.fx 2 h120
  have h165 := ha160.fx 9 h121
  have h166 := ha160.ge 1 13 rfl
  have hb167 := hb123.new_ hn159
  have hb168 := hb124.new_ hn159
  have hr169 := hr125.new_ hn159
  have hr170 := hr126.new_ hn159
  refine st_nil (hK111 _ _ ?_)
  rcases Bool.eq_false_or_eq_true (decide (((cleanV v).k) = 2)) with ht172 | ht172
  have ht172d := of_decide_eq_true ht172
  have hv173 := hB h166 ht172
  refine wp_cond_true hv173 ?_
  refine wp_seq_k fun K174 hK174 => ?_
  refine wp_g0 [true, true, true, false, false] [(3, false), (4, true)] 37
    [ve (.pointer (some ⟨q9, 6, none⟩)),
     ve (iv ((cleanV v).ref)),
     ve (nv (Nm.mk 0 ((cleanV v).ref))),
     vt,
     vt] hs161 (.eq (.eq (.eq (.tt (.tt (.nil)))))) ?_ ?_
  refine .o1 (tk rfl rfl fun _ w hn k => ⟨_, v_field rfl (k.fx 1 h163) (fun w => rfl), rfl⟩) ?_
  refine .o1 (tk rfl rfl fun _ w hn k => ⟨_, v_load rfl (k.eq1 0 16 rfl) (l_one Try.isAgg3 ((hb167.new_ hn).cell 6)), rfl⟩) ?_
  refine .o1 (tk rfl rfl fun _ w hn k => ⟨_, v_build (ps := [(1, iv ((cleanV v).ref))]) rfl (parts1 (k.eq1 1 17 rfl)) (by kernel_rfl), rfl⟩) ?_
  refine .off ?_
  refine .off ?_
  exact .nil
  intro a175 w176 hn177 ha178
  obtain ⟨hs179, hd180, hN184⟩ := aft ha178 hs161 hd162 hN171 hn177
  have h181 := ha178.fx 2 h164
  have h182 := ha178.ge 2 18 rfl
  have hb183 := hb168.new_ hn177
  obtain ⟨w185, -, hst186, hb187, hu188, hf189⟩ := s_two (v0 := iv 0) (v1 := iv ((cleanV v).ref)) Try.sizeOf23 rfl rfl rfl hb183
  refine st_act rfl rfl fun K190 hL191 => a_store' rfl h181 h182 hst186 (hL191 _ _ trivial ?_)
  have hN192 := hN184.trans hu188 (fun k hk hkb => by subst hkb; omega)
  refine st_take rfl rfl (y_assign (v := iv 0) rfl rfl) rfl ?_
  obtain ⟨a193, ha194⟩ : ∃ a', a' = a175.put (some 3) (iv 0) := ⟨_, rfl⟩
  have hs195 : a193.tmps.size = 37 := by rw [ha194, put_size]; exact hs179
  have hd196 : a193.defers = [] := by rw [ha194, put_defers]; exact hd180
  have h197 := pn ha194 h181 (by decide)
  have h198 := pn ha194 h182 (by decide)
  have h199 : a193.eval (.tmp 3) = iv 0 := by rw [ha194]; exact put_same _ _ _ (by rw [hs179]; decide)
  show stepsTo _ _ _ _ _ (a175.put (some 3) (iv 0)) _
  rw [← ha194]
  refine st_nil (hK174 _ _ ?_)
  refine wp_ret (ret_k hd196 (v := .tuple #[nv (Nm.mk 0 ((cleanV v).ref)), iv 0]) (res_ct rfl h197 h199 (l_two Try.isAgg23 Try.sizeOf23 hb187)) ?_)
  refine ⟨?_, hN192⟩
  show Ending.returned (.tuple #[nv (Nm.mk 0 ((cleanV v).ref)), iv 0]) = Ending.returned (.tuple #[nv ((numberV v).1), iv ((numberV v).2)])
  first | rfl | (simp only [numberV, ht82, ht128, ht172, bsm] <;> rfl) | (simp [numberV, ht82, ht128, ht172]; done) | (exfalso; omega)
  have ht172d := of_decide_eq_false ht172
  have hv200 := hB h166 ht172
  refine wp_cond_false hv200 ?_
  refine wp_seq_k fun K201 hK201 => ?_
  refine wp_g0 [true, true] [] 37
    [ve (.bool (decide (((cleanV v).k) = 3))),
     ve (.bool (decide (((cleanV v).k) = 3)))] hs161 (.eq (.eq (.nil))) ?_ ?_
  refine .o1 (tk rfl rfl fun _ w hn k => ⟨_, v_bin rfl (k.fx 9 h165) rfl (fun _ => rfl) (r_eql rfl), rfl⟩) ?_
  refine .o1 (tk rfl rfl fun _ w hn k => ⟨_, v_assign rfl (k.eq1 0 20 rfl), rfl⟩) ?_
  exact .nil
  intro a202 w203 hn204 ha205
  obtain ⟨hs206, hd207, hN216⟩ := aft ha205 hs161 hd162 hN171 hn204
  have h208 := ha205.fx 1 h163
  have h209 := ha205.fx 2 h164
  have h210 := ha205.fx 9 h165
  have h211 := ha205.ge 1 19 rfl
  have hb212 := hb167.new_ hn204
  have hb213 := hb168.new_ hn204
  have hr214 := hr169.new_ hn204
  have hr215 := hr170.new_ hn204
  refine st_nil (hK201 _ _ ?_)
  rcases Bool.eq_false_or_eq_true (decide (((cleanV v).k) = 3)) with ht217 | ht217
  have ht217d := of_decide_eq_true ht217
  have hv218 := hB h211 ht217
  refine wp_cond_true hv218 ?_
  refine wp_seq_k fun K219 hK219 => ?_
  refine wp_g0 [true, true, false, false] [(2, false), (3, true)] 37
    [ve (.pointer (some ⟨q9, 1, none⟩)),
     ve (nv (Nm.mk ((cleanV v).nk) ((cleanV v).nn))),
     vt,
     vt] hs206 (.eq (.eq (.tt (.tt (.nil))))) ?_ ?_
  refine .o1 (tk rfl rfl fun _ w hn k => ⟨_, v_field rfl (k.fx 1 h208) (fun w => rfl), rfl⟩) ?_
  refine .o1 (tk rfl rfl fun _ w hn k => ⟨_, v_load rfl (k.eq1 0 21 rfl) (l_part Try.isAgg23 Try.sizeOf23 (hb212.new_ hn) (Nat.le_of_ble_eq_true rfl)), rfl⟩) ?_
  refine .off ?_
  refine .off ?_
  exact .nil
  intro a220 w221 hn222 ha223
  obtain ⟨hs224, hd225, hN229⟩ := aft ha223 hs206 hd207 hN216 hn222
  have h226 := ha223.fx 2 h209
  have h227 := ha223.ge 1 22 rfl
  have hb228 := hb213.new_ hn222
  obtain ⟨w230, -, hst231, hb232, hu233, hf234⟩ := s_two (v0 := iv ((cleanV v).nk)) (v1 := iv ((cleanV v).nn)) Try.sizeOf23 rfl rfl rfl hb228
  refine st_act rfl rfl fun K235 hL236 => a_store' rfl h226 h227 hst231 (hL236 _ _ trivial ?_)
  have hN237 := hN229.trans hu233 (fun k hk hkb => by subst hkb; omega)
  refine st_take rfl rfl (y_assign (v := iv 0) rfl rfl) rfl ?_
  obtain ⟨a238, ha239⟩ : ∃ a', a' = a220.put (some 3) (iv 0) := ⟨_, rfl⟩
  have hs240 : a238.tmps.size = 37 := by rw [ha239, put_size]; exact hs224
  have hd241 : a238.defers = [] := by rw [ha239, put_defers]; exact hd225
  have h242 := pn ha239 h226 (by decide)
  have h243 := pn ha239 h227 (by decide)
  have h244 : a238.eval (.tmp 3) = iv 0 := by rw [ha239]; exact put_same _ _ _ (by rw [hs224]; decide)
  show stepsTo _ _ _ _ _ (a220.put (some 3) (iv 0)) _
  rw [← ha239]
  refine st_nil (hK219 _ _ ?_)
  refine wp_ret (ret_k hd241 (v := .tuple #[nv (Nm.mk ((cleanV v).nk) ((cleanV v).nn)), iv 0]) (res_ct rfl h242 h244 (l_two Try.isAgg23 Try.sizeOf23 hb232)) ?_)
  refine ⟨?_, hN237⟩
  show Ending.returned (.tuple #[nv (Nm.mk ((cleanV v).nk) ((cleanV v).nn)), iv 0]) = Ending.returned (.tuple #[nv ((numberV v).1), iv ((numberV v).2)])
  first | rfl | (simp only [numberV, ht82, ht128, ht172, ht217, bsm] <;> rfl) | (simp [numberV, ht82, ht128, ht172, ht217]; done) | (exfalso; omega)
  have ht217d := of_decide_eq_false ht217
  have hv245 := hB h211 ht217
  refine wp_cond_false hv245 ?_
  refine wp_seq_k fun K246 hK246 => ?_
  refine wp_g0 [true, true] [] 37
    [ve (.bool (decide (((cleanV v).k) = 4))),
     ve (.bool (decide (((cleanV v).k) = 4)))] hs206 (.eq (.eq (.nil))) ?_ ?_
  refine .o1 (tk rfl rfl fun _ w hn k => ⟨_, v_bin rfl (k.fx 9 h210) rfl (fun _ => rfl) (r_eql rfl), rfl⟩) ?_
  refine .o1 (tk rfl rfl fun _ w hn k => ⟨_, v_assign rfl (k.eq1 0 24 rfl), rfl⟩) ?_
  exact .nil
  intro a247 w248 hn249 ha250
  obtain ⟨hs251, hd252, hN261⟩ := aft ha250 hs206 hd207 hN216 hn249
  have h253 := ha250.fx 1 h208
  have h254 := ha250.fx 2 h209
  have h255 := ha250.fx 9 h210
  have h256 := ha250.ge 1 23 rfl
  have hb257 := hb212.new_ hn249
  have hb258 := hb213.new_ hn249
  have hr259 := hr214.new_ hn249
  have hr260 := hr215.new_ hn249
  refine st_nil (hK246 _ _ ?_)
  rcases Bool.eq_false_or_eq_true (decide (((cleanV v).k) = 4)) with ht262 | ht262
  have ht262d := of_decide_eq_true ht262
  have hv263 := hB h256 ht262
  refine wp_cond_true hv263 ?_
  refine wp_seq_k fun K264 hK264 => ?_
  refine wp_g0 [true, false, false] [(1, false), (2, true)] 37
    [ve (nv (Nm.mk 0 0)),
     vt,
     vt] hs251 (.eq (.tt (.tt (.nil)))) ?_ ?_
  refine .o1 (tk rfl rfl fun _ w hn k => ⟨_, v_build (ps := []) rfl parts0 (by kernel_rfl), rfl⟩) ?_
  refine .off ?_
  refine .off ?_
  exact .nil
  intro a265 w266 hn267 ha268
  obtain ⟨hs269, hd270, hN274⟩ := aft ha268 hs251 hd252 hN261 hn267
  have h271 := ha268.fx 2 h254
  have h272 := ha268.ge 0 25 rfl
  have hb273 := hb258.new_ hn267
  obtain ⟨w275, -, hst276, hb277, hu278, hf279⟩ := s_two (v0 := iv 0) (v1 := iv 0) Try.sizeOf23 rfl rfl rfl hb273
  refine st_act rfl rfl fun K280 hL281 => a_store' rfl h271 h272 hst276 (hL281 _ _ trivial ?_)
  have hN282 := hN274.trans hu278 (fun k hk hkb => by subst hkb; omega)
  refine st_take rfl rfl (y_assign (v := iv 1) rfl rfl) rfl ?_
  obtain ⟨a283, ha284⟩ : ∃ a', a' = a265.put (some 3) (iv 1) := ⟨_, rfl⟩
  have hs285 : a283.tmps.size = 37 := by rw [ha284, put_size]; exact hs269
  have hd286 : a283.defers = [] := by rw [ha284, put_defers]; exact hd270
  have h287 := pn ha284 h271 (by decide)
  have h288 := pn ha284 h272 (by decide)
  have h289 : a283.eval (.tmp 3) = iv 1 := by rw [ha284]; exact put_same _ _ _ (by rw [hs269]; decide)
  show stepsTo _ _ _ _ _ (a265.put (some 3) (iv 1)) _
  rw [← ha284]
  refine st_nil (hK264 _ _ ?_)
  refine wp_ret (ret_k hd286 (v := .tuple #[nv (Nm.mk 0 0), iv 1]) (res_ct rfl h287 h289 (l_two Try.isAgg23 Try.sizeOf23 hb277)) ?_)
  refine ⟨?_, hN282⟩
  show Ending.returned (.tuple #[nv (Nm.mk 0 0), iv 1]) = Ending.returned (.tuple #[nv ((numberV v).1), iv ((numberV v).2)])
  first | rfl | (simp only [numberV, ht82, ht128, ht172, ht217, ht262, bsm] <;> rfl) | (simp [numberV, ht82, ht128, ht172, ht217, ht262]; done) | (exfalso; omega)
  have ht262d := of_decide_eq_false ht262
  have hv290 := hB h256 ht262
  refine wp_cond_false hv290 ?_
  refine wp_seq_k fun K291 hK291 => ?_
  refine wp_g0 [true, true] [] 37
    [ve (.bool (decide (((cleanV v).k) = 5))),
     ve (.bool (decide (((cleanV v).k) = 5)))] hs251 (.eq (.eq (.nil))) ?_ ?_
  refine .o1 (tk rfl rfl fun _ w hn k => ⟨_, v_bin rfl (k.fx 9 h255) rfl (fun _ => rfl) (r_eql rfl), rfl⟩) ?_
  refine .o1 (tk rfl rfl fun _ w hn k => ⟨_, v_assign rfl (k.eq1 0 27 rfl), rfl⟩) ?_
  exact .nil
  intro a292 w293 hn294 ha295
  obtain ⟨hs296, hd297, hN305⟩ := aft ha295 hs251 hd252 hN261 hn294
  have h298 := ha295.fx 1 h253
  have h299 := ha295.fx 2 h254
  have h300 := ha295.ge 1 26 rfl
  have hb301 := hb257.new_ hn294
  have hb302 := hb258.new_ hn294
  have hr303 := hr259.new_ hn294
  have hr304 := hr260.new_ hn294
  refine st_nil (hK291 _ _ ?_)
  rcases Bool.eq_false_or_eq_true (decide (((cleanV v).k) = 5)) with ht306 | ht306
  have ht306d := of_decide_eq_true ht306
  have hv307 := hB h300 ht306
  refine wp_cond_true hv307 ?_
  refine wp_seq_k fun K308 hK308 => ?_
  refine wp_g [true, true, true, true, true, true, true, false, false] [5] [(7, false), (8, true)] 37
    [ve (.pointer (some ⟨q9, 5, none⟩)),
     ve (sv A33 ((cleanV v).s) cc34),
     ve (.tuple #[nv ((numT ((cleanV v).s)).1), .bool ((numT ((cleanV v).s)).2)]),
     ve (.tuple #[nv ((numT ((cleanV v).s)).1), .bool ((numT ((cleanV v).s)).2)]),
     ve (nv ((numT ((cleanV v).s)).1)),
     ve (.bool ((numT ((cleanV v).s)).2)),
     IsNew w293 23 [iv 0, iv 0],
     vt,
     vt]
    [6] (newsCons (fun v w h => IsNew.old h) newsNil) hs296 (.eq (.eq (.eq (.eq (.eq (.eq (.nw (.tt (.tt (.nil)))))))))) ?_ ?_ ?_
  refine .o1 (tk rfl rfl fun _ w hn k => ⟨_, v_field rfl (k.fx 1 h298) (fun w => rfl), rfl⟩) ?_
  refine .o1 (tk rfl rfl fun _ w hn k => ⟨_, v_load rfl (k.eq1 0 29 rfl) (l_one Try.isAgg27 ((hb301.new_ hn).cell 5)), rfl⟩) ?_
  refine .o1 (ck rfl rfl rfl (fun _ w hn k => ⟨#[sv A33 ((cleanV v).s) cc34], args1 (k.eq1 1 30 rfl), fun _ => by kernel_rfl, tnumber_c _ ((cleanV v).s) _ _ (hr304.new_ hn) hvv.clean.units⟩) fun _ => rfl) ?_
  refine .o1 (tk rfl rfl fun _ w hn k => ⟨_, v_move rfl (k.eq1 2 31 rfl), rfl⟩) ?_
  refine .o1 (tk rfl rfl fun _ w hn k => ⟨_, v_extract rfl (k.eq1 3 28 rfl) rfl, rfl⟩) ?_
  refine .o3 ?_
  refine .o2 (step_allocN (cs := [iv 0, iv 0]) (t := 23) rfl (noG rfl) (fun _ w hn k => rfl) (fun q _ hq hb => ⟨q, rfl, hq, hb⟩)) ?_
  refine .off ?_
  refine .off ?_
  exact .nil
  intro i h
  simp only [List.contains_eq_mem, List.mem_cons, List.not_mem_nil, or_false, decide_eq_true_eq] at h
  subst h
  exact eager_take rfl rfl fun _ w hn k => ⟨.bool ((numT ((cleanV v).s)).2), fun w => v_extract rfl (k.eq1 3 28 rfl) rfl, rfl⟩
  intro a309 w310 hn311 ha312
  obtain ⟨hs313, hd314, hN325⟩ := aft ha312 hs296 hd297 hN305 hn311
  have h315 := ha312.fx 2 h299
  have h316 := ha312.ge 4 32 rfl
  have h317 := ha312.ge 5 33 rfl
  obtain ⟨q319, h318, hq320, hb321⟩ : IsNew _ _ _ _ _ := ha312.got 6 4 rfl (by kernel_rfl)
  have hb322 := hb302.new_ hn311
  have hne323 : q13 ≠ q319 := by have h1 := hb302.lt; have h2 := hq320; omega
  have hq324 := Nat.le_trans hN305.size hq320
  obtain ⟨w326, -, hst327, hb328, hu329, hf330⟩ := s_two (v0 := iv ((numT ((cleanV v).s)).1.k)) (v1 := iv ((numT ((cleanV v).s)).1.n)) Try.sizeOf23 rfl rfl rfl hb321
  refine st_act rfl rfl fun K331 hL332 => a_store' rfl h318 h316 hst327 (hL332 _ _ trivial ?_)
  have hb333 := hf330 _ _ _ (hne323) hb322
  have hN334 := hN325.trans hu329 (fun k hk hkb => by subst hkb; omega)
  refine st_take rfl rfl (y_assign (v := .bool ((numT ((cleanV v).s)).2)) rfl h317) rfl ?_
  obtain ⟨a335, ha336⟩ : ∃ a', a' = a309.put (some 5) (.bool ((numT ((cleanV v).s)).2)) := ⟨_, rfl⟩
  have hs337 : a335.tmps.size = 37 := by rw [ha336, put_size]; exact hs313
  have hd338 : a335.defers = [] := by rw [ha336, put_defers]; exact hd314
  have h339 := pn ha336 h315 (by decide)
  have h340 := pn ha336 h316 (by decide)
  have h341 := pn ha336 h317 (by decide)
  have h342 := pn ha336 h318 (by decide)
  have h343 : a335.eval (.tmp 5) = .bool ((numT ((cleanV v).s)).2) := by rw [ha336]; exact put_same _ _ _ (by rw [hs313]; decide)
  show stepsTo _ _ _ _ _ (a309.put (some 5) (.bool ((numT ((cleanV v).s)).2))) _
  rw [← ha336]
  refine st_nil (hK308 _ _ ?_)
  refine wp_seq_k fun K344 hK344 => ?_
  refine wp_g0 [true] [] 37
    [ve (.bool ((numT ((cleanV v).s)).2))] hs337 (.eq (.nil)) ?_ ?_
  refine .o1 (tk rfl rfl fun _ w hn k => ⟨_, v_move rfl (k.fx 5 h343), rfl⟩) ?_
  exact .nil
  intro a345 w346 hn347 ha348
  obtain ⟨hs349, hd350, hN356⟩ := aft ha348 hs337 hd338 hN334 hn347
  have h351 := ha348.fx 2 h339
  have h352 := ha348.fx 4 h342
  have h353 := ha348.ge 0 34 rfl
  have hb354 := hb333.new_ hn347
  have hb355 := hb328.new_ hn347
  refine st_nil (hK344 _ _ ?_)
  rcases Bool.eq_false_or_eq_true ((numT ((cleanV v).s)).2) with ht357 | ht357
  have hv358 := hB h353 ht357
  refine wp_cond_true hv358 ?_
  refine wp_seq_k fun K359 hK359 => ?_
  refine wp_g0 [true, false, false] [(1, false), (2, true)] 37
    [ve (nv ((numT ((cleanV v).s)).1)),
     vt,
     vt] hs349 (.eq (.tt (.tt (.nil)))) ?_ ?_
  refine .o1 (tk rfl rfl fun _ w hn k => ⟨_, v_load rfl (k.fx 4 h352) (l_two Try.isAgg23 Try.sizeOf23 (hb355.new_ hn)), rfl⟩) ?_
  refine .off ?_
  refine .off ?_
  exact .nil
  intro a360 w361 hn362 ha363
  obtain ⟨hs364, hd365, hN369⟩ := aft ha363 hs349 hd350 hN356 hn362
  have h366 := ha363.fx 2 h351
  have h367 := ha363.ge 0 35 rfl
  have hb368 := hb354.new_ hn362
  obtain ⟨w370, -, hst371, hb372, hu373, hf374⟩ := s_two (v0 := iv ((numT ((cleanV v).s)).1.k)) (v1 := iv ((numT ((cleanV v).s)).1.n)) Try.sizeOf23 rfl rfl rfl hb368
  refine st_act rfl rfl fun K375 hL376 => a_store' rfl h366 h367 hst371 (hL376 _ _ trivial ?_)
  have hN377 := hN369.trans hu373 (fun k hk hkb => by subst hkb; omega)
  refine st_take rfl rfl (y_assign (v := iv 0) rfl rfl) rfl ?_
  obtain ⟨a378, ha379⟩ : ∃ a', a' = a360.put (some 3) (iv 0) := ⟨_, rfl⟩
  have hs380 : a378.tmps.size = 37 := by rw [ha379, put_size]; exact hs364
  have hd381 : a378.defers = [] := by rw [ha379, put_defers]; exact hd365
  have h382 := pn ha379 h366 (by decide)
  have h383 := pn ha379 h367 (by decide)
  have h384 : a378.eval (.tmp 3) = iv 0 := by rw [ha379]; exact put_same _ _ _ (by rw [hs364]; decide)
  show stepsTo _ _ _ _ _ (a360.put (some 3) (iv 0)) _
  rw [← ha379]
  refine st_nil (hK359 _ _ ?_)
  refine wp_ret (ret_k hd381 (v := .tuple #[nv ((numT ((cleanV v).s)).1), iv 0]) (res_ct rfl h382 h384 (l_two Try.isAgg23 Try.sizeOf23 hb372)) ?_)
  refine ⟨?_, hN377⟩
  show Ending.returned (.tuple #[nv ((numT ((cleanV v).s)).1), iv 0]) = Ending.returned (.tuple #[nv ((numberV v).1), iv ((numberV v).2)])
  first | rfl | (simp only [numberV, ht82, ht128, ht172, ht217, ht262, ht306, ht357, bsm] <;> rfl) | (simp [numberV, ht82, ht128, ht172, ht217, ht262, ht306, ht357]; done) | (exfalso; omega)
  have hv385 := hB h353 ht357
  refine wp_cond_false hv385 ?_
  refine wp_skip ?_
  refine hK50 _ _ ?_
  refine wp_seq_k fun K386 hK386 => ?_
  refine wp_g0 [true, false, false] [(1, false), (2, true)] 37
    [ve (nv (Nm.mk 0 0)),
     vt,
     vt] hs349 (.eq (.tt (.tt (.nil)))) ?_ ?_
  refine .o1 (tk rfl rfl fun _ w hn k => ⟨_, v_build (ps := []) rfl parts0 (by kernel_rfl), rfl⟩) ?_
  refine .off ?_
  refine .off ?_
  exact .nil
  intro a387 w388 hn389 ha390
  obtain ⟨hs391, hd392, hN396⟩ := aft ha390 hs349 hd350 hN356 hn389
  have h393 := ha390.fx 2 h351
  have h394 := ha390.ge 0 36 rfl
  have hb395 := hb354.new_ hn389
  obtain ⟨w397, -, hst398, hb399, hu400, hf401⟩ := s_two (v0 := iv 0) (v1 := iv 0) Try.sizeOf23 rfl rfl rfl hb395
  refine st_act rfl rfl fun K402 hL403 => a_store' rfl h393 h394 hst398 (hL403 _ _ trivial ?_)
  have hN404 := hN396.trans hu400 (fun k hk hkb => by subst hkb; omega)
  refine st_take rfl rfl (y_assign (v := iv 3) rfl rfl) rfl ?_
  obtain ⟨a405, ha406⟩ : ∃ a', a' = a387.put (some 3) (iv 3) := ⟨_, rfl⟩
  have hs407 : a405.tmps.size = 37 := by rw [ha406, put_size]; exact hs391
  have hd408 : a405.defers = [] := by rw [ha406, put_defers]; exact hd392
  have h409 := pn ha406 h393 (by decide)
  have h410 := pn ha406 h394 (by decide)
  have h411 : a405.eval (.tmp 3) = iv 3 := by rw [ha406]; exact put_same _ _ _ (by rw [hs391]; decide)
  show stepsTo _ _ _ _ _ (a387.put (some 3) (iv 3)) _
  rw [← ha406]
  refine st_nil (hK386 _ _ ?_)
  refine wp_ret (ret_k hd408 (v := .tuple #[nv (Nm.mk 0 0), iv 3]) (res_ct rfl h409 h411 (l_two Try.isAgg23 Try.sizeOf23 hb399)) ?_)
  refine ⟨?_, hN404⟩
  show Ending.returned (.tuple #[nv (Nm.mk 0 0), iv 3]) = Ending.returned (.tuple #[nv ((numberV v).1), iv ((numberV v).2)])
  first | rfl | (simp only [numberV, ht82, ht128, ht172, ht217, ht262, ht306, ht357, bsm] <;> rfl) | (simp [numberV, ht82, ht128, ht172, ht217, ht262, ht306, ht357]; done) | (exfalso; omega)
  have ht306d := of_decide_eq_false ht306
  have hv412 := hB h300 ht306
  refine wp_cond_false hv412 ?_
  refine wp_skip ?_
  refine hK50 _ _ ?_
  refine wp_seq_k fun K413 hK413 => ?_
  refine wp_g0 [true, false, false] [(1, false), (2, true)] 37
    [ve (nv (Nm.mk 0 0)),
     vt,
     vt] hs296 (.eq (.tt (.tt (.nil)))) ?_ ?_
  refine .o1 (tk rfl rfl fun _ w hn k => ⟨_, v_build (ps := []) rfl parts0 (by kernel_rfl), rfl⟩) ?_
  refine .off ?_
  refine .off ?_
  exact .nil
  intro a414 w415 hn416 ha417
  obtain ⟨hs418, hd419, hN423⟩ := aft ha417 hs296 hd297 hN305 hn416
  have h420 := ha417.fx 2 h299
  have h421 := ha417.ge 0 36 rfl
  have hb422 := hb302.new_ hn416
  obtain ⟨w424, -, hst425, hb426, hu427, hf428⟩ := s_two (v0 := iv 0) (v1 := iv 0) Try.sizeOf23 rfl rfl rfl hb422
  refine st_act rfl rfl fun K429 hL430 => a_store' rfl h420 h421 hst425 (hL430 _ _ trivial ?_)
  have hN431 := hN423.trans hu427 (fun k hk hkb => by subst hkb; omega)
  refine st_take rfl rfl (y_assign (v := iv 3) rfl rfl) rfl ?_
  obtain ⟨a432, ha433⟩ : ∃ a', a' = a414.put (some 3) (iv 3) := ⟨_, rfl⟩
  have hs434 : a432.tmps.size = 37 := by rw [ha433, put_size]; exact hs418
  have hd435 : a432.defers = [] := by rw [ha433, put_defers]; exact hd419
  have h436 := pn ha433 h420 (by decide)
  have h437 := pn ha433 h421 (by decide)
  have h438 : a432.eval (.tmp 3) = iv 3 := by rw [ha433]; exact put_same _ _ _ (by rw [hs418]; decide)
  show stepsTo _ _ _ _ _ (a414.put (some 3) (iv 3)) _
  rw [← ha433]
  refine st_nil (hK413 _ _ ?_)
  refine wp_ret (ret_k hd435 (v := .tuple #[nv (Nm.mk 0 0), iv 3]) (res_ct rfl h436 h438 (l_two Try.isAgg23 Try.sizeOf23 hb426)) ?_)
  refine ⟨?_, hN431⟩
  show Ending.returned (.tuple #[nv (Nm.mk 0 0), iv 3]) = Ending.returned (.tuple #[nv ((numberV v).1), iv ((numberV v).2)])
  first | rfl | (simp only [numberV, ht82, ht128, ht172, ht217, ht262, ht306, bsm] <;> rfl) | (simp [numberV, ht82, ht128, ht172, ht217, ht262, ht306]; done) | (exfalso; omega)
set_option maxHeartbeats 4000000 in
set_option maxRecDepth 100000 in
theorem cindex_c (v : Vl) (Av : Option Addr) (cv : Nat) (Bv : Option Addr) (dv : Nat) (w : World) (hmv : SRow w .u32 Av v.mag cv) (hsv : SRow w .u16 Bv v.s dv) (hvv : VOk v) : Calls Try.prog 13 #[vv v Av cv Bv dv] w (IsRet (.tuple #[iv ((indexV v).1), iv ((indexV v).2)]) w) := by
  refine enter_abs Try.func13 rfl fun a0 hs0 hd0 hp => ?_
  have hs0 : a0.tmps.size = 29 := hs0
  have hN0 : New w w := Upd.refl _ _
  have hp0 : a0.eval (.tmp 0) = vv v Av cv Bv dv := hp 0 _ rfl
  refine wp_seq_k fun K1 hK1 => ?_
  refine wp_g [true, true, true] [] [] 29
    [IsNew w 29 [iv v.k, iv v.nk, iv v.nn, .bool v.neg, sv Av v.mag cv, sv Bv v.s dv, iv v.ref],
     ve (iv 0),
     ve (iv 0)]
    [0] (newsCons (fun v w h => IsNew.old h) newsNil) hs0 (.nw (.eq (.eq (.nil)))) ?_ (fun i h => by cases h) ?_
  refine .o2 (step_allocN (cs := [iv v.k, iv v.nk, iv v.nn, .bool v.neg, sv Av v.mag cv, sv Bv v.s dv, iv v.ref]) (t := 29) rfl (noG rfl) (fun _ w hn k => v_box rfl (k.fx 0 hp0) (fun w => rfl)) (fun q _ hq hb => ⟨q, rfl, hq, hb⟩)) ?_
  refine .o1 (tk rfl rfl fun _ w hn k => ⟨_, v_assign rfl rfl, rfl⟩) ?_
  refine .o1 (tk rfl rfl fun _ w hn k => ⟨_, v_assign rfl rfl, rfl⟩) ?_
  exact .nil
  intro a2 w3 hn4 ha5
  obtain ⟨hs6, hd7, hN13⟩ := aft ha5 hs0 hd0 hN0 hn4
  obtain ⟨q9, h8, hq10, hb11⟩ : IsNew _ _ _ _ _ := ha5.got 0 1 rfl (by kernel_rfl)
  have hq12 := Nat.le_trans hN0.size hq10
  refine st_nil (hK1 _ _ ?_)
  refine wp_seq_k fun K14 hK14 => ?_
  refine wp_g0 [true, true, false] [(2, false)] 29
    [ve (vv v Av cv Bv dv),
     (fun (v_ : Value) (W : World) => ∃ (A5 : Option Addr) (c6 : Nat) (A7 : Option Addr) (c8 : Nat), v_ = vv (cleanV v) A5 c6 A7 c8 ∧ SRow W .u32 A5 ((cleanV v).mag) c6 ∧ SRow W .u16 A7 ((cleanV v).s) c8),
     vt] hs6 (.eq (.cons (fun v W W' hn ⟨A5, c6, A7, c8, he, h0, h1⟩ => ⟨A5, c6, A7, c8, he, h0.new_ hn, h1.new_ hn⟩) (.tt (.nil)))) ?_ ?_
  refine .o1 (tk rfl rfl fun _ w hn k => ⟨_, v_load rfl (k.fx 1 h8) (l_agg Try.isAgg29 Try.sizeOf29 (hb11.new_ hn) rfl), rfl⟩) ?_
  refine .o1 (tkC rfl (noG rfl) rfl fun _ w hn k => (by
        refine ⟨#[vv v Av cv Bv dv], _, args1 (k.eq1 0 8 rfl), fun w => by kernel_rfl, clean_c v _ _ _ _ _ (hmv.new_ (hN13.transNew hn)) (hsv.new_ (hN13.transNew hn)), ?_⟩
        rintro e w' ⟨A1, c2, A3, c4, rfl, hmo0, hmo1, hm⟩
        exact ⟨_, rfl, hm, ⟨A1, c2, A3, c4, rfl, hmo0, hmo1⟩⟩)) ?_
  refine .off ?_
  exact .nil
  intro a15 w16 hn17 ha18
  obtain ⟨hs19, hd20, hN30⟩ := aft ha18 hs6 hd7 hN13 hn17
  have h21 := ha18.fx 1 h8
  obtain ⟨A23, cc24, A26, cc27, h22, hr25, hr28⟩ : (fun (v_ : Value) (W : World) => ∃ (A5 : Option Addr) (c6 : Nat) (A7 : Option Addr) (c8 : Nat), v_ = vv (cleanV v) A5 c6 A7 c8 ∧ SRow W .u32 A5 ((cleanV v).mag) c6 ∧ SRow W .u16 A7 ((cleanV v).s) c8) _ _ := ha18.got 1 9 rfl (by kernel_rfl)
  have h22 : a15.eval (.tmp 9) = vv (cleanV v) A23 cc24 A26 cc27 := h22
  have hb29 := hb11.new_ hn17
  obtain ⟨w31, hst32, hb330, hu34, hf35⟩ := s_many (P := Try.prog) (t := 29) (i := 0) [iv ((cleanV v).k), iv ((cleanV v).nk), iv ((cleanV v).nn), .bool ((cleanV v).neg), sv A23 ((cleanV v).mag) cc24, sv A26 ((cleanV v).s) cc27, iv ((cleanV v).ref)] Try.sizeOf29 rfl rfl rfl hb29 (Nat.le_of_ble_eq_true rfl)
  have hb33 : Blk w31 q9 29 [iv ((cleanV v).k), iv ((cleanV v).nk), iv ((cleanV v).nn), .bool ((cleanV v).neg), sv A23 ((cleanV v).mag) cc24, sv A26 ((cleanV v).s) cc27, iv ((cleanV v).ref)] := hb330
  refine st_act rfl rfl fun K36 hL37 => a_store' rfl h21 h22 hst32 (hL37 _ _ trivial ?_)
  have hr38 := hr25.far hb29 hu34 (by first | rfl | decide | simp [notK])
  have hr39 := hr28.far hb29 hu34 (by first | rfl | decide | simp [notK])
  have hN40 := hN30.trans hu34 (fun k hk hkb => by subst hkb; omega)
  refine st_nil (hK14 _ _ ?_)
  refine wp_seq_k fun K41 hK41 => ?_
  refine wp_seq_k fun K42 hK42 => ?_
  refine wp_g0 [true, true, true] [] 29
    [ve (pv q9),
     ve (iv ((cleanV v).k)),
     ve (.bool (decide (((cleanV v).k) = 0)))] hs19 (.eq (.eq (.eq (.nil)))) ?_ ?_
  refine .o1 (tk rfl rfl fun _ w hn k => ⟨_, v_field rfl (k.fx 1 h21) (fun w => rfl), rfl⟩) ?_
  refine .o1 (tk rfl rfl fun _ w hn k => ⟨_, v_load rfl (k.eq1 0 10 rfl) (l_one Try.isAgg3 ((hb33.new_ hn).cell 0)), rfl⟩) ?_
  refine .o1 (tk rfl rfl fun _ w hn k => ⟨_, v_bin rfl (k.eq1 1 11 rfl) rfl (fun _ => rfl) (r_eql rfl), rfl⟩) ?_
  exact .nil
  intro a43 w44 hn45 ha46
  obtain ⟨hs47, hd48, hN54⟩ := aft ha46 hs19 hd20 hN40 hn45
  have h49 := ha46.fx 1 h21
  have h50 := ha46.ge 2 12 rfl
  have hb51 := hb33.new_ hn45
  have hr52 := hr38.new_ hn45
  have hr53 := hr39.new_ hn45
  refine st_nil (hK42 _ _ ?_)
  rcases Bool.eq_false_or_eq_true (decide (((cleanV v).k) = 0)) with ht55 | ht55
  have ht55d := of_decide_eq_true ht55
  have hv56 := hB h50 ht55
  refine wp_cond_true hv56 ?_
  refine wp_seq_k fun K57 hK57 => ?_
  refine wp_g0 [true, true] [] 29
    [ve (iv 0),
     ve (iv 0)] hs47 (.eq (.eq (.nil))) ?_ ?_
  refine .o1 (tk rfl rfl fun _ w hn k => ⟨_, v_assign rfl rfl, rfl⟩) ?_
  refine .o1 (tk rfl rfl fun _ w hn k => ⟨_, v_assign rfl rfl, rfl⟩) ?_
  exact .nil
  intro a58 w59 hn60 ha61
  obtain ⟨hs62, hd63, hN66⟩ := aft ha61 hs47 hd48 hN54 hn60
  have h64 := ha61.ge 0 2 rfl
  have h65 := ha61.ge 1 3 rfl
  refine st_nil (hK57 _ _ ?_)
  refine wp_ret (ret_k hd63 (v := .tuple #[iv 0, iv 0]) (res_tt rfl h64 h65 _) ?_)
  refine ⟨?_, hN66⟩
  show Ending.returned (.tuple #[iv 0, iv 0]) = Ending.returned (.tuple #[iv ((indexV v).1), iv ((indexV v).2)])
  first | rfl | (simp only [indexV, ht55, bsm] <;> rfl) | (simp [indexV, ht55]; done) | (exfalso; omega)
  have ht55d := of_decide_eq_false ht55
  have hv67 := hB h50 ht55
  refine wp_cond_false hv67 ?_
  refine wp_skip ?_
  refine hK41 _ _ ?_
  refine wp_seq_k fun K68 hK68 => ?_
  refine wp_g [true, true, true, true, true, true, false, false] [4] [(6, false), (7, true)] 29
    [ve (vv (cleanV v) A23 cc24 A26 cc27),
     ve (.tuple #[nv ((numberV (cleanV v)).1), iv ((numberV (cleanV v)).2)]),
     ve (.tuple #[nv ((numberV (cleanV v)).1), iv ((numberV (cleanV v)).2)]),
     ve (nv ((numberV (cleanV v)).1)),
     ve (iv ((numberV (cleanV v)).2)),
     IsNew w44 23 [iv 0, iv 0],
     vt,
     vt]
    [5] (newsCons (fun v w h => IsNew.old h) newsNil) hs47 (.eq (.eq (.eq (.eq (.eq (.nw (.tt (.tt (.nil))))))))) ?_ ?_ ?_
  refine .o1 (tk rfl rfl fun _ w hn k => ⟨_, v_load rfl (k.fx 1 h49) (l_agg Try.isAgg29 Try.sizeOf29 (hb51.new_ hn) rfl), rfl⟩) ?_
  refine .o1 (ck rfl rfl rfl (fun _ w hn k => ⟨#[vv (cleanV v) A23 cc24 A26 cc27], args1 (k.eq1 0 14 rfl), fun _ => by kernel_rfl, cnumber_c (cleanV v) _ _ _ _ _ (hr52.new_ hn) (hr53.new_ hn) hvv.clean⟩) fun _ => rfl) ?_
  refine .o1 (tk rfl rfl fun _ w hn k => ⟨_, v_move rfl (k.eq1 1 15 rfl), rfl⟩) ?_
  refine .o1 (tk rfl rfl fun _ w hn k => ⟨_, v_extract rfl (k.eq1 2 13 rfl) rfl, rfl⟩) ?_
  refine .o3 ?_
  refine .o2 (step_allocN (cs := [iv 0, iv 0]) (t := 23) rfl (noG rfl) (fun _ w hn k => rfl) (fun q _ hq hb => ⟨q, rfl, hq, hb⟩)) ?_
  refine .off ?_
  refine .off ?_
  exact .nil
  intro i h
  simp only [List.contains_eq_mem, List.mem_cons, List.not_mem_nil, or_false, decide_eq_true_eq] at h
  subst h
  exact eager_take rfl rfl fun _ w hn k => ⟨iv ((numberV (cleanV v)).2), fun w => v_extract rfl (k.eq1 2 13 rfl) rfl, rfl⟩
  intro a69 w70 hn71 ha72
  obtain ⟨hs73, hd74, hN82⟩ := aft ha72 hs47 hd48 hN54 hn71
  have h75 := ha72.ge 3 16 rfl
  have h76 := ha72.ge 4 17 rfl
  obtain ⟨q78, h77, hq79, hb80⟩ : IsNew _ _ _ _ _ := ha72.got 5 4 rfl (by kernel_rfl)
  have hq81 := Nat.le_trans hN54.size hq79
  obtain ⟨w83, -, hst84, hb85, hu86, hf87⟩ := s_two (v0 := iv ((numberV (cleanV v)).1.k)) (v1 := iv ((numberV (cleanV v)).1.n)) Try.sizeOf23 rfl rfl rfl hb80
  refine st_act rfl rfl fun K88 hL89 => a_store' rfl h77 h75 hst84 (hL89 _ _ trivial ?_)
  have hN90 := hN82.trans hu86 (fun k hk hkb => by subst hkb; omega)
  refine st_take rfl rfl (y_assign (v := iv ((numberV (cleanV v)).2)) rfl h76) rfl ?_
  obtain ⟨a91, ha92⟩ : ∃ a', a' = a69.put (some 5) (iv ((numberV (cleanV v)).2)) := ⟨_, rfl⟩
  have hs93 : a91.tmps.size = 29 := by rw [ha92, put_size]; exact hs73
  have hd94 : a91.defers = [] := by rw [ha92, put_defers]; exact hd74
  have h95 := pn ha92 h75 (by decide)
  have h96 := pn ha92 h76 (by decide)
  have h97 := pn ha92 h77 (by decide)
  have h98 : a91.eval (.tmp 5) = iv ((numberV (cleanV v)).2) := by rw [ha92]; exact put_same _ _ _ (by rw [hs73]; decide)
  show stepsTo _ _ _ _ _ (a69.put (some 5) (iv ((numberV (cleanV v)).2))) _
  rw [← ha92]
  refine st_nil (hK68 _ _ ?_)
  refine wp_seq_k fun K99 hK99 => ?_
  refine wp_seq_k fun K100 hK100 => ?_
  rcases Bool.eq_false_or_eq_true (decide (((numberV (cleanV v)).2) = 0)) with ht101 | ht101
  have ht101d := of_decide_eq_true ht101
  refine wp_g0 [true, true] [] 29
    [ve (iv ((numberV (cleanV v)).2)),
     ve (.bool false)] hs93 (.eq (.eq (.nil))) ?_ ?_
  refine .o1 (tk rfl rfl fun _ w hn k => ⟨_, v_move rfl (k.fx 5 h98), rfl⟩) ?_
  refine .o1 (tk rfl rfl fun _ w hn k => ⟨_, v_bin rfl (k.eq1 0 18 rfl) rfl (fun _ => rfl) (r_neq ht101), rfl⟩) ?_
  exact .nil
  intro a102 w103 hn104 ha105
  obtain ⟨hs106, hd107, hN112⟩ := aft ha105 hs93 hd94 hN90 hn104
  have h108 := ha105.fx 4 h97
  have h109 := ha105.fx 5 h98
  have h110 := ha105.ge 1 19 rfl
  have hb111 := hb85.new_ hn104
  refine st_nil (hK100 _ _ ?_)
  refine wp_cond_false h110 ?_
  refine wp_skip ?_
  refine hK99 _ _ ?_
  refine wp_seq_k fun K113 hK113 => ?_
  refine wp_g0 [true, true, true, true, true, true, true] [] 29
    [ve (nv ((numberV (cleanV v)).1)),
     ve (.tuple #[iv ((indexM ((numberV (cleanV v)).1)).1), .bool ((indexM ((numberV (cleanV v)).1)).2)]),
     ve (.tuple #[iv ((indexM ((numberV (cleanV v)).1)).1), .bool ((indexM ((numberV (cleanV v)).1)).2)]),
     ve (iv ((indexM ((numberV (cleanV v)).1)).1)),
     ve (.bool ((indexM ((numberV (cleanV v)).1)).2)),
     ve (iv ((indexM ((numberV (cleanV v)).1)).1)),
     ve (.bool ((indexM ((numberV (cleanV v)).1)).2))] hs106 (.eq (.eq (.eq (.eq (.eq (.eq (.eq (.nil)))))))) ?_ ?_
  refine .o1 (tk rfl rfl fun _ w hn k => ⟨_, v_load rfl (k.fx 4 h108) (l_two Try.isAgg23 Try.sizeOf23 (hb111.new_ hn)), rfl⟩) ?_
  refine .o1 (ck rfl rfl rfl (fun _ w hn k => ⟨#[nv ((numberV (cleanV v)).1)], args1 (k.eq1 0 22 rfl), fun _ => by kernel_rfl, nindex_c ((numberV (cleanV v)).1) _ ⟩) fun _ => rfl) ?_
  refine .o1 (tk rfl rfl fun _ w hn k => ⟨_, v_move rfl (k.eq1 1 23 rfl), rfl⟩) ?_
  refine .o1 (tk rfl rfl fun _ w hn k => ⟨_, v_extract rfl (k.eq1 2 21 rfl) rfl, rfl⟩) ?_
  refine .o1 (tk rfl rfl fun _ w hn k => ⟨_, v_extract rfl (k.eq1 2 21 rfl) rfl, rfl⟩) ?_
  refine .o1 (tk rfl rfl fun _ w hn k => ⟨_, v_assign rfl (k.eq1 3 24 rfl), rfl⟩) ?_
  refine .o1 (tk rfl rfl fun _ w hn k => ⟨_, v_assign rfl (k.eq1 4 25 rfl), rfl⟩) ?_
  exact .nil
  intro a114 w115 hn116 ha117
  obtain ⟨hs118, hd119, hN122⟩ := aft ha117 hs106 hd107 hN112 hn116
  have h120 := ha117.ge 5 6 rfl
  have h121 := ha117.ge 6 7 rfl
  refine st_nil (hK113 _ _ ?_)
  refine wp_seq_k fun K123 hK123 => ?_
  refine wp_seq_k fun K124 hK124 => ?_
  refine wp_g0 [true, true] [] 29
    [ve (.bool ((indexM ((numberV (cleanV v)).1)).2)),
     ve (.bool (!((indexM ((numberV (cleanV v)).1)).2)))] hs118 (.eq (.eq (.nil))) ?_ ?_
  refine .o1 (tk rfl rfl fun _ w hn k => ⟨_, v_move rfl (k.fx 7 h121), rfl⟩) ?_
  refine .o1 (tk rfl rfl fun _ w hn k => ⟨_, v_not rfl (k.eq1 0 26 rfl), rfl⟩) ?_
  exact .nil
  intro a125 w126 hn127 ha128
  obtain ⟨hs129, hd130, hN133⟩ := aft ha128 hs118 hd119 hN122 hn127
  have h131 := ha128.fx 6 h120
  have h132 := ha128.ge 1 27 rfl
  refine st_nil (hK124 _ _ ?_)
  rcases Bool.eq_false_or_eq_true ((indexM ((numberV (cleanV v)).1)).2) with ht134 | ht134
  have hv135 : a125.eval (.tmp 27) = .bool false := h132.trans (congrArg Value.bool (by rw [ht134]; rfl))
  refine wp_cond_false hv135 ?_
  refine wp_skip ?_
  refine hK123 _ _ ?_
  refine wp_seq_k fun K136 hK136 => ?_
  refine wp_g0 [true, true, true] [] 29
    [ve (iv ((indexM ((numberV (cleanV v)).1)).1)),
     ve (iv ((indexM ((numberV (cleanV v)).1)).1)),
     ve (iv 0)] hs129 (.eq (.eq (.eq (.nil)))) ?_ ?_
  refine .o1 (tk rfl rfl fun _ w hn k => ⟨_, v_move rfl (k.fx 6 h131), rfl⟩) ?_
  refine .o1 (tk rfl rfl fun _ w hn k => ⟨_, v_assign rfl (k.eq1 0 28 rfl), rfl⟩) ?_
  refine .o1 (tk rfl rfl fun _ w hn k => ⟨_, v_assign rfl rfl, rfl⟩) ?_
  exact .nil
  intro a137 w138 hn139 ha140
  obtain ⟨hs141, hd142, hN145⟩ := aft ha140 hs129 hd130 hN133 hn139
  have h143 := ha140.ge 1 2 rfl
  have h144 := ha140.ge 2 3 rfl
  refine st_nil (hK136 _ _ ?_)
  refine wp_ret (ret_k hd142 (v := .tuple #[iv ((indexM ((numberV (cleanV v)).1)).1), iv 0]) (res_tt rfl h143 h144 _) ?_)
  refine ⟨?_, hN145⟩
  show Ending.returned (.tuple #[iv ((indexM ((numberV (cleanV v)).1)).1), iv 0]) = Ending.returned (.tuple #[iv ((indexV v).1), iv ((indexV v).2)])
  first | rfl | (simp only [indexV, ht55, ht101, ht134, bsm] <;> rfl) | (simp [indexV, ht55, ht101, ht134]; done) | (exfalso; omega)
  have hv146 : a125.eval (.tmp 27) = .bool true := h132.trans (congrArg Value.bool (by rw [ht134]; rfl))
  refine wp_cond_true hv146 ?_
  refine wp_seq_k fun K147 hK147 => ?_
  refine wp_g0 [true, true] [] 29
    [ve (iv 0),
     ve (iv 2)] hs129 (.eq (.eq (.nil))) ?_ ?_
  refine .o1 (tk rfl rfl fun _ w hn k => ⟨_, v_assign rfl rfl, rfl⟩) ?_
  refine .o1 (tk rfl rfl fun _ w hn k => ⟨_, v_assign rfl rfl, rfl⟩) ?_
  exact .nil
  intro a148 w149 hn150 ha151
  obtain ⟨hs152, hd153, hN156⟩ := aft ha151 hs129 hd130 hN133 hn150
  have h154 := ha151.ge 0 2 rfl
  have h155 := ha151.ge 1 3 rfl
  refine st_nil (hK147 _ _ ?_)
  refine wp_ret (ret_k hd153 (v := .tuple #[iv 0, iv 2]) (res_tt rfl h154 h155 _) ?_)
  refine ⟨?_, hN156⟩
  show Ending.returned (.tuple #[iv 0, iv 2]) = Ending.returned (.tuple #[iv ((indexV v).1), iv ((indexV v).2)])
  first | rfl | (simp only [indexV, ht55, ht101, ht134, bsm] <;> rfl) | (simp [indexV, ht55, ht101, ht134]; done) | (exfalso; omega)
  have ht101d := of_decide_eq_false ht101
  refine wp_g0 [true, true] [] 29
    [ve (iv ((numberV (cleanV v)).2)),
     ve (.bool true)] hs93 (.eq (.eq (.nil))) ?_ ?_
  refine .o1 (tk rfl rfl fun _ w hn k => ⟨_, v_move rfl (k.fx 5 h98), rfl⟩) ?_
  refine .o1 (tk rfl rfl fun _ w hn k => ⟨_, v_bin rfl (k.eq1 0 18 rfl) rfl (fun _ => rfl) (r_neq ht101), rfl⟩) ?_
  exact .nil
  intro a157 w158 hn159 ha160
  obtain ⟨hs161, hd162, hN167⟩ := aft ha160 hs93 hd94 hN90 hn159
  have h163 := ha160.fx 4 h97
  have h164 := ha160.fx 5 h98
  have h165 := ha160.ge 1 19 rfl
  have hb166 := hb85.new_ hn159
  refine st_nil (hK100 _ _ ?_)
  refine wp_cond_true h165 ?_
  refine wp_seq_k fun K168 hK168 => ?_
  refine wp_g0 [true, true, true] [] 29
    [ve (iv ((numberV (cleanV v)).2)),
     ve (iv 0),
     ve (iv ((numberV (cleanV v)).2))] hs161 (.eq (.eq (.eq (.nil)))) ?_ ?_
  refine .o1 (tk rfl rfl fun _ w hn k => ⟨_, v_move rfl (k.fx 5 h164), rfl⟩) ?_
  refine .o1 (tk rfl rfl fun _ w hn k => ⟨_, v_assign rfl rfl, rfl⟩) ?_
  refine .o1 (tk rfl rfl fun _ w hn k => ⟨_, v_assign rfl (k.eq1 0 20 rfl), rfl⟩) ?_
  exact .nil
  intro a169 w170 hn171 ha172
  obtain ⟨hs173, hd174, hN177⟩ := aft ha172 hs161 hd162 hN167 hn171
  have h175 := ha172.ge 1 2 rfl
  have h176 := ha172.ge 2 3 rfl
  refine st_nil (hK168 _ _ ?_)
  refine wp_ret (ret_k hd174 (v := .tuple #[iv 0, iv ((numberV (cleanV v)).2)]) (res_tt rfl h175 h176 _) ?_)
  refine ⟨?_, hN177⟩
  show Ending.returned (.tuple #[iv 0, iv ((numberV (cleanV v)).2)]) = Ending.returned (.tuple #[iv ((indexV v).1), iv ((indexV v).2)])
  first | rfl | (simp only [indexV, ht55, ht101, bsm] <;> rfl) | (simp [indexV, ht55, ht101]; done) | (exfalso; omega)
set_option maxHeartbeats 8000000 in
set_option maxRecDepth 100000 in
theorem cstrict_c (v : Vl) (Av : Option Addr) (cv : Nat) (Bv : Option Addr) (dv : Nat) (u : Vl) (Au : Option Addr) (cu : Nat) (Bu : Option Addr) (du : Nat) (w : World) (hmv : SRow w .u32 Av v.mag cv) (hsv : SRow w .u16 Bv v.s dv) (hmu : SRow w .u32 Au u.mag cu) (hsu : SRow w .u16 Bu u.s du) : Calls Try.prog 11 #[vv v Av cv Bv dv, vv u Au cu Bu du] w (IsRet (.bool (strictV v u)) w) := by
  refine enter_abs Try.func11 rfl fun a0 hs0 hd0 hp => ?_
  have hs0 : a0.tmps.size = 27 := hs0
  have hN0 : New w w := Upd.refl _ _
  have hp0 : a0.eval (.tmp 0) = vv v Av cv Bv dv := hp 0 _ rfl
  have hp1 : a0.eval (.tmp 1) = vv u Au cu Bu du := hp 1 _ rfl
  refine wp_seq_k fun K1 hK1 => ?_
  refine wp_g [true, true, true] [] [] 27
    [IsNew w 29 [iv v.k, iv v.nk, iv v.nn, .bool v.neg, sv Av v.mag cv, sv Bv v.s dv, iv v.ref],
     IsNew w 29 [iv u.k, iv u.nk, iv u.nn, .bool u.neg, sv Au u.mag cu, sv Bu u.s du, iv u.ref],
     ve (.bool false)]
    [0, 1] (newsCons (fun v w h => IsNew.old h) (newsCons (fun v w h => IsNew.old h) newsNil)) hs0 (.nw (.nw (.eq (.nil)))) ?_ (fun i h => by cases h) ?_
  refine .o2 (step_allocN (cs := [iv v.k, iv v.nk, iv v.nn, .bool v.neg, sv Av v.mag cv, sv Bv v.s dv, iv v.ref]) (t := 29) rfl (noG rfl) (fun _ w hn k => v_box rfl (k.fx 0 hp0) (fun w => rfl)) (fun q _ hq hb => ⟨q, rfl, hq, hb⟩)) ?_
  refine .o2 (step_allocN (cs := [iv u.k, iv u.nk, iv u.nn, .bool u.neg, sv Au u.mag cu, sv Bu u.s du, iv u.ref]) (t := 29) rfl (noG rfl) (fun _ w hn k => v_box rfl (k.fx 1 hp1) (fun w => rfl)) (fun q _ hq hb => ⟨q, rfl, hq, hb⟩)) ?_
  refine .o1 (tk rfl rfl fun _ w hn k => ⟨_, v_assign rfl rfl, rfl⟩) ?_
  exact .nil
  intro a2 w3 hn4 ha5
  obtain ⟨hs6, hd7, hN19⟩ := aft ha5 hs0 hd0 hN0 hn4
  obtain ⟨q9, h8, hq10, hb11⟩ : IsNew _ _ _ _ _ := ha5.got 0 2 rfl (by kernel_rfl)
  obtain ⟨q13, h12, hq14, hb15⟩ : IsNew _ _ _ _ _ := ha5.got 1 3 rfl (by kernel_rfl)
  have hne16 : q9 ≠ q13 := ha5.ne 0 1 2 3 h8 h12
  have hq17 := Nat.le_trans hN0.size hq10
  have hq18 := Nat.le_trans hN0.size hq14
  refine st_nil (hK1 _ _ ?_)
  refine wp_seq_k fun K20 hK20 => ?_
  refine wp_g0 [true, true, true, true, false, false] [(4, false), (5, false)] 27
    [ve (vv v Av cv Bv dv),
     (fun (v_ : Value) (W : World) => ∃ (A5 : Option Addr) (c6 : Nat) (A7 : Option Addr) (c8 : Nat), v_ = vv (cleanV v) A5 c6 A7 c8 ∧ SRow W .u32 A5 ((cleanV v).mag) c6 ∧ SRow W .u16 A7 ((cleanV v).s) c8),
     ve (vv u Au cu Bu du),
     (fun (v_ : Value) (W : World) => ∃ (A13 : Option Addr) (c14 : Nat) (A15 : Option Addr) (c16 : Nat), v_ = vv (cleanV u) A13 c14 A15 c16 ∧ SRow W .u32 A13 ((cleanV u).mag) c14 ∧ SRow W .u16 A15 ((cleanV u).s) c16),
     vt,
     vt] hs6 (.eq (.cons (fun v W W' hn ⟨A5, c6, A7, c8, he, h0, h1⟩ => ⟨A5, c6, A7, c8, he, h0.new_ hn, h1.new_ hn⟩) (.eq (.cons (fun v W W' hn ⟨A13, c14, A15, c16, he, h0, h1⟩ => ⟨A13, c14, A15, c16, he, h0.new_ hn, h1.new_ hn⟩) (.tt (.tt (.nil))))))) ?_ ?_
  refine .o1 (tk rfl rfl fun _ w hn k => ⟨_, v_load rfl (k.fx 2 h8) (l_agg Try.isAgg29 Try.sizeOf29 (hb11.new_ hn) rfl), rfl⟩) ?_
  refine .o1 (tkC rfl (noG rfl) rfl fun _ w hn k => (by
        refine ⟨#[vv v Av cv Bv dv], _, args1 (k.eq1 0 5 rfl), fun w => by kernel_rfl, clean_c v _ _ _ _ _ (hmv.new_ (hN19.transNew hn)) (hsv.new_ (hN19.transNew hn)), ?_⟩
        rintro e w' ⟨A1, c2, A3, c4, rfl, hmo0, hmo1, hm⟩
        exact ⟨_, rfl, hm, ⟨A1, c2, A3, c4, rfl, hmo0, hmo1⟩⟩)) ?_
  refine .o1 (tk rfl rfl fun _ w hn k => ⟨_, v_load rfl (k.fx 3 h12) (l_agg Try.isAgg29 Try.sizeOf29 (hb15.new_ hn) rfl), rfl⟩) ?_
  refine .o1 (tkC rfl (noG rfl) rfl fun _ w hn k => (by
        refine ⟨#[vv u Au cu Bu du], _, args1 (k.eq1 2 7 rfl), fun w => by kernel_rfl, clean_c u _ _ _ _ _ (hmu.new_ (hN19.transNew hn)) (hsu.new_ (hN19.transNew hn)), ?_⟩
        rintro e w' ⟨A9, c10, A11, c12, rfl, hmo0, hmo1, hm⟩
        exact ⟨_, rfl, hm, ⟨A9, c10, A11, c12, rfl, hmo0, hmo1⟩⟩)) ?_
  refine .off ?_
  refine .off ?_
  exact .nil
  intro a21 w22 hn23 ha24
  obtain ⟨hs25, hd26, hN45⟩ := aft ha24 hs6 hd7 hN19 hn23
  have h27 := ha24.fx 2 h8
  have h28 := ha24.fx 3 h12
  obtain ⟨A30, cc31, A33, cc34, h29, hr32, hr35⟩ : (fun (v_ : Value) (W : World) => ∃ (A5 : Option Addr) (c6 : Nat) (A7 : Option Addr) (c8 : Nat), v_ = vv (cleanV v) A5 c6 A7 c8 ∧ SRow W .u32 A5 ((cleanV v).mag) c6 ∧ SRow W .u16 A7 ((cleanV v).s) c8) _ _ := ha24.got 1 6 rfl (by kernel_rfl)
  have h29 : a21.eval (.tmp 6) = vv (cleanV v) A30 cc31 A33 cc34 := h29
  obtain ⟨A37, cc38, A40, cc41, h36, hr39, hr42⟩ : (fun (v_ : Value) (W : World) => ∃ (A13 : Option Addr) (c14 : Nat) (A15 : Option Addr) (c16 : Nat), v_ = vv (cleanV u) A13 c14 A15 c16 ∧ SRow W .u32 A13 ((cleanV u).mag) c14 ∧ SRow W .u16 A15 ((cleanV u).s) c16) _ _ := ha24.got 3 8 rfl (by kernel_rfl)
  have h36 : a21.eval (.tmp 8) = vv (cleanV u) A37 cc38 A40 cc41 := h36
  have hb43 := hb11.new_ hn23
  have hb44 := hb15.new_ hn23
  obtain ⟨w46, hst47, hb480, hu49, hf50⟩ := s_many (P := Try.prog) (t := 29) (i := 0) [iv ((cleanV v).k), iv ((cleanV v).nk), iv ((cleanV v).nn), .bool ((cleanV v).neg), sv A30 ((cleanV v).mag) cc31, sv A33 ((cleanV v).s) cc34, iv ((cleanV v).ref)] Try.sizeOf29 rfl rfl rfl hb43 (Nat.le_of_ble_eq_true rfl)
  have hb48 : Blk w46 q9 29 [iv ((cleanV v).k), iv ((cleanV v).nk), iv ((cleanV v).nn), .bool ((cleanV v).neg), sv A30 ((cleanV v).mag) cc31, sv A33 ((cleanV v).s) cc34, iv ((cleanV v).ref)] := hb480
  refine st_act rfl rfl fun K51 hL52 => a_store' rfl h27 h29 hst47 (hL52 _ _ trivial ?_)
  have hr53 := hr32.far hb43 hu49 (by first | rfl | decide | simp [notK])
  have hr54 := hr35.far hb43 hu49 (by first | rfl | decide | simp [notK])
  have hr55 := hr39.far hb43 hu49 (by first | rfl | decide | simp [notK])
  have hr56 := hr42.far hb43 hu49 (by first | rfl | decide | simp [notK])
  have hb57 := hf50 _ _ _ (fun h => hne16 h.symm) hb44
  have hN58 := hN45.trans hu49 (fun k hk hkb => by subst hkb; omega)
  obtain ⟨w59, hst60, hb610, hu62, hf63⟩ := s_many (P := Try.prog) (t := 29) (i := 0) [iv ((cleanV u).k), iv ((cleanV u).nk), iv ((cleanV u).nn), .bool ((cleanV u).neg), sv A37 ((cleanV u).mag) cc38, sv A40 ((cleanV u).s) cc41, iv ((cleanV u).ref)] Try.sizeOf29 rfl rfl rfl hb57 (Nat.le_of_ble_eq_true rfl)
  have hb61 : Blk w59 q13 29 [iv ((cleanV u).k), iv ((cleanV u).nk), iv ((cleanV u).nn), .bool ((cleanV u).neg), sv A37 ((cleanV u).mag) cc38, sv A40 ((cleanV u).s) cc41, iv ((cleanV u).ref)] := hb610
  refine st_act rfl rfl fun K64 hL65 => a_store' rfl h28 h36 hst60 (hL65 _ _ trivial ?_)
  have hr66 := hr53.far hb57 hu62 (by first | rfl | decide | simp [notK])
  have hr67 := hr54.far hb57 hu62 (by first | rfl | decide | simp [notK])
  have hr68 := hr55.far hb57 hu62 (by first | rfl | decide | simp [notK])
  have hr69 := hr56.far hb57 hu62 (by first | rfl | decide | simp [notK])
  have hb70 := hf63 _ _ _ (hne16) hb48
  have hN71 := hN58.trans hu62 (fun k hk hkb => by subst hkb; omega)
  refine st_nil (hK20 _ _ ?_)
  refine wp_seq_k fun K72 hK72 => ?_
  refine wp_block ?_
  refine wp_seq_k fun K73 hK73 => ?_
  rcases Bool.eq_false_or_eq_true (decide (((cleanV v).k) = ((cleanV u).k))) with ht74 | ht74
  have ht74d := of_decide_eq_true ht74
  refine wp_g0 [true, true, true, true, true, true] [] 27
    [ve (pv q9),
     ve (iv ((cleanV v).k)),
     ve (pv q13),
     ve (iv ((cleanV u).k)),
     ve (.bool false),
     ve (.bool false)] hs25 (.eq (.eq (.eq (.eq (.eq (.eq (.nil))))))) ?_ ?_
  refine .o1 (tk rfl rfl fun _ w hn k => ⟨_, v_field rfl (k.fx 2 h27) (fun w => rfl), rfl⟩) ?_
  refine .o1 (tk rfl rfl fun _ w hn k => ⟨_, v_load rfl (k.eq1 0 10 rfl) (l_one Try.isAgg3 ((hb70.new_ hn).cell 0)), rfl⟩) ?_
  refine .o1 (tk rfl rfl fun _ w hn k => ⟨_, v_field rfl (k.fx 3 h28) (fun w => rfl), rfl⟩) ?_
  refine .o1 (tk rfl rfl fun _ w hn k => ⟨_, v_load rfl (k.eq1 2 12 rfl) (l_one Try.isAgg3 ((hb61.new_ hn).cell 0)), rfl⟩) ?_
  refine .o1 (tk rfl rfl fun _ w hn k => ⟨_, v_bin rfl (k.eq1 1 11 rfl) (k.eq1 3 13 rfl) (fun _ => rfl) (r_neq ht74), rfl⟩) ?_
  refine .o1 (tk rfl rfl fun _ w hn k => ⟨_, v_assign rfl (k.eq1 4 14 rfl), rfl⟩) ?_
  exact .nil
  intro a75 w76 hn77 ha78
  obtain ⟨hs79, hd80, hN90⟩ := aft ha78 hs25 hd26 hN71 hn77
  have h81 := ha78.fx 2 h27
  have h82 := ha78.fx 3 h28
  have h83 := ha78.ge 5 9 rfl
  have hb84 := hb70.new_ hn77
  have hb85 := hb61.new_ hn77
  have hr86 := hr66.new_ hn77
  have hr87 := hr67.new_ hn77
  have hr88 := hr68.new_ hn77
  have hr89 := hr69.new_ hn77
  refine st_nil (hK73 _ _ ?_)
  refine wp_cond_false h83 ?_
  refine wp_seq_k fun K91 hK91 => ?_
  refine wp_g0 [true, true, true, true] [] 27
    [ve (pv q9),
     ve (iv ((cleanV v).k)),
     ve (.bool (decide (((cleanV v).k) = 3))),
     ve (.bool (decide (((cleanV v).k) = 3)))] hs79 (.eq (.eq (.eq (.eq (.nil))))) ?_ ?_
  refine .o1 (tk rfl rfl fun _ w hn k => ⟨_, v_field rfl (k.fx 2 h81) (fun w => rfl), rfl⟩) ?_
  refine .o1 (tk rfl rfl fun _ w hn k => ⟨_, v_load rfl (k.eq1 0 16 rfl) (l_one Try.isAgg3 ((hb84.new_ hn).cell 0)), rfl⟩) ?_
  refine .o1 (tk rfl rfl fun _ w hn k => ⟨_, v_bin rfl (k.eq1 1 17 rfl) rfl (fun _ => rfl) (r_eql rfl), rfl⟩) ?_
  refine .o1 (tk rfl rfl fun _ w hn k => ⟨_, v_assign rfl (k.eq1 2 18 rfl), rfl⟩) ?_
  exact .nil
  intro a92 w93 hn94 ha95
  obtain ⟨hs96, hd97, hN107⟩ := aft ha95 hs79 hd80 hN90 hn94
  have h98 := ha95.fx 2 h81
  have h99 := ha95.fx 3 h82
  have h100 := ha95.ge 3 15 rfl
  have hb101 := hb84.new_ hn94
  have hb102 := hb85.new_ hn94
  have hr103 := hr86.new_ hn94
  have hr104 := hr87.new_ hn94
  have hr105 := hr88.new_ hn94
  have hr106 := hr89.new_ hn94
  refine st_nil (hK91 _ _ ?_)
  rcases Bool.eq_false_or_eq_true (decide (((cleanV v).k) = 3)) with ht108 | ht108
  have ht108d := of_decide_eq_true ht108
  have hv109 := hB h100 ht108
  refine wp_cond_true hv109 ?_
  refine wp_seq_k fun K110 hK110 => ?_
  refine wp_g0 [true, true, true, true, true, true] [] 27
    [ve (.pointer (some ⟨q9, 1, none⟩)),
     ve (nv (Nm.mk ((cleanV v).nk) ((cleanV v).nn))),
     ve (.pointer (some ⟨q13, 1, none⟩)),
     ve (nv (Nm.mk ((cleanV u).nk) ((cleanV u).nn))),
     ve (.bool (equalM (Nm.mk ((cleanV v).nk) ((cleanV v).nn)) (Nm.mk ((cleanV u).nk) ((cleanV u).nn)))),
     ve (.bool (equalM (Nm.mk ((cleanV v).nk) ((cleanV v).nn)) (Nm.mk ((cleanV u).nk) ((cleanV u).nn))))] hs96 (.eq (.eq (.eq (.eq (.eq (.eq (.nil))))))) ?_ ?_
  refine .o1 (tk rfl rfl fun _ w hn k => ⟨_, v_field rfl (k.fx 2 h98) (fun w => rfl), rfl⟩) ?_
  refine .o1 (tk rfl rfl fun _ w hn k => ⟨_, v_load rfl (k.eq1 0 19 rfl) (l_part Try.isAgg23 Try.sizeOf23 (hb101.new_ hn) (Nat.le_of_ble_eq_true rfl)), rfl⟩) ?_
  refine .o1 (tk rfl rfl fun _ w hn k => ⟨_, v_field rfl (k.fx 3 h99) (fun w => rfl), rfl⟩) ?_
  refine .o1 (tk rfl rfl fun _ w hn k => ⟨_, v_load rfl (k.eq1 2 21 rfl) (l_part Try.isAgg23 Try.sizeOf23 (hb102.new_ hn) (Nat.le_of_ble_eq_true rfl)), rfl⟩) ?_
  refine .o1 (ck rfl rfl rfl (fun _ w hn k => ⟨#[nv (Nm.mk ((cleanV v).nk) ((cleanV v).nn)), nv (Nm.mk ((cleanV u).nk) ((cleanV u).nn))], args2 (k.eq1 1 20 rfl) (k.eq1 3 22 rfl), fun _ => by kernel_rfl, equal_c (Nm.mk ((cleanV v).nk) ((cleanV v).nn)) (Nm.mk ((cleanV u).nk) ((cleanV u).nn)) _ ⟩) fun _ => rfl) ?_
  refine .o1 (tk rfl rfl fun _ w hn k => ⟨_, v_assign rfl (k.eq1 4 23 rfl), rfl⟩) ?_
  exact .nil
  intro a111 w112 hn113 ha114
  obtain ⟨hs115, hd116, hN118⟩ := aft ha114 hs96 hd97 hN107 hn113
  have h117 := ha114.ge 5 4 rfl
  refine st_nil (hK110 _ _ ?_)
  refine wp_ret (ret_k hd116 (v := .bool (equalM (Nm.mk ((cleanV v).nk) ((cleanV v).nn)) (Nm.mk ((cleanV u).nk) ((cleanV u).nn)))) (res_t rfl h117 _) ?_)
  refine ⟨?_, hN118⟩
  show Ending.returned (.bool (equalM (Nm.mk ((cleanV v).nk) ((cleanV v).nn)) (Nm.mk ((cleanV u).nk) ((cleanV u).nn)))) = Ending.returned (.bool (strictV v u))
  first | rfl | (simp only [strictV, ht74, ht108, bsm] <;> rfl) | (simp [strictV, ht74, ht108]; done) | (exfalso; omega)
  have ht108d := of_decide_eq_false ht108
  have hv119 := hB h100 ht108
  refine wp_cond_false hv119 ?_
  refine wp_skip ?_
  refine hK72 _ _ ?_
  refine wp_seq_k fun K120 hK120 => ?_
  refine wp_g0 [true, true, true, true] [] 27
    [ve (vv (cleanV v) A30 cc31 A33 cc34),
     ve (vv (cleanV u) A37 cc38 A40 cc41),
     ve (.bool (sameV (cleanV v) (cleanV u))),
     ve (.bool (sameV (cleanV v) (cleanV u)))] hs96 (.eq (.eq (.eq (.eq (.nil))))) ?_ ?_
  refine .o1 (tk rfl rfl fun _ w hn k => ⟨_, v_load rfl (k.fx 2 h98) (l_agg Try.isAgg29 Try.sizeOf29 (hb101.new_ hn) rfl), rfl⟩) ?_
  refine .o1 (tk rfl rfl fun _ w hn k => ⟨_, v_load rfl (k.fx 3 h99) (l_agg Try.isAgg29 Try.sizeOf29 (hb102.new_ hn) rfl), rfl⟩) ?_
  refine .o1 (ck rfl rfl rfl (fun _ w hn k => ⟨#[vv (cleanV v) A30 cc31 A33 cc34, vv (cleanV u) A37 cc38 A40 cc41], args2 (k.eq1 0 24 rfl) (k.eq1 1 25 rfl), fun _ => by kernel_rfl, vsame_c (cleanV v) _ _ _ _ (cleanV u) _ _ _ _ _ (hr103.new_ hn) (hr104.new_ hn) (hr105.new_ hn) (hr106.new_ hn)⟩) fun _ => rfl) ?_
  refine .o1 (tk rfl rfl fun _ w hn k => ⟨_, v_assign rfl (k.eq1 2 26 rfl), rfl⟩) ?_
  exact .nil
  intro a121 w122 hn123 ha124
  obtain ⟨hs125, hd126, hN128⟩ := aft ha124 hs96 hd97 hN107 hn123
  have h127 := ha124.ge 3 4 rfl
  refine st_nil (hK120 _ _ ?_)
  refine wp_ret (ret_k hd126 (v := .bool (sameV (cleanV v) (cleanV u))) (res_t rfl h127 _) ?_)
  refine ⟨?_, hN128⟩
  show Ending.returned (.bool (sameV (cleanV v) (cleanV u))) = Ending.returned (.bool (strictV v u))
  first | rfl | (simp only [strictV, ht74, ht108, bsm] <;> rfl) | (simp [strictV, ht74, ht108]; done) | (exfalso; omega)
  have ht74d := of_decide_eq_false ht74
  refine wp_g0 [true, true, true, true, true, true] [] 27
    [ve (pv q9),
     ve (iv ((cleanV v).k)),
     ve (pv q13),
     ve (iv ((cleanV u).k)),
     ve (.bool true),
     ve (.bool true)] hs25 (.eq (.eq (.eq (.eq (.eq (.eq (.nil))))))) ?_ ?_
  refine .o1 (tk rfl rfl fun _ w hn k => ⟨_, v_field rfl (k.fx 2 h27) (fun w => rfl), rfl⟩) ?_
  refine .o1 (tk rfl rfl fun _ w hn k => ⟨_, v_load rfl (k.eq1 0 10 rfl) (l_one Try.isAgg3 ((hb70.new_ hn).cell 0)), rfl⟩) ?_
  refine .o1 (tk rfl rfl fun _ w hn k => ⟨_, v_field rfl (k.fx 3 h28) (fun w => rfl), rfl⟩) ?_
  refine .o1 (tk rfl rfl fun _ w hn k => ⟨_, v_load rfl (k.eq1 2 12 rfl) (l_one Try.isAgg3 ((hb61.new_ hn).cell 0)), rfl⟩) ?_
  refine .o1 (tk rfl rfl fun _ w hn k => ⟨_, v_bin rfl (k.eq1 1 11 rfl) (k.eq1 3 13 rfl) (fun _ => rfl) (r_neq ht74), rfl⟩) ?_
  refine .o1 (tk rfl rfl fun _ w hn k => ⟨_, v_assign rfl (k.eq1 4 14 rfl), rfl⟩) ?_
  exact .nil
  intro a129 w130 hn131 ha132
  obtain ⟨hs133, hd134, hN144⟩ := aft ha132 hs25 hd26 hN71 hn131
  have h135 := ha132.fx 2 h27
  have h136 := ha132.fx 3 h28
  have h137 := ha132.ge 5 9 rfl
  have hb138 := hb70.new_ hn131
  have hb139 := hb61.new_ hn131
  have hr140 := hr66.new_ hn131
  have hr141 := hr67.new_ hn131
  have hr142 := hr68.new_ hn131
  have hr143 := hr69.new_ hn131
  refine st_nil (hK73 _ _ ?_)
  refine wp_cond_true h137 ?_
  refine wp_seq_k fun K145 hK145 => ?_
  refine wp_g0 [true] [] 27
    [ve (.bool false)] hs133 (.eq (.nil)) ?_ ?_
  refine .o1 (tk rfl rfl fun _ w hn k => ⟨_, v_assign rfl rfl, rfl⟩) ?_
  exact .nil
  intro a146 w147 hn148 ha149
  obtain ⟨hs150, hd151, hN153⟩ := aft ha149 hs133 hd134 hN144 hn148
  have h152 := ha149.ge 0 4 rfl
  refine st_nil (hK145 _ _ ?_)
  refine wp_ret (ret_k hd151 (v := .bool false) (res_t rfl h152 _) ?_)
  refine ⟨?_, hN153⟩
  show Ending.returned (.bool false) = Ending.returned (.bool (strictV v u))
  first | rfl | (simp only [strictV, ht74, bsm] <;> rfl) | (simp [strictV, ht74]; done) | (exfalso; omega)
end Go.Proofs.Ytecgdgjlmlpcnaa
