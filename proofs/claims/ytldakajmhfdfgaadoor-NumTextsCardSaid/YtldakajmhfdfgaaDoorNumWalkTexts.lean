/- NumTexts: the walk -/
import Derived.Test.YtldakajmhfdfgaaDoorNumF
import Derived.Test.YtldakajmhfdfgaaDoorNumTv
namespace Go.Proofs.YtldakajmhfdfgaaDoor
open Go.RowKit
set_option linter.unusedSimpArgs false
set_option linter.unusedVariables false
set_option maxHeartbeats 8000000 in
set_option maxRecDepth 100000 in
theorem texts_walk (a : Nm) (s : ByteArray) (n : Int) (w : World) (HL : LaidOk w) : Calls Tryd.prog 3 #[nv a, .string s, iv n] w (IsRet (.bool true) w) := by
  refine enter_abs Tryd.func3 rfl fun a0 hs0 hd0 hp => ?_
  have hs0 : a0.tmps.size = 63 := hs0
  have hN0 : New w w := Upd.refl _ _
  have hp0 : a0.eval (.tmp 0) = nv a := hp 0 _ rfl
  have hp1 : a0.eval (.tmp 1) = .string s := hp 1 _ rfl
  have hp2 : a0.eval (.tmp 2) = iv n := hp 2 _ rfl
  clear hp
  refine wp_seq_k fun K1 hK1 => ?_
  refine wp_g [true, true] [] [] 63
    [IsNew w 23 [iv a.k, iv a.n],
     ve (.bool false)]
    [0] (newsCons (fun v w h => IsNew.old h) newsNil) hs0 (.nw (.eq (.nil))) ?_ (fun i h => by cases h) ?_
  · skip
    refine .o2 (step_allocN (cs := [iv a.k, iv a.n]) (t := 23) rfl (noG rfl) (fun _ w hn k => v_box rfl (k.fx 0 hp0) (fun w => rfl)) (fun q _ hq hb => ⟨q, rfl, hq, hb⟩)) ?_
    refine .o1 (tk rfl rfl fun _ w hn k => ⟨_, v_assign rfl rfl, rfl⟩) ?_
    exact .nil
  intro a2 w3 hn4 ha5
  have hs6 := ha5.size.trans hs0
  have hd7 := ha5.defers.trans hd0
  have h8 := ha5.fx 1 hp1
  have h9 := ha5.fx 2 hp2
  obtain ⟨q11, h10, hq12, hb13⟩ : IsNew _ _ _ _ _ := ha5.got 0 3 rfl (by kernel_rfl)
  have h14 := ha5.ge 1 6 rfl
  have hq15 := Nat.le_trans hN0.size hq12
  have hN16 := hN0.transNew hn4
  clear hs0 hd0 hp0 hp1 hp2 hq12 hN0 ha5 hn4
  refine st_nil ?_
  refine hK1 _ _ ?_
  clear hK1 K1
  refine wp_seq_k fun K17 hK17 => ?_
  refine wp_seq_k fun K18 hK18 => ?_
  refine wp_g0 [true, true] [] 63
    [ve (.bool true),
     ve (.bool false)] hs6 (.eq (.eq (.nil))) ?_ ?_
  · skip
    refine .o1 (ck rfl rfl rfl (fun _ w hn k => ⟨#[], rfl, fun _ => by kernel_rfl, first_c  _⟩) fun _ => rfl) ?_
    refine .o1 (tk rfl rfl fun _ w hn k => ⟨_, v_not rfl (k.eq1 0 15 rfl), rfl⟩) ?_
    exact .nil
  intro a19 w20 hn21 ha22
  have hs23 := ha22.size.trans hs6
  have hd24 := ha22.defers.trans hd7
  have h25 := ha22.fx 1 h8
  have h26 := ha22.fx 2 h9
  have h27 := ha22.fx 3 h10
  have h28 := ha22.fx 6 h14
  have h29 := ha22.ge 1 16 rfl
  have hb30 := hb13.new_ hn21
  have hN31 := hN16.transNew hn21
  clear hs6 hd7 h8 h9 h10 h14 hb13 hN16 ha22 hn21
  refine st_nil ?_
  refine hK18 _ _ ?_
  clear hK18 K18
  refine wp_cond_false h29 ?_
  refine wp_skip ?_
  refine hK17 _ _ ?_
  clear hK17 K17
  refine wp_seq_k fun K32 hK32 => ?_
  refine wp_seq_k fun K33 hK33 => ?_
  rcases Bool.eq_false_or_eq_true (decide ((s.size : Int) ≤ 200)) with ht34 | ht34
  · skip
    have ht34d := of_decide_eq_true ht34
    refine wp_g0 [true, true, true] [] 63
      [ve (.string s),
       ve (iv (s.size : Int)),
       ve (.bool false)] hs23 (.eq (.eq (.eq (.nil)))) ?_ ?_
    · skip
      refine .o1 (tk rfl rfl fun _ w hn k => ⟨_, v_move rfl (k.fx 1 h25), rfl⟩) ?_
      refine .o1 (tk rfl rfl fun _ w hn k => ⟨_, v_lens rfl (k.eq1 0 17 rfl) (by kernel_rfl), rfl⟩) ?_
      refine .o1 (tk rfl rfl fun _ w hn k => ⟨_, v_bin rfl (k.eq1 1 18 rfl) rfl (fun _ => rfl) (r_gtrK ht34), rfl⟩) ?_
      exact .nil
    intro a35 w36 hn37 ha38
    have hs39 := ha38.size.trans hs23
    have hd40 := ha38.defers.trans hd24
    have h41 := ha38.fx 1 h25
    have h42 := ha38.fx 2 h26
    have h43 := ha38.fx 3 h27
    have h44 := ha38.fx 6 h28
    have h45 := ha38.ge 2 19 rfl
    have hb46 := hb30.new_ hn37
    have hN47 := hN31.transNew hn37
    clear hs23 hd24 h25 h26 h27 h28 h29 hb30 hN31 ha38 hn37
    refine st_nil ?_
    refine hK33 _ _ ?_
    clear hK33 K33
    refine wp_cond_false h45 ?_
    refine wp_skip ?_
    refine hK32 _ _ ?_
    clear hK32 K32
    refine wp_seq_k fun K48 hK48 => ?_
    refine wp_g [true, true, true, true, true, true, false, false] [4] [(6, false), (7, true)] 63
      [ve (.string s),
       ve (.tuple #[nv ((rParseM s).1), .bool ((rParseM s).2)]),
       ve (.tuple #[nv ((rParseM s).1), .bool ((rParseM s).2)]),
       ve (nv ((rParseM s).1)),
       ve (.bool ((rParseM s).2)),
       IsNew w36 23 [iv 0, iv 0],
       vt,
       vt]
      [5] (newsCons (fun v w h => IsNew.old h) newsNil) hs39 (.eq (.eq (.eq (.eq (.eq (.nw (.tt (.tt (.nil))))))))) ?_ ?_ ?_
    · skip
      refine .o1 (tk rfl rfl fun _ w hn k => ⟨_, v_move rfl (k.fx 1 h41), rfl⟩) ?_
      refine .o1 (ck rfl rfl rfl (fun _ w hn k => ⟨#[.string s], args1 (k.eq1 0 22 rfl), fun _ => by kernel_rfl, parseAll_c HL s (by omega) (hN47.transNew hn)⟩) fun _ => rfl) ?_
      refine .o1 (tk rfl rfl fun _ w hn k => ⟨_, v_move rfl (k.eq1 1 23 rfl), rfl⟩) ?_
      refine .o1 (tk rfl rfl fun _ w hn k => ⟨_, v_extract rfl (k.eq1 2 21 rfl) rfl, rfl⟩) ?_
      refine .o3 ?_
      refine .o2 (step_allocN (cs := [iv 0, iv 0]) (t := 23) rfl (noG rfl) (fun _ w hn k => rfl) (fun q _ hq hb => ⟨q, rfl, hq, hb⟩)) ?_
      refine .off ?_
      refine .off ?_
      exact .nil
    · skip
      intro i h
      simp only [List.contains_eq_mem, List.mem_cons, List.not_mem_nil, or_false, decide_eq_true_eq] at h
      subst h
      · exact eager_take rfl rfl fun _ w hn k => ⟨.bool ((rParseM s).2), fun w => v_extract rfl (k.eq1 2 21 rfl) rfl, rfl⟩
    intro a49 w50 hn51 ha52
    have hs53 := ha52.size.trans hs39
    have hd54 := ha52.defers.trans hd40
    have h55 := ha52.fx 1 h41
    have h56 := ha52.fx 2 h42
    have h57 := ha52.fx 3 h43
    have h58 := ha52.fx 6 h44
    have h59 := ha52.ge 3 24 rfl
    have h60 := ha52.ge 4 25 rfl
    obtain ⟨q62, h61, hq63, hb64⟩ : IsNew _ _ _ _ _ := ha52.got 5 7 rfl (by kernel_rfl)
    have hb65 := hb46.new_ hn51
    have hne66 : q11 ≠ q62 := by have h1 := hb46.lt; have h2 := hq63; omega
    have hq67 := Nat.le_trans hN47.size hq63
    have hN68 := hN47.transNew hn51
    clear hs39 hd40 h41 h42 h43 h44 h45 hb46 hq63 hN47 ha52 hn51
    obtain ⟨w69, -, hst70, hb71, hu72, hf73⟩ := s_two (v0 := iv ((rParseM s).1.k)) (v1 := iv ((rParseM s).1.n)) Tryd.sizeOf23 rfl rfl rfl hb64
    refine st_act rfl rfl fun K74 hL75 => a_store' rfl h61 h59 hst70 (hL75 _ _ trivial ?_)
    have hb76 := hf73 _ _ _ (hne66) hb65
    have hN77 := hN68.trans hu72 (fun k hk hkb => by subst hkb; omega)
    clear hb64 hst70 K74 hL75 hN68 hb65 hu72 hf73
    refine st_take rfl rfl (y_assign (v := .bool ((rParseM s).2)) rfl h60) rfl ?_
    obtain ⟨a78, ha79⟩ : ∃ a', a' = a49.put (some 8) (.bool ((rParseM s).2)) := ⟨_, rfl⟩
    have hs80 : a78.tmps.size = 63 := by rw [ha79, put_size]; exact hs53
    have hd81 : a78.defers = [] := by rw [ha79, put_defers]; exact hd54
    have h82 : a78.eval (.tmp 1) = .string s := by rw [ha79, put_ne _ _ _ _ (by decide)]; exact h55
    have h83 : a78.eval (.tmp 2) = iv n := by rw [ha79, put_ne _ _ _ _ (by decide)]; exact h56
    have h84 : a78.eval (.tmp 3) = pv q11 := by rw [ha79, put_ne _ _ _ _ (by decide)]; exact h57
    have h85 : a78.eval (.tmp 6) = .bool false := by rw [ha79, put_ne _ _ _ _ (by decide)]; exact h58
    have h86 : a78.eval (.tmp 24) = nv ((rParseM s).1) := by rw [ha79, put_ne _ _ _ _ (by decide)]; exact h59
    have h87 : a78.eval (.tmp 25) = .bool ((rParseM s).2) := by rw [ha79, put_ne _ _ _ _ (by decide)]; exact h60
    have h88 : a78.eval (.tmp 7) = pv q62 := by rw [ha79, put_ne _ _ _ _ (by decide)]; exact h61
    have h89 : a78.eval (.tmp 8) = .bool ((rParseM s).2) := by rw [ha79]; exact put_same _ _ _ (by rw [hs53]; decide)
    show stepsTo _ _ _ _ _ (a49.put (some 8) (.bool ((rParseM s).2))) _
    rw [← ha79]
    clear ha79 hs53 hd54 h55 h56 h57 h58 h59 h60 h61
    clear hne66
    refine st_nil ?_
    clear h86 h87
    refine hK48 _ _ ?_
    clear hK48 K48
    refine wp_seq_k fun K90 hK90 => ?_
    refine wp_g [true, true, true, true, true, true, false, false] [4] [(6, false), (7, true)] 63
      [ve (.string s),
       ve (.tuple #[nv ((rParseM s).1), .bool ((rParseM s).2)]),
       ve (.tuple #[nv ((rParseM s).1), .bool ((rParseM s).2)]),
       ve (nv ((rParseM s).1)),
       ve (.bool ((rParseM s).2)),
       IsNew w69 23 [iv 0, iv 0],
       vt,
       vt]
      [5] (newsCons (fun v w h => IsNew.old h) newsNil) hs80 (.eq (.eq (.eq (.eq (.eq (.nw (.tt (.tt (.nil))))))))) ?_ ?_ ?_
    · skip
      refine .o1 (tk rfl rfl fun _ w hn k => ⟨_, v_move rfl (k.fx 1 h82), rfl⟩) ?_
      refine .o1 (ck rfl rfl rfl (fun _ w hn k => ⟨#[.string s], args1 (k.eq1 0 27 rfl), fun _ => by kernel_rfl, rparse_c s _⟩) fun _ => rfl) ?_
      refine .o1 (tk rfl rfl fun _ w hn k => ⟨_, v_move rfl (k.eq1 1 28 rfl), rfl⟩) ?_
      refine .o1 (tk rfl rfl fun _ w hn k => ⟨_, v_extract rfl (k.eq1 2 26 rfl) rfl, rfl⟩) ?_
      refine .o3 ?_
      refine .o2 (step_allocN (cs := [iv 0, iv 0]) (t := 23) rfl (noG rfl) (fun _ w hn k => rfl) (fun q _ hq hb => ⟨q, rfl, hq, hb⟩)) ?_
      refine .off ?_
      refine .off ?_
      exact .nil
    · skip
      intro i h
      simp only [List.contains_eq_mem, List.mem_cons, List.not_mem_nil, or_false, decide_eq_true_eq] at h
      subst h
      · exact eager_take rfl rfl fun _ w hn k => ⟨.bool ((rParseM s).2), fun w => v_extract rfl (k.eq1 2 26 rfl) rfl, rfl⟩
    intro a91 w92 hn93 ha94
    have hs95 := ha94.size.trans hs80
    have hd96 := ha94.defers.trans hd81
    have h97 := ha94.fx 2 h83
    have h98 := ha94.fx 3 h84
    have h99 := ha94.fx 6 h85
    have h100 := ha94.fx 7 h88
    have h101 := ha94.fx 8 h89
    have h102 := ha94.ge 3 29 rfl
    have h103 := ha94.ge 4 30 rfl
    obtain ⟨q105, h104, hq106, hb107⟩ : IsNew _ _ _ _ _ := ha94.got 5 9 rfl (by kernel_rfl)
    have hb108 := hb76.new_ hn93
    have hb109 := hb71.new_ hn93
    have hne110 : q11 ≠ q105 := by have h1 := hb76.lt; have h2 := hq106; omega
    have hne111 : q62 ≠ q105 := by have h1 := hb71.lt; have h2 := hq106; omega
    have hq112 := Nat.le_trans hN77.size hq106
    have hN113 := hN77.transNew hn93
    clear hs80 hd81 h82 h83 h84 h85 h88 h89 hb76 hb71 hq106 hN77 ha94 hn93
    obtain ⟨w114, -, hst115, hb116, hu117, hf118⟩ := s_two (v0 := iv ((rParseM s).1.k)) (v1 := iv ((rParseM s).1.n)) Tryd.sizeOf23 rfl rfl rfl hb107
    refine st_act rfl rfl fun K119 hL120 => a_store' rfl h104 h102 hst115 (hL120 _ _ trivial ?_)
    have hb121 := hf118 _ _ _ (hne110) hb108
    have hb122 := hf118 _ _ _ (hne111) hb109
    have hN123 := hN113.trans hu117 (fun k hk hkb => by subst hkb; omega)
    clear hb107 hst115 K119 hL120 hN113 hb108 hb109 hu117 hf118
    refine st_take rfl rfl (y_assign (v := .bool ((rParseM s).2)) rfl h103) rfl ?_
    obtain ⟨a124, ha125⟩ : ∃ a', a' = a91.put (some 10) (.bool ((rParseM s).2)) := ⟨_, rfl⟩
    have hs126 : a124.tmps.size = 63 := by rw [ha125, put_size]; exact hs95
    have hd127 : a124.defers = [] := by rw [ha125, put_defers]; exact hd96
    have h128 : a124.eval (.tmp 2) = iv n := by rw [ha125, put_ne _ _ _ _ (by decide)]; exact h97
    have h129 : a124.eval (.tmp 3) = pv q11 := by rw [ha125, put_ne _ _ _ _ (by decide)]; exact h98
    have h130 : a124.eval (.tmp 6) = .bool false := by rw [ha125, put_ne _ _ _ _ (by decide)]; exact h99
    have h131 : a124.eval (.tmp 7) = pv q62 := by rw [ha125, put_ne _ _ _ _ (by decide)]; exact h100
    have h132 : a124.eval (.tmp 8) = .bool ((rParseM s).2) := by rw [ha125, put_ne _ _ _ _ (by decide)]; exact h101
    have h133 : a124.eval (.tmp 29) = nv ((rParseM s).1) := by rw [ha125, put_ne _ _ _ _ (by decide)]; exact h102
    have h134 : a124.eval (.tmp 30) = .bool ((rParseM s).2) := by rw [ha125, put_ne _ _ _ _ (by decide)]; exact h103
    have h135 : a124.eval (.tmp 9) = pv q105 := by rw [ha125, put_ne _ _ _ _ (by decide)]; exact h104
    have h136 : a124.eval (.tmp 10) = .bool ((rParseM s).2) := by rw [ha125]; exact put_same _ _ _ (by rw [hs95]; decide)
    show stepsTo _ _ _ _ _ (a91.put (some 10) (.bool ((rParseM s).2))) _
    rw [← ha125]
    clear ha125 hs95 hd96 h97 h98 h99 h100 h101 h102 h103 h104
    clear hne110
    clear hne111
    refine st_nil ?_
    clear h133 h134
    refine hK90 _ _ ?_
    clear hK90 K90
    refine wp_seq_k fun K137 hK137 => ?_
    refine wp_g [true, true, true, true, true, true, false, false] [4] [(6, false), (7, true)] 63
      [ve (iv n),
       ve (.tuple #[nv ((ofM n).1), .bool ((ofM n).2)]),
       ve (.tuple #[nv ((ofM n).1), .bool ((ofM n).2)]),
       ve (nv ((ofM n).1)),
       ve (.bool ((ofM n).2)),
       IsNew w114 23 [iv 0, iv 0],
       vt,
       vt]
      [5] (newsCons (fun v w h => IsNew.old h) newsNil) hs126 (.eq (.eq (.eq (.eq (.eq (.nw (.tt (.tt (.nil))))))))) ?_ ?_ ?_
    · skip
      refine .o1 (tk rfl rfl fun _ w hn k => ⟨_, v_move rfl (k.fx 2 h128), rfl⟩) ?_
      refine .o1 (ck rfl rfl rfl (fun _ w hn k => ⟨#[iv n], args1 (k.eq1 0 32 rfl), fun _ => by kernel_rfl, of_c n _⟩) fun _ => rfl) ?_
      refine .o1 (tk rfl rfl fun _ w hn k => ⟨_, v_move rfl (k.eq1 1 33 rfl), rfl⟩) ?_
      refine .o1 (tk rfl rfl fun _ w hn k => ⟨_, v_extract rfl (k.eq1 2 31 rfl) rfl, rfl⟩) ?_
      refine .o3 ?_
      refine .o2 (step_allocN (cs := [iv 0, iv 0]) (t := 23) rfl (noG rfl) (fun _ w hn k => rfl) (fun q _ hq hb => ⟨q, rfl, hq, hb⟩)) ?_
      refine .off ?_
      refine .off ?_
      exact .nil
    · skip
      intro i h
      simp only [List.contains_eq_mem, List.mem_cons, List.not_mem_nil, or_false, decide_eq_true_eq] at h
      subst h
      · exact eager_take rfl rfl fun _ w hn k => ⟨.bool ((ofM n).2), fun w => v_extract rfl (k.eq1 2 31 rfl) rfl, rfl⟩
    intro a138 w139 hn140 ha141
    have hs142 := ha141.size.trans hs126
    have hd143 := ha141.defers.trans hd127
    have h144 := ha141.fx 2 h128
    have h145 := ha141.fx 3 h129
    have h146 := ha141.fx 6 h130
    have h147 := ha141.fx 7 h131
    have h148 := ha141.fx 8 h132
    have h149 := ha141.fx 9 h135
    have h150 := ha141.fx 10 h136
    have h151 := ha141.ge 3 34 rfl
    have h152 := ha141.ge 4 35 rfl
    obtain ⟨q154, h153, hq155, hb156⟩ : IsNew _ _ _ _ _ := ha141.got 5 11 rfl (by kernel_rfl)
    have hb157 := hb121.new_ hn140
    have hb158 := hb122.new_ hn140
    have hb159 := hb116.new_ hn140
    have hne160 : q11 ≠ q154 := by have h1 := hb121.lt; have h2 := hq155; omega
    have hne161 : q62 ≠ q154 := by have h1 := hb122.lt; have h2 := hq155; omega
    have hne162 : q105 ≠ q154 := by have h1 := hb116.lt; have h2 := hq155; omega
    have hq163 := Nat.le_trans hN123.size hq155
    have hN164 := hN123.transNew hn140
    clear hs126 hd127 h128 h129 h130 h131 h132 h135 h136 hb121 hb122 hb116 hq155 hN123 ha141 hn140
    obtain ⟨w165, -, hst166, hb167, hu168, hf169⟩ := s_two (v0 := iv ((ofM n).1.k)) (v1 := iv ((ofM n).1.n)) Tryd.sizeOf23 rfl rfl rfl hb156
    refine st_act rfl rfl fun K170 hL171 => a_store' rfl h153 h151 hst166 (hL171 _ _ trivial ?_)
    have hb172 := hf169 _ _ _ (hne160) hb157
    have hb173 := hf169 _ _ _ (hne161) hb158
    have hb174 := hf169 _ _ _ (hne162) hb159
    have hN175 := hN164.trans hu168 (fun k hk hkb => by subst hkb; omega)
    clear hb156 hst166 K170 hL171 hN164 hb157 hb158 hb159 hu168 hf169
    refine st_take rfl rfl (y_assign (v := .bool ((ofM n).2)) rfl h152) rfl ?_
    obtain ⟨a176, ha177⟩ : ∃ a', a' = a138.put (some 12) (.bool ((ofM n).2)) := ⟨_, rfl⟩
    have hs178 : a176.tmps.size = 63 := by rw [ha177, put_size]; exact hs142
    have hd179 : a176.defers = [] := by rw [ha177, put_defers]; exact hd143
    have h180 : a176.eval (.tmp 2) = iv n := by rw [ha177, put_ne _ _ _ _ (by decide)]; exact h144
    have h181 : a176.eval (.tmp 3) = pv q11 := by rw [ha177, put_ne _ _ _ _ (by decide)]; exact h145
    have h182 : a176.eval (.tmp 6) = .bool false := by rw [ha177, put_ne _ _ _ _ (by decide)]; exact h146
    have h183 : a176.eval (.tmp 7) = pv q62 := by rw [ha177, put_ne _ _ _ _ (by decide)]; exact h147
    have h184 : a176.eval (.tmp 8) = .bool ((rParseM s).2) := by rw [ha177, put_ne _ _ _ _ (by decide)]; exact h148
    have h185 : a176.eval (.tmp 9) = pv q105 := by rw [ha177, put_ne _ _ _ _ (by decide)]; exact h149
    have h186 : a176.eval (.tmp 10) = .bool ((rParseM s).2) := by rw [ha177, put_ne _ _ _ _ (by decide)]; exact h150
    have h187 : a176.eval (.tmp 34) = nv ((ofM n).1) := by rw [ha177, put_ne _ _ _ _ (by decide)]; exact h151
    have h188 : a176.eval (.tmp 35) = .bool ((ofM n).2) := by rw [ha177, put_ne _ _ _ _ (by decide)]; exact h152
    have h189 : a176.eval (.tmp 11) = pv q154 := by rw [ha177, put_ne _ _ _ _ (by decide)]; exact h153
    have h190 : a176.eval (.tmp 12) = .bool ((ofM n).2) := by rw [ha177]; exact put_same _ _ _ (by rw [hs142]; decide)
    show stepsTo _ _ _ _ _ (a138.put (some 12) (.bool ((ofM n).2))) _
    rw [← ha177]
    clear ha177 hs142 hd143 h144 h145 h146 h147 h148 h149 h150 h151 h152 h153
    clear hne160
    clear hne161
    clear hne162
    refine st_nil ?_
    clear h187 h188
    refine hK137 _ _ ?_
    clear hK137 K137
    refine wp_seq_k fun K191 hK191 => ?_
    refine wp_g [true, true, true, true, true, true, false, false] [4] [(6, false), (7, true)] 63
      [ve (iv n),
       ve (.tuple #[nv ((ofM n).1), .bool ((ofM n).2)]),
       ve (.tuple #[nv ((ofM n).1), .bool ((ofM n).2)]),
       ve (nv ((ofM n).1)),
       ve (.bool ((ofM n).2)),
       IsNew w165 23 [iv 0, iv 0],
       vt,
       vt]
      [5] (newsCons (fun v w h => IsNew.old h) newsNil) hs178 (.eq (.eq (.eq (.eq (.eq (.nw (.tt (.tt (.nil))))))))) ?_ ?_ ?_
    · skip
      refine .o1 (tk rfl rfl fun _ w hn k => ⟨_, v_move rfl (k.fx 2 h180), rfl⟩) ?_
      refine .o1 (ck rfl rfl rfl (fun _ w hn k => ⟨#[iv n], args1 (k.eq1 0 37 rfl), fun _ => by kernel_rfl, rof_c n _⟩) fun _ => rfl) ?_
      refine .o1 (tk rfl rfl fun _ w hn k => ⟨_, v_move rfl (k.eq1 1 38 rfl), rfl⟩) ?_
      refine .o1 (tk rfl rfl fun _ w hn k => ⟨_, v_extract rfl (k.eq1 2 36 rfl) rfl, rfl⟩) ?_
      refine .o3 ?_
      refine .o2 (step_allocN (cs := [iv 0, iv 0]) (t := 23) rfl (noG rfl) (fun _ w hn k => rfl) (fun q _ hq hb => ⟨q, rfl, hq, hb⟩)) ?_
      refine .off ?_
      refine .off ?_
      exact .nil
    · skip
      intro i h
      simp only [List.contains_eq_mem, List.mem_cons, List.not_mem_nil, or_false, decide_eq_true_eq] at h
      subst h
      · exact eager_take rfl rfl fun _ w hn k => ⟨.bool ((ofM n).2), fun w => v_extract rfl (k.eq1 2 36 rfl) rfl, rfl⟩
    intro a192 w193 hn194 ha195
    have hs196 := ha195.size.trans hs178
    have hd197 := ha195.defers.trans hd179
    have h198 := ha195.fx 3 h181
    have h199 := ha195.fx 6 h182
    have h200 := ha195.fx 7 h183
    have h201 := ha195.fx 8 h184
    have h202 := ha195.fx 9 h185
    have h203 := ha195.fx 10 h186
    have h204 := ha195.fx 11 h189
    have h205 := ha195.fx 12 h190
    have h206 := ha195.ge 3 39 rfl
    have h207 := ha195.ge 4 40 rfl
    obtain ⟨q209, h208, hq210, hb211⟩ : IsNew _ _ _ _ _ := ha195.got 5 13 rfl (by kernel_rfl)
    have hb212 := hb172.new_ hn194
    have hb213 := hb173.new_ hn194
    have hb214 := hb174.new_ hn194
    have hb215 := hb167.new_ hn194
    have hne216 : q11 ≠ q209 := by have h1 := hb172.lt; have h2 := hq210; omega
    have hne217 : q62 ≠ q209 := by have h1 := hb173.lt; have h2 := hq210; omega
    have hne218 : q105 ≠ q209 := by have h1 := hb174.lt; have h2 := hq210; omega
    have hne219 : q154 ≠ q209 := by have h1 := hb167.lt; have h2 := hq210; omega
    have hq220 := Nat.le_trans hN175.size hq210
    have hN221 := hN175.transNew hn194
    clear hs178 hd179 h180 h181 h182 h183 h184 h185 h186 h189 h190 hb172 hb173 hb174 hb167 hq210 hN175 ha195 hn194
    obtain ⟨w222, -, hst223, hb224, hu225, hf226⟩ := s_two (v0 := iv ((ofM n).1.k)) (v1 := iv ((ofM n).1.n)) Tryd.sizeOf23 rfl rfl rfl hb211
    refine st_act rfl rfl fun K227 hL228 => a_store' rfl h208 h206 hst223 (hL228 _ _ trivial ?_)
    have hb229 := hf226 _ _ _ (hne216) hb212
    have hb230 := hf226 _ _ _ (hne217) hb213
    have hb231 := hf226 _ _ _ (hne218) hb214
    have hb232 := hf226 _ _ _ (hne219) hb215
    have hN233 := hN221.trans hu225 (fun k hk hkb => by subst hkb; omega)
    clear hb211 hst223 K227 hL228 hN221 hb212 hb213 hb214 hb215 hu225 hf226
    refine st_take rfl rfl (y_assign (v := .bool ((ofM n).2)) rfl h207) rfl ?_
    obtain ⟨a234, ha235⟩ : ∃ a', a' = a192.put (some 14) (.bool ((ofM n).2)) := ⟨_, rfl⟩
    have hs236 : a234.tmps.size = 63 := by rw [ha235, put_size]; exact hs196
    have hd237 : a234.defers = [] := by rw [ha235, put_defers]; exact hd197
    have h238 : a234.eval (.tmp 3) = pv q11 := by rw [ha235, put_ne _ _ _ _ (by decide)]; exact h198
    have h239 : a234.eval (.tmp 6) = .bool false := by rw [ha235, put_ne _ _ _ _ (by decide)]; exact h199
    have h240 : a234.eval (.tmp 7) = pv q62 := by rw [ha235, put_ne _ _ _ _ (by decide)]; exact h200
    have h241 : a234.eval (.tmp 8) = .bool ((rParseM s).2) := by rw [ha235, put_ne _ _ _ _ (by decide)]; exact h201
    have h242 : a234.eval (.tmp 9) = pv q105 := by rw [ha235, put_ne _ _ _ _ (by decide)]; exact h202
    have h243 : a234.eval (.tmp 10) = .bool ((rParseM s).2) := by rw [ha235, put_ne _ _ _ _ (by decide)]; exact h203
    have h244 : a234.eval (.tmp 11) = pv q154 := by rw [ha235, put_ne _ _ _ _ (by decide)]; exact h204
    have h245 : a234.eval (.tmp 12) = .bool ((ofM n).2) := by rw [ha235, put_ne _ _ _ _ (by decide)]; exact h205
    have h246 : a234.eval (.tmp 39) = nv ((ofM n).1) := by rw [ha235, put_ne _ _ _ _ (by decide)]; exact h206
    have h247 : a234.eval (.tmp 40) = .bool ((ofM n).2) := by rw [ha235, put_ne _ _ _ _ (by decide)]; exact h207
    have h248 : a234.eval (.tmp 13) = pv q209 := by rw [ha235, put_ne _ _ _ _ (by decide)]; exact h208
    have h249 : a234.eval (.tmp 14) = .bool ((ofM n).2) := by rw [ha235]; exact put_same _ _ _ (by rw [hs196]; decide)
    show stepsTo _ _ _ _ _ (a192.put (some 14) (.bool ((ofM n).2))) _
    rw [← ha235]
    clear ha235 hs196 hd197 h198 h199 h200 h201 h202 h203 h204 h205 h206 h207 h208
    clear hne216
    clear hne217
    clear hne218
    clear hne219
    refine st_nil ?_
    clear h246 h247
    refine hK191 _ _ ?_
    clear hK191 K191
    refine wp_seq_k fun K250 hK250 => ?_
    have ht251 : (strEq (textM a) (textM a)) = true := strEq_refl _
    have ht252 : (eqN ((rParseM s).1) ((rParseM s).1) && ((rParseM s).2) == ((rParseM s).2)) = true := is_same _ _
    refine wp_g0 [true, true, true, true, true, true, true, true, true, true, true, true, true, true, true, true, true, true, true, true, true, true, true] [] 63
      [ve (.bool true),
       ve (.bool true),
       ve (nv a),
       ve (.string (textM a)),
       ve (nv a),
       ve (.string (textM a)),
       ve (.bool true),
       ve (.bool true),
       ve (.bool true),
       ve (nv ((rParseM s).1)),
       ve (.bool ((rParseM s).2)),
       ve (nv ((rParseM s).1)),
       ve (.bool ((rParseM s).2)),
       ve (.bool true),
       ve (.bool true),
       ve (.bool true),
       ve (nv ((ofM n).1)),
       ve (.bool ((ofM n).2)),
       ve (nv ((ofM n).1)),
       ve (.bool ((ofM n).2)),
       ve (.bool (eqN ((ofM n).1) ((ofM n).1) && ((ofM n).2) == ((ofM n).2))),
       ve (.bool (eqN ((ofM n).1) ((ofM n).1) && ((ofM n).2) == ((ofM n).2))),
       ve (.bool (eqN ((ofM n).1) ((ofM n).1) && ((ofM n).2) == ((ofM n).2)))] hs236 (.eq (.eq (.eq (.eq (.eq (.eq (.eq (.eq (.eq (.eq (.eq (.eq (.eq (.eq (.eq (.eq (.eq (.eq (.eq (.eq (.eq (.eq (.eq (.nil)))))))))))))))))))))))) ?_ ?_
    · skip
      refine .o1 (ck rfl rfl rfl (fun _ w hn k => ⟨#[], rfl, fun _ => by kernel_rfl, first_c  _⟩) fun _ => rfl) ?_
      refine .o1 (tk rfl rfl fun _ w hn k => ⟨_, v_move rfl (k.eq1 0 41 rfl), rfl⟩) ?_
      refine .o1 (tg rfl rfl rfl (fun _ _ k => k.eq1 1 42 rfl) fun _ w hn k => ⟨_, v_load rfl (k.fx 3 h238) (l_two Tryd.isAgg23 Tryd.sizeOf23 (hb229.new_ hn)), rfl⟩) ?_
      refine .o1 (cg rfl rfl rfl (fun _ _ k => k.eq1 1 42 rfl) rfl (fun _ w hn k => ⟨#[nv a], args1 (k.eq1 2 43 rfl), fun _ => by kernel_rfl, textW_c (itoaOk HL.1) a (hN233.transNew hn)⟩) fun _ => rfl) ?_
      refine .o1 (tg rfl rfl rfl (fun _ _ k => k.eq1 1 42 rfl) fun _ w hn k => ⟨_, v_load rfl (k.fx 3 h238) (l_two Tryd.isAgg23 Tryd.sizeOf23 (hb229.new_ hn)), rfl⟩) ?_
      refine .o1 (cg rfl rfl rfl (fun _ _ k => k.eq1 1 42 rfl) rfl (fun _ w hn k => ⟨#[nv a], args1 (k.eq1 4 45 rfl), fun _ => by kernel_rfl, rtext_c a _⟩) fun _ => rfl) ?_
      refine .o1 (tg rfl rfl rfl (fun _ _ k => k.eq1 1 42 rfl) fun _ w hn k => ⟨_, v_bin rfl (k.eq1 3 44 rfl) (k.eq1 5 46 rfl) (fun _ => rfl) (r_eqlS ht251), rfl⟩) ?_
      refine .o1 (tk rfl rfl fun _ w hn k => ⟨_, v_pickT rfl (k.eq1 1 42 rfl) (k.eq1 6 47 rfl), rfl⟩) ?_
      refine .o1 (tk rfl rfl fun _ w hn k => ⟨_, v_move rfl (k.eq1 7 48 rfl), rfl⟩) ?_
      refine .o1 (tg rfl rfl rfl (fun _ _ k => k.eq1 8 49 rfl) fun _ w hn k => ⟨_, v_load rfl (k.fx 7 h240) (l_two Tryd.isAgg23 Tryd.sizeOf23 (hb230.new_ hn)), rfl⟩) ?_
      refine .o1 (tg rfl rfl rfl (fun _ _ k => k.eq1 8 49 rfl) fun _ w hn k => ⟨_, v_move rfl (k.fx 8 h241), rfl⟩) ?_
      refine .o1 (tg rfl rfl rfl (fun _ _ k => k.eq1 8 49 rfl) fun _ w hn k => ⟨_, v_load rfl (k.fx 9 h242) (l_two Tryd.isAgg23 Tryd.sizeOf23 (hb231.new_ hn)), rfl⟩) ?_
      refine .o1 (tg rfl rfl rfl (fun _ _ k => k.eq1 8 49 rfl) fun _ w hn k => ⟨_, v_move rfl (k.fx 10 h243), rfl⟩) ?_
      refine .o1 (cg rfl rfl rfl (fun _ _ k => k.eq1 8 49 rfl) rfl (fun _ w hn k => ⟨#[nv ((rParseM s).1), .bool ((rParseM s).2), nv ((rParseM s).1), .bool ((rParseM s).2)], args4 (k.eq1 9 50 rfl) (k.eq1 10 51 rfl) (k.eq1 11 52 rfl) (k.eq1 12 53 rfl), fun _ => by kernel_rfl, is_c ((rParseM s).1) ((rParseM s).2) ((rParseM s).1) ((rParseM s).2) _⟩) fun _ => congrArg Value.bool ht252) ?_
      refine .o1 (tk rfl rfl fun _ w hn k => ⟨_, v_pickT rfl (k.eq1 8 49 rfl) (k.eq1 13 54 rfl), rfl⟩) ?_
      refine .o1 (tk rfl rfl fun _ w hn k => ⟨_, v_move rfl (k.eq1 14 55 rfl), rfl⟩) ?_
      refine .o1 (tg rfl rfl rfl (fun _ _ k => k.eq1 15 56 rfl) fun _ w hn k => ⟨_, v_load rfl (k.fx 11 h244) (l_two Tryd.isAgg23 Tryd.sizeOf23 (hb232.new_ hn)), rfl⟩) ?_
      refine .o1 (tg rfl rfl rfl (fun _ _ k => k.eq1 15 56 rfl) fun _ w hn k => ⟨_, v_move rfl (k.fx 12 h245), rfl⟩) ?_
      refine .o1 (tg rfl rfl rfl (fun _ _ k => k.eq1 15 56 rfl) fun _ w hn k => ⟨_, v_load rfl (k.fx 13 h248) (l_two Tryd.isAgg23 Tryd.sizeOf23 (hb224.new_ hn)), rfl⟩) ?_
      refine .o1 (tg rfl rfl rfl (fun _ _ k => k.eq1 15 56 rfl) fun _ w hn k => ⟨_, v_move rfl (k.fx 14 h249), rfl⟩) ?_
      refine .o1 (cg rfl rfl rfl (fun _ _ k => k.eq1 15 56 rfl) rfl (fun _ w hn k => ⟨#[nv ((ofM n).1), .bool ((ofM n).2), nv ((ofM n).1), .bool ((ofM n).2)], args4 (k.eq1 16 57 rfl) (k.eq1 17 58 rfl) (k.eq1 18 59 rfl) (k.eq1 19 60 rfl), fun _ => by kernel_rfl, is_c ((ofM n).1) ((ofM n).2) ((ofM n).1) ((ofM n).2) _⟩) fun _ => rfl) ?_
      refine .o1 (tk rfl rfl fun _ w hn k => ⟨_, v_pickT rfl (k.eq1 15 56 rfl) (k.eq1 20 61 rfl), rfl⟩) ?_
      refine .o1 (tk rfl rfl fun _ w hn k => ⟨_, v_assign rfl (k.eq1 21 62 rfl), rfl⟩) ?_
      exact .nil
    intro a253 w254 hn255 ha256
    have hs257 := ha256.size.trans hs236
    have hd258 := ha256.defers.trans hd237
    have h259 := ha256.ge 22 6 rfl
    have hN260 := hN233.transNew hn255
    clear hs236 hd237 h238 h239 h240 h241 h242 h243 h244 h245 h248 h249 hb229 hq15 hb230 hq67 hb231 hq112 hb232 hq163 hb224 hq220 hN233 ha256 hn255
    refine st_nil ?_
    refine hK250 _ _ ?_
    clear hK250 K250
    refine wp_ret (ret_k hd258 (v := .bool (eqN ((ofM n).1) ((ofM n).1) && ((ofM n).2) == ((ofM n).2))) (res_t rfl h259 _) ?_)
    exact ⟨congrArg (fun b => Ending.returned (.bool b)) (is_same _ _), hN260⟩
  have ht34d := of_decide_eq_false ht34
  refine wp_g0 [true, true, true] [] 63
    [ve (.string s),
     ve (iv (s.size : Int)),
     ve (.bool true)] hs23 (.eq (.eq (.eq (.nil)))) ?_ ?_
  · skip
    refine .o1 (tk rfl rfl fun _ w hn k => ⟨_, v_move rfl (k.fx 1 h25), rfl⟩) ?_
    refine .o1 (tk rfl rfl fun _ w hn k => ⟨_, v_lens rfl (k.eq1 0 17 rfl) (by kernel_rfl), rfl⟩) ?_
    refine .o1 (tk rfl rfl fun _ w hn k => ⟨_, v_bin rfl (k.eq1 1 18 rfl) rfl (fun _ => rfl) (r_gtrK ht34), rfl⟩) ?_
    exact .nil
  intro a261 w262 hn263 ha264
  have hs265 := ha264.size.trans hs23
  have hd266 := ha264.defers.trans hd24
  have h267 := ha264.fx 1 h25
  have h268 := ha264.fx 2 h26
  have h269 := ha264.fx 3 h27
  have h270 := ha264.fx 6 h28
  have h271 := ha264.ge 2 19 rfl
  have hb272 := hb30.new_ hn263
  have hN273 := hN31.transNew hn263
  clear hs23 hd24 h25 h26 h27 h28 h29 hb30 hN31 ha264 hn263
  refine st_nil ?_
  refine hK33 _ _ ?_
  clear hK33 K33
  refine wp_cond_true h271 ?_
  refine wp_seq_k fun K274 hK274 => ?_
  refine wp_g0 [true, true] [] 63
    [ve (.bool true),
     ve (.bool true)] hs265 (.eq (.eq (.nil))) ?_ ?_
  · skip
    refine .o1 (ck rfl rfl rfl (fun _ w hn k => ⟨#[], rfl, fun _ => by kernel_rfl, first_c  _⟩) fun _ => rfl) ?_
    refine .o1 (tk rfl rfl fun _ w hn k => ⟨_, v_assign rfl (k.eq1 0 20 rfl), rfl⟩) ?_
    exact .nil
  intro a275 w276 hn277 ha278
  have hs279 := ha278.size.trans hs265
  have hd280 := ha278.defers.trans hd266
  have h281 := ha278.fx 1 h267
  have h282 := ha278.fx 2 h268
  have h283 := ha278.fx 3 h269
  have h284 := ha278.ge 1 6 rfl
  have hb285 := hb272.new_ hn277
  have hN286 := hN273.transNew hn277
  clear hs265 hd266 h267 h268 h269 h270 h271 hb272 hN273 ha278 hn277
  refine st_nil ?_
  refine hK274 _ _ ?_
  clear hK274 K274
  refine wp_ret (ret_k hd280 (v := .bool true) (res_t rfl h284 _) ?_)
  exact ⟨rfl, hN286⟩
end Go.Proofs.YtldakajmhfdfgaaDoor
