/- Package renref2: Parse. -/
import Derived.Test.YtfhflpchfgkgcaaRefPp
namespace Go.Proofs.Ytfhflpchfgkgcaa
open Go.RowKit
set_option linter.unusedSimpArgs false
set_option linter.unusedVariables false
set_option maxHeartbeats 16000000 in
set_option maxRecDepth 100000 in
theorem rparse_p (s : ByteArray) (w : World) (hs : s.size ≤ 100000) (h0 : s.size ≠ 0) (hm : bAt s 0 ≠ 45) : Calls Try.prog 17 #[.string s] w (RetZE (parseZ s.data.toList).1 (parseZ s.data.toList).2 w) := by
  refine enter_abs Try.func17 rfl fun a0 hs0 hd0 hp => ?_
  have hs0 : a0.tmps.size = 78 := hs0
  have hN0 : New w w := Upd.refl _ _
  have hp0 : a0.eval (.tmp 0) = .string s := hp 0 _ rfl
  clear hp
  refine wp_seq_k fun K1 hK1 => ?_
  refine wp_g [true, true] [] [] 78
    [IsNew w 24 [.bool false, sv none ([]) 0],
     ve (iv 0)]
    [0] (newsCons (fun v w h => IsNew.old h) newsNil) hs0 (.nw (.eq (.nil))) ?_ (fun i h => by cases h) ?_
  · skip
    refine .o2 (step_allocN (cs := [.bool false, sv none ([]) 0]) (t := 24) rfl (noG rfl) (fun _ w hn k => rfl) (fun q _ hq hb => ⟨q, rfl, hq, hb⟩)) ?_
    refine .o1 (tk rfl rfl fun _ w hn k => ⟨_, v_assign rfl rfl, rfl⟩) ?_
    exact .nil
  intro a2 w3 hn4 ha5
  have hs6 := ha5.size.trans hs0
  have hd7 := ha5.defers.trans hd0
  have h8 := ha5.fx 0 hp0
  obtain ⟨q10, h9, hq11, hb12⟩ : IsNew _ _ _ _ _ := ha5.got 0 2 rfl (by kernel_rfl)
  have hq13 := Nat.le_trans hN0.size hq11
  have hN14 := hN0.transNew hn4
  clear hs0 hd0 hp0 hq11 hN0 ha5 hn4
  refine st_nil ?_
  refine hK1 _ _ ?_
  clear hK1 K1
  refine wp_seq_k fun K15 hK15 => ?_
  have ht16 : (decide ((s.size : Int) ≤ 0)) = false := decide_eq_false (by omega)
  have ht16d := of_decide_eq_false ht16
  refine wp_g0 [true, true, true, true, true, true, true, true, true] [] 78
    [ve (.string s),
     ve (iv (s.size : Int)),
     ve (.bool true),
     ve (.bool true),
     ve (.string s),
     ve (.int .u8 ((bAt s 0 : Nat) : Int)),
     ve (.bool (decide (((bAt s 0 : Nat) : Int) = 45))),
     ve (.bool (decide (((bAt s 0 : Nat) : Int) = 45))),
     ve (.bool (decide (((bAt s 0 : Nat) : Int) = 45)))] hs6 (.eq (.eq (.eq (.eq (.eq (.eq (.eq (.eq (.eq (.nil)))))))))) ?_ ?_
  · skip
    refine .o1 (tk rfl rfl fun _ w hn k => ⟨_, v_move rfl (k.fx 0 h8), rfl⟩) ?_
    refine .o1 (tk rfl rfl fun _ w hn k => ⟨_, v_lenS rfl (k.eq1 0 9 rfl) (by kernel_rfl), rfl⟩) ?_
    refine .o1 (tk rfl rfl fun _ w hn k => ⟨_, v_bin rfl (k.eq1 1 10 rfl) rfl (fun _ => rfl) (r_gtrK ht16), rfl⟩) ?_
    refine .o1 (tk rfl rfl fun _ w hn k => ⟨_, v_move rfl (k.eq1 2 11 rfl), rfl⟩) ?_
    refine .o1 (tg rfl rfl rfl (fun _ _ k => k.eq1 3 12 rfl) fun _ w hn k => ⟨_, v_move rfl (k.fx 0 h8), rfl⟩) ?_
    refine .o1 (tg rfl rfl rfl (fun _ _ k => k.eq1 3 12 rfl) fun _ w hn k => ⟨_, v_idxN rfl (k.eq1 4 13 rfl) rfl (by kernel_rfl) (by omega), rfl⟩) ?_
    refine .o1 (tg rfl rfl rfl (fun _ _ k => k.eq1 3 12 rfl) fun _ w hn k => ⟨_, v_bin rfl (k.eq1 5 14 rfl) rfl (fun _ => rfl) (r_eql rfl), rfl⟩) ?_
    refine .o1 (tk rfl rfl fun _ w hn k => ⟨_, v_pickT rfl (k.eq1 3 12 rfl) (k.eq1 6 15 rfl), rfl⟩) ?_
    refine .o1 (tk rfl rfl fun _ w hn k => ⟨_, v_assign rfl (k.eq1 7 16 rfl), rfl⟩) ?_
    exact .nil
  intro a17 w18 hn19 ha20
  have hs21 := ha20.size.trans hs6
  have hd22 := ha20.defers.trans hd7
  have h23 := ha20.fx 0 h8
  have h24 := ha20.fx 2 h9
  have h25 := ha20.ge 8 4 rfl
  have hb26 := hb12.new_ hn19
  have hN27 := hN14.transNew hn19
  clear hs6 hd7 h8 h9 hb12 hN14 ha20 hn19
  refine st_nil ?_
  refine hK15 _ _ ?_
  clear hK15 K15
  refine wp_seq_k fun K28 hK28 => ?_
  refine wp_g0 [true, true] [] 78
    [ve (.string s),
     ve (.string s)] hs21 (.eq (.eq (.nil))) ?_ ?_
  · skip
    refine .o1 (tk rfl rfl fun _ w hn k => ⟨_, v_move rfl (k.fx 0 h23), rfl⟩) ?_
    refine .o1 (tk rfl rfl fun _ w hn k => ⟨_, v_assign rfl (k.eq1 0 17 rfl), rfl⟩) ?_
    exact .nil
  intro a29 w30 hn31 ha32
  have hs33 := ha32.size.trans hs21
  have hd34 := ha32.defers.trans hd22
  have h35 := ha32.fx 0 h23
  have h36 := ha32.fx 2 h24
  have h37 := ha32.fx 4 h25
  have h38 := ha32.ge 1 5 rfl
  have hb39 := hb26.new_ hn31
  have hN40 := hN27.transNew hn31
  clear hs21 hd22 h23 h24 h25 hb26 hN27 ha32 hn31
  refine st_nil ?_
  refine hK28 _ _ ?_
  clear hK28 K28
  refine wp_seq_k fun K41 hK41 => ?_
  refine wp_seq_k fun K42 hK42 => ?_
  refine wp_g0 [true] [] 78
    [ve (.bool (decide (((bAt s 0 : Nat) : Int) = 45)))] hs33 (.eq (.nil)) ?_ ?_
  · skip
    refine .o1 (tk rfl rfl fun _ w hn k => ⟨_, v_move rfl (k.fx 4 h37), rfl⟩) ?_
    exact .nil
  intro a43 w44 hn45 ha46
  have hs47 := ha46.size.trans hs33
  have hd48 := ha46.defers.trans hd34
  have h49 := ha46.fx 0 h35
  have h50 := ha46.fx 2 h36
  have h51 := ha46.fx 4 h37
  have h52 := ha46.fx 5 h38
  have h53 := ha46.ge 0 18 rfl
  have hb54 := hb39.new_ hn45
  have hN55 := hN40.transNew hn45
  clear hs33 hd34 h35 h36 h37 h38 hb39 hN40 ha46 hn45
  refine st_nil ?_
  refine hK42 _ _ ?_
  clear hK42 K42
  have ht56 : (decide (((bAt s 0 : Nat) : Int) = 45)) = false := decide_eq_false (by omega)
  have ht56d := of_decide_eq_false ht56
  have hv57 : a43.eval (.tmp 4) = .bool false := h51.trans (congrArg Value.bool ht56)
  clear h51
  have hv58 : a43.eval (.tmp 18) = .bool false := h53.trans (congrArg Value.bool ht56)
  clear h53
  refine wp_cond_false hv58 ?_
  refine wp_skip ?_
  refine hK41 _ _ ?_
  clear hK41 K41
  refine wp_seq_k fun K59 hK59 => ?_
  refine wp_seq_k fun K60 hK60 => ?_
  have hR : PRel s false s := prel_pos (.inr ht56)
  have hds0 := str_size0 (s := s)
  rcases Bool.eq_false_or_eq_true (strEq s ⟨#[]⟩) with ht61 | ht61
  · skip
    refine wp_g0 [true, true, true, true, true, true, true, true, true, true, true, true, true, true, true] [] 78
      [ve (.string s),
       ve (.bool true),
       ve (.bool true),
       ve undef,
       ve undef,
       ve undef,
       ve undef,
       ve undef,
       ve undef,
       ve undef,
       ve undef,
       ve undef,
       ve undef,
       ve undef,
       ve (.bool true)] hs47 (.eq (.eq (.eq (.eq (.eq (.eq (.eq (.eq (.eq (.eq (.eq (.eq (.eq (.eq (.eq (.nil)))))))))))))))) ?_ ?_
    · skip
      refine .o1 (tk rfl rfl fun _ w hn k => ⟨_, v_move rfl (k.fx 5 h52), rfl⟩) ?_
      refine .o1 (tk rfl rfl fun _ w hn k => ⟨_, v_bin rfl (k.eq1 0 21 rfl) rfl (fun _ => rfl) (r_eqlS ht61), rfl⟩) ?_
      refine .o1 (tk rfl rfl fun _ w hn k => ⟨_, v_move rfl (k.eq1 1 22 rfl), rfl⟩) ?_
      refine .o1 (sk rfl rfl rfl (fun _ _ _ k => k.eq1 2 23 rfl) (fun _ => rfl)) ?_
      refine .o1 (sk rfl rfl rfl (fun _ _ _ k => k.eq1 2 23 rfl) (fun _ => rfl)) ?_
      refine .o1 (sk rfl rfl rfl (fun _ _ _ k => k.eq1 2 23 rfl) (fun _ => rfl)) ?_
      refine .o1 (sk rfl rfl rfl (fun _ _ _ k => k.eq1 2 23 rfl) (fun _ => rfl)) ?_
      refine .o1 (su rfl rfl rfl (fun _ _ _ k => k.eq1 6 27 rfl) (fun _ => rfl)) ?_
      refine .o1 (su rfl rfl rfl (fun _ _ _ k => k.eq1 6 27 rfl) (fun _ => rfl)) ?_
      refine .o1 (su rfl rfl rfl (fun _ _ _ k => k.eq1 6 27 rfl) (fun _ => rfl)) ?_
      refine .o1 (su rfl rfl rfl (fun _ _ _ k => k.eq1 6 27 rfl) (fun _ => rfl)) ?_
      refine .o1 (su rfl rfl rfl (fun _ _ _ k => k.eq1 10 31 rfl) (fun _ => rfl)) ?_
      refine .o1 (su rfl rfl rfl (fun _ _ _ k => k.eq1 6 27 rfl) (fun _ => rfl)) ?_
      refine .o1 (sk rfl rfl rfl (fun _ _ _ k => k.eq1 2 23 rfl) (fun _ => rfl)) ?_
      refine .o1 (tk rfl rfl fun _ w hn k => ⟨_, v_pickT rfl (k.eq1 2 23 rfl) rfl, rfl⟩) ?_
      exact .nil
    intro a62 w63 hn64 ha65
    have hs66 := ha65.size.trans hs47
    have hd67 := ha65.defers.trans hd48
    have h68 := ha65.fx 2 h50
    have h69 := ha65.fx 4 hv57
    have h70 := ha65.fx 5 h52
    have h71 := ha65.ge 14 35 rfl
    have hb72 := hb54.new_ hn64
    have hN73 := hN55.transNew hn64
    clear hs47 hd48 h49 h50 hv57 h52 hv58 hb54 hN55 ha65 hn64
    refine st_nil ?_
    refine hK60 _ _ ?_
    clear hK60 K60
    refine wp_cond_true h71 ?_
    refine wp_seq_k fun K74 hK74 => ?_
    refine wp_g0 [true, false, false] [(1, false), (2, true)] 78
      [ve (.agg #[.bool false, sv none ([]) 0]),
       vt,
       vt] hs66 (.eq (.tt (.tt (.nil)))) ?_ ?_
    · skip
      refine .o1 (tk rfl rfl fun _ w hn k => ⟨_, v_build (ps := []) rfl parts0 (by kernel_rfl), rfl⟩) ?_
      refine .off ?_
      refine .off ?_
      exact .nil
    intro a75 w76 hn77 ha78
    have hs79 := ha78.size.trans hs66
    have hd80 := ha78.defers.trans hd67
    have h81 := ha78.fx 2 h68
    have h82 := ha78.ge 0 36 rfl
    have hb83 := hb72.new_ hn77
    have hN84 := hN73.transNew hn77
    clear hs66 hd67 h68 h69 h70 h71 hb72 hN73 ha78 hn77
    obtain ⟨w85, -, hst86, hb87, hu88, hf89⟩ := s_two (v0 := .bool false) (v1 := sv none ([]) 0) Try.sizeOf24 rfl rfl rfl hb83
    refine st_act rfl rfl fun K90 hL91 => a_store' rfl h81 h82 hst86 (hL91 _ _ trivial ?_)
    have hN92 := hN84.trans hu88 (fun k hk hkb => by subst hkb; omega)
    clear hb83 hst86 K90 hL91 hN84 hu88 hf89
    refine st_take rfl rfl (y_assign (v := iv 2) rfl rfl) rfl ?_
    obtain ⟨a93, ha94⟩ : ∃ a', a' = a75.put (some 3) (iv 2) := ⟨_, rfl⟩
    have hs95 : a93.tmps.size = 78 := by rw [ha94, put_size]; exact hs79
    have hd96 : a93.defers = [] := by rw [ha94, put_defers]; exact hd80
    have h97 : a93.eval (.tmp 2) = pv q10 := by rw [ha94, put_ne _ _ _ _ (by decide)]; exact h81
    have h98 : a93.eval (.tmp 36) = .agg #[.bool false, sv none ([]) 0] := by rw [ha94, put_ne _ _ _ _ (by decide)]; exact h82
    have h99 : a93.eval (.tmp 3) = iv 2 := by rw [ha94]; exact put_same _ _ _ (by rw [hs79]; decide)
    show stepsTo _ _ _ _ _ (a75.put (some 3) (iv 2)) _
    rw [← ha94]
    clear ha94 hs79 hd80 h81 h82
    refine st_nil ?_
    clear h98
    refine hK74 _ _ ?_
    clear hK74 K74
    refine wp_ret (ret_k hd96 (v := .tuple #[.agg #[.bool false, sv none ([]) 0], iv 2]) (res_ct rfl h97 h99 (l_two Try.isAgg24 Try.sizeOf24 hb87)) ?_)
    have hs2 : (iv 2 : Value) = iv (parseZ s.data.toList).2 := by rw [pz_bad hR (.inl (digB_empty ht61))]
    have hz1 : (decide ((parseZ s.data.toList).1 < 0)) = false := by rw [pz_bad hR (.inl (digB_empty ht61))]; rfl
    have hz2 : canon ((parseZ s.data.toList).1).natAbs = [] := by rw [pz_bad hR (.inl (digB_empty ht61))]; exact canon_zero
    exact ⟨none, 0, by rw [hz1, hz2, hs2], by rw [hz2]; exact (SRow.nil _ _), hN92⟩
  rcases Bool.eq_false_or_eq_true (decide (((bAt s 0 : Nat) : Int) = 48)) with ht100 | ht100
  · skip
    have ht100d := of_decide_eq_true ht100
    rcases Bool.eq_false_or_eq_true (decide ((s.size : Int) ≤ 1)) with ht101 | ht101
    · skip
      have ht101d := of_decide_eq_true ht101
      have hsp := size_pos ht61
      refine wp_g0 [true, true, true, true, true, true, true, true, true, true, true, true, true, true, true] [] 78
        [ve (.string s),
         ve (.bool false),
         ve (.bool false),
         ve (.string s),
         ve (.int .u8 ((bAt s 0 : Nat) : Int)),
         ve (.bool true),
         ve (.bool true),
         ve (.string s),
         ve (iv (s.size : Int)),
         ve (.bool false),
         ve (.bool false),
         ve (.bool false),
         ve (.bool false),
         ve (.bool false),
         ve (.bool false)] hs47 (.eq (.eq (.eq (.eq (.eq (.eq (.eq (.eq (.eq (.eq (.eq (.eq (.eq (.eq (.eq (.nil)))))))))))))))) ?_ ?_
      · skip
        refine .o1 (tk rfl rfl fun _ w hn k => ⟨_, v_move rfl (k.fx 5 h52), rfl⟩) ?_
        refine .o1 (tk rfl rfl fun _ w hn k => ⟨_, v_bin rfl (k.eq1 0 21 rfl) rfl (fun _ => rfl) (r_eqlS ht61), rfl⟩) ?_
        refine .o1 (tk rfl rfl fun _ w hn k => ⟨_, v_move rfl (k.eq1 1 22 rfl), rfl⟩) ?_
        refine .o1 (tg rfl rfl rfl (fun _ _ k => k.eq1 2 23 rfl) fun _ w hn k => ⟨_, v_move rfl (k.fx 5 h52), rfl⟩) ?_
        refine .o1 (tg rfl rfl rfl (fun _ _ k => k.eq1 2 23 rfl) fun _ w hn k => ⟨_, v_idxN rfl (k.eq1 3 24 rfl) rfl (by kernel_rfl) (by omega), rfl⟩) ?_
        refine .o1 (tg rfl rfl rfl (fun _ _ k => k.eq1 2 23 rfl) fun _ w hn k => ⟨_, v_bin rfl (k.eq1 4 25 rfl) rfl (fun _ => rfl) (r_eql ht100), rfl⟩) ?_
        refine .o1 (tg rfl rfl rfl (fun _ _ k => k.eq1 2 23 rfl) fun _ w hn k => ⟨_, v_move rfl (k.eq1 5 26 rfl), rfl⟩) ?_
        refine .o1 (tg rfl rfl rfl (fun _ _ k => k.eq1 6 27 rfl) fun _ w hn k => ⟨_, v_move rfl (k.fx 5 h52), rfl⟩) ?_
        refine .o1 (tg rfl rfl rfl (fun _ _ k => k.eq1 6 27 rfl) fun _ w hn k => ⟨_, v_lenS rfl (k.eq1 7 28 rfl) (by kernel_rfl), rfl⟩) ?_
        refine .o1 (tg rfl rfl rfl (fun _ _ k => k.eq1 6 27 rfl) fun _ w hn k => ⟨_, v_bin rfl (k.eq1 8 29 rfl) rfl (fun _ => rfl) (r_gtrK ht101), rfl⟩) ?_
        refine .o1 (tg rfl rfl rfl (fun _ _ k => k.eq1 6 27 rfl) fun _ w hn k => ⟨_, v_move rfl (k.eq1 9 30 rfl), rfl⟩) ?_
        refine .o1 (tg rfl rfl rfl (fun _ _ k => k.eq1 10 31 rfl) fun _ w hn k => ⟨_, v_move rfl (k.fx 4 hv57), rfl⟩) ?_
        refine .o1 (tg rfl rfl rfl (fun _ _ k => k.eq1 6 27 rfl) fun _ w hn k => ⟨_, v_pickF rfl (k.eq1 10 31 rfl) (k.eq1 11 32 rfl), rfl⟩) ?_
        refine .o1 (tg rfl rfl rfl (fun _ _ k => k.eq1 2 23 rfl) fun _ w hn k => ⟨_, v_pickT rfl (k.eq1 6 27 rfl) (k.eq1 12 33 rfl), rfl⟩) ?_
        refine .o1 (tk rfl rfl fun _ w hn k => ⟨_, v_pickF rfl (k.eq1 2 23 rfl) (k.eq1 13 34 rfl), rfl⟩) ?_
        exact .nil
      intro a102 w103 hn104 ha105
      have hs106 := ha105.size.trans hs47
      have hd107 := ha105.defers.trans hd48
      have h108 := ha105.fx 2 h50
      have h109 := ha105.fx 4 hv57
      have h110 := ha105.fx 5 h52
      have h111 := ha105.ge 14 35 rfl
      have hb112 := hb54.new_ hn104
      have hN113 := hN55.transNew hn104
      clear hs47 hd48 h49 h50 hv57 h52 hv58 hb54 hN55 ha105 hn104
      refine st_nil ?_
      refine hK60 _ _ ?_
      clear hK60 K60
      refine wp_cond_false h111 ?_
      refine wp_skip ?_
      refine hK59 _ _ ?_
      clear hK59 K59
      refine wp_seq_k fun K114 hK114 => ?_
      refine wp_seq_k fun K115 hK115 => ?_
      have hne : 0 < s.size := size_pos ht61
      have hlead : bAt s 0 ≠ 48 ∨ s.size = 1 := .inr (by have := of_decide_eq_true ht101; omega)
      refine wp_g0 [true] [] 78
        [ve (iv 0)] hs106 (.eq (.nil)) ?_ ?_
      · skip
        refine .o1 (tk rfl rfl fun _ w hn k => ⟨_, v_assign rfl rfl, rfl⟩) ?_
        exact .nil
      intro a116 w117 hn118 ha119
      have hs120 := ha119.size.trans hs106
      have hd121 := ha119.defers.trans hd107
      have h122 := ha119.fx 2 h108
      have h123 := ha119.fx 4 h109
      have h124 := ha119.fx 5 h110
      have h125 := ha119.ge 0 6 rfl
      have hb126 := hb112.new_ hn118
      have hN127 := hN113.transNew hn118
      clear hs106 hd107 h108 h109 h110 h111 hb112 hN113 ha119 hn118
      refine st_nil ?_
      refine hK115 _ _ ?_
      clear hK115 K115
      refine wp_block ?_
      refine wp_loopX (fun (mm : Nat) (aa : Act) (ww : World) => ∃ (i : Nat), mm = s.size - i ∧ aa.tmps.size = 78 ∧ aa.defers = [] ∧ New w ww ∧ aa.eval (.tmp 6) = iv (i : Int) ∧ aa.eval (.tmp 2) = pv q10 ∧ aa.eval (.tmp 4) = .bool false ∧ aa.eval (.tmp 5) = .string s ∧ Blk ww q10 24 [.bool false, sv none ([]) 0] ∧ (i ≤ s.size) ∧ (∀ j, j < i → 48 ≤ bAt s j ∧ bAt s j ≤ 57)) (fun mm => mm) ⟨_, ⟨0, rfl, hs120, hd121, hN127, h125, h122, h123, h124, hb126, (Nat.zero_le _), (fun j h => absurd h (Nat.not_lt_zero _))⟩⟩ ?_
      clear hs120 hd121 hN127 h122 h123 h124 h125 hb126
      rintro mm a128 w129 ⟨i, hmm, hs130, hd131, hN132, h133, h134, h135, h136, hb137, hi, hdg⟩
      refine wp_seq_k fun K138 hK138 => ?_
      refine wp_seq_k fun K139 hK139 => ?_
      refine wp_g0 [true, true, true, true] [] 78
        [ve (iv (i : Int)),
         ve (.string s),
         ve (iv (s.size : Int)),
         ve (.bool (decide ((i : Int) < (s.size : Int))))] hs130 (.eq (.eq (.eq (.eq (.nil))))) ?_ ?_
      · skip
        refine .o1 (tk rfl rfl fun _ w hn k => ⟨_, v_move rfl (k.fx 6 h133), rfl⟩) ?_
        refine .o1 (tk rfl rfl fun _ w hn k => ⟨_, v_move rfl (k.fx 5 h136), rfl⟩) ?_
        refine .o1 (tk rfl rfl fun _ w hn k => ⟨_, v_lenS rfl (k.eq1 1 38 rfl) (by kernel_rfl), rfl⟩) ?_
        refine .o1 (tk rfl rfl fun _ w hn k => ⟨_, v_bin rfl (k.eq1 0 37 rfl) (k.eq1 2 39 rfl) (fun _ => rfl) (r_lssK rfl), rfl⟩) ?_
        exact .nil
      intro a140 w141 hn142 ha143
      have hs144 := ha143.size.trans hs130
      have hd145 := ha143.defers.trans hd131
      have h146 := ha143.fx 6 h133
      have h147 := ha143.fx 2 h134
      have h148 := ha143.fx 4 h135
      have h149 := ha143.fx 5 h136
      have h150 := ha143.ge 3 40 rfl
      have hb151 := hb137.new_ hn142
      have hN152 := hN132.transNew hn142
      clear hs130 hd131 h133 h134 h135 h136 hb137 hN132 ha143 hn142
      refine st_nil ?_
      refine hK139 _ _ ?_
      clear hK139 K139
      rcases Bool.eq_false_or_eq_true (decide ((i : Int) < (s.size : Int))) with ht153 | ht153
      · skip
        have ht153d := of_decide_eq_true ht153
        have hv154 : a140.eval (.tmp 40) = .bool true := h150.trans (congrArg Value.bool ht153)
        clear h150
        refine wp_cond_true hv154 ?_
        refine wp_skip ?_
        refine hK138 _ _ ?_
        clear hK138 K138
        refine wp_seq_k fun K155 hK155 => ?_
        refine wp_block ?_
        refine wp_seq_k fun K156 hK156 => ?_
        rcases Bool.eq_false_or_eq_true (decide (((bAt s i : Nat) : Int) < 48)) with ht157 | ht157
        · skip
          have ht157d := of_decide_eq_true ht157
          refine wp_g0 [true, true, true, true, true, true, true, true, true, true] [] 78
            [ve (.string s),
             ve (iv (i : Int)),
             ve (.int .u8 ((bAt s i : Nat) : Int)),
             ve (.bool true),
             ve (.bool true),
             ve undef,
             ve undef,
             ve undef,
             ve undef,
             ve (.bool true)] hs144 (.eq (.eq (.eq (.eq (.eq (.eq (.eq (.eq (.eq (.eq (.nil))))))))))) ?_ ?_
          · skip
            refine .o1 (tk rfl rfl fun _ w hn k => ⟨_, v_move rfl (k.fx 5 h149), rfl⟩) ?_
            refine .o1 (tk rfl rfl fun _ w hn k => ⟨_, v_move rfl (k.fx 6 h146), rfl⟩) ?_
            refine .o1 (tk rfl rfl fun _ w hn k => ⟨_, v_idxN rfl (k.eq1 0 43 rfl) (k.eq1 1 44 rfl) (by kernel_rfl) (by omega), rfl⟩) ?_
            refine .o1 (tk rfl rfl fun _ w hn k => ⟨_, v_bin rfl (k.eq1 2 45 rfl) rfl (fun _ => rfl) (r_lssK ht157), rfl⟩) ?_
            refine .o1 (tk rfl rfl fun _ w hn k => ⟨_, v_move rfl (k.eq1 3 46 rfl), rfl⟩) ?_
            refine .o1 (sk rfl rfl rfl (fun _ _ _ k => k.eq1 4 47 rfl) (fun _ => rfl)) ?_
            refine .o1 (sk rfl rfl rfl (fun _ _ _ k => k.eq1 4 47 rfl) (fun _ => rfl)) ?_
            refine .o1 (sk rfl rfl rfl (fun _ _ _ k => k.eq1 4 47 rfl) (fun _ => rfl)) ?_
            refine .o1 (sk rfl rfl rfl (fun _ _ _ k => k.eq1 4 47 rfl) (fun _ => rfl)) ?_
            refine .o1 (tk rfl rfl fun _ w hn k => ⟨_, v_pickT rfl (k.eq1 4 47 rfl) rfl, rfl⟩) ?_
            exact .nil
          intro a158 w159 hn160 ha161
          have hs162 := ha161.size.trans hs144
          have hd163 := ha161.defers.trans hd145
          have h164 := ha161.fx 6 h146
          have h165 := ha161.fx 2 h147
          have h166 := ha161.fx 4 h148
          have h167 := ha161.fx 5 h149
          have h168 := ha161.ge 9 52 rfl
          have hb169 := hb151.new_ hn160
          have hN170 := hN152.transNew hn160
          clear hs144 hd145 h146 h147 h148 h149 hv154 hb151 hN152 ha161 hn160
          refine st_nil ?_
          refine hK156 _ _ ?_
          clear hK156 K156
          refine wp_cond_true h168 ?_
          refine wp_seq_k fun K171 hK171 => ?_
          refine wp_g0 [true, false, false] [(1, false), (2, true)] 78
            [ve (.agg #[.bool false, sv none ([]) 0]),
             vt,
             vt] hs162 (.eq (.tt (.tt (.nil)))) ?_ ?_
          · skip
            refine .o1 (tk rfl rfl fun _ w hn k => ⟨_, v_build (ps := []) rfl parts0 (by kernel_rfl), rfl⟩) ?_
            refine .off ?_
            refine .off ?_
            exact .nil
          intro a172 w173 hn174 ha175
          have hs176 := ha175.size.trans hs162
          have hd177 := ha175.defers.trans hd163
          have h178 := ha175.fx 2 h165
          have h179 := ha175.ge 0 53 rfl
          have hb180 := hb169.new_ hn174
          have hN181 := hN170.transNew hn174
          clear hs162 hd163 h164 h165 h166 h167 h168 hb169 hN170 ha175 hn174
          obtain ⟨w182, -, hst183, hb184, hu185, hf186⟩ := s_two (v0 := .bool false) (v1 := sv none ([]) 0) Try.sizeOf24 rfl rfl rfl hb180
          refine st_act rfl rfl fun K187 hL188 => a_store' rfl h178 h179 hst183 (hL188 _ _ trivial ?_)
          have hN189 := hN181.trans hu185 (fun k hk hkb => by subst hkb; omega)
          clear hb180 hst183 K187 hL188 hN181 hu185 hf186
          refine st_take rfl rfl (y_assign (v := iv 2) rfl rfl) rfl ?_
          obtain ⟨a190, ha191⟩ : ∃ a', a' = a172.put (some 3) (iv 2) := ⟨_, rfl⟩
          have hs192 : a190.tmps.size = 78 := by rw [ha191, put_size]; exact hs176
          have hd193 : a190.defers = [] := by rw [ha191, put_defers]; exact hd177
          have h194 : a190.eval (.tmp 2) = pv q10 := by rw [ha191, put_ne _ _ _ _ (by decide)]; exact h178
          have h195 : a190.eval (.tmp 53) = .agg #[.bool false, sv none ([]) 0] := by rw [ha191, put_ne _ _ _ _ (by decide)]; exact h179
          have h196 : a190.eval (.tmp 3) = iv 2 := by rw [ha191]; exact put_same _ _ _ (by rw [hs176]; decide)
          show stepsTo _ _ _ _ _ (a172.put (some 3) (iv 2)) _
          rw [← ha191]
          clear ha191 hs176 hd177 h178 h179
          refine st_nil ?_
          clear h195
          refine hK171 _ _ ?_
          clear hK171 K171
          refine wp_ret (ret_k hd193 (v := .tuple #[.agg #[.bool false, sv none ([]) 0], iv 2]) (res_ct rfl h194 h196 (l_two Try.isAgg24 Try.sizeOf24 hb184)) ?_)
          have hs2 : (iv 2 : Value) = iv (parseZ s.data.toList).2 := by rw [pz_bad hR (.inl (digB_bad (i := i) (by omega) (.inl ht157)))]
          have hz1 : (decide ((parseZ s.data.toList).1 < 0)) = false := by rw [pz_bad hR (.inl (digB_bad (i := i) (by omega) (.inl ht157)))]; rfl
          have hz2 : canon ((parseZ s.data.toList).1).natAbs = [] := by rw [pz_bad hR (.inl (digB_bad (i := i) (by omega) (.inl ht157)))]; exact canon_zero
          exact ⟨none, 0, by rw [hz1, hz2, hs2], by rw [hz2]; exact (SRow.nil _ _), hN189⟩
        have ht157d := of_decide_eq_false ht157
        rcases Bool.eq_false_or_eq_true (decide (((bAt s i : Nat) : Int) ≤ 57)) with ht197 | ht197
        · skip
          have ht197d := of_decide_eq_true ht197
          refine wp_g0 [true, true, true, true, true, true, true, true, true, true] [] 78
            [ve (.string s),
             ve (iv (i : Int)),
             ve (.int .u8 ((bAt s i : Nat) : Int)),
             ve (.bool false),
             ve (.bool false),
             ve (.string s),
             ve (iv (i : Int)),
             ve (.int .u8 ((bAt s i : Nat) : Int)),
             ve (.bool false),
             ve (.bool false)] hs144 (.eq (.eq (.eq (.eq (.eq (.eq (.eq (.eq (.eq (.eq (.nil))))))))))) ?_ ?_
          · skip
            refine .o1 (tk rfl rfl fun _ w hn k => ⟨_, v_move rfl (k.fx 5 h149), rfl⟩) ?_
            refine .o1 (tk rfl rfl fun _ w hn k => ⟨_, v_move rfl (k.fx 6 h146), rfl⟩) ?_
            refine .o1 (tk rfl rfl fun _ w hn k => ⟨_, v_idxN rfl (k.eq1 0 43 rfl) (k.eq1 1 44 rfl) (by kernel_rfl) (by omega), rfl⟩) ?_
            refine .o1 (tk rfl rfl fun _ w hn k => ⟨_, v_bin rfl (k.eq1 2 45 rfl) rfl (fun _ => rfl) (r_lssK ht157), rfl⟩) ?_
            refine .o1 (tk rfl rfl fun _ w hn k => ⟨_, v_move rfl (k.eq1 3 46 rfl), rfl⟩) ?_
            refine .o1 (tg rfl rfl rfl (fun _ _ k => k.eq1 4 47 rfl) fun _ w hn k => ⟨_, v_move rfl (k.fx 5 h149), rfl⟩) ?_
            refine .o1 (tg rfl rfl rfl (fun _ _ k => k.eq1 4 47 rfl) fun _ w hn k => ⟨_, v_move rfl (k.fx 6 h146), rfl⟩) ?_
            refine .o1 (tg rfl rfl rfl (fun _ _ k => k.eq1 4 47 rfl) fun _ w hn k => ⟨_, v_idxN rfl (k.eq1 5 48 rfl) (k.eq1 6 49 rfl) (by kernel_rfl) (by omega), rfl⟩) ?_
            refine .o1 (tg rfl rfl rfl (fun _ _ k => k.eq1 4 47 rfl) fun _ w hn k => ⟨_, v_bin rfl (k.eq1 7 50 rfl) rfl (fun _ => rfl) (r_gtrK ht197), rfl⟩) ?_
            refine .o1 (tk rfl rfl fun _ w hn k => ⟨_, v_pickF rfl (k.eq1 4 47 rfl) (k.eq1 8 51 rfl), rfl⟩) ?_
            exact .nil
          intro a198 w199 hn200 ha201
          have hs202 := ha201.size.trans hs144
          have hd203 := ha201.defers.trans hd145
          have h204 := ha201.fx 6 h146
          have h205 := ha201.fx 2 h147
          have h206 := ha201.fx 4 h148
          have h207 := ha201.fx 5 h149
          have h208 := ha201.ge 9 52 rfl
          have hb209 := hb151.new_ hn200
          have hN210 := hN152.transNew hn200
          clear hs144 hd145 h146 h147 h148 h149 hv154 hb151 hN152 ha201 hn200
          refine st_nil ?_
          refine hK156 _ _ ?_
          clear hK156 K156
          refine wp_cond_false h208 ?_
          refine wp_skip ?_
          refine hK155 _ _ ?_
          clear hK155 K155
          refine wp_g0 [true, true, false] [(2, true)] 78
            [ve (iv (i : Int)),
             ve (iv ((i + 1 : Nat) : Int)),
             vt] hs202 (.eq (.eq (.tt (.nil)))) ?_ ?_
          · skip
            refine .o1 (tk rfl rfl fun _ w hn k => ⟨_, v_move rfl (k.fx 6 h204), rfl⟩) ?_
            refine .o1 (tk rfl rfl fun _ w hn k => ⟨_, v_bin rfl (k.eq1 0 41 rfl) rfl (fun _ => rfl) (n_add (by omega) (IntWalk.i64_in _ (by omega))), rfl⟩) ?_
            refine .off ?_
            exact .nil
          intro a211 w212 hn213 ha214
          have hs215 := ha214.size.trans hs202
          have hd216 := ha214.defers.trans hd203
          have h217 := ha214.fx 6 h204
          have h218 := ha214.fx 2 h205
          have h219 := ha214.fx 4 h206
          have h220 := ha214.fx 5 h207
          have h221 := ha214.ge 1 42 rfl
          have hb222 := hb209.new_ hn213
          have hN223 := hN210.transNew hn213
          clear hs202 hd203 h204 h205 h206 h207 h208 hb209 hN210 ha214 hn213
          refine st_take rfl rfl (y_assign (v := iv ((i + 1 : Nat) : Int)) rfl h221) rfl ?_
          obtain ⟨a224, ha225⟩ : ∃ a', a' = a211.put (some 6) (iv ((i + 1 : Nat) : Int)) := ⟨_, rfl⟩
          have hs226 : a224.tmps.size = 78 := by rw [ha225, put_size]; exact hs215
          have hd227 : a224.defers = [] := by rw [ha225, put_defers]; exact hd216
          have h228 : a224.eval (.tmp 2) = pv q10 := by rw [ha225, put_ne _ _ _ _ (by decide)]; exact h218
          have h229 : a224.eval (.tmp 4) = .bool false := by rw [ha225, put_ne _ _ _ _ (by decide)]; exact h219
          have h230 : a224.eval (.tmp 5) = .string s := by rw [ha225, put_ne _ _ _ _ (by decide)]; exact h220
          have h231 : a224.eval (.tmp 42) = iv ((i + 1 : Nat) : Int) := by rw [ha225, put_ne _ _ _ _ (by decide)]; exact h221
          have h232 : a224.eval (.tmp 6) = iv ((i + 1 : Nat) : Int) := by rw [ha225]; exact put_same _ _ _ (by rw [hs215]; decide)
          show stepsTo _ _ _ _ _ (a211.put (some 6) (iv ((i + 1 : Nat) : Int))) _
          rw [← ha225]
          clear ha225 hs215 hd216 h217 h218 h219 h220 h221
          refine st_nil ?_
          clear h231
          refine then_n ?_
          exact ⟨_, ⟨i + 1, rfl, hs226, hd227, hN223, (h232.trans (congrArg (Value.int .i64) (by omega))), h228, h229, h230, hb222, (by omega), (dig_up hdg ht157 ht197)⟩, (by omega)⟩
        have ht197d := of_decide_eq_false ht197
        refine wp_g0 [true, true, true, true, true, true, true, true, true, true] [] 78
          [ve (.string s),
           ve (iv (i : Int)),
           ve (.int .u8 ((bAt s i : Nat) : Int)),
           ve (.bool false),
           ve (.bool false),
           ve (.string s),
           ve (iv (i : Int)),
           ve (.int .u8 ((bAt s i : Nat) : Int)),
           ve (.bool true),
           ve (.bool true)] hs144 (.eq (.eq (.eq (.eq (.eq (.eq (.eq (.eq (.eq (.eq (.nil))))))))))) ?_ ?_
        · skip
          refine .o1 (tk rfl rfl fun _ w hn k => ⟨_, v_move rfl (k.fx 5 h149), rfl⟩) ?_
          refine .o1 (tk rfl rfl fun _ w hn k => ⟨_, v_move rfl (k.fx 6 h146), rfl⟩) ?_
          refine .o1 (tk rfl rfl fun _ w hn k => ⟨_, v_idxN rfl (k.eq1 0 43 rfl) (k.eq1 1 44 rfl) (by kernel_rfl) (by omega), rfl⟩) ?_
          refine .o1 (tk rfl rfl fun _ w hn k => ⟨_, v_bin rfl (k.eq1 2 45 rfl) rfl (fun _ => rfl) (r_lssK ht157), rfl⟩) ?_
          refine .o1 (tk rfl rfl fun _ w hn k => ⟨_, v_move rfl (k.eq1 3 46 rfl), rfl⟩) ?_
          refine .o1 (tg rfl rfl rfl (fun _ _ k => k.eq1 4 47 rfl) fun _ w hn k => ⟨_, v_move rfl (k.fx 5 h149), rfl⟩) ?_
          refine .o1 (tg rfl rfl rfl (fun _ _ k => k.eq1 4 47 rfl) fun _ w hn k => ⟨_, v_move rfl (k.fx 6 h146), rfl⟩) ?_
          refine .o1 (tg rfl rfl rfl (fun _ _ k => k.eq1 4 47 rfl) fun _ w hn k => ⟨_, v_idxN rfl (k.eq1 5 48 rfl) (k.eq1 6 49 rfl) (by kernel_rfl) (by omega), rfl⟩) ?_
          refine .o1 (tg rfl rfl rfl (fun _ _ k => k.eq1 4 47 rfl) fun _ w hn k => ⟨_, v_bin rfl (k.eq1 7 50 rfl) rfl (fun _ => rfl) (r_gtrK ht197), rfl⟩) ?_
          refine .o1 (tk rfl rfl fun _ w hn k => ⟨_, v_pickF rfl (k.eq1 4 47 rfl) (k.eq1 8 51 rfl), rfl⟩) ?_
          exact .nil
        intro a233 w234 hn235 ha236
        have hs237 := ha236.size.trans hs144
        have hd238 := ha236.defers.trans hd145
        have h239 := ha236.fx 6 h146
        have h240 := ha236.fx 2 h147
        have h241 := ha236.fx 4 h148
        have h242 := ha236.fx 5 h149
        have h243 := ha236.ge 9 52 rfl
        have hb244 := hb151.new_ hn235
        have hN245 := hN152.transNew hn235
        clear hs144 hd145 h146 h147 h148 h149 hv154 hb151 hN152 ha236 hn235
        refine st_nil ?_
        refine hK156 _ _ ?_
        clear hK156 K156
        refine wp_cond_true h243 ?_
        refine wp_seq_k fun K246 hK246 => ?_
        refine wp_g0 [true, false, false] [(1, false), (2, true)] 78
          [ve (.agg #[.bool false, sv none ([]) 0]),
           vt,
           vt] hs237 (.eq (.tt (.tt (.nil)))) ?_ ?_
        · skip
          refine .o1 (tk rfl rfl fun _ w hn k => ⟨_, v_build (ps := []) rfl parts0 (by kernel_rfl), rfl⟩) ?_
          refine .off ?_
          refine .off ?_
          exact .nil
        intro a247 w248 hn249 ha250
        have hs251 := ha250.size.trans hs237
        have hd252 := ha250.defers.trans hd238
        have h253 := ha250.fx 2 h240
        have h254 := ha250.ge 0 53 rfl
        have hb255 := hb244.new_ hn249
        have hN256 := hN245.transNew hn249
        clear hs237 hd238 h239 h240 h241 h242 h243 hb244 hN245 ha250 hn249
        obtain ⟨w257, -, hst258, hb259, hu260, hf261⟩ := s_two (v0 := .bool false) (v1 := sv none ([]) 0) Try.sizeOf24 rfl rfl rfl hb255
        refine st_act rfl rfl fun K262 hL263 => a_store' rfl h253 h254 hst258 (hL263 _ _ trivial ?_)
        have hN264 := hN256.trans hu260 (fun k hk hkb => by subst hkb; omega)
        clear hb255 hst258 K262 hL263 hN256 hu260 hf261
        refine st_take rfl rfl (y_assign (v := iv 2) rfl rfl) rfl ?_
        obtain ⟨a265, ha266⟩ : ∃ a', a' = a247.put (some 3) (iv 2) := ⟨_, rfl⟩
        have hs267 : a265.tmps.size = 78 := by rw [ha266, put_size]; exact hs251
        have hd268 : a265.defers = [] := by rw [ha266, put_defers]; exact hd252
        have h269 : a265.eval (.tmp 2) = pv q10 := by rw [ha266, put_ne _ _ _ _ (by decide)]; exact h253
        have h270 : a265.eval (.tmp 53) = .agg #[.bool false, sv none ([]) 0] := by rw [ha266, put_ne _ _ _ _ (by decide)]; exact h254
        have h271 : a265.eval (.tmp 3) = iv 2 := by rw [ha266]; exact put_same _ _ _ (by rw [hs251]; decide)
        show stepsTo _ _ _ _ _ (a247.put (some 3) (iv 2)) _
        rw [← ha266]
        clear ha266 hs251 hd252 h253 h254
        refine st_nil ?_
        clear h270
        refine hK246 _ _ ?_
        clear hK246 K246
        refine wp_ret (ret_k hd268 (v := .tuple #[.agg #[.bool false, sv none ([]) 0], iv 2]) (res_ct rfl h269 h271 (l_two Try.isAgg24 Try.sizeOf24 hb259)) ?_)
        have hs2 : (iv 2 : Value) = iv (parseZ s.data.toList).2 := by rw [pz_bad hR (.inl (digB_bad (i := i) (by omega) (.inr ht197)))]
        have hz1 : (decide ((parseZ s.data.toList).1 < 0)) = false := by rw [pz_bad hR (.inl (digB_bad (i := i) (by omega) (.inr ht197)))]; rfl
        have hz2 : canon ((parseZ s.data.toList).1).natAbs = [] := by rw [pz_bad hR (.inl (digB_bad (i := i) (by omega) (.inr ht197)))]; exact canon_zero
        exact ⟨none, 0, by rw [hz1, hz2, hs2], by rw [hz2]; exact (SRow.nil _ _), hN264⟩
      have ht153d := of_decide_eq_false ht153
      have hv272 : a140.eval (.tmp 40) = .bool false := h150.trans (congrArg Value.bool ht153)
      clear h150
      refine wp_cond_false hv272 ?_
      refine wp_exit ?_
      refine hK114 _ _ ?_
      clear hK114 K114 hK138 K138
      refine wp_seq_k fun K273 hK273 => ?_
      have hall : ∀ j, j < s.size → 48 ≤ bAt s j ∧ bAt s j ≤ 57 := fun j hj => hdg j (by omega)
      have hdB : digB s.data.toList = true := digB_yes hne hall hlead
      refine wp_g0 [true] [] 78
        [ve (sv none ([]) 0)] hs144 (.eq (.nil)) ?_ ?_
      · skip
        refine .o1 (tk rfl rfl fun _ w hn k => ⟨_, v_assign rfl rfl, rfl⟩) ?_
        exact .nil
      intro a274 w275 hn276 ha277
      have hs278 := ha277.size.trans hs144
      have hd279 := ha277.defers.trans hd145
      have h280 := ha277.fx 2 h147
      have h281 := ha277.fx 4 h148
      have h282 := ha277.fx 5 h149
      have h283 := ha277.ge 0 7 rfl
      have hb284 := hb151.new_ hn276
      have hN285 := hN152.transNew hn276
      clear hs144 hd145 h146 h147 h148 h149 hv272 hb151 hN152 ha277 hn276
      refine st_nil ?_
      refine hK273 _ _ ?_
      clear hK273 K273
      refine wp_seq_k fun K286 hK286 => ?_
      refine wp_seq_k fun K287 hK287 => ?_
      refine wp_g0 [true] [] 78
        [ve (iv 0)] hs278 (.eq (.nil)) ?_ ?_
      · skip
        refine .o1 (tk rfl rfl fun _ w hn k => ⟨_, v_assign rfl rfl, rfl⟩) ?_
        exact .nil
      intro a288 w289 hn290 ha291
      have hs292 := ha291.size.trans hs278
      have hd293 := ha291.defers.trans hd279
      have h294 := ha291.fx 2 h280
      have h295 := ha291.fx 4 h281
      have h296 := ha291.fx 5 h282
      have h297 := ha291.fx 7 h283
      have h298 := ha291.ge 0 8 rfl
      have hb299 := hb284.new_ hn290
      have hN300 := hN285.transNew hn290
      clear hs278 hd279 h280 h281 h282 h283 hb284 hN285 ha291 hn290
      refine st_nil ?_
      refine hK287 _ _ ?_
      clear hK287 K287
      refine wp_block ?_
      refine wp_loopX (fun (mm : Nat) (aa : Act) (ww : World) => ∃ (i2 : Nat) (A1 : Option Addr) (c1 : Nat), mm = s.size - i2 ∧ aa.tmps.size = 78 ∧ aa.defers = [] ∧ New w ww ∧ aa.eval (.tmp 7) = sv A1 (canon (decV (s.data.toList.take i2))) c1 ∧ aa.eval (.tmp 8) = iv (i2 : Int) ∧ aa.eval (.tmp 2) = pv q10 ∧ aa.eval (.tmp 4) = .bool false ∧ aa.eval (.tmp 5) = .string s ∧ Blk ww q10 24 [.bool false, sv none ([]) 0] ∧ SOwn ww w.heap.size 50 .u32 A1 (canon (decV (s.data.toList.take i2))) c1 ∧ (i2 ≤ s.size) ∧ ((canon (decV (s.data.toList.take i2))).length ≤ 8)) (fun mm => mm) ⟨_, ⟨0, none, 0, rfl, hs292, hd293, hN300, (h297.trans (by rw [List.take_zero, show decV [] = 0 from rfl, canon_zero])), h298, h294, h295, h296, hb299, (by rw [List.take_zero, show decV [] = 0 from rfl, canon_zero]; exact SOwn.nil _ _ _ _), (Nat.zero_le _), (by simp [decV, canon_zero])⟩⟩ ?_
      clear hs292 hd293 hN300 h294 h295 h296 h297 h298 hb299
      rintro mm a301 w302 ⟨i2, A1, c1, hmm, hs303, hd304, hN305, h306, h307, h308, h309, h310, hb311, hr312, hi2, hv8⟩
      refine wp_seq_k fun K313 hK313 => ?_
      refine wp_seq_k fun K314 hK314 => ?_
      refine wp_g0 [true, true, true, true] [] 78
        [ve (iv (i2 : Int)),
         ve (.string s),
         ve (iv (s.size : Int)),
         ve (.bool (decide ((i2 : Int) < (s.size : Int))))] hs303 (.eq (.eq (.eq (.eq (.nil))))) ?_ ?_
      · skip
        refine .o1 (tk rfl rfl fun _ w hn k => ⟨_, v_move rfl (k.fx 8 h307), rfl⟩) ?_
        refine .o1 (tk rfl rfl fun _ w hn k => ⟨_, v_move rfl (k.fx 5 h310), rfl⟩) ?_
        refine .o1 (tk rfl rfl fun _ w hn k => ⟨_, v_lenS rfl (k.eq1 1 55 rfl) (by kernel_rfl), rfl⟩) ?_
        refine .o1 (tk rfl rfl fun _ w hn k => ⟨_, v_bin rfl (k.eq1 0 54 rfl) (k.eq1 2 56 rfl) (fun _ => rfl) (r_lssK rfl), rfl⟩) ?_
        exact .nil
      intro a315 w316 hn317 ha318
      have hs319 := ha318.size.trans hs303
      have hd320 := ha318.defers.trans hd304
      have h321 := ha318.fx 7 h306
      have h322 := ha318.fx 8 h307
      have h323 := ha318.fx 2 h308
      have h324 := ha318.fx 4 h309
      have h325 := ha318.fx 5 h310
      have h326 := ha318.ge 3 57 rfl
      have hb327 := hb311.new_ hn317
      have hr328 := hr312.new_ hn317
      have hN329 := hN305.transNew hn317
      clear hs303 hd304 h306 h307 h308 h309 h310 hb311 hr312 hN305 ha318 hn317
      refine st_nil ?_
      refine hK314 _ _ ?_
      clear hK314 K314
      rcases Bool.eq_false_or_eq_true (decide ((i2 : Int) < (s.size : Int))) with ht330 | ht330
      · skip
        have ht330d := of_decide_eq_true ht330
        have hv331 : a315.eval (.tmp 57) = .bool true := h326.trans (congrArg Value.bool ht330)
        clear h326
        refine wp_cond_true hv331 ?_
        refine wp_skip ?_
        refine hK313 _ _ ?_
        clear hK313 K313
        refine wp_seq_k fun K332 hK332 => ?_
        refine wp_block ?_
        refine wp_seq_k fun K333 hK333 => ?_
        have hb2 := hall i2 (by omega)
        have hbl := bAt_lt s i2
        have hstep := decV_step (s := s) (i := i2) (by omega)
        have hl9 : (canon (val (canon (decV (s.data.toList.take i2))) * val [10])).length ≤ 9 := ten_len hv8
        have hl1 : (canon (val [(bAt s i2 - 48)])).length ≤ 1 := one_len (by omega)
        refine wp_g0 [true, true, true, true, true, true, true, true, true, true, true, false] [(11, true)] 78
          [ve (sv A1 (canon (decV (s.data.toList.take i2))) c1),
           (fun (v : Value) (W : World) => ∃ (A3 : Option Addr) (c4 : Nat), v = sv A3 ([10]) c4 ∧ SOwn W w316.heap.size 50 .u32 A3 ([10]) c4),
           (fun (v : Value) (W : World) => ∃ (A11 : Option Addr) (c12 : Nat), v = sv A11 (canon (val (canon (decV (s.data.toList.take i2))) * val ([10]))) c12 ∧ SOwn W w316.heap.size 50 .u32 A11 (canon (val (canon (decV (s.data.toList.take i2))) * val ([10]))) c12),
           ve (.string s),
           ve (iv (i2 : Int)),
           ve (.int .u8 ((bAt s i2 : Nat) : Int)),
           ve (.int .u8 (((bAt s i2) - 48 : Nat) : Int)),
           ve (.int .u32 (((bAt s i2) - 48 : Nat) : Int)),
           (fun (v : Value) (W : World) => ∃ (A15 : Option Addr) (c16 : Nat), v = sv A15 ([((bAt s i2) - 48)]) c16 ∧ SOwn W w316.heap.size 50 .u32 A15 ([((bAt s i2) - 48)]) c16),
           (fun (v : Value) (W : World) => ∃ (A23 : Option Addr) (c24 : Nat), v = sv A23 (canon (val ([((bAt s i2) - 48)]))) c24 ∧ SOwn W w316.heap.size 50 .u32 A23 (canon (val ([((bAt s i2) - 48)]))) c24),
           (fun (v : Value) (W : World) => ∃ (A35 : Option Addr) (c36 : Nat), v = sv A35 (canon (val (canon (val (canon (decV (s.data.toList.take i2))) * val ([10]))) + val (canon (val ([((bAt s i2) - 48)]))))) c36 ∧ SOwn W w316.heap.size 50 .u32 A35 (canon (val (canon (val (canon (decV (s.data.toList.take i2))) * val ([10]))) + val (canon (val ([((bAt s i2) - 48)]))))) c36),
           vt] hs319 (.eq (.cons (fun v W W' hn ⟨A3, c4, he, h0⟩ => ⟨A3, c4, he, h0.new_ hn⟩) (.cons (fun v W W' hn ⟨A11, c12, he, h0⟩ => ⟨A11, c12, he, h0.new_ hn⟩) (.eq (.eq (.eq (.eq (.eq (.cons (fun v W W' hn ⟨A15, c16, he, h0⟩ => ⟨A15, c16, he, h0.new_ hn⟩) (.cons (fun v W W' hn ⟨A23, c24, he, h0⟩ => ⟨A23, c24, he, h0.new_ hn⟩) (.cons (fun v W W' hn ⟨A35, c36, he, h0⟩ => ⟨A35, c36, he, h0.new_ hn⟩) (.tt (.nil))))))))))))) ?_ ?_
        · skip
          refine .o1 (tk rfl rfl fun _ w hn k => ⟨_, v_move rfl (k.fx 7 h321), rfl⟩) ?_
          refine .o1 (tkA rfl (noG rfl) fun _ w hn k => (by
                exact x_bslice (k := .u32) (ps := [(0, .int .u32 10)]) [10] rfl (parts1 rfl) elW rfl (by omega) (by omega) (by first | kernel_rfl | (simp only [enc, List.map_cons, List.map_nil, Int.toNat_natCast, Int.toNat_of_nonneg (by omega : (0 : Int) ≤ _)]; kernel_rfl)) fun A1 c2 W' hmo => ⟨A1, c2, rfl, (hmo.more hn.size)⟩)) ?_
          refine .o1 (tkC rfl (noG rfl) rfl fun _ w hn k => (by
                obtain ⟨A5, c6, e7, hx8⟩ : (fun (v : Value) (W : World) => ∃ (A3 : Option Addr) (c4 : Nat), v = sv A3 ([10]) c4 ∧ SOwn W w316.heap.size 50 .u32 A3 ([10]) c4) _ _ := k.dep 1 61 (by kernel_rfl) (by kernel_rfl)
                refine ⟨#[sv A1 (canon (decV (s.data.toList.take i2))) c1, sv A5 ([10]) c6], _, args2 (k.eq1 0 60 rfl) e7, fun w => by kernel_rfl, rtimes_c _ _ _ _ _ _ _ (hr328.new_ hn).row hx8.row (limbs_canon _) limbs_10 (by first | omega | (simp only [List.length_nil, List.length_cons, List.length_set, List.length_replicate]; omega)) (by first | omega | (simp only [List.length_nil, List.length_cons, List.length_set, List.length_replicate]; omega)), ?_⟩
                rintro e w' ⟨A9, c10, rfl, hmo, hm⟩
                exact ⟨_, rfl, hm, ⟨A9, c10, rfl, (hmo.more hn.size)⟩⟩)) ?_
          refine .o1 (tk rfl rfl fun _ w hn k => ⟨_, v_move rfl (k.fx 5 h325), rfl⟩) ?_
          refine .o1 (tk rfl rfl fun _ w hn k => ⟨_, v_move rfl (k.fx 8 h322), rfl⟩) ?_
          refine .o1 (tk rfl rfl fun _ w hn k => ⟨_, v_idxN rfl (k.eq1 3 63 rfl) (k.eq1 4 64 rfl) (by kernel_rfl) (by omega), rfl⟩) ?_
          refine .o1 (tk rfl rfl fun _ w hn k => ⟨_, v_bin rfl (k.eq1 5 65 rfl) rfl (fun _ => rfl) (n_sub (by omega) (IntWalk.u8_in _ (by omega))), rfl⟩) ?_
          refine .o1 (tk rfl rfl fun _ w hn k => ⟨_, v_conv rfl (k.eq1 6 66 rfl) (n_conv (by kernel_rfl) (by kernel_rfl) (by kernel_rfl) (IntWalk.u32_in _ (by omega))), rfl⟩) ?_
          refine .o1 (tkA rfl (noG rfl) fun _ w hn k => (by
                exact x_bslice (k := .u32) (ps := [(0, .int .u32 (((bAt s i2) - 48 : Nat) : Int))]) [((bAt s i2) - 48)] rfl (parts1 (k.eq1 7 67 rfl)) elW rfl (by omega) (by omega) (by first | kernel_rfl | (simp only [enc, List.map_cons, List.map_nil, Int.toNat_natCast, Int.toNat_of_nonneg (by omega : (0 : Int) ≤ _)]; kernel_rfl)) fun A13 c14 W' hmo => ⟨A13, c14, rfl, (hmo.more hn.size)⟩)) ?_
          refine .o1 (tkC rfl (noG rfl) rfl fun _ w hn k => (by
                obtain ⟨A17, c18, e19, hx20⟩ : (fun (v : Value) (W : World) => ∃ (A15 : Option Addr) (c16 : Nat), v = sv A15 ([((bAt s i2) - 48)]) c16 ∧ SOwn W w316.heap.size 50 .u32 A15 ([((bAt s i2) - 48)]) c16) _ _ := k.dep 8 68 (by kernel_rfl) (by kernel_rfl)
                refine ⟨#[sv A17 ([((bAt s i2) - 48)]) c18], _, args1 e19, fun w => by kernel_rfl, rtrim_c _ _ _ _ hx20.row (limbs_d (bAt_lt _ _)) (by first | omega | (simp only [List.length_nil, List.length_cons, List.length_set, List.length_replicate]; omega)), ?_⟩
                rintro e w' ⟨A21, c22, rfl, hmo, hm⟩
                exact ⟨_, rfl, hm, ⟨A21, c22, rfl, (hmo.more hn.size)⟩⟩)) ?_
          refine .o1 (tkC rfl (noG rfl) rfl fun _ w hn k => (by
                obtain ⟨A25, c26, e27, hx28⟩ : (fun (v : Value) (W : World) => ∃ (A11 : Option Addr) (c12 : Nat), v = sv A11 (canon (val (canon (decV (s.data.toList.take i2))) * val ([10]))) c12 ∧ SOwn W w316.heap.size 50 .u32 A11 (canon (val (canon (decV (s.data.toList.take i2))) * val ([10]))) c12) _ _ := k.dep 2 62 (by kernel_rfl) (by kernel_rfl)
                obtain ⟨A29, c30, e31, hx32⟩ : (fun (v : Value) (W : World) => ∃ (A23 : Option Addr) (c24 : Nat), v = sv A23 (canon (val ([((bAt s i2) - 48)]))) c24 ∧ SOwn W w316.heap.size 50 .u32 A23 (canon (val ([((bAt s i2) - 48)]))) c24) _ _ := k.dep 9 69 (by kernel_rfl) (by kernel_rfl)
                refine ⟨#[sv A25 (canon (val (canon (decV (s.data.toList.take i2))) * val ([10]))) c26, sv A29 (canon (val ([((bAt s i2) - 48)]))) c30], _, args2 e27 e31, fun w => by kernel_rfl, rplus_c _ _ _ _ _ _ _ hx28.row hx32.row (limbs_canon _) (limbs_canon _) (by first | omega | (simp only [List.length_nil, List.length_cons, List.length_set, List.length_replicate]; omega)) (by first | omega | (simp only [List.length_nil, List.length_cons, List.length_set, List.length_replicate]; omega)), ?_⟩
                rintro e w' ⟨A33, c34, rfl, hmo, hm⟩
                exact ⟨_, rfl, hm, ⟨A33, c34, rfl, (hmo.more hn.size)⟩⟩)) ?_
          refine .off ?_
          exact .nil
        intro a334 w335 hn336 ha337
        have hs338 := ha337.size.trans hs319
        have hd339 := ha337.defers.trans hd320
        have h340 := ha337.fx 7 h321
        have h341 := ha337.fx 8 h322
        have h342 := ha337.fx 2 h323
        have h343 := ha337.fx 4 h324
        have h344 := ha337.fx 5 h325
        obtain ⟨A346, cc347, h345, hr348⟩ : (fun (v : Value) (W : World) => ∃ (A35 : Option Addr) (c36 : Nat), v = sv A35 (canon (val (canon (val (canon (decV (s.data.toList.take i2))) * val ([10]))) + val (canon (val ([((bAt s i2) - 48)]))))) c36 ∧ SOwn W w316.heap.size 50 .u32 A35 (canon (val (canon (val (canon (decV (s.data.toList.take i2))) * val ([10]))) + val (canon (val ([((bAt s i2) - 48)]))))) c36) _ _ := ha337.got 10 70 rfl (by kernel_rfl)
        have h345 : a334.eval (.tmp 70) = sv A346 (canon (val (canon (val (canon (decV (s.data.toList.take i2))) * val ([10]))) + val (canon (val ([((bAt s i2) - 48)]))))) cc347 := h345
        have hb349 := hb327.new_ hn336
        have hr350 := hr328.new_ hn336
        have hr351 := hr348.more hN329.size
        have hN352 := hN329.transNew hn336
        clear hs319 hd320 h321 h322 h323 h324 h325 hv331 hb327 hr328 hr348 hN329 ha337 hn336
        refine st_take rfl rfl (y_assign (v := sv A346 (canon (val (canon (val (canon (decV (s.data.toList.take i2))) * val ([10]))) + val (canon (val ([((bAt s i2) - 48)]))))) cc347) rfl h345) rfl ?_
        obtain ⟨a353, ha354⟩ : ∃ a', a' = a334.put (some 7) (sv A346 (canon (val (canon (val (canon (decV (s.data.toList.take i2))) * val ([10]))) + val (canon (val ([((bAt s i2) - 48)]))))) cc347) := ⟨_, rfl⟩
        have hs355 : a353.tmps.size = 78 := by rw [ha354, put_size]; exact hs338
        have hd356 : a353.defers = [] := by rw [ha354, put_defers]; exact hd339
        have h357 : a353.eval (.tmp 8) = iv (i2 : Int) := by rw [ha354, put_ne _ _ _ _ (by decide)]; exact h341
        have h358 : a353.eval (.tmp 2) = pv q10 := by rw [ha354, put_ne _ _ _ _ (by decide)]; exact h342
        have h359 : a353.eval (.tmp 4) = .bool false := by rw [ha354, put_ne _ _ _ _ (by decide)]; exact h343
        have h360 : a353.eval (.tmp 5) = .string s := by rw [ha354, put_ne _ _ _ _ (by decide)]; exact h344
        have h361 : a353.eval (.tmp 70) = sv A346 (canon (val (canon (val (canon (decV (s.data.toList.take i2))) * val ([10]))) + val (canon (val ([((bAt s i2) - 48)]))))) cc347 := by rw [ha354, put_ne _ _ _ _ (by decide)]; exact h345
        have h362 : a353.eval (.tmp 7) = sv A346 (canon (val (canon (val (canon (decV (s.data.toList.take i2))) * val ([10]))) + val (canon (val ([((bAt s i2) - 48)]))))) cc347 := by rw [ha354]; exact put_same _ _ _ (by rw [hs338]; decide)
        show stepsTo _ _ _ _ _ (a334.put (some 7) (sv A346 (canon (val (canon (val (canon (decV (s.data.toList.take i2))) * val ([10]))) + val (canon (val ([((bAt s i2) - 48)]))))) cc347)) _
        rw [← ha354]
        clear ha354 hs338 hd339 h340 h341 h342 h343 h344 h345
        refine st_nil ?_
        clear h361 hr350
        have he363 : (canon (val (canon (val (canon (decV (s.data.toList.take i2))) * val ([10]))) + val (canon (val ([((bAt s i2) - 48)]))))) = (canon (decV (s.data.toList.take (i2 + 1)))) := by rw [hstep, val_canon, val_canon, val_canon, val_one, val_one, Nat.mul_comm]
        rw [he363] at h362
        rw [he363] at hr351
        refine hK333 _ _ ?_
        clear hK333 K333
        refine wp_seq_k fun K364 hK364 => ?_
        rcases Bool.eq_false_or_eq_true (decide (((canon (decV (s.data.toList.take (i2 + 1)))).length : Int) ≤ 8)) with ht365 | ht365
        · skip
          have ht365d := of_decide_eq_true ht365
          refine wp_g0 [true, true, true] [] 78
            [ve (sv A346 (canon (decV (s.data.toList.take (i2 + 1)))) cc347),
             ve (iv ((canon (decV (s.data.toList.take (i2 + 1)))).length : Int)),
             ve (.bool false)] hs355 (.eq (.eq (.eq (.nil)))) ?_ ?_
          · skip
            refine .o1 (tk rfl rfl fun _ w hn k => ⟨_, v_move rfl (k.fx 7 h362), rfl⟩) ?_
            refine .o1 (tk rfl rfl fun _ w hn k => ⟨_, v_lenR rfl elW (k.eq1 0 71 rfl), rfl⟩) ?_
            refine .o1 (tk rfl rfl fun _ w hn k => ⟨_, v_bin rfl (k.eq1 1 72 rfl) rfl (fun _ => rfl) (r_gtrK ht365), rfl⟩) ?_
            exact .nil
          intro a366 w367 hn368 ha369
          have hs370 := ha369.size.trans hs355
          have hd371 := ha369.defers.trans hd356
          have h372 := ha369.fx 8 h357
          have h373 := ha369.fx 2 h358
          have h374 := ha369.fx 4 h359
          have h375 := ha369.fx 5 h360
          have h376 := ha369.fx 7 h362
          have h377 := ha369.ge 2 73 rfl
          have hb378 := hb349.new_ hn368
          have hr379 := hr351.new_ hn368
          have hN380 := hN352.transNew hn368
          clear hs355 hd356 h357 h358 h359 h360 h362 hb349 hr351 hN352 ha369 hn368
          refine st_nil ?_
          refine hK364 _ _ ?_
          clear hK364 K364
          refine wp_cond_false h377 ?_
          refine wp_skip ?_
          refine hK332 _ _ ?_
          clear hK332 K332
          refine wp_g0 [true, true, false] [(2, true)] 78
            [ve (iv (i2 : Int)),
             ve (iv ((i2 + 1 : Nat) : Int)),
             vt] hs370 (.eq (.eq (.tt (.nil)))) ?_ ?_
          · skip
            refine .o1 (tk rfl rfl fun _ w hn k => ⟨_, v_move rfl (k.fx 8 h372), rfl⟩) ?_
            refine .o1 (tk rfl rfl fun _ w hn k => ⟨_, v_bin rfl (k.eq1 0 58 rfl) rfl (fun _ => rfl) (n_add (by omega) (IntWalk.i64_in _ (by omega))), rfl⟩) ?_
            refine .off ?_
            exact .nil
          intro a381 w382 hn383 ha384
          have hs385 := ha384.size.trans hs370
          have hd386 := ha384.defers.trans hd371
          have h387 := ha384.fx 8 h372
          have h388 := ha384.fx 2 h373
          have h389 := ha384.fx 4 h374
          have h390 := ha384.fx 5 h375
          have h391 := ha384.fx 7 h376
          have h392 := ha384.ge 1 59 rfl
          have hb393 := hb378.new_ hn383
          have hr394 := hr379.new_ hn383
          have hN395 := hN380.transNew hn383
          clear hs370 hd371 h372 h373 h374 h375 h376 h377 hb378 hr379 hN380 ha384 hn383
          refine st_take rfl rfl (y_assign (v := iv ((i2 + 1 : Nat) : Int)) rfl h392) rfl ?_
          obtain ⟨a396, ha397⟩ : ∃ a', a' = a381.put (some 8) (iv ((i2 + 1 : Nat) : Int)) := ⟨_, rfl⟩
          have hs398 : a396.tmps.size = 78 := by rw [ha397, put_size]; exact hs385
          have hd399 : a396.defers = [] := by rw [ha397, put_defers]; exact hd386
          have h400 : a396.eval (.tmp 2) = pv q10 := by rw [ha397, put_ne _ _ _ _ (by decide)]; exact h388
          have h401 : a396.eval (.tmp 4) = .bool false := by rw [ha397, put_ne _ _ _ _ (by decide)]; exact h389
          have h402 : a396.eval (.tmp 5) = .string s := by rw [ha397, put_ne _ _ _ _ (by decide)]; exact h390
          have h403 : a396.eval (.tmp 7) = sv A346 (canon (decV (s.data.toList.take (i2 + 1)))) cc347 := by rw [ha397, put_ne _ _ _ _ (by decide)]; exact h391
          have h404 : a396.eval (.tmp 59) = iv ((i2 + 1 : Nat) : Int) := by rw [ha397, put_ne _ _ _ _ (by decide)]; exact h392
          have h405 : a396.eval (.tmp 8) = iv ((i2 + 1 : Nat) : Int) := by rw [ha397]; exact put_same _ _ _ (by rw [hs385]; decide)
          show stepsTo _ _ _ _ _ (a381.put (some 8) (iv ((i2 + 1 : Nat) : Int))) _
          rw [← ha397]
          clear ha397 hs385 hd386 h387 h388 h389 h390 h391 h392
          refine st_nil ?_
          clear h404
          refine then_n ?_
          exact ⟨_, ⟨i2 + 1, A346, cc347, rfl, hs398, hd399, hN395, h403, (h405.trans (congrArg (Value.int .i64) (by omega))), h400, h401, h402, hb393, hr394, (by omega), (by omega)⟩, (by omega)⟩
        have ht365d := of_decide_eq_false ht365
        refine wp_g0 [true, true, true] [] 78
          [ve (sv A346 (canon (decV (s.data.toList.take (i2 + 1)))) cc347),
           ve (iv ((canon (decV (s.data.toList.take (i2 + 1)))).length : Int)),
           ve (.bool true)] hs355 (.eq (.eq (.eq (.nil)))) ?_ ?_
        · skip
          refine .o1 (tk rfl rfl fun _ w hn k => ⟨_, v_move rfl (k.fx 7 h362), rfl⟩) ?_
          refine .o1 (tk rfl rfl fun _ w hn k => ⟨_, v_lenR rfl elW (k.eq1 0 71 rfl), rfl⟩) ?_
          refine .o1 (tk rfl rfl fun _ w hn k => ⟨_, v_bin rfl (k.eq1 1 72 rfl) rfl (fun _ => rfl) (r_gtrK ht365), rfl⟩) ?_
          exact .nil
        intro a406 w407 hn408 ha409
        have hs410 := ha409.size.trans hs355
        have hd411 := ha409.defers.trans hd356
        have h412 := ha409.fx 8 h357
        have h413 := ha409.fx 2 h358
        have h414 := ha409.fx 4 h359
        have h415 := ha409.fx 5 h360
        have h416 := ha409.fx 7 h362
        have h417 := ha409.ge 2 73 rfl
        have hb418 := hb349.new_ hn408
        have hr419 := hr351.new_ hn408
        have hN420 := hN352.transNew hn408
        clear hs355 hd356 h357 h358 h359 h360 h362 hb349 hr351 hN352 ha409 hn408
        refine st_nil ?_
        refine hK364 _ _ ?_
        clear hK364 K364
        refine wp_cond_true h417 ?_
        refine wp_seq_k fun K421 hK421 => ?_
        refine wp_g0 [true, false, false] [(1, false), (2, true)] 78
          [ve (.agg #[.bool false, sv none ([]) 0]),
           vt,
           vt] hs410 (.eq (.tt (.tt (.nil)))) ?_ ?_
        · skip
          refine .o1 (tk rfl rfl fun _ w hn k => ⟨_, v_build (ps := []) rfl parts0 (by kernel_rfl), rfl⟩) ?_
          refine .off ?_
          refine .off ?_
          exact .nil
        intro a422 w423 hn424 ha425
        have hs426 := ha425.size.trans hs410
        have hd427 := ha425.defers.trans hd411
        have h428 := ha425.fx 2 h413
        have h429 := ha425.ge 0 74 rfl
        have hb430 := hb418.new_ hn424
        have hN431 := hN420.transNew hn424
        clear hs410 hd411 h412 h413 h414 h415 h416 h417 hb418 hr419 hN420 ha425 hn424
        obtain ⟨w432, -, hst433, hb434, hu435, hf436⟩ := s_two (v0 := .bool false) (v1 := sv none ([]) 0) Try.sizeOf24 rfl rfl rfl hb430
        refine st_act rfl rfl fun K437 hL438 => a_store' rfl h428 h429 hst433 (hL438 _ _ trivial ?_)
        have hN439 := hN431.trans hu435 (fun k hk hkb => by subst hkb; omega)
        clear hb430 hst433 K437 hL438 hN431 hu435 hf436
        refine st_take rfl rfl (y_assign (v := iv 3) rfl rfl) rfl ?_
        obtain ⟨a440, ha441⟩ : ∃ a', a' = a422.put (some 3) (iv 3) := ⟨_, rfl⟩
        have hs442 : a440.tmps.size = 78 := by rw [ha441, put_size]; exact hs426
        have hd443 : a440.defers = [] := by rw [ha441, put_defers]; exact hd427
        have h444 : a440.eval (.tmp 2) = pv q10 := by rw [ha441, put_ne _ _ _ _ (by decide)]; exact h428
        have h445 : a440.eval (.tmp 74) = .agg #[.bool false, sv none ([]) 0] := by rw [ha441, put_ne _ _ _ _ (by decide)]; exact h429
        have h446 : a440.eval (.tmp 3) = iv 3 := by rw [ha441]; exact put_same _ _ _ (by rw [hs426]; decide)
        show stepsTo _ _ _ _ _ (a422.put (some 3) (iv 3)) _
        rw [← ha441]
        clear ha441 hs426 hd427 h428 h429
        refine st_nil ?_
        clear h445
        refine hK421 _ _ ?_
        clear hK421 K421
        refine wp_ret (ret_k hd443 (v := .tuple #[.agg #[.bool false, sv none ([]) 0], iv 3]) (res_ct rfl h444 h446 (l_two Try.isAgg24 Try.sizeOf24 hb434)) ?_)
        have hs2 : (iv 3 : Value) = iv (parseZ s.data.toList).2 := by rw [pz_long hR hdB (fun h => by cases h) (dec_long ht365)]
        have hz1 : (decide ((parseZ s.data.toList).1 < 0)) = false := by rw [pz_long hR hdB (fun h => by cases h) (dec_long ht365)]; rfl
        have hz2 : canon ((parseZ s.data.toList).1).natAbs = [] := by rw [pz_long hR hdB (fun h => by cases h) (dec_long ht365)]; exact canon_zero
        exact ⟨none, 0, by rw [hz1, hz2, hs2], by rw [hz2]; exact (SRow.nil _ _), hN439⟩
      have ht330d := of_decide_eq_false ht330
      have hv447 : a315.eval (.tmp 57) = .bool false := h326.trans (congrArg Value.bool ht330)
      clear h326
      refine wp_cond_false hv447 ?_
      refine wp_exit ?_
      refine hK286 _ _ ?_
      clear hK286 K286 hK313 K313
      refine wp_seq_k fun K448 hK448 => ?_
      refine wp_g0 [true, true, true, false, false] [(3, false), (4, true)] 78
        [ve (.bool false),
         ve (sv A1 (canon (decV (s.data.toList.take i2))) c1),
         (fun (v : Value) (W : World) => ∃ (A45 : Option Addr) (c46 : Nat), v = .agg #[.bool (decide (sgn false (val (canon (decV (s.data.toList.take i2)))) < 0)), sv A45 (canon (sgn false (val (canon (decV (s.data.toList.take i2))))).natAbs) c46] ∧ SRow W .u32 A45 (canon (sgn false (val (canon (decV (s.data.toList.take i2))))).natAbs) c46),
         vt,
         vt] hs319 (.eq (.eq (.cons (fun v W W' hn ⟨A45, c46, he, h0⟩ => ⟨A45, c46, he, h0.new_ hn⟩) (.tt (.tt (.nil)))))) ?_ ?_
      · skip
        refine .o1 (tk rfl rfl fun _ w hn k => ⟨_, v_move rfl (k.fx 4 h324), rfl⟩) ?_
        refine .o1 (tk rfl rfl fun _ w hn k => ⟨_, v_move rfl (k.fx 7 h321), rfl⟩) ?_
        refine .o1 (tkC rfl (noG rfl) rfl fun _ w hn k => (by
              refine ⟨#[.bool false, sv A1 (canon (decV (s.data.toList.take i2))) c1], _, args2 (k.eq1 0 75 rfl) (k.eq1 1 76 rfl), fun w => by kernel_rfl, rmade_c _ _ _ _ _ (hr328.new_ hn).row (limbs_canon _) (by first | omega | (simp only [List.length_nil, List.length_cons, List.length_set, List.length_replicate]; omega)), ?_⟩
              rintro e w' ⟨A43, c44, rfl, hmo, hm⟩
              exact ⟨_, rfl, hm, ⟨A43, c44, rfl, hmo⟩⟩)) ?_
        refine .off ?_
        refine .off ?_
        exact .nil
      intro a449 w450 hn451 ha452
      have hs453 := ha452.size.trans hs319
      have hd454 := ha452.defers.trans hd320
      have h455 := ha452.fx 2 h323
      obtain ⟨A457, cc458, h456, hr459⟩ : (fun (v : Value) (W : World) => ∃ (A45 : Option Addr) (c46 : Nat), v = .agg #[.bool (decide (sgn false (val (canon (decV (s.data.toList.take i2)))) < 0)), sv A45 (canon (sgn false (val (canon (decV (s.data.toList.take i2))))).natAbs) c46] ∧ SRow W .u32 A45 (canon (sgn false (val (canon (decV (s.data.toList.take i2))))).natAbs) c46) _ _ := ha452.got 2 77 rfl (by kernel_rfl)
      have h456 : a449.eval (.tmp 77) = .agg #[.bool (decide (sgn false (val (canon (decV (s.data.toList.take i2)))) < 0)), sv A457 (canon (sgn false (val (canon (decV (s.data.toList.take i2))))).natAbs) cc458] := h456
      have hb460 := hb327.new_ hn451
      have hN461 := hN329.transNew hn451
      clear hs319 hd320 h321 h322 h323 h324 h325 hv447 hb327 hr328 hN329 ha452 hn451
      obtain ⟨w462, -, hst463, hb464, hu465, hf466⟩ := s_two (v0 := .bool (decide (sgn false (val (canon (decV (s.data.toList.take i2)))) < 0))) (v1 := sv A457 (canon (sgn false (val (canon (decV (s.data.toList.take i2))))).natAbs) cc458) Try.sizeOf24 rfl rfl rfl hb460
      refine st_act rfl rfl fun K467 hL468 => a_store' rfl h455 h456 hst463 (hL468 _ _ trivial ?_)
      have hr469 := hr459.far hb460 hu465 (by first | rfl | decide | simp [notK])
      have hN470 := hN461.trans hu465 (fun k hk hkb => by subst hkb; omega)
      clear hb460 hst463 K467 hL468 hN461 hr459 hu465 hf466
      refine st_take rfl rfl (y_assign (v := iv 0) rfl rfl) rfl ?_
      obtain ⟨a471, ha472⟩ : ∃ a', a' = a449.put (some 3) (iv 0) := ⟨_, rfl⟩
      have hs473 : a471.tmps.size = 78 := by rw [ha472, put_size]; exact hs453
      have hd474 : a471.defers = [] := by rw [ha472, put_defers]; exact hd454
      have h475 : a471.eval (.tmp 2) = pv q10 := by rw [ha472, put_ne _ _ _ _ (by decide)]; exact h455
      have h476 : a471.eval (.tmp 77) = .agg #[.bool (decide (sgn false (val (canon (decV (s.data.toList.take i2)))) < 0)), sv A457 (canon (sgn false (val (canon (decV (s.data.toList.take i2))))).natAbs) cc458] := by rw [ha472, put_ne _ _ _ _ (by decide)]; exact h456
      have h477 : a471.eval (.tmp 3) = iv 0 := by rw [ha472]; exact put_same _ _ _ (by rw [hs453]; decide)
      show stepsTo _ _ _ _ _ (a449.put (some 3) (iv 0)) _
      rw [← ha472]
      clear ha472 hs453 hd454 h455 h456
      refine st_nil ?_
      clear h476
      refine hK448 _ _ ?_
      clear hK448 K448
      refine wp_ret (ret_k hd474 (v := .tuple #[.agg #[.bool (decide (sgn false (val (canon (decV (s.data.toList.take i2)))) < 0)), sv A457 (canon (sgn false (val (canon (decV (s.data.toList.take i2))))).natAbs) cc458], iv 0]) (res_ct rfl h475 h477 (l_two Try.isAgg24 Try.sizeOf24 hb464)) ?_)
      have hs2 : (iv 0 : Value) = iv (parseZ s.data.toList).2 := by rw [pz_ok hR hdB (fun h => by cases h) (dec_ok (i := i2) (by omega) hv8)]
      have hz1 : sgn false (val (canon (decV (s.data.toList.take i2)))) = (parseZ s.data.toList).1 := by rw [pz_ok hR hdB (fun h => by cases h) (dec_ok (i := i2) (by omega) hv8), val_canon, dec_all (by omega)]
      exact ⟨A457, cc458, (congrArg (fun z : Int => Ending.returned (Value.tuple #[.agg #[.bool (decide (z < 0)), sv A457 (canon z.natAbs) cc458], iv 0])) hz1).trans (congrArg (fun y => Ending.returned (Value.tuple #[.agg #[.bool (decide ((parseZ s.data.toList).1 < 0)), sv A457 (canon ((parseZ s.data.toList).1).natAbs) cc458], y])) hs2), Eq.mp (congrArg (fun z : Int => SRow _ .u32 A457 (canon z.natAbs) cc458) hz1) hr469, hN470⟩
    have ht101d := of_decide_eq_false ht101
    have hsp := size_pos ht61
    refine wp_g0 [true, true, true, true, true, true, true, true, true, true, true, true, true, true, true] [] 78
      [ve (.string s),
       ve (.bool false),
       ve (.bool false),
       ve (.string s),
       ve (.int .u8 ((bAt s 0 : Nat) : Int)),
       ve (.bool true),
       ve (.bool true),
       ve (.string s),
       ve (iv (s.size : Int)),
       ve (.bool true),
       ve (.bool true),
       ve undef,
       ve (.bool true),
       ve (.bool true),
       ve (.bool true)] hs47 (.eq (.eq (.eq (.eq (.eq (.eq (.eq (.eq (.eq (.eq (.eq (.eq (.eq (.eq (.eq (.nil)))))))))))))))) ?_ ?_
    · skip
      refine .o1 (tk rfl rfl fun _ w hn k => ⟨_, v_move rfl (k.fx 5 h52), rfl⟩) ?_
      refine .o1 (tk rfl rfl fun _ w hn k => ⟨_, v_bin rfl (k.eq1 0 21 rfl) rfl (fun _ => rfl) (r_eqlS ht61), rfl⟩) ?_
      refine .o1 (tk rfl rfl fun _ w hn k => ⟨_, v_move rfl (k.eq1 1 22 rfl), rfl⟩) ?_
      refine .o1 (tg rfl rfl rfl (fun _ _ k => k.eq1 2 23 rfl) fun _ w hn k => ⟨_, v_move rfl (k.fx 5 h52), rfl⟩) ?_
      refine .o1 (tg rfl rfl rfl (fun _ _ k => k.eq1 2 23 rfl) fun _ w hn k => ⟨_, v_idxN rfl (k.eq1 3 24 rfl) rfl (by kernel_rfl) (by omega), rfl⟩) ?_
      refine .o1 (tg rfl rfl rfl (fun _ _ k => k.eq1 2 23 rfl) fun _ w hn k => ⟨_, v_bin rfl (k.eq1 4 25 rfl) rfl (fun _ => rfl) (r_eql ht100), rfl⟩) ?_
      refine .o1 (tg rfl rfl rfl (fun _ _ k => k.eq1 2 23 rfl) fun _ w hn k => ⟨_, v_move rfl (k.eq1 5 26 rfl), rfl⟩) ?_
      refine .o1 (tg rfl rfl rfl (fun _ _ k => k.eq1 6 27 rfl) fun _ w hn k => ⟨_, v_move rfl (k.fx 5 h52), rfl⟩) ?_
      refine .o1 (tg rfl rfl rfl (fun _ _ k => k.eq1 6 27 rfl) fun _ w hn k => ⟨_, v_lenS rfl (k.eq1 7 28 rfl) (by kernel_rfl), rfl⟩) ?_
      refine .o1 (tg rfl rfl rfl (fun _ _ k => k.eq1 6 27 rfl) fun _ w hn k => ⟨_, v_bin rfl (k.eq1 8 29 rfl) rfl (fun _ => rfl) (r_gtrK ht101), rfl⟩) ?_
      refine .o1 (tg rfl rfl rfl (fun _ _ k => k.eq1 6 27 rfl) fun _ w hn k => ⟨_, v_move rfl (k.eq1 9 30 rfl), rfl⟩) ?_
      refine .o1 (sk rfl rfl rfl (fun _ _ _ k => k.eq1 10 31 rfl) (fun _ => rfl)) ?_
      refine .o1 (tg rfl rfl rfl (fun _ _ k => k.eq1 6 27 rfl) fun _ w hn k => ⟨_, v_pickT rfl (k.eq1 10 31 rfl) rfl, rfl⟩) ?_
      refine .o1 (tg rfl rfl rfl (fun _ _ k => k.eq1 2 23 rfl) fun _ w hn k => ⟨_, v_pickT rfl (k.eq1 6 27 rfl) (k.eq1 12 33 rfl), rfl⟩) ?_
      refine .o1 (tk rfl rfl fun _ w hn k => ⟨_, v_pickF rfl (k.eq1 2 23 rfl) (k.eq1 13 34 rfl), rfl⟩) ?_
      exact .nil
    intro a478 w479 hn480 ha481
    have hs482 := ha481.size.trans hs47
    have hd483 := ha481.defers.trans hd48
    have h484 := ha481.fx 2 h50
    have h485 := ha481.fx 4 hv57
    have h486 := ha481.fx 5 h52
    have h487 := ha481.ge 14 35 rfl
    have hb488 := hb54.new_ hn480
    have hN489 := hN55.transNew hn480
    clear hs47 hd48 h49 h50 hv57 h52 hv58 hb54 hN55 ha481 hn480
    refine st_nil ?_
    refine hK60 _ _ ?_
    clear hK60 K60
    refine wp_cond_true h487 ?_
    refine wp_seq_k fun K490 hK490 => ?_
    refine wp_g0 [true, false, false] [(1, false), (2, true)] 78
      [ve (.agg #[.bool false, sv none ([]) 0]),
       vt,
       vt] hs482 (.eq (.tt (.tt (.nil)))) ?_ ?_
    · skip
      refine .o1 (tk rfl rfl fun _ w hn k => ⟨_, v_build (ps := []) rfl parts0 (by kernel_rfl), rfl⟩) ?_
      refine .off ?_
      refine .off ?_
      exact .nil
    intro a491 w492 hn493 ha494
    have hs495 := ha494.size.trans hs482
    have hd496 := ha494.defers.trans hd483
    have h497 := ha494.fx 2 h484
    have h498 := ha494.ge 0 36 rfl
    have hb499 := hb488.new_ hn493
    have hN500 := hN489.transNew hn493
    clear hs482 hd483 h484 h485 h486 h487 hb488 hN489 ha494 hn493
    obtain ⟨w501, -, hst502, hb503, hu504, hf505⟩ := s_two (v0 := .bool false) (v1 := sv none ([]) 0) Try.sizeOf24 rfl rfl rfl hb499
    refine st_act rfl rfl fun K506 hL507 => a_store' rfl h497 h498 hst502 (hL507 _ _ trivial ?_)
    have hN508 := hN500.trans hu504 (fun k hk hkb => by subst hkb; omega)
    clear hb499 hst502 K506 hL507 hN500 hu504 hf505
    refine st_take rfl rfl (y_assign (v := iv 2) rfl rfl) rfl ?_
    obtain ⟨a509, ha510⟩ : ∃ a', a' = a491.put (some 3) (iv 2) := ⟨_, rfl⟩
    have hs511 : a509.tmps.size = 78 := by rw [ha510, put_size]; exact hs495
    have hd512 : a509.defers = [] := by rw [ha510, put_defers]; exact hd496
    have h513 : a509.eval (.tmp 2) = pv q10 := by rw [ha510, put_ne _ _ _ _ (by decide)]; exact h497
    have h514 : a509.eval (.tmp 36) = .agg #[.bool false, sv none ([]) 0] := by rw [ha510, put_ne _ _ _ _ (by decide)]; exact h498
    have h515 : a509.eval (.tmp 3) = iv 2 := by rw [ha510]; exact put_same _ _ _ (by rw [hs495]; decide)
    show stepsTo _ _ _ _ _ (a491.put (some 3) (iv 2)) _
    rw [← ha510]
    clear ha510 hs495 hd496 h497 h498
    refine st_nil ?_
    clear h514
    refine hK490 _ _ ?_
    clear hK490 K490
    refine wp_ret (ret_k hd512 (v := .tuple #[.agg #[.bool false, sv none ([]) 0], iv 2]) (res_ct rfl h513 h515 (l_two Try.isAgg24 Try.sizeOf24 hb503)) ?_)
    have hs2 : (iv 2 : Value) = iv (parseZ s.data.toList).2 := by rw [pz_bad hR (.inl (digB_lead ht100 ht101))]
    have hz1 : (decide ((parseZ s.data.toList).1 < 0)) = false := by rw [pz_bad hR (.inl (digB_lead ht100 ht101))]; rfl
    have hz2 : canon ((parseZ s.data.toList).1).natAbs = [] := by rw [pz_bad hR (.inl (digB_lead ht100 ht101))]; exact canon_zero
    exact ⟨none, 0, by rw [hz1, hz2, hs2], by rw [hz2]; exact (SRow.nil _ _), hN508⟩
  have ht100d := of_decide_eq_false ht100
  have hsp := size_pos ht61
  refine wp_g0 [true, true, true, true, true, true, true, true, true, true, true, true, true, true, true] [] 78
    [ve (.string s),
     ve (.bool false),
     ve (.bool false),
     ve (.string s),
     ve (.int .u8 ((bAt s 0 : Nat) : Int)),
     ve (.bool false),
     ve (.bool false),
     ve undef,
     ve undef,
     ve undef,
     ve undef,
     ve undef,
     ve undef,
     ve (.bool false),
     ve (.bool false)] hs47 (.eq (.eq (.eq (.eq (.eq (.eq (.eq (.eq (.eq (.eq (.eq (.eq (.eq (.eq (.eq (.nil)))))))))))))))) ?_ ?_
  · skip
    refine .o1 (tk rfl rfl fun _ w hn k => ⟨_, v_move rfl (k.fx 5 h52), rfl⟩) ?_
    refine .o1 (tk rfl rfl fun _ w hn k => ⟨_, v_bin rfl (k.eq1 0 21 rfl) rfl (fun _ => rfl) (r_eqlS ht61), rfl⟩) ?_
    refine .o1 (tk rfl rfl fun _ w hn k => ⟨_, v_move rfl (k.eq1 1 22 rfl), rfl⟩) ?_
    refine .o1 (tg rfl rfl rfl (fun _ _ k => k.eq1 2 23 rfl) fun _ w hn k => ⟨_, v_move rfl (k.fx 5 h52), rfl⟩) ?_
    refine .o1 (tg rfl rfl rfl (fun _ _ k => k.eq1 2 23 rfl) fun _ w hn k => ⟨_, v_idxN rfl (k.eq1 3 24 rfl) rfl (by kernel_rfl) (by omega), rfl⟩) ?_
    refine .o1 (tg rfl rfl rfl (fun _ _ k => k.eq1 2 23 rfl) fun _ w hn k => ⟨_, v_bin rfl (k.eq1 4 25 rfl) rfl (fun _ => rfl) (r_eql ht100), rfl⟩) ?_
    refine .o1 (tg rfl rfl rfl (fun _ _ k => k.eq1 2 23 rfl) fun _ w hn k => ⟨_, v_move rfl (k.eq1 5 26 rfl), rfl⟩) ?_
    refine .o1 (sk rfl rfl rfl (fun _ _ _ k => k.eq1 6 27 rfl) (fun _ => rfl)) ?_
    refine .o1 (sk rfl rfl rfl (fun _ _ _ k => k.eq1 6 27 rfl) (fun _ => rfl)) ?_
    refine .o1 (sk rfl rfl rfl (fun _ _ _ k => k.eq1 6 27 rfl) (fun _ => rfl)) ?_
    refine .o1 (sk rfl rfl rfl (fun _ _ _ k => k.eq1 6 27 rfl) (fun _ => rfl)) ?_
    refine .o1 (su rfl rfl rfl (fun _ _ _ k => k.eq1 10 31 rfl) (fun _ => rfl)) ?_
    refine .o1 (sk rfl rfl rfl (fun _ _ _ k => k.eq1 6 27 rfl) (fun _ => rfl)) ?_
    refine .o1 (tg rfl rfl rfl (fun _ _ k => k.eq1 2 23 rfl) fun _ w hn k => ⟨_, v_pickF rfl (k.eq1 6 27 rfl) rfl, rfl⟩) ?_
    refine .o1 (tk rfl rfl fun _ w hn k => ⟨_, v_pickF rfl (k.eq1 2 23 rfl) (k.eq1 13 34 rfl), rfl⟩) ?_
    exact .nil
  intro a516 w517 hn518 ha519
  have hs520 := ha519.size.trans hs47
  have hd521 := ha519.defers.trans hd48
  have h522 := ha519.fx 2 h50
  have h523 := ha519.fx 4 hv57
  have h524 := ha519.fx 5 h52
  have h525 := ha519.ge 14 35 rfl
  have hb526 := hb54.new_ hn518
  have hN527 := hN55.transNew hn518
  clear hs47 hd48 h49 h50 hv57 h52 hv58 hb54 hN55 ha519 hn518
  refine st_nil ?_
  refine hK60 _ _ ?_
  clear hK60 K60
  refine wp_cond_false h525 ?_
  refine wp_skip ?_
  refine hK59 _ _ ?_
  clear hK59 K59
  refine wp_seq_k fun K528 hK528 => ?_
  refine wp_seq_k fun K529 hK529 => ?_
  have hne : 0 < s.size := size_pos ht61
  have hlead : bAt s 0 ≠ 48 ∨ s.size = 1 := .inl (by have := of_decide_eq_false ht100; omega)
  refine wp_g0 [true] [] 78
    [ve (iv 0)] hs520 (.eq (.nil)) ?_ ?_
  · skip
    refine .o1 (tk rfl rfl fun _ w hn k => ⟨_, v_assign rfl rfl, rfl⟩) ?_
    exact .nil
  intro a530 w531 hn532 ha533
  have hs534 := ha533.size.trans hs520
  have hd535 := ha533.defers.trans hd521
  have h536 := ha533.fx 2 h522
  have h537 := ha533.fx 4 h523
  have h538 := ha533.fx 5 h524
  have h539 := ha533.ge 0 6 rfl
  have hb540 := hb526.new_ hn532
  have hN541 := hN527.transNew hn532
  clear hs520 hd521 h522 h523 h524 h525 hb526 hN527 ha533 hn532
  refine st_nil ?_
  refine hK529 _ _ ?_
  clear hK529 K529
  refine wp_block ?_
  refine wp_loopX (fun (mm : Nat) (aa : Act) (ww : World) => ∃ (i : Nat), mm = s.size - i ∧ aa.tmps.size = 78 ∧ aa.defers = [] ∧ New w ww ∧ aa.eval (.tmp 6) = iv (i : Int) ∧ aa.eval (.tmp 2) = pv q10 ∧ aa.eval (.tmp 4) = .bool false ∧ aa.eval (.tmp 5) = .string s ∧ Blk ww q10 24 [.bool false, sv none ([]) 0] ∧ (i ≤ s.size) ∧ (∀ j, j < i → 48 ≤ bAt s j ∧ bAt s j ≤ 57)) (fun mm => mm) ⟨_, ⟨0, rfl, hs534, hd535, hN541, h539, h536, h537, h538, hb540, (Nat.zero_le _), (fun j h => absurd h (Nat.not_lt_zero _))⟩⟩ ?_
  clear hs534 hd535 hN541 h536 h537 h538 h539 hb540
  rintro mm a542 w543 ⟨i, hmm, hs544, hd545, hN546, h547, h548, h549, h550, hb551, hi, hdg⟩
  refine wp_seq_k fun K552 hK552 => ?_
  refine wp_seq_k fun K553 hK553 => ?_
  refine wp_g0 [true, true, true, true] [] 78
    [ve (iv (i : Int)),
     ve (.string s),
     ve (iv (s.size : Int)),
     ve (.bool (decide ((i : Int) < (s.size : Int))))] hs544 (.eq (.eq (.eq (.eq (.nil))))) ?_ ?_
  · skip
    refine .o1 (tk rfl rfl fun _ w hn k => ⟨_, v_move rfl (k.fx 6 h547), rfl⟩) ?_
    refine .o1 (tk rfl rfl fun _ w hn k => ⟨_, v_move rfl (k.fx 5 h550), rfl⟩) ?_
    refine .o1 (tk rfl rfl fun _ w hn k => ⟨_, v_lenS rfl (k.eq1 1 38 rfl) (by kernel_rfl), rfl⟩) ?_
    refine .o1 (tk rfl rfl fun _ w hn k => ⟨_, v_bin rfl (k.eq1 0 37 rfl) (k.eq1 2 39 rfl) (fun _ => rfl) (r_lssK rfl), rfl⟩) ?_
    exact .nil
  intro a554 w555 hn556 ha557
  have hs558 := ha557.size.trans hs544
  have hd559 := ha557.defers.trans hd545
  have h560 := ha557.fx 6 h547
  have h561 := ha557.fx 2 h548
  have h562 := ha557.fx 4 h549
  have h563 := ha557.fx 5 h550
  have h564 := ha557.ge 3 40 rfl
  have hb565 := hb551.new_ hn556
  have hN566 := hN546.transNew hn556
  clear hs544 hd545 h547 h548 h549 h550 hb551 hN546 ha557 hn556
  refine st_nil ?_
  refine hK553 _ _ ?_
  clear hK553 K553
  rcases Bool.eq_false_or_eq_true (decide ((i : Int) < (s.size : Int))) with ht567 | ht567
  · skip
    have ht567d := of_decide_eq_true ht567
    have hv568 : a554.eval (.tmp 40) = .bool true := h564.trans (congrArg Value.bool ht567)
    clear h564
    refine wp_cond_true hv568 ?_
    refine wp_skip ?_
    refine hK552 _ _ ?_
    clear hK552 K552
    refine wp_seq_k fun K569 hK569 => ?_
    refine wp_block ?_
    refine wp_seq_k fun K570 hK570 => ?_
    rcases Bool.eq_false_or_eq_true (decide (((bAt s i : Nat) : Int) < 48)) with ht571 | ht571
    · skip
      have ht571d := of_decide_eq_true ht571
      refine wp_g0 [true, true, true, true, true, true, true, true, true, true] [] 78
        [ve (.string s),
         ve (iv (i : Int)),
         ve (.int .u8 ((bAt s i : Nat) : Int)),
         ve (.bool true),
         ve (.bool true),
         ve undef,
         ve undef,
         ve undef,
         ve undef,
         ve (.bool true)] hs558 (.eq (.eq (.eq (.eq (.eq (.eq (.eq (.eq (.eq (.eq (.nil))))))))))) ?_ ?_
      · skip
        refine .o1 (tk rfl rfl fun _ w hn k => ⟨_, v_move rfl (k.fx 5 h563), rfl⟩) ?_
        refine .o1 (tk rfl rfl fun _ w hn k => ⟨_, v_move rfl (k.fx 6 h560), rfl⟩) ?_
        refine .o1 (tk rfl rfl fun _ w hn k => ⟨_, v_idxN rfl (k.eq1 0 43 rfl) (k.eq1 1 44 rfl) (by kernel_rfl) (by omega), rfl⟩) ?_
        refine .o1 (tk rfl rfl fun _ w hn k => ⟨_, v_bin rfl (k.eq1 2 45 rfl) rfl (fun _ => rfl) (r_lssK ht571), rfl⟩) ?_
        refine .o1 (tk rfl rfl fun _ w hn k => ⟨_, v_move rfl (k.eq1 3 46 rfl), rfl⟩) ?_
        refine .o1 (sk rfl rfl rfl (fun _ _ _ k => k.eq1 4 47 rfl) (fun _ => rfl)) ?_
        refine .o1 (sk rfl rfl rfl (fun _ _ _ k => k.eq1 4 47 rfl) (fun _ => rfl)) ?_
        refine .o1 (sk rfl rfl rfl (fun _ _ _ k => k.eq1 4 47 rfl) (fun _ => rfl)) ?_
        refine .o1 (sk rfl rfl rfl (fun _ _ _ k => k.eq1 4 47 rfl) (fun _ => rfl)) ?_
        refine .o1 (tk rfl rfl fun _ w hn k => ⟨_, v_pickT rfl (k.eq1 4 47 rfl) rfl, rfl⟩) ?_
        exact .nil
      intro a572 w573 hn574 ha575
      have hs576 := ha575.size.trans hs558
      have hd577 := ha575.defers.trans hd559
      have h578 := ha575.fx 6 h560
      have h579 := ha575.fx 2 h561
      have h580 := ha575.fx 4 h562
      have h581 := ha575.fx 5 h563
      have h582 := ha575.ge 9 52 rfl
      have hb583 := hb565.new_ hn574
      have hN584 := hN566.transNew hn574
      clear hs558 hd559 h560 h561 h562 h563 hv568 hb565 hN566 ha575 hn574
      refine st_nil ?_
      refine hK570 _ _ ?_
      clear hK570 K570
      refine wp_cond_true h582 ?_
      refine wp_seq_k fun K585 hK585 => ?_
      refine wp_g0 [true, false, false] [(1, false), (2, true)] 78
        [ve (.agg #[.bool false, sv none ([]) 0]),
         vt,
         vt] hs576 (.eq (.tt (.tt (.nil)))) ?_ ?_
      · skip
        refine .o1 (tk rfl rfl fun _ w hn k => ⟨_, v_build (ps := []) rfl parts0 (by kernel_rfl), rfl⟩) ?_
        refine .off ?_
        refine .off ?_
        exact .nil
      intro a586 w587 hn588 ha589
      have hs590 := ha589.size.trans hs576
      have hd591 := ha589.defers.trans hd577
      have h592 := ha589.fx 2 h579
      have h593 := ha589.ge 0 53 rfl
      have hb594 := hb583.new_ hn588
      have hN595 := hN584.transNew hn588
      clear hs576 hd577 h578 h579 h580 h581 h582 hb583 hN584 ha589 hn588
      obtain ⟨w596, -, hst597, hb598, hu599, hf600⟩ := s_two (v0 := .bool false) (v1 := sv none ([]) 0) Try.sizeOf24 rfl rfl rfl hb594
      refine st_act rfl rfl fun K601 hL602 => a_store' rfl h592 h593 hst597 (hL602 _ _ trivial ?_)
      have hN603 := hN595.trans hu599 (fun k hk hkb => by subst hkb; omega)
      clear hb594 hst597 K601 hL602 hN595 hu599 hf600
      refine st_take rfl rfl (y_assign (v := iv 2) rfl rfl) rfl ?_
      obtain ⟨a604, ha605⟩ : ∃ a', a' = a586.put (some 3) (iv 2) := ⟨_, rfl⟩
      have hs606 : a604.tmps.size = 78 := by rw [ha605, put_size]; exact hs590
      have hd607 : a604.defers = [] := by rw [ha605, put_defers]; exact hd591
      have h608 : a604.eval (.tmp 2) = pv q10 := by rw [ha605, put_ne _ _ _ _ (by decide)]; exact h592
      have h609 : a604.eval (.tmp 53) = .agg #[.bool false, sv none ([]) 0] := by rw [ha605, put_ne _ _ _ _ (by decide)]; exact h593
      have h610 : a604.eval (.tmp 3) = iv 2 := by rw [ha605]; exact put_same _ _ _ (by rw [hs590]; decide)
      show stepsTo _ _ _ _ _ (a586.put (some 3) (iv 2)) _
      rw [← ha605]
      clear ha605 hs590 hd591 h592 h593
      refine st_nil ?_
      clear h609
      refine hK585 _ _ ?_
      clear hK585 K585
      refine wp_ret (ret_k hd607 (v := .tuple #[.agg #[.bool false, sv none ([]) 0], iv 2]) (res_ct rfl h608 h610 (l_two Try.isAgg24 Try.sizeOf24 hb598)) ?_)
      have hs2 : (iv 2 : Value) = iv (parseZ s.data.toList).2 := by rw [pz_bad hR (.inl (digB_bad (i := i) (by omega) (.inl ht571)))]
      have hz1 : (decide ((parseZ s.data.toList).1 < 0)) = false := by rw [pz_bad hR (.inl (digB_bad (i := i) (by omega) (.inl ht571)))]; rfl
      have hz2 : canon ((parseZ s.data.toList).1).natAbs = [] := by rw [pz_bad hR (.inl (digB_bad (i := i) (by omega) (.inl ht571)))]; exact canon_zero
      exact ⟨none, 0, by rw [hz1, hz2, hs2], by rw [hz2]; exact (SRow.nil _ _), hN603⟩
    have ht571d := of_decide_eq_false ht571
    rcases Bool.eq_false_or_eq_true (decide (((bAt s i : Nat) : Int) ≤ 57)) with ht611 | ht611
    · skip
      have ht611d := of_decide_eq_true ht611
      refine wp_g0 [true, true, true, true, true, true, true, true, true, true] [] 78
        [ve (.string s),
         ve (iv (i : Int)),
         ve (.int .u8 ((bAt s i : Nat) : Int)),
         ve (.bool false),
         ve (.bool false),
         ve (.string s),
         ve (iv (i : Int)),
         ve (.int .u8 ((bAt s i : Nat) : Int)),
         ve (.bool false),
         ve (.bool false)] hs558 (.eq (.eq (.eq (.eq (.eq (.eq (.eq (.eq (.eq (.eq (.nil))))))))))) ?_ ?_
      · skip
        refine .o1 (tk rfl rfl fun _ w hn k => ⟨_, v_move rfl (k.fx 5 h563), rfl⟩) ?_
        refine .o1 (tk rfl rfl fun _ w hn k => ⟨_, v_move rfl (k.fx 6 h560), rfl⟩) ?_
        refine .o1 (tk rfl rfl fun _ w hn k => ⟨_, v_idxN rfl (k.eq1 0 43 rfl) (k.eq1 1 44 rfl) (by kernel_rfl) (by omega), rfl⟩) ?_
        refine .o1 (tk rfl rfl fun _ w hn k => ⟨_, v_bin rfl (k.eq1 2 45 rfl) rfl (fun _ => rfl) (r_lssK ht571), rfl⟩) ?_
        refine .o1 (tk rfl rfl fun _ w hn k => ⟨_, v_move rfl (k.eq1 3 46 rfl), rfl⟩) ?_
        refine .o1 (tg rfl rfl rfl (fun _ _ k => k.eq1 4 47 rfl) fun _ w hn k => ⟨_, v_move rfl (k.fx 5 h563), rfl⟩) ?_
        refine .o1 (tg rfl rfl rfl (fun _ _ k => k.eq1 4 47 rfl) fun _ w hn k => ⟨_, v_move rfl (k.fx 6 h560), rfl⟩) ?_
        refine .o1 (tg rfl rfl rfl (fun _ _ k => k.eq1 4 47 rfl) fun _ w hn k => ⟨_, v_idxN rfl (k.eq1 5 48 rfl) (k.eq1 6 49 rfl) (by kernel_rfl) (by omega), rfl⟩) ?_
        refine .o1 (tg rfl rfl rfl (fun _ _ k => k.eq1 4 47 rfl) fun _ w hn k => ⟨_, v_bin rfl (k.eq1 7 50 rfl) rfl (fun _ => rfl) (r_gtrK ht611), rfl⟩) ?_
        refine .o1 (tk rfl rfl fun _ w hn k => ⟨_, v_pickF rfl (k.eq1 4 47 rfl) (k.eq1 8 51 rfl), rfl⟩) ?_
        exact .nil
      intro a612 w613 hn614 ha615
      have hs616 := ha615.size.trans hs558
      have hd617 := ha615.defers.trans hd559
      have h618 := ha615.fx 6 h560
      have h619 := ha615.fx 2 h561
      have h620 := ha615.fx 4 h562
      have h621 := ha615.fx 5 h563
      have h622 := ha615.ge 9 52 rfl
      have hb623 := hb565.new_ hn614
      have hN624 := hN566.transNew hn614
      clear hs558 hd559 h560 h561 h562 h563 hv568 hb565 hN566 ha615 hn614
      refine st_nil ?_
      refine hK570 _ _ ?_
      clear hK570 K570
      refine wp_cond_false h622 ?_
      refine wp_skip ?_
      refine hK569 _ _ ?_
      clear hK569 K569
      refine wp_g0 [true, true, false] [(2, true)] 78
        [ve (iv (i : Int)),
         ve (iv ((i + 1 : Nat) : Int)),
         vt] hs616 (.eq (.eq (.tt (.nil)))) ?_ ?_
      · skip
        refine .o1 (tk rfl rfl fun _ w hn k => ⟨_, v_move rfl (k.fx 6 h618), rfl⟩) ?_
        refine .o1 (tk rfl rfl fun _ w hn k => ⟨_, v_bin rfl (k.eq1 0 41 rfl) rfl (fun _ => rfl) (n_add (by omega) (IntWalk.i64_in _ (by omega))), rfl⟩) ?_
        refine .off ?_
        exact .nil
      intro a625 w626 hn627 ha628
      have hs629 := ha628.size.trans hs616
      have hd630 := ha628.defers.trans hd617
      have h631 := ha628.fx 6 h618
      have h632 := ha628.fx 2 h619
      have h633 := ha628.fx 4 h620
      have h634 := ha628.fx 5 h621
      have h635 := ha628.ge 1 42 rfl
      have hb636 := hb623.new_ hn627
      have hN637 := hN624.transNew hn627
      clear hs616 hd617 h618 h619 h620 h621 h622 hb623 hN624 ha628 hn627
      refine st_take rfl rfl (y_assign (v := iv ((i + 1 : Nat) : Int)) rfl h635) rfl ?_
      obtain ⟨a638, ha639⟩ : ∃ a', a' = a625.put (some 6) (iv ((i + 1 : Nat) : Int)) := ⟨_, rfl⟩
      have hs640 : a638.tmps.size = 78 := by rw [ha639, put_size]; exact hs629
      have hd641 : a638.defers = [] := by rw [ha639, put_defers]; exact hd630
      have h642 : a638.eval (.tmp 2) = pv q10 := by rw [ha639, put_ne _ _ _ _ (by decide)]; exact h632
      have h643 : a638.eval (.tmp 4) = .bool false := by rw [ha639, put_ne _ _ _ _ (by decide)]; exact h633
      have h644 : a638.eval (.tmp 5) = .string s := by rw [ha639, put_ne _ _ _ _ (by decide)]; exact h634
      have h645 : a638.eval (.tmp 42) = iv ((i + 1 : Nat) : Int) := by rw [ha639, put_ne _ _ _ _ (by decide)]; exact h635
      have h646 : a638.eval (.tmp 6) = iv ((i + 1 : Nat) : Int) := by rw [ha639]; exact put_same _ _ _ (by rw [hs629]; decide)
      show stepsTo _ _ _ _ _ (a625.put (some 6) (iv ((i + 1 : Nat) : Int))) _
      rw [← ha639]
      clear ha639 hs629 hd630 h631 h632 h633 h634 h635
      refine st_nil ?_
      clear h645
      refine then_n ?_
      exact ⟨_, ⟨i + 1, rfl, hs640, hd641, hN637, (h646.trans (congrArg (Value.int .i64) (by omega))), h642, h643, h644, hb636, (by omega), (dig_up hdg ht571 ht611)⟩, (by omega)⟩
    have ht611d := of_decide_eq_false ht611
    refine wp_g0 [true, true, true, true, true, true, true, true, true, true] [] 78
      [ve (.string s),
       ve (iv (i : Int)),
       ve (.int .u8 ((bAt s i : Nat) : Int)),
       ve (.bool false),
       ve (.bool false),
       ve (.string s),
       ve (iv (i : Int)),
       ve (.int .u8 ((bAt s i : Nat) : Int)),
       ve (.bool true),
       ve (.bool true)] hs558 (.eq (.eq (.eq (.eq (.eq (.eq (.eq (.eq (.eq (.eq (.nil))))))))))) ?_ ?_
    · skip
      refine .o1 (tk rfl rfl fun _ w hn k => ⟨_, v_move rfl (k.fx 5 h563), rfl⟩) ?_
      refine .o1 (tk rfl rfl fun _ w hn k => ⟨_, v_move rfl (k.fx 6 h560), rfl⟩) ?_
      refine .o1 (tk rfl rfl fun _ w hn k => ⟨_, v_idxN rfl (k.eq1 0 43 rfl) (k.eq1 1 44 rfl) (by kernel_rfl) (by omega), rfl⟩) ?_
      refine .o1 (tk rfl rfl fun _ w hn k => ⟨_, v_bin rfl (k.eq1 2 45 rfl) rfl (fun _ => rfl) (r_lssK ht571), rfl⟩) ?_
      refine .o1 (tk rfl rfl fun _ w hn k => ⟨_, v_move rfl (k.eq1 3 46 rfl), rfl⟩) ?_
      refine .o1 (tg rfl rfl rfl (fun _ _ k => k.eq1 4 47 rfl) fun _ w hn k => ⟨_, v_move rfl (k.fx 5 h563), rfl⟩) ?_
      refine .o1 (tg rfl rfl rfl (fun _ _ k => k.eq1 4 47 rfl) fun _ w hn k => ⟨_, v_move rfl (k.fx 6 h560), rfl⟩) ?_
      refine .o1 (tg rfl rfl rfl (fun _ _ k => k.eq1 4 47 rfl) fun _ w hn k => ⟨_, v_idxN rfl (k.eq1 5 48 rfl) (k.eq1 6 49 rfl) (by kernel_rfl) (by omega), rfl⟩) ?_
      refine .o1 (tg rfl rfl rfl (fun _ _ k => k.eq1 4 47 rfl) fun _ w hn k => ⟨_, v_bin rfl (k.eq1 7 50 rfl) rfl (fun _ => rfl) (r_gtrK ht611), rfl⟩) ?_
      refine .o1 (tk rfl rfl fun _ w hn k => ⟨_, v_pickF rfl (k.eq1 4 47 rfl) (k.eq1 8 51 rfl), rfl⟩) ?_
      exact .nil
    intro a647 w648 hn649 ha650
    have hs651 := ha650.size.trans hs558
    have hd652 := ha650.defers.trans hd559
    have h653 := ha650.fx 6 h560
    have h654 := ha650.fx 2 h561
    have h655 := ha650.fx 4 h562
    have h656 := ha650.fx 5 h563
    have h657 := ha650.ge 9 52 rfl
    have hb658 := hb565.new_ hn649
    have hN659 := hN566.transNew hn649
    clear hs558 hd559 h560 h561 h562 h563 hv568 hb565 hN566 ha650 hn649
    refine st_nil ?_
    refine hK570 _ _ ?_
    clear hK570 K570
    refine wp_cond_true h657 ?_
    refine wp_seq_k fun K660 hK660 => ?_
    refine wp_g0 [true, false, false] [(1, false), (2, true)] 78
      [ve (.agg #[.bool false, sv none ([]) 0]),
       vt,
       vt] hs651 (.eq (.tt (.tt (.nil)))) ?_ ?_
    · skip
      refine .o1 (tk rfl rfl fun _ w hn k => ⟨_, v_build (ps := []) rfl parts0 (by kernel_rfl), rfl⟩) ?_
      refine .off ?_
      refine .off ?_
      exact .nil
    intro a661 w662 hn663 ha664
    have hs665 := ha664.size.trans hs651
    have hd666 := ha664.defers.trans hd652
    have h667 := ha664.fx 2 h654
    have h668 := ha664.ge 0 53 rfl
    have hb669 := hb658.new_ hn663
    have hN670 := hN659.transNew hn663
    clear hs651 hd652 h653 h654 h655 h656 h657 hb658 hN659 ha664 hn663
    obtain ⟨w671, -, hst672, hb673, hu674, hf675⟩ := s_two (v0 := .bool false) (v1 := sv none ([]) 0) Try.sizeOf24 rfl rfl rfl hb669
    refine st_act rfl rfl fun K676 hL677 => a_store' rfl h667 h668 hst672 (hL677 _ _ trivial ?_)
    have hN678 := hN670.trans hu674 (fun k hk hkb => by subst hkb; omega)
    clear hb669 hst672 K676 hL677 hN670 hu674 hf675
    refine st_take rfl rfl (y_assign (v := iv 2) rfl rfl) rfl ?_
    obtain ⟨a679, ha680⟩ : ∃ a', a' = a661.put (some 3) (iv 2) := ⟨_, rfl⟩
    have hs681 : a679.tmps.size = 78 := by rw [ha680, put_size]; exact hs665
    have hd682 : a679.defers = [] := by rw [ha680, put_defers]; exact hd666
    have h683 : a679.eval (.tmp 2) = pv q10 := by rw [ha680, put_ne _ _ _ _ (by decide)]; exact h667
    have h684 : a679.eval (.tmp 53) = .agg #[.bool false, sv none ([]) 0] := by rw [ha680, put_ne _ _ _ _ (by decide)]; exact h668
    have h685 : a679.eval (.tmp 3) = iv 2 := by rw [ha680]; exact put_same _ _ _ (by rw [hs665]; decide)
    show stepsTo _ _ _ _ _ (a661.put (some 3) (iv 2)) _
    rw [← ha680]
    clear ha680 hs665 hd666 h667 h668
    refine st_nil ?_
    clear h684
    refine hK660 _ _ ?_
    clear hK660 K660
    refine wp_ret (ret_k hd682 (v := .tuple #[.agg #[.bool false, sv none ([]) 0], iv 2]) (res_ct rfl h683 h685 (l_two Try.isAgg24 Try.sizeOf24 hb673)) ?_)
    have hs2 : (iv 2 : Value) = iv (parseZ s.data.toList).2 := by rw [pz_bad hR (.inl (digB_bad (i := i) (by omega) (.inr ht611)))]
    have hz1 : (decide ((parseZ s.data.toList).1 < 0)) = false := by rw [pz_bad hR (.inl (digB_bad (i := i) (by omega) (.inr ht611)))]; rfl
    have hz2 : canon ((parseZ s.data.toList).1).natAbs = [] := by rw [pz_bad hR (.inl (digB_bad (i := i) (by omega) (.inr ht611)))]; exact canon_zero
    exact ⟨none, 0, by rw [hz1, hz2, hs2], by rw [hz2]; exact (SRow.nil _ _), hN678⟩
  have ht567d := of_decide_eq_false ht567
  have hv686 : a554.eval (.tmp 40) = .bool false := h564.trans (congrArg Value.bool ht567)
  clear h564
  refine wp_cond_false hv686 ?_
  refine wp_exit ?_
  refine hK528 _ _ ?_
  clear hK528 K528 hK552 K552
  refine wp_seq_k fun K687 hK687 => ?_
  have hall : ∀ j, j < s.size → 48 ≤ bAt s j ∧ bAt s j ≤ 57 := fun j hj => hdg j (by omega)
  have hdB : digB s.data.toList = true := digB_yes hne hall hlead
  refine wp_g0 [true] [] 78
    [ve (sv none ([]) 0)] hs558 (.eq (.nil)) ?_ ?_
  · skip
    refine .o1 (tk rfl rfl fun _ w hn k => ⟨_, v_assign rfl rfl, rfl⟩) ?_
    exact .nil
  intro a688 w689 hn690 ha691
  have hs692 := ha691.size.trans hs558
  have hd693 := ha691.defers.trans hd559
  have h694 := ha691.fx 2 h561
  have h695 := ha691.fx 4 h562
  have h696 := ha691.fx 5 h563
  have h697 := ha691.ge 0 7 rfl
  have hb698 := hb565.new_ hn690
  have hN699 := hN566.transNew hn690
  clear hs558 hd559 h560 h561 h562 h563 hv686 hb565 hN566 ha691 hn690
  refine st_nil ?_
  refine hK687 _ _ ?_
  clear hK687 K687
  refine wp_seq_k fun K700 hK700 => ?_
  refine wp_seq_k fun K701 hK701 => ?_
  refine wp_g0 [true] [] 78
    [ve (iv 0)] hs692 (.eq (.nil)) ?_ ?_
  · skip
    refine .o1 (tk rfl rfl fun _ w hn k => ⟨_, v_assign rfl rfl, rfl⟩) ?_
    exact .nil
  intro a702 w703 hn704 ha705
  have hs706 := ha705.size.trans hs692
  have hd707 := ha705.defers.trans hd693
  have h708 := ha705.fx 2 h694
  have h709 := ha705.fx 4 h695
  have h710 := ha705.fx 5 h696
  have h711 := ha705.fx 7 h697
  have h712 := ha705.ge 0 8 rfl
  have hb713 := hb698.new_ hn704
  have hN714 := hN699.transNew hn704
  clear hs692 hd693 h694 h695 h696 h697 hb698 hN699 ha705 hn704
  refine st_nil ?_
  refine hK701 _ _ ?_
  clear hK701 K701
  refine wp_block ?_
  refine wp_loopX (fun (mm : Nat) (aa : Act) (ww : World) => ∃ (i2 : Nat) (A1 : Option Addr) (c1 : Nat), mm = s.size - i2 ∧ aa.tmps.size = 78 ∧ aa.defers = [] ∧ New w ww ∧ aa.eval (.tmp 7) = sv A1 (canon (decV (s.data.toList.take i2))) c1 ∧ aa.eval (.tmp 8) = iv (i2 : Int) ∧ aa.eval (.tmp 2) = pv q10 ∧ aa.eval (.tmp 4) = .bool false ∧ aa.eval (.tmp 5) = .string s ∧ Blk ww q10 24 [.bool false, sv none ([]) 0] ∧ SOwn ww w.heap.size 50 .u32 A1 (canon (decV (s.data.toList.take i2))) c1 ∧ (i2 ≤ s.size) ∧ ((canon (decV (s.data.toList.take i2))).length ≤ 8)) (fun mm => mm) ⟨_, ⟨0, none, 0, rfl, hs706, hd707, hN714, (h711.trans (by rw [List.take_zero, show decV [] = 0 from rfl, canon_zero])), h712, h708, h709, h710, hb713, (by rw [List.take_zero, show decV [] = 0 from rfl, canon_zero]; exact SOwn.nil _ _ _ _), (Nat.zero_le _), (by simp [decV, canon_zero])⟩⟩ ?_
  clear hs706 hd707 hN714 h708 h709 h710 h711 h712 hb713
  rintro mm a715 w716 ⟨i2, A1, c1, hmm, hs717, hd718, hN719, h720, h721, h722, h723, h724, hb725, hr726, hi2, hv8⟩
  refine wp_seq_k fun K727 hK727 => ?_
  refine wp_seq_k fun K728 hK728 => ?_
  refine wp_g0 [true, true, true, true] [] 78
    [ve (iv (i2 : Int)),
     ve (.string s),
     ve (iv (s.size : Int)),
     ve (.bool (decide ((i2 : Int) < (s.size : Int))))] hs717 (.eq (.eq (.eq (.eq (.nil))))) ?_ ?_
  · skip
    refine .o1 (tk rfl rfl fun _ w hn k => ⟨_, v_move rfl (k.fx 8 h721), rfl⟩) ?_
    refine .o1 (tk rfl rfl fun _ w hn k => ⟨_, v_move rfl (k.fx 5 h724), rfl⟩) ?_
    refine .o1 (tk rfl rfl fun _ w hn k => ⟨_, v_lenS rfl (k.eq1 1 55 rfl) (by kernel_rfl), rfl⟩) ?_
    refine .o1 (tk rfl rfl fun _ w hn k => ⟨_, v_bin rfl (k.eq1 0 54 rfl) (k.eq1 2 56 rfl) (fun _ => rfl) (r_lssK rfl), rfl⟩) ?_
    exact .nil
  intro a729 w730 hn731 ha732
  have hs733 := ha732.size.trans hs717
  have hd734 := ha732.defers.trans hd718
  have h735 := ha732.fx 7 h720
  have h736 := ha732.fx 8 h721
  have h737 := ha732.fx 2 h722
  have h738 := ha732.fx 4 h723
  have h739 := ha732.fx 5 h724
  have h740 := ha732.ge 3 57 rfl
  have hb741 := hb725.new_ hn731
  have hr742 := hr726.new_ hn731
  have hN743 := hN719.transNew hn731
  clear hs717 hd718 h720 h721 h722 h723 h724 hb725 hr726 hN719 ha732 hn731
  refine st_nil ?_
  refine hK728 _ _ ?_
  clear hK728 K728
  rcases Bool.eq_false_or_eq_true (decide ((i2 : Int) < (s.size : Int))) with ht744 | ht744
  · skip
    have ht744d := of_decide_eq_true ht744
    have hv745 : a729.eval (.tmp 57) = .bool true := h740.trans (congrArg Value.bool ht744)
    clear h740
    refine wp_cond_true hv745 ?_
    refine wp_skip ?_
    refine hK727 _ _ ?_
    clear hK727 K727
    refine wp_seq_k fun K746 hK746 => ?_
    refine wp_block ?_
    refine wp_seq_k fun K747 hK747 => ?_
    have hb2 := hall i2 (by omega)
    have hbl := bAt_lt s i2
    have hstep := decV_step (s := s) (i := i2) (by omega)
    have hl9 : (canon (val (canon (decV (s.data.toList.take i2))) * val [10])).length ≤ 9 := ten_len hv8
    have hl1 : (canon (val [(bAt s i2 - 48)])).length ≤ 1 := one_len (by omega)
    refine wp_g0 [true, true, true, true, true, true, true, true, true, true, true, false] [(11, true)] 78
      [ve (sv A1 (canon (decV (s.data.toList.take i2))) c1),
       (fun (v : Value) (W : World) => ∃ (A53 : Option Addr) (c54 : Nat), v = sv A53 ([10]) c54 ∧ SOwn W w730.heap.size 50 .u32 A53 ([10]) c54),
       (fun (v : Value) (W : World) => ∃ (A61 : Option Addr) (c62 : Nat), v = sv A61 (canon (val (canon (decV (s.data.toList.take i2))) * val ([10]))) c62 ∧ SOwn W w730.heap.size 50 .u32 A61 (canon (val (canon (decV (s.data.toList.take i2))) * val ([10]))) c62),
       ve (.string s),
       ve (iv (i2 : Int)),
       ve (.int .u8 ((bAt s i2 : Nat) : Int)),
       ve (.int .u8 (((bAt s i2) - 48 : Nat) : Int)),
       ve (.int .u32 (((bAt s i2) - 48 : Nat) : Int)),
       (fun (v : Value) (W : World) => ∃ (A65 : Option Addr) (c66 : Nat), v = sv A65 ([((bAt s i2) - 48)]) c66 ∧ SOwn W w730.heap.size 50 .u32 A65 ([((bAt s i2) - 48)]) c66),
       (fun (v : Value) (W : World) => ∃ (A73 : Option Addr) (c74 : Nat), v = sv A73 (canon (val ([((bAt s i2) - 48)]))) c74 ∧ SOwn W w730.heap.size 50 .u32 A73 (canon (val ([((bAt s i2) - 48)]))) c74),
       (fun (v : Value) (W : World) => ∃ (A85 : Option Addr) (c86 : Nat), v = sv A85 (canon (val (canon (val (canon (decV (s.data.toList.take i2))) * val ([10]))) + val (canon (val ([((bAt s i2) - 48)]))))) c86 ∧ SOwn W w730.heap.size 50 .u32 A85 (canon (val (canon (val (canon (decV (s.data.toList.take i2))) * val ([10]))) + val (canon (val ([((bAt s i2) - 48)]))))) c86),
       vt] hs733 (.eq (.cons (fun v W W' hn ⟨A53, c54, he, h0⟩ => ⟨A53, c54, he, h0.new_ hn⟩) (.cons (fun v W W' hn ⟨A61, c62, he, h0⟩ => ⟨A61, c62, he, h0.new_ hn⟩) (.eq (.eq (.eq (.eq (.eq (.cons (fun v W W' hn ⟨A65, c66, he, h0⟩ => ⟨A65, c66, he, h0.new_ hn⟩) (.cons (fun v W W' hn ⟨A73, c74, he, h0⟩ => ⟨A73, c74, he, h0.new_ hn⟩) (.cons (fun v W W' hn ⟨A85, c86, he, h0⟩ => ⟨A85, c86, he, h0.new_ hn⟩) (.tt (.nil))))))))))))) ?_ ?_
    · skip
      refine .o1 (tk rfl rfl fun _ w hn k => ⟨_, v_move rfl (k.fx 7 h735), rfl⟩) ?_
      refine .o1 (tkA rfl (noG rfl) fun _ w hn k => (by
            exact x_bslice (k := .u32) (ps := [(0, .int .u32 10)]) [10] rfl (parts1 rfl) elW rfl (by omega) (by omega) (by first | kernel_rfl | (simp only [enc, List.map_cons, List.map_nil, Int.toNat_natCast, Int.toNat_of_nonneg (by omega : (0 : Int) ≤ _)]; kernel_rfl)) fun A51 c52 W' hmo => ⟨A51, c52, rfl, (hmo.more hn.size)⟩)) ?_
      refine .o1 (tkC rfl (noG rfl) rfl fun _ w hn k => (by
            obtain ⟨A55, c56, e57, hx58⟩ : (fun (v : Value) (W : World) => ∃ (A53 : Option Addr) (c54 : Nat), v = sv A53 ([10]) c54 ∧ SOwn W w730.heap.size 50 .u32 A53 ([10]) c54) _ _ := k.dep 1 61 (by kernel_rfl) (by kernel_rfl)
            refine ⟨#[sv A1 (canon (decV (s.data.toList.take i2))) c1, sv A55 ([10]) c56], _, args2 (k.eq1 0 60 rfl) e57, fun w => by kernel_rfl, rtimes_c _ _ _ _ _ _ _ (hr742.new_ hn).row hx58.row (limbs_canon _) limbs_10 (by first | omega | (simp only [List.length_nil, List.length_cons, List.length_set, List.length_replicate]; omega)) (by first | omega | (simp only [List.length_nil, List.length_cons, List.length_set, List.length_replicate]; omega)), ?_⟩
            rintro e w' ⟨A59, c60, rfl, hmo, hm⟩
            exact ⟨_, rfl, hm, ⟨A59, c60, rfl, (hmo.more hn.size)⟩⟩)) ?_
      refine .o1 (tk rfl rfl fun _ w hn k => ⟨_, v_move rfl (k.fx 5 h739), rfl⟩) ?_
      refine .o1 (tk rfl rfl fun _ w hn k => ⟨_, v_move rfl (k.fx 8 h736), rfl⟩) ?_
      refine .o1 (tk rfl rfl fun _ w hn k => ⟨_, v_idxN rfl (k.eq1 3 63 rfl) (k.eq1 4 64 rfl) (by kernel_rfl) (by omega), rfl⟩) ?_
      refine .o1 (tk rfl rfl fun _ w hn k => ⟨_, v_bin rfl (k.eq1 5 65 rfl) rfl (fun _ => rfl) (n_sub (by omega) (IntWalk.u8_in _ (by omega))), rfl⟩) ?_
      refine .o1 (tk rfl rfl fun _ w hn k => ⟨_, v_conv rfl (k.eq1 6 66 rfl) (n_conv (by kernel_rfl) (by kernel_rfl) (by kernel_rfl) (IntWalk.u32_in _ (by omega))), rfl⟩) ?_
      refine .o1 (tkA rfl (noG rfl) fun _ w hn k => (by
            exact x_bslice (k := .u32) (ps := [(0, .int .u32 (((bAt s i2) - 48 : Nat) : Int))]) [((bAt s i2) - 48)] rfl (parts1 (k.eq1 7 67 rfl)) elW rfl (by omega) (by omega) (by first | kernel_rfl | (simp only [enc, List.map_cons, List.map_nil, Int.toNat_natCast, Int.toNat_of_nonneg (by omega : (0 : Int) ≤ _)]; kernel_rfl)) fun A63 c64 W' hmo => ⟨A63, c64, rfl, (hmo.more hn.size)⟩)) ?_
      refine .o1 (tkC rfl (noG rfl) rfl fun _ w hn k => (by
            obtain ⟨A67, c68, e69, hx70⟩ : (fun (v : Value) (W : World) => ∃ (A65 : Option Addr) (c66 : Nat), v = sv A65 ([((bAt s i2) - 48)]) c66 ∧ SOwn W w730.heap.size 50 .u32 A65 ([((bAt s i2) - 48)]) c66) _ _ := k.dep 8 68 (by kernel_rfl) (by kernel_rfl)
            refine ⟨#[sv A67 ([((bAt s i2) - 48)]) c68], _, args1 e69, fun w => by kernel_rfl, rtrim_c _ _ _ _ hx70.row (limbs_d (bAt_lt _ _)) (by first | omega | (simp only [List.length_nil, List.length_cons, List.length_set, List.length_replicate]; omega)), ?_⟩
            rintro e w' ⟨A71, c72, rfl, hmo, hm⟩
            exact ⟨_, rfl, hm, ⟨A71, c72, rfl, (hmo.more hn.size)⟩⟩)) ?_
      refine .o1 (tkC rfl (noG rfl) rfl fun _ w hn k => (by
            obtain ⟨A75, c76, e77, hx78⟩ : (fun (v : Value) (W : World) => ∃ (A61 : Option Addr) (c62 : Nat), v = sv A61 (canon (val (canon (decV (s.data.toList.take i2))) * val ([10]))) c62 ∧ SOwn W w730.heap.size 50 .u32 A61 (canon (val (canon (decV (s.data.toList.take i2))) * val ([10]))) c62) _ _ := k.dep 2 62 (by kernel_rfl) (by kernel_rfl)
            obtain ⟨A79, c80, e81, hx82⟩ : (fun (v : Value) (W : World) => ∃ (A73 : Option Addr) (c74 : Nat), v = sv A73 (canon (val ([((bAt s i2) - 48)]))) c74 ∧ SOwn W w730.heap.size 50 .u32 A73 (canon (val ([((bAt s i2) - 48)]))) c74) _ _ := k.dep 9 69 (by kernel_rfl) (by kernel_rfl)
            refine ⟨#[sv A75 (canon (val (canon (decV (s.data.toList.take i2))) * val ([10]))) c76, sv A79 (canon (val ([((bAt s i2) - 48)]))) c80], _, args2 e77 e81, fun w => by kernel_rfl, rplus_c _ _ _ _ _ _ _ hx78.row hx82.row (limbs_canon _) (limbs_canon _) (by first | omega | (simp only [List.length_nil, List.length_cons, List.length_set, List.length_replicate]; omega)) (by first | omega | (simp only [List.length_nil, List.length_cons, List.length_set, List.length_replicate]; omega)), ?_⟩
            rintro e w' ⟨A83, c84, rfl, hmo, hm⟩
            exact ⟨_, rfl, hm, ⟨A83, c84, rfl, (hmo.more hn.size)⟩⟩)) ?_
      refine .off ?_
      exact .nil
    intro a748 w749 hn750 ha751
    have hs752 := ha751.size.trans hs733
    have hd753 := ha751.defers.trans hd734
    have h754 := ha751.fx 7 h735
    have h755 := ha751.fx 8 h736
    have h756 := ha751.fx 2 h737
    have h757 := ha751.fx 4 h738
    have h758 := ha751.fx 5 h739
    obtain ⟨A760, cc761, h759, hr762⟩ : (fun (v : Value) (W : World) => ∃ (A85 : Option Addr) (c86 : Nat), v = sv A85 (canon (val (canon (val (canon (decV (s.data.toList.take i2))) * val ([10]))) + val (canon (val ([((bAt s i2) - 48)]))))) c86 ∧ SOwn W w730.heap.size 50 .u32 A85 (canon (val (canon (val (canon (decV (s.data.toList.take i2))) * val ([10]))) + val (canon (val ([((bAt s i2) - 48)]))))) c86) _ _ := ha751.got 10 70 rfl (by kernel_rfl)
    have h759 : a748.eval (.tmp 70) = sv A760 (canon (val (canon (val (canon (decV (s.data.toList.take i2))) * val ([10]))) + val (canon (val ([((bAt s i2) - 48)]))))) cc761 := h759
    have hb763 := hb741.new_ hn750
    have hr764 := hr742.new_ hn750
    have hr765 := hr762.more hN743.size
    have hN766 := hN743.transNew hn750
    clear hs733 hd734 h735 h736 h737 h738 h739 hv745 hb741 hr742 hr762 hN743 ha751 hn750
    refine st_take rfl rfl (y_assign (v := sv A760 (canon (val (canon (val (canon (decV (s.data.toList.take i2))) * val ([10]))) + val (canon (val ([((bAt s i2) - 48)]))))) cc761) rfl h759) rfl ?_
    obtain ⟨a767, ha768⟩ : ∃ a', a' = a748.put (some 7) (sv A760 (canon (val (canon (val (canon (decV (s.data.toList.take i2))) * val ([10]))) + val (canon (val ([((bAt s i2) - 48)]))))) cc761) := ⟨_, rfl⟩
    have hs769 : a767.tmps.size = 78 := by rw [ha768, put_size]; exact hs752
    have hd770 : a767.defers = [] := by rw [ha768, put_defers]; exact hd753
    have h771 : a767.eval (.tmp 8) = iv (i2 : Int) := by rw [ha768, put_ne _ _ _ _ (by decide)]; exact h755
    have h772 : a767.eval (.tmp 2) = pv q10 := by rw [ha768, put_ne _ _ _ _ (by decide)]; exact h756
    have h773 : a767.eval (.tmp 4) = .bool false := by rw [ha768, put_ne _ _ _ _ (by decide)]; exact h757
    have h774 : a767.eval (.tmp 5) = .string s := by rw [ha768, put_ne _ _ _ _ (by decide)]; exact h758
    have h775 : a767.eval (.tmp 70) = sv A760 (canon (val (canon (val (canon (decV (s.data.toList.take i2))) * val ([10]))) + val (canon (val ([((bAt s i2) - 48)]))))) cc761 := by rw [ha768, put_ne _ _ _ _ (by decide)]; exact h759
    have h776 : a767.eval (.tmp 7) = sv A760 (canon (val (canon (val (canon (decV (s.data.toList.take i2))) * val ([10]))) + val (canon (val ([((bAt s i2) - 48)]))))) cc761 := by rw [ha768]; exact put_same _ _ _ (by rw [hs752]; decide)
    show stepsTo _ _ _ _ _ (a748.put (some 7) (sv A760 (canon (val (canon (val (canon (decV (s.data.toList.take i2))) * val ([10]))) + val (canon (val ([((bAt s i2) - 48)]))))) cc761)) _
    rw [← ha768]
    clear ha768 hs752 hd753 h754 h755 h756 h757 h758 h759
    refine st_nil ?_
    clear h775 hr764
    have he777 : (canon (val (canon (val (canon (decV (s.data.toList.take i2))) * val ([10]))) + val (canon (val ([((bAt s i2) - 48)]))))) = (canon (decV (s.data.toList.take (i2 + 1)))) := by rw [hstep, val_canon, val_canon, val_canon, val_one, val_one, Nat.mul_comm]
    rw [he777] at h776
    rw [he777] at hr765
    refine hK747 _ _ ?_
    clear hK747 K747
    refine wp_seq_k fun K778 hK778 => ?_
    rcases Bool.eq_false_or_eq_true (decide (((canon (decV (s.data.toList.take (i2 + 1)))).length : Int) ≤ 8)) with ht779 | ht779
    · skip
      have ht779d := of_decide_eq_true ht779
      refine wp_g0 [true, true, true] [] 78
        [ve (sv A760 (canon (decV (s.data.toList.take (i2 + 1)))) cc761),
         ve (iv ((canon (decV (s.data.toList.take (i2 + 1)))).length : Int)),
         ve (.bool false)] hs769 (.eq (.eq (.eq (.nil)))) ?_ ?_
      · skip
        refine .o1 (tk rfl rfl fun _ w hn k => ⟨_, v_move rfl (k.fx 7 h776), rfl⟩) ?_
        refine .o1 (tk rfl rfl fun _ w hn k => ⟨_, v_lenR rfl elW (k.eq1 0 71 rfl), rfl⟩) ?_
        refine .o1 (tk rfl rfl fun _ w hn k => ⟨_, v_bin rfl (k.eq1 1 72 rfl) rfl (fun _ => rfl) (r_gtrK ht779), rfl⟩) ?_
        exact .nil
      intro a780 w781 hn782 ha783
      have hs784 := ha783.size.trans hs769
      have hd785 := ha783.defers.trans hd770
      have h786 := ha783.fx 8 h771
      have h787 := ha783.fx 2 h772
      have h788 := ha783.fx 4 h773
      have h789 := ha783.fx 5 h774
      have h790 := ha783.fx 7 h776
      have h791 := ha783.ge 2 73 rfl
      have hb792 := hb763.new_ hn782
      have hr793 := hr765.new_ hn782
      have hN794 := hN766.transNew hn782
      clear hs769 hd770 h771 h772 h773 h774 h776 hb763 hr765 hN766 ha783 hn782
      refine st_nil ?_
      refine hK778 _ _ ?_
      clear hK778 K778
      refine wp_cond_false h791 ?_
      refine wp_skip ?_
      refine hK746 _ _ ?_
      clear hK746 K746
      refine wp_g0 [true, true, false] [(2, true)] 78
        [ve (iv (i2 : Int)),
         ve (iv ((i2 + 1 : Nat) : Int)),
         vt] hs784 (.eq (.eq (.tt (.nil)))) ?_ ?_
      · skip
        refine .o1 (tk rfl rfl fun _ w hn k => ⟨_, v_move rfl (k.fx 8 h786), rfl⟩) ?_
        refine .o1 (tk rfl rfl fun _ w hn k => ⟨_, v_bin rfl (k.eq1 0 58 rfl) rfl (fun _ => rfl) (n_add (by omega) (IntWalk.i64_in _ (by omega))), rfl⟩) ?_
        refine .off ?_
        exact .nil
      intro a795 w796 hn797 ha798
      have hs799 := ha798.size.trans hs784
      have hd800 := ha798.defers.trans hd785
      have h801 := ha798.fx 8 h786
      have h802 := ha798.fx 2 h787
      have h803 := ha798.fx 4 h788
      have h804 := ha798.fx 5 h789
      have h805 := ha798.fx 7 h790
      have h806 := ha798.ge 1 59 rfl
      have hb807 := hb792.new_ hn797
      have hr808 := hr793.new_ hn797
      have hN809 := hN794.transNew hn797
      clear hs784 hd785 h786 h787 h788 h789 h790 h791 hb792 hr793 hN794 ha798 hn797
      refine st_take rfl rfl (y_assign (v := iv ((i2 + 1 : Nat) : Int)) rfl h806) rfl ?_
      obtain ⟨a810, ha811⟩ : ∃ a', a' = a795.put (some 8) (iv ((i2 + 1 : Nat) : Int)) := ⟨_, rfl⟩
      have hs812 : a810.tmps.size = 78 := by rw [ha811, put_size]; exact hs799
      have hd813 : a810.defers = [] := by rw [ha811, put_defers]; exact hd800
      have h814 : a810.eval (.tmp 2) = pv q10 := by rw [ha811, put_ne _ _ _ _ (by decide)]; exact h802
      have h815 : a810.eval (.tmp 4) = .bool false := by rw [ha811, put_ne _ _ _ _ (by decide)]; exact h803
      have h816 : a810.eval (.tmp 5) = .string s := by rw [ha811, put_ne _ _ _ _ (by decide)]; exact h804
      have h817 : a810.eval (.tmp 7) = sv A760 (canon (decV (s.data.toList.take (i2 + 1)))) cc761 := by rw [ha811, put_ne _ _ _ _ (by decide)]; exact h805
      have h818 : a810.eval (.tmp 59) = iv ((i2 + 1 : Nat) : Int) := by rw [ha811, put_ne _ _ _ _ (by decide)]; exact h806
      have h819 : a810.eval (.tmp 8) = iv ((i2 + 1 : Nat) : Int) := by rw [ha811]; exact put_same _ _ _ (by rw [hs799]; decide)
      show stepsTo _ _ _ _ _ (a795.put (some 8) (iv ((i2 + 1 : Nat) : Int))) _
      rw [← ha811]
      clear ha811 hs799 hd800 h801 h802 h803 h804 h805 h806
      refine st_nil ?_
      clear h818
      refine then_n ?_
      exact ⟨_, ⟨i2 + 1, A760, cc761, rfl, hs812, hd813, hN809, h817, (h819.trans (congrArg (Value.int .i64) (by omega))), h814, h815, h816, hb807, hr808, (by omega), (by omega)⟩, (by omega)⟩
    have ht779d := of_decide_eq_false ht779
    refine wp_g0 [true, true, true] [] 78
      [ve (sv A760 (canon (decV (s.data.toList.take (i2 + 1)))) cc761),
       ve (iv ((canon (decV (s.data.toList.take (i2 + 1)))).length : Int)),
       ve (.bool true)] hs769 (.eq (.eq (.eq (.nil)))) ?_ ?_
    · skip
      refine .o1 (tk rfl rfl fun _ w hn k => ⟨_, v_move rfl (k.fx 7 h776), rfl⟩) ?_
      refine .o1 (tk rfl rfl fun _ w hn k => ⟨_, v_lenR rfl elW (k.eq1 0 71 rfl), rfl⟩) ?_
      refine .o1 (tk rfl rfl fun _ w hn k => ⟨_, v_bin rfl (k.eq1 1 72 rfl) rfl (fun _ => rfl) (r_gtrK ht779), rfl⟩) ?_
      exact .nil
    intro a820 w821 hn822 ha823
    have hs824 := ha823.size.trans hs769
    have hd825 := ha823.defers.trans hd770
    have h826 := ha823.fx 8 h771
    have h827 := ha823.fx 2 h772
    have h828 := ha823.fx 4 h773
    have h829 := ha823.fx 5 h774
    have h830 := ha823.fx 7 h776
    have h831 := ha823.ge 2 73 rfl
    have hb832 := hb763.new_ hn822
    have hr833 := hr765.new_ hn822
    have hN834 := hN766.transNew hn822
    clear hs769 hd770 h771 h772 h773 h774 h776 hb763 hr765 hN766 ha823 hn822
    refine st_nil ?_
    refine hK778 _ _ ?_
    clear hK778 K778
    refine wp_cond_true h831 ?_
    refine wp_seq_k fun K835 hK835 => ?_
    refine wp_g0 [true, false, false] [(1, false), (2, true)] 78
      [ve (.agg #[.bool false, sv none ([]) 0]),
       vt,
       vt] hs824 (.eq (.tt (.tt (.nil)))) ?_ ?_
    · skip
      refine .o1 (tk rfl rfl fun _ w hn k => ⟨_, v_build (ps := []) rfl parts0 (by kernel_rfl), rfl⟩) ?_
      refine .off ?_
      refine .off ?_
      exact .nil
    intro a836 w837 hn838 ha839
    have hs840 := ha839.size.trans hs824
    have hd841 := ha839.defers.trans hd825
    have h842 := ha839.fx 2 h827
    have h843 := ha839.ge 0 74 rfl
    have hb844 := hb832.new_ hn838
    have hN845 := hN834.transNew hn838
    clear hs824 hd825 h826 h827 h828 h829 h830 h831 hb832 hr833 hN834 ha839 hn838
    obtain ⟨w846, -, hst847, hb848, hu849, hf850⟩ := s_two (v0 := .bool false) (v1 := sv none ([]) 0) Try.sizeOf24 rfl rfl rfl hb844
    refine st_act rfl rfl fun K851 hL852 => a_store' rfl h842 h843 hst847 (hL852 _ _ trivial ?_)
    have hN853 := hN845.trans hu849 (fun k hk hkb => by subst hkb; omega)
    clear hb844 hst847 K851 hL852 hN845 hu849 hf850
    refine st_take rfl rfl (y_assign (v := iv 3) rfl rfl) rfl ?_
    obtain ⟨a854, ha855⟩ : ∃ a', a' = a836.put (some 3) (iv 3) := ⟨_, rfl⟩
    have hs856 : a854.tmps.size = 78 := by rw [ha855, put_size]; exact hs840
    have hd857 : a854.defers = [] := by rw [ha855, put_defers]; exact hd841
    have h858 : a854.eval (.tmp 2) = pv q10 := by rw [ha855, put_ne _ _ _ _ (by decide)]; exact h842
    have h859 : a854.eval (.tmp 74) = .agg #[.bool false, sv none ([]) 0] := by rw [ha855, put_ne _ _ _ _ (by decide)]; exact h843
    have h860 : a854.eval (.tmp 3) = iv 3 := by rw [ha855]; exact put_same _ _ _ (by rw [hs840]; decide)
    show stepsTo _ _ _ _ _ (a836.put (some 3) (iv 3)) _
    rw [← ha855]
    clear ha855 hs840 hd841 h842 h843
    refine st_nil ?_
    clear h859
    refine hK835 _ _ ?_
    clear hK835 K835
    refine wp_ret (ret_k hd857 (v := .tuple #[.agg #[.bool false, sv none ([]) 0], iv 3]) (res_ct rfl h858 h860 (l_two Try.isAgg24 Try.sizeOf24 hb848)) ?_)
    have hs2 : (iv 3 : Value) = iv (parseZ s.data.toList).2 := by rw [pz_long hR hdB (fun h => by cases h) (dec_long ht779)]
    have hz1 : (decide ((parseZ s.data.toList).1 < 0)) = false := by rw [pz_long hR hdB (fun h => by cases h) (dec_long ht779)]; rfl
    have hz2 : canon ((parseZ s.data.toList).1).natAbs = [] := by rw [pz_long hR hdB (fun h => by cases h) (dec_long ht779)]; exact canon_zero
    exact ⟨none, 0, by rw [hz1, hz2, hs2], by rw [hz2]; exact (SRow.nil _ _), hN853⟩
  have ht744d := of_decide_eq_false ht744
  have hv861 : a729.eval (.tmp 57) = .bool false := h740.trans (congrArg Value.bool ht744)
  clear h740
  refine wp_cond_false hv861 ?_
  refine wp_exit ?_
  refine hK700 _ _ ?_
  clear hK700 K700 hK727 K727
  refine wp_seq_k fun K862 hK862 => ?_
  refine wp_g0 [true, true, true, false, false] [(3, false), (4, true)] 78
    [ve (.bool false),
     ve (sv A1 (canon (decV (s.data.toList.take i2))) c1),
     (fun (v : Value) (W : World) => ∃ (A95 : Option Addr) (c96 : Nat), v = .agg #[.bool (decide (sgn false (val (canon (decV (s.data.toList.take i2)))) < 0)), sv A95 (canon (sgn false (val (canon (decV (s.data.toList.take i2))))).natAbs) c96] ∧ SRow W .u32 A95 (canon (sgn false (val (canon (decV (s.data.toList.take i2))))).natAbs) c96),
     vt,
     vt] hs733 (.eq (.eq (.cons (fun v W W' hn ⟨A95, c96, he, h0⟩ => ⟨A95, c96, he, h0.new_ hn⟩) (.tt (.tt (.nil)))))) ?_ ?_
  · skip
    refine .o1 (tk rfl rfl fun _ w hn k => ⟨_, v_move rfl (k.fx 4 h738), rfl⟩) ?_
    refine .o1 (tk rfl rfl fun _ w hn k => ⟨_, v_move rfl (k.fx 7 h735), rfl⟩) ?_
    refine .o1 (tkC rfl (noG rfl) rfl fun _ w hn k => (by
          refine ⟨#[.bool false, sv A1 (canon (decV (s.data.toList.take i2))) c1], _, args2 (k.eq1 0 75 rfl) (k.eq1 1 76 rfl), fun w => by kernel_rfl, rmade_c _ _ _ _ _ (hr742.new_ hn).row (limbs_canon _) (by first | omega | (simp only [List.length_nil, List.length_cons, List.length_set, List.length_replicate]; omega)), ?_⟩
          rintro e w' ⟨A93, c94, rfl, hmo, hm⟩
          exact ⟨_, rfl, hm, ⟨A93, c94, rfl, hmo⟩⟩)) ?_
    refine .off ?_
    refine .off ?_
    exact .nil
  intro a863 w864 hn865 ha866
  have hs867 := ha866.size.trans hs733
  have hd868 := ha866.defers.trans hd734
  have h869 := ha866.fx 2 h737
  obtain ⟨A871, cc872, h870, hr873⟩ : (fun (v : Value) (W : World) => ∃ (A95 : Option Addr) (c96 : Nat), v = .agg #[.bool (decide (sgn false (val (canon (decV (s.data.toList.take i2)))) < 0)), sv A95 (canon (sgn false (val (canon (decV (s.data.toList.take i2))))).natAbs) c96] ∧ SRow W .u32 A95 (canon (sgn false (val (canon (decV (s.data.toList.take i2))))).natAbs) c96) _ _ := ha866.got 2 77 rfl (by kernel_rfl)
  have h870 : a863.eval (.tmp 77) = .agg #[.bool (decide (sgn false (val (canon (decV (s.data.toList.take i2)))) < 0)), sv A871 (canon (sgn false (val (canon (decV (s.data.toList.take i2))))).natAbs) cc872] := h870
  have hb874 := hb741.new_ hn865
  have hN875 := hN743.transNew hn865
  clear hs733 hd734 h735 h736 h737 h738 h739 hv861 hb741 hr742 hN743 ha866 hn865
  obtain ⟨w876, -, hst877, hb878, hu879, hf880⟩ := s_two (v0 := .bool (decide (sgn false (val (canon (decV (s.data.toList.take i2)))) < 0))) (v1 := sv A871 (canon (sgn false (val (canon (decV (s.data.toList.take i2))))).natAbs) cc872) Try.sizeOf24 rfl rfl rfl hb874
  refine st_act rfl rfl fun K881 hL882 => a_store' rfl h869 h870 hst877 (hL882 _ _ trivial ?_)
  have hr883 := hr873.far hb874 hu879 (by first | rfl | decide | simp [notK])
  have hN884 := hN875.trans hu879 (fun k hk hkb => by subst hkb; omega)
  clear hb874 hst877 K881 hL882 hN875 hr873 hu879 hf880
  refine st_take rfl rfl (y_assign (v := iv 0) rfl rfl) rfl ?_
  obtain ⟨a885, ha886⟩ : ∃ a', a' = a863.put (some 3) (iv 0) := ⟨_, rfl⟩
  have hs887 : a885.tmps.size = 78 := by rw [ha886, put_size]; exact hs867
  have hd888 : a885.defers = [] := by rw [ha886, put_defers]; exact hd868
  have h889 : a885.eval (.tmp 2) = pv q10 := by rw [ha886, put_ne _ _ _ _ (by decide)]; exact h869
  have h890 : a885.eval (.tmp 77) = .agg #[.bool (decide (sgn false (val (canon (decV (s.data.toList.take i2)))) < 0)), sv A871 (canon (sgn false (val (canon (decV (s.data.toList.take i2))))).natAbs) cc872] := by rw [ha886, put_ne _ _ _ _ (by decide)]; exact h870
  have h891 : a885.eval (.tmp 3) = iv 0 := by rw [ha886]; exact put_same _ _ _ (by rw [hs867]; decide)
  show stepsTo _ _ _ _ _ (a863.put (some 3) (iv 0)) _
  rw [← ha886]
  clear ha886 hs867 hd868 h869 h870
  refine st_nil ?_
  clear h890
  refine hK862 _ _ ?_
  clear hK862 K862
  refine wp_ret (ret_k hd888 (v := .tuple #[.agg #[.bool (decide (sgn false (val (canon (decV (s.data.toList.take i2)))) < 0)), sv A871 (canon (sgn false (val (canon (decV (s.data.toList.take i2))))).natAbs) cc872], iv 0]) (res_ct rfl h889 h891 (l_two Try.isAgg24 Try.sizeOf24 hb878)) ?_)
  have hs2 : (iv 0 : Value) = iv (parseZ s.data.toList).2 := by rw [pz_ok hR hdB (fun h => by cases h) (dec_ok (i := i2) (by omega) hv8)]
  have hz1 : sgn false (val (canon (decV (s.data.toList.take i2)))) = (parseZ s.data.toList).1 := by rw [pz_ok hR hdB (fun h => by cases h) (dec_ok (i := i2) (by omega) hv8), val_canon, dec_all (by omega)]
  exact ⟨A871, cc872, (congrArg (fun z : Int => Ending.returned (Value.tuple #[.agg #[.bool (decide (z < 0)), sv A871 (canon z.natAbs) cc872], iv 0])) hz1).trans (congrArg (fun y => Ending.returned (Value.tuple #[.agg #[.bool (decide ((parseZ s.data.toList).1 < 0)), sv A871 (canon ((parseZ s.data.toList).1).natAbs) cc872], y])) hs2), Eq.mp (congrArg (fun z : Int => SRow _ .u32 A871 (canon z.natAbs) cc872) hz1) hr883, hN884⟩
theorem rparse_c (s : ByteArray) (w : World) (hs : s.size ≤ 100000) : Calls Try.prog 17 #[.string s] w (RetZE (parseZ s.data.toList).1 (parseZ s.data.toList).2 w) := by
  by_cases h0 : s.size = 0
  · exact rparse_0 s w hs h0
  · by_cases hm : bAt s 0 = 45
    · exact rparse_m s w hs h0 hm
    · exact rparse_p s w hs h0 hm
end Go.Proofs.Ytfhflpchfgkgcaa
