/- NumCompares: the walk -/
import Derived.Test.YtldakajmhfdfgaaDoorNumF
import Derived.Test.YtldakajmhfdfgaaDoorNumMath1
namespace Go.Proofs.YtldakajmhfdfgaaDoor
open Go.RowKit
set_option linter.unusedSimpArgs false
set_option linter.unusedVariables false
set_option maxHeartbeats 8000000 in
set_option maxRecDepth 100000 in
theorem compares_walk (a : Nm) (b : Nm) (w : World) : Calls Tryd.prog 11 #[nv a, nv b] w (IsRet (.bool true) w) := by
  refine enter_abs Tryd.func11 rfl fun a0 hs0 hd0 hp => ?_
  have hs0 : a0.tmps.size = 86 := hs0
  have hN0 : New w w := Upd.refl _ _
  have hp0 : a0.eval (.tmp 0) = nv a := hp 0 _ rfl
  have hp1 : a0.eval (.tmp 1) = nv b := hp 1 _ rfl
  clear hp
  refine wp_seq_k fun K hK => ?_
  refine wp_g [true, true, true] [] [] 86
    [IsNew w 23 [iv a.k, iv a.n],
     IsNew w 23 [iv b.k, iv b.n],
     ve (.bool false)]
    [0, 1] (newsCons (fun v w h => IsNew.old h) (newsCons (fun v w h => IsNew.old h) newsNil)) hs0 (.nw (.nw (.eq (.nil)))) ?_ (fun i h => by cases h) ?_
  · skip
    refine .o2 (step_allocN (cs := [iv a.k, iv a.n]) (t := 23) rfl (noG rfl) (fun _ w hn k => v_box rfl (k.fx 0 hp0) (fun w => rfl)) (fun q _ hq hb => ⟨q, rfl, hq, hb⟩)) ?_
    refine .o2 (step_allocN (cs := [iv b.k, iv b.n]) (t := 23) rfl (noG rfl) (fun _ w hn k => v_box rfl (k.fx 1 hp1) (fun w => rfl)) (fun q _ hq hb => ⟨q, rfl, hq, hb⟩)) ?_
    refine .o1 (tk rfl rfl fun _ w hn k => ⟨_, v_assign rfl rfl, rfl⟩) ?_
    exact .nil
  intro a1 w2 hn3 ha4
  have hs5 := ha4.size.trans hs0
  have hd6 := ha4.defers.trans hd0
  obtain ⟨q8, h7, hq9, hb10⟩ : IsNew _ _ _ _ _ := ha4.got 0 2 rfl (by kernel_rfl)
  obtain ⟨q12, h11, hq13, hb14⟩ : IsNew _ _ _ _ _ := ha4.got 1 3 rfl (by kernel_rfl)
  have h15 := ha4.ge 2 4 rfl
  have hq16 := Nat.le_trans hN0.size hq9
  have hq17 := Nat.le_trans hN0.size hq13
  have hN18 := hN0.transNew hn3
  clear hs0 hd0 hp0 hp1 hq9 hq13 hN0 ha4 hn3
  refine st_nil ?_
  refine hK _ _ ?_
  clear hK K
  refine wp_seq_k fun K hK => ?_
  refine wp_seq_k fun K hK => ?_
  refine wp_g0 [true, true] [] 86
    [ve (.bool true),
     ve (.bool false)] hs5 (.eq (.eq (.nil))) ?_ ?_
  · skip
    refine .o1 (ck rfl rfl rfl (fun _ w hn k => ⟨#[], rfl, fun _ => by kernel_rfl, first_c  _⟩) fun _ => rfl) ?_
    refine .o1 (tk rfl rfl fun _ w hn k => ⟨_, v_not rfl (k.eq1 0 11 rfl), rfl⟩) ?_
    exact .nil
  intro a19 w20 hn21 ha22
  have hs23 := ha22.size.trans hs5
  have hd24 := ha22.defers.trans hd6
  have h25 := ha22.fx 2 h7
  have h26 := ha22.fx 3 h11
  have h27 := ha22.fx 4 h15
  have h28 := ha22.ge 1 12 rfl
  have hb29 := hb10.new_ hn21
  have hb30 := hb14.new_ hn21
  have hN31 := hN18.transNew hn21
  clear hs5 hd6 h7 h11 h15 hb10 hb14 hN18 ha22 hn21
  refine st_nil ?_
  refine hK _ _ ?_
  clear hK K
  refine wp_cond_false h28 ?_
  refine wp_skip ?_
  refine hK _ _ ?_
  clear hK K
  refine wp_seq_k fun K hK => ?_
  refine wp_g0 [true, true, true, true, true, true, true, true, true, true, true, true] [] 86
    [ve (nv a),
     ve (nv b),
     ve (.bool (lessM a b)),
     ve (nv b),
     ve (nv a),
     ve (.bool (lessM b a)),
     ve (nv a),
     ve (nv b),
     ve (.bool (equalM a b)),
     ve (.bool (lessM a b)),
     ve (.bool (lessM b a)),
     ve (.bool (equalM a b))] hs23 (.eq (.eq (.eq (.eq (.eq (.eq (.eq (.eq (.eq (.eq (.eq (.eq (.nil))))))))))))) ?_ ?_
  · skip
    refine .o1 (tk rfl rfl fun _ w hn k => ⟨_, v_load rfl (k.fx 2 h25) (l_two Tryd.isAgg23 Tryd.sizeOf23 (hb29.new_ hn)), rfl⟩) ?_
    refine .o1 (tk rfl rfl fun _ w hn k => ⟨_, v_load rfl (k.fx 3 h26) (l_two Tryd.isAgg23 Tryd.sizeOf23 (hb30.new_ hn)), rfl⟩) ?_
    refine .o1 (ck rfl rfl rfl (fun _ w hn k => ⟨#[nv a, nv b], args2 (k.eq1 0 13 rfl) (k.eq1 1 14 rfl), fun _ => by kernel_rfl, less_c a b _⟩) fun _ => rfl) ?_
    refine .o1 (tk rfl rfl fun _ w hn k => ⟨_, v_load rfl (k.fx 3 h26) (l_two Tryd.isAgg23 Tryd.sizeOf23 (hb30.new_ hn)), rfl⟩) ?_
    refine .o1 (tk rfl rfl fun _ w hn k => ⟨_, v_load rfl (k.fx 2 h25) (l_two Tryd.isAgg23 Tryd.sizeOf23 (hb29.new_ hn)), rfl⟩) ?_
    refine .o1 (ck rfl rfl rfl (fun _ w hn k => ⟨#[nv b, nv a], args2 (k.eq1 3 16 rfl) (k.eq1 4 17 rfl), fun _ => by kernel_rfl, less_c b a _⟩) fun _ => rfl) ?_
    refine .o1 (tk rfl rfl fun _ w hn k => ⟨_, v_load rfl (k.fx 2 h25) (l_two Tryd.isAgg23 Tryd.sizeOf23 (hb29.new_ hn)), rfl⟩) ?_
    refine .o1 (tk rfl rfl fun _ w hn k => ⟨_, v_load rfl (k.fx 3 h26) (l_two Tryd.isAgg23 Tryd.sizeOf23 (hb30.new_ hn)), rfl⟩) ?_
    refine .o1 (ck rfl rfl rfl (fun _ w hn k => ⟨#[nv a, nv b], args2 (k.eq1 6 19 rfl) (k.eq1 7 20 rfl), fun _ => by kernel_rfl, equal_c a b _⟩) fun _ => rfl) ?_
    refine .o1 (tk rfl rfl fun _ w hn k => ⟨_, v_assign rfl (k.eq1 2 15 rfl), rfl⟩) ?_
    refine .o1 (tk rfl rfl fun _ w hn k => ⟨_, v_assign rfl (k.eq1 5 18 rfl), rfl⟩) ?_
    refine .o1 (tk rfl rfl fun _ w hn k => ⟨_, v_assign rfl (k.eq1 8 21 rfl), rfl⟩) ?_
    exact .nil
  intro a32 w33 hn34 ha35
  have hs36 := ha35.size.trans hs23
  have hd37 := ha35.defers.trans hd24
  have h38 := ha35.fx 2 h25
  have h39 := ha35.fx 3 h26
  have h40 := ha35.fx 4 h27
  have h41 := ha35.ge 9 5 rfl
  have h42 := ha35.ge 10 6 rfl
  have h43 := ha35.ge 11 7 rfl
  have hb44 := hb29.new_ hn34
  have hb45 := hb30.new_ hn34
  have hN46 := hN31.transNew hn34
  clear hs23 hd24 h25 h26 h27 h28 hb29 hb30 hN31 ha35 hn34
  refine st_nil ?_
  refine hK _ _ ?_
  clear hK K
  refine wp_seq_k fun K hK => ?_
  rcases Bool.eq_false_or_eq_true (equalM a a) with ht47 | ht47
  · skip
    rcases Bool.eq_false_or_eq_true (equalM b b) with ht48 | ht48
    · skip
      refine wp_g0 [true, true, true, true, true, true, true, true, true, true, true] [] 86
        [ve (nv a),
         ve (nv a),
         ve (.bool true),
         ve (.bool false),
         ve (.bool false),
         ve (nv b),
         ve (nv b),
         ve (.bool true),
         ve (.bool false),
         ve (.bool false),
         ve (.bool false)] hs36 (.eq (.eq (.eq (.eq (.eq (.eq (.eq (.eq (.eq (.eq (.eq (.nil)))))))))))) ?_ ?_
      · skip
        refine .o1 (tk rfl rfl fun _ w hn k => ⟨_, v_load rfl (k.fx 2 h38) (l_two Tryd.isAgg23 Tryd.sizeOf23 (hb44.new_ hn)), rfl⟩) ?_
        refine .o1 (tk rfl rfl fun _ w hn k => ⟨_, v_load rfl (k.fx 2 h38) (l_two Tryd.isAgg23 Tryd.sizeOf23 (hb44.new_ hn)), rfl⟩) ?_
        refine .o1 (ck rfl rfl rfl (fun _ w hn k => ⟨#[nv a, nv a], args2 (k.eq1 0 22 rfl) (k.eq1 1 23 rfl), fun _ => by kernel_rfl, equal_c a a _⟩) fun _ => congrArg Value.bool ht47) ?_
        refine .o1 (tk rfl rfl fun _ w hn k => ⟨_, v_not rfl (k.eq1 2 24 rfl), rfl⟩) ?_
        refine .o1 (tk rfl rfl fun _ w hn k => ⟨_, v_move rfl (k.eq1 3 25 rfl), rfl⟩) ?_
        refine .o1 (tg rfl rfl rfl (fun _ _ k => k.eq1 4 26 rfl) fun _ w hn k => ⟨_, v_load rfl (k.fx 3 h39) (l_two Tryd.isAgg23 Tryd.sizeOf23 (hb45.new_ hn)), rfl⟩) ?_
        refine .o1 (tg rfl rfl rfl (fun _ _ k => k.eq1 4 26 rfl) fun _ w hn k => ⟨_, v_load rfl (k.fx 3 h39) (l_two Tryd.isAgg23 Tryd.sizeOf23 (hb45.new_ hn)), rfl⟩) ?_
        refine .o1 (cg rfl rfl rfl (fun _ _ k => k.eq1 4 26 rfl) rfl (fun _ w hn k => ⟨#[nv b, nv b], args2 (k.eq1 5 27 rfl) (k.eq1 6 28 rfl), fun _ => by kernel_rfl, equal_c b b _⟩) fun _ => congrArg Value.bool ht48) ?_
        refine .o1 (tg rfl rfl rfl (fun _ _ k => k.eq1 4 26 rfl) fun _ w hn k => ⟨_, v_not rfl (k.eq1 7 29 rfl), rfl⟩) ?_
        refine .o1 (tk rfl rfl fun _ w hn k => ⟨_, v_pickF rfl (k.eq1 4 26 rfl) (k.eq1 8 30 rfl), rfl⟩) ?_
        refine .o1 (tk rfl rfl fun _ w hn k => ⟨_, v_assign rfl (k.eq1 9 31 rfl), rfl⟩) ?_
        exact .nil
      intro a49 w50 hn51 ha52
      have hs53 := ha52.size.trans hs36
      have hd54 := ha52.defers.trans hd37
      have h55 := ha52.fx 2 h38
      have h56 := ha52.fx 3 h39
      have h57 := ha52.fx 4 h40
      have h58 := ha52.fx 5 h41
      have h59 := ha52.fx 6 h42
      have h60 := ha52.fx 7 h43
      have h61 := ha52.ge 10 8 rfl
      have hb62 := hb44.new_ hn51
      have hb63 := hb45.new_ hn51
      have hN64 := hN46.transNew hn51
      clear hs36 hd37 h38 h39 h40 h41 h42 h43 hb44 hb45 hN46 ha52 hn51
      refine st_nil ?_
      refine hK _ _ ?_
      clear hK K
      refine wp_seq_k fun K hK => ?_
      refine wp_g0 [true] [] 86
        [ve (iv 0)] hs53 (.eq (.nil)) ?_ ?_
      · skip
        refine .o1 (tk rfl rfl fun _ w hn k => ⟨_, v_assign rfl rfl, rfl⟩) ?_
        exact .nil
      intro a65 w66 hn67 ha68
      have hs69 := ha68.size.trans hs53
      have hd70 := ha68.defers.trans hd54
      have h71 := ha68.fx 2 h55
      have h72 := ha68.fx 3 h56
      have h73 := ha68.fx 4 h57
      have h74 := ha68.fx 5 h58
      have h75 := ha68.fx 6 h59
      have h76 := ha68.fx 7 h60
      have h77 := ha68.fx 8 h61
      have h78 := ha68.ge 0 9 rfl
      have hb79 := hb62.new_ hn67
      have hb80 := hb63.new_ hn67
      have hN81 := hN64.transNew hn67
      clear hs53 hd54 h55 h56 h57 h58 h59 h60 h61 hb62 hb63 hN64 ha68 hn67
      refine st_nil ?_
      refine hK _ _ ?_
      clear hK K
      refine wp_seq_k fun K hK => ?_
      refine wp_seq_k fun K hK => ?_
      refine wp_g0 [true] [] 86
        [ve (.bool (lessM a b))] hs69 (.eq (.nil)) ?_ ?_
      · skip
        refine .o1 (tk rfl rfl fun _ w hn k => ⟨_, v_move rfl (k.fx 5 h74), rfl⟩) ?_
        exact .nil
      intro a82 w83 hn84 ha85
      have hs86 := ha85.size.trans hs69
      have hd87 := ha85.defers.trans hd70
      have h88 := ha85.fx 2 h71
      have h89 := ha85.fx 3 h72
      have h90 := ha85.fx 4 h73
      have h91 := ha85.fx 6 h75
      have h92 := ha85.fx 7 h76
      have h93 := ha85.fx 8 h77
      have h94 := ha85.fx 9 h78
      have h95 := ha85.ge 0 32 rfl
      have hb96 := hb79.new_ hn84
      have hb97 := hb80.new_ hn84
      have hN98 := hN81.transNew hn84
      clear hs69 hd70 h71 h72 h73 h74 h75 h76 h77 h78 hb79 hb80 hN81 ha85 hn84
      refine st_nil ?_
      refine hK _ _ ?_
      clear hK K
      rcases Bool.eq_false_or_eq_true (lessM a b) with ht99 | ht99
      · skip
        have hv100 : a82.eval (.tmp 32) = .bool true := h95.trans (congrArg Value.bool ht99)
        clear h95
        refine wp_cond_true hv100 ?_
        refine wp_g0 [true, true, false] [(2, true)] 86
          [ve (iv 0),
           ve (iv 1),
           vt] hs86 (.eq (.eq (.tt (.nil)))) ?_ ?_
        · skip
          refine .o1 (tk rfl rfl fun _ w hn k => ⟨_, v_move rfl (k.fx 9 h94), rfl⟩) ?_
          refine .o1 (tk rfl rfl fun _ w hn k => ⟨_, v_bin rfl (k.eq1 0 33 rfl) rfl (fun _ => rfl) (fun w => by kernel_rfl), rfl⟩) ?_
          refine .off ?_
          exact .nil
        intro a101 w102 hn103 ha104
        have hs105 := ha104.size.trans hs86
        have hd106 := ha104.defers.trans hd87
        have h107 := ha104.fx 2 h88
        have h108 := ha104.fx 3 h89
        have h109 := ha104.fx 4 h90
        have h110 := ha104.fx 6 h91
        have h111 := ha104.fx 7 h92
        have h112 := ha104.fx 8 h93
        have h113 := ha104.fx 9 h94
        have h114 := ha104.ge 1 34 rfl
        have hb115 := hb96.new_ hn103
        have hb116 := hb97.new_ hn103
        have hN117 := hN98.transNew hn103
        clear hs86 hd87 h88 h89 h90 h91 h92 h93 h94 hv100 hb96 hb97 hN98 ha104 hn103
        refine st_take rfl rfl (y_assign (v := iv 1) rfl h114) rfl ?_
        obtain ⟨a118, ha119⟩ : ∃ a', a' = a101.put (some 9) (iv 1) := ⟨_, rfl⟩
        have hs120 : a118.tmps.size = 86 := by rw [ha119, put_size]; exact hs105
        have hd121 : a118.defers = [] := by rw [ha119, put_defers]; exact hd106
        have h122 : a118.eval (.tmp 2) = pv q8 := by rw [ha119, put_ne _ _ _ _ (by decide)]; exact h107
        have h123 : a118.eval (.tmp 3) = pv q12 := by rw [ha119, put_ne _ _ _ _ (by decide)]; exact h108
        have h124 : a118.eval (.tmp 4) = .bool false := by rw [ha119, put_ne _ _ _ _ (by decide)]; exact h109
        have h125 : a118.eval (.tmp 6) = .bool (lessM b a) := by rw [ha119, put_ne _ _ _ _ (by decide)]; exact h110
        have h126 : a118.eval (.tmp 7) = .bool (equalM a b) := by rw [ha119, put_ne _ _ _ _ (by decide)]; exact h111
        have h127 : a118.eval (.tmp 8) = .bool false := by rw [ha119, put_ne _ _ _ _ (by decide)]; exact h112
        have h128 : a118.eval (.tmp 34) = iv 1 := by rw [ha119, put_ne _ _ _ _ (by decide)]; exact h114
        have h129 : a118.eval (.tmp 9) = iv 1 := by rw [ha119]; exact put_same _ _ _ (by rw [hs105]; decide)
        show stepsTo _ _ _ _ _ (a101.put (some 9) (iv 1)) _
        rw [← ha119]
        clear ha119 hs105 hd106 h107 h108 h109 h110 h111 h112 h113 h114
        refine st_nil ?_
        clear h128
        refine hK _ _ ?_
        clear hK K
        refine wp_seq_k fun K hK => ?_
        refine wp_seq_k fun K hK => ?_
        refine wp_g0 [true] [] 86
          [ve (.bool (lessM b a))] hs120 (.eq (.nil)) ?_ ?_
        · skip
          refine .o1 (tk rfl rfl fun _ w hn k => ⟨_, v_move rfl (k.fx 6 h125), rfl⟩) ?_
          exact .nil
        intro a130 w131 hn132 ha133
        have hs134 := ha133.size.trans hs120
        have hd135 := ha133.defers.trans hd121
        have h136 := ha133.fx 2 h122
        have h137 := ha133.fx 3 h123
        have h138 := ha133.fx 4 h124
        have h139 := ha133.fx 7 h126
        have h140 := ha133.fx 8 h127
        have h141 := ha133.fx 9 h129
        have h142 := ha133.ge 0 35 rfl
        have hb143 := hb115.new_ hn132
        have hb144 := hb116.new_ hn132
        have hN145 := hN117.transNew hn132
        clear hs120 hd121 h122 h123 h124 h125 h126 h127 h129 hb115 hb116 hN117 ha133 hn132
        refine st_nil ?_
        refine hK _ _ ?_
        clear hK K
        have ht146 : (lessM b a) = false := less_asymm ht99
        have hv147 : a130.eval (.tmp 35) = .bool false := h142.trans (congrArg Value.bool ht146)
        clear h142
        refine wp_cond_false hv147 ?_
        refine wp_skip ?_
        refine hK _ _ ?_
        clear hK K
        refine wp_seq_k fun K hK => ?_
        refine wp_seq_k fun K hK => ?_
        refine wp_g0 [true] [] 86
          [ve (.bool (equalM a b))] hs134 (.eq (.nil)) ?_ ?_
        · skip
          refine .o1 (tk rfl rfl fun _ w hn k => ⟨_, v_move rfl (k.fx 7 h139), rfl⟩) ?_
          exact .nil
        intro a148 w149 hn150 ha151
        have hs152 := ha151.size.trans hs134
        have hd153 := ha151.defers.trans hd135
        have h154 := ha151.fx 2 h136
        have h155 := ha151.fx 3 h137
        have h156 := ha151.fx 4 h138
        have h157 := ha151.fx 7 h139
        have h158 := ha151.fx 8 h140
        have h159 := ha151.fx 9 h141
        have h160 := ha151.ge 0 38 rfl
        have hb161 := hb143.new_ hn150
        have hb162 := hb144.new_ hn150
        have hN163 := hN145.transNew hn150
        clear hs134 hd135 h136 h137 h138 h139 h140 h141 hv147 hb143 hb144 hN145 ha151 hn150
        refine st_nil ?_
        refine hK _ _ ?_
        clear hK K
        have ht164 : (equalM a b) = false := less_ne ht99
        have hv165 : a148.eval (.tmp 7) = .bool false := h157.trans (congrArg Value.bool ht164)
        clear h157
        have hv166 : a148.eval (.tmp 38) = .bool false := h160.trans (congrArg Value.bool ht164)
        clear h160
        refine wp_cond_false hv166 ?_
        refine wp_skip ?_
        refine hK _ _ ?_
        clear hK K
        refine wp_seq_k fun K hK => ?_
        refine wp_seq_k fun K hK => ?_
        refine wp_g0 [true] [] 86
          [ve (.bool false)] hs152 (.eq (.nil)) ?_ ?_
        · skip
          refine .o1 (tk rfl rfl fun _ w hn k => ⟨_, v_move rfl (k.fx 8 h158), rfl⟩) ?_
          exact .nil
        intro a167 w168 hn169 ha170
        have hs171 := ha170.size.trans hs152
        have hd172 := ha170.defers.trans hd153
        have h173 := ha170.fx 2 h154
        have h174 := ha170.fx 3 h155
        have h175 := ha170.fx 4 h156
        have h176 := ha170.fx 7 hv165
        have h177 := ha170.fx 8 h158
        have h178 := ha170.fx 9 h159
        have h179 := ha170.ge 0 41 rfl
        have hb180 := hb161.new_ hn169
        have hb181 := hb162.new_ hn169
        have hN182 := hN163.transNew hn169
        clear hs152 hd153 h154 h155 h156 hv165 h158 h159 hv166 hb161 hb162 hN163 ha170 hn169
        refine st_nil ?_
        refine hK _ _ ?_
        clear hK K
        refine wp_cond_false h179 ?_
        refine wp_skip ?_
        refine hK _ _ ?_
        clear hK K
        refine wp_seq_k fun K hK => ?_
        refine wp_g0 [true, true, true, true] [] 86
          [ve (nv a),
           ve (nv b),
           ve (.bool (sameM a b)),
           ve (.bool (sameM a b))] hs171 (.eq (.eq (.eq (.eq (.nil))))) ?_ ?_
        · skip
          refine .o1 (tk rfl rfl fun _ w hn k => ⟨_, v_load rfl (k.fx 2 h173) (l_two Tryd.isAgg23 Tryd.sizeOf23 (hb180.new_ hn)), rfl⟩) ?_
          refine .o1 (tk rfl rfl fun _ w hn k => ⟨_, v_load rfl (k.fx 3 h174) (l_two Tryd.isAgg23 Tryd.sizeOf23 (hb181.new_ hn)), rfl⟩) ?_
          refine .o1 (ck rfl rfl rfl (fun _ w hn k => ⟨#[nv a, nv b], args2 (k.eq1 0 44 rfl) (k.eq1 1 45 rfl), fun _ => by kernel_rfl, same_c a b _⟩) fun _ => rfl) ?_
          refine .o1 (tk rfl rfl fun _ w hn k => ⟨_, v_assign rfl (k.eq1 2 46 rfl), rfl⟩) ?_
          exact .nil
        intro a183 w184 hn185 ha186
        have hs187 := ha186.size.trans hs171
        have hd188 := ha186.defers.trans hd172
        have h189 := ha186.fx 2 h173
        have h190 := ha186.fx 3 h174
        have h191 := ha186.fx 4 h175
        have h192 := ha186.fx 7 h176
        have h193 := ha186.fx 8 h177
        have h194 := ha186.fx 9 h178
        have h195 := ha186.ge 3 10 rfl
        have hb196 := hb180.new_ hn185
        have hb197 := hb181.new_ hn185
        have hN198 := hN182.transNew hn185
        clear hs171 hd172 h173 h174 h175 h176 h177 h178 h179 hb180 hb181 hN182 ha186 hn185
        refine st_nil ?_
        refine hK _ _ ?_
        clear hK K
        refine wp_seq_k fun K hK => ?_
        have ht199 : (sameM a b) = false := same_eq ht47 ht164
        have hv200 : a183.eval (.tmp 10) = .bool false := h195.trans (congrArg Value.bool ht199)
        clear h195
        have ht201 : (sameM a a) = true := sameM_refl a
        have ht202 : (sameM b a) = false := (sameM_comm b a).trans ht199
        refine wp_g0 [true, true, true, true, true, true, true, true, true, true, true, true, true, true, true, true, true, true, true, true, true, true, true, true, true, true, true, true, true, true, true, true, true, true, true, true, true, true, true, true] [] 86
          [ve (.bool true),
           ve (.bool true),
           ve (iv 1),
           ve (.bool true),
           ve (.bool true),
           ve (.bool true),
           ve (.bool false),
           ve (.bool true),
           ve (.bool true),
           ve undef,
           ve (.bool true),
           ve (.bool true),
           ve undef,
           ve (.bool true),
           ve (.bool true),
           ve (.bool true),
           ve (.bool false),
           ve (.bool true),
           ve (.bool true),
           ve undef,
           ve (.bool true),
           ve (.bool true),
           ve undef,
           ve undef,
           ve undef,
           ve (.bool true),
           ve (.bool true),
           ve (.bool true),
           ve (nv a),
           ve (nv a),
           ve (.bool true),
           ve (.bool true),
           ve (.bool true),
           ve (.bool false),
           ve (nv b),
           ve (nv a),
           ve (.bool false),
           ve (.bool true),
           ve (.bool true),
           ve (.bool true)] hs187 (.eq (.eq (.eq (.eq (.eq (.eq (.eq (.eq (.eq (.eq (.eq (.eq (.eq (.eq (.eq (.eq (.eq (.eq (.eq (.eq (.eq (.eq (.eq (.eq (.eq (.eq (.eq (.eq (.eq (.eq (.eq (.eq (.eq (.eq (.eq (.eq (.eq (.eq (.eq (.eq (.nil))))))))))))))))))))))))))))))))))))))))) ?_ ?_
        · skip
          refine .o1 (ck rfl rfl rfl (fun _ w hn k => ⟨#[], rfl, fun _ => by kernel_rfl, first_c  _⟩) fun _ => rfl) ?_
          refine .o1 (tk rfl rfl fun _ w hn k => ⟨_, v_move rfl (k.eq1 0 47 rfl), rfl⟩) ?_
          refine .o1 (tg rfl rfl rfl (fun _ _ k => k.eq1 1 48 rfl) fun _ w hn k => ⟨_, v_move rfl (k.fx 9 h194), rfl⟩) ?_
          refine .o1 (tg rfl rfl rfl (fun _ _ k => k.eq1 1 48 rfl) fun _ w hn k => ⟨_, v_bin rfl (k.eq1 2 49 rfl) rfl (fun _ => rfl) (fun w => by kernel_rfl), rfl⟩) ?_
          refine .o1 (tk rfl rfl fun _ w hn k => ⟨_, v_pickT rfl (k.eq1 1 48 rfl) (k.eq1 3 50 rfl), rfl⟩) ?_
          refine .o1 (tk rfl rfl fun _ w hn k => ⟨_, v_move rfl (k.eq1 4 51 rfl), rfl⟩) ?_
          refine .o1 (tg rfl rfl rfl (fun _ _ k => k.eq1 5 52 rfl) fun _ w hn k => ⟨_, v_move rfl (k.fx 10 hv200), rfl⟩) ?_
          refine .o1 (tg rfl rfl rfl (fun _ _ k => k.eq1 5 52 rfl) fun _ w hn k => ⟨_, v_not rfl (k.eq1 6 53 rfl), rfl⟩) ?_
          refine .o1 (tg rfl rfl rfl (fun _ _ k => k.eq1 5 52 rfl) fun _ w hn k => ⟨_, v_move rfl (k.eq1 7 54 rfl), rfl⟩) ?_
          refine .o1 (sk rfl rfl rfl (fun _ _ _ k => k.eq1 8 55 rfl) (fun _ => rfl)) ?_
          refine .o1 (tg rfl rfl rfl (fun _ _ k => k.eq1 5 52 rfl) fun _ w hn k => ⟨_, v_pickT rfl (k.eq1 8 55 rfl) rfl, rfl⟩) ?_
          refine .o1 (tg rfl rfl rfl (fun _ _ k => k.eq1 5 52 rfl) fun _ w hn k => ⟨_, v_move rfl (k.eq1 10 57 rfl), rfl⟩) ?_
          refine .o1 (sk rfl rfl rfl (fun _ _ _ k => k.eq1 11 58 rfl) (fun _ => rfl)) ?_
          refine .o1 (tg rfl rfl rfl (fun _ _ k => k.eq1 5 52 rfl) fun _ w hn k => ⟨_, v_pickT rfl (k.eq1 11 58 rfl) rfl, rfl⟩) ?_
          refine .o1 (tk rfl rfl fun _ w hn k => ⟨_, v_pickT rfl (k.eq1 5 52 rfl) (k.eq1 13 60 rfl), rfl⟩) ?_
          refine .o1 (tk rfl rfl fun _ w hn k => ⟨_, v_move rfl (k.eq1 14 61 rfl), rfl⟩) ?_
          refine .o1 (tg rfl rfl rfl (fun _ _ k => k.eq1 15 62 rfl) fun _ w hn k => ⟨_, v_move rfl (k.fx 7 h192), rfl⟩) ?_
          refine .o1 (tg rfl rfl rfl (fun _ _ k => k.eq1 15 62 rfl) fun _ w hn k => ⟨_, v_not rfl (k.eq1 16 63 rfl), rfl⟩) ?_
          refine .o1 (tg rfl rfl rfl (fun _ _ k => k.eq1 15 62 rfl) fun _ w hn k => ⟨_, v_move rfl (k.eq1 17 64 rfl), rfl⟩) ?_
          refine .o1 (sk rfl rfl rfl (fun _ _ _ k => k.eq1 18 65 rfl) (fun _ => rfl)) ?_
          refine .o1 (tg rfl rfl rfl (fun _ _ k => k.eq1 15 62 rfl) fun _ w hn k => ⟨_, v_pickT rfl (k.eq1 18 65 rfl) rfl, rfl⟩) ?_
          refine .o1 (tg rfl rfl rfl (fun _ _ k => k.eq1 15 62 rfl) fun _ w hn k => ⟨_, v_move rfl (k.eq1 20 67 rfl), rfl⟩) ?_
          refine .o1 (sk rfl rfl rfl (fun _ _ _ k => k.eq1 21 68 rfl) (fun _ => rfl)) ?_
          refine .o1 (sk rfl rfl rfl (fun _ _ _ k => k.eq1 21 68 rfl) (fun _ => rfl)) ?_
          refine .o1 (sk rfl rfl rfl (fun _ _ _ k => k.eq1 21 68 rfl) (fun _ => rfl)) ?_
          refine .o1 (tg rfl rfl rfl (fun _ _ k => k.eq1 15 62 rfl) fun _ w hn k => ⟨_, v_pickT rfl (k.eq1 21 68 rfl) rfl, rfl⟩) ?_
          refine .o1 (tk rfl rfl fun _ w hn k => ⟨_, v_pickT rfl (k.eq1 15 62 rfl) (k.eq1 25 72 rfl), rfl⟩) ?_
          refine .o1 (tk rfl rfl fun _ w hn k => ⟨_, v_move rfl (k.eq1 26 73 rfl), rfl⟩) ?_
          refine .o1 (tg rfl rfl rfl (fun _ _ k => k.eq1 27 74 rfl) fun _ w hn k => ⟨_, v_load rfl (k.fx 2 h189) (l_two Tryd.isAgg23 Tryd.sizeOf23 (hb196.new_ hn)), rfl⟩) ?_
          refine .o1 (tg rfl rfl rfl (fun _ _ k => k.eq1 27 74 rfl) fun _ w hn k => ⟨_, v_load rfl (k.fx 2 h189) (l_two Tryd.isAgg23 Tryd.sizeOf23 (hb196.new_ hn)), rfl⟩) ?_
          refine .o1 (cg rfl rfl rfl (fun _ _ k => k.eq1 27 74 rfl) rfl (fun _ w hn k => ⟨#[nv a, nv a], args2 (k.eq1 28 75 rfl) (k.eq1 29 76 rfl), fun _ => by kernel_rfl, same_c a a _⟩) fun _ => congrArg Value.bool ht201) ?_
          refine .o1 (tk rfl rfl fun _ w hn k => ⟨_, v_pickT rfl (k.eq1 27 74 rfl) (k.eq1 30 77 rfl), rfl⟩) ?_
          refine .o1 (tk rfl rfl fun _ w hn k => ⟨_, v_move rfl (k.eq1 31 78 rfl), rfl⟩) ?_
          refine .o1 (tg rfl rfl rfl (fun _ _ k => k.eq1 32 79 rfl) fun _ w hn k => ⟨_, v_move rfl (k.fx 10 hv200), rfl⟩) ?_
          refine .o1 (tg rfl rfl rfl (fun _ _ k => k.eq1 32 79 rfl) fun _ w hn k => ⟨_, v_load rfl (k.fx 3 h190) (l_two Tryd.isAgg23 Tryd.sizeOf23 (hb197.new_ hn)), rfl⟩) ?_
          refine .o1 (tg rfl rfl rfl (fun _ _ k => k.eq1 32 79 rfl) fun _ w hn k => ⟨_, v_load rfl (k.fx 2 h189) (l_two Tryd.isAgg23 Tryd.sizeOf23 (hb196.new_ hn)), rfl⟩) ?_
          refine .o1 (cg rfl rfl rfl (fun _ _ k => k.eq1 32 79 rfl) rfl (fun _ w hn k => ⟨#[nv b, nv a], args2 (k.eq1 34 81 rfl) (k.eq1 35 82 rfl), fun _ => by kernel_rfl, same_c b a _⟩) fun _ => congrArg Value.bool ht202) ?_
          refine .o1 (tg rfl rfl rfl (fun _ _ k => k.eq1 32 79 rfl) fun _ w hn k => ⟨_, v_bin rfl (k.eq1 33 80 rfl) (k.eq1 36 83 rfl) (fun _ => rfl) (fun w => by kernel_rfl), rfl⟩) ?_
          refine .o1 (tk rfl rfl fun _ w hn k => ⟨_, v_pickT rfl (k.eq1 32 79 rfl) (k.eq1 37 84 rfl), rfl⟩) ?_
          refine .o1 (tk rfl rfl fun _ w hn k => ⟨_, v_assign rfl (k.eq1 38 85 rfl), rfl⟩) ?_
          exact .nil
        intro a203 w204 hn205 ha206
        have hs207 := ha206.size.trans hs187
        have hd208 := ha206.defers.trans hd188
        have h209 := ha206.ge 39 4 rfl
        have hN210 := hN198.transNew hn205
        clear hs187 hd188 h189 h190 h191 h192 h193 h194 hv200 hb196 hq16 hb197 hq17 hN198 ha206 hn205
        refine st_nil ?_
        refine hK _ _ ?_
        clear hK K
        refine wp_ret (ret_k hd208 (v := .bool true) (res_t rfl h209 _) ?_)
        exact ⟨rfl, hN210⟩
      have hv211 : a82.eval (.tmp 32) = .bool false := h95.trans (congrArg Value.bool ht99)
      clear h95
      refine wp_cond_false hv211 ?_
      refine wp_skip ?_
      refine hK _ _ ?_
      clear hK K
      refine wp_seq_k fun K hK => ?_
      refine wp_seq_k fun K hK => ?_
      refine wp_g0 [true] [] 86
        [ve (.bool (lessM b a))] hs86 (.eq (.nil)) ?_ ?_
      · skip
        refine .o1 (tk rfl rfl fun _ w hn k => ⟨_, v_move rfl (k.fx 6 h91), rfl⟩) ?_
        exact .nil
      intro a212 w213 hn214 ha215
      have hs216 := ha215.size.trans hs86
      have hd217 := ha215.defers.trans hd87
      have h218 := ha215.fx 2 h88
      have h219 := ha215.fx 3 h89
      have h220 := ha215.fx 4 h90
      have h221 := ha215.fx 7 h92
      have h222 := ha215.fx 8 h93
      have h223 := ha215.fx 9 h94
      have h224 := ha215.ge 0 35 rfl
      have hb225 := hb96.new_ hn214
      have hb226 := hb97.new_ hn214
      have hN227 := hN98.transNew hn214
      clear hs86 hd87 h88 h89 h90 h91 h92 h93 h94 hv211 hb96 hb97 hN98 ha215 hn214
      refine st_nil ?_
      refine hK _ _ ?_
      clear hK K
      rcases Bool.eq_false_or_eq_true (lessM b a) with ht228 | ht228
      · skip
        have hv229 : a212.eval (.tmp 35) = .bool true := h224.trans (congrArg Value.bool ht228)
        clear h224
        refine wp_cond_true hv229 ?_
        refine wp_g0 [true, true, false] [(2, true)] 86
          [ve (iv 0),
           ve (iv 1),
           vt] hs216 (.eq (.eq (.tt (.nil)))) ?_ ?_
        · skip
          refine .o1 (tk rfl rfl fun _ w hn k => ⟨_, v_move rfl (k.fx 9 h223), rfl⟩) ?_
          refine .o1 (tk rfl rfl fun _ w hn k => ⟨_, v_bin rfl (k.eq1 0 36 rfl) rfl (fun _ => rfl) (fun w => by kernel_rfl), rfl⟩) ?_
          refine .off ?_
          exact .nil
        intro a230 w231 hn232 ha233
        have hs234 := ha233.size.trans hs216
        have hd235 := ha233.defers.trans hd217
        have h236 := ha233.fx 2 h218
        have h237 := ha233.fx 3 h219
        have h238 := ha233.fx 4 h220
        have h239 := ha233.fx 7 h221
        have h240 := ha233.fx 8 h222
        have h241 := ha233.fx 9 h223
        have h242 := ha233.ge 1 37 rfl
        have hb243 := hb225.new_ hn232
        have hb244 := hb226.new_ hn232
        have hN245 := hN227.transNew hn232
        clear hs216 hd217 h218 h219 h220 h221 h222 h223 hv229 hb225 hb226 hN227 ha233 hn232
        refine st_take rfl rfl (y_assign (v := iv 1) rfl h242) rfl ?_
        obtain ⟨a246, ha247⟩ : ∃ a', a' = a230.put (some 9) (iv 1) := ⟨_, rfl⟩
        have hs248 : a246.tmps.size = 86 := by rw [ha247, put_size]; exact hs234
        have hd249 : a246.defers = [] := by rw [ha247, put_defers]; exact hd235
        have h250 : a246.eval (.tmp 2) = pv q8 := by rw [ha247, put_ne _ _ _ _ (by decide)]; exact h236
        have h251 : a246.eval (.tmp 3) = pv q12 := by rw [ha247, put_ne _ _ _ _ (by decide)]; exact h237
        have h252 : a246.eval (.tmp 4) = .bool false := by rw [ha247, put_ne _ _ _ _ (by decide)]; exact h238
        have h253 : a246.eval (.tmp 7) = .bool (equalM a b) := by rw [ha247, put_ne _ _ _ _ (by decide)]; exact h239
        have h254 : a246.eval (.tmp 8) = .bool false := by rw [ha247, put_ne _ _ _ _ (by decide)]; exact h240
        have h255 : a246.eval (.tmp 37) = iv 1 := by rw [ha247, put_ne _ _ _ _ (by decide)]; exact h242
        have h256 : a246.eval (.tmp 9) = iv 1 := by rw [ha247]; exact put_same _ _ _ (by rw [hs234]; decide)
        show stepsTo _ _ _ _ _ (a230.put (some 9) (iv 1)) _
        rw [← ha247]
        clear ha247 hs234 hd235 h236 h237 h238 h239 h240 h241 h242
        refine st_nil ?_
        clear h255
        refine hK _ _ ?_
        clear hK K
        refine wp_seq_k fun K hK => ?_
        refine wp_seq_k fun K hK => ?_
        refine wp_g0 [true] [] 86
          [ve (.bool (equalM a b))] hs248 (.eq (.nil)) ?_ ?_
        · skip
          refine .o1 (tk rfl rfl fun _ w hn k => ⟨_, v_move rfl (k.fx 7 h253), rfl⟩) ?_
          exact .nil
        intro a257 w258 hn259 ha260
        have hs261 := ha260.size.trans hs248
        have hd262 := ha260.defers.trans hd249
        have h263 := ha260.fx 2 h250
        have h264 := ha260.fx 3 h251
        have h265 := ha260.fx 4 h252
        have h266 := ha260.fx 7 h253
        have h267 := ha260.fx 8 h254
        have h268 := ha260.fx 9 h256
        have h269 := ha260.ge 0 38 rfl
        have hb270 := hb243.new_ hn259
        have hb271 := hb244.new_ hn259
        have hN272 := hN245.transNew hn259
        clear hs248 hd249 h250 h251 h252 h253 h254 h256 hb243 hb244 hN245 ha260 hn259
        refine st_nil ?_
        refine hK _ _ ?_
        clear hK K
        have ht273 : (equalM a b) = false := less_ne' ht228
        have hv274 : a257.eval (.tmp 7) = .bool false := h266.trans (congrArg Value.bool ht273)
        clear h266
        have hv275 : a257.eval (.tmp 38) = .bool false := h269.trans (congrArg Value.bool ht273)
        clear h269
        refine wp_cond_false hv275 ?_
        refine wp_skip ?_
        refine hK _ _ ?_
        clear hK K
        refine wp_seq_k fun K hK => ?_
        refine wp_seq_k fun K hK => ?_
        refine wp_g0 [true] [] 86
          [ve (.bool false)] hs261 (.eq (.nil)) ?_ ?_
        · skip
          refine .o1 (tk rfl rfl fun _ w hn k => ⟨_, v_move rfl (k.fx 8 h267), rfl⟩) ?_
          exact .nil
        intro a276 w277 hn278 ha279
        have hs280 := ha279.size.trans hs261
        have hd281 := ha279.defers.trans hd262
        have h282 := ha279.fx 2 h263
        have h283 := ha279.fx 3 h264
        have h284 := ha279.fx 4 h265
        have h285 := ha279.fx 7 hv274
        have h286 := ha279.fx 8 h267
        have h287 := ha279.fx 9 h268
        have h288 := ha279.ge 0 41 rfl
        have hb289 := hb270.new_ hn278
        have hb290 := hb271.new_ hn278
        have hN291 := hN272.transNew hn278
        clear hs261 hd262 h263 h264 h265 hv274 h267 h268 hv275 hb270 hb271 hN272 ha279 hn278
        refine st_nil ?_
        refine hK _ _ ?_
        clear hK K
        refine wp_cond_false h288 ?_
        refine wp_skip ?_
        refine hK _ _ ?_
        clear hK K
        refine wp_seq_k fun K hK => ?_
        refine wp_g0 [true, true, true, true] [] 86
          [ve (nv a),
           ve (nv b),
           ve (.bool (sameM a b)),
           ve (.bool (sameM a b))] hs280 (.eq (.eq (.eq (.eq (.nil))))) ?_ ?_
        · skip
          refine .o1 (tk rfl rfl fun _ w hn k => ⟨_, v_load rfl (k.fx 2 h282) (l_two Tryd.isAgg23 Tryd.sizeOf23 (hb289.new_ hn)), rfl⟩) ?_
          refine .o1 (tk rfl rfl fun _ w hn k => ⟨_, v_load rfl (k.fx 3 h283) (l_two Tryd.isAgg23 Tryd.sizeOf23 (hb290.new_ hn)), rfl⟩) ?_
          refine .o1 (ck rfl rfl rfl (fun _ w hn k => ⟨#[nv a, nv b], args2 (k.eq1 0 44 rfl) (k.eq1 1 45 rfl), fun _ => by kernel_rfl, same_c a b _⟩) fun _ => rfl) ?_
          refine .o1 (tk rfl rfl fun _ w hn k => ⟨_, v_assign rfl (k.eq1 2 46 rfl), rfl⟩) ?_
          exact .nil
        intro a292 w293 hn294 ha295
        have hs296 := ha295.size.trans hs280
        have hd297 := ha295.defers.trans hd281
        have h298 := ha295.fx 2 h282
        have h299 := ha295.fx 3 h283
        have h300 := ha295.fx 4 h284
        have h301 := ha295.fx 7 h285
        have h302 := ha295.fx 8 h286
        have h303 := ha295.fx 9 h287
        have h304 := ha295.ge 3 10 rfl
        have hb305 := hb289.new_ hn294
        have hb306 := hb290.new_ hn294
        have hN307 := hN291.transNew hn294
        clear hs280 hd281 h282 h283 h284 h285 h286 h287 h288 hb289 hb290 hN291 ha295 hn294
        refine st_nil ?_
        refine hK _ _ ?_
        clear hK K
        refine wp_seq_k fun K hK => ?_
        have ht308 : (sameM a b) = false := same_eq ht47 ht273
        have hv309 : a292.eval (.tmp 10) = .bool false := h304.trans (congrArg Value.bool ht308)
        clear h304
        have ht310 : (sameM a a) = true := sameM_refl a
        have ht311 : (sameM b a) = false := (sameM_comm b a).trans ht308
        refine wp_g0 [true, true, true, true, true, true, true, true, true, true, true, true, true, true, true, true, true, true, true, true, true, true, true, true, true, true, true, true, true, true, true, true, true, true, true, true, true, true, true, true] [] 86
          [ve (.bool true),
           ve (.bool true),
           ve (iv 1),
           ve (.bool true),
           ve (.bool true),
           ve (.bool true),
           ve (.bool false),
           ve (.bool true),
           ve (.bool true),
           ve undef,
           ve (.bool true),
           ve (.bool true),
           ve undef,
           ve (.bool true),
           ve (.bool true),
           ve (.bool true),
           ve (.bool false),
           ve (.bool true),
           ve (.bool true),
           ve undef,
           ve (.bool true),
           ve (.bool true),
           ve undef,
           ve undef,
           ve undef,
           ve (.bool true),
           ve (.bool true),
           ve (.bool true),
           ve (nv a),
           ve (nv a),
           ve (.bool true),
           ve (.bool true),
           ve (.bool true),
           ve (.bool false),
           ve (nv b),
           ve (nv a),
           ve (.bool false),
           ve (.bool true),
           ve (.bool true),
           ve (.bool true)] hs296 (.eq (.eq (.eq (.eq (.eq (.eq (.eq (.eq (.eq (.eq (.eq (.eq (.eq (.eq (.eq (.eq (.eq (.eq (.eq (.eq (.eq (.eq (.eq (.eq (.eq (.eq (.eq (.eq (.eq (.eq (.eq (.eq (.eq (.eq (.eq (.eq (.eq (.eq (.eq (.eq (.nil))))))))))))))))))))))))))))))))))))))))) ?_ ?_
        · skip
          refine .o1 (ck rfl rfl rfl (fun _ w hn k => ⟨#[], rfl, fun _ => by kernel_rfl, first_c  _⟩) fun _ => rfl) ?_
          refine .o1 (tk rfl rfl fun _ w hn k => ⟨_, v_move rfl (k.eq1 0 47 rfl), rfl⟩) ?_
          refine .o1 (tg rfl rfl rfl (fun _ _ k => k.eq1 1 48 rfl) fun _ w hn k => ⟨_, v_move rfl (k.fx 9 h303), rfl⟩) ?_
          refine .o1 (tg rfl rfl rfl (fun _ _ k => k.eq1 1 48 rfl) fun _ w hn k => ⟨_, v_bin rfl (k.eq1 2 49 rfl) rfl (fun _ => rfl) (fun w => by kernel_rfl), rfl⟩) ?_
          refine .o1 (tk rfl rfl fun _ w hn k => ⟨_, v_pickT rfl (k.eq1 1 48 rfl) (k.eq1 3 50 rfl), rfl⟩) ?_
          refine .o1 (tk rfl rfl fun _ w hn k => ⟨_, v_move rfl (k.eq1 4 51 rfl), rfl⟩) ?_
          refine .o1 (tg rfl rfl rfl (fun _ _ k => k.eq1 5 52 rfl) fun _ w hn k => ⟨_, v_move rfl (k.fx 10 hv309), rfl⟩) ?_
          refine .o1 (tg rfl rfl rfl (fun _ _ k => k.eq1 5 52 rfl) fun _ w hn k => ⟨_, v_not rfl (k.eq1 6 53 rfl), rfl⟩) ?_
          refine .o1 (tg rfl rfl rfl (fun _ _ k => k.eq1 5 52 rfl) fun _ w hn k => ⟨_, v_move rfl (k.eq1 7 54 rfl), rfl⟩) ?_
          refine .o1 (sk rfl rfl rfl (fun _ _ _ k => k.eq1 8 55 rfl) (fun _ => rfl)) ?_
          refine .o1 (tg rfl rfl rfl (fun _ _ k => k.eq1 5 52 rfl) fun _ w hn k => ⟨_, v_pickT rfl (k.eq1 8 55 rfl) rfl, rfl⟩) ?_
          refine .o1 (tg rfl rfl rfl (fun _ _ k => k.eq1 5 52 rfl) fun _ w hn k => ⟨_, v_move rfl (k.eq1 10 57 rfl), rfl⟩) ?_
          refine .o1 (sk rfl rfl rfl (fun _ _ _ k => k.eq1 11 58 rfl) (fun _ => rfl)) ?_
          refine .o1 (tg rfl rfl rfl (fun _ _ k => k.eq1 5 52 rfl) fun _ w hn k => ⟨_, v_pickT rfl (k.eq1 11 58 rfl) rfl, rfl⟩) ?_
          refine .o1 (tk rfl rfl fun _ w hn k => ⟨_, v_pickT rfl (k.eq1 5 52 rfl) (k.eq1 13 60 rfl), rfl⟩) ?_
          refine .o1 (tk rfl rfl fun _ w hn k => ⟨_, v_move rfl (k.eq1 14 61 rfl), rfl⟩) ?_
          refine .o1 (tg rfl rfl rfl (fun _ _ k => k.eq1 15 62 rfl) fun _ w hn k => ⟨_, v_move rfl (k.fx 7 h301), rfl⟩) ?_
          refine .o1 (tg rfl rfl rfl (fun _ _ k => k.eq1 15 62 rfl) fun _ w hn k => ⟨_, v_not rfl (k.eq1 16 63 rfl), rfl⟩) ?_
          refine .o1 (tg rfl rfl rfl (fun _ _ k => k.eq1 15 62 rfl) fun _ w hn k => ⟨_, v_move rfl (k.eq1 17 64 rfl), rfl⟩) ?_
          refine .o1 (sk rfl rfl rfl (fun _ _ _ k => k.eq1 18 65 rfl) (fun _ => rfl)) ?_
          refine .o1 (tg rfl rfl rfl (fun _ _ k => k.eq1 15 62 rfl) fun _ w hn k => ⟨_, v_pickT rfl (k.eq1 18 65 rfl) rfl, rfl⟩) ?_
          refine .o1 (tg rfl rfl rfl (fun _ _ k => k.eq1 15 62 rfl) fun _ w hn k => ⟨_, v_move rfl (k.eq1 20 67 rfl), rfl⟩) ?_
          refine .o1 (sk rfl rfl rfl (fun _ _ _ k => k.eq1 21 68 rfl) (fun _ => rfl)) ?_
          refine .o1 (sk rfl rfl rfl (fun _ _ _ k => k.eq1 21 68 rfl) (fun _ => rfl)) ?_
          refine .o1 (sk rfl rfl rfl (fun _ _ _ k => k.eq1 21 68 rfl) (fun _ => rfl)) ?_
          refine .o1 (tg rfl rfl rfl (fun _ _ k => k.eq1 15 62 rfl) fun _ w hn k => ⟨_, v_pickT rfl (k.eq1 21 68 rfl) rfl, rfl⟩) ?_
          refine .o1 (tk rfl rfl fun _ w hn k => ⟨_, v_pickT rfl (k.eq1 15 62 rfl) (k.eq1 25 72 rfl), rfl⟩) ?_
          refine .o1 (tk rfl rfl fun _ w hn k => ⟨_, v_move rfl (k.eq1 26 73 rfl), rfl⟩) ?_
          refine .o1 (tg rfl rfl rfl (fun _ _ k => k.eq1 27 74 rfl) fun _ w hn k => ⟨_, v_load rfl (k.fx 2 h298) (l_two Tryd.isAgg23 Tryd.sizeOf23 (hb305.new_ hn)), rfl⟩) ?_
          refine .o1 (tg rfl rfl rfl (fun _ _ k => k.eq1 27 74 rfl) fun _ w hn k => ⟨_, v_load rfl (k.fx 2 h298) (l_two Tryd.isAgg23 Tryd.sizeOf23 (hb305.new_ hn)), rfl⟩) ?_
          refine .o1 (cg rfl rfl rfl (fun _ _ k => k.eq1 27 74 rfl) rfl (fun _ w hn k => ⟨#[nv a, nv a], args2 (k.eq1 28 75 rfl) (k.eq1 29 76 rfl), fun _ => by kernel_rfl, same_c a a _⟩) fun _ => congrArg Value.bool ht310) ?_
          refine .o1 (tk rfl rfl fun _ w hn k => ⟨_, v_pickT rfl (k.eq1 27 74 rfl) (k.eq1 30 77 rfl), rfl⟩) ?_
          refine .o1 (tk rfl rfl fun _ w hn k => ⟨_, v_move rfl (k.eq1 31 78 rfl), rfl⟩) ?_
          refine .o1 (tg rfl rfl rfl (fun _ _ k => k.eq1 32 79 rfl) fun _ w hn k => ⟨_, v_move rfl (k.fx 10 hv309), rfl⟩) ?_
          refine .o1 (tg rfl rfl rfl (fun _ _ k => k.eq1 32 79 rfl) fun _ w hn k => ⟨_, v_load rfl (k.fx 3 h299) (l_two Tryd.isAgg23 Tryd.sizeOf23 (hb306.new_ hn)), rfl⟩) ?_
          refine .o1 (tg rfl rfl rfl (fun _ _ k => k.eq1 32 79 rfl) fun _ w hn k => ⟨_, v_load rfl (k.fx 2 h298) (l_two Tryd.isAgg23 Tryd.sizeOf23 (hb305.new_ hn)), rfl⟩) ?_
          refine .o1 (cg rfl rfl rfl (fun _ _ k => k.eq1 32 79 rfl) rfl (fun _ w hn k => ⟨#[nv b, nv a], args2 (k.eq1 34 81 rfl) (k.eq1 35 82 rfl), fun _ => by kernel_rfl, same_c b a _⟩) fun _ => congrArg Value.bool ht311) ?_
          refine .o1 (tg rfl rfl rfl (fun _ _ k => k.eq1 32 79 rfl) fun _ w hn k => ⟨_, v_bin rfl (k.eq1 33 80 rfl) (k.eq1 36 83 rfl) (fun _ => rfl) (fun w => by kernel_rfl), rfl⟩) ?_
          refine .o1 (tk rfl rfl fun _ w hn k => ⟨_, v_pickT rfl (k.eq1 32 79 rfl) (k.eq1 37 84 rfl), rfl⟩) ?_
          refine .o1 (tk rfl rfl fun _ w hn k => ⟨_, v_assign rfl (k.eq1 38 85 rfl), rfl⟩) ?_
          exact .nil
        intro a312 w313 hn314 ha315
        have hs316 := ha315.size.trans hs296
        have hd317 := ha315.defers.trans hd297
        have h318 := ha315.ge 39 4 rfl
        have hN319 := hN307.transNew hn314
        clear hs296 hd297 h298 h299 h300 h301 h302 h303 hv309 hb305 hq16 hb306 hq17 hN307 ha315 hn314
        refine st_nil ?_
        refine hK _ _ ?_
        clear hK K
        refine wp_ret (ret_k hd317 (v := .bool true) (res_t rfl h318 _) ?_)
        exact ⟨rfl, hN319⟩
      have hv320 : a212.eval (.tmp 35) = .bool false := h224.trans (congrArg Value.bool ht228)
      clear h224
      refine wp_cond_false hv320 ?_
      refine wp_skip ?_
      refine hK _ _ ?_
      clear hK K
      refine wp_seq_k fun K hK => ?_
      refine wp_seq_k fun K hK => ?_
      refine wp_g0 [true] [] 86
        [ve (.bool (equalM a b))] hs216 (.eq (.nil)) ?_ ?_
      · skip
        refine .o1 (tk rfl rfl fun _ w hn k => ⟨_, v_move rfl (k.fx 7 h221), rfl⟩) ?_
        exact .nil
      intro a321 w322 hn323 ha324
      have hs325 := ha324.size.trans hs216
      have hd326 := ha324.defers.trans hd217
      have h327 := ha324.fx 2 h218
      have h328 := ha324.fx 3 h219
      have h329 := ha324.fx 4 h220
      have h330 := ha324.fx 7 h221
      have h331 := ha324.fx 8 h222
      have h332 := ha324.fx 9 h223
      have h333 := ha324.ge 0 38 rfl
      have hb334 := hb225.new_ hn323
      have hb335 := hb226.new_ hn323
      have hN336 := hN227.transNew hn323
      clear hs216 hd217 h218 h219 h220 h221 h222 h223 hv320 hb225 hb226 hN227 ha324 hn323
      refine st_nil ?_
      refine hK _ _ ?_
      clear hK K
      have ht337 : (equalM a b) = true := tri ht47 ht48 ht99 ht228
      have hv338 : a321.eval (.tmp 7) = .bool true := h330.trans (congrArg Value.bool ht337)
      clear h330
      have hv339 : a321.eval (.tmp 38) = .bool true := h333.trans (congrArg Value.bool ht337)
      clear h333
      refine wp_cond_true hv339 ?_
      refine wp_g0 [true, true, false] [(2, true)] 86
        [ve (iv 0),
         ve (iv 1),
         vt] hs325 (.eq (.eq (.tt (.nil)))) ?_ ?_
      · skip
        refine .o1 (tk rfl rfl fun _ w hn k => ⟨_, v_move rfl (k.fx 9 h332), rfl⟩) ?_
        refine .o1 (tk rfl rfl fun _ w hn k => ⟨_, v_bin rfl (k.eq1 0 39 rfl) rfl (fun _ => rfl) (fun w => by kernel_rfl), rfl⟩) ?_
        refine .off ?_
        exact .nil
      intro a340 w341 hn342 ha343
      have hs344 := ha343.size.trans hs325
      have hd345 := ha343.defers.trans hd326
      have h346 := ha343.fx 2 h327
      have h347 := ha343.fx 3 h328
      have h348 := ha343.fx 4 h329
      have h349 := ha343.fx 7 hv338
      have h350 := ha343.fx 8 h331
      have h351 := ha343.fx 9 h332
      have h352 := ha343.ge 1 40 rfl
      have hb353 := hb334.new_ hn342
      have hb354 := hb335.new_ hn342
      have hN355 := hN336.transNew hn342
      clear hs325 hd326 h327 h328 h329 hv338 h331 h332 hv339 hb334 hb335 hN336 ha343 hn342
      refine st_take rfl rfl (y_assign (v := iv 1) rfl h352) rfl ?_
      obtain ⟨a356, ha357⟩ : ∃ a', a' = a340.put (some 9) (iv 1) := ⟨_, rfl⟩
      have hs358 : a356.tmps.size = 86 := by rw [ha357, put_size]; exact hs344
      have hd359 : a356.defers = [] := by rw [ha357, put_defers]; exact hd345
      have h360 : a356.eval (.tmp 2) = pv q8 := by rw [ha357, put_ne _ _ _ _ (by decide)]; exact h346
      have h361 : a356.eval (.tmp 3) = pv q12 := by rw [ha357, put_ne _ _ _ _ (by decide)]; exact h347
      have h362 : a356.eval (.tmp 4) = .bool false := by rw [ha357, put_ne _ _ _ _ (by decide)]; exact h348
      have h363 : a356.eval (.tmp 7) = .bool true := by rw [ha357, put_ne _ _ _ _ (by decide)]; exact h349
      have h364 : a356.eval (.tmp 8) = .bool false := by rw [ha357, put_ne _ _ _ _ (by decide)]; exact h350
      have h365 : a356.eval (.tmp 40) = iv 1 := by rw [ha357, put_ne _ _ _ _ (by decide)]; exact h352
      have h366 : a356.eval (.tmp 9) = iv 1 := by rw [ha357]; exact put_same _ _ _ (by rw [hs344]; decide)
      show stepsTo _ _ _ _ _ (a340.put (some 9) (iv 1)) _
      rw [← ha357]
      clear ha357 hs344 hd345 h346 h347 h348 h349 h350 h351 h352
      refine st_nil ?_
      clear h365
      refine hK _ _ ?_
      clear hK K
      refine wp_seq_k fun K hK => ?_
      refine wp_seq_k fun K hK => ?_
      refine wp_g0 [true] [] 86
        [ve (.bool false)] hs358 (.eq (.nil)) ?_ ?_
      · skip
        refine .o1 (tk rfl rfl fun _ w hn k => ⟨_, v_move rfl (k.fx 8 h364), rfl⟩) ?_
        exact .nil
      intro a367 w368 hn369 ha370
      have hs371 := ha370.size.trans hs358
      have hd372 := ha370.defers.trans hd359
      have h373 := ha370.fx 2 h360
      have h374 := ha370.fx 3 h361
      have h375 := ha370.fx 4 h362
      have h376 := ha370.fx 7 h363
      have h377 := ha370.fx 8 h364
      have h378 := ha370.fx 9 h366
      have h379 := ha370.ge 0 41 rfl
      have hb380 := hb353.new_ hn369
      have hb381 := hb354.new_ hn369
      have hN382 := hN355.transNew hn369
      clear hs358 hd359 h360 h361 h362 h363 h364 h366 hb353 hb354 hN355 ha370 hn369
      refine st_nil ?_
      refine hK _ _ ?_
      clear hK K
      refine wp_cond_false h379 ?_
      refine wp_skip ?_
      refine hK _ _ ?_
      clear hK K
      refine wp_seq_k fun K hK => ?_
      refine wp_g0 [true, true, true, true] [] 86
        [ve (nv a),
         ve (nv b),
         ve (.bool (sameM a b)),
         ve (.bool (sameM a b))] hs371 (.eq (.eq (.eq (.eq (.nil))))) ?_ ?_
      · skip
        refine .o1 (tk rfl rfl fun _ w hn k => ⟨_, v_load rfl (k.fx 2 h373) (l_two Tryd.isAgg23 Tryd.sizeOf23 (hb380.new_ hn)), rfl⟩) ?_
        refine .o1 (tk rfl rfl fun _ w hn k => ⟨_, v_load rfl (k.fx 3 h374) (l_two Tryd.isAgg23 Tryd.sizeOf23 (hb381.new_ hn)), rfl⟩) ?_
        refine .o1 (ck rfl rfl rfl (fun _ w hn k => ⟨#[nv a, nv b], args2 (k.eq1 0 44 rfl) (k.eq1 1 45 rfl), fun _ => by kernel_rfl, same_c a b _⟩) fun _ => rfl) ?_
        refine .o1 (tk rfl rfl fun _ w hn k => ⟨_, v_assign rfl (k.eq1 2 46 rfl), rfl⟩) ?_
        exact .nil
      intro a383 w384 hn385 ha386
      have hs387 := ha386.size.trans hs371
      have hd388 := ha386.defers.trans hd372
      have h389 := ha386.fx 2 h373
      have h390 := ha386.fx 3 h374
      have h391 := ha386.fx 4 h375
      have h392 := ha386.fx 7 h376
      have h393 := ha386.fx 8 h377
      have h394 := ha386.fx 9 h378
      have h395 := ha386.ge 3 10 rfl
      have hb396 := hb380.new_ hn385
      have hb397 := hb381.new_ hn385
      have hN398 := hN382.transNew hn385
      clear hs371 hd372 h373 h374 h375 h376 h377 h378 h379 hb380 hb381 hN382 ha386 hn385
      refine st_nil ?_
      refine hK _ _ ?_
      clear hK K
      refine wp_seq_k fun K hK => ?_
      rcases Bool.eq_false_or_eq_true (sameM a b) with ht399 | ht399
      · skip
        have hv400 : a383.eval (.tmp 10) = .bool true := h395.trans (congrArg Value.bool ht399)
        clear h395
        have ht401 : (sameM a a) = true := sameM_refl a
        have ht402 : (sameM b a) = true := (sameM_comm b a).trans ht399
        refine wp_g0 [true, true, true, true, true, true, true, true, true, true, true, true, true, true, true, true, true, true, true, true, true, true, true, true, true, true, true, true, true, true, true, true, true, true, true, true, true, true, true, true] [] 86
          [ve (.bool true),
           ve (.bool true),
           ve (iv 1),
           ve (.bool true),
           ve (.bool true),
           ve (.bool true),
           ve (.bool true),
           ve (.bool false),
           ve (.bool false),
           ve (.bool true),
           ve (.bool true),
           ve (.bool true),
           ve undef,
           ve (.bool true),
           ve (.bool true),
           ve (.bool true),
           ve (.bool true),
           ve (.bool false),
           ve (.bool false),
           ve (.bool true),
           ve (.bool true),
           ve (.bool true),
           ve undef,
           ve undef,
           ve undef,
           ve (.bool true),
           ve (.bool true),
           ve (.bool true),
           ve (nv a),
           ve (nv a),
           ve (.bool true),
           ve (.bool true),
           ve (.bool true),
           ve (.bool true),
           ve (nv b),
           ve (nv a),
           ve (.bool true),
           ve (.bool true),
           ve (.bool true),
           ve (.bool true)] hs387 (.eq (.eq (.eq (.eq (.eq (.eq (.eq (.eq (.eq (.eq (.eq (.eq (.eq (.eq (.eq (.eq (.eq (.eq (.eq (.eq (.eq (.eq (.eq (.eq (.eq (.eq (.eq (.eq (.eq (.eq (.eq (.eq (.eq (.eq (.eq (.eq (.eq (.eq (.eq (.eq (.nil))))))))))))))))))))))))))))))))))))))))) ?_ ?_
        · skip
          refine .o1 (ck rfl rfl rfl (fun _ w hn k => ⟨#[], rfl, fun _ => by kernel_rfl, first_c  _⟩) fun _ => rfl) ?_
          refine .o1 (tk rfl rfl fun _ w hn k => ⟨_, v_move rfl (k.eq1 0 47 rfl), rfl⟩) ?_
          refine .o1 (tg rfl rfl rfl (fun _ _ k => k.eq1 1 48 rfl) fun _ w hn k => ⟨_, v_move rfl (k.fx 9 h394), rfl⟩) ?_
          refine .o1 (tg rfl rfl rfl (fun _ _ k => k.eq1 1 48 rfl) fun _ w hn k => ⟨_, v_bin rfl (k.eq1 2 49 rfl) rfl (fun _ => rfl) (fun w => by kernel_rfl), rfl⟩) ?_
          refine .o1 (tk rfl rfl fun _ w hn k => ⟨_, v_pickT rfl (k.eq1 1 48 rfl) (k.eq1 3 50 rfl), rfl⟩) ?_
          refine .o1 (tk rfl rfl fun _ w hn k => ⟨_, v_move rfl (k.eq1 4 51 rfl), rfl⟩) ?_
          refine .o1 (tg rfl rfl rfl (fun _ _ k => k.eq1 5 52 rfl) fun _ w hn k => ⟨_, v_move rfl (k.fx 10 hv400), rfl⟩) ?_
          refine .o1 (tg rfl rfl rfl (fun _ _ k => k.eq1 5 52 rfl) fun _ w hn k => ⟨_, v_not rfl (k.eq1 6 53 rfl), rfl⟩) ?_
          refine .o1 (tg rfl rfl rfl (fun _ _ k => k.eq1 5 52 rfl) fun _ w hn k => ⟨_, v_move rfl (k.eq1 7 54 rfl), rfl⟩) ?_
          refine .o1 (tg rfl rfl rfl (fun _ _ k => k.eq1 8 55 rfl) fun _ w hn k => ⟨_, v_move rfl (k.fx 7 h392), rfl⟩) ?_
          refine .o1 (tg rfl rfl rfl (fun _ _ k => k.eq1 5 52 rfl) fun _ w hn k => ⟨_, v_pickF rfl (k.eq1 8 55 rfl) (k.eq1 9 56 rfl), rfl⟩) ?_
          refine .o1 (tg rfl rfl rfl (fun _ _ k => k.eq1 5 52 rfl) fun _ w hn k => ⟨_, v_move rfl (k.eq1 10 57 rfl), rfl⟩) ?_
          refine .o1 (sk rfl rfl rfl (fun _ _ _ k => k.eq1 11 58 rfl) (fun _ => rfl)) ?_
          refine .o1 (tg rfl rfl rfl (fun _ _ k => k.eq1 5 52 rfl) fun _ w hn k => ⟨_, v_pickT rfl (k.eq1 11 58 rfl) rfl, rfl⟩) ?_
          refine .o1 (tk rfl rfl fun _ w hn k => ⟨_, v_pickT rfl (k.eq1 5 52 rfl) (k.eq1 13 60 rfl), rfl⟩) ?_
          refine .o1 (tk rfl rfl fun _ w hn k => ⟨_, v_move rfl (k.eq1 14 61 rfl), rfl⟩) ?_
          refine .o1 (tg rfl rfl rfl (fun _ _ k => k.eq1 15 62 rfl) fun _ w hn k => ⟨_, v_move rfl (k.fx 7 h392), rfl⟩) ?_
          refine .o1 (tg rfl rfl rfl (fun _ _ k => k.eq1 15 62 rfl) fun _ w hn k => ⟨_, v_not rfl (k.eq1 16 63 rfl), rfl⟩) ?_
          refine .o1 (tg rfl rfl rfl (fun _ _ k => k.eq1 15 62 rfl) fun _ w hn k => ⟨_, v_move rfl (k.eq1 17 64 rfl), rfl⟩) ?_
          refine .o1 (tg rfl rfl rfl (fun _ _ k => k.eq1 18 65 rfl) fun _ w hn k => ⟨_, v_move rfl (k.fx 10 hv400), rfl⟩) ?_
          refine .o1 (tg rfl rfl rfl (fun _ _ k => k.eq1 15 62 rfl) fun _ w hn k => ⟨_, v_pickF rfl (k.eq1 18 65 rfl) (k.eq1 19 66 rfl), rfl⟩) ?_
          refine .o1 (tg rfl rfl rfl (fun _ _ k => k.eq1 15 62 rfl) fun _ w hn k => ⟨_, v_move rfl (k.eq1 20 67 rfl), rfl⟩) ?_
          refine .o1 (sk rfl rfl rfl (fun _ _ _ k => k.eq1 21 68 rfl) (fun _ => rfl)) ?_
          refine .o1 (sk rfl rfl rfl (fun _ _ _ k => k.eq1 21 68 rfl) (fun _ => rfl)) ?_
          refine .o1 (sk rfl rfl rfl (fun _ _ _ k => k.eq1 21 68 rfl) (fun _ => rfl)) ?_
          refine .o1 (tg rfl rfl rfl (fun _ _ k => k.eq1 15 62 rfl) fun _ w hn k => ⟨_, v_pickT rfl (k.eq1 21 68 rfl) rfl, rfl⟩) ?_
          refine .o1 (tk rfl rfl fun _ w hn k => ⟨_, v_pickT rfl (k.eq1 15 62 rfl) (k.eq1 25 72 rfl), rfl⟩) ?_
          refine .o1 (tk rfl rfl fun _ w hn k => ⟨_, v_move rfl (k.eq1 26 73 rfl), rfl⟩) ?_
          refine .o1 (tg rfl rfl rfl (fun _ _ k => k.eq1 27 74 rfl) fun _ w hn k => ⟨_, v_load rfl (k.fx 2 h389) (l_two Tryd.isAgg23 Tryd.sizeOf23 (hb396.new_ hn)), rfl⟩) ?_
          refine .o1 (tg rfl rfl rfl (fun _ _ k => k.eq1 27 74 rfl) fun _ w hn k => ⟨_, v_load rfl (k.fx 2 h389) (l_two Tryd.isAgg23 Tryd.sizeOf23 (hb396.new_ hn)), rfl⟩) ?_
          refine .o1 (cg rfl rfl rfl (fun _ _ k => k.eq1 27 74 rfl) rfl (fun _ w hn k => ⟨#[nv a, nv a], args2 (k.eq1 28 75 rfl) (k.eq1 29 76 rfl), fun _ => by kernel_rfl, same_c a a _⟩) fun _ => congrArg Value.bool ht401) ?_
          refine .o1 (tk rfl rfl fun _ w hn k => ⟨_, v_pickT rfl (k.eq1 27 74 rfl) (k.eq1 30 77 rfl), rfl⟩) ?_
          refine .o1 (tk rfl rfl fun _ w hn k => ⟨_, v_move rfl (k.eq1 31 78 rfl), rfl⟩) ?_
          refine .o1 (tg rfl rfl rfl (fun _ _ k => k.eq1 32 79 rfl) fun _ w hn k => ⟨_, v_move rfl (k.fx 10 hv400), rfl⟩) ?_
          refine .o1 (tg rfl rfl rfl (fun _ _ k => k.eq1 32 79 rfl) fun _ w hn k => ⟨_, v_load rfl (k.fx 3 h390) (l_two Tryd.isAgg23 Tryd.sizeOf23 (hb397.new_ hn)), rfl⟩) ?_
          refine .o1 (tg rfl rfl rfl (fun _ _ k => k.eq1 32 79 rfl) fun _ w hn k => ⟨_, v_load rfl (k.fx 2 h389) (l_two Tryd.isAgg23 Tryd.sizeOf23 (hb396.new_ hn)), rfl⟩) ?_
          refine .o1 (cg rfl rfl rfl (fun _ _ k => k.eq1 32 79 rfl) rfl (fun _ w hn k => ⟨#[nv b, nv a], args2 (k.eq1 34 81 rfl) (k.eq1 35 82 rfl), fun _ => by kernel_rfl, same_c b a _⟩) fun _ => congrArg Value.bool ht402) ?_
          refine .o1 (tg rfl rfl rfl (fun _ _ k => k.eq1 32 79 rfl) fun _ w hn k => ⟨_, v_bin rfl (k.eq1 33 80 rfl) (k.eq1 36 83 rfl) (fun _ => rfl) (fun w => by kernel_rfl), rfl⟩) ?_
          refine .o1 (tk rfl rfl fun _ w hn k => ⟨_, v_pickT rfl (k.eq1 32 79 rfl) (k.eq1 37 84 rfl), rfl⟩) ?_
          refine .o1 (tk rfl rfl fun _ w hn k => ⟨_, v_assign rfl (k.eq1 38 85 rfl), rfl⟩) ?_
          exact .nil
        intro a403 w404 hn405 ha406
        have hs407 := ha406.size.trans hs387
        have hd408 := ha406.defers.trans hd388
        have h409 := ha406.ge 39 4 rfl
        have hN410 := hN398.transNew hn405
        clear hs387 hd388 h389 h390 h391 h392 h393 h394 hv400 hb396 hq16 hb397 hq17 hN398 ha406 hn405
        refine st_nil ?_
        refine hK _ _ ?_
        clear hK K
        refine wp_ret (ret_k hd408 (v := .bool true) (res_t rfl h409 _) ?_)
        exact ⟨rfl, hN410⟩
      have hv411 : a383.eval (.tmp 10) = .bool false := h395.trans (congrArg Value.bool ht399)
      clear h395
      have ht412 : (equalM a (Nm.mk 0 0)) = true := eq_not_same ht337 ht399
      have ht413 : (sameM a a) = true := sameM_refl a
      have ht414 : (sameM b a) = false := (sameM_comm b a).trans ht399
      refine wp_g0 [true, true, true, true, true, true, true, true, true, true, true, true, true, true, true, true, true, true, true, true, true, true, true, true, true, true, true, true, true, true, true, true, true, true, true, true, true, true, true, true] [] 86
        [ve (.bool true),
         ve (.bool true),
         ve (iv 1),
         ve (.bool true),
         ve (.bool true),
         ve (.bool true),
         ve (.bool false),
         ve (.bool true),
         ve (.bool true),
         ve undef,
         ve (.bool true),
         ve (.bool true),
         ve undef,
         ve (.bool true),
         ve (.bool true),
         ve (.bool true),
         ve (.bool true),
         ve (.bool false),
         ve (.bool false),
         ve (.bool false),
         ve (.bool false),
         ve (.bool false),
         ve (nv a),
         ve (nv (Nm.mk 0 0)),
         ve (.bool true),
         ve (.bool true),
         ve (.bool true),
         ve (.bool true),
         ve (nv a),
         ve (nv a),
         ve (.bool true),
         ve (.bool true),
         ve (.bool true),
         ve (.bool false),
         ve (nv b),
         ve (nv a),
         ve (.bool false),
         ve (.bool true),
         ve (.bool true),
         ve (.bool true)] hs387 (.eq (.eq (.eq (.eq (.eq (.eq (.eq (.eq (.eq (.eq (.eq (.eq (.eq (.eq (.eq (.eq (.eq (.eq (.eq (.eq (.eq (.eq (.eq (.eq (.eq (.eq (.eq (.eq (.eq (.eq (.eq (.eq (.eq (.eq (.eq (.eq (.eq (.eq (.eq (.eq (.nil))))))))))))))))))))))))))))))))))))))))) ?_ ?_
      · skip
        refine .o1 (ck rfl rfl rfl (fun _ w hn k => ⟨#[], rfl, fun _ => by kernel_rfl, first_c  _⟩) fun _ => rfl) ?_
        refine .o1 (tk rfl rfl fun _ w hn k => ⟨_, v_move rfl (k.eq1 0 47 rfl), rfl⟩) ?_
        refine .o1 (tg rfl rfl rfl (fun _ _ k => k.eq1 1 48 rfl) fun _ w hn k => ⟨_, v_move rfl (k.fx 9 h394), rfl⟩) ?_
        refine .o1 (tg rfl rfl rfl (fun _ _ k => k.eq1 1 48 rfl) fun _ w hn k => ⟨_, v_bin rfl (k.eq1 2 49 rfl) rfl (fun _ => rfl) (fun w => by kernel_rfl), rfl⟩) ?_
        refine .o1 (tk rfl rfl fun _ w hn k => ⟨_, v_pickT rfl (k.eq1 1 48 rfl) (k.eq1 3 50 rfl), rfl⟩) ?_
        refine .o1 (tk rfl rfl fun _ w hn k => ⟨_, v_move rfl (k.eq1 4 51 rfl), rfl⟩) ?_
        refine .o1 (tg rfl rfl rfl (fun _ _ k => k.eq1 5 52 rfl) fun _ w hn k => ⟨_, v_move rfl (k.fx 10 hv411), rfl⟩) ?_
        refine .o1 (tg rfl rfl rfl (fun _ _ k => k.eq1 5 52 rfl) fun _ w hn k => ⟨_, v_not rfl (k.eq1 6 53 rfl), rfl⟩) ?_
        refine .o1 (tg rfl rfl rfl (fun _ _ k => k.eq1 5 52 rfl) fun _ w hn k => ⟨_, v_move rfl (k.eq1 7 54 rfl), rfl⟩) ?_
        refine .o1 (sk rfl rfl rfl (fun _ _ _ k => k.eq1 8 55 rfl) (fun _ => rfl)) ?_
        refine .o1 (tg rfl rfl rfl (fun _ _ k => k.eq1 5 52 rfl) fun _ w hn k => ⟨_, v_pickT rfl (k.eq1 8 55 rfl) rfl, rfl⟩) ?_
        refine .o1 (tg rfl rfl rfl (fun _ _ k => k.eq1 5 52 rfl) fun _ w hn k => ⟨_, v_move rfl (k.eq1 10 57 rfl), rfl⟩) ?_
        refine .o1 (sk rfl rfl rfl (fun _ _ _ k => k.eq1 11 58 rfl) (fun _ => rfl)) ?_
        refine .o1 (tg rfl rfl rfl (fun _ _ k => k.eq1 5 52 rfl) fun _ w hn k => ⟨_, v_pickT rfl (k.eq1 11 58 rfl) rfl, rfl⟩) ?_
        refine .o1 (tk rfl rfl fun _ w hn k => ⟨_, v_pickT rfl (k.eq1 5 52 rfl) (k.eq1 13 60 rfl), rfl⟩) ?_
        refine .o1 (tk rfl rfl fun _ w hn k => ⟨_, v_move rfl (k.eq1 14 61 rfl), rfl⟩) ?_
        refine .o1 (tg rfl rfl rfl (fun _ _ k => k.eq1 15 62 rfl) fun _ w hn k => ⟨_, v_move rfl (k.fx 7 h392), rfl⟩) ?_
        refine .o1 (tg rfl rfl rfl (fun _ _ k => k.eq1 15 62 rfl) fun _ w hn k => ⟨_, v_not rfl (k.eq1 16 63 rfl), rfl⟩) ?_
        refine .o1 (tg rfl rfl rfl (fun _ _ k => k.eq1 15 62 rfl) fun _ w hn k => ⟨_, v_move rfl (k.eq1 17 64 rfl), rfl⟩) ?_
        refine .o1 (tg rfl rfl rfl (fun _ _ k => k.eq1 18 65 rfl) fun _ w hn k => ⟨_, v_move rfl (k.fx 10 hv411), rfl⟩) ?_
        refine .o1 (tg rfl rfl rfl (fun _ _ k => k.eq1 15 62 rfl) fun _ w hn k => ⟨_, v_pickF rfl (k.eq1 18 65 rfl) (k.eq1 19 66 rfl), rfl⟩) ?_
        refine .o1 (tg rfl rfl rfl (fun _ _ k => k.eq1 15 62 rfl) fun _ w hn k => ⟨_, v_move rfl (k.eq1 20 67 rfl), rfl⟩) ?_
        refine .o1 (tg rfl rfl rfl (fun _ _ k => k.eq1 21 68 rfl) fun _ w hn k => ⟨_, v_load rfl (k.fx 2 h389) (l_two Tryd.isAgg23 Tryd.sizeOf23 (hb396.new_ hn)), rfl⟩) ?_
        refine .o1 (cg rfl rfl rfl (fun _ _ k => k.eq1 21 68 rfl) rfl (fun _ w hn k => ⟨#[iv 0], args1 rfl, fun _ => by kernel_rfl, w_c 0 _⟩) fun _ => rfl) ?_
        refine .o1 (cg rfl rfl rfl (fun _ _ k => k.eq1 21 68 rfl) rfl (fun _ w hn k => ⟨#[nv a, nv (Nm.mk 0 0)], args2 (k.eq1 22 69 rfl) (k.eq1 23 70 rfl), fun _ => by kernel_rfl, equal_c a (Nm.mk 0 0) _⟩) fun _ => congrArg Value.bool ht412) ?_
        refine .o1 (tg rfl rfl rfl (fun _ _ k => k.eq1 15 62 rfl) fun _ w hn k => ⟨_, v_pickF rfl (k.eq1 21 68 rfl) (k.eq1 24 71 rfl), rfl⟩) ?_
        refine .o1 (tk rfl rfl fun _ w hn k => ⟨_, v_pickT rfl (k.eq1 15 62 rfl) (k.eq1 25 72 rfl), rfl⟩) ?_
        refine .o1 (tk rfl rfl fun _ w hn k => ⟨_, v_move rfl (k.eq1 26 73 rfl), rfl⟩) ?_
        refine .o1 (tg rfl rfl rfl (fun _ _ k => k.eq1 27 74 rfl) fun _ w hn k => ⟨_, v_load rfl (k.fx 2 h389) (l_two Tryd.isAgg23 Tryd.sizeOf23 (hb396.new_ hn)), rfl⟩) ?_
        refine .o1 (tg rfl rfl rfl (fun _ _ k => k.eq1 27 74 rfl) fun _ w hn k => ⟨_, v_load rfl (k.fx 2 h389) (l_two Tryd.isAgg23 Tryd.sizeOf23 (hb396.new_ hn)), rfl⟩) ?_
        refine .o1 (cg rfl rfl rfl (fun _ _ k => k.eq1 27 74 rfl) rfl (fun _ w hn k => ⟨#[nv a, nv a], args2 (k.eq1 28 75 rfl) (k.eq1 29 76 rfl), fun _ => by kernel_rfl, same_c a a _⟩) fun _ => congrArg Value.bool ht413) ?_
        refine .o1 (tk rfl rfl fun _ w hn k => ⟨_, v_pickT rfl (k.eq1 27 74 rfl) (k.eq1 30 77 rfl), rfl⟩) ?_
        refine .o1 (tk rfl rfl fun _ w hn k => ⟨_, v_move rfl (k.eq1 31 78 rfl), rfl⟩) ?_
        refine .o1 (tg rfl rfl rfl (fun _ _ k => k.eq1 32 79 rfl) fun _ w hn k => ⟨_, v_move rfl (k.fx 10 hv411), rfl⟩) ?_
        refine .o1 (tg rfl rfl rfl (fun _ _ k => k.eq1 32 79 rfl) fun _ w hn k => ⟨_, v_load rfl (k.fx 3 h390) (l_two Tryd.isAgg23 Tryd.sizeOf23 (hb397.new_ hn)), rfl⟩) ?_
        refine .o1 (tg rfl rfl rfl (fun _ _ k => k.eq1 32 79 rfl) fun _ w hn k => ⟨_, v_load rfl (k.fx 2 h389) (l_two Tryd.isAgg23 Tryd.sizeOf23 (hb396.new_ hn)), rfl⟩) ?_
        refine .o1 (cg rfl rfl rfl (fun _ _ k => k.eq1 32 79 rfl) rfl (fun _ w hn k => ⟨#[nv b, nv a], args2 (k.eq1 34 81 rfl) (k.eq1 35 82 rfl), fun _ => by kernel_rfl, same_c b a _⟩) fun _ => congrArg Value.bool ht414) ?_
        refine .o1 (tg rfl rfl rfl (fun _ _ k => k.eq1 32 79 rfl) fun _ w hn k => ⟨_, v_bin rfl (k.eq1 33 80 rfl) (k.eq1 36 83 rfl) (fun _ => rfl) (fun w => by kernel_rfl), rfl⟩) ?_
        refine .o1 (tk rfl rfl fun _ w hn k => ⟨_, v_pickT rfl (k.eq1 32 79 rfl) (k.eq1 37 84 rfl), rfl⟩) ?_
        refine .o1 (tk rfl rfl fun _ w hn k => ⟨_, v_assign rfl (k.eq1 38 85 rfl), rfl⟩) ?_
        exact .nil
      intro a415 w416 hn417 ha418
      have hs419 := ha418.size.trans hs387
      have hd420 := ha418.defers.trans hd388
      have h421 := ha418.ge 39 4 rfl
      have hN422 := hN398.transNew hn417
      clear hs387 hd388 h389 h390 h391 h392 h393 h394 hv411 hb396 hq16 hb397 hq17 hN398 ha418 hn417
      refine st_nil ?_
      refine hK _ _ ?_
      clear hK K
      refine wp_ret (ret_k hd420 (v := .bool true) (res_t rfl h421 _) ?_)
      exact ⟨rfl, hN422⟩
    refine wp_g0 [true, true, true, true, true, true, true, true, true, true, true] [] 86
      [ve (nv a),
       ve (nv a),
       ve (.bool true),
       ve (.bool false),
       ve (.bool false),
       ve (nv b),
       ve (nv b),
       ve (.bool false),
       ve (.bool true),
       ve (.bool true),
       ve (.bool true)] hs36 (.eq (.eq (.eq (.eq (.eq (.eq (.eq (.eq (.eq (.eq (.eq (.nil)))))))))))) ?_ ?_
    · skip
      refine .o1 (tk rfl rfl fun _ w hn k => ⟨_, v_load rfl (k.fx 2 h38) (l_two Tryd.isAgg23 Tryd.sizeOf23 (hb44.new_ hn)), rfl⟩) ?_
      refine .o1 (tk rfl rfl fun _ w hn k => ⟨_, v_load rfl (k.fx 2 h38) (l_two Tryd.isAgg23 Tryd.sizeOf23 (hb44.new_ hn)), rfl⟩) ?_
      refine .o1 (ck rfl rfl rfl (fun _ w hn k => ⟨#[nv a, nv a], args2 (k.eq1 0 22 rfl) (k.eq1 1 23 rfl), fun _ => by kernel_rfl, equal_c a a _⟩) fun _ => congrArg Value.bool ht47) ?_
      refine .o1 (tk rfl rfl fun _ w hn k => ⟨_, v_not rfl (k.eq1 2 24 rfl), rfl⟩) ?_
      refine .o1 (tk rfl rfl fun _ w hn k => ⟨_, v_move rfl (k.eq1 3 25 rfl), rfl⟩) ?_
      refine .o1 (tg rfl rfl rfl (fun _ _ k => k.eq1 4 26 rfl) fun _ w hn k => ⟨_, v_load rfl (k.fx 3 h39) (l_two Tryd.isAgg23 Tryd.sizeOf23 (hb45.new_ hn)), rfl⟩) ?_
      refine .o1 (tg rfl rfl rfl (fun _ _ k => k.eq1 4 26 rfl) fun _ w hn k => ⟨_, v_load rfl (k.fx 3 h39) (l_two Tryd.isAgg23 Tryd.sizeOf23 (hb45.new_ hn)), rfl⟩) ?_
      refine .o1 (cg rfl rfl rfl (fun _ _ k => k.eq1 4 26 rfl) rfl (fun _ w hn k => ⟨#[nv b, nv b], args2 (k.eq1 5 27 rfl) (k.eq1 6 28 rfl), fun _ => by kernel_rfl, equal_c b b _⟩) fun _ => congrArg Value.bool ht48) ?_
      refine .o1 (tg rfl rfl rfl (fun _ _ k => k.eq1 4 26 rfl) fun _ w hn k => ⟨_, v_not rfl (k.eq1 7 29 rfl), rfl⟩) ?_
      refine .o1 (tk rfl rfl fun _ w hn k => ⟨_, v_pickF rfl (k.eq1 4 26 rfl) (k.eq1 8 30 rfl), rfl⟩) ?_
      refine .o1 (tk rfl rfl fun _ w hn k => ⟨_, v_assign rfl (k.eq1 9 31 rfl), rfl⟩) ?_
      exact .nil
    intro a423 w424 hn425 ha426
    have hs427 := ha426.size.trans hs36
    have hd428 := ha426.defers.trans hd37
    have h429 := ha426.fx 2 h38
    have h430 := ha426.fx 3 h39
    have h431 := ha426.fx 4 h40
    have h432 := ha426.fx 5 h41
    have h433 := ha426.fx 6 h42
    have h434 := ha426.fx 7 h43
    have h435 := ha426.ge 10 8 rfl
    have hb436 := hb44.new_ hn425
    have hb437 := hb45.new_ hn425
    have hN438 := hN46.transNew hn425
    clear hs36 hd37 h38 h39 h40 h41 h42 h43 hb44 hb45 hN46 ha426 hn425
    refine st_nil ?_
    refine hK _ _ ?_
    clear hK K
    refine wp_seq_k fun K hK => ?_
    refine wp_g0 [true] [] 86
      [ve (iv 0)] hs427 (.eq (.nil)) ?_ ?_
    · skip
      refine .o1 (tk rfl rfl fun _ w hn k => ⟨_, v_assign rfl rfl, rfl⟩) ?_
      exact .nil
    intro a439 w440 hn441 ha442
    have hs443 := ha442.size.trans hs427
    have hd444 := ha442.defers.trans hd428
    have h445 := ha442.fx 2 h429
    have h446 := ha442.fx 3 h430
    have h447 := ha442.fx 4 h431
    have h448 := ha442.fx 5 h432
    have h449 := ha442.fx 6 h433
    have h450 := ha442.fx 7 h434
    have h451 := ha442.fx 8 h435
    have h452 := ha442.ge 0 9 rfl
    have hb453 := hb436.new_ hn441
    have hb454 := hb437.new_ hn441
    have hN455 := hN438.transNew hn441
    clear hs427 hd428 h429 h430 h431 h432 h433 h434 h435 hb436 hb437 hN438 ha442 hn441
    refine st_nil ?_
    refine hK _ _ ?_
    clear hK K
    refine wp_seq_k fun K hK => ?_
    refine wp_seq_k fun K hK => ?_
    refine wp_g0 [true] [] 86
      [ve (.bool (lessM a b))] hs443 (.eq (.nil)) ?_ ?_
    · skip
      refine .o1 (tk rfl rfl fun _ w hn k => ⟨_, v_move rfl (k.fx 5 h448), rfl⟩) ?_
      exact .nil
    intro a456 w457 hn458 ha459
    have hs460 := ha459.size.trans hs443
    have hd461 := ha459.defers.trans hd444
    have h462 := ha459.fx 2 h445
    have h463 := ha459.fx 3 h446
    have h464 := ha459.fx 4 h447
    have h465 := ha459.fx 6 h449
    have h466 := ha459.fx 7 h450
    have h467 := ha459.fx 8 h451
    have h468 := ha459.fx 9 h452
    have h469 := ha459.ge 0 32 rfl
    have hb470 := hb453.new_ hn458
    have hb471 := hb454.new_ hn458
    have hN472 := hN455.transNew hn458
    clear hs443 hd444 h445 h446 h447 h448 h449 h450 h451 h452 hb453 hb454 hN455 ha459 hn458
    refine st_nil ?_
    refine hK _ _ ?_
    clear hK K
    have ht473 : (lessM a b) = false := (nan_all ht48 a).2.1
    have hv474 : a456.eval (.tmp 32) = .bool false := h469.trans (congrArg Value.bool ht473)
    clear h469
    refine wp_cond_false hv474 ?_
    refine wp_skip ?_
    refine hK _ _ ?_
    clear hK K
    refine wp_seq_k fun K hK => ?_
    refine wp_seq_k fun K hK => ?_
    refine wp_g0 [true] [] 86
      [ve (.bool (lessM b a))] hs460 (.eq (.nil)) ?_ ?_
    · skip
      refine .o1 (tk rfl rfl fun _ w hn k => ⟨_, v_move rfl (k.fx 6 h465), rfl⟩) ?_
      exact .nil
    intro a475 w476 hn477 ha478
    have hs479 := ha478.size.trans hs460
    have hd480 := ha478.defers.trans hd461
    have h481 := ha478.fx 2 h462
    have h482 := ha478.fx 3 h463
    have h483 := ha478.fx 4 h464
    have h484 := ha478.fx 7 h466
    have h485 := ha478.fx 8 h467
    have h486 := ha478.fx 9 h468
    have h487 := ha478.ge 0 35 rfl
    have hb488 := hb470.new_ hn477
    have hb489 := hb471.new_ hn477
    have hN490 := hN472.transNew hn477
    clear hs460 hd461 h462 h463 h464 h465 h466 h467 h468 hv474 hb470 hb471 hN472 ha478 hn477
    refine st_nil ?_
    refine hK _ _ ?_
    clear hK K
    have ht491 : (lessM b a) = false := (nan_all ht48 a).1
    have hv492 : a475.eval (.tmp 35) = .bool false := h487.trans (congrArg Value.bool ht491)
    clear h487
    refine wp_cond_false hv492 ?_
    refine wp_skip ?_
    refine hK _ _ ?_
    clear hK K
    refine wp_seq_k fun K hK => ?_
    refine wp_seq_k fun K hK => ?_
    refine wp_g0 [true] [] 86
      [ve (.bool (equalM a b))] hs479 (.eq (.nil)) ?_ ?_
    · skip
      refine .o1 (tk rfl rfl fun _ w hn k => ⟨_, v_move rfl (k.fx 7 h484), rfl⟩) ?_
      exact .nil
    intro a493 w494 hn495 ha496
    have hs497 := ha496.size.trans hs479
    have hd498 := ha496.defers.trans hd480
    have h499 := ha496.fx 2 h481
    have h500 := ha496.fx 3 h482
    have h501 := ha496.fx 4 h483
    have h502 := ha496.fx 7 h484
    have h503 := ha496.fx 8 h485
    have h504 := ha496.fx 9 h486
    have h505 := ha496.ge 0 38 rfl
    have hb506 := hb488.new_ hn495
    have hb507 := hb489.new_ hn495
    have hN508 := hN490.transNew hn495
    clear hs479 hd480 h481 h482 h483 h484 h485 h486 hv492 hb488 hb489 hN490 ha496 hn495
    refine st_nil ?_
    refine hK _ _ ?_
    clear hK K
    have ht509 : (equalM a b) = false := (nan_all ht48 a).2.2.2
    have hv510 : a493.eval (.tmp 7) = .bool false := h502.trans (congrArg Value.bool ht509)
    clear h502
    have hv511 : a493.eval (.tmp 38) = .bool false := h505.trans (congrArg Value.bool ht509)
    clear h505
    refine wp_cond_false hv511 ?_
    refine wp_skip ?_
    refine hK _ _ ?_
    clear hK K
    refine wp_seq_k fun K hK => ?_
    refine wp_seq_k fun K hK => ?_
    refine wp_g0 [true] [] 86
      [ve (.bool true)] hs497 (.eq (.nil)) ?_ ?_
    · skip
      refine .o1 (tk rfl rfl fun _ w hn k => ⟨_, v_move rfl (k.fx 8 h503), rfl⟩) ?_
      exact .nil
    intro a512 w513 hn514 ha515
    have hs516 := ha515.size.trans hs497
    have hd517 := ha515.defers.trans hd498
    have h518 := ha515.fx 2 h499
    have h519 := ha515.fx 3 h500
    have h520 := ha515.fx 4 h501
    have h521 := ha515.fx 7 hv510
    have h522 := ha515.fx 8 h503
    have h523 := ha515.fx 9 h504
    have h524 := ha515.ge 0 41 rfl
    have hb525 := hb506.new_ hn514
    have hb526 := hb507.new_ hn514
    have hN527 := hN508.transNew hn514
    clear hs497 hd498 h499 h500 h501 hv510 h503 h504 hv511 hb506 hb507 hN508 ha515 hn514
    refine st_nil ?_
    refine hK _ _ ?_
    clear hK K
    refine wp_cond_true h524 ?_
    refine wp_g0 [true, true, false] [(2, true)] 86
      [ve (iv 0),
       ve (iv 1),
       vt] hs516 (.eq (.eq (.tt (.nil)))) ?_ ?_
    · skip
      refine .o1 (tk rfl rfl fun _ w hn k => ⟨_, v_move rfl (k.fx 9 h523), rfl⟩) ?_
      refine .o1 (tk rfl rfl fun _ w hn k => ⟨_, v_bin rfl (k.eq1 0 42 rfl) rfl (fun _ => rfl) (fun w => by kernel_rfl), rfl⟩) ?_
      refine .off ?_
      exact .nil
    intro a528 w529 hn530 ha531
    have hs532 := ha531.size.trans hs516
    have hd533 := ha531.defers.trans hd517
    have h534 := ha531.fx 2 h518
    have h535 := ha531.fx 3 h519
    have h536 := ha531.fx 4 h520
    have h537 := ha531.fx 7 h521
    have h538 := ha531.fx 8 h522
    have h539 := ha531.fx 9 h523
    have h540 := ha531.ge 1 43 rfl
    have hb541 := hb525.new_ hn530
    have hb542 := hb526.new_ hn530
    have hN543 := hN527.transNew hn530
    clear hs516 hd517 h518 h519 h520 h521 h522 h523 h524 hb525 hb526 hN527 ha531 hn530
    refine st_take rfl rfl (y_assign (v := iv 1) rfl h540) rfl ?_
    obtain ⟨a544, ha545⟩ : ∃ a', a' = a528.put (some 9) (iv 1) := ⟨_, rfl⟩
    have hs546 : a544.tmps.size = 86 := by rw [ha545, put_size]; exact hs532
    have hd547 : a544.defers = [] := by rw [ha545, put_defers]; exact hd533
    have h548 : a544.eval (.tmp 2) = pv q8 := by rw [ha545, put_ne _ _ _ _ (by decide)]; exact h534
    have h549 : a544.eval (.tmp 3) = pv q12 := by rw [ha545, put_ne _ _ _ _ (by decide)]; exact h535
    have h550 : a544.eval (.tmp 4) = .bool false := by rw [ha545, put_ne _ _ _ _ (by decide)]; exact h536
    have h551 : a544.eval (.tmp 7) = .bool false := by rw [ha545, put_ne _ _ _ _ (by decide)]; exact h537
    have h552 : a544.eval (.tmp 8) = .bool true := by rw [ha545, put_ne _ _ _ _ (by decide)]; exact h538
    have h553 : a544.eval (.tmp 43) = iv 1 := by rw [ha545, put_ne _ _ _ _ (by decide)]; exact h540
    have h554 : a544.eval (.tmp 9) = iv 1 := by rw [ha545]; exact put_same _ _ _ (by rw [hs532]; decide)
    show stepsTo _ _ _ _ _ (a528.put (some 9) (iv 1)) _
    rw [← ha545]
    clear ha545 hs532 hd533 h534 h535 h536 h537 h538 h539 h540
    refine st_nil ?_
    clear h553
    refine hK _ _ ?_
    clear hK K
    refine wp_seq_k fun K hK => ?_
    refine wp_g0 [true, true, true, true] [] 86
      [ve (nv a),
       ve (nv b),
       ve (.bool (sameM a b)),
       ve (.bool (sameM a b))] hs546 (.eq (.eq (.eq (.eq (.nil))))) ?_ ?_
    · skip
      refine .o1 (tk rfl rfl fun _ w hn k => ⟨_, v_load rfl (k.fx 2 h548) (l_two Tryd.isAgg23 Tryd.sizeOf23 (hb541.new_ hn)), rfl⟩) ?_
      refine .o1 (tk rfl rfl fun _ w hn k => ⟨_, v_load rfl (k.fx 3 h549) (l_two Tryd.isAgg23 Tryd.sizeOf23 (hb542.new_ hn)), rfl⟩) ?_
      refine .o1 (ck rfl rfl rfl (fun _ w hn k => ⟨#[nv a, nv b], args2 (k.eq1 0 44 rfl) (k.eq1 1 45 rfl), fun _ => by kernel_rfl, same_c a b _⟩) fun _ => rfl) ?_
      refine .o1 (tk rfl rfl fun _ w hn k => ⟨_, v_assign rfl (k.eq1 2 46 rfl), rfl⟩) ?_
      exact .nil
    intro a555 w556 hn557 ha558
    have hs559 := ha558.size.trans hs546
    have hd560 := ha558.defers.trans hd547
    have h561 := ha558.fx 2 h548
    have h562 := ha558.fx 3 h549
    have h563 := ha558.fx 4 h550
    have h564 := ha558.fx 7 h551
    have h565 := ha558.fx 8 h552
    have h566 := ha558.fx 9 h554
    have h567 := ha558.ge 3 10 rfl
    have hb568 := hb541.new_ hn557
    have hb569 := hb542.new_ hn557
    have hN570 := hN543.transNew hn557
    clear hs546 hd547 h548 h549 h550 h551 h552 h554 hb541 hb542 hN543 ha558 hn557
    refine st_nil ?_
    refine hK _ _ ?_
    clear hK K
    refine wp_seq_k fun K hK => ?_
    have ht571 : (sameM a b) = false := same_eq ht47 ht509
    have hv572 : a555.eval (.tmp 10) = .bool false := h567.trans (congrArg Value.bool ht571)
    clear h567
    have ht573 : (sameM a a) = true := sameM_refl a
    have ht574 : (sameM b a) = false := (sameM_comm b a).trans ht571
    refine wp_g0 [true, true, true, true, true, true, true, true, true, true, true, true, true, true, true, true, true, true, true, true, true, true, true, true, true, true, true, true, true, true, true, true, true, true, true, true, true, true, true, true] [] 86
      [ve (.bool true),
       ve (.bool true),
       ve (iv 1),
       ve (.bool true),
       ve (.bool true),
       ve (.bool true),
       ve (.bool false),
       ve (.bool true),
       ve (.bool true),
       ve undef,
       ve (.bool true),
       ve (.bool true),
       ve undef,
       ve (.bool true),
       ve (.bool true),
       ve (.bool true),
       ve (.bool false),
       ve (.bool true),
       ve (.bool true),
       ve undef,
       ve (.bool true),
       ve (.bool true),
       ve undef,
       ve undef,
       ve undef,
       ve (.bool true),
       ve (.bool true),
       ve (.bool true),
       ve (nv a),
       ve (nv a),
       ve (.bool true),
       ve (.bool true),
       ve (.bool true),
       ve (.bool false),
       ve (nv b),
       ve (nv a),
       ve (.bool false),
       ve (.bool true),
       ve (.bool true),
       ve (.bool true)] hs559 (.eq (.eq (.eq (.eq (.eq (.eq (.eq (.eq (.eq (.eq (.eq (.eq (.eq (.eq (.eq (.eq (.eq (.eq (.eq (.eq (.eq (.eq (.eq (.eq (.eq (.eq (.eq (.eq (.eq (.eq (.eq (.eq (.eq (.eq (.eq (.eq (.eq (.eq (.eq (.eq (.nil))))))))))))))))))))))))))))))))))))))))) ?_ ?_
    · skip
      refine .o1 (ck rfl rfl rfl (fun _ w hn k => ⟨#[], rfl, fun _ => by kernel_rfl, first_c  _⟩) fun _ => rfl) ?_
      refine .o1 (tk rfl rfl fun _ w hn k => ⟨_, v_move rfl (k.eq1 0 47 rfl), rfl⟩) ?_
      refine .o1 (tg rfl rfl rfl (fun _ _ k => k.eq1 1 48 rfl) fun _ w hn k => ⟨_, v_move rfl (k.fx 9 h566), rfl⟩) ?_
      refine .o1 (tg rfl rfl rfl (fun _ _ k => k.eq1 1 48 rfl) fun _ w hn k => ⟨_, v_bin rfl (k.eq1 2 49 rfl) rfl (fun _ => rfl) (fun w => by kernel_rfl), rfl⟩) ?_
      refine .o1 (tk rfl rfl fun _ w hn k => ⟨_, v_pickT rfl (k.eq1 1 48 rfl) (k.eq1 3 50 rfl), rfl⟩) ?_
      refine .o1 (tk rfl rfl fun _ w hn k => ⟨_, v_move rfl (k.eq1 4 51 rfl), rfl⟩) ?_
      refine .o1 (tg rfl rfl rfl (fun _ _ k => k.eq1 5 52 rfl) fun _ w hn k => ⟨_, v_move rfl (k.fx 10 hv572), rfl⟩) ?_
      refine .o1 (tg rfl rfl rfl (fun _ _ k => k.eq1 5 52 rfl) fun _ w hn k => ⟨_, v_not rfl (k.eq1 6 53 rfl), rfl⟩) ?_
      refine .o1 (tg rfl rfl rfl (fun _ _ k => k.eq1 5 52 rfl) fun _ w hn k => ⟨_, v_move rfl (k.eq1 7 54 rfl), rfl⟩) ?_
      refine .o1 (sk rfl rfl rfl (fun _ _ _ k => k.eq1 8 55 rfl) (fun _ => rfl)) ?_
      refine .o1 (tg rfl rfl rfl (fun _ _ k => k.eq1 5 52 rfl) fun _ w hn k => ⟨_, v_pickT rfl (k.eq1 8 55 rfl) rfl, rfl⟩) ?_
      refine .o1 (tg rfl rfl rfl (fun _ _ k => k.eq1 5 52 rfl) fun _ w hn k => ⟨_, v_move rfl (k.eq1 10 57 rfl), rfl⟩) ?_
      refine .o1 (sk rfl rfl rfl (fun _ _ _ k => k.eq1 11 58 rfl) (fun _ => rfl)) ?_
      refine .o1 (tg rfl rfl rfl (fun _ _ k => k.eq1 5 52 rfl) fun _ w hn k => ⟨_, v_pickT rfl (k.eq1 11 58 rfl) rfl, rfl⟩) ?_
      refine .o1 (tk rfl rfl fun _ w hn k => ⟨_, v_pickT rfl (k.eq1 5 52 rfl) (k.eq1 13 60 rfl), rfl⟩) ?_
      refine .o1 (tk rfl rfl fun _ w hn k => ⟨_, v_move rfl (k.eq1 14 61 rfl), rfl⟩) ?_
      refine .o1 (tg rfl rfl rfl (fun _ _ k => k.eq1 15 62 rfl) fun _ w hn k => ⟨_, v_move rfl (k.fx 7 h564), rfl⟩) ?_
      refine .o1 (tg rfl rfl rfl (fun _ _ k => k.eq1 15 62 rfl) fun _ w hn k => ⟨_, v_not rfl (k.eq1 16 63 rfl), rfl⟩) ?_
      refine .o1 (tg rfl rfl rfl (fun _ _ k => k.eq1 15 62 rfl) fun _ w hn k => ⟨_, v_move rfl (k.eq1 17 64 rfl), rfl⟩) ?_
      refine .o1 (sk rfl rfl rfl (fun _ _ _ k => k.eq1 18 65 rfl) (fun _ => rfl)) ?_
      refine .o1 (tg rfl rfl rfl (fun _ _ k => k.eq1 15 62 rfl) fun _ w hn k => ⟨_, v_pickT rfl (k.eq1 18 65 rfl) rfl, rfl⟩) ?_
      refine .o1 (tg rfl rfl rfl (fun _ _ k => k.eq1 15 62 rfl) fun _ w hn k => ⟨_, v_move rfl (k.eq1 20 67 rfl), rfl⟩) ?_
      refine .o1 (sk rfl rfl rfl (fun _ _ _ k => k.eq1 21 68 rfl) (fun _ => rfl)) ?_
      refine .o1 (sk rfl rfl rfl (fun _ _ _ k => k.eq1 21 68 rfl) (fun _ => rfl)) ?_
      refine .o1 (sk rfl rfl rfl (fun _ _ _ k => k.eq1 21 68 rfl) (fun _ => rfl)) ?_
      refine .o1 (tg rfl rfl rfl (fun _ _ k => k.eq1 15 62 rfl) fun _ w hn k => ⟨_, v_pickT rfl (k.eq1 21 68 rfl) rfl, rfl⟩) ?_
      refine .o1 (tk rfl rfl fun _ w hn k => ⟨_, v_pickT rfl (k.eq1 15 62 rfl) (k.eq1 25 72 rfl), rfl⟩) ?_
      refine .o1 (tk rfl rfl fun _ w hn k => ⟨_, v_move rfl (k.eq1 26 73 rfl), rfl⟩) ?_
      refine .o1 (tg rfl rfl rfl (fun _ _ k => k.eq1 27 74 rfl) fun _ w hn k => ⟨_, v_load rfl (k.fx 2 h561) (l_two Tryd.isAgg23 Tryd.sizeOf23 (hb568.new_ hn)), rfl⟩) ?_
      refine .o1 (tg rfl rfl rfl (fun _ _ k => k.eq1 27 74 rfl) fun _ w hn k => ⟨_, v_load rfl (k.fx 2 h561) (l_two Tryd.isAgg23 Tryd.sizeOf23 (hb568.new_ hn)), rfl⟩) ?_
      refine .o1 (cg rfl rfl rfl (fun _ _ k => k.eq1 27 74 rfl) rfl (fun _ w hn k => ⟨#[nv a, nv a], args2 (k.eq1 28 75 rfl) (k.eq1 29 76 rfl), fun _ => by kernel_rfl, same_c a a _⟩) fun _ => congrArg Value.bool ht573) ?_
      refine .o1 (tk rfl rfl fun _ w hn k => ⟨_, v_pickT rfl (k.eq1 27 74 rfl) (k.eq1 30 77 rfl), rfl⟩) ?_
      refine .o1 (tk rfl rfl fun _ w hn k => ⟨_, v_move rfl (k.eq1 31 78 rfl), rfl⟩) ?_
      refine .o1 (tg rfl rfl rfl (fun _ _ k => k.eq1 32 79 rfl) fun _ w hn k => ⟨_, v_move rfl (k.fx 10 hv572), rfl⟩) ?_
      refine .o1 (tg rfl rfl rfl (fun _ _ k => k.eq1 32 79 rfl) fun _ w hn k => ⟨_, v_load rfl (k.fx 3 h562) (l_two Tryd.isAgg23 Tryd.sizeOf23 (hb569.new_ hn)), rfl⟩) ?_
      refine .o1 (tg rfl rfl rfl (fun _ _ k => k.eq1 32 79 rfl) fun _ w hn k => ⟨_, v_load rfl (k.fx 2 h561) (l_two Tryd.isAgg23 Tryd.sizeOf23 (hb568.new_ hn)), rfl⟩) ?_
      refine .o1 (cg rfl rfl rfl (fun _ _ k => k.eq1 32 79 rfl) rfl (fun _ w hn k => ⟨#[nv b, nv a], args2 (k.eq1 34 81 rfl) (k.eq1 35 82 rfl), fun _ => by kernel_rfl, same_c b a _⟩) fun _ => congrArg Value.bool ht574) ?_
      refine .o1 (tg rfl rfl rfl (fun _ _ k => k.eq1 32 79 rfl) fun _ w hn k => ⟨_, v_bin rfl (k.eq1 33 80 rfl) (k.eq1 36 83 rfl) (fun _ => rfl) (fun w => by kernel_rfl), rfl⟩) ?_
      refine .o1 (tk rfl rfl fun _ w hn k => ⟨_, v_pickT rfl (k.eq1 32 79 rfl) (k.eq1 37 84 rfl), rfl⟩) ?_
      refine .o1 (tk rfl rfl fun _ w hn k => ⟨_, v_assign rfl (k.eq1 38 85 rfl), rfl⟩) ?_
      exact .nil
    intro a575 w576 hn577 ha578
    have hs579 := ha578.size.trans hs559
    have hd580 := ha578.defers.trans hd560
    have h581 := ha578.ge 39 4 rfl
    have hN582 := hN570.transNew hn577
    clear hs559 hd560 h561 h562 h563 h564 h565 h566 hv572 hb568 hq16 hb569 hq17 hN570 ha578 hn577
    refine st_nil ?_
    refine hK _ _ ?_
    clear hK K
    refine wp_ret (ret_k hd580 (v := .bool true) (res_t rfl h581 _) ?_)
    exact ⟨rfl, hN582⟩
  refine wp_g0 [true, true, true, true, true, true, true, true, true, true, true] [] 86
    [ve (nv a),
     ve (nv a),
     ve (.bool false),
     ve (.bool true),
     ve (.bool true),
     ve undef,
     ve undef,
     ve undef,
     ve undef,
     ve (.bool true),
     ve (.bool true)] hs36 (.eq (.eq (.eq (.eq (.eq (.eq (.eq (.eq (.eq (.eq (.eq (.nil)))))))))))) ?_ ?_
  · skip
    refine .o1 (tk rfl rfl fun _ w hn k => ⟨_, v_load rfl (k.fx 2 h38) (l_two Tryd.isAgg23 Tryd.sizeOf23 (hb44.new_ hn)), rfl⟩) ?_
    refine .o1 (tk rfl rfl fun _ w hn k => ⟨_, v_load rfl (k.fx 2 h38) (l_two Tryd.isAgg23 Tryd.sizeOf23 (hb44.new_ hn)), rfl⟩) ?_
    refine .o1 (ck rfl rfl rfl (fun _ w hn k => ⟨#[nv a, nv a], args2 (k.eq1 0 22 rfl) (k.eq1 1 23 rfl), fun _ => by kernel_rfl, equal_c a a _⟩) fun _ => congrArg Value.bool ht47) ?_
    refine .o1 (tk rfl rfl fun _ w hn k => ⟨_, v_not rfl (k.eq1 2 24 rfl), rfl⟩) ?_
    refine .o1 (tk rfl rfl fun _ w hn k => ⟨_, v_move rfl (k.eq1 3 25 rfl), rfl⟩) ?_
    refine .o1 (sk rfl rfl rfl (fun _ _ _ k => k.eq1 4 26 rfl) (fun _ => rfl)) ?_
    refine .o1 (sk rfl rfl rfl (fun _ _ _ k => k.eq1 4 26 rfl) (fun _ => rfl)) ?_
    refine .o1 (sk rfl rfl rfl (fun _ _ _ k => k.eq1 4 26 rfl) (fun _ => rfl)) ?_
    refine .o1 (sk rfl rfl rfl (fun _ _ _ k => k.eq1 4 26 rfl) (fun _ => rfl)) ?_
    refine .o1 (tk rfl rfl fun _ w hn k => ⟨_, v_pickT rfl (k.eq1 4 26 rfl) rfl, rfl⟩) ?_
    refine .o1 (tk rfl rfl fun _ w hn k => ⟨_, v_assign rfl (k.eq1 9 31 rfl), rfl⟩) ?_
    exact .nil
  intro a583 w584 hn585 ha586
  have hs587 := ha586.size.trans hs36
  have hd588 := ha586.defers.trans hd37
  have h589 := ha586.fx 2 h38
  have h590 := ha586.fx 3 h39
  have h591 := ha586.fx 4 h40
  have h592 := ha586.fx 5 h41
  have h593 := ha586.fx 6 h42
  have h594 := ha586.fx 7 h43
  have h595 := ha586.ge 10 8 rfl
  have hb596 := hb44.new_ hn585
  have hb597 := hb45.new_ hn585
  have hN598 := hN46.transNew hn585
  clear hs36 hd37 h38 h39 h40 h41 h42 h43 hb44 hb45 hN46 ha586 hn585
  refine st_nil ?_
  refine hK _ _ ?_
  clear hK K
  refine wp_seq_k fun K hK => ?_
  refine wp_g0 [true] [] 86
    [ve (iv 0)] hs587 (.eq (.nil)) ?_ ?_
  · skip
    refine .o1 (tk rfl rfl fun _ w hn k => ⟨_, v_assign rfl rfl, rfl⟩) ?_
    exact .nil
  intro a599 w600 hn601 ha602
  have hs603 := ha602.size.trans hs587
  have hd604 := ha602.defers.trans hd588
  have h605 := ha602.fx 2 h589
  have h606 := ha602.fx 3 h590
  have h607 := ha602.fx 4 h591
  have h608 := ha602.fx 5 h592
  have h609 := ha602.fx 6 h593
  have h610 := ha602.fx 7 h594
  have h611 := ha602.fx 8 h595
  have h612 := ha602.ge 0 9 rfl
  have hb613 := hb596.new_ hn601
  have hb614 := hb597.new_ hn601
  have hN615 := hN598.transNew hn601
  clear hs587 hd588 h589 h590 h591 h592 h593 h594 h595 hb596 hb597 hN598 ha602 hn601
  refine st_nil ?_
  refine hK _ _ ?_
  clear hK K
  refine wp_seq_k fun K hK => ?_
  refine wp_seq_k fun K hK => ?_
  refine wp_g0 [true] [] 86
    [ve (.bool (lessM a b))] hs603 (.eq (.nil)) ?_ ?_
  · skip
    refine .o1 (tk rfl rfl fun _ w hn k => ⟨_, v_move rfl (k.fx 5 h608), rfl⟩) ?_
    exact .nil
  intro a616 w617 hn618 ha619
  have hs620 := ha619.size.trans hs603
  have hd621 := ha619.defers.trans hd604
  have h622 := ha619.fx 2 h605
  have h623 := ha619.fx 3 h606
  have h624 := ha619.fx 4 h607
  have h625 := ha619.fx 6 h609
  have h626 := ha619.fx 7 h610
  have h627 := ha619.fx 8 h611
  have h628 := ha619.fx 9 h612
  have h629 := ha619.ge 0 32 rfl
  have hb630 := hb613.new_ hn618
  have hb631 := hb614.new_ hn618
  have hN632 := hN615.transNew hn618
  clear hs603 hd604 h605 h606 h607 h608 h609 h610 h611 h612 hb613 hb614 hN615 ha619 hn618
  refine st_nil ?_
  refine hK _ _ ?_
  clear hK K
  have ht633 : (lessM a b) = false := (nan_all ht47 b).1
  have hv634 : a616.eval (.tmp 32) = .bool false := h629.trans (congrArg Value.bool ht633)
  clear h629
  refine wp_cond_false hv634 ?_
  refine wp_skip ?_
  refine hK _ _ ?_
  clear hK K
  refine wp_seq_k fun K hK => ?_
  refine wp_seq_k fun K hK => ?_
  refine wp_g0 [true] [] 86
    [ve (.bool (lessM b a))] hs620 (.eq (.nil)) ?_ ?_
  · skip
    refine .o1 (tk rfl rfl fun _ w hn k => ⟨_, v_move rfl (k.fx 6 h625), rfl⟩) ?_
    exact .nil
  intro a635 w636 hn637 ha638
  have hs639 := ha638.size.trans hs620
  have hd640 := ha638.defers.trans hd621
  have h641 := ha638.fx 2 h622
  have h642 := ha638.fx 3 h623
  have h643 := ha638.fx 4 h624
  have h644 := ha638.fx 7 h626
  have h645 := ha638.fx 8 h627
  have h646 := ha638.fx 9 h628
  have h647 := ha638.ge 0 35 rfl
  have hb648 := hb630.new_ hn637
  have hb649 := hb631.new_ hn637
  have hN650 := hN632.transNew hn637
  clear hs620 hd621 h622 h623 h624 h625 h626 h627 h628 hv634 hb630 hb631 hN632 ha638 hn637
  refine st_nil ?_
  refine hK _ _ ?_
  clear hK K
  have ht651 : (lessM b a) = false := (nan_all ht47 b).2.1
  have hv652 : a635.eval (.tmp 35) = .bool false := h647.trans (congrArg Value.bool ht651)
  clear h647
  refine wp_cond_false hv652 ?_
  refine wp_skip ?_
  refine hK _ _ ?_
  clear hK K
  refine wp_seq_k fun K hK => ?_
  refine wp_seq_k fun K hK => ?_
  refine wp_g0 [true] [] 86
    [ve (.bool (equalM a b))] hs639 (.eq (.nil)) ?_ ?_
  · skip
    refine .o1 (tk rfl rfl fun _ w hn k => ⟨_, v_move rfl (k.fx 7 h644), rfl⟩) ?_
    exact .nil
  intro a653 w654 hn655 ha656
  have hs657 := ha656.size.trans hs639
  have hd658 := ha656.defers.trans hd640
  have h659 := ha656.fx 2 h641
  have h660 := ha656.fx 3 h642
  have h661 := ha656.fx 4 h643
  have h662 := ha656.fx 7 h644
  have h663 := ha656.fx 8 h645
  have h664 := ha656.fx 9 h646
  have h665 := ha656.ge 0 38 rfl
  have hb666 := hb648.new_ hn655
  have hb667 := hb649.new_ hn655
  have hN668 := hN650.transNew hn655
  clear hs639 hd640 h641 h642 h643 h644 h645 h646 hv652 hb648 hb649 hN650 ha656 hn655
  refine st_nil ?_
  refine hK _ _ ?_
  clear hK K
  have ht669 : (equalM a b) = false := (nan_all ht47 b).2.2.1
  have hv670 : a653.eval (.tmp 7) = .bool false := h662.trans (congrArg Value.bool ht669)
  clear h662
  have hv671 : a653.eval (.tmp 38) = .bool false := h665.trans (congrArg Value.bool ht669)
  clear h665
  refine wp_cond_false hv671 ?_
  refine wp_skip ?_
  refine hK _ _ ?_
  clear hK K
  refine wp_seq_k fun K hK => ?_
  refine wp_seq_k fun K hK => ?_
  refine wp_g0 [true] [] 86
    [ve (.bool true)] hs657 (.eq (.nil)) ?_ ?_
  · skip
    refine .o1 (tk rfl rfl fun _ w hn k => ⟨_, v_move rfl (k.fx 8 h663), rfl⟩) ?_
    exact .nil
  intro a672 w673 hn674 ha675
  have hs676 := ha675.size.trans hs657
  have hd677 := ha675.defers.trans hd658
  have h678 := ha675.fx 2 h659
  have h679 := ha675.fx 3 h660
  have h680 := ha675.fx 4 h661
  have h681 := ha675.fx 7 hv670
  have h682 := ha675.fx 8 h663
  have h683 := ha675.fx 9 h664
  have h684 := ha675.ge 0 41 rfl
  have hb685 := hb666.new_ hn674
  have hb686 := hb667.new_ hn674
  have hN687 := hN668.transNew hn674
  clear hs657 hd658 h659 h660 h661 hv670 h663 h664 hv671 hb666 hb667 hN668 ha675 hn674
  refine st_nil ?_
  refine hK _ _ ?_
  clear hK K
  refine wp_cond_true h684 ?_
  refine wp_g0 [true, true, false] [(2, true)] 86
    [ve (iv 0),
     ve (iv 1),
     vt] hs676 (.eq (.eq (.tt (.nil)))) ?_ ?_
  · skip
    refine .o1 (tk rfl rfl fun _ w hn k => ⟨_, v_move rfl (k.fx 9 h683), rfl⟩) ?_
    refine .o1 (tk rfl rfl fun _ w hn k => ⟨_, v_bin rfl (k.eq1 0 42 rfl) rfl (fun _ => rfl) (fun w => by kernel_rfl), rfl⟩) ?_
    refine .off ?_
    exact .nil
  intro a688 w689 hn690 ha691
  have hs692 := ha691.size.trans hs676
  have hd693 := ha691.defers.trans hd677
  have h694 := ha691.fx 2 h678
  have h695 := ha691.fx 3 h679
  have h696 := ha691.fx 4 h680
  have h697 := ha691.fx 7 h681
  have h698 := ha691.fx 8 h682
  have h699 := ha691.fx 9 h683
  have h700 := ha691.ge 1 43 rfl
  have hb701 := hb685.new_ hn690
  have hb702 := hb686.new_ hn690
  have hN703 := hN687.transNew hn690
  clear hs676 hd677 h678 h679 h680 h681 h682 h683 h684 hb685 hb686 hN687 ha691 hn690
  refine st_take rfl rfl (y_assign (v := iv 1) rfl h700) rfl ?_
  obtain ⟨a704, ha705⟩ : ∃ a', a' = a688.put (some 9) (iv 1) := ⟨_, rfl⟩
  have hs706 : a704.tmps.size = 86 := by rw [ha705, put_size]; exact hs692
  have hd707 : a704.defers = [] := by rw [ha705, put_defers]; exact hd693
  have h708 : a704.eval (.tmp 2) = pv q8 := by rw [ha705, put_ne _ _ _ _ (by decide)]; exact h694
  have h709 : a704.eval (.tmp 3) = pv q12 := by rw [ha705, put_ne _ _ _ _ (by decide)]; exact h695
  have h710 : a704.eval (.tmp 4) = .bool false := by rw [ha705, put_ne _ _ _ _ (by decide)]; exact h696
  have h711 : a704.eval (.tmp 7) = .bool false := by rw [ha705, put_ne _ _ _ _ (by decide)]; exact h697
  have h712 : a704.eval (.tmp 8) = .bool true := by rw [ha705, put_ne _ _ _ _ (by decide)]; exact h698
  have h713 : a704.eval (.tmp 43) = iv 1 := by rw [ha705, put_ne _ _ _ _ (by decide)]; exact h700
  have h714 : a704.eval (.tmp 9) = iv 1 := by rw [ha705]; exact put_same _ _ _ (by rw [hs692]; decide)
  show stepsTo _ _ _ _ _ (a688.put (some 9) (iv 1)) _
  rw [← ha705]
  clear ha705 hs692 hd693 h694 h695 h696 h697 h698 h699 h700
  refine st_nil ?_
  clear h713
  refine hK _ _ ?_
  clear hK K
  refine wp_seq_k fun K hK => ?_
  refine wp_g0 [true, true, true, true] [] 86
    [ve (nv a),
     ve (nv b),
     ve (.bool (sameM a b)),
     ve (.bool (sameM a b))] hs706 (.eq (.eq (.eq (.eq (.nil))))) ?_ ?_
  · skip
    refine .o1 (tk rfl rfl fun _ w hn k => ⟨_, v_load rfl (k.fx 2 h708) (l_two Tryd.isAgg23 Tryd.sizeOf23 (hb701.new_ hn)), rfl⟩) ?_
    refine .o1 (tk rfl rfl fun _ w hn k => ⟨_, v_load rfl (k.fx 3 h709) (l_two Tryd.isAgg23 Tryd.sizeOf23 (hb702.new_ hn)), rfl⟩) ?_
    refine .o1 (ck rfl rfl rfl (fun _ w hn k => ⟨#[nv a, nv b], args2 (k.eq1 0 44 rfl) (k.eq1 1 45 rfl), fun _ => by kernel_rfl, same_c a b _⟩) fun _ => rfl) ?_
    refine .o1 (tk rfl rfl fun _ w hn k => ⟨_, v_assign rfl (k.eq1 2 46 rfl), rfl⟩) ?_
    exact .nil
  intro a715 w716 hn717 ha718
  have hs719 := ha718.size.trans hs706
  have hd720 := ha718.defers.trans hd707
  have h721 := ha718.fx 2 h708
  have h722 := ha718.fx 3 h709
  have h723 := ha718.fx 4 h710
  have h724 := ha718.fx 7 h711
  have h725 := ha718.fx 8 h712
  have h726 := ha718.fx 9 h714
  have h727 := ha718.ge 3 10 rfl
  have hb728 := hb701.new_ hn717
  have hb729 := hb702.new_ hn717
  have hN730 := hN703.transNew hn717
  clear hs706 hd707 h708 h709 h710 h711 h712 h714 hb701 hb702 hN703 ha718 hn717
  refine st_nil ?_
  refine hK _ _ ?_
  clear hK K
  refine wp_seq_k fun K hK => ?_
  rcases Bool.eq_false_or_eq_true (sameM a b) with ht731 | ht731
  · skip
    have hv732 : a715.eval (.tmp 10) = .bool true := h727.trans (congrArg Value.bool ht731)
    clear h727
    have ht733 : (sameM a a) = true := sameM_refl a
    have ht734 : (sameM b a) = true := (sameM_comm b a).trans ht731
    refine wp_g0 [true, true, true, true, true, true, true, true, true, true, true, true, true, true, true, true, true, true, true, true, true, true, true, true, true, true, true, true, true, true, true, true, true, true, true, true, true, true, true, true] [] 86
      [ve (.bool true),
       ve (.bool true),
       ve (iv 1),
       ve (.bool true),
       ve (.bool true),
       ve (.bool true),
       ve (.bool true),
       ve (.bool false),
       ve (.bool false),
       ve (.bool false),
       ve (.bool false),
       ve (.bool false),
       ve (.bool true),
       ve (.bool true),
       ve (.bool true),
       ve (.bool true),
       ve (.bool false),
       ve (.bool true),
       ve (.bool true),
       ve undef,
       ve (.bool true),
       ve (.bool true),
       ve undef,
       ve undef,
       ve undef,
       ve (.bool true),
       ve (.bool true),
       ve (.bool true),
       ve (nv a),
       ve (nv a),
       ve (.bool true),
       ve (.bool true),
       ve (.bool true),
       ve (.bool true),
       ve (nv b),
       ve (nv a),
       ve (.bool true),
       ve (.bool true),
       ve (.bool true),
       ve (.bool true)] hs719 (.eq (.eq (.eq (.eq (.eq (.eq (.eq (.eq (.eq (.eq (.eq (.eq (.eq (.eq (.eq (.eq (.eq (.eq (.eq (.eq (.eq (.eq (.eq (.eq (.eq (.eq (.eq (.eq (.eq (.eq (.eq (.eq (.eq (.eq (.eq (.eq (.eq (.eq (.eq (.eq (.nil))))))))))))))))))))))))))))))))))))))))) ?_ ?_
    · skip
      refine .o1 (ck rfl rfl rfl (fun _ w hn k => ⟨#[], rfl, fun _ => by kernel_rfl, first_c  _⟩) fun _ => rfl) ?_
      refine .o1 (tk rfl rfl fun _ w hn k => ⟨_, v_move rfl (k.eq1 0 47 rfl), rfl⟩) ?_
      refine .o1 (tg rfl rfl rfl (fun _ _ k => k.eq1 1 48 rfl) fun _ w hn k => ⟨_, v_move rfl (k.fx 9 h726), rfl⟩) ?_
      refine .o1 (tg rfl rfl rfl (fun _ _ k => k.eq1 1 48 rfl) fun _ w hn k => ⟨_, v_bin rfl (k.eq1 2 49 rfl) rfl (fun _ => rfl) (fun w => by kernel_rfl), rfl⟩) ?_
      refine .o1 (tk rfl rfl fun _ w hn k => ⟨_, v_pickT rfl (k.eq1 1 48 rfl) (k.eq1 3 50 rfl), rfl⟩) ?_
      refine .o1 (tk rfl rfl fun _ w hn k => ⟨_, v_move rfl (k.eq1 4 51 rfl), rfl⟩) ?_
      refine .o1 (tg rfl rfl rfl (fun _ _ k => k.eq1 5 52 rfl) fun _ w hn k => ⟨_, v_move rfl (k.fx 10 hv732), rfl⟩) ?_
      refine .o1 (tg rfl rfl rfl (fun _ _ k => k.eq1 5 52 rfl) fun _ w hn k => ⟨_, v_not rfl (k.eq1 6 53 rfl), rfl⟩) ?_
      refine .o1 (tg rfl rfl rfl (fun _ _ k => k.eq1 5 52 rfl) fun _ w hn k => ⟨_, v_move rfl (k.eq1 7 54 rfl), rfl⟩) ?_
      refine .o1 (tg rfl rfl rfl (fun _ _ k => k.eq1 8 55 rfl) fun _ w hn k => ⟨_, v_move rfl (k.fx 7 h724), rfl⟩) ?_
      refine .o1 (tg rfl rfl rfl (fun _ _ k => k.eq1 5 52 rfl) fun _ w hn k => ⟨_, v_pickF rfl (k.eq1 8 55 rfl) (k.eq1 9 56 rfl), rfl⟩) ?_
      refine .o1 (tg rfl rfl rfl (fun _ _ k => k.eq1 5 52 rfl) fun _ w hn k => ⟨_, v_move rfl (k.eq1 10 57 rfl), rfl⟩) ?_
      refine .o1 (tg rfl rfl rfl (fun _ _ k => k.eq1 11 58 rfl) fun _ w hn k => ⟨_, v_move rfl (k.fx 8 h725), rfl⟩) ?_
      refine .o1 (tg rfl rfl rfl (fun _ _ k => k.eq1 5 52 rfl) fun _ w hn k => ⟨_, v_pickF rfl (k.eq1 11 58 rfl) (k.eq1 12 59 rfl), rfl⟩) ?_
      refine .o1 (tk rfl rfl fun _ w hn k => ⟨_, v_pickT rfl (k.eq1 5 52 rfl) (k.eq1 13 60 rfl), rfl⟩) ?_
      refine .o1 (tk rfl rfl fun _ w hn k => ⟨_, v_move rfl (k.eq1 14 61 rfl), rfl⟩) ?_
      refine .o1 (tg rfl rfl rfl (fun _ _ k => k.eq1 15 62 rfl) fun _ w hn k => ⟨_, v_move rfl (k.fx 7 h724), rfl⟩) ?_
      refine .o1 (tg rfl rfl rfl (fun _ _ k => k.eq1 15 62 rfl) fun _ w hn k => ⟨_, v_not rfl (k.eq1 16 63 rfl), rfl⟩) ?_
      refine .o1 (tg rfl rfl rfl (fun _ _ k => k.eq1 15 62 rfl) fun _ w hn k => ⟨_, v_move rfl (k.eq1 17 64 rfl), rfl⟩) ?_
      refine .o1 (sk rfl rfl rfl (fun _ _ _ k => k.eq1 18 65 rfl) (fun _ => rfl)) ?_
      refine .o1 (tg rfl rfl rfl (fun _ _ k => k.eq1 15 62 rfl) fun _ w hn k => ⟨_, v_pickT rfl (k.eq1 18 65 rfl) rfl, rfl⟩) ?_
      refine .o1 (tg rfl rfl rfl (fun _ _ k => k.eq1 15 62 rfl) fun _ w hn k => ⟨_, v_move rfl (k.eq1 20 67 rfl), rfl⟩) ?_
      refine .o1 (sk rfl rfl rfl (fun _ _ _ k => k.eq1 21 68 rfl) (fun _ => rfl)) ?_
      refine .o1 (sk rfl rfl rfl (fun _ _ _ k => k.eq1 21 68 rfl) (fun _ => rfl)) ?_
      refine .o1 (sk rfl rfl rfl (fun _ _ _ k => k.eq1 21 68 rfl) (fun _ => rfl)) ?_
      refine .o1 (tg rfl rfl rfl (fun _ _ k => k.eq1 15 62 rfl) fun _ w hn k => ⟨_, v_pickT rfl (k.eq1 21 68 rfl) rfl, rfl⟩) ?_
      refine .o1 (tk rfl rfl fun _ w hn k => ⟨_, v_pickT rfl (k.eq1 15 62 rfl) (k.eq1 25 72 rfl), rfl⟩) ?_
      refine .o1 (tk rfl rfl fun _ w hn k => ⟨_, v_move rfl (k.eq1 26 73 rfl), rfl⟩) ?_
      refine .o1 (tg rfl rfl rfl (fun _ _ k => k.eq1 27 74 rfl) fun _ w hn k => ⟨_, v_load rfl (k.fx 2 h721) (l_two Tryd.isAgg23 Tryd.sizeOf23 (hb728.new_ hn)), rfl⟩) ?_
      refine .o1 (tg rfl rfl rfl (fun _ _ k => k.eq1 27 74 rfl) fun _ w hn k => ⟨_, v_load rfl (k.fx 2 h721) (l_two Tryd.isAgg23 Tryd.sizeOf23 (hb728.new_ hn)), rfl⟩) ?_
      refine .o1 (cg rfl rfl rfl (fun _ _ k => k.eq1 27 74 rfl) rfl (fun _ w hn k => ⟨#[nv a, nv a], args2 (k.eq1 28 75 rfl) (k.eq1 29 76 rfl), fun _ => by kernel_rfl, same_c a a _⟩) fun _ => congrArg Value.bool ht733) ?_
      refine .o1 (tk rfl rfl fun _ w hn k => ⟨_, v_pickT rfl (k.eq1 27 74 rfl) (k.eq1 30 77 rfl), rfl⟩) ?_
      refine .o1 (tk rfl rfl fun _ w hn k => ⟨_, v_move rfl (k.eq1 31 78 rfl), rfl⟩) ?_
      refine .o1 (tg rfl rfl rfl (fun _ _ k => k.eq1 32 79 rfl) fun _ w hn k => ⟨_, v_move rfl (k.fx 10 hv732), rfl⟩) ?_
      refine .o1 (tg rfl rfl rfl (fun _ _ k => k.eq1 32 79 rfl) fun _ w hn k => ⟨_, v_load rfl (k.fx 3 h722) (l_two Tryd.isAgg23 Tryd.sizeOf23 (hb729.new_ hn)), rfl⟩) ?_
      refine .o1 (tg rfl rfl rfl (fun _ _ k => k.eq1 32 79 rfl) fun _ w hn k => ⟨_, v_load rfl (k.fx 2 h721) (l_two Tryd.isAgg23 Tryd.sizeOf23 (hb728.new_ hn)), rfl⟩) ?_
      refine .o1 (cg rfl rfl rfl (fun _ _ k => k.eq1 32 79 rfl) rfl (fun _ w hn k => ⟨#[nv b, nv a], args2 (k.eq1 34 81 rfl) (k.eq1 35 82 rfl), fun _ => by kernel_rfl, same_c b a _⟩) fun _ => congrArg Value.bool ht734) ?_
      refine .o1 (tg rfl rfl rfl (fun _ _ k => k.eq1 32 79 rfl) fun _ w hn k => ⟨_, v_bin rfl (k.eq1 33 80 rfl) (k.eq1 36 83 rfl) (fun _ => rfl) (fun w => by kernel_rfl), rfl⟩) ?_
      refine .o1 (tk rfl rfl fun _ w hn k => ⟨_, v_pickT rfl (k.eq1 32 79 rfl) (k.eq1 37 84 rfl), rfl⟩) ?_
      refine .o1 (tk rfl rfl fun _ w hn k => ⟨_, v_assign rfl (k.eq1 38 85 rfl), rfl⟩) ?_
      exact .nil
    intro a735 w736 hn737 ha738
    have hs739 := ha738.size.trans hs719
    have hd740 := ha738.defers.trans hd720
    have h741 := ha738.ge 39 4 rfl
    have hN742 := hN730.transNew hn737
    clear hs719 hd720 h721 h722 h723 h724 h725 h726 hv732 hb728 hq16 hb729 hq17 hN730 ha738 hn737
    refine st_nil ?_
    refine hK _ _ ?_
    clear hK K
    refine wp_ret (ret_k hd740 (v := .bool true) (res_t rfl h741 _) ?_)
    exact ⟨rfl, hN742⟩
  have hv743 : a715.eval (.tmp 10) = .bool false := h727.trans (congrArg Value.bool ht731)
  clear h727
  have ht744 : (sameM a a) = true := sameM_refl a
  have ht745 : (sameM b a) = false := (sameM_comm b a).trans ht731
  refine wp_g0 [true, true, true, true, true, true, true, true, true, true, true, true, true, true, true, true, true, true, true, true, true, true, true, true, true, true, true, true, true, true, true, true, true, true, true, true, true, true, true, true] [] 86
    [ve (.bool true),
     ve (.bool true),
     ve (iv 1),
     ve (.bool true),
     ve (.bool true),
     ve (.bool true),
     ve (.bool false),
     ve (.bool true),
     ve (.bool true),
     ve undef,
     ve (.bool true),
     ve (.bool true),
     ve undef,
     ve (.bool true),
     ve (.bool true),
     ve (.bool true),
     ve (.bool false),
     ve (.bool true),
     ve (.bool true),
     ve undef,
     ve (.bool true),
     ve (.bool true),
     ve undef,
     ve undef,
     ve undef,
     ve (.bool true),
     ve (.bool true),
     ve (.bool true),
     ve (nv a),
     ve (nv a),
     ve (.bool true),
     ve (.bool true),
     ve (.bool true),
     ve (.bool false),
     ve (nv b),
     ve (nv a),
     ve (.bool false),
     ve (.bool true),
     ve (.bool true),
     ve (.bool true)] hs719 (.eq (.eq (.eq (.eq (.eq (.eq (.eq (.eq (.eq (.eq (.eq (.eq (.eq (.eq (.eq (.eq (.eq (.eq (.eq (.eq (.eq (.eq (.eq (.eq (.eq (.eq (.eq (.eq (.eq (.eq (.eq (.eq (.eq (.eq (.eq (.eq (.eq (.eq (.eq (.eq (.nil))))))))))))))))))))))))))))))))))))))))) ?_ ?_
  · skip
    refine .o1 (ck rfl rfl rfl (fun _ w hn k => ⟨#[], rfl, fun _ => by kernel_rfl, first_c  _⟩) fun _ => rfl) ?_
    refine .o1 (tk rfl rfl fun _ w hn k => ⟨_, v_move rfl (k.eq1 0 47 rfl), rfl⟩) ?_
    refine .o1 (tg rfl rfl rfl (fun _ _ k => k.eq1 1 48 rfl) fun _ w hn k => ⟨_, v_move rfl (k.fx 9 h726), rfl⟩) ?_
    refine .o1 (tg rfl rfl rfl (fun _ _ k => k.eq1 1 48 rfl) fun _ w hn k => ⟨_, v_bin rfl (k.eq1 2 49 rfl) rfl (fun _ => rfl) (fun w => by kernel_rfl), rfl⟩) ?_
    refine .o1 (tk rfl rfl fun _ w hn k => ⟨_, v_pickT rfl (k.eq1 1 48 rfl) (k.eq1 3 50 rfl), rfl⟩) ?_
    refine .o1 (tk rfl rfl fun _ w hn k => ⟨_, v_move rfl (k.eq1 4 51 rfl), rfl⟩) ?_
    refine .o1 (tg rfl rfl rfl (fun _ _ k => k.eq1 5 52 rfl) fun _ w hn k => ⟨_, v_move rfl (k.fx 10 hv743), rfl⟩) ?_
    refine .o1 (tg rfl rfl rfl (fun _ _ k => k.eq1 5 52 rfl) fun _ w hn k => ⟨_, v_not rfl (k.eq1 6 53 rfl), rfl⟩) ?_
    refine .o1 (tg rfl rfl rfl (fun _ _ k => k.eq1 5 52 rfl) fun _ w hn k => ⟨_, v_move rfl (k.eq1 7 54 rfl), rfl⟩) ?_
    refine .o1 (sk rfl rfl rfl (fun _ _ _ k => k.eq1 8 55 rfl) (fun _ => rfl)) ?_
    refine .o1 (tg rfl rfl rfl (fun _ _ k => k.eq1 5 52 rfl) fun _ w hn k => ⟨_, v_pickT rfl (k.eq1 8 55 rfl) rfl, rfl⟩) ?_
    refine .o1 (tg rfl rfl rfl (fun _ _ k => k.eq1 5 52 rfl) fun _ w hn k => ⟨_, v_move rfl (k.eq1 10 57 rfl), rfl⟩) ?_
    refine .o1 (sk rfl rfl rfl (fun _ _ _ k => k.eq1 11 58 rfl) (fun _ => rfl)) ?_
    refine .o1 (tg rfl rfl rfl (fun _ _ k => k.eq1 5 52 rfl) fun _ w hn k => ⟨_, v_pickT rfl (k.eq1 11 58 rfl) rfl, rfl⟩) ?_
    refine .o1 (tk rfl rfl fun _ w hn k => ⟨_, v_pickT rfl (k.eq1 5 52 rfl) (k.eq1 13 60 rfl), rfl⟩) ?_
    refine .o1 (tk rfl rfl fun _ w hn k => ⟨_, v_move rfl (k.eq1 14 61 rfl), rfl⟩) ?_
    refine .o1 (tg rfl rfl rfl (fun _ _ k => k.eq1 15 62 rfl) fun _ w hn k => ⟨_, v_move rfl (k.fx 7 h724), rfl⟩) ?_
    refine .o1 (tg rfl rfl rfl (fun _ _ k => k.eq1 15 62 rfl) fun _ w hn k => ⟨_, v_not rfl (k.eq1 16 63 rfl), rfl⟩) ?_
    refine .o1 (tg rfl rfl rfl (fun _ _ k => k.eq1 15 62 rfl) fun _ w hn k => ⟨_, v_move rfl (k.eq1 17 64 rfl), rfl⟩) ?_
    refine .o1 (sk rfl rfl rfl (fun _ _ _ k => k.eq1 18 65 rfl) (fun _ => rfl)) ?_
    refine .o1 (tg rfl rfl rfl (fun _ _ k => k.eq1 15 62 rfl) fun _ w hn k => ⟨_, v_pickT rfl (k.eq1 18 65 rfl) rfl, rfl⟩) ?_
    refine .o1 (tg rfl rfl rfl (fun _ _ k => k.eq1 15 62 rfl) fun _ w hn k => ⟨_, v_move rfl (k.eq1 20 67 rfl), rfl⟩) ?_
    refine .o1 (sk rfl rfl rfl (fun _ _ _ k => k.eq1 21 68 rfl) (fun _ => rfl)) ?_
    refine .o1 (sk rfl rfl rfl (fun _ _ _ k => k.eq1 21 68 rfl) (fun _ => rfl)) ?_
    refine .o1 (sk rfl rfl rfl (fun _ _ _ k => k.eq1 21 68 rfl) (fun _ => rfl)) ?_
    refine .o1 (tg rfl rfl rfl (fun _ _ k => k.eq1 15 62 rfl) fun _ w hn k => ⟨_, v_pickT rfl (k.eq1 21 68 rfl) rfl, rfl⟩) ?_
    refine .o1 (tk rfl rfl fun _ w hn k => ⟨_, v_pickT rfl (k.eq1 15 62 rfl) (k.eq1 25 72 rfl), rfl⟩) ?_
    refine .o1 (tk rfl rfl fun _ w hn k => ⟨_, v_move rfl (k.eq1 26 73 rfl), rfl⟩) ?_
    refine .o1 (tg rfl rfl rfl (fun _ _ k => k.eq1 27 74 rfl) fun _ w hn k => ⟨_, v_load rfl (k.fx 2 h721) (l_two Tryd.isAgg23 Tryd.sizeOf23 (hb728.new_ hn)), rfl⟩) ?_
    refine .o1 (tg rfl rfl rfl (fun _ _ k => k.eq1 27 74 rfl) fun _ w hn k => ⟨_, v_load rfl (k.fx 2 h721) (l_two Tryd.isAgg23 Tryd.sizeOf23 (hb728.new_ hn)), rfl⟩) ?_
    refine .o1 (cg rfl rfl rfl (fun _ _ k => k.eq1 27 74 rfl) rfl (fun _ w hn k => ⟨#[nv a, nv a], args2 (k.eq1 28 75 rfl) (k.eq1 29 76 rfl), fun _ => by kernel_rfl, same_c a a _⟩) fun _ => congrArg Value.bool ht744) ?_
    refine .o1 (tk rfl rfl fun _ w hn k => ⟨_, v_pickT rfl (k.eq1 27 74 rfl) (k.eq1 30 77 rfl), rfl⟩) ?_
    refine .o1 (tk rfl rfl fun _ w hn k => ⟨_, v_move rfl (k.eq1 31 78 rfl), rfl⟩) ?_
    refine .o1 (tg rfl rfl rfl (fun _ _ k => k.eq1 32 79 rfl) fun _ w hn k => ⟨_, v_move rfl (k.fx 10 hv743), rfl⟩) ?_
    refine .o1 (tg rfl rfl rfl (fun _ _ k => k.eq1 32 79 rfl) fun _ w hn k => ⟨_, v_load rfl (k.fx 3 h722) (l_two Tryd.isAgg23 Tryd.sizeOf23 (hb729.new_ hn)), rfl⟩) ?_
    refine .o1 (tg rfl rfl rfl (fun _ _ k => k.eq1 32 79 rfl) fun _ w hn k => ⟨_, v_load rfl (k.fx 2 h721) (l_two Tryd.isAgg23 Tryd.sizeOf23 (hb728.new_ hn)), rfl⟩) ?_
    refine .o1 (cg rfl rfl rfl (fun _ _ k => k.eq1 32 79 rfl) rfl (fun _ w hn k => ⟨#[nv b, nv a], args2 (k.eq1 34 81 rfl) (k.eq1 35 82 rfl), fun _ => by kernel_rfl, same_c b a _⟩) fun _ => congrArg Value.bool ht745) ?_
    refine .o1 (tg rfl rfl rfl (fun _ _ k => k.eq1 32 79 rfl) fun _ w hn k => ⟨_, v_bin rfl (k.eq1 33 80 rfl) (k.eq1 36 83 rfl) (fun _ => rfl) (fun w => by kernel_rfl), rfl⟩) ?_
    refine .o1 (tk rfl rfl fun _ w hn k => ⟨_, v_pickT rfl (k.eq1 32 79 rfl) (k.eq1 37 84 rfl), rfl⟩) ?_
    refine .o1 (tk rfl rfl fun _ w hn k => ⟨_, v_assign rfl (k.eq1 38 85 rfl), rfl⟩) ?_
    exact .nil
  intro a746 w747 hn748 ha749
  have hs750 := ha749.size.trans hs719
  have hd751 := ha749.defers.trans hd720
  have h752 := ha749.ge 39 4 rfl
  have hN753 := hN730.transNew hn748
  clear hs719 hd720 h721 h722 h723 h724 h725 h726 hv743 hb728 hq16 hb729 hq17 hN730 ha749 hn748
  refine st_nil ?_
  refine hK _ _ ?_
  clear hK K
  refine wp_ret (ret_k hd751 (v := .bool true) (res_t rfl h752 _) ?_)
  exact ⟨rfl, hN753⟩
end Go.Proofs.YtldakajmhfdfgaaDoor
