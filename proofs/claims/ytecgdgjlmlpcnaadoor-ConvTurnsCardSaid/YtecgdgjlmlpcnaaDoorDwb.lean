import Derived.Test.YtecgdgjlmlpcnaaDoorDwa
namespace Go.Proofs.YtecgdgjlmlpcnaaDoor
open Go.RowKit
set_option linter.unusedSimpArgs false
set_option linter.unusedVariables false
set_option maxHeartbeats 16000000
set_option maxRecDepth 100000
theorem bOf_c (n : Int) (w : World) (hlo : -9223372036854775808 ≤ n) (hhi : n ≤ 9223372036854775807) : Calls Tryd.prog 43 #[iv n] w (bOf_c_P n w) := by
 refine enter_abs Tryd.func43 rfl fun a0 ao bC hp => ?_
 have ao : a0.tmps.size = 19 := ao
 have aP : New w w := Upd.refl _ _
 have hp0 : a0.eval (.tmp 0) = iv n := hp 0 _ rfl
 have hmd : 0 ≤ n % 18446744073709551616 ∧ n % 18446744073709551616 < 18446744073709551616 := by omega
 refine wp_seq_k fun K1 bD => ?_
 refine wp_g [true] [] [] 19
   [IsNew w 26 [.bool false, sv none ([]) 0]]
   [0] (newsCons (fun v w h => IsNew.old h) newsNil) ao (.nw (.nil)) ?_ (fun i h => by cases h) ?_
 exact .o2 (step_allocN (cs := [.bool false, sv none ([]) 0]) (t := 26) rfl (noG rfl) (fun _ w hn k => rfl) (fun q _ hq hb => ⟨q, rfl, hq, hb⟩)) .nil
 refine aftI ao bC aP fun a2 w3 aQ bE a5 b6 aR => ?_
 have h8 := aR.fx 0 hp0
 obtain ⟨b7, h9, a6, a7⟩ : IsNew _ _ _ _ _ := aR.got 0 2 rfl (by kernel_rfl)
 have b0 := Nat.le_trans aP.size a6
 refine st_nil (bD _ _ (wp_seq_k fun b8 a8 => ?_))
 refine wp_g0 [true, true, true] [] 19
   [ve (iv n), ve (.int .u64 (((n % 18446744073709551616).toNat : Nat) : Int)), ve (.int .u64 (((n % 18446744073709551616).toNat : Nat) : Int))] aQ (.eq (.eq (.eq (.nil)))) ?_ ?_
 exact .m (fun k => k.fx 0 h8) <| .t (fun _ w hn k => ⟨_, v_conv rfl (k.eq1 0 4 rfl) (n_conv (by kernel_rfl) (by kernel_rfl) (by kernel_rfl) (of_conv n)), rfl⟩) <| .a (fun k => k.eq1 1 5 rfl) .nil
 refine aftI aQ bE a5 fun b9 ca ar a9 ba bb an => ?_
 have aS := an.fx 0 h8
 have bF := an.fx 2 h9
 have bG := an.ge 2 3 rfl
 have bd := a7.new_ bb
 refine st_nil (a8 _ _ (wp_seq_k fun cb au => ?_))
 refine wp_seq_k fun cc be => ?_
 refine wp_g0 [true, true] [] 19
   [ve (iv n), ve (.bool (decide (n < 0)))] ar (.eq (.eq (.nil))) ?_ ?_
 exact .m (fun k => k.fx 0 aS) <| .t (fun _ w hn k => ⟨_, v_bin rfl (k.eq1 0 6 rfl) rfl (fun _ => rfl) (r_lssK rfl), rfl⟩) .nil
 refine aftI ar a9 ba fun cd aT ak av aw bf al => ?_
 have aU := al.fx 0 aS
 have aV := al.fx 2 bF
 have ap := al.fx 3 bG
 have aW := al.ge 1 7 rfl
 have ax := bd.new_ bf
 refine st_nil (be _ _ ?_)
 rcases bc (decide (n < 0)) with aa | aa
 have aI := oT aa
 have bg := hB aW aa
 refine wp_cond_true bg ?_
 refine wp_g0 [true, true, false] [(2, true)] 19
   [ve (.int .u64 (((n % 18446744073709551616).toNat : Nat) : Int)), ve (.int .u64 (((-n).toNat : Nat) : Int)), vt] ak (.eq (.eq (.tt (.nil)))) ?_ ?_
 exact .m (fun k => k.fx 3 ap) <| .t (fun _ w hn k => ⟨_, v_negU rfl (k.eq1 0 8 rfl) (of_neg hlo (oT aa)), rfl⟩) <| .off .nil
 refine aftI ak av aw fun aX aY ay bh bi bj am => ?_
 have bH := am.fx 0 aU
 have bI := am.fx 2 aV
 have ce := am.fx 3 ap
 have aZ := am.ge 1 9 rfl
 have bk := ax.new_ bj
 refine st_take rfl rfl (y_assign (v := .int .u64 (((-n).toNat : Nat) : Int)) rfl aZ) rfl ?_
 obtain ⟨bJ, ab⟩ : ∃ a', a' = aX.put (some 3) (.int .u64 (((-n).toNat : Nat) : Int)) := ⟨_, rfl⟩
 have az := pz ab ay
 have bl := pd ab bh
 have bK := pn ab bH (by decide)
 have bL := pn ab bI (by decide)
 have cf := pn ab aZ (by decide)
 have a1 : bJ.eval (.tmp 3) = .int .u64 (((-n).toNat : Nat) : Int) := by rw [ab]; exact put_same _ _ _ (by rw [ay]; decide)
 show stepsTo _ _ _ _ _ (aX.put (some 3) (.int .u64 (((-n).toNat : Nat) : Int))) _
 rw [← ab]
 refine st_nil (au _ _ (wp_seq_k fun ch bm => ?_))
 refine wp_g0 [true, true, true, true, true, true, true, true, true, false] [(9, false)] 19
   [ve (.int .u64 (((-n).toNat : Nat) : Int)), ve (.int .u32 ((((-n).toNat) % 4294967296 : Nat) : Int)), ve (.int .u64 (((-n).toNat : Nat) : Int)), ve (.int .u64 ((((-n).toNat) / 4294967296 : Nat) : Int)), ve (.int .u32 (((((-n).toNat) / 4294967296) % 4294967296 : Nat) : Int)),
    (OP aY.heap.size 53 .u32 ([(((-n).toNat) % 4294967296), ((((-n).toNat) / 4294967296) % 4294967296)])), ve (iv n), vT, (fun (v_ : Value) (W : World) => ∃ (ae : Option Addr) (af : Nat), v_ = .agg #[.bool (decide (sgn true (val ([(((-n).toNat) % 4294967296), ((((-n).toNat) / 4294967296) % 4294967296)])) < 0)), sv ae (canon (sgn true (val ([(((-n).toNat) % 4294967296), ((((-n).toNat) / 4294967296) % 4294967296)]))).natAbs) af] ∧ SRow W .u32 ae (canon (sgn true (val ([(((-n).toNat) % 4294967296), ((((-n).toNat) / 4294967296) % 4294967296)]))).natAbs) af), vt] az (.eq (.eq (.eq (.eq (.eq (.cons (fun _ _ _ n ⟨_, _, e, h⟩ => ⟨_, _, e, h.new_ n⟩) (.eq (.eq (.cons (fun _ _ _ n ⟨_, _, e, h⟩ => ⟨_, _, e, h.new_ n⟩) (.tt (.nil))))))))))) ?_ ?_
 refine .m (fun k => k.fx 3 a1) <| .t (fun _ w hn k => ⟨_, v_conv rfl (k.eq1 0 10 rfl) (n_conv (by kernel_rfl) (by kernel_rfl) (by kernel_rfl) (n_wrap32 _)), rfl⟩) <| .m (fun k => k.fx 3 a1) <| .t (fun _ w hn k => ⟨_, v_bin rfl (k.eq1 2 12 rfl) rfl (fun _ => rfl) (n_shr ((-n).toNat) 32 (by decide)), rfl⟩) <| .t (fun _ w hn k => ⟨_, v_conv rfl (k.eq1 3 13 rfl) (n_conv (by kernel_rfl) (by kernel_rfl) (by kernel_rfl) (n_wrap32 _)), rfl⟩) ?_
 refine .o1 (tkA rfl (noG rfl) fun _ w hn k => (by
       exact x_bslice (k := .u32) (ps := [(0, .int .u32 ((((-n).toNat) % 4294967296 : Nat) : Int)), (1, .int .u32 (((((-n).toNat) / 4294967296) % 4294967296 : Nat) : Int))]) [(((-n).toNat) % 4294967296), ((((-n).toNat) / 4294967296) % 4294967296)] rfl (parts2 (k.eq1 1 11 rfl) (k.eq1 4 14 rfl)) elW rfl (by omega) (by omega) (by first | kernel_rfl | (simp only [enc, List.map_cons, List.map_nil, Int.toNat_natCast, Int.toNat_of_nonneg (by omega : (0 : Int) ≤ _)]; kernel_rfl)) fun A1 c2 W' hmo => ⟨A1, c2, rfl, (hmo.more hn.size)⟩)) ?_
 refine .m (fun k => k.fx 0 bK) <| .t (fun _ w hn k => ⟨_, v_bin rfl (k.eq1 6 16 rfl) rfl (fun _ => rfl) (r_lssK aa), rfl⟩) ?_
 refine .o1 (tkC rfl (noG rfl) rfl fun _ w hn k => (by
       obtain ⟨A5, c6, e7, bM⟩ : (OP aY.heap.size 53 .u32 ([(((-n).toNat) % 4294967296), ((((-n).toNat) / 4294967296) % 4294967296)])) _ _ := k.dep 5 15 (by kernel_rfl) (by kernel_rfl)
       refine ⟨#[sv A5 ([(((-n).toNat) % 4294967296), ((((-n).toNat) / 4294967296) % 4294967296)]) c6, .bool true], _, args2 e7 (k.eq1 7 17 rfl), fun w => by kernel_rfl, bmade_c _ ([(((-n).toNat) % 4294967296), ((((-n).toNat) / 4294967296) % 4294967296)]) _ true _ bM.row (two_limbs_m _), ?_⟩
       rintro e w' ⟨A9, bN, rfl, hmo0, hm⟩
       exact ⟨_, rfl, hm, ⟨A9, bN, rfl, hmo0⟩⟩)) ?_
 exact .off .nil
 refine aftI az bl bi fun bO ci b1 bn bo bp aA => ?_
 have a3 := aA.fx 2 bL
 obtain ⟨ai, ac, aB, bq⟩ : (fun (v_ : Value) (W : World) => ∃ (ae : Option Addr) (af : Nat), v_ = .agg #[.bool (decide (sgn true (val ([(((-n).toNat) % 4294967296), ((((-n).toNat) / 4294967296) % 4294967296)])) < 0)), sv ae (canon (sgn true (val ([(((-n).toNat) % 4294967296), ((((-n).toNat) / 4294967296) % 4294967296)]))).natAbs) af] ∧ SRow W .u32 ae (canon (sgn true (val ([(((-n).toNat) % 4294967296), ((((-n).toNat) / 4294967296) % 4294967296)]))).natAbs) af) _ _ := aA.got 8 18 rfl (by kernel_rfl)
 have aB : bO.eval (.tmp 18) = .agg #[.bool (decide (sgn true (val ([(((-n).toNat) % 4294967296), ((((-n).toNat) / 4294967296) % 4294967296)])) < 0)), sv ai (canon (sgn true (val ([(((-n).toNat) % 4294967296), ((((-n).toNat) / 4294967296) % 4294967296)]))).natAbs) ac] := aB
 have aC := bk.new_ bp
 obtain ⟨cj, -, aJ, br, aD, b2⟩ := s_two (v0 := .bool (decide (sgn true (val ([(((-n).toNat) % 4294967296), ((((-n).toNat) / 4294967296) % 4294967296)])) < 0))) (v1 := sv ai (canon (sgn true (val ([(((-n).toNat) % 4294967296), ((((-n).toNat) / 4294967296) % 4294967296)]))).natAbs) ac) Tryd.sizeOf26 rfl rfl rfl aC
 refine st_act rfl rfl fun cl bs => a_store' rfl a3 aB aJ (bs _ _ trivial ?_)
 have bt := bq.far aC aD (by first | rfl | decide | simp [notK])
 have bu := bo.trans aD (fun _ h b => by subst b; omega)
 refine st_nil (bm _ _ ?_)
 refine wp_ret (ret_k bn (v := .agg #[.bool (decide (sgn true (val ([(((-n).toNat) % 4294967296), ((((-n).toNat) / 4294967296) % 4294967296)])) < 0)), sv ai (canon (sgn true (val ([(((-n).toNat) % 4294967296), ((((-n).toNat) / 4294967296) % 4294967296)]))).natAbs) ac]) (res_c rfl a3 (l_two Tryd.isAgg26 Tryd.sizeOf26 br)) ?_)
 have hz1 : sgn true (val ([(((-n).toNat) % 4294967296), ((((-n).toNat) / 4294967296) % 4294967296)])) = n := of_yes hlo aa
 exact ⟨ai, ac, congrArg (fun z : Int => Ending.returned (Value.agg #[.bool (decide (z < 0)), sv ai (canon z.natAbs) ac])) hz1, Eq.mp (congrArg (fun z : Int => SRow _ .u32 ai (canon z.natAbs) ac) hz1) bt, bu⟩
 have aI := oF aa
 have bv := hB aW aa
 refine wp_cond_false bv ?_
 refine wp_skip ?_
 refine au _ _ ?_
 refine wp_seq_k fun cm bw => ?_
 refine wp_g0 [true, true, true, true, true, true, true, true, true, false] [(9, false)] 19
   [ve (.int .u64 (((n % 18446744073709551616).toNat : Nat) : Int)), ve (.int .u32 ((((n % 18446744073709551616).toNat) % 4294967296 : Nat) : Int)), ve (.int .u64 (((n % 18446744073709551616).toNat : Nat) : Int)), ve (.int .u64 ((((n % 18446744073709551616).toNat) / 4294967296 : Nat) : Int)), ve (.int .u32 (((((n % 18446744073709551616).toNat) / 4294967296) % 4294967296 : Nat) : Int)),
    (OP aT.heap.size 53 .u32 ([(((n % 18446744073709551616).toNat) % 4294967296), ((((n % 18446744073709551616).toNat) / 4294967296) % 4294967296)])), ve (iv n), vF, (fun (v_ : Value) (W : World) => ∃ (ag : Option Addr) (ah : Nat), v_ = .agg #[.bool (decide (sgn false (val ([(((n % 18446744073709551616).toNat) % 4294967296), ((((n % 18446744073709551616).toNat) / 4294967296) % 4294967296)])) < 0)), sv ag (canon (sgn false (val ([(((n % 18446744073709551616).toNat) % 4294967296), ((((n % 18446744073709551616).toNat) / 4294967296) % 4294967296)]))).natAbs) ah] ∧ SRow W .u32 ag (canon (sgn false (val ([(((n % 18446744073709551616).toNat) % 4294967296), ((((n % 18446744073709551616).toNat) / 4294967296) % 4294967296)]))).natAbs) ah), vt] ak (.eq (.eq (.eq (.eq (.eq (.cons (fun _ _ _ n ⟨_, _, e, h⟩ => ⟨_, _, e, h.new_ n⟩) (.eq (.eq (.cons (fun _ _ _ n ⟨_, _, e, h⟩ => ⟨_, _, e, h.new_ n⟩) (.tt (.nil))))))))))) ?_ ?_
 refine .m (fun k => k.fx 3 ap) <| .t (fun _ w hn k => ⟨_, v_conv rfl (k.eq1 0 10 rfl) (n_conv (by kernel_rfl) (by kernel_rfl) (by kernel_rfl) (n_wrap32 _)), rfl⟩) <| .m (fun k => k.fx 3 ap) <| .t (fun _ w hn k => ⟨_, v_bin rfl (k.eq1 2 12 rfl) rfl (fun _ => rfl) (n_shr ((n % 18446744073709551616).toNat) 32 (by decide)), rfl⟩) <| .t (fun _ w hn k => ⟨_, v_conv rfl (k.eq1 3 13 rfl) (n_conv (by kernel_rfl) (by kernel_rfl) (by kernel_rfl) (n_wrap32 _)), rfl⟩) ?_
 refine .o1 (tkA rfl (noG rfl) fun _ w hn k => (by
       exact x_bslice (k := .u32) (ps := [(0, .int .u32 ((((n % 18446744073709551616).toNat) % 4294967296 : Nat) : Int)), (1, .int .u32 (((((n % 18446744073709551616).toNat) / 4294967296) % 4294967296 : Nat) : Int))]) [(((n % 18446744073709551616).toNat) % 4294967296), ((((n % 18446744073709551616).toNat) / 4294967296) % 4294967296)] rfl (parts2 (k.eq1 1 11 rfl) (k.eq1 4 14 rfl)) elW rfl (by omega) (by omega) (by first | kernel_rfl | (simp only [enc, List.map_cons, List.map_nil, Int.toNat_natCast, Int.toNat_of_nonneg (by omega : (0 : Int) ≤ _)]; kernel_rfl)) fun bR bS W' hmo => ⟨bR, bS, rfl, (hmo.more hn.size)⟩)) ?_
 refine .m (fun k => k.fx 0 aU) <| .t (fun _ w hn k => ⟨_, v_bin rfl (k.eq1 6 16 rfl) rfl (fun _ => rfl) (r_lssK aa), rfl⟩) ?_
 refine .o1 (tkC rfl (noG rfl) rfl fun _ w hn k => (by
       obtain ⟨bT, bU, bV, bx⟩ : (OP aT.heap.size 53 .u32 ([(((n % 18446744073709551616).toNat) % 4294967296), ((((n % 18446744073709551616).toNat) / 4294967296) % 4294967296)])) _ _ := k.dep 5 15 (by kernel_rfl) (by kernel_rfl)
       refine ⟨#[sv bT ([(((n % 18446744073709551616).toNat) % 4294967296), ((((n % 18446744073709551616).toNat) / 4294967296) % 4294967296)]) bU, .bool false], _, args2 bV (k.eq1 7 17 rfl), fun w => by kernel_rfl, bmade_c _ ([(((n % 18446744073709551616).toNat) % 4294967296), ((((n % 18446744073709551616).toNat) / 4294967296) % 4294967296)]) _ false _ bx.row (two_limbs_m _), ?_⟩
       rintro e w' ⟨bW, bX, rfl, hmo0, hm⟩
       exact ⟨_, rfl, hm, ⟨bW, bX, rfl, hmo0⟩⟩)) ?_
 exact .off .nil
 refine aftI ak av aw fun bY cn b3 bz aK bA aE => ?_
 have a4 := aE.fx 2 aV
 obtain ⟨aj, ad, aF, bB⟩ : (fun (v_ : Value) (W : World) => ∃ (ag : Option Addr) (ah : Nat), v_ = .agg #[.bool (decide (sgn false (val ([(((n % 18446744073709551616).toNat) % 4294967296), ((((n % 18446744073709551616).toNat) / 4294967296) % 4294967296)])) < 0)), sv ag (canon (sgn false (val ([(((n % 18446744073709551616).toNat) % 4294967296), ((((n % 18446744073709551616).toNat) / 4294967296) % 4294967296)]))).natAbs) ah] ∧ SRow W .u32 ag (canon (sgn false (val ([(((n % 18446744073709551616).toNat) % 4294967296), ((((n % 18446744073709551616).toNat) / 4294967296) % 4294967296)]))).natAbs) ah) _ _ := aE.got 8 18 rfl (by kernel_rfl)
 have aF : bY.eval (.tmp 18) = .agg #[.bool (decide (sgn false (val ([(((n % 18446744073709551616).toNat) % 4294967296), ((((n % 18446744073709551616).toNat) / 4294967296) % 4294967296)])) < 0)), sv aj (canon (sgn false (val ([(((n % 18446744073709551616).toNat) % 4294967296), ((((n % 18446744073709551616).toNat) / 4294967296) % 4294967296)]))).natAbs) ad] := aF
 have aG := ax.new_ bA
 obtain ⟨b4, -, aH, aL, aq, bZ⟩ := s_two (v0 := .bool (decide (sgn false (val ([(((n % 18446744073709551616).toNat) % 4294967296), ((((n % 18446744073709551616).toNat) / 4294967296) % 4294967296)])) < 0))) (v1 := sv aj (canon (sgn false (val ([(((n % 18446744073709551616).toNat) % 4294967296), ((((n % 18446744073709551616).toNat) / 4294967296) % 4294967296)]))).natAbs) ad) Tryd.sizeOf26 rfl rfl rfl aG
 refine st_act rfl rfl fun b5 aM => a_store' rfl a4 aF aH (aM _ _ trivial ?_)
 have aN := bB.far aG aq (by first | rfl | decide | simp [notK])
 have aO := aK.trans aq (fun _ h b => by subst b; omega)
 refine st_nil (bw _ _ ?_)
 refine wp_ret (ret_k bz (v := .agg #[.bool (decide (sgn false (val ([(((n % 18446744073709551616).toNat) % 4294967296), ((((n % 18446744073709551616).toNat) / 4294967296) % 4294967296)])) < 0)), sv aj (canon (sgn false (val ([(((n % 18446744073709551616).toNat) % 4294967296), ((((n % 18446744073709551616).toNat) / 4294967296) % 4294967296)]))).natAbs) ad]) (res_c rfl a4 (l_two Tryd.isAgg26 Tryd.sizeOf26 aL)) ?_)
 have hz1 : sgn false (val ([(((n % 18446744073709551616).toNat) % 4294967296), ((((n % 18446744073709551616).toNat) / 4294967296) % 4294967296)])) = n := of_no hhi aa
 exact ⟨aj, ad, congrArg (fun z : Int => Ending.returned (Value.agg #[.bool (decide (z < 0)), sv aj (canon z.natAbs) ad])) hz1, Eq.mp (congrArg (fun z : Int => SRow _ .u32 aj (canon z.natAbs) ad) hz1) aN, aO⟩
theorem sequal32_c (Aa : Option Addr) (a : List Nat) (ca : Nat) (Ab : Option Addr) (b : List Nat) (cb : Nat) (w : World) (hra : SRow w .u32 Aa a ca) (hrb : SRow w .u32 Ab b cb) : Calls Tryd.prog 45 #[sv Aa a ca, sv Ab b cb] w (IsRet (.bool (decide (a = b))) w) := by
 refine enter_abs Tryd.func45 rfl fun a0 au bS hp => ?_
 have au : a0.tmps.size = 26 := au
 have bT : New w w := Upd.refl _ _
 have hp0 : a0.eval (.tmp 0) = sv Aa a ca := hp 0 _ rfl
 have hp1 : a0.eval (.tmp 1) = sv Ab b cb := hp 1 _ rfl
 have hmx := hra.max
 have hmy := hrb.max
 refine wp_seq_k fun K1 bU => ?_
 refine wp_g0 [true] [] 26
   [vF] au (.eq (.nil)) ?_ ?_
 exact .t (fun _ w hn k => ⟨_, v_assign rfl rfl, rfl⟩) .nil
 refine aftI au bS bT fun a2 w3 av a9 aB c9 ba => ?_
 have h8 := ba.fx 0 hp0
 have h9 := ba.fx 1 hp1
 refine st_nil (bU _ _ (wp_seq_k fun da bl => ?_))
 refine wp_seq_k fun db aC => ?_
 rcases bc (decide ((a.length : Int) = (b.length : Int))) with af | af
 have al := oT af
 refine wp_g0 [true, true, true, true, true] [] 26
   [ve (sv Aa a ca), ve (iv (a.length : Int)), ve (sv Ab b cb), ve (iv (b.length : Int)), vF] av (.eq (.eq (.eq (.eq (.eq (.nil)))))) ?_ ?_
 exact .m (fun k => k.fx 0 h8) <| .t (fun _ w hn k => ⟨_, v_lenR rfl elW (k.eq1 0 6 rfl), rfl⟩) <| .m (fun k => k.fx 1 h9) <| .t (fun _ w hn k => ⟨_, v_lenR rfl elW (k.eq1 2 8 rfl), rfl⟩) <| .t (fun _ w hn k => ⟨_, v_bin rfl (k.eq1 1 7 rfl) (k.eq1 3 9 rfl) (fun _ => rfl) (r_neq af), rfl⟩) .nil
 refine aftI av a9 aB fun dc dd aD bm bn cJ ar => ?_
 have bb := ar.fx 0 h8
 have bV := ar.fx 1 h9
 have bW := ar.ge 4 10 rfl
 refine st_nil (aC _ _ ?_)
 refine wp_cond_false bW ?_
 refine wp_skip ?_
 refine bl _ _ ?_
 refine wp_seq_k fun de bo => ?_
 refine wp_seq_k fun df bp => ?_
 refine wp_g0 [true, true, true] [] 26
   [ve (sv Aa a ca), ve (iv (a.length : Int)), ve (iv 0)] aD (.eq (.eq (.eq (.nil)))) ?_ ?_
 exact .m (fun k => k.fx 0 bb) <| .t (fun _ w hn k => ⟨_, v_lenR rfl elW (k.eq1 0 11 rfl), rfl⟩) <| .t (fun _ w hn k => ⟨_, v_move rfl rfl, rfl⟩) .nil
 refine aftI aD bm bn fun dg dh bq br bs cK am => ?_
 have bX := am.fx 0 bb
 have bY := am.fx 1 bV
 have bZ := am.ge 1 12 rfl
 have b0 := am.ge 2 13 rfl
 refine st_nil (bp _ _ ?_)
 refine wp_block ?_
 refine wp_loopX (fun (mm : Nat) (aa : Act) (ww : World) => ∃ (i : Nat), mm = a.length - i ∧ aa.tmps.size = 26 ∧ aa.defers = [] ∧ New w ww ∧ aa.eval (.tmp 13) = iv (i : Int) ∧ aa.eval (.tmp 0) = sv Aa a ca ∧ aa.eval (.tmp 1) = sv Ab b cb ∧ aa.eval (.tmp 12) = iv (a.length : Int) ∧ (i ≤ a.length) ∧ (∀ j, j < i → a.getD j 0 = b.getD j 0)) (fun mm => mm) ⟨_, ⟨0, rfl, bq, br, bs, b0, bX, bY, bZ, (Nat.zero_le _), (fun j h => absurd h (Nat.not_lt_zero _))⟩⟩ ?_
 rintro mm di dj ⟨i, hmm, aE, bt, bu, bd, b1, b2, be, hi, heq⟩
 refine wp_seq_k fun dk bv => ?_
 refine wp_g0 [true] [] 26
   [ve (.bool (decide ((i : Int) < (a.length : Int))))] aE (.eq (.nil)) ?_ ?_
 exact .t (fun _ w hn k => ⟨_, v_bin rfl (k.fx 13 bd) (k.fx 12 be) (fun _ => rfl) (r_lssK rfl), rfl⟩) .nil
 refine aftI aE bt bu fun dl dm an aF aG cL ag => ?_
 have bf := ag.fx 13 bd
 have b3 := ag.fx 0 b1
 have b4 := ag.fx 1 b2
 have b5 := ag.fx 12 be
 have bg := ag.ge 0 14 rfl
 refine st_nil (bv _ _ (wp_seq_k fun dn bw => ?_))
 rcases bc (decide ((i : Int) < (a.length : Int))) with ah | ah
 have aM := oT ah
 have bx := hB bg ah
 refine wp_cond_true bx ?_
 refine wp_skip ?_
 refine bw _ _ ?_
 refine wp_seq_k fun dp bz => ?_
 refine wp_block ?_
 refine wp_seq_k fun dq bA => ?_
 refine wp_g0 [true, true] [] 26
   [ve (iv (i : Int)), ve (iv (i : Int))] an (.eq (.eq (.nil))) ?_ ?_
 exact .m (fun k => k.fx 13 bf) <| .a (fun k => k.eq1 0 15 rfl) .nil
 refine aftI an aF aG fun dr ds ao aH ad cM ai => ?_
 have bh := ai.fx 13 bf
 have aw := ai.fx 0 b3
 have ax := ai.fx 1 b4
 have bi := ai.fx 12 b5
 have ay := ai.ge 1 5 rfl
 refine st_nil (bA _ _ (wp_seq_k fun dt aI => ?_))
 rcases bc (decide (((a.getD i 0 : Nat) : Int) = ((b.getD i 0 : Nat) : Int))) with ae | ae
 have ap := oT ae
 refine wp_g0 (.replicate 9 true) [] 26
   [ve (sv Aa a ca), ve (iv (i : Int)),
    (EP (.int .u32 ((a.getD i 0 : Nat) : Int))), ve (.int .u32 ((a.getD i 0 : Nat) : Int)), ve (sv Ab b cb), ve (iv (i : Int)),
    (EP (.int .u32 ((b.getD i 0 : Nat) : Int))), ve (.int .u32 ((b.getD i 0 : Nat) : Int)), vF] ao (.eq (.eq (.cons (fun _ _ _ n ⟨_, _, e, h⟩ => ⟨_, _, e, h.new_ n⟩) (.eq (.eq (.eq (.cons (fun _ _ _ n ⟨_, _, e, h⟩ => ⟨_, _, e, h.new_ n⟩) (.eq (.eq (.nil)))))))))) ?_ ?_
 refine .m (fun k => k.fx 0 aw) <| .m (fun k => k.fx 5 ay) ?_
 refine .o1 (tk rfl rfl fun _ w hn k => (by
       exact x_eaddr (k := .u32) rfl elW (k.eq1 0 16 rfl) (k.eq1 1 17 rfl) (hra.new_ (ad.transNew hn)) (by omega) fun cc cd hme => ⟨cc, cd, rfl, hme⟩)) ?_
 refine .o1 (tk rfl rfl fun _ w hn k => (by
       obtain ⟨du, dv, ce, bB⟩ : (EP (.int .u32 ((a.getD i 0 : Nat) : Int))) _ _ := k.dep 2 18 (by kernel_rfl) (by kernel_rfl)
       exact ⟨_, v_load rfl ce (l_one Tryd.isAgg53 bB.1), rfl⟩)) ?_
 refine .m (fun k => k.fx 1 ax) <| .m (fun k => k.fx 5 ay) ?_
 refine .o1 (tk rfl rfl fun _ w hn k => (by
       exact x_eaddr (k := .u32) rfl elW (k.eq1 4 20 rfl) (k.eq1 5 21 rfl) (hrb.new_ (ad.transNew hn)) (by omega) fun cf ch hme => ⟨cf, ch, rfl, hme⟩)) ?_
 refine .o1 (tk rfl rfl fun _ w hn k => (by
       obtain ⟨dw, dx, ci, bC⟩ : (EP (.int .u32 ((b.getD i 0 : Nat) : Int))) _ _ := k.dep 6 22 (by kernel_rfl) (by kernel_rfl)
       exact ⟨_, v_load rfl ci (l_one Tryd.isAgg53 bC.1), rfl⟩)) ?_
 exact .t (fun _ w hn k => ⟨_, v_bin rfl (k.eq1 3 19 rfl) (k.eq1 7 23 rfl) (fun _ => rfl) (r_neq ae), rfl⟩) .nil
 refine aftI ao aH ad fun dy dz aJ bD bE cN aj => ?_
 have bj := aj.fx 13 bh
 have cj := aj.fx 0 aw
 have cl := aj.fx 1 ax
 have cm := aj.fx 12 bi
 have cn := aj.ge 8 24 rfl
 refine st_nil (aI _ _ ?_)
 refine wp_cond_false cn ?_
 refine wp_skip ?_
 refine bz _ _ ?_
 refine wp_g0 [true, false] [(1, true)] 26
   [ve (iv ((i + 1 : Nat) : Int)), vt] aJ (.eq (.tt (.nil))) ?_ ?_
 exact .t (fun _ w hn k => ⟨_, v_bin rfl (k.fx 13 bj) rfl (fun _ => rfl) (n_add (by omega) (IntWalk.i64_in _ (by omega))), rfl⟩) <| .off .nil
 refine aftI aJ bD bE fun bk dA aK bF aN cO ak => ?_
 have dB := ak.fx 13 bj
 have co := ak.fx 0 cj
 have cp := ak.fx 1 cl
 have cq := ak.fx 12 cm
 have aL := ak.ge 0 25 rfl
 refine st_take rfl rfl (y_move (v := iv ((i + 1 : Nat) : Int)) rfl aL) rfl ?_
 obtain ⟨bG, ab⟩ : ∃ a', a' = bk.put (some 13) (iv ((i + 1 : Nat) : Int)) := ⟨_, rfl⟩
 have aO := pz ab aK
 have aP := pd ab bF
 have bH := pn ab co (by decide)
 have bI := pn ab cp (by decide)
 have bJ := pn ab cq (by decide)
 have cP := pn ab aL (by decide)
 have bK : bG.eval (.tmp 13) = iv ((i + 1 : Nat) : Int) := by rw [ab]; exact put_same _ _ _ (by rw [aK]; decide)
 show stepsTo _ _ _ _ _ (bk.put (some 13) (iv ((i + 1 : Nat) : Int))) _
 rw [← ab]
 refine st_nil ?_
 refine then_n ?_
 exact ⟨_, ⟨i + 1, rfl, aO, aP, aN, (bK.trans (congrArg (Value.int .i64) (by omega))), bH, bI, bJ, (by omega), (eq_up heq (by omega) ae)⟩, (by omega)⟩
 have ap := oF ae
 refine wp_g0 (.replicate 9 true) [] 26
   [ve (sv Aa a ca), ve (iv (i : Int)),
    (EP (.int .u32 ((a.getD i 0 : Nat) : Int))), ve (.int .u32 ((a.getD i 0 : Nat) : Int)), ve (sv Ab b cb), ve (iv (i : Int)),
    (EP (.int .u32 ((b.getD i 0 : Nat) : Int))), ve (.int .u32 ((b.getD i 0 : Nat) : Int)), vT] ao (.eq (.eq (.cons (fun _ _ _ n ⟨_, _, e, h⟩ => ⟨_, _, e, h.new_ n⟩) (.eq (.eq (.eq (.cons (fun _ _ _ n ⟨_, _, e, h⟩ => ⟨_, _, e, h.new_ n⟩) (.eq (.eq (.nil)))))))))) ?_ ?_
 refine .m (fun k => k.fx 0 aw) <| .m (fun k => k.fx 5 ay) ?_
 refine .o1 (tk rfl rfl fun _ w hn k => (by
       exact x_eaddr (k := .u32) rfl elW (k.eq1 0 16 rfl) (k.eq1 1 17 rfl) (hra.new_ (ad.transNew hn)) (by omega) fun cv cw hme => ⟨cv, cw, rfl, hme⟩)) ?_
 refine .o1 (tk rfl rfl fun _ w hn k => (by
       obtain ⟨dC, dD, cx, bL⟩ : (EP (.int .u32 ((a.getD i 0 : Nat) : Int))) _ _ := k.dep 2 18 (by kernel_rfl) (by kernel_rfl)
       exact ⟨_, v_load rfl cx (l_one Tryd.isAgg53 bL.1), rfl⟩)) ?_
 refine .m (fun k => k.fx 1 ax) <| .m (fun k => k.fx 5 ay) ?_
 refine .o1 (tk rfl rfl fun _ w hn k => (by
       exact x_eaddr (k := .u32) rfl elW (k.eq1 4 20 rfl) (k.eq1 5 21 rfl) (hrb.new_ (ad.transNew hn)) (by omega) fun cy cz hme => ⟨cy, cz, rfl, hme⟩)) ?_
 refine .o1 (tk rfl rfl fun _ w hn k => (by
       obtain ⟨dE, dF, cA, bM⟩ : (EP (.int .u32 ((b.getD i 0 : Nat) : Int))) _ _ := k.dep 6 22 (by kernel_rfl) (by kernel_rfl)
       exact ⟨_, v_load rfl cA (l_one Tryd.isAgg53 bM.1), rfl⟩)) ?_
 exact .t (fun _ w hn k => ⟨_, v_bin rfl (k.eq1 3 19 rfl) (k.eq1 7 23 rfl) (fun _ => rfl) (r_neq ae), rfl⟩) .nil
 refine aftI ao aH ad fun cQ cR az aQ aR cB ac => ?_
 have cS := ac.fx 13 bh
 have cT := ac.fx 0 aw
 have cU := ac.fx 1 ax
 have cV := ac.fx 12 bi
 have bN := ac.ge 8 24 rfl
 refine st_nil (aI _ _ ?_)
 refine wp_cond_true bN ?_
 refine wp_seq_k fun cW aS => ?_
 refine wp_g0 [true] [] 26
   [vF] az (.eq (.nil)) ?_ ?_
 exact .t (fun _ w hn k => ⟨_, v_assign rfl rfl, rfl⟩) .nil
 refine aftI az aQ aR fun cX cY cC aT aU cD aV => ?_
 have bO := aV.ge 0 4 rfl
 refine st_nil (aS _ _ ?_)
 refine wp_ret (ret_k aT (v := .bool false) (res_t rfl bO _) ?_)
 exact ⟨by rw [decide_eq_false (fun e => by rw [e] at ap; exact ap rfl)], aU⟩
 have aM := oF ah
 have aW := hB bg ah
 refine wp_cond_false aW ?_
 refine wp_exit ?_
 refine bo _ _ ?_
 refine wp_seq_k fun cZ aX => ?_
 refine wp_g0 [true] [] 26
   [vT] an (.eq (.nil)) ?_ ?_
 exact .t (fun _ w hn k => ⟨_, v_assign rfl rfl, rfl⟩) .nil
 refine aftI an aF aG fun c0 c1 cE aY aZ cF a1 => ?_
 have bP := a1.ge 0 4 rfl
 refine st_nil (aX _ _ ?_)
 refine wp_ret (ret_k aY (v := .bool true) (res_t rfl bP _) ?_)
 exact ⟨by rw [decide_eq_true (eq_all (by omega) (by omega : i = a.length) heq)], aZ⟩
 have al := oF af
 refine wp_g0 [true, true, true, true, true] [] 26
   [ve (sv Aa a ca), ve (iv (a.length : Int)), ve (sv Ab b cb), ve (iv (b.length : Int)), vT] av (.eq (.eq (.eq (.eq (.eq (.nil)))))) ?_ ?_
 exact .m (fun k => k.fx 0 h8) <| .t (fun _ w hn k => ⟨_, v_lenR rfl elW (k.eq1 0 6 rfl), rfl⟩) <| .m (fun k => k.fx 1 h9) <| .t (fun _ w hn k => ⟨_, v_lenR rfl elW (k.eq1 2 8 rfl), rfl⟩) <| .t (fun _ w hn k => ⟨_, v_bin rfl (k.eq1 1 7 rfl) (k.eq1 3 9 rfl) (fun _ => rfl) (r_neq af), rfl⟩) .nil
 refine aftI av a9 aB fun c2 c3 aA a3 a4 cG aq => ?_
 have c4 := aq.fx 0 h8
 have c5 := aq.fx 1 h9
 have bQ := aq.ge 4 10 rfl
 refine st_nil (aC _ _ ?_)
 refine wp_cond_true bQ ?_
 refine wp_seq_k fun c6 a5 => ?_
 refine wp_g0 [true] [] 26
   [vF] aA (.eq (.nil)) ?_ ?_
 exact .t (fun _ w hn k => ⟨_, v_assign rfl rfl, rfl⟩) .nil
 refine aftI aA a3 a4 fun c7 c8 cH a6 a7 cI a8 => ?_
 have bR := a8.ge 0 4 rfl
 refine st_nil (a5 _ _ ?_)
 refine wp_ret (ret_k a6 (v := .bool false) (res_t rfl bR _) ?_)
 exact ⟨by rw [decide_eq_false (fun e => by rw [e] at al; exact al rfl)], a7⟩
theorem sequal16_c (Aa : Option Addr) (a : List Nat) (ca : Nat) (Ab : Option Addr) (b : List Nat) (cb : Nat) (w : World) (hra : SRow w .u16 Aa a ca) (hrb : SRow w .u16 Ab b cb) : Calls Tryd.prog 46 #[sv Aa a ca, sv Ab b cb] w (IsRet (.bool (decide (a = b))) w) := by
 refine enter_abs Tryd.func46 rfl fun a0 au bS hp => ?_
 have au : a0.tmps.size = 26 := au
 have bT : New w w := Upd.refl _ _
 have hp0 : a0.eval (.tmp 0) = sv Aa a ca := hp 0 _ rfl
 have hp1 : a0.eval (.tmp 1) = sv Ab b cb := hp 1 _ rfl
 have hmx := hra.max
 have hmy := hrb.max
 refine wp_seq_k fun K1 bU => ?_
 refine wp_g0 [true] [] 26
   [vF] au (.eq (.nil)) ?_ ?_
 exact .t (fun _ w hn k => ⟨_, v_assign rfl rfl, rfl⟩) .nil
 refine aftI au bS bT fun a2 w3 av a9 aB c9 ba => ?_
 have h8 := ba.fx 0 hp0
 have h9 := ba.fx 1 hp1
 refine st_nil (bU _ _ (wp_seq_k fun da bl => ?_))
 refine wp_seq_k fun db aC => ?_
 rcases bc (decide ((a.length : Int) = (b.length : Int))) with af | af
 have al := oT af
 refine wp_g0 [true, true, true, true, true] [] 26
   [ve (sv Aa a ca), ve (iv (a.length : Int)), ve (sv Ab b cb), ve (iv (b.length : Int)), vF] av (.eq (.eq (.eq (.eq (.eq (.nil)))))) ?_ ?_
 exact .m (fun k => k.fx 0 h8) <| .t (fun _ w hn k => ⟨_, v_lenR rfl elU (k.eq1 0 6 rfl), rfl⟩) <| .m (fun k => k.fx 1 h9) <| .t (fun _ w hn k => ⟨_, v_lenR rfl elU (k.eq1 2 8 rfl), rfl⟩) <| .t (fun _ w hn k => ⟨_, v_bin rfl (k.eq1 1 7 rfl) (k.eq1 3 9 rfl) (fun _ => rfl) (r_neq af), rfl⟩) .nil
 refine aftI av a9 aB fun dc dd aD bm bn cJ ar => ?_
 have bb := ar.fx 0 h8
 have bV := ar.fx 1 h9
 have bW := ar.ge 4 10 rfl
 refine st_nil (aC _ _ ?_)
 refine wp_cond_false bW ?_
 refine wp_skip ?_
 refine bl _ _ ?_
 refine wp_seq_k fun de bo => ?_
 refine wp_seq_k fun df bp => ?_
 refine wp_g0 [true, true, true] [] 26
   [ve (sv Aa a ca), ve (iv (a.length : Int)), ve (iv 0)] aD (.eq (.eq (.eq (.nil)))) ?_ ?_
 exact .m (fun k => k.fx 0 bb) <| .t (fun _ w hn k => ⟨_, v_lenR rfl elU (k.eq1 0 11 rfl), rfl⟩) <| .t (fun _ w hn k => ⟨_, v_move rfl rfl, rfl⟩) .nil
 refine aftI aD bm bn fun dg dh bq br bs cK am => ?_
 have bX := am.fx 0 bb
 have bY := am.fx 1 bV
 have bZ := am.ge 1 12 rfl
 have b0 := am.ge 2 13 rfl
 refine st_nil (bp _ _ ?_)
 refine wp_block ?_
 refine wp_loopX (fun (mm : Nat) (aa : Act) (ww : World) => ∃ (i : Nat), mm = a.length - i ∧ aa.tmps.size = 26 ∧ aa.defers = [] ∧ New w ww ∧ aa.eval (.tmp 13) = iv (i : Int) ∧ aa.eval (.tmp 0) = sv Aa a ca ∧ aa.eval (.tmp 1) = sv Ab b cb ∧ aa.eval (.tmp 12) = iv (a.length : Int) ∧ (i ≤ a.length) ∧ (∀ j, j < i → a.getD j 0 = b.getD j 0)) (fun mm => mm) ⟨_, ⟨0, rfl, bq, br, bs, b0, bX, bY, bZ, (Nat.zero_le _), (fun j h => absurd h (Nat.not_lt_zero _))⟩⟩ ?_
 rintro mm di dj ⟨i, hmm, aE, bt, bu, bd, b1, b2, be, hi, heq⟩
 refine wp_seq_k fun dk bv => ?_
 refine wp_g0 [true] [] 26
   [ve (.bool (decide ((i : Int) < (a.length : Int))))] aE (.eq (.nil)) ?_ ?_
 exact .t (fun _ w hn k => ⟨_, v_bin rfl (k.fx 13 bd) (k.fx 12 be) (fun _ => rfl) (r_lssK rfl), rfl⟩) .nil
 refine aftI aE bt bu fun dl dm an aF aG cL ag => ?_
 have bf := ag.fx 13 bd
 have b3 := ag.fx 0 b1
 have b4 := ag.fx 1 b2
 have b5 := ag.fx 12 be
 have bg := ag.ge 0 14 rfl
 refine st_nil (bv _ _ (wp_seq_k fun dn bw => ?_))
 rcases bc (decide ((i : Int) < (a.length : Int))) with ah | ah
 have aM := oT ah
 have bx := hB bg ah
 refine wp_cond_true bx ?_
 refine wp_skip ?_
 refine bw _ _ ?_
 refine wp_seq_k fun dp bz => ?_
 refine wp_block ?_
 refine wp_seq_k fun dq bA => ?_
 refine wp_g0 [true, true] [] 26
   [ve (iv (i : Int)), ve (iv (i : Int))] an (.eq (.eq (.nil))) ?_ ?_
 exact .m (fun k => k.fx 13 bf) <| .a (fun k => k.eq1 0 15 rfl) .nil
 refine aftI an aF aG fun dr ds ao aH ad cM ai => ?_
 have bh := ai.fx 13 bf
 have aw := ai.fx 0 b3
 have ax := ai.fx 1 b4
 have bi := ai.fx 12 b5
 have ay := ai.ge 1 5 rfl
 refine st_nil (bA _ _ (wp_seq_k fun dt aI => ?_))
 rcases bc (decide (((a.getD i 0 : Nat) : Int) = ((b.getD i 0 : Nat) : Int))) with ae | ae
 have ap := oT ae
 refine wp_g0 (.replicate 9 true) [] 26
   [ve (sv Aa a ca), ve (iv (i : Int)),
    (EP (.int .u16 ((a.getD i 0 : Nat) : Int))), ve (.int .u16 ((a.getD i 0 : Nat) : Int)), ve (sv Ab b cb), ve (iv (i : Int)),
    (EP (.int .u16 ((b.getD i 0 : Nat) : Int))), ve (.int .u16 ((b.getD i 0 : Nat) : Int)), vF] ao (.eq (.eq (.cons (fun _ _ _ n ⟨_, _, e, h⟩ => ⟨_, _, e, h.new_ n⟩) (.eq (.eq (.eq (.cons (fun _ _ _ n ⟨_, _, e, h⟩ => ⟨_, _, e, h.new_ n⟩) (.eq (.eq (.nil)))))))))) ?_ ?_
 refine .m (fun k => k.fx 0 aw) <| .m (fun k => k.fx 5 ay) ?_
 refine .o1 (tk rfl rfl fun _ w hn k => (by
       exact x_eaddr (k := .u16) rfl elU (k.eq1 0 16 rfl) (k.eq1 1 17 rfl) (hra.new_ (ad.transNew hn)) (by omega) fun cc cd hme => ⟨cc, cd, rfl, hme⟩)) ?_
 refine .o1 (tk rfl rfl fun _ w hn k => (by
       obtain ⟨du, dv, ce, bB⟩ : (EP (.int .u16 ((a.getD i 0 : Nat) : Int))) _ _ := k.dep 2 18 (by kernel_rfl) (by kernel_rfl)
       exact ⟨_, v_load rfl ce (l_one Tryd.isAgg64 bB.1), rfl⟩)) ?_
 refine .m (fun k => k.fx 1 ax) <| .m (fun k => k.fx 5 ay) ?_
 refine .o1 (tk rfl rfl fun _ w hn k => (by
       exact x_eaddr (k := .u16) rfl elU (k.eq1 4 20 rfl) (k.eq1 5 21 rfl) (hrb.new_ (ad.transNew hn)) (by omega) fun cf ch hme => ⟨cf, ch, rfl, hme⟩)) ?_
 refine .o1 (tk rfl rfl fun _ w hn k => (by
       obtain ⟨dw, dx, ci, bC⟩ : (EP (.int .u16 ((b.getD i 0 : Nat) : Int))) _ _ := k.dep 6 22 (by kernel_rfl) (by kernel_rfl)
       exact ⟨_, v_load rfl ci (l_one Tryd.isAgg64 bC.1), rfl⟩)) ?_
 exact .t (fun _ w hn k => ⟨_, v_bin rfl (k.eq1 3 19 rfl) (k.eq1 7 23 rfl) (fun _ => rfl) (r_neq ae), rfl⟩) .nil
 refine aftI ao aH ad fun dy dz aJ bD bE cN aj => ?_
 have bj := aj.fx 13 bh
 have cj := aj.fx 0 aw
 have cl := aj.fx 1 ax
 have cm := aj.fx 12 bi
 have cn := aj.ge 8 24 rfl
 refine st_nil (aI _ _ ?_)
 refine wp_cond_false cn ?_
 refine wp_skip ?_
 refine bz _ _ ?_
 refine wp_g0 [true, false] [(1, true)] 26
   [ve (iv ((i + 1 : Nat) : Int)), vt] aJ (.eq (.tt (.nil))) ?_ ?_
 exact .t (fun _ w hn k => ⟨_, v_bin rfl (k.fx 13 bj) rfl (fun _ => rfl) (n_add (by omega) (IntWalk.i64_in _ (by omega))), rfl⟩) <| .off .nil
 refine aftI aJ bD bE fun bk dA aK bF aN cO ak => ?_
 have dB := ak.fx 13 bj
 have co := ak.fx 0 cj
 have cp := ak.fx 1 cl
 have cq := ak.fx 12 cm
 have aL := ak.ge 0 25 rfl
 refine st_take rfl rfl (y_move (v := iv ((i + 1 : Nat) : Int)) rfl aL) rfl ?_
 obtain ⟨bG, ab⟩ : ∃ a', a' = bk.put (some 13) (iv ((i + 1 : Nat) : Int)) := ⟨_, rfl⟩
 have aO := pz ab aK
 have aP := pd ab bF
 have bH := pn ab co (by decide)
 have bI := pn ab cp (by decide)
 have bJ := pn ab cq (by decide)
 have cP := pn ab aL (by decide)
 have bK : bG.eval (.tmp 13) = iv ((i + 1 : Nat) : Int) := by rw [ab]; exact put_same _ _ _ (by rw [aK]; decide)
 show stepsTo _ _ _ _ _ (bk.put (some 13) (iv ((i + 1 : Nat) : Int))) _
 rw [← ab]
 refine st_nil ?_
 refine then_n ?_
 exact ⟨_, ⟨i + 1, rfl, aO, aP, aN, (bK.trans (congrArg (Value.int .i64) (by omega))), bH, bI, bJ, (by omega), (eq_up heq (by omega) ae)⟩, (by omega)⟩
 have ap := oF ae
 refine wp_g0 (.replicate 9 true) [] 26
   [ve (sv Aa a ca), ve (iv (i : Int)),
    (EP (.int .u16 ((a.getD i 0 : Nat) : Int))), ve (.int .u16 ((a.getD i 0 : Nat) : Int)), ve (sv Ab b cb), ve (iv (i : Int)),
    (EP (.int .u16 ((b.getD i 0 : Nat) : Int))), ve (.int .u16 ((b.getD i 0 : Nat) : Int)), vT] ao (.eq (.eq (.cons (fun _ _ _ n ⟨_, _, e, h⟩ => ⟨_, _, e, h.new_ n⟩) (.eq (.eq (.eq (.cons (fun _ _ _ n ⟨_, _, e, h⟩ => ⟨_, _, e, h.new_ n⟩) (.eq (.eq (.nil)))))))))) ?_ ?_
 refine .m (fun k => k.fx 0 aw) <| .m (fun k => k.fx 5 ay) ?_
 refine .o1 (tk rfl rfl fun _ w hn k => (by
       exact x_eaddr (k := .u16) rfl elU (k.eq1 0 16 rfl) (k.eq1 1 17 rfl) (hra.new_ (ad.transNew hn)) (by omega) fun cv cw hme => ⟨cv, cw, rfl, hme⟩)) ?_
 refine .o1 (tk rfl rfl fun _ w hn k => (by
       obtain ⟨dC, dD, cx, bL⟩ : (EP (.int .u16 ((a.getD i 0 : Nat) : Int))) _ _ := k.dep 2 18 (by kernel_rfl) (by kernel_rfl)
       exact ⟨_, v_load rfl cx (l_one Tryd.isAgg64 bL.1), rfl⟩)) ?_
 refine .m (fun k => k.fx 1 ax) <| .m (fun k => k.fx 5 ay) ?_
 refine .o1 (tk rfl rfl fun _ w hn k => (by
       exact x_eaddr (k := .u16) rfl elU (k.eq1 4 20 rfl) (k.eq1 5 21 rfl) (hrb.new_ (ad.transNew hn)) (by omega) fun cy cz hme => ⟨cy, cz, rfl, hme⟩)) ?_
 refine .o1 (tk rfl rfl fun _ w hn k => (by
       obtain ⟨dE, dF, cA, bM⟩ : (EP (.int .u16 ((b.getD i 0 : Nat) : Int))) _ _ := k.dep 6 22 (by kernel_rfl) (by kernel_rfl)
       exact ⟨_, v_load rfl cA (l_one Tryd.isAgg64 bM.1), rfl⟩)) ?_
 exact .t (fun _ w hn k => ⟨_, v_bin rfl (k.eq1 3 19 rfl) (k.eq1 7 23 rfl) (fun _ => rfl) (r_neq ae), rfl⟩) .nil
 refine aftI ao aH ad fun cQ cR az aQ aR cB ac => ?_
 have cS := ac.fx 13 bh
 have cT := ac.fx 0 aw
 have cU := ac.fx 1 ax
 have cV := ac.fx 12 bi
 have bN := ac.ge 8 24 rfl
 refine st_nil (aI _ _ ?_)
 refine wp_cond_true bN ?_
 refine wp_seq_k fun cW aS => ?_
 refine wp_g0 [true] [] 26
   [vF] az (.eq (.nil)) ?_ ?_
 exact .t (fun _ w hn k => ⟨_, v_assign rfl rfl, rfl⟩) .nil
 refine aftI az aQ aR fun cX cY cC aT aU cD aV => ?_
 have bO := aV.ge 0 4 rfl
 refine st_nil (aS _ _ ?_)
 refine wp_ret (ret_k aT (v := .bool false) (res_t rfl bO _) ?_)
 exact ⟨by rw [decide_eq_false (fun e => by rw [e] at ap; exact ap rfl)], aU⟩
 have aM := oF ah
 have aW := hB bg ah
 refine wp_cond_false aW ?_
 refine wp_exit ?_
 refine bo _ _ ?_
 refine wp_seq_k fun cZ aX => ?_
 refine wp_g0 [true] [] 26
   [vT] an (.eq (.nil)) ?_ ?_
 exact .t (fun _ w hn k => ⟨_, v_assign rfl rfl, rfl⟩) .nil
 refine aftI an aF aG fun c0 c1 cE aY aZ cF a1 => ?_
 have bP := a1.ge 0 4 rfl
 refine st_nil (aX _ _ ?_)
 refine wp_ret (ret_k aY (v := .bool true) (res_t rfl bP _) ?_)
 exact ⟨by rw [decide_eq_true (eq_all (by omega) (by omega : i = a.length) heq)], aZ⟩
 have al := oF af
 refine wp_g0 [true, true, true, true, true] [] 26
   [ve (sv Aa a ca), ve (iv (a.length : Int)), ve (sv Ab b cb), ve (iv (b.length : Int)), vT] av (.eq (.eq (.eq (.eq (.eq (.nil)))))) ?_ ?_
 exact .m (fun k => k.fx 0 h8) <| .t (fun _ w hn k => ⟨_, v_lenR rfl elU (k.eq1 0 6 rfl), rfl⟩) <| .m (fun k => k.fx 1 h9) <| .t (fun _ w hn k => ⟨_, v_lenR rfl elU (k.eq1 2 8 rfl), rfl⟩) <| .t (fun _ w hn k => ⟨_, v_bin rfl (k.eq1 1 7 rfl) (k.eq1 3 9 rfl) (fun _ => rfl) (r_neq af), rfl⟩) .nil
 refine aftI av a9 aB fun c2 c3 aA a3 a4 cG aq => ?_
 have c4 := aq.fx 0 h8
 have c5 := aq.fx 1 h9
 have bQ := aq.ge 4 10 rfl
 refine st_nil (aC _ _ ?_)
 refine wp_cond_true bQ ?_
 refine wp_seq_k fun c6 a5 => ?_
 refine wp_g0 [true] [] 26
   [vF] aA (.eq (.nil)) ?_ ?_
 exact .t (fun _ w hn k => ⟨_, v_assign rfl rfl, rfl⟩) .nil
 refine aftI aA a3 a4 fun c7 c8 cH a6 a7 cI a8 => ?_
 have bR := a8.ge 0 4 rfl
 refine st_nil (a5 _ _ ?_)
 refine wp_ret (ret_k a6 (v := .bool false) (res_t rfl bR _) ?_)
 exact ⟨by rw [decide_eq_false (fun e => by rw [e] at al; exact al rfl)], a7⟩
theorem vsame_c (v : Vl) (Av : Option Addr) (cv : Nat) (Bv : Option Addr) (dv : Nat) (u : Vl) (Au : Option Addr) (cu : Nat) (Bu : Option Addr) (du : Nat) (w : World) (hmv : SRow w .u32 Av v.mag cv) (hsv : SRow w .u16 Bv v.s dv) (hmu : SRow w .u32 Au u.mag cu) (hsu : SRow w .u16 Bu u.s du) : Calls Tryd.prog 21 #[vv v Av cv Bv dv, vv u Au cu Bu du] w (IsRet (.bool (sameV v u)) w) := by
 refine enter_abs Tryd.func21 rfl fun a0 au bj hp => ?_
 have au : a0.tmps.size = 49 := au
 have av : New w w := Upd.refl _ _
 have hp0 : a0.eval (.tmp 0) = vv v Av cv Bv dv := hp 0 _ rfl
 have hp1 : a0.eval (.tmp 1) = vv u Au cu Bu du := hp 1 _ rfl
 refine wp_seq_k fun K1 bk => ?_
 refine wp_g [true, true, true] [] [] 49
   [IsNew w 29 [iv v.k, iv v.nk, iv v.nn, .bool v.neg, sv Av v.mag cv, sv Bv v.s dv, iv v.ref], IsNew w 29 [iv u.k, iv u.nk, iv u.nn, .bool u.neg, sv Au u.mag cu, sv Bu u.s du, iv u.ref], vF]
   [0, 1] (newsCons (fun v w h => IsNew.old h) (newsCons (fun v w h => IsNew.old h) newsNil)) au (.nw (.nw (.eq (.nil)))) ?_ (fun i h => by cases h) ?_
 exact .o2 (step_allocN (cs := [iv v.k, iv v.nk, iv v.nn, .bool v.neg, sv Av v.mag cv, sv Bv v.s dv, iv v.ref]) (t := 29) rfl (noG rfl) (fun _ w hn k => v_box rfl (k.fx 0 hp0) (fun w => rfl)) (fun q _ hq hb => ⟨q, rfl, hq, hb⟩)) <| .o2 (step_allocN (cs := [iv u.k, iv u.nk, iv u.nn, .bool u.neg, sv Au u.mag cu, sv Bu u.s du, iv u.ref]) (t := 29) rfl (noG rfl) (fun _ w hn k => v_box rfl (k.fx 1 hp1) (fun w => rfl)) (fun q _ hq hb => ⟨q, rfl, hq, hb⟩)) <| .t (fun _ w hn k => ⟨_, v_assign rfl rfl, rfl⟩) .nil
 refine aftI au bj av fun a2 w3 aj ap ad bW aK => ?_
 obtain ⟨q9, h8, aL, aa⟩ : IsNew _ _ _ _ _ := aK.got 0 2 rfl (by kernel_rfl)
 obtain ⟨ab, ae, aM, ac⟩ : IsNew _ _ _ _ _ := aK.got 1 3 rfl (by kernel_rfl)
 have bx := Nat.le_trans av.size aL
 have bz := Nat.le_trans av.size aM
 refine st_nil (bk _ _ (wp_seq_k fun bX ak => ?_))
 rcases bc (decide (v.k = u.k)) with af | af
 have aw := oT af
 rcases bc (decide (v.nk = u.nk)) with ag | ag
 have ax := oT ag
 rcases bc (decide (v.nn = u.nn)) with ah | ah
 have ay := oT ah
 rcases bc (v.neg) with ai | ai
 rcases bc (u.neg) with al | al
 rcases bc (decide (v.mag = u.mag)) with am | am
 have az := oT am
 rcases bc (decide (v.s = u.s)) with aq | aq
 have aA := oT aq
 refine wp_g0 (.replicate 45 true) [] 49
   [ve (pv q9), ve (iv v.k), ve (pv ab), ve (iv u.k), vT, vT, ve (.pointer (some ⟨q9, 1, none⟩)), ve (nv (Nm.mk v.nk v.nn)), ve (.pointer (some ⟨ab, 1, none⟩)), ve (nv (Nm.mk u.nk u.nn)), vT, vT, vT, ve (.pointer (some ⟨q9, 3, none⟩)), ve (.pointer (some ⟨q9, 3, none⟩)), vT, ve (.pointer (some ⟨ab, 3, none⟩)), ve (.pointer (some ⟨ab, 3, none⟩)), vT, vT, vT, vT, ve (.pointer (some ⟨q9, 3, none⟩)), ve (.pointer (some ⟨q9, 4, none⟩)), ve (sv Av v.mag cv), ve (.pointer (some ⟨ab, 3, none⟩)), ve (.pointer (some ⟨ab, 4, none⟩)), ve (sv Au u.mag cu), vT, vT, vT, ve (.pointer (some ⟨q9, 5, none⟩)), ve (sv Bv v.s dv), ve (.pointer (some ⟨ab, 5, none⟩)), ve (sv Bu u.s du), vT, vT, vT, ve (.pointer (some ⟨q9, 6, none⟩)), ve (iv v.ref), ve (.pointer (some ⟨ab, 6, none⟩)), ve (iv u.ref), ve (.bool (decide (v.ref = u.ref))), ve (.bool (decide (v.ref = u.ref))), ve (.bool (decide (v.ref = u.ref)))] aj (.eq (.eq (.eq (.eq (.eq (.eq (.eq (.eq (.eq (.eq (.eq (.eq (.eq (.eq (.eq (.eq (.eq (.eq (.eq (.eq (.eq (.eq (.eq (.eq (.eq (.eq (.eq (.eq (.eq (.eq (.eq (.eq (.eq (.eq (.eq (.eq (.eq (.eq (.eq (.eq (.eq (.eq (.eq (.eq (.eq (.nil)))))))))))))))))))))))))))))))))))))))))))))) ?_ ?_
 exact .f (fun k => k.fx 2 h8) <| .t (fun _ w hn k => ⟨_, v_load rfl (k.eq1 0 5 rfl) (l_one Tryd.isAgg3 ((aa.new_ hn).cell 0)), rfl⟩) <| .f (fun k => k.fx 3 ae) <| .t (fun _ w hn k => ⟨_, v_load rfl (k.eq1 2 7 rfl) (l_one Tryd.isAgg3 ((ac.new_ hn).cell 0)), rfl⟩) <| .t (fun _ w hn k => ⟨_, v_bin rfl (k.eq1 1 6 rfl) (k.eq1 3 8 rfl) (fun _ => rfl) (r_eql af), rfl⟩) <| .m (fun k => k.eq1 4 9 rfl) <| .gf (fun k => k.eq1 5 10 rfl) (fun k => k.fx 2 h8) <| .g (fun k => k.eq1 5 10 rfl) (fun _ w hn k => ⟨_, v_load rfl (k.eq1 6 11 rfl) (l_part Tryd.isAgg23 Tryd.sizeOf23 (aa.new_ hn) lb), rfl⟩) <| .gf (fun k => k.eq1 5 10 rfl) (fun k => k.fx 3 ae) <| .g (fun k => k.eq1 5 10 rfl) (fun _ w hn k => ⟨_, v_load rfl (k.eq1 8 13 rfl) (l_part Tryd.isAgg23 Tryd.sizeOf23 (ac.new_ hn) lb), rfl⟩) <| .g (fun k => k.eq1 5 10 rfl) (fun _ w hn k => ⟨_, v_bin rfl (k.eq1 7 12 rfl) (k.eq1 9 14 rfl) (gNum _ _ _ _) (eqlNum _ _ _ _ (by show (decide (v.nk = u.nk) && decide (v.nn = u.nn)) = true; simp [ag, ah])), rfl⟩) <| .t (fun _ w hn k => ⟨_, v_pickT rfl (k.eq1 5 10 rfl) (k.eq1 10 15 rfl), rfl⟩) <| .m (fun k => k.eq1 11 16 rfl) <| .gf (fun k => k.eq1 12 17 rfl) (fun k => k.fx 2 h8) <| .gf (fun k => k.eq1 12 17 rfl) (fun k => k.eq1 13 18 rfl) <| .o1 (tg rfl rfl rfl (fun _ _ k => k.eq1 12 17 rfl) fun _ w hn k => ⟨_, v_load rfl (k.eq1 14 19 rfl) (l_one Tryd.isAgg4 ((aa.new_ hn).cell 3)), congrArg Value.bool ai⟩) <| .gf (fun k => k.eq1 12 17 rfl) (fun k => k.fx 3 ae) <| .gf (fun k => k.eq1 12 17 rfl) (fun k => k.eq1 16 21 rfl) <| .o1 (tg rfl rfl rfl (fun _ _ k => k.eq1 12 17 rfl) fun _ w hn k => ⟨_, v_load rfl (k.eq1 17 22 rfl) (l_one Tryd.isAgg4 ((ac.new_ hn).cell 3)), congrArg Value.bool al⟩) <| .g (fun k => k.eq1 12 17 rfl) (fun _ w hn k => ⟨_, v_bin rfl (k.eq1 15 20 rfl) (k.eq1 18 23 rfl) (fun _ => rfl) (fun w => by kernel_rfl), rfl⟩) <| .t (fun _ w hn k => ⟨_, v_pickT rfl (k.eq1 12 17 rfl) (k.eq1 19 24 rfl), rfl⟩) <| .m (fun k => k.eq1 20 25 rfl) <| .gf (fun k => k.eq1 21 26 rfl) (fun k => k.fx 2 h8) <| .gf (fun k => k.eq1 21 26 rfl) (fun k => k.eq1 22 27 rfl) <| .g (fun k => k.eq1 21 26 rfl) (fun _ w hn k => ⟨_, v_load rfl (k.eq1 23 28 rfl) (l_one Tryd.isAgg24 ((aa.new_ hn).cell 4)), rfl⟩) <| .gf (fun k => k.eq1 21 26 rfl) (fun k => k.fx 3 ae) <| .gf (fun k => k.eq1 21 26 rfl) (fun k => k.eq1 25 30 rfl) <| .g (fun k => k.eq1 21 26 rfl) (fun _ w hn k => ⟨_, v_load rfl (k.eq1 26 31 rfl) (l_one Tryd.isAgg24 ((ac.new_ hn).cell 4)), rfl⟩) <| .o1 (cg rfl rfl rfl (fun _ _ k => k.eq1 21 26 rfl) rfl (fun _ w hn k => ⟨#[sv Av v.mag cv, sv Au u.mag cu], args2 (k.eq1 24 29 rfl) (k.eq1 27 32 rfl), fun _ => by kernel_rfl, sequal32_c _ v.mag _ _ u.mag _ _ (hmv.new_ (ad.transNew hn)) (hmu.new_ (ad.transNew hn))⟩) fun _ => congrArg Value.bool am) <| .t (fun _ w hn k => ⟨_, v_pickT rfl (k.eq1 21 26 rfl) (k.eq1 28 33 rfl), rfl⟩) <| .m (fun k => k.eq1 29 34 rfl) <| .gf (fun k => k.eq1 30 35 rfl) (fun k => k.fx 2 h8) <| .g (fun k => k.eq1 30 35 rfl) (fun _ w hn k => ⟨_, v_load rfl (k.eq1 31 36 rfl) (l_one Tryd.isAgg27 ((aa.new_ hn).cell 5)), rfl⟩) <| .gf (fun k => k.eq1 30 35 rfl) (fun k => k.fx 3 ae) <| .g (fun k => k.eq1 30 35 rfl) (fun _ w hn k => ⟨_, v_load rfl (k.eq1 33 38 rfl) (l_one Tryd.isAgg27 ((ac.new_ hn).cell 5)), rfl⟩) <| .o1 (cg rfl rfl rfl (fun _ _ k => k.eq1 30 35 rfl) rfl (fun _ w hn k => ⟨#[sv Bv v.s dv, sv Bu u.s du], args2 (k.eq1 32 37 rfl) (k.eq1 34 39 rfl), fun _ => by kernel_rfl, sequal16_c _ v.s _ _ u.s _ _ (hsv.new_ (ad.transNew hn)) (hsu.new_ (ad.transNew hn))⟩) fun _ => congrArg Value.bool aq) <| .t (fun _ w hn k => ⟨_, v_pickT rfl (k.eq1 30 35 rfl) (k.eq1 35 40 rfl), rfl⟩) <| .m (fun k => k.eq1 36 41 rfl) <| .gf (fun k => k.eq1 37 42 rfl) (fun k => k.fx 2 h8) <| .g (fun k => k.eq1 37 42 rfl) (fun _ w hn k => ⟨_, v_load rfl (k.eq1 38 43 rfl) (l_one Tryd.isAgg3 ((aa.new_ hn).cell 6)), rfl⟩) <| .gf (fun k => k.eq1 37 42 rfl) (fun k => k.fx 3 ae) <| .g (fun k => k.eq1 37 42 rfl) (fun _ w hn k => ⟨_, v_load rfl (k.eq1 40 45 rfl) (l_one Tryd.isAgg3 ((ac.new_ hn).cell 6)), rfl⟩) <| .g (fun k => k.eq1 37 42 rfl) (fun _ w hn k => ⟨_, v_bin rfl (k.eq1 39 44 rfl) (k.eq1 41 46 rfl) (fun _ => rfl) (r_eql rfl), rfl⟩) <| .t (fun _ w hn k => ⟨_, v_pickT rfl (k.eq1 37 42 rfl) (k.eq1 42 47 rfl), rfl⟩) <| .a (fun k => k.eq1 43 48 rfl) .nil
 refine aftI aj ap ad fun bY bZ bA aN aO bB aP => ?_
 have bl := aP.ge 44 4 rfl
 refine st_nil (ak _ _ ?_)
 refine wp_ret (ret_k aN (v := .bool (decide (v.ref = u.ref))) (res_t rfl bl _) ?_)
 refine ⟨?_, aO⟩
 show Ending.returned (.bool (decide (v.ref = u.ref))) = Ending.returned (.bool (sameV v u))
 first | rfl | (simp only [sameV, af, ag, ah, ai, al, am, aq, bsm] <;> rfl) | (exfalso; omega)
 have aA := oF aq
 refine wp_g0 (.replicate 45 true) [] 49
   [ve (pv q9), ve (iv v.k), ve (pv ab), ve (iv u.k), vT, vT, ve (.pointer (some ⟨q9, 1, none⟩)), ve (nv (Nm.mk v.nk v.nn)), ve (.pointer (some ⟨ab, 1, none⟩)), ve (nv (Nm.mk u.nk u.nn)), vT, vT, vT, ve (.pointer (some ⟨q9, 3, none⟩)), ve (.pointer (some ⟨q9, 3, none⟩)), vT, ve (.pointer (some ⟨ab, 3, none⟩)), ve (.pointer (some ⟨ab, 3, none⟩)), vT, vT, vT, vT, ve (.pointer (some ⟨q9, 3, none⟩)), ve (.pointer (some ⟨q9, 4, none⟩)), ve (sv Av v.mag cv), ve (.pointer (some ⟨ab, 3, none⟩)), ve (.pointer (some ⟨ab, 4, none⟩)), ve (sv Au u.mag cu), vT, vT, vT, ve (.pointer (some ⟨q9, 5, none⟩)), ve (sv Bv v.s dv), ve (.pointer (some ⟨ab, 5, none⟩)), ve (sv Bu u.s du), vF, vF, vF, vU, vU, vU, vU, vU, vF, vF] aj (.eq (.eq (.eq (.eq (.eq (.eq (.eq (.eq (.eq (.eq (.eq (.eq (.eq (.eq (.eq (.eq (.eq (.eq (.eq (.eq (.eq (.eq (.eq (.eq (.eq (.eq (.eq (.eq (.eq (.eq (.eq (.eq (.eq (.eq (.eq (.eq (.eq (.eq (.eq (.eq (.eq (.eq (.eq (.eq (.eq (.nil)))))))))))))))))))))))))))))))))))))))))))))) ?_ ?_
 exact .f (fun k => k.fx 2 h8) <| .t (fun _ w hn k => ⟨_, v_load rfl (k.eq1 0 5 rfl) (l_one Tryd.isAgg3 ((aa.new_ hn).cell 0)), rfl⟩) <| .f (fun k => k.fx 3 ae) <| .t (fun _ w hn k => ⟨_, v_load rfl (k.eq1 2 7 rfl) (l_one Tryd.isAgg3 ((ac.new_ hn).cell 0)), rfl⟩) <| .t (fun _ w hn k => ⟨_, v_bin rfl (k.eq1 1 6 rfl) (k.eq1 3 8 rfl) (fun _ => rfl) (r_eql af), rfl⟩) <| .m (fun k => k.eq1 4 9 rfl) <| .gf (fun k => k.eq1 5 10 rfl) (fun k => k.fx 2 h8) <| .g (fun k => k.eq1 5 10 rfl) (fun _ w hn k => ⟨_, v_load rfl (k.eq1 6 11 rfl) (l_part Tryd.isAgg23 Tryd.sizeOf23 (aa.new_ hn) lb), rfl⟩) <| .gf (fun k => k.eq1 5 10 rfl) (fun k => k.fx 3 ae) <| .g (fun k => k.eq1 5 10 rfl) (fun _ w hn k => ⟨_, v_load rfl (k.eq1 8 13 rfl) (l_part Tryd.isAgg23 Tryd.sizeOf23 (ac.new_ hn) lb), rfl⟩) <| .g (fun k => k.eq1 5 10 rfl) (fun _ w hn k => ⟨_, v_bin rfl (k.eq1 7 12 rfl) (k.eq1 9 14 rfl) (gNum _ _ _ _) (eqlNum _ _ _ _ (by show (decide (v.nk = u.nk) && decide (v.nn = u.nn)) = true; simp [ag, ah])), rfl⟩) <| .t (fun _ w hn k => ⟨_, v_pickT rfl (k.eq1 5 10 rfl) (k.eq1 10 15 rfl), rfl⟩) <| .m (fun k => k.eq1 11 16 rfl) <| .gf (fun k => k.eq1 12 17 rfl) (fun k => k.fx 2 h8) <| .gf (fun k => k.eq1 12 17 rfl) (fun k => k.eq1 13 18 rfl) <| .o1 (tg rfl rfl rfl (fun _ _ k => k.eq1 12 17 rfl) fun _ w hn k => ⟨_, v_load rfl (k.eq1 14 19 rfl) (l_one Tryd.isAgg4 ((aa.new_ hn).cell 3)), congrArg Value.bool ai⟩) <| .gf (fun k => k.eq1 12 17 rfl) (fun k => k.fx 3 ae) <| .gf (fun k => k.eq1 12 17 rfl) (fun k => k.eq1 16 21 rfl) <| .o1 (tg rfl rfl rfl (fun _ _ k => k.eq1 12 17 rfl) fun _ w hn k => ⟨_, v_load rfl (k.eq1 17 22 rfl) (l_one Tryd.isAgg4 ((ac.new_ hn).cell 3)), congrArg Value.bool al⟩) <| .g (fun k => k.eq1 12 17 rfl) (fun _ w hn k => ⟨_, v_bin rfl (k.eq1 15 20 rfl) (k.eq1 18 23 rfl) (fun _ => rfl) (fun w => by kernel_rfl), rfl⟩) <| .t (fun _ w hn k => ⟨_, v_pickT rfl (k.eq1 12 17 rfl) (k.eq1 19 24 rfl), rfl⟩) <| .m (fun k => k.eq1 20 25 rfl) <| .gf (fun k => k.eq1 21 26 rfl) (fun k => k.fx 2 h8) <| .gf (fun k => k.eq1 21 26 rfl) (fun k => k.eq1 22 27 rfl) <| .g (fun k => k.eq1 21 26 rfl) (fun _ w hn k => ⟨_, v_load rfl (k.eq1 23 28 rfl) (l_one Tryd.isAgg24 ((aa.new_ hn).cell 4)), rfl⟩) <| .gf (fun k => k.eq1 21 26 rfl) (fun k => k.fx 3 ae) <| .gf (fun k => k.eq1 21 26 rfl) (fun k => k.eq1 25 30 rfl) <| .g (fun k => k.eq1 21 26 rfl) (fun _ w hn k => ⟨_, v_load rfl (k.eq1 26 31 rfl) (l_one Tryd.isAgg24 ((ac.new_ hn).cell 4)), rfl⟩) <| .o1 (cg rfl rfl rfl (fun _ _ k => k.eq1 21 26 rfl) rfl (fun _ w hn k => ⟨#[sv Av v.mag cv, sv Au u.mag cu], args2 (k.eq1 24 29 rfl) (k.eq1 27 32 rfl), fun _ => by kernel_rfl, sequal32_c _ v.mag _ _ u.mag _ _ (hmv.new_ (ad.transNew hn)) (hmu.new_ (ad.transNew hn))⟩) fun _ => congrArg Value.bool am) <| .t (fun _ w hn k => ⟨_, v_pickT rfl (k.eq1 21 26 rfl) (k.eq1 28 33 rfl), rfl⟩) <| .m (fun k => k.eq1 29 34 rfl) <| .gf (fun k => k.eq1 30 35 rfl) (fun k => k.fx 2 h8) <| .g (fun k => k.eq1 30 35 rfl) (fun _ w hn k => ⟨_, v_load rfl (k.eq1 31 36 rfl) (l_one Tryd.isAgg27 ((aa.new_ hn).cell 5)), rfl⟩) <| .gf (fun k => k.eq1 30 35 rfl) (fun k => k.fx 3 ae) <| .g (fun k => k.eq1 30 35 rfl) (fun _ w hn k => ⟨_, v_load rfl (k.eq1 33 38 rfl) (l_one Tryd.isAgg27 ((ac.new_ hn).cell 5)), rfl⟩) <| .o1 (cg rfl rfl rfl (fun _ _ k => k.eq1 30 35 rfl) rfl (fun _ w hn k => ⟨#[sv Bv v.s dv, sv Bu u.s du], args2 (k.eq1 32 37 rfl) (k.eq1 34 39 rfl), fun _ => by kernel_rfl, sequal16_c _ v.s _ _ u.s _ _ (hsv.new_ (ad.transNew hn)) (hsu.new_ (ad.transNew hn))⟩) fun _ => congrArg Value.bool aq) <| .t (fun _ w hn k => ⟨_, v_pickT rfl (k.eq1 30 35 rfl) (k.eq1 35 40 rfl), rfl⟩) <| .m (fun k => k.eq1 36 41 rfl) <| .s (fun k => k.eq1 37 42 rfl) <| .s (fun k => k.eq1 37 42 rfl) <| .s (fun k => k.eq1 37 42 rfl) <| .s (fun k => k.eq1 37 42 rfl) <| .s (fun k => k.eq1 37 42 rfl) <| .t (fun _ w hn k => ⟨_, v_pickF rfl (k.eq1 37 42 rfl) rfl, rfl⟩) <| .a (fun k => k.eq1 43 48 rfl) .nil
 refine aftI aj ap ad fun b0 b1 bC aQ aR bD aS => ?_
 have bm := aS.ge 44 4 rfl
 refine st_nil (ak _ _ ?_)
 refine wp_ret (ret_k aQ (v := .bool false) (res_t rfl bm _) ?_)
 refine ⟨?_, aR⟩
 show Ending.returned (.bool false) = Ending.returned (.bool (sameV v u))
 first | rfl | (simp only [sameV, af, ag, ah, ai, al, am, aq, bsm] <;> rfl) | (exfalso; omega)
 have az := oF am
 refine wp_g0 (.replicate 45 true) [] 49
   [ve (pv q9), ve (iv v.k), ve (pv ab), ve (iv u.k), vT, vT, ve (.pointer (some ⟨q9, 1, none⟩)), ve (nv (Nm.mk v.nk v.nn)), ve (.pointer (some ⟨ab, 1, none⟩)), ve (nv (Nm.mk u.nk u.nn)), vT, vT, vT, ve (.pointer (some ⟨q9, 3, none⟩)), ve (.pointer (some ⟨q9, 3, none⟩)), vT, ve (.pointer (some ⟨ab, 3, none⟩)), ve (.pointer (some ⟨ab, 3, none⟩)), vT, vT, vT, vT, ve (.pointer (some ⟨q9, 3, none⟩)), ve (.pointer (some ⟨q9, 4, none⟩)), ve (sv Av v.mag cv), ve (.pointer (some ⟨ab, 3, none⟩)), ve (.pointer (some ⟨ab, 4, none⟩)), ve (sv Au u.mag cu), vF, vF, vF, vU, vU, vU, vU, vU, vF, vF, vU, vU, vU, vU, vU, vF, vF] aj (.eq (.eq (.eq (.eq (.eq (.eq (.eq (.eq (.eq (.eq (.eq (.eq (.eq (.eq (.eq (.eq (.eq (.eq (.eq (.eq (.eq (.eq (.eq (.eq (.eq (.eq (.eq (.eq (.eq (.eq (.eq (.eq (.eq (.eq (.eq (.eq (.eq (.eq (.eq (.eq (.eq (.eq (.eq (.eq (.eq (.nil)))))))))))))))))))))))))))))))))))))))))))))) ?_ ?_
 exact .f (fun k => k.fx 2 h8) <| .t (fun _ w hn k => ⟨_, v_load rfl (k.eq1 0 5 rfl) (l_one Tryd.isAgg3 ((aa.new_ hn).cell 0)), rfl⟩) <| .f (fun k => k.fx 3 ae) <| .t (fun _ w hn k => ⟨_, v_load rfl (k.eq1 2 7 rfl) (l_one Tryd.isAgg3 ((ac.new_ hn).cell 0)), rfl⟩) <| .t (fun _ w hn k => ⟨_, v_bin rfl (k.eq1 1 6 rfl) (k.eq1 3 8 rfl) (fun _ => rfl) (r_eql af), rfl⟩) <| .m (fun k => k.eq1 4 9 rfl) <| .gf (fun k => k.eq1 5 10 rfl) (fun k => k.fx 2 h8) <| .g (fun k => k.eq1 5 10 rfl) (fun _ w hn k => ⟨_, v_load rfl (k.eq1 6 11 rfl) (l_part Tryd.isAgg23 Tryd.sizeOf23 (aa.new_ hn) lb), rfl⟩) <| .gf (fun k => k.eq1 5 10 rfl) (fun k => k.fx 3 ae) <| .g (fun k => k.eq1 5 10 rfl) (fun _ w hn k => ⟨_, v_load rfl (k.eq1 8 13 rfl) (l_part Tryd.isAgg23 Tryd.sizeOf23 (ac.new_ hn) lb), rfl⟩) <| .g (fun k => k.eq1 5 10 rfl) (fun _ w hn k => ⟨_, v_bin rfl (k.eq1 7 12 rfl) (k.eq1 9 14 rfl) (gNum _ _ _ _) (eqlNum _ _ _ _ (by show (decide (v.nk = u.nk) && decide (v.nn = u.nn)) = true; simp [ag, ah])), rfl⟩) <| .t (fun _ w hn k => ⟨_, v_pickT rfl (k.eq1 5 10 rfl) (k.eq1 10 15 rfl), rfl⟩) <| .m (fun k => k.eq1 11 16 rfl) <| .gf (fun k => k.eq1 12 17 rfl) (fun k => k.fx 2 h8) <| .gf (fun k => k.eq1 12 17 rfl) (fun k => k.eq1 13 18 rfl) <| .o1 (tg rfl rfl rfl (fun _ _ k => k.eq1 12 17 rfl) fun _ w hn k => ⟨_, v_load rfl (k.eq1 14 19 rfl) (l_one Tryd.isAgg4 ((aa.new_ hn).cell 3)), congrArg Value.bool ai⟩) <| .gf (fun k => k.eq1 12 17 rfl) (fun k => k.fx 3 ae) <| .gf (fun k => k.eq1 12 17 rfl) (fun k => k.eq1 16 21 rfl) <| .o1 (tg rfl rfl rfl (fun _ _ k => k.eq1 12 17 rfl) fun _ w hn k => ⟨_, v_load rfl (k.eq1 17 22 rfl) (l_one Tryd.isAgg4 ((ac.new_ hn).cell 3)), congrArg Value.bool al⟩) <| .g (fun k => k.eq1 12 17 rfl) (fun _ w hn k => ⟨_, v_bin rfl (k.eq1 15 20 rfl) (k.eq1 18 23 rfl) (fun _ => rfl) (fun w => by kernel_rfl), rfl⟩) <| .t (fun _ w hn k => ⟨_, v_pickT rfl (k.eq1 12 17 rfl) (k.eq1 19 24 rfl), rfl⟩) <| .m (fun k => k.eq1 20 25 rfl) <| .gf (fun k => k.eq1 21 26 rfl) (fun k => k.fx 2 h8) <| .gf (fun k => k.eq1 21 26 rfl) (fun k => k.eq1 22 27 rfl) <| .g (fun k => k.eq1 21 26 rfl) (fun _ w hn k => ⟨_, v_load rfl (k.eq1 23 28 rfl) (l_one Tryd.isAgg24 ((aa.new_ hn).cell 4)), rfl⟩) <| .gf (fun k => k.eq1 21 26 rfl) (fun k => k.fx 3 ae) <| .gf (fun k => k.eq1 21 26 rfl) (fun k => k.eq1 25 30 rfl) <| .g (fun k => k.eq1 21 26 rfl) (fun _ w hn k => ⟨_, v_load rfl (k.eq1 26 31 rfl) (l_one Tryd.isAgg24 ((ac.new_ hn).cell 4)), rfl⟩) <| .o1 (cg rfl rfl rfl (fun _ _ k => k.eq1 21 26 rfl) rfl (fun _ w hn k => ⟨#[sv Av v.mag cv, sv Au u.mag cu], args2 (k.eq1 24 29 rfl) (k.eq1 27 32 rfl), fun _ => by kernel_rfl, sequal32_c _ v.mag _ _ u.mag _ _ (hmv.new_ (ad.transNew hn)) (hmu.new_ (ad.transNew hn))⟩) fun _ => congrArg Value.bool am) <| .t (fun _ w hn k => ⟨_, v_pickT rfl (k.eq1 21 26 rfl) (k.eq1 28 33 rfl), rfl⟩) <| .m (fun k => k.eq1 29 34 rfl) <| .s (fun k => k.eq1 30 35 rfl) <| .s (fun k => k.eq1 30 35 rfl) <| .s (fun k => k.eq1 30 35 rfl) <| .s (fun k => k.eq1 30 35 rfl) <| .s (fun k => k.eq1 30 35 rfl) <| .t (fun _ w hn k => ⟨_, v_pickF rfl (k.eq1 30 35 rfl) rfl, rfl⟩) <| .m (fun k => k.eq1 36 41 rfl) <| .s (fun k => k.eq1 37 42 rfl) <| .s (fun k => k.eq1 37 42 rfl) <| .s (fun k => k.eq1 37 42 rfl) <| .s (fun k => k.eq1 37 42 rfl) <| .s (fun k => k.eq1 37 42 rfl) <| .t (fun _ w hn k => ⟨_, v_pickF rfl (k.eq1 37 42 rfl) rfl, rfl⟩) <| .a (fun k => k.eq1 43 48 rfl) .nil
 refine aftI aj ap ad fun b2 b3 bE aT aU bF aV => ?_
 have bn := aV.ge 44 4 rfl
 refine st_nil (ak _ _ ?_)
 refine wp_ret (ret_k aT (v := .bool false) (res_t rfl bn _) ?_)
 refine ⟨?_, aU⟩
 show Ending.returned (.bool false) = Ending.returned (.bool (sameV v u))
 first | rfl | (simp only [sameV, af, ag, ah, ai, al, am, bsm] <;> rfl) | (exfalso; omega)
 refine wp_g0 (.replicate 45 true) [] 49
   [ve (pv q9), ve (iv v.k), ve (pv ab), ve (iv u.k), vT, vT, ve (.pointer (some ⟨q9, 1, none⟩)), ve (nv (Nm.mk v.nk v.nn)), ve (.pointer (some ⟨ab, 1, none⟩)), ve (nv (Nm.mk u.nk u.nn)), vT, vT, vT, ve (.pointer (some ⟨q9, 3, none⟩)), ve (.pointer (some ⟨q9, 3, none⟩)), vT, ve (.pointer (some ⟨ab, 3, none⟩)), ve (.pointer (some ⟨ab, 3, none⟩)), vF, vF, vF, vF, vU, vU, vU, vU, vU, vU, vU, vF, vF, vU, vU, vU, vU, vU, vF, vF, vU, vU, vU, vU, vU, vF, vF] aj (.eq (.eq (.eq (.eq (.eq (.eq (.eq (.eq (.eq (.eq (.eq (.eq (.eq (.eq (.eq (.eq (.eq (.eq (.eq (.eq (.eq (.eq (.eq (.eq (.eq (.eq (.eq (.eq (.eq (.eq (.eq (.eq (.eq (.eq (.eq (.eq (.eq (.eq (.eq (.eq (.eq (.eq (.eq (.eq (.eq (.nil)))))))))))))))))))))))))))))))))))))))))))))) ?_ ?_
 exact .f (fun k => k.fx 2 h8) <| .t (fun _ w hn k => ⟨_, v_load rfl (k.eq1 0 5 rfl) (l_one Tryd.isAgg3 ((aa.new_ hn).cell 0)), rfl⟩) <| .f (fun k => k.fx 3 ae) <| .t (fun _ w hn k => ⟨_, v_load rfl (k.eq1 2 7 rfl) (l_one Tryd.isAgg3 ((ac.new_ hn).cell 0)), rfl⟩) <| .t (fun _ w hn k => ⟨_, v_bin rfl (k.eq1 1 6 rfl) (k.eq1 3 8 rfl) (fun _ => rfl) (r_eql af), rfl⟩) <| .m (fun k => k.eq1 4 9 rfl) <| .gf (fun k => k.eq1 5 10 rfl) (fun k => k.fx 2 h8) <| .g (fun k => k.eq1 5 10 rfl) (fun _ w hn k => ⟨_, v_load rfl (k.eq1 6 11 rfl) (l_part Tryd.isAgg23 Tryd.sizeOf23 (aa.new_ hn) lb), rfl⟩) <| .gf (fun k => k.eq1 5 10 rfl) (fun k => k.fx 3 ae) <| .g (fun k => k.eq1 5 10 rfl) (fun _ w hn k => ⟨_, v_load rfl (k.eq1 8 13 rfl) (l_part Tryd.isAgg23 Tryd.sizeOf23 (ac.new_ hn) lb), rfl⟩) <| .g (fun k => k.eq1 5 10 rfl) (fun _ w hn k => ⟨_, v_bin rfl (k.eq1 7 12 rfl) (k.eq1 9 14 rfl) (gNum _ _ _ _) (eqlNum _ _ _ _ (by show (decide (v.nk = u.nk) && decide (v.nn = u.nn)) = true; simp [ag, ah])), rfl⟩) <| .t (fun _ w hn k => ⟨_, v_pickT rfl (k.eq1 5 10 rfl) (k.eq1 10 15 rfl), rfl⟩) <| .m (fun k => k.eq1 11 16 rfl) <| .gf (fun k => k.eq1 12 17 rfl) (fun k => k.fx 2 h8) <| .gf (fun k => k.eq1 12 17 rfl) (fun k => k.eq1 13 18 rfl) <| .o1 (tg rfl rfl rfl (fun _ _ k => k.eq1 12 17 rfl) fun _ w hn k => ⟨_, v_load rfl (k.eq1 14 19 rfl) (l_one Tryd.isAgg4 ((aa.new_ hn).cell 3)), congrArg Value.bool ai⟩) <| .gf (fun k => k.eq1 12 17 rfl) (fun k => k.fx 3 ae) <| .gf (fun k => k.eq1 12 17 rfl) (fun k => k.eq1 16 21 rfl) <| .o1 (tg rfl rfl rfl (fun _ _ k => k.eq1 12 17 rfl) fun _ w hn k => ⟨_, v_load rfl (k.eq1 17 22 rfl) (l_one Tryd.isAgg4 ((ac.new_ hn).cell 3)), congrArg Value.bool al⟩) <| .g (fun k => k.eq1 12 17 rfl) (fun _ w hn k => ⟨_, v_bin rfl (k.eq1 15 20 rfl) (k.eq1 18 23 rfl) (fun _ => rfl) (fun w => by kernel_rfl), rfl⟩) <| .t (fun _ w hn k => ⟨_, v_pickT rfl (k.eq1 12 17 rfl) (k.eq1 19 24 rfl), rfl⟩) <| .m (fun k => k.eq1 20 25 rfl) <| .s (fun k => k.eq1 21 26 rfl) <| .s (fun k => k.eq1 21 26 rfl) <| .s (fun k => k.eq1 21 26 rfl) <| .s (fun k => k.eq1 21 26 rfl) <| .s (fun k => k.eq1 21 26 rfl) <| .s (fun k => k.eq1 21 26 rfl) <| .s (fun k => k.eq1 21 26 rfl) <| .t (fun _ w hn k => ⟨_, v_pickF rfl (k.eq1 21 26 rfl) rfl, rfl⟩) <| .m (fun k => k.eq1 29 34 rfl) <| .s (fun k => k.eq1 30 35 rfl) <| .s (fun k => k.eq1 30 35 rfl) <| .s (fun k => k.eq1 30 35 rfl) <| .s (fun k => k.eq1 30 35 rfl) <| .s (fun k => k.eq1 30 35 rfl) <| .t (fun _ w hn k => ⟨_, v_pickF rfl (k.eq1 30 35 rfl) rfl, rfl⟩) <| .m (fun k => k.eq1 36 41 rfl) <| .s (fun k => k.eq1 37 42 rfl) <| .s (fun k => k.eq1 37 42 rfl) <| .s (fun k => k.eq1 37 42 rfl) <| .s (fun k => k.eq1 37 42 rfl) <| .s (fun k => k.eq1 37 42 rfl) <| .t (fun _ w hn k => ⟨_, v_pickF rfl (k.eq1 37 42 rfl) rfl, rfl⟩) <| .a (fun k => k.eq1 43 48 rfl) .nil
 refine aftI aj ap ad fun b4 b5 bG aW aX bH aY => ?_
 have bo := aY.ge 44 4 rfl
 refine st_nil (ak _ _ ?_)
 refine wp_ret (ret_k aW (v := .bool false) (res_t rfl bo _) ?_)
 refine ⟨?_, aX⟩
 show Ending.returned (.bool false) = Ending.returned (.bool (sameV v u))
 first | rfl | (simp only [sameV, af, ag, ah, ai, al, bsm] <;> rfl) | (exfalso; omega)
 rcases bc (u.neg) with an | an
 refine wp_g0 (.replicate 45 true) [] 49
   [ve (pv q9), ve (iv v.k), ve (pv ab), ve (iv u.k), vT, vT, ve (.pointer (some ⟨q9, 1, none⟩)), ve (nv (Nm.mk v.nk v.nn)), ve (.pointer (some ⟨ab, 1, none⟩)), ve (nv (Nm.mk u.nk u.nn)), vT, vT, vT, ve (.pointer (some ⟨q9, 3, none⟩)), ve (.pointer (some ⟨q9, 3, none⟩)), vF, ve (.pointer (some ⟨ab, 3, none⟩)), ve (.pointer (some ⟨ab, 3, none⟩)), vT, vF, vF, vF, vU, vU, vU, vU, vU, vU, vU, vF, vF, vU, vU, vU, vU, vU, vF, vF, vU, vU, vU, vU, vU, vF, vF] aj (.eq (.eq (.eq (.eq (.eq (.eq (.eq (.eq (.eq (.eq (.eq (.eq (.eq (.eq (.eq (.eq (.eq (.eq (.eq (.eq (.eq (.eq (.eq (.eq (.eq (.eq (.eq (.eq (.eq (.eq (.eq (.eq (.eq (.eq (.eq (.eq (.eq (.eq (.eq (.eq (.eq (.eq (.eq (.eq (.eq (.nil)))))))))))))))))))))))))))))))))))))))))))))) ?_ ?_
 exact .f (fun k => k.fx 2 h8) <| .t (fun _ w hn k => ⟨_, v_load rfl (k.eq1 0 5 rfl) (l_one Tryd.isAgg3 ((aa.new_ hn).cell 0)), rfl⟩) <| .f (fun k => k.fx 3 ae) <| .t (fun _ w hn k => ⟨_, v_load rfl (k.eq1 2 7 rfl) (l_one Tryd.isAgg3 ((ac.new_ hn).cell 0)), rfl⟩) <| .t (fun _ w hn k => ⟨_, v_bin rfl (k.eq1 1 6 rfl) (k.eq1 3 8 rfl) (fun _ => rfl) (r_eql af), rfl⟩) <| .m (fun k => k.eq1 4 9 rfl) <| .gf (fun k => k.eq1 5 10 rfl) (fun k => k.fx 2 h8) <| .g (fun k => k.eq1 5 10 rfl) (fun _ w hn k => ⟨_, v_load rfl (k.eq1 6 11 rfl) (l_part Tryd.isAgg23 Tryd.sizeOf23 (aa.new_ hn) lb), rfl⟩) <| .gf (fun k => k.eq1 5 10 rfl) (fun k => k.fx 3 ae) <| .g (fun k => k.eq1 5 10 rfl) (fun _ w hn k => ⟨_, v_load rfl (k.eq1 8 13 rfl) (l_part Tryd.isAgg23 Tryd.sizeOf23 (ac.new_ hn) lb), rfl⟩) <| .g (fun k => k.eq1 5 10 rfl) (fun _ w hn k => ⟨_, v_bin rfl (k.eq1 7 12 rfl) (k.eq1 9 14 rfl) (gNum _ _ _ _) (eqlNum _ _ _ _ (by show (decide (v.nk = u.nk) && decide (v.nn = u.nn)) = true; simp [ag, ah])), rfl⟩) <| .t (fun _ w hn k => ⟨_, v_pickT rfl (k.eq1 5 10 rfl) (k.eq1 10 15 rfl), rfl⟩) <| .m (fun k => k.eq1 11 16 rfl) <| .gf (fun k => k.eq1 12 17 rfl) (fun k => k.fx 2 h8) <| .gf (fun k => k.eq1 12 17 rfl) (fun k => k.eq1 13 18 rfl) <| .o1 (tg rfl rfl rfl (fun _ _ k => k.eq1 12 17 rfl) fun _ w hn k => ⟨_, v_load rfl (k.eq1 14 19 rfl) (l_one Tryd.isAgg4 ((aa.new_ hn).cell 3)), congrArg Value.bool ai⟩) <| .gf (fun k => k.eq1 12 17 rfl) (fun k => k.fx 3 ae) <| .gf (fun k => k.eq1 12 17 rfl) (fun k => k.eq1 16 21 rfl) <| .o1 (tg rfl rfl rfl (fun _ _ k => k.eq1 12 17 rfl) fun _ w hn k => ⟨_, v_load rfl (k.eq1 17 22 rfl) (l_one Tryd.isAgg4 ((ac.new_ hn).cell 3)), congrArg Value.bool an⟩) <| .g (fun k => k.eq1 12 17 rfl) (fun _ w hn k => ⟨_, v_bin rfl (k.eq1 15 20 rfl) (k.eq1 18 23 rfl) (fun _ => rfl) (fun w => by kernel_rfl), rfl⟩) <| .t (fun _ w hn k => ⟨_, v_pickT rfl (k.eq1 12 17 rfl) (k.eq1 19 24 rfl), rfl⟩) <| .m (fun k => k.eq1 20 25 rfl) <| .s (fun k => k.eq1 21 26 rfl) <| .s (fun k => k.eq1 21 26 rfl) <| .s (fun k => k.eq1 21 26 rfl) <| .s (fun k => k.eq1 21 26 rfl) <| .s (fun k => k.eq1 21 26 rfl) <| .s (fun k => k.eq1 21 26 rfl) <| .s (fun k => k.eq1 21 26 rfl) <| .t (fun _ w hn k => ⟨_, v_pickF rfl (k.eq1 21 26 rfl) rfl, rfl⟩) <| .m (fun k => k.eq1 29 34 rfl) <| .s (fun k => k.eq1 30 35 rfl) <| .s (fun k => k.eq1 30 35 rfl) <| .s (fun k => k.eq1 30 35 rfl) <| .s (fun k => k.eq1 30 35 rfl) <| .s (fun k => k.eq1 30 35 rfl) <| .t (fun _ w hn k => ⟨_, v_pickF rfl (k.eq1 30 35 rfl) rfl, rfl⟩) <| .m (fun k => k.eq1 36 41 rfl) <| .s (fun k => k.eq1 37 42 rfl) <| .s (fun k => k.eq1 37 42 rfl) <| .s (fun k => k.eq1 37 42 rfl) <| .s (fun k => k.eq1 37 42 rfl) <| .s (fun k => k.eq1 37 42 rfl) <| .t (fun _ w hn k => ⟨_, v_pickF rfl (k.eq1 37 42 rfl) rfl, rfl⟩) <| .a (fun k => k.eq1 43 48 rfl) .nil
 refine aftI aj ap ad fun b6 b7 bI aZ a1 bJ a3 => ?_
 have bp := a3.ge 44 4 rfl
 refine st_nil (ak _ _ ?_)
 refine wp_ret (ret_k aZ (v := .bool false) (res_t rfl bp _) ?_)
 refine ⟨?_, a1⟩
 show Ending.returned (.bool false) = Ending.returned (.bool (sameV v u))
 first | rfl | (simp only [sameV, af, ag, ah, ai, an, bsm] <;> rfl) | (exfalso; omega)
 rcases bc (decide (v.mag = u.mag)) with ao | ao
 have aB := oT ao
 rcases bc (decide (v.s = u.s)) with ar | ar
 have aC := oT ar
 refine wp_g0 (.replicate 45 true) [] 49
   [ve (pv q9), ve (iv v.k), ve (pv ab), ve (iv u.k), vT, vT, ve (.pointer (some ⟨q9, 1, none⟩)), ve (nv (Nm.mk v.nk v.nn)), ve (.pointer (some ⟨ab, 1, none⟩)), ve (nv (Nm.mk u.nk u.nn)), vT, vT, vT, ve (.pointer (some ⟨q9, 3, none⟩)), ve (.pointer (some ⟨q9, 3, none⟩)), vF, ve (.pointer (some ⟨ab, 3, none⟩)), ve (.pointer (some ⟨ab, 3, none⟩)), vF, vT, vT, vT, ve (.pointer (some ⟨q9, 3, none⟩)), ve (.pointer (some ⟨q9, 4, none⟩)), ve (sv Av v.mag cv), ve (.pointer (some ⟨ab, 3, none⟩)), ve (.pointer (some ⟨ab, 4, none⟩)), ve (sv Au u.mag cu), vT, vT, vT, ve (.pointer (some ⟨q9, 5, none⟩)), ve (sv Bv v.s dv), ve (.pointer (some ⟨ab, 5, none⟩)), ve (sv Bu u.s du), vT, vT, vT, ve (.pointer (some ⟨q9, 6, none⟩)), ve (iv v.ref), ve (.pointer (some ⟨ab, 6, none⟩)), ve (iv u.ref), ve (.bool (decide (v.ref = u.ref))), ve (.bool (decide (v.ref = u.ref))), ve (.bool (decide (v.ref = u.ref)))] aj (.eq (.eq (.eq (.eq (.eq (.eq (.eq (.eq (.eq (.eq (.eq (.eq (.eq (.eq (.eq (.eq (.eq (.eq (.eq (.eq (.eq (.eq (.eq (.eq (.eq (.eq (.eq (.eq (.eq (.eq (.eq (.eq (.eq (.eq (.eq (.eq (.eq (.eq (.eq (.eq (.eq (.eq (.eq (.eq (.eq (.nil)))))))))))))))))))))))))))))))))))))))))))))) ?_ ?_
 exact .f (fun k => k.fx 2 h8) <| .t (fun _ w hn k => ⟨_, v_load rfl (k.eq1 0 5 rfl) (l_one Tryd.isAgg3 ((aa.new_ hn).cell 0)), rfl⟩) <| .f (fun k => k.fx 3 ae) <| .t (fun _ w hn k => ⟨_, v_load rfl (k.eq1 2 7 rfl) (l_one Tryd.isAgg3 ((ac.new_ hn).cell 0)), rfl⟩) <| .t (fun _ w hn k => ⟨_, v_bin rfl (k.eq1 1 6 rfl) (k.eq1 3 8 rfl) (fun _ => rfl) (r_eql af), rfl⟩) <| .m (fun k => k.eq1 4 9 rfl) <| .gf (fun k => k.eq1 5 10 rfl) (fun k => k.fx 2 h8) <| .g (fun k => k.eq1 5 10 rfl) (fun _ w hn k => ⟨_, v_load rfl (k.eq1 6 11 rfl) (l_part Tryd.isAgg23 Tryd.sizeOf23 (aa.new_ hn) lb), rfl⟩) <| .gf (fun k => k.eq1 5 10 rfl) (fun k => k.fx 3 ae) <| .g (fun k => k.eq1 5 10 rfl) (fun _ w hn k => ⟨_, v_load rfl (k.eq1 8 13 rfl) (l_part Tryd.isAgg23 Tryd.sizeOf23 (ac.new_ hn) lb), rfl⟩) <| .g (fun k => k.eq1 5 10 rfl) (fun _ w hn k => ⟨_, v_bin rfl (k.eq1 7 12 rfl) (k.eq1 9 14 rfl) (gNum _ _ _ _) (eqlNum _ _ _ _ (by show (decide (v.nk = u.nk) && decide (v.nn = u.nn)) = true; simp [ag, ah])), rfl⟩) <| .t (fun _ w hn k => ⟨_, v_pickT rfl (k.eq1 5 10 rfl) (k.eq1 10 15 rfl), rfl⟩) <| .m (fun k => k.eq1 11 16 rfl) <| .gf (fun k => k.eq1 12 17 rfl) (fun k => k.fx 2 h8) <| .gf (fun k => k.eq1 12 17 rfl) (fun k => k.eq1 13 18 rfl) <| .o1 (tg rfl rfl rfl (fun _ _ k => k.eq1 12 17 rfl) fun _ w hn k => ⟨_, v_load rfl (k.eq1 14 19 rfl) (l_one Tryd.isAgg4 ((aa.new_ hn).cell 3)), congrArg Value.bool ai⟩) <| .gf (fun k => k.eq1 12 17 rfl) (fun k => k.fx 3 ae) <| .gf (fun k => k.eq1 12 17 rfl) (fun k => k.eq1 16 21 rfl) <| .o1 (tg rfl rfl rfl (fun _ _ k => k.eq1 12 17 rfl) fun _ w hn k => ⟨_, v_load rfl (k.eq1 17 22 rfl) (l_one Tryd.isAgg4 ((ac.new_ hn).cell 3)), congrArg Value.bool an⟩) <| .g (fun k => k.eq1 12 17 rfl) (fun _ w hn k => ⟨_, v_bin rfl (k.eq1 15 20 rfl) (k.eq1 18 23 rfl) (fun _ => rfl) (fun w => by kernel_rfl), rfl⟩) <| .t (fun _ w hn k => ⟨_, v_pickT rfl (k.eq1 12 17 rfl) (k.eq1 19 24 rfl), rfl⟩) <| .m (fun k => k.eq1 20 25 rfl) <| .gf (fun k => k.eq1 21 26 rfl) (fun k => k.fx 2 h8) <| .gf (fun k => k.eq1 21 26 rfl) (fun k => k.eq1 22 27 rfl) <| .g (fun k => k.eq1 21 26 rfl) (fun _ w hn k => ⟨_, v_load rfl (k.eq1 23 28 rfl) (l_one Tryd.isAgg24 ((aa.new_ hn).cell 4)), rfl⟩) <| .gf (fun k => k.eq1 21 26 rfl) (fun k => k.fx 3 ae) <| .gf (fun k => k.eq1 21 26 rfl) (fun k => k.eq1 25 30 rfl) <| .g (fun k => k.eq1 21 26 rfl) (fun _ w hn k => ⟨_, v_load rfl (k.eq1 26 31 rfl) (l_one Tryd.isAgg24 ((ac.new_ hn).cell 4)), rfl⟩) <| .o1 (cg rfl rfl rfl (fun _ _ k => k.eq1 21 26 rfl) rfl (fun _ w hn k => ⟨#[sv Av v.mag cv, sv Au u.mag cu], args2 (k.eq1 24 29 rfl) (k.eq1 27 32 rfl), fun _ => by kernel_rfl, sequal32_c _ v.mag _ _ u.mag _ _ (hmv.new_ (ad.transNew hn)) (hmu.new_ (ad.transNew hn))⟩) fun _ => congrArg Value.bool ao) <| .t (fun _ w hn k => ⟨_, v_pickT rfl (k.eq1 21 26 rfl) (k.eq1 28 33 rfl), rfl⟩) <| .m (fun k => k.eq1 29 34 rfl) <| .gf (fun k => k.eq1 30 35 rfl) (fun k => k.fx 2 h8) <| .g (fun k => k.eq1 30 35 rfl) (fun _ w hn k => ⟨_, v_load rfl (k.eq1 31 36 rfl) (l_one Tryd.isAgg27 ((aa.new_ hn).cell 5)), rfl⟩) <| .gf (fun k => k.eq1 30 35 rfl) (fun k => k.fx 3 ae) <| .g (fun k => k.eq1 30 35 rfl) (fun _ w hn k => ⟨_, v_load rfl (k.eq1 33 38 rfl) (l_one Tryd.isAgg27 ((ac.new_ hn).cell 5)), rfl⟩) <| .o1 (cg rfl rfl rfl (fun _ _ k => k.eq1 30 35 rfl) rfl (fun _ w hn k => ⟨#[sv Bv v.s dv, sv Bu u.s du], args2 (k.eq1 32 37 rfl) (k.eq1 34 39 rfl), fun _ => by kernel_rfl, sequal16_c _ v.s _ _ u.s _ _ (hsv.new_ (ad.transNew hn)) (hsu.new_ (ad.transNew hn))⟩) fun _ => congrArg Value.bool ar) <| .t (fun _ w hn k => ⟨_, v_pickT rfl (k.eq1 30 35 rfl) (k.eq1 35 40 rfl), rfl⟩) <| .m (fun k => k.eq1 36 41 rfl) <| .gf (fun k => k.eq1 37 42 rfl) (fun k => k.fx 2 h8) <| .g (fun k => k.eq1 37 42 rfl) (fun _ w hn k => ⟨_, v_load rfl (k.eq1 38 43 rfl) (l_one Tryd.isAgg3 ((aa.new_ hn).cell 6)), rfl⟩) <| .gf (fun k => k.eq1 37 42 rfl) (fun k => k.fx 3 ae) <| .g (fun k => k.eq1 37 42 rfl) (fun _ w hn k => ⟨_, v_load rfl (k.eq1 40 45 rfl) (l_one Tryd.isAgg3 ((ac.new_ hn).cell 6)), rfl⟩) <| .g (fun k => k.eq1 37 42 rfl) (fun _ w hn k => ⟨_, v_bin rfl (k.eq1 39 44 rfl) (k.eq1 41 46 rfl) (fun _ => rfl) (r_eql rfl), rfl⟩) <| .t (fun _ w hn k => ⟨_, v_pickT rfl (k.eq1 37 42 rfl) (k.eq1 42 47 rfl), rfl⟩) <| .a (fun k => k.eq1 43 48 rfl) .nil
 refine aftI aj ap ad fun b8 b9 bK a4 a5 bL a6 => ?_
 have bq := a6.ge 44 4 rfl
 refine st_nil (ak _ _ ?_)
 refine wp_ret (ret_k a4 (v := .bool (decide (v.ref = u.ref))) (res_t rfl bq _) ?_)
 refine ⟨?_, a5⟩
 show Ending.returned (.bool (decide (v.ref = u.ref))) = Ending.returned (.bool (sameV v u))
 first | rfl | (simp only [sameV, af, ag, ah, ai, an, ao, ar, bsm] <;> rfl) | (exfalso; omega)
 have aC := oF ar
 refine wp_g0 (.replicate 45 true) [] 49
   [ve (pv q9), ve (iv v.k), ve (pv ab), ve (iv u.k), vT, vT, ve (.pointer (some ⟨q9, 1, none⟩)), ve (nv (Nm.mk v.nk v.nn)), ve (.pointer (some ⟨ab, 1, none⟩)), ve (nv (Nm.mk u.nk u.nn)), vT, vT, vT, ve (.pointer (some ⟨q9, 3, none⟩)), ve (.pointer (some ⟨q9, 3, none⟩)), vF, ve (.pointer (some ⟨ab, 3, none⟩)), ve (.pointer (some ⟨ab, 3, none⟩)), vF, vT, vT, vT, ve (.pointer (some ⟨q9, 3, none⟩)), ve (.pointer (some ⟨q9, 4, none⟩)), ve (sv Av v.mag cv), ve (.pointer (some ⟨ab, 3, none⟩)), ve (.pointer (some ⟨ab, 4, none⟩)), ve (sv Au u.mag cu), vT, vT, vT, ve (.pointer (some ⟨q9, 5, none⟩)), ve (sv Bv v.s dv), ve (.pointer (some ⟨ab, 5, none⟩)), ve (sv Bu u.s du), vF, vF, vF, vU, vU, vU, vU, vU, vF, vF] aj (.eq (.eq (.eq (.eq (.eq (.eq (.eq (.eq (.eq (.eq (.eq (.eq (.eq (.eq (.eq (.eq (.eq (.eq (.eq (.eq (.eq (.eq (.eq (.eq (.eq (.eq (.eq (.eq (.eq (.eq (.eq (.eq (.eq (.eq (.eq (.eq (.eq (.eq (.eq (.eq (.eq (.eq (.eq (.eq (.eq (.nil)))))))))))))))))))))))))))))))))))))))))))))) ?_ ?_
 exact .f (fun k => k.fx 2 h8) <| .t (fun _ w hn k => ⟨_, v_load rfl (k.eq1 0 5 rfl) (l_one Tryd.isAgg3 ((aa.new_ hn).cell 0)), rfl⟩) <| .f (fun k => k.fx 3 ae) <| .t (fun _ w hn k => ⟨_, v_load rfl (k.eq1 2 7 rfl) (l_one Tryd.isAgg3 ((ac.new_ hn).cell 0)), rfl⟩) <| .t (fun _ w hn k => ⟨_, v_bin rfl (k.eq1 1 6 rfl) (k.eq1 3 8 rfl) (fun _ => rfl) (r_eql af), rfl⟩) <| .m (fun k => k.eq1 4 9 rfl) <| .gf (fun k => k.eq1 5 10 rfl) (fun k => k.fx 2 h8) <| .g (fun k => k.eq1 5 10 rfl) (fun _ w hn k => ⟨_, v_load rfl (k.eq1 6 11 rfl) (l_part Tryd.isAgg23 Tryd.sizeOf23 (aa.new_ hn) lb), rfl⟩) <| .gf (fun k => k.eq1 5 10 rfl) (fun k => k.fx 3 ae) <| .g (fun k => k.eq1 5 10 rfl) (fun _ w hn k => ⟨_, v_load rfl (k.eq1 8 13 rfl) (l_part Tryd.isAgg23 Tryd.sizeOf23 (ac.new_ hn) lb), rfl⟩) <| .g (fun k => k.eq1 5 10 rfl) (fun _ w hn k => ⟨_, v_bin rfl (k.eq1 7 12 rfl) (k.eq1 9 14 rfl) (gNum _ _ _ _) (eqlNum _ _ _ _ (by show (decide (v.nk = u.nk) && decide (v.nn = u.nn)) = true; simp [ag, ah])), rfl⟩) <| .t (fun _ w hn k => ⟨_, v_pickT rfl (k.eq1 5 10 rfl) (k.eq1 10 15 rfl), rfl⟩) <| .m (fun k => k.eq1 11 16 rfl) <| .gf (fun k => k.eq1 12 17 rfl) (fun k => k.fx 2 h8) <| .gf (fun k => k.eq1 12 17 rfl) (fun k => k.eq1 13 18 rfl) <| .o1 (tg rfl rfl rfl (fun _ _ k => k.eq1 12 17 rfl) fun _ w hn k => ⟨_, v_load rfl (k.eq1 14 19 rfl) (l_one Tryd.isAgg4 ((aa.new_ hn).cell 3)), congrArg Value.bool ai⟩) <| .gf (fun k => k.eq1 12 17 rfl) (fun k => k.fx 3 ae) <| .gf (fun k => k.eq1 12 17 rfl) (fun k => k.eq1 16 21 rfl) <| .o1 (tg rfl rfl rfl (fun _ _ k => k.eq1 12 17 rfl) fun _ w hn k => ⟨_, v_load rfl (k.eq1 17 22 rfl) (l_one Tryd.isAgg4 ((ac.new_ hn).cell 3)), congrArg Value.bool an⟩) <| .g (fun k => k.eq1 12 17 rfl) (fun _ w hn k => ⟨_, v_bin rfl (k.eq1 15 20 rfl) (k.eq1 18 23 rfl) (fun _ => rfl) (fun w => by kernel_rfl), rfl⟩) <| .t (fun _ w hn k => ⟨_, v_pickT rfl (k.eq1 12 17 rfl) (k.eq1 19 24 rfl), rfl⟩) <| .m (fun k => k.eq1 20 25 rfl) <| .gf (fun k => k.eq1 21 26 rfl) (fun k => k.fx 2 h8) <| .gf (fun k => k.eq1 21 26 rfl) (fun k => k.eq1 22 27 rfl) <| .g (fun k => k.eq1 21 26 rfl) (fun _ w hn k => ⟨_, v_load rfl (k.eq1 23 28 rfl) (l_one Tryd.isAgg24 ((aa.new_ hn).cell 4)), rfl⟩) <| .gf (fun k => k.eq1 21 26 rfl) (fun k => k.fx 3 ae) <| .gf (fun k => k.eq1 21 26 rfl) (fun k => k.eq1 25 30 rfl) <| .g (fun k => k.eq1 21 26 rfl) (fun _ w hn k => ⟨_, v_load rfl (k.eq1 26 31 rfl) (l_one Tryd.isAgg24 ((ac.new_ hn).cell 4)), rfl⟩) <| .o1 (cg rfl rfl rfl (fun _ _ k => k.eq1 21 26 rfl) rfl (fun _ w hn k => ⟨#[sv Av v.mag cv, sv Au u.mag cu], args2 (k.eq1 24 29 rfl) (k.eq1 27 32 rfl), fun _ => by kernel_rfl, sequal32_c _ v.mag _ _ u.mag _ _ (hmv.new_ (ad.transNew hn)) (hmu.new_ (ad.transNew hn))⟩) fun _ => congrArg Value.bool ao) <| .t (fun _ w hn k => ⟨_, v_pickT rfl (k.eq1 21 26 rfl) (k.eq1 28 33 rfl), rfl⟩) <| .m (fun k => k.eq1 29 34 rfl) <| .gf (fun k => k.eq1 30 35 rfl) (fun k => k.fx 2 h8) <| .g (fun k => k.eq1 30 35 rfl) (fun _ w hn k => ⟨_, v_load rfl (k.eq1 31 36 rfl) (l_one Tryd.isAgg27 ((aa.new_ hn).cell 5)), rfl⟩) <| .gf (fun k => k.eq1 30 35 rfl) (fun k => k.fx 3 ae) <| .g (fun k => k.eq1 30 35 rfl) (fun _ w hn k => ⟨_, v_load rfl (k.eq1 33 38 rfl) (l_one Tryd.isAgg27 ((ac.new_ hn).cell 5)), rfl⟩) <| .o1 (cg rfl rfl rfl (fun _ _ k => k.eq1 30 35 rfl) rfl (fun _ w hn k => ⟨#[sv Bv v.s dv, sv Bu u.s du], args2 (k.eq1 32 37 rfl) (k.eq1 34 39 rfl), fun _ => by kernel_rfl, sequal16_c _ v.s _ _ u.s _ _ (hsv.new_ (ad.transNew hn)) (hsu.new_ (ad.transNew hn))⟩) fun _ => congrArg Value.bool ar) <| .t (fun _ w hn k => ⟨_, v_pickT rfl (k.eq1 30 35 rfl) (k.eq1 35 40 rfl), rfl⟩) <| .m (fun k => k.eq1 36 41 rfl) <| .s (fun k => k.eq1 37 42 rfl) <| .s (fun k => k.eq1 37 42 rfl) <| .s (fun k => k.eq1 37 42 rfl) <| .s (fun k => k.eq1 37 42 rfl) <| .s (fun k => k.eq1 37 42 rfl) <| .t (fun _ w hn k => ⟨_, v_pickF rfl (k.eq1 37 42 rfl) rfl, rfl⟩) <| .a (fun k => k.eq1 43 48 rfl) .nil
 refine aftI aj ap ad fun ca cb bM a7 a8 bN a9 => ?_
 have br := a9.ge 44 4 rfl
 refine st_nil (ak _ _ ?_)
 refine wp_ret (ret_k a7 (v := .bool false) (res_t rfl br _) ?_)
 refine ⟨?_, a8⟩
 show Ending.returned (.bool false) = Ending.returned (.bool (sameV v u))
 first | rfl | (simp only [sameV, af, ag, ah, ai, an, ao, ar, bsm] <;> rfl) | (exfalso; omega)
 have aB := oF ao
 refine wp_g0 (.replicate 45 true) [] 49
   [ve (pv q9), ve (iv v.k), ve (pv ab), ve (iv u.k), vT, vT, ve (.pointer (some ⟨q9, 1, none⟩)), ve (nv (Nm.mk v.nk v.nn)), ve (.pointer (some ⟨ab, 1, none⟩)), ve (nv (Nm.mk u.nk u.nn)), vT, vT, vT, ve (.pointer (some ⟨q9, 3, none⟩)), ve (.pointer (some ⟨q9, 3, none⟩)), vF, ve (.pointer (some ⟨ab, 3, none⟩)), ve (.pointer (some ⟨ab, 3, none⟩)), vF, vT, vT, vT, ve (.pointer (some ⟨q9, 3, none⟩)), ve (.pointer (some ⟨q9, 4, none⟩)), ve (sv Av v.mag cv), ve (.pointer (some ⟨ab, 3, none⟩)), ve (.pointer (some ⟨ab, 4, none⟩)), ve (sv Au u.mag cu), vF, vF, vF, vU, vU, vU, vU, vU, vF, vF, vU, vU, vU, vU, vU, vF, vF] aj (.eq (.eq (.eq (.eq (.eq (.eq (.eq (.eq (.eq (.eq (.eq (.eq (.eq (.eq (.eq (.eq (.eq (.eq (.eq (.eq (.eq (.eq (.eq (.eq (.eq (.eq (.eq (.eq (.eq (.eq (.eq (.eq (.eq (.eq (.eq (.eq (.eq (.eq (.eq (.eq (.eq (.eq (.eq (.eq (.eq (.nil)))))))))))))))))))))))))))))))))))))))))))))) ?_ ?_
 exact .f (fun k => k.fx 2 h8) <| .t (fun _ w hn k => ⟨_, v_load rfl (k.eq1 0 5 rfl) (l_one Tryd.isAgg3 ((aa.new_ hn).cell 0)), rfl⟩) <| .f (fun k => k.fx 3 ae) <| .t (fun _ w hn k => ⟨_, v_load rfl (k.eq1 2 7 rfl) (l_one Tryd.isAgg3 ((ac.new_ hn).cell 0)), rfl⟩) <| .t (fun _ w hn k => ⟨_, v_bin rfl (k.eq1 1 6 rfl) (k.eq1 3 8 rfl) (fun _ => rfl) (r_eql af), rfl⟩) <| .m (fun k => k.eq1 4 9 rfl) <| .gf (fun k => k.eq1 5 10 rfl) (fun k => k.fx 2 h8) <| .g (fun k => k.eq1 5 10 rfl) (fun _ w hn k => ⟨_, v_load rfl (k.eq1 6 11 rfl) (l_part Tryd.isAgg23 Tryd.sizeOf23 (aa.new_ hn) lb), rfl⟩) <| .gf (fun k => k.eq1 5 10 rfl) (fun k => k.fx 3 ae) <| .g (fun k => k.eq1 5 10 rfl) (fun _ w hn k => ⟨_, v_load rfl (k.eq1 8 13 rfl) (l_part Tryd.isAgg23 Tryd.sizeOf23 (ac.new_ hn) lb), rfl⟩) <| .g (fun k => k.eq1 5 10 rfl) (fun _ w hn k => ⟨_, v_bin rfl (k.eq1 7 12 rfl) (k.eq1 9 14 rfl) (gNum _ _ _ _) (eqlNum _ _ _ _ (by show (decide (v.nk = u.nk) && decide (v.nn = u.nn)) = true; simp [ag, ah])), rfl⟩) <| .t (fun _ w hn k => ⟨_, v_pickT rfl (k.eq1 5 10 rfl) (k.eq1 10 15 rfl), rfl⟩) <| .m (fun k => k.eq1 11 16 rfl) <| .gf (fun k => k.eq1 12 17 rfl) (fun k => k.fx 2 h8) <| .gf (fun k => k.eq1 12 17 rfl) (fun k => k.eq1 13 18 rfl) <| .o1 (tg rfl rfl rfl (fun _ _ k => k.eq1 12 17 rfl) fun _ w hn k => ⟨_, v_load rfl (k.eq1 14 19 rfl) (l_one Tryd.isAgg4 ((aa.new_ hn).cell 3)), congrArg Value.bool ai⟩) <| .gf (fun k => k.eq1 12 17 rfl) (fun k => k.fx 3 ae) <| .gf (fun k => k.eq1 12 17 rfl) (fun k => k.eq1 16 21 rfl) <| .o1 (tg rfl rfl rfl (fun _ _ k => k.eq1 12 17 rfl) fun _ w hn k => ⟨_, v_load rfl (k.eq1 17 22 rfl) (l_one Tryd.isAgg4 ((ac.new_ hn).cell 3)), congrArg Value.bool an⟩) <| .g (fun k => k.eq1 12 17 rfl) (fun _ w hn k => ⟨_, v_bin rfl (k.eq1 15 20 rfl) (k.eq1 18 23 rfl) (fun _ => rfl) (fun w => by kernel_rfl), rfl⟩) <| .t (fun _ w hn k => ⟨_, v_pickT rfl (k.eq1 12 17 rfl) (k.eq1 19 24 rfl), rfl⟩) <| .m (fun k => k.eq1 20 25 rfl) <| .gf (fun k => k.eq1 21 26 rfl) (fun k => k.fx 2 h8) <| .gf (fun k => k.eq1 21 26 rfl) (fun k => k.eq1 22 27 rfl) <| .g (fun k => k.eq1 21 26 rfl) (fun _ w hn k => ⟨_, v_load rfl (k.eq1 23 28 rfl) (l_one Tryd.isAgg24 ((aa.new_ hn).cell 4)), rfl⟩) <| .gf (fun k => k.eq1 21 26 rfl) (fun k => k.fx 3 ae) <| .gf (fun k => k.eq1 21 26 rfl) (fun k => k.eq1 25 30 rfl) <| .g (fun k => k.eq1 21 26 rfl) (fun _ w hn k => ⟨_, v_load rfl (k.eq1 26 31 rfl) (l_one Tryd.isAgg24 ((ac.new_ hn).cell 4)), rfl⟩) <| .o1 (cg rfl rfl rfl (fun _ _ k => k.eq1 21 26 rfl) rfl (fun _ w hn k => ⟨#[sv Av v.mag cv, sv Au u.mag cu], args2 (k.eq1 24 29 rfl) (k.eq1 27 32 rfl), fun _ => by kernel_rfl, sequal32_c _ v.mag _ _ u.mag _ _ (hmv.new_ (ad.transNew hn)) (hmu.new_ (ad.transNew hn))⟩) fun _ => congrArg Value.bool ao) <| .t (fun _ w hn k => ⟨_, v_pickT rfl (k.eq1 21 26 rfl) (k.eq1 28 33 rfl), rfl⟩) <| .m (fun k => k.eq1 29 34 rfl) <| .s (fun k => k.eq1 30 35 rfl) <| .s (fun k => k.eq1 30 35 rfl) <| .s (fun k => k.eq1 30 35 rfl) <| .s (fun k => k.eq1 30 35 rfl) <| .s (fun k => k.eq1 30 35 rfl) <| .t (fun _ w hn k => ⟨_, v_pickF rfl (k.eq1 30 35 rfl) rfl, rfl⟩) <| .m (fun k => k.eq1 36 41 rfl) <| .s (fun k => k.eq1 37 42 rfl) <| .s (fun k => k.eq1 37 42 rfl) <| .s (fun k => k.eq1 37 42 rfl) <| .s (fun k => k.eq1 37 42 rfl) <| .s (fun k => k.eq1 37 42 rfl) <| .t (fun _ w hn k => ⟨_, v_pickF rfl (k.eq1 37 42 rfl) rfl, rfl⟩) <| .a (fun k => k.eq1 43 48 rfl) .nil
 refine aftI aj ap ad fun cc cd bO ba bb bP bd => ?_
 have bs := bd.ge 44 4 rfl
 refine st_nil (ak _ _ ?_)
 refine wp_ret (ret_k ba (v := .bool false) (res_t rfl bs _) ?_)
 refine ⟨?_, bb⟩
 show Ending.returned (.bool false) = Ending.returned (.bool (sameV v u))
 first | rfl | (simp only [sameV, af, ag, ah, ai, an, ao, bsm] <;> rfl) | (exfalso; omega)
 have ay := oF ah
 refine wp_g0 (.replicate 45 true) [] 49
   [ve (pv q9), ve (iv v.k), ve (pv ab), ve (iv u.k), vT, vT, ve (.pointer (some ⟨q9, 1, none⟩)), ve (nv (Nm.mk v.nk v.nn)), ve (.pointer (some ⟨ab, 1, none⟩)), ve (nv (Nm.mk u.nk u.nn)), vF, vF, vF, vU, vU, vU, vU, vU, vU, vU, vF, vF, vU, vU, vU, vU, vU, vU, vU, vF, vF, vU, vU, vU, vU, vU, vF, vF, vU, vU, vU, vU, vU, vF, vF] aj (.eq (.eq (.eq (.eq (.eq (.eq (.eq (.eq (.eq (.eq (.eq (.eq (.eq (.eq (.eq (.eq (.eq (.eq (.eq (.eq (.eq (.eq (.eq (.eq (.eq (.eq (.eq (.eq (.eq (.eq (.eq (.eq (.eq (.eq (.eq (.eq (.eq (.eq (.eq (.eq (.eq (.eq (.eq (.eq (.eq (.nil)))))))))))))))))))))))))))))))))))))))))))))) ?_ ?_
 exact .f (fun k => k.fx 2 h8) <| .t (fun _ w hn k => ⟨_, v_load rfl (k.eq1 0 5 rfl) (l_one Tryd.isAgg3 ((aa.new_ hn).cell 0)), rfl⟩) <| .f (fun k => k.fx 3 ae) <| .t (fun _ w hn k => ⟨_, v_load rfl (k.eq1 2 7 rfl) (l_one Tryd.isAgg3 ((ac.new_ hn).cell 0)), rfl⟩) <| .t (fun _ w hn k => ⟨_, v_bin rfl (k.eq1 1 6 rfl) (k.eq1 3 8 rfl) (fun _ => rfl) (r_eql af), rfl⟩) <| .m (fun k => k.eq1 4 9 rfl) <| .gf (fun k => k.eq1 5 10 rfl) (fun k => k.fx 2 h8) <| .g (fun k => k.eq1 5 10 rfl) (fun _ w hn k => ⟨_, v_load rfl (k.eq1 6 11 rfl) (l_part Tryd.isAgg23 Tryd.sizeOf23 (aa.new_ hn) lb), rfl⟩) <| .gf (fun k => k.eq1 5 10 rfl) (fun k => k.fx 3 ae) <| .g (fun k => k.eq1 5 10 rfl) (fun _ w hn k => ⟨_, v_load rfl (k.eq1 8 13 rfl) (l_part Tryd.isAgg23 Tryd.sizeOf23 (ac.new_ hn) lb), rfl⟩) <| .g (fun k => k.eq1 5 10 rfl) (fun _ w hn k => ⟨_, v_bin rfl (k.eq1 7 12 rfl) (k.eq1 9 14 rfl) (gNum _ _ _ _) (eqlNum _ _ _ _ (by show (decide (v.nk = u.nk) && decide (v.nn = u.nn)) = false; simp [ag, ah])), rfl⟩) <| .t (fun _ w hn k => ⟨_, v_pickT rfl (k.eq1 5 10 rfl) (k.eq1 10 15 rfl), rfl⟩) <| .m (fun k => k.eq1 11 16 rfl) <| .s (fun k => k.eq1 12 17 rfl) <| .s (fun k => k.eq1 12 17 rfl) <| .s (fun k => k.eq1 12 17 rfl) <| .s (fun k => k.eq1 12 17 rfl) <| .s (fun k => k.eq1 12 17 rfl) <| .s (fun k => k.eq1 12 17 rfl) <| .s (fun k => k.eq1 12 17 rfl) <| .t (fun _ w hn k => ⟨_, v_pickF rfl (k.eq1 12 17 rfl) rfl, rfl⟩) <| .m (fun k => k.eq1 20 25 rfl) <| .s (fun k => k.eq1 21 26 rfl) <| .s (fun k => k.eq1 21 26 rfl) <| .s (fun k => k.eq1 21 26 rfl) <| .s (fun k => k.eq1 21 26 rfl) <| .s (fun k => k.eq1 21 26 rfl) <| .s (fun k => k.eq1 21 26 rfl) <| .s (fun k => k.eq1 21 26 rfl) <| .t (fun _ w hn k => ⟨_, v_pickF rfl (k.eq1 21 26 rfl) rfl, rfl⟩) <| .m (fun k => k.eq1 29 34 rfl) <| .s (fun k => k.eq1 30 35 rfl) <| .s (fun k => k.eq1 30 35 rfl) <| .s (fun k => k.eq1 30 35 rfl) <| .s (fun k => k.eq1 30 35 rfl) <| .s (fun k => k.eq1 30 35 rfl) <| .t (fun _ w hn k => ⟨_, v_pickF rfl (k.eq1 30 35 rfl) rfl, rfl⟩) <| .m (fun k => k.eq1 36 41 rfl) <| .s (fun k => k.eq1 37 42 rfl) <| .s (fun k => k.eq1 37 42 rfl) <| .s (fun k => k.eq1 37 42 rfl) <| .s (fun k => k.eq1 37 42 rfl) <| .s (fun k => k.eq1 37 42 rfl) <| .t (fun _ w hn k => ⟨_, v_pickF rfl (k.eq1 37 42 rfl) rfl, rfl⟩) <| .a (fun k => k.eq1 43 48 rfl) .nil
 refine aftI aj ap ad fun ce cf bQ be aD bR bf => ?_
 have bg := bf.ge 44 4 rfl
 refine st_nil (ak _ _ ?_)
 refine wp_ret (ret_k be (v := .bool false) (res_t rfl bg _) ?_)
 refine ⟨?_, aD⟩
 show Ending.returned (.bool false) = Ending.returned (.bool (sameV v u))
 first | rfl | (simp only [sameV, af, ag, ah, bsm] <;> rfl) | (exfalso; omega)
 have ax := oF ag
 refine wp_g0 (.replicate 45 true) [] 49
   [ve (pv q9), ve (iv v.k), ve (pv ab), ve (iv u.k), vT, vT, ve (.pointer (some ⟨q9, 1, none⟩)), ve (nv (Nm.mk v.nk v.nn)), ve (.pointer (some ⟨ab, 1, none⟩)), ve (nv (Nm.mk u.nk u.nn)), vF, vF, vF, vU, vU, vU, vU, vU, vU, vU, vF, vF, vU, vU, vU, vU, vU, vU, vU, vF, vF, vU, vU, vU, vU, vU, vF, vF, vU, vU, vU, vU, vU, vF, vF] aj (.eq (.eq (.eq (.eq (.eq (.eq (.eq (.eq (.eq (.eq (.eq (.eq (.eq (.eq (.eq (.eq (.eq (.eq (.eq (.eq (.eq (.eq (.eq (.eq (.eq (.eq (.eq (.eq (.eq (.eq (.eq (.eq (.eq (.eq (.eq (.eq (.eq (.eq (.eq (.eq (.eq (.eq (.eq (.eq (.eq (.nil)))))))))))))))))))))))))))))))))))))))))))))) ?_ ?_
 exact .f (fun k => k.fx 2 h8) <| .t (fun _ w hn k => ⟨_, v_load rfl (k.eq1 0 5 rfl) (l_one Tryd.isAgg3 ((aa.new_ hn).cell 0)), rfl⟩) <| .f (fun k => k.fx 3 ae) <| .t (fun _ w hn k => ⟨_, v_load rfl (k.eq1 2 7 rfl) (l_one Tryd.isAgg3 ((ac.new_ hn).cell 0)), rfl⟩) <| .t (fun _ w hn k => ⟨_, v_bin rfl (k.eq1 1 6 rfl) (k.eq1 3 8 rfl) (fun _ => rfl) (r_eql af), rfl⟩) <| .m (fun k => k.eq1 4 9 rfl) <| .gf (fun k => k.eq1 5 10 rfl) (fun k => k.fx 2 h8) <| .g (fun k => k.eq1 5 10 rfl) (fun _ w hn k => ⟨_, v_load rfl (k.eq1 6 11 rfl) (l_part Tryd.isAgg23 Tryd.sizeOf23 (aa.new_ hn) lb), rfl⟩) <| .gf (fun k => k.eq1 5 10 rfl) (fun k => k.fx 3 ae) <| .g (fun k => k.eq1 5 10 rfl) (fun _ w hn k => ⟨_, v_load rfl (k.eq1 8 13 rfl) (l_part Tryd.isAgg23 Tryd.sizeOf23 (ac.new_ hn) lb), rfl⟩) <| .g (fun k => k.eq1 5 10 rfl) (fun _ w hn k => ⟨_, v_bin rfl (k.eq1 7 12 rfl) (k.eq1 9 14 rfl) (gNum _ _ _ _) (eqlNum _ _ _ _ (by show (decide (v.nk = u.nk) && decide (v.nn = u.nn)) = false; simp [ag])), rfl⟩) <| .t (fun _ w hn k => ⟨_, v_pickT rfl (k.eq1 5 10 rfl) (k.eq1 10 15 rfl), rfl⟩) <| .m (fun k => k.eq1 11 16 rfl) <| .s (fun k => k.eq1 12 17 rfl) <| .s (fun k => k.eq1 12 17 rfl) <| .s (fun k => k.eq1 12 17 rfl) <| .s (fun k => k.eq1 12 17 rfl) <| .s (fun k => k.eq1 12 17 rfl) <| .s (fun k => k.eq1 12 17 rfl) <| .s (fun k => k.eq1 12 17 rfl) <| .t (fun _ w hn k => ⟨_, v_pickF rfl (k.eq1 12 17 rfl) rfl, rfl⟩) <| .m (fun k => k.eq1 20 25 rfl) <| .s (fun k => k.eq1 21 26 rfl) <| .s (fun k => k.eq1 21 26 rfl) <| .s (fun k => k.eq1 21 26 rfl) <| .s (fun k => k.eq1 21 26 rfl) <| .s (fun k => k.eq1 21 26 rfl) <| .s (fun k => k.eq1 21 26 rfl) <| .s (fun k => k.eq1 21 26 rfl) <| .t (fun _ w hn k => ⟨_, v_pickF rfl (k.eq1 21 26 rfl) rfl, rfl⟩) <| .m (fun k => k.eq1 29 34 rfl) <| .s (fun k => k.eq1 30 35 rfl) <| .s (fun k => k.eq1 30 35 rfl) <| .s (fun k => k.eq1 30 35 rfl) <| .s (fun k => k.eq1 30 35 rfl) <| .s (fun k => k.eq1 30 35 rfl) <| .t (fun _ w hn k => ⟨_, v_pickF rfl (k.eq1 30 35 rfl) rfl, rfl⟩) <| .m (fun k => k.eq1 36 41 rfl) <| .s (fun k => k.eq1 37 42 rfl) <| .s (fun k => k.eq1 37 42 rfl) <| .s (fun k => k.eq1 37 42 rfl) <| .s (fun k => k.eq1 37 42 rfl) <| .s (fun k => k.eq1 37 42 rfl) <| .t (fun _ w hn k => ⟨_, v_pickF rfl (k.eq1 37 42 rfl) rfl, rfl⟩) <| .a (fun k => k.eq1 43 48 rfl) .nil
 refine aftI aj ap ad fun bS bT bt aE aF bu aG => ?_
 have bh := aG.ge 44 4 rfl
 refine st_nil (ak _ _ ?_)
 refine wp_ret (ret_k aE (v := .bool false) (res_t rfl bh _) ?_)
 refine ⟨?_, aF⟩
 show Ending.returned (.bool false) = Ending.returned (.bool (sameV v u))
 first | rfl | (simp only [sameV, af, ag, bsm] <;> rfl) | (exfalso; omega)
 have aw := oF af
 refine wp_g0 (.replicate 45 true) [] 49
   [ve (pv q9), ve (iv v.k), ve (pv ab), ve (iv u.k), vF, vF, vU, vU, vU, vU, vU, vF, vF, vU, vU, vU, vU, vU, vU, vU, vF, vF, vU, vU, vU, vU, vU, vU, vU, vF, vF, vU, vU, vU, vU, vU, vF, vF, vU, vU, vU, vU, vU, vF, vF] aj (.eq (.eq (.eq (.eq (.eq (.eq (.eq (.eq (.eq (.eq (.eq (.eq (.eq (.eq (.eq (.eq (.eq (.eq (.eq (.eq (.eq (.eq (.eq (.eq (.eq (.eq (.eq (.eq (.eq (.eq (.eq (.eq (.eq (.eq (.eq (.eq (.eq (.eq (.eq (.eq (.eq (.eq (.eq (.eq (.eq (.nil)))))))))))))))))))))))))))))))))))))))))))))) ?_ ?_
 exact .f (fun k => k.fx 2 h8) <| .t (fun _ w hn k => ⟨_, v_load rfl (k.eq1 0 5 rfl) (l_one Tryd.isAgg3 ((aa.new_ hn).cell 0)), rfl⟩) <| .f (fun k => k.fx 3 ae) <| .t (fun _ w hn k => ⟨_, v_load rfl (k.eq1 2 7 rfl) (l_one Tryd.isAgg3 ((ac.new_ hn).cell 0)), rfl⟩) <| .t (fun _ w hn k => ⟨_, v_bin rfl (k.eq1 1 6 rfl) (k.eq1 3 8 rfl) (fun _ => rfl) (r_eql af), rfl⟩) <| .m (fun k => k.eq1 4 9 rfl) <| .s (fun k => k.eq1 5 10 rfl) <| .s (fun k => k.eq1 5 10 rfl) <| .s (fun k => k.eq1 5 10 rfl) <| .s (fun k => k.eq1 5 10 rfl) <| .s (fun k => k.eq1 5 10 rfl) <| .t (fun _ w hn k => ⟨_, v_pickF rfl (k.eq1 5 10 rfl) rfl, rfl⟩) <| .m (fun k => k.eq1 11 16 rfl) <| .s (fun k => k.eq1 12 17 rfl) <| .s (fun k => k.eq1 12 17 rfl) <| .s (fun k => k.eq1 12 17 rfl) <| .s (fun k => k.eq1 12 17 rfl) <| .s (fun k => k.eq1 12 17 rfl) <| .s (fun k => k.eq1 12 17 rfl) <| .s (fun k => k.eq1 12 17 rfl) <| .t (fun _ w hn k => ⟨_, v_pickF rfl (k.eq1 12 17 rfl) rfl, rfl⟩) <| .m (fun k => k.eq1 20 25 rfl) <| .s (fun k => k.eq1 21 26 rfl) <| .s (fun k => k.eq1 21 26 rfl) <| .s (fun k => k.eq1 21 26 rfl) <| .s (fun k => k.eq1 21 26 rfl) <| .s (fun k => k.eq1 21 26 rfl) <| .s (fun k => k.eq1 21 26 rfl) <| .s (fun k => k.eq1 21 26 rfl) <| .t (fun _ w hn k => ⟨_, v_pickF rfl (k.eq1 21 26 rfl) rfl, rfl⟩) <| .m (fun k => k.eq1 29 34 rfl) <| .s (fun k => k.eq1 30 35 rfl) <| .s (fun k => k.eq1 30 35 rfl) <| .s (fun k => k.eq1 30 35 rfl) <| .s (fun k => k.eq1 30 35 rfl) <| .s (fun k => k.eq1 30 35 rfl) <| .t (fun _ w hn k => ⟨_, v_pickF rfl (k.eq1 30 35 rfl) rfl, rfl⟩) <| .m (fun k => k.eq1 36 41 rfl) <| .s (fun k => k.eq1 37 42 rfl) <| .s (fun k => k.eq1 37 42 rfl) <| .s (fun k => k.eq1 37 42 rfl) <| .s (fun k => k.eq1 37 42 rfl) <| .s (fun k => k.eq1 37 42 rfl) <| .t (fun _ w hn k => ⟨_, v_pickF rfl (k.eq1 37 42 rfl) rfl, rfl⟩) <| .a (fun k => k.eq1 43 48 rfl) .nil
 refine aftI aj ap ad fun bU bV bv aH aI bw aJ => ?_
 have bi := aJ.ge 44 4 rfl
 refine st_nil (ak _ _ ?_)
 refine wp_ret (ret_k aH (v := .bool false) (res_t rfl bi _) ?_)
 refine ⟨?_, aI⟩
 show Ending.returned (.bool false) = Ending.returned (.bool (sameV v u))
 first | rfl | (simp only [sameV, af, bsm] <;> rfl) | (exfalso; omega)
theorem none_c (v : Vl) (Av : Option Addr) (cv : Nat) (Bv : Option Addr) (dv : Nat) (w : World) (hmv : SRow w .u32 Av v.mag cv) (hsv : SRow w .u16 Bv v.s dv) : Calls Tryd.prog 28 #[vv v Av cv Bv dv] w (IsRet (.bool (decide (v.k = 0) || decide (v.k = 1))) w) := by
 refine enter_abs Tryd.func28 rfl fun a0 ac aq hp => ?_
 have ac : a0.tmps.size = 11 := ac
 have ah : New w w := Upd.refl _ _
 have hp0 : a0.eval (.tmp 0) = vv v Av cv Bv dv := hp 0 _ rfl
 refine wp_seq_k fun K1 ar => ?_
 refine wp_g [true, true] [] [] 11
   [IsNew w 29 [iv v.k, iv v.nk, iv v.nn, .bool v.neg, sv Av v.mag cv, sv Bv v.s dv, iv v.ref], vF]
   [0] (newsCons (fun v w h => IsNew.old h) newsNil) ac (.nw (.eq (.nil))) ?_ (fun i h => by cases h) ?_
 exact .o2 (step_allocN (cs := [iv v.k, iv v.nk, iv v.nn, .bool v.neg, sv Av v.mag cv, sv Bv v.s dv, iv v.ref]) (t := 29) rfl (noG rfl) (fun _ w hn k => v_box rfl (k.fx 0 hp0) (fun w => rfl)) (fun q _ hq hb => ⟨q, rfl, hq, hb⟩)) <| .t (fun _ w hn k => ⟨_, v_assign rfl rfl, rfl⟩) .nil
 refine aftI ac aq ah fun a2 w3 ad ai ae aC au => ?_
 obtain ⟨q9, h8, aj, ab⟩ : IsNew _ _ _ _ _ := au.got 0 1 rfl (by kernel_rfl)
 have ax := Nat.le_trans ah.size aj
 refine st_nil (ar _ _ (wp_seq_k fun aD af => ?_))
 rcases bc (decide (v.k = 0)) with aa | aa
 have ag := oT aa
 refine wp_g0 (.replicate 9 true) [] 11
   [ve (pv q9), ve (iv v.k), vT, vT, vU, vU, vU, vT, vT] ad (.eq (.eq (.eq (.eq (.eq (.eq (.eq (.eq (.eq (.nil)))))))))) ?_ ?_
 exact .f (fun k => k.fx 1 h8) <| .t (fun _ w hn k => ⟨_, v_load rfl (k.eq1 0 3 rfl) (l_one Tryd.isAgg3 ((ab.new_ hn).cell 0)), rfl⟩) <| .t (fun _ w hn k => ⟨_, v_bin rfl (k.eq1 1 4 rfl) rfl (fun _ => rfl) (r_eql aa), rfl⟩) <| .m (fun k => k.eq1 2 5 rfl) <| .s (fun k => k.eq1 3 6 rfl) <| .s (fun k => k.eq1 3 6 rfl) <| .s (fun k => k.eq1 3 6 rfl) <| .t (fun _ w hn k => ⟨_, v_pickT rfl (k.eq1 3 6 rfl) rfl, rfl⟩) <| .a (fun k => k.eq1 7 10 rfl) .nil
 refine aftI ad ai ae fun aE aF ay ak al az am => ?_
 have av := am.ge 8 2 rfl
 refine st_nil (af _ _ ?_)
 refine wp_ret (ret_k ak (v := .bool true) (res_t rfl av _) ?_)
 refine ⟨?_, al⟩
 show Ending.returned (.bool true) = Ending.returned (.bool (decide (v.k = 0) || decide (v.k = 1)))
 first | rfl | (simp only [aa, bsm] <;> rfl) | (exfalso; omega)
 have ag := oF aa
 refine wp_g0 (.replicate 9 true) [] 11
   [ve (pv q9), ve (iv v.k), vF, vF, ve (pv q9), ve (iv v.k), ve (.bool (decide (v.k = 1))), ve (.bool (decide (v.k = 1))), ve (.bool (decide (v.k = 1)))] ad (.eq (.eq (.eq (.eq (.eq (.eq (.eq (.eq (.eq (.nil)))))))))) ?_ ?_
 exact .f (fun k => k.fx 1 h8) <| .t (fun _ w hn k => ⟨_, v_load rfl (k.eq1 0 3 rfl) (l_one Tryd.isAgg3 ((ab.new_ hn).cell 0)), rfl⟩) <| .t (fun _ w hn k => ⟨_, v_bin rfl (k.eq1 1 4 rfl) rfl (fun _ => rfl) (r_eql aa), rfl⟩) <| .m (fun k => k.eq1 2 5 rfl) <| .gf (fun k => k.eq1 3 6 rfl) (fun k => k.fx 1 h8) <| .g (fun k => k.eq1 3 6 rfl) (fun _ w hn k => ⟨_, v_load rfl (k.eq1 4 7 rfl) (l_one Tryd.isAgg3 ((ab.new_ hn).cell 0)), rfl⟩) <| .g (fun k => k.eq1 3 6 rfl) (fun _ w hn k => ⟨_, v_bin rfl (k.eq1 5 8 rfl) rfl (fun _ => rfl) (r_eql rfl), rfl⟩) <| .t (fun _ w hn k => ⟨_, v_pickF rfl (k.eq1 3 6 rfl) (k.eq1 6 9 rfl), rfl⟩) <| .a (fun k => k.eq1 7 10 rfl) .nil
 refine aftI ad ai ae fun aG aH aA an ao aB ap => ?_
 have aw := ap.ge 8 2 rfl
 refine st_nil (af _ _ ?_)
 refine wp_ret (ret_k an (v := .bool (decide (v.k = 1))) (res_t rfl aw _) ?_)
 refine ⟨?_, ao⟩
 show Ending.returned (.bool (decide (v.k = 1))) = Ending.returned (.bool (decide (v.k = 0) || decide (v.k = 1)))
 first | rfl | (simp only [aa, bsm] <;> rfl) | (exfalso; omega)
theorem cnum_c (a : Nm) (w : World) : Calls Tryd.prog 14 #[nv a] w (IsRet (vv (Vl.mk 3 a.k a.n false [] [] 0) none 0 none 0) w) := by
 refine enter_abs Tryd.func14 rfl fun a0 aa aA hp => ?_
 have aa : a0.tmps.size = 5 := aa
 have ab : New w w := Upd.refl _ _
 have hp0 : a0.eval (.tmp 0) = nv a := hp 0 _ rfl
 refine wp_seq_k fun K1 aB => ?_
 refine wp_g [true, true] [] [] 5
   [IsNew w 23 [iv a.k, iv a.n], IsNew w 29 [iv 0, iv 0, iv 0, .bool false, sv none ([]) 0, sv none ([]) 0, iv 0]]
   [0, 1] (newsCons (fun v w h => IsNew.old h) (newsCons (fun v w h => IsNew.old h) newsNil)) aa (.nw (.nw (.nil))) ?_ (fun i h => by cases h) ?_
 exact .o2 (step_allocN (cs := [iv a.k, iv a.n]) (t := 23) rfl (noG rfl) (fun _ w hn k => v_box rfl (k.fx 0 hp0) (fun w => rfl)) (fun q _ hq hb => ⟨q, rfl, hq, hb⟩)) <| .o2 (step_allocN (cs := [iv 0, iv 0, iv 0, .bool false, sv none ([]) 0, sv none ([]) 0, iv 0]) (t := 29) rfl (noG rfl) (fun _ w hn k => rfl) (fun q _ hq hb => ⟨q, rfl, hq, hb⟩)) .nil
 refine aftI aa aA ab fun a2 w3 ag aC ak aJ ac => ?_
 obtain ⟨q9, h8, al, am⟩ : IsNew _ _ _ _ _ := ac.got 0 1 rfl (by kernel_rfl)
 obtain ⟨ah, ai, an, ao⟩ : IsNew _ _ _ _ _ := ac.got 1 2 rfl (by kernel_rfl)
 have hne16 : q9 ≠ ah := ac.ne 0 1 1 2 h8 ai
 have aF := Nat.le_trans ab.size al
 have aG := Nat.le_trans ab.size an
 refine st_nil (aB _ _ (wp_seq_k fun aK ap => ?_))
 refine wp_g0 [true, true, false] [(2, false)] 5
   [ve (nv a), ve (vv (Vl.mk 3 a.k a.n false [] [] 0) none 0 none 0), vt] ag (.eq (.eq (.tt (.nil)))) ?_ ?_
 exact .t (fun _ w hn k => ⟨_, v_load rfl (k.fx 1 h8) (l_two Tryd.isAgg23 Tryd.sizeOf23 (am.new_ hn)), rfl⟩) <| .t (fun _ w hn k => ⟨_, v_build (ps := [(0, iv 3), (1, nv a)]) rfl (parts2 rfl (k.eq1 0 3 rfl)) (by kernel_rfl), rfl⟩) <| .off .nil
 refine aftI ag aC ak fun aL aM aH aq ar au ad => ?_
 have aj := ad.fx 2 ai
 have aD := ad.ge 1 4 rfl
 have av := ao.new_ au
 obtain ⟨aE, ae, af, aw, aI⟩ := s_many (P := Tryd.prog) (t := 29) (i := 0) [iv 3, iv a.k, iv a.n, .bool false, sv none ([]) 0, sv none ([]) 0, iv 0] Tryd.sizeOf29 rfl rfl rfl av lb
 have ax : Blk aE ah 29 [iv 3, iv a.k, iv a.n, .bool false, sv none ([]) 0, sv none ([]) 0, iv 0] := af
 refine st_act rfl rfl fun aN ay => a_store' rfl aj aD ae (ay _ _ trivial ?_)
 have az := ar.trans aw (fun _ h b => by subst b; omega)
 refine st_nil (ap _ _ ?_)
 refine wp_ret (ret_k aq (v := vv (Vl.mk 3 a.k a.n false [] [] 0) none 0 none 0) (res_c rfl aj (l_agg Tryd.isAgg29 Tryd.sizeOf29 ax rfl)) ?_)
 exact ⟨rfl, az⟩
def counted_c_P (v : Vl) (Av : Option Addr) (cv : Nat) (Bv : Option Addr) (dv : Nat) (w : World) (en : Ending) (w' : World) : Prop := ∃ (Ar0 : Option Addr) (cr0 : Nat) (Ar1 : Option Addr) (cr1 : Nat), en = .returned (vv (countedV v) Ar0 cr0 Ar1 cr1) ∧ SRow w' .u32 Ar0 ((countedV v).mag) cr0 ∧ SRow w' .u16 Ar1 ((countedV v).s) cr1 ∧ New w w'
theorem counted_c (v : Vl) (Av : Option Addr) (cv : Nat) (Bv : Option Addr) (dv : Nat) (w : World) (hmv : SRow w .u32 Av v.mag cv) (hsv : SRow w .u16 Bv v.s dv) : Calls Tryd.prog 29 #[vv v Av cv Bv dv] w (counted_c_P v Av cv Bv dv w) := by
 refine enter_abs Tryd.func29 rfl fun a0 ag a7 hp => ?_
 have ag : a0.tmps.size = 11 := ag
 have ah : New w w := Upd.refl _ _
 have hp0 : a0.eval (.tmp 0) = vv v Av cv Bv dv := hp 0 _ rfl
 refine wp_seq_k fun K1 a8 => ?_
 refine wp_g [true, true] [] [] 11
   [IsNew w 29 [iv v.k, iv v.nk, iv v.nn, .bool v.neg, sv Av v.mag cv, sv Bv v.s dv, iv v.ref], IsNew w 29 [iv 0, iv 0, iv 0, .bool false, sv none ([]) 0, sv none ([]) 0, iv 0]]
   [0, 1] (newsCons (fun v w h => IsNew.old h) (newsCons (fun v w h => IsNew.old h) newsNil)) ag (.nw (.nw (.nil))) ?_ (fun i h => by cases h) ?_
 exact .o2 (step_allocN (cs := [iv v.k, iv v.nk, iv v.nn, .bool v.neg, sv Av v.mag cv, sv Bv v.s dv, iv v.ref]) (t := 29) rfl (noG rfl) (fun _ w hn k => v_box rfl (k.fx 0 hp0) (fun w => rfl)) (fun q _ hq hb => ⟨q, rfl, hq, hb⟩)) <| .o2 (step_allocN (cs := [iv 0, iv 0, iv 0, .bool false, sv none ([]) 0, sv none ([]) 0, iv 0]) (t := 29) rfl (noG rfl) (fun _ w hn k => rfl) (fun q _ hq hb => ⟨q, rfl, hq, hb⟩)) .nil
 refine aftI ag a7 ah fun a2 w3 az a9 aG bl ai => ?_
 obtain ⟨q9, h8, aH, aj⟩ : IsNew _ _ _ _ _ := ai.got 0 1 rfl (by kernel_rfl)
 obtain ⟨ak, aA, aI, aJ⟩ : IsNew _ _ _ _ _ := ai.got 1 2 rfl (by kernel_rfl)
 have hne16 : q9 ≠ ak := ai.ne 0 1 1 2 h8 aA
 have bf := Nat.le_trans ah.size aH
 have bg := Nat.le_trans ah.size aI
 refine st_nil (a8 _ _ (wp_seq_k fun bm aK => ?_))
 refine wp_seq_k fun bn aL => ?_
 refine wp_g0 [true, true, true] [] 11
   [ve (pv q9), ve (iv v.k), ve (.bool (decide (v.k = 2)))] az (.eq (.eq (.eq (.nil)))) ?_ ?_
 exact .f (fun k => k.fx 1 h8) <| .t (fun _ w hn k => ⟨_, v_load rfl (k.eq1 0 3 rfl) (l_one Tryd.isAgg3 ((aj.new_ hn).cell 0)), rfl⟩) <| .t (fun _ w hn k => ⟨_, v_bin rfl (k.eq1 1 4 rfl) rfl (fun _ => rfl) (r_eql rfl), rfl⟩) .nil
 refine aftI az a9 aG fun bo bp ab al am an ae => ?_
 have aB := ae.fx 1 h8
 have aC := ae.fx 2 aA
 have aD := ae.ge 2 5 rfl
 have ao := aj.new_ an
 have ap := aJ.new_ an
 refine st_nil (aL _ _ ?_)
 rcases bc (decide (v.k = 2)) with aa | aa
 have au := oT aa
 have aM := hB aD aa
 refine wp_cond_true aM ?_
 refine wp_seq_k fun bq aN => ?_
 refine wp_g0 [true, true, true, true, false] [(4, false)] 11
   [ve (.pointer (some ⟨q9, 6, none⟩)), ve (iv v.ref), ve (nv (Nm.mk 0 v.ref)), ve (vv (Vl.mk 3 0 v.ref false [] [] 0) none 0 none 0), vt] ab (.eq (.eq (.eq (.eq (.tt (.nil)))))) ?_ ?_
 exact .f (fun k => k.fx 1 aB) <| .t (fun _ w hn k => ⟨_, v_load rfl (k.eq1 0 6 rfl) (l_one Tryd.isAgg3 ((ao.new_ hn).cell 6)), rfl⟩) <| .t (fun _ w hn k => ⟨_, v_build (ps := [(1, iv v.ref)]) rfl (parts1 (k.eq1 1 7 rfl)) (by kernel_rfl), rfl⟩) <| .o1 (ck rfl rfl rfl (fun _ w hn k => ⟨#[nv (Nm.mk 0 v.ref)], args1 (k.eq1 2 8 rfl), fun _ => by kernel_rfl, cnum_c (Nm.mk 0 v.ref) _ ⟩) fun _ => rfl) <| .off .nil
 refine aftI ab al am fun br bs bh aO aP aQ aq => ?_
 have aE := aq.fx 2 aC
 have ba := aq.ge 3 9 rfl
 have aR := ap.new_ aQ
 obtain ⟨bb, av, aw, aS, bi⟩ := s_many (P := Tryd.prog) (t := 29) (i := 0) [iv 3, iv 0, iv v.ref, .bool false, sv none ([]) 0, sv none ([]) 0, iv 0] Tryd.sizeOf29 rfl rfl rfl aR lb
 have aT : Blk bb ak 29 [iv 3, iv 0, iv v.ref, .bool false, sv none ([]) 0, sv none ([]) 0, iv 0] := aw
 refine st_act rfl rfl fun bt aU => a_store' rfl aE ba av (aU _ _ trivial ?_)
 have aV := aP.trans aS (fun _ h b => by subst b; omega)
 refine st_nil (aN _ _ ?_)
 refine wp_ret (ret_k aO (v := vv (Vl.mk 3 0 v.ref false [] [] 0) none 0 none 0) (res_c rfl aE (l_agg Tryd.isAgg29 Tryd.sizeOf29 aT rfl)) ?_)
 have ac : (countedV v).mag = [] := by first | rfl | (simp only [countedV, aa, bsm] <;> rfl) | (exfalso; omega)
 have ad : (countedV v).s = [] := by first | rfl | (simp only [countedV, aa, bsm] <;> rfl) | (exfalso; omega)
 exact ⟨none, 0, none, 0, (by show Ending.returned (vv (Vl.mk 3 0 v.ref false [] [] 0) none 0 none 0) = Ending.returned (vv (countedV v) none 0 none 0); (first | rfl | (simp only [countedV, aa, ac, ad, bsm] <;> rfl) | (exfalso; omega))), (by rw [ac]; exact (SRow.nil _ _)), (by rw [ad]; exact (SRow.nil _ _)), aV⟩
 have au := oF aa
 have aW := hB aD aa
 refine wp_cond_false aW ?_
 refine wp_skip ?_
 refine aK _ _ ?_
 refine wp_seq_k fun bu aX => ?_
 refine wp_g0 [true, false] [(1, false)] 11
   [ve (vv v Av cv Bv dv), vt] ab (.eq (.tt (.nil))) ?_ ?_
 exact .t (fun _ w hn k => ⟨_, v_load rfl (k.fx 1 aB) (l_agg Tryd.isAgg29 Tryd.sizeOf29 (ao.new_ hn) rfl), rfl⟩) <| .off .nil
 refine aftI ab al am fun bv bw bj aY aZ a1 ar => ?_
 have aF := ar.fx 2 aC
 have bd := ar.ge 0 10 rfl
 have a3 := ap.new_ a1
 obtain ⟨be, ax, ay, a4, bk⟩ := s_many (P := Tryd.prog) (t := 29) (i := 0) [iv v.k, iv v.nk, iv v.nn, .bool v.neg, sv Av v.mag cv, sv Bv v.s dv, iv v.ref] Tryd.sizeOf29 rfl rfl rfl a3 lb
 have a5 : Blk be ak 29 [iv v.k, iv v.nk, iv v.nn, .bool v.neg, sv Av v.mag cv, sv Bv v.s dv, iv v.ref] := ay
 refine st_act rfl rfl fun bx a6 => a_store' rfl aF bd ax (a6 _ _ trivial ?_)
 have af := aZ.trans a4 (fun _ h b => by subst b; omega)
 refine st_nil (aX _ _ ?_)
 refine wp_ret (ret_k aY (v := vv v Av cv Bv dv) (res_c rfl aF (l_agg Tryd.isAgg29 Tryd.sizeOf29 a5 rfl)) ?_)
 have ac : (countedV v).mag = v.mag := by first | rfl | (simp only [countedV, aa, bsm] <;> rfl) | (exfalso; omega)
 have ad : (countedV v).s = v.s := by first | rfl | (simp only [countedV, aa, bsm] <;> rfl) | (exfalso; omega)
 exact ⟨Av, cv, Bv, dv, (by show Ending.returned (vv v Av cv Bv dv) = Ending.returned (vv (countedV v) Av cv Bv dv); (first | rfl | (simp only [countedV, aa, ac, ad, bsm] <;> rfl) | (exfalso; omega))), (by rw [ac]; exact (hmv.new_ af)), (by rw [ad]; exact (hsv.new_ af)), af⟩
def truth_c_P (t : Bool) (w : World) (en : Ending) (w' : World) : Prop := ∃ (Ar0 : Option Addr) (cr0 : Nat) (Ar1 : Option Addr) (cr1 : Nat), en = .returned (vv (truthV t) Ar0 cr0 Ar1 cr1) ∧ SRow w' .u32 Ar0 ((truthV t).mag) cr0 ∧ SRow w' .u16 Ar1 ((truthV t).s) cr1 ∧ New w w'
theorem truth_c (t : Bool) (w : World) : Calls Tryd.prog 25 #[.bool t] w (truth_c_P t w) := by
 refine enter_abs Tryd.func25 rfl fun a0 ae aZ hp => ?_
 have ae : a0.tmps.size = 6 := ae
 have ap : New w w := Upd.refl _ _
 have hp0 : a0.eval (.tmp 0) = .bool t := hp 0 _ rfl
 refine wp_seq_k fun K1 a1 => ?_
 refine wp_g [true] [] [] 6
   [IsNew w 29 [iv 0, iv 0, iv 0, .bool false, sv none ([]) 0, sv none ([]) 0, iv 0]]
   [0] (newsCons (fun v w h => IsNew.old h) newsNil) ae (.nw (.nil)) ?_ (fun i h => by cases h) ?_
 exact .o2 (step_allocN (cs := [iv 0, iv 0, iv 0, .bool false, sv none ([]) 0, sv none ([]) 0, iv 0]) (t := 29) rfl (noG rfl) (fun _ w hn k => rfl) (fun q _ hq hb => ⟨q, rfl, hq, hb⟩)) .nil
 refine aftI ae aZ ap fun a2 w3 aq a3 az be ar => ?_
 have h8 := ar.fx 0 hp0
 obtain ⟨au, h9, aA, aB⟩ : IsNew _ _ _ _ _ := ar.got 0 2 rfl (by kernel_rfl)
 have a8 := Nat.le_trans ap.size aA
 refine st_nil (a1 _ _ (wp_seq_k fun bf aC => ?_))
 refine wp_seq_k fun bg aD => ?_
 refine wp_g0 [true] [] 6
   [ve (.bool t)] aq (.eq (.nil)) ?_ ?_
 exact .m (fun k => k.fx 0 h8) .nil
 refine aftI aq a3 az fun bh bi ab af ag aE ah => ?_
 have av := ah.fx 2 h9
 have aw := ah.ge 0 3 rfl
 have ai := aB.new_ aE
 refine st_nil (aD _ _ ?_)
 rcases bc (t) with aa | aa
 have aF := hB aw aa
 refine wp_cond_true aF ?_
 refine wp_seq_k fun bj aG => ?_
 refine wp_g0 [true, false] [(1, false)] 6
   [ve (vv (Vl.mk 2 0 0 false [] [] 1) none 0 none 0), vt] ab (.eq (.tt (.nil))) ?_ ?_
 exact .t (fun _ w hn k => ⟨_, v_build (ps := [(0, iv 2), (4, iv 1)]) rfl (parts2 rfl rfl) (by kernel_rfl), rfl⟩) <| .off .nil
 refine aftI ab af ag fun bk bl a9 aH aI aJ aj => ?_
 have ax := aj.fx 2 av
 have a4 := aj.ge 0 4 rfl
 have aK := ai.new_ aJ
 obtain ⟨a5, al, am, aL, ba⟩ := s_many (P := Tryd.prog) (t := 29) (i := 0) [iv 2, iv 0, iv 0, .bool false, sv none ([]) 0, sv none ([]) 0, iv 1] Tryd.sizeOf29 rfl rfl rfl aK lb
 have aM : Blk a5 au 29 [iv 2, iv 0, iv 0, .bool false, sv none ([]) 0, sv none ([]) 0, iv 1] := am
 refine st_act rfl rfl fun bm aN => a_store' rfl ax a4 al (aN _ _ trivial ?_)
 have aO := aI.trans aL (fun _ h b => by subst b; omega)
 refine st_nil (aG _ _ ?_)
 refine wp_ret (ret_k aH (v := vv (Vl.mk 2 0 0 false [] [] 1) none 0 none 0) (res_c rfl ax (l_agg Tryd.isAgg29 Tryd.sizeOf29 aM rfl)) ?_)
 have ac : (truthV t).mag = [] := by first | rfl | (simp only [truthV, aa, bsm] <;> rfl) | (exfalso; omega)
 have ad : (truthV t).s = [] := by first | rfl | (simp only [truthV, aa, bsm] <;> rfl) | (exfalso; omega)
 exact ⟨none, 0, none, 0, (by show Ending.returned (vv (Vl.mk 2 0 0 false [] [] 1) none 0 none 0) = Ending.returned (vv (truthV t) none 0 none 0); (first | rfl | (simp only [truthV, aa, ac, ad, bsm] <;> rfl) | (exfalso; omega))), (by rw [ac]; exact (SRow.nil _ _)), (by rw [ad]; exact (SRow.nil _ _)), aO⟩
 have aP := hB aw aa
 refine wp_cond_false aP ?_
 refine wp_skip ?_
 refine aC _ _ ?_
 refine wp_seq_k fun bn aQ => ?_
 refine wp_g0 [true, false] [(1, false)] 6
   [ve (vv (Vl.mk 2 0 0 false [] [] 0) none 0 none 0), vt] ab (.eq (.tt (.nil))) ?_ ?_
 exact .t (fun _ w hn k => ⟨_, v_build (ps := [(0, iv 2)]) rfl (parts1 rfl) (by kernel_rfl), rfl⟩) <| .off .nil
 refine aftI ab af ag fun bo bp bb aR aS aT ak => ?_
 have ay := ak.fx 2 av
 have a6 := ak.ge 0 5 rfl
 have aU := ai.new_ aT
 obtain ⟨a7, an, ao, aV, bd⟩ := s_many (P := Tryd.prog) (t := 29) (i := 0) [iv 2, iv 0, iv 0, .bool false, sv none ([]) 0, sv none ([]) 0, iv 0] Tryd.sizeOf29 rfl rfl rfl aU lb
 have aW : Blk a7 au 29 [iv 2, iv 0, iv 0, .bool false, sv none ([]) 0, sv none ([]) 0, iv 0] := ao
 refine st_act rfl rfl fun bq aX => a_store' rfl ay a6 an (aX _ _ trivial ?_)
 have aY := aS.trans aV (fun _ h b => by subst b; omega)
 refine st_nil (aQ _ _ ?_)
 refine wp_ret (ret_k aR (v := vv (Vl.mk 2 0 0 false [] [] 0) none 0 none 0) (res_c rfl ay (l_agg Tryd.isAgg29 Tryd.sizeOf29 aW rfl)) ?_)
 have ac : (truthV t).mag = [] := by first | rfl | (simp only [truthV, aa, bsm] <;> rfl) | (exfalso; omega)
 have ad : (truthV t).s = [] := by first | rfl | (simp only [truthV, aa, bsm] <;> rfl) | (exfalso; omega)
 exact ⟨none, 0, none, 0, (by show Ending.returned (vv (Vl.mk 2 0 0 false [] [] 0) none 0 none 0) = Ending.returned (vv (truthV t) none 0 none 0); (first | rfl | (simp only [truthV, aa, ac, ad, bsm] <;> rfl) | (exfalso; omega))), (by rw [ac]; exact (SRow.nil _ _)), (by rw [ad]; exact (SRow.nil _ _)), aY⟩
theorem alike_c (a : Bool) (Aa : Option Addr) (ma : List Nat) (ca : Nat) (x : Nm) (w : World) (hra : SRow w .u32 Aa ma ca) (ha : Limbs ma) (hs : ma.length ≤ 1000000) (hlo : -9223372036854775808 ≤ x.n) (hhi : x.n ≤ 9223372036854775807) : Calls Tryd.prog 30 #[.agg #[.bool a, sv Aa ma ca], nv x] w (IsRet (.bool (alikeB a ma x)) w) := by
 refine enter_abs Tryd.func30 rfl fun a0 ao aP hp => ?_
 have ao : a0.tmps.size = 26 := ao
 have ap : New w w := Upd.refl _ _
 have hp0 : a0.eval (.tmp 0) = .agg #[.bool a, sv Aa ma ca] := hp 0 _ rfl
 have hp1 : a0.eval (.tmp 1) = nv x := hp 1 _ rfl
 have hnl : (canon x.n.natAbs).length ≤ 8 := (canon_len8 _).2 (by omega)
 have hgn := good_canon (z := x.n) (by omega)
 refine wp_seq_k fun K1 aQ => ?_
 refine wp_g [true, true, true] [] [] 26
   [IsNew w 26 [.bool a, sv Aa ma ca], IsNew w 23 [iv x.k, iv x.n], vF]
   [0, 1] (newsCons (fun v w h => IsNew.old h) (newsCons (fun v w h => IsNew.old h) newsNil)) ao (.nw (.nw (.eq (.nil)))) ?_ (fun i h => by cases h) ?_
 exact .o2 (step_allocN (cs := [.bool a, sv Aa ma ca]) (t := 26) rfl (noG rfl) (fun _ w hn k => v_box rfl (k.fx 0 hp0) (fun w => rfl)) (fun q _ hq hb => ⟨q, rfl, hq, hb⟩)) <| .o2 (step_allocN (cs := [iv x.k, iv x.n]) (t := 23) rfl (noG rfl) (fun _ w hn k => v_box rfl (k.fx 1 hp1) (fun w => rfl)) (fun q _ hq hb => ⟨q, rfl, hq, hb⟩)) <| .t (fun _ w hn k => ⟨_, v_assign rfl rfl, rfl⟩) .nil
 refine aftI ao aP ap fun a2 w3 af an ag bg aw => ?_
 obtain ⟨q9, h8, ax, aj⟩ : IsNew _ _ _ _ _ := aw.got 0 2 rfl (by kernel_rfl)
 obtain ⟨ad, ae, ay, ab⟩ : IsNew _ _ _ _ _ := aw.got 1 3 rfl (by kernel_rfl)
 have a3 := Nat.le_trans ap.size ax
 have a4 := Nat.le_trans ap.size ay
 refine st_nil (aQ _ _ (wp_seq_k fun bh ak => ?_))
 rcases bc (decide (x.k = 1)) with aa | aa
 have aq := oT aa
 rcases bc (decide ((ma.length : Int) = 0)) with ac | ac
 have ar := oT ac
 refine wp_g0 (.replicate 22 true) [] 26
   [ve (pv ad), ve (iv x.k), vT, vT, ve (.pointer (some ⟨q9, 1, none⟩)), ve (sv Aa ma ca), ve (iv (ma.length : Int)), vT, vT, vT, vU, vU, vU, vU, vU, vU, vU, vU, vU, vU, vT, vT] af (.eq (.eq (.eq (.eq (.eq (.eq (.eq (.eq (.eq (.eq (.eq (.eq (.eq (.eq (.eq (.eq (.eq (.eq (.eq (.eq (.eq (.eq (.nil))))))))))))))))))))))) ?_ ?_
 exact .f (fun k => k.fx 3 ae) <| .t (fun _ w hn k => ⟨_, v_load rfl (k.eq1 0 5 rfl) (l_one Tryd.isAgg3 ((ab.new_ hn).cell 0)), rfl⟩) <| .t (fun _ w hn k => ⟨_, v_bin rfl (k.eq1 1 6 rfl) rfl (fun _ => rfl) (r_eql aa), rfl⟩) <| .m (fun k => k.eq1 2 7 rfl) <| .gf (fun k => k.eq1 3 8 rfl) (fun k => k.fx 2 h8) <| .g (fun k => k.eq1 3 8 rfl) (fun _ w hn k => ⟨_, v_load rfl (k.eq1 4 9 rfl) (l_one Tryd.isAgg24 ((aj.new_ hn).cell 1)), rfl⟩) <| .g (fun k => k.eq1 3 8 rfl) (fun _ w hn k => ⟨_, v_lenR rfl elW (k.eq1 5 10 rfl), rfl⟩) <| .g (fun k => k.eq1 3 8 rfl) (fun _ w hn k => ⟨_, v_bin rfl (k.eq1 6 11 rfl) rfl (fun _ => rfl) (r_eql ac), rfl⟩) <| .t (fun _ w hn k => ⟨_, v_pickT rfl (k.eq1 3 8 rfl) (k.eq1 7 12 rfl), rfl⟩) <| .m (fun k => k.eq1 8 13 rfl) <| .s (fun k => k.eq1 9 14 rfl) <| .s (fun k => k.eq1 9 14 rfl) <| .s (fun k => k.eq1 9 14 rfl) <| .s (fun k => k.eq1 9 14 rfl) <| .o1 (su rfl rfl rfl (fun _ _ _ k => k.eq1 13 18 rfl) (fun _ => rfl)) <| .o1 (su rfl rfl rfl (fun _ _ _ k => k.eq1 13 18 rfl) (fun _ => rfl)) <| .o1 (su rfl rfl rfl (fun _ _ _ k => k.eq1 13 18 rfl) (fun _ => rfl)) <| .o1 (su rfl rfl rfl (fun _ _ _ k => k.eq1 13 18 rfl) (fun _ => rfl)) <| .o1 (su rfl rfl rfl (fun _ _ _ k => k.eq1 13 18 rfl) (fun _ => rfl)) <| .s (fun k => k.eq1 9 14 rfl) <| .t (fun _ w hn k => ⟨_, v_pickT rfl (k.eq1 9 14 rfl) rfl, rfl⟩) <| .a (fun k => k.eq1 20 25 rfl) .nil
 refine aftI af an ag fun bi bj a5 az aA a6 aB => ?_
 have aR := aB.ge 21 4 rfl
 refine st_nil (ak _ _ ?_)
 refine wp_ret (ret_k az (v := .bool true) (res_t rfl aR _) ?_)
 refine ⟨?_, aA⟩
 show Ending.returned (.bool true) = Ending.returned (.bool (alikeB a ma x))
 first | rfl | (simp only [alikeB, aa, ac, good_canon (z := x.n) (by omega), bsm] <;> rfl) | (exfalso; omega)
 have ar := oF ac
 rcases bc (decide (x.k = 0)) with ah | ah
 have au := oT ah
 refine wp_g0 (.replicate 22 true) [] 26
   [ve (pv ad), ve (iv x.k), vT, vT, ve (.pointer (some ⟨q9, 1, none⟩)), ve (sv Aa ma ca), ve (iv (ma.length : Int)), vF, vF, vF, ve (pv ad), ve (iv x.k), vT, vT, ve (.agg #[.bool a, sv Aa ma ca]), ve (.pointer (some ⟨ad, 1, none⟩)), ve (iv x.n), (fun (v_ : Value) (W : World) => ∃ (A3 : Option Addr) (c4 : Nat), v_ = .agg #[.bool (decide (x.n < 0)), sv A3 (canon (x.n).natAbs) c4] ∧ SRow W .u32 A3 (canon (x.n).natAbs) c4), ve (.bool (decide (goodI a ma = goodI (decide (x.n < 0)) (canon (x.n).natAbs)))), ve (.bool (decide (goodI a ma = goodI (decide (x.n < 0)) (canon (x.n).natAbs)))), ve (.bool (decide (goodI a ma = goodI (decide (x.n < 0)) (canon (x.n).natAbs)))), ve (.bool (decide (goodI a ma = goodI (decide (x.n < 0)) (canon (x.n).natAbs))))] af (.eq (.eq (.eq (.eq (.eq (.eq (.eq (.eq (.eq (.eq (.eq (.eq (.eq (.eq (.eq (.eq (.eq (.cons (fun _ _ _ n ⟨_, _, e, h⟩ => ⟨_, _, e, h.new_ n⟩) (.eq (.eq (.eq (.eq (.nil))))))))))))))))))))))) ?_ ?_
 refine .f (fun k => k.fx 3 ae) <| .t (fun _ w hn k => ⟨_, v_load rfl (k.eq1 0 5 rfl) (l_one Tryd.isAgg3 ((ab.new_ hn).cell 0)), rfl⟩) <| .t (fun _ w hn k => ⟨_, v_bin rfl (k.eq1 1 6 rfl) rfl (fun _ => rfl) (r_eql aa), rfl⟩) <| .m (fun k => k.eq1 2 7 rfl) <| .gf (fun k => k.eq1 3 8 rfl) (fun k => k.fx 2 h8) <| .g (fun k => k.eq1 3 8 rfl) (fun _ w hn k => ⟨_, v_load rfl (k.eq1 4 9 rfl) (l_one Tryd.isAgg24 ((aj.new_ hn).cell 1)), rfl⟩) <| .g (fun k => k.eq1 3 8 rfl) (fun _ w hn k => ⟨_, v_lenR rfl elW (k.eq1 5 10 rfl), rfl⟩) <| .g (fun k => k.eq1 3 8 rfl) (fun _ w hn k => ⟨_, v_bin rfl (k.eq1 6 11 rfl) rfl (fun _ => rfl) (r_eql ac), rfl⟩) <| .t (fun _ w hn k => ⟨_, v_pickT rfl (k.eq1 3 8 rfl) (k.eq1 7 12 rfl), rfl⟩) <| .m (fun k => k.eq1 8 13 rfl) <| .gf (fun k => k.eq1 9 14 rfl) (fun k => k.fx 3 ae) <| .g (fun k => k.eq1 9 14 rfl) (fun _ w hn k => ⟨_, v_load rfl (k.eq1 10 15 rfl) (l_one Tryd.isAgg3 ((ab.new_ hn).cell 0)), rfl⟩) <| .g (fun k => k.eq1 9 14 rfl) (fun _ w hn k => ⟨_, v_bin rfl (k.eq1 11 16 rfl) rfl (fun _ => rfl) (r_eql ah), rfl⟩) <| .gm (fun k => k.eq1 9 14 rfl) (fun k => k.eq1 12 17 rfl) <| .g (fun k => k.eq1 13 18 rfl) (fun _ w hn k => ⟨_, v_load rfl (k.fx 2 h8) (l_two Tryd.isAgg26 Tryd.sizeOf26 (aj.new_ hn)), rfl⟩) <| .gf (fun k => k.eq1 13 18 rfl) (fun k => k.fx 3 ae) <| .g (fun k => k.eq1 13 18 rfl) (fun _ w hn k => ⟨_, v_load rfl (k.eq1 15 20 rfl) (l_one Tryd.isAgg3 ((ab.new_ hn).cell 1)), rfl⟩) ?_
 refine .o1 (tkC rfl (onG rfl rfl fun _ _ k => k.eq1 13 18 rfl) rfl fun _ w hn k => (by
       refine ⟨#[iv x.n], _, args1 (k.eq1 16 21 rfl), fun w => by kernel_rfl, bOf_c x.n _ (by omega) (by omega), ?_⟩
       rintro e w' ⟨A1, c2, rfl, hmo0, hm⟩
       exact ⟨_, rfl, hm, ⟨A1, c2, rfl, hmo0⟩⟩)) ?_
 refine .o1 (tkC rfl (onG rfl rfl fun _ _ k => k.eq1 13 18 rfl) rfl fun _ w hn k => (by
       obtain ⟨A5, c6, e7, aS⟩ : (fun (v_ : Value) (W : World) => ∃ (A3 : Option Addr) (c4 : Nat), v_ = .agg #[.bool (decide (x.n < 0)), sv A3 (canon (x.n).natAbs) c4] ∧ SRow W .u32 A3 (canon (x.n).natAbs) c4) _ _ := k.dep 17 22 (by kernel_rfl) (by kernel_rfl)
       refine ⟨#[.agg #[.bool a, sv Aa ma ca], .agg #[.bool (decide (x.n < 0)), sv A5 (canon (x.n).natAbs) c6]], _, args2 (k.eq1 14 19 rfl) e7, fun w => by kernel_rfl, bSame_c a _ ma _ (decide (x.n < 0)) _ (canon (x.n).natAbs) _ _ (hra.new_ (ag.transNew hn)) aS ha (limbs_canon _) (by first | omega | (simp only [List.length_nil, List.length_take, List.length_drop]; omega) | (simp only [List.length_cons, List.length_nil]; omega)) (by first | omega | (simp only [List.length_nil, List.length_take, List.length_drop]; omega) | (simp only [List.length_cons, List.length_nil]; omega)), ?_⟩
       rintro e w' ⟨rfl, hm⟩
       exact ⟨_, rfl, hm, rfl⟩)) ?_
 exact .g (fun k => k.eq1 9 14 rfl) (fun _ w hn k => ⟨_, v_pickT rfl (k.eq1 13 18 rfl) (k.eq1 18 23 rfl), rfl⟩) <| .t (fun _ w hn k => ⟨_, v_pickF rfl (k.eq1 9 14 rfl) (k.eq1 19 24 rfl), rfl⟩) <| .a (fun k => k.eq1 20 25 rfl) .nil
 refine aftI af an ag fun bk bl a7 aC aD a8 aE => ?_
 have aT := aE.ge 21 4 rfl
 refine st_nil (ak _ _ ?_)
 refine wp_ret (ret_k aC (v := .bool (decide (goodI a ma = goodI (decide (x.n < 0)) (canon (x.n).natAbs)))) (res_t rfl aT _) ?_)
 refine ⟨?_, aD⟩
 show Ending.returned (.bool (decide (goodI a ma = goodI (decide (x.n < 0)) (canon (x.n).natAbs)))) = Ending.returned (.bool (alikeB a ma x))
 first | rfl | (simp only [alikeB, aa, ac, ah, good_canon (z := x.n) (by omega), bsm] <;> rfl) | (exfalso; omega)
 have au := oF ah
 refine wp_g0 (.replicate 22 true) [] 26
   [ve (pv ad), ve (iv x.k), vT, vT, ve (.pointer (some ⟨q9, 1, none⟩)), ve (sv Aa ma ca), ve (iv (ma.length : Int)), vF, vF, vF, ve (pv ad), ve (iv x.k), vF, vF, vU, vU, vU, vU, vU, vF, vF, vF] af (.eq (.eq (.eq (.eq (.eq (.eq (.eq (.eq (.eq (.eq (.eq (.eq (.eq (.eq (.eq (.eq (.eq (.eq (.eq (.eq (.eq (.eq (.nil))))))))))))))))))))))) ?_ ?_
 exact .f (fun k => k.fx 3 ae) <| .t (fun _ w hn k => ⟨_, v_load rfl (k.eq1 0 5 rfl) (l_one Tryd.isAgg3 ((ab.new_ hn).cell 0)), rfl⟩) <| .t (fun _ w hn k => ⟨_, v_bin rfl (k.eq1 1 6 rfl) rfl (fun _ => rfl) (r_eql aa), rfl⟩) <| .m (fun k => k.eq1 2 7 rfl) <| .gf (fun k => k.eq1 3 8 rfl) (fun k => k.fx 2 h8) <| .g (fun k => k.eq1 3 8 rfl) (fun _ w hn k => ⟨_, v_load rfl (k.eq1 4 9 rfl) (l_one Tryd.isAgg24 ((aj.new_ hn).cell 1)), rfl⟩) <| .g (fun k => k.eq1 3 8 rfl) (fun _ w hn k => ⟨_, v_lenR rfl elW (k.eq1 5 10 rfl), rfl⟩) <| .g (fun k => k.eq1 3 8 rfl) (fun _ w hn k => ⟨_, v_bin rfl (k.eq1 6 11 rfl) rfl (fun _ => rfl) (r_eql ac), rfl⟩) <| .t (fun _ w hn k => ⟨_, v_pickT rfl (k.eq1 3 8 rfl) (k.eq1 7 12 rfl), rfl⟩) <| .m (fun k => k.eq1 8 13 rfl) <| .gf (fun k => k.eq1 9 14 rfl) (fun k => k.fx 3 ae) <| .g (fun k => k.eq1 9 14 rfl) (fun _ w hn k => ⟨_, v_load rfl (k.eq1 10 15 rfl) (l_one Tryd.isAgg3 ((ab.new_ hn).cell 0)), rfl⟩) <| .g (fun k => k.eq1 9 14 rfl) (fun _ w hn k => ⟨_, v_bin rfl (k.eq1 11 16 rfl) rfl (fun _ => rfl) (r_eql ah), rfl⟩) <| .gm (fun k => k.eq1 9 14 rfl) (fun k => k.eq1 12 17 rfl) <| .s (fun k => k.eq1 13 18 rfl) <| .s (fun k => k.eq1 13 18 rfl) <| .s (fun k => k.eq1 13 18 rfl) <| .s (fun k => k.eq1 13 18 rfl) <| .s (fun k => k.eq1 13 18 rfl) <| .g (fun k => k.eq1 9 14 rfl) (fun _ w hn k => ⟨_, v_pickF rfl (k.eq1 13 18 rfl) rfl, rfl⟩) <| .t (fun _ w hn k => ⟨_, v_pickF rfl (k.eq1 9 14 rfl) (k.eq1 19 24 rfl), rfl⟩) <| .a (fun k => k.eq1 20 25 rfl) .nil
 refine aftI af an ag fun bm bn a9 aF aG ba aH => ?_
 have aU := aH.ge 21 4 rfl
 refine st_nil (ak _ _ ?_)
 refine wp_ret (ret_k aF (v := .bool false) (res_t rfl aU _) ?_)
 refine ⟨?_, aG⟩
 show Ending.returned (.bool false) = Ending.returned (.bool (alikeB a ma x))
 first | rfl | (simp only [alikeB, aa, ac, ah, good_canon (z := x.n) (by omega), bsm] <;> rfl) | (exfalso; omega)
 have aq := oF aa
 rcases bc (decide (x.k = 0)) with ai | ai
 have av := oT ai
 refine wp_g0 (.replicate 22 true) [] 26
   [ve (pv ad), ve (iv x.k), vF, vF, vU, vU, vU, vU, vF, vF, ve (pv ad), ve (iv x.k), vT, vT, ve (.agg #[.bool a, sv Aa ma ca]), ve (.pointer (some ⟨ad, 1, none⟩)), ve (iv x.n), (fun (v_ : Value) (W : World) => ∃ (al : Option Addr) (am : Nat), v_ = .agg #[.bool (decide (x.n < 0)), sv al (canon (x.n).natAbs) am] ∧ SRow W .u32 al (canon (x.n).natAbs) am), ve (.bool (decide (goodI a ma = goodI (decide (x.n < 0)) (canon (x.n).natAbs)))), ve (.bool (decide (goodI a ma = goodI (decide (x.n < 0)) (canon (x.n).natAbs)))), ve (.bool (decide (goodI a ma = goodI (decide (x.n < 0)) (canon (x.n).natAbs)))), ve (.bool (decide (goodI a ma = goodI (decide (x.n < 0)) (canon (x.n).natAbs))))] af (.eq (.eq (.eq (.eq (.eq (.eq (.eq (.eq (.eq (.eq (.eq (.eq (.eq (.eq (.eq (.eq (.eq (.cons (fun _ _ _ n ⟨_, _, e, h⟩ => ⟨_, _, e, h.new_ n⟩) (.eq (.eq (.eq (.eq (.nil))))))))))))))))))))))) ?_ ?_
 refine .f (fun k => k.fx 3 ae) <| .t (fun _ w hn k => ⟨_, v_load rfl (k.eq1 0 5 rfl) (l_one Tryd.isAgg3 ((ab.new_ hn).cell 0)), rfl⟩) <| .t (fun _ w hn k => ⟨_, v_bin rfl (k.eq1 1 6 rfl) rfl (fun _ => rfl) (r_eql aa), rfl⟩) <| .m (fun k => k.eq1 2 7 rfl) <| .s (fun k => k.eq1 3 8 rfl) <| .s (fun k => k.eq1 3 8 rfl) <| .s (fun k => k.eq1 3 8 rfl) <| .s (fun k => k.eq1 3 8 rfl) <| .t (fun _ w hn k => ⟨_, v_pickF rfl (k.eq1 3 8 rfl) rfl, rfl⟩) <| .m (fun k => k.eq1 8 13 rfl) <| .gf (fun k => k.eq1 9 14 rfl) (fun k => k.fx 3 ae) <| .g (fun k => k.eq1 9 14 rfl) (fun _ w hn k => ⟨_, v_load rfl (k.eq1 10 15 rfl) (l_one Tryd.isAgg3 ((ab.new_ hn).cell 0)), rfl⟩) <| .g (fun k => k.eq1 9 14 rfl) (fun _ w hn k => ⟨_, v_bin rfl (k.eq1 11 16 rfl) rfl (fun _ => rfl) (r_eql ai), rfl⟩) <| .gm (fun k => k.eq1 9 14 rfl) (fun k => k.eq1 12 17 rfl) <| .g (fun k => k.eq1 13 18 rfl) (fun _ w hn k => ⟨_, v_load rfl (k.fx 2 h8) (l_two Tryd.isAgg26 Tryd.sizeOf26 (aj.new_ hn)), rfl⟩) <| .gf (fun k => k.eq1 13 18 rfl) (fun k => k.fx 3 ae) <| .g (fun k => k.eq1 13 18 rfl) (fun _ w hn k => ⟨_, v_load rfl (k.eq1 15 20 rfl) (l_one Tryd.isAgg3 ((ab.new_ hn).cell 1)), rfl⟩) ?_
 refine .o1 (tkC rfl (onG rfl rfl fun _ _ k => k.eq1 13 18 rfl) rfl fun _ w hn k => (by
       refine ⟨#[iv x.n], _, args1 (k.eq1 16 21 rfl), fun w => by kernel_rfl, bOf_c x.n _ (by omega) (by omega), ?_⟩
       rintro e w' ⟨A9, aV, rfl, hmo0, hm⟩
       exact ⟨_, rfl, hm, ⟨A9, aV, rfl, hmo0⟩⟩)) ?_
 refine .o1 (tkC rfl (onG rfl rfl fun _ _ k => k.eq1 13 18 rfl) rfl fun _ w hn k => (by
       obtain ⟨aW, aX, aY, aI⟩ : (fun (v_ : Value) (W : World) => ∃ (al : Option Addr) (am : Nat), v_ = .agg #[.bool (decide (x.n < 0)), sv al (canon (x.n).natAbs) am] ∧ SRow W .u32 al (canon (x.n).natAbs) am) _ _ := k.dep 17 22 (by kernel_rfl) (by kernel_rfl)
       refine ⟨#[.agg #[.bool a, sv Aa ma ca], .agg #[.bool (decide (x.n < 0)), sv aW (canon (x.n).natAbs) aX]], _, args2 (k.eq1 14 19 rfl) aY, fun w => by kernel_rfl, bSame_c a _ ma _ (decide (x.n < 0)) _ (canon (x.n).natAbs) _ _ (hra.new_ (ag.transNew hn)) aI ha (limbs_canon _) (by first | omega | (simp only [List.length_nil, List.length_take, List.length_drop]; omega) | (simp only [List.length_cons, List.length_nil]; omega)) (by first | omega | (simp only [List.length_nil, List.length_take, List.length_drop]; omega) | (simp only [List.length_cons, List.length_nil]; omega)), ?_⟩
       rintro e w' ⟨rfl, hm⟩
       exact ⟨_, rfl, hm, rfl⟩)) ?_
 exact .g (fun k => k.eq1 9 14 rfl) (fun _ w hn k => ⟨_, v_pickT rfl (k.eq1 13 18 rfl) (k.eq1 18 23 rfl), rfl⟩) <| .t (fun _ w hn k => ⟨_, v_pickF rfl (k.eq1 9 14 rfl) (k.eq1 19 24 rfl), rfl⟩) <| .a (fun k => k.eq1 20 25 rfl) .nil
 refine aftI af an ag fun bo bp bb aJ aK bd aL => ?_
 have aZ := aL.ge 21 4 rfl
 refine st_nil (ak _ _ ?_)
 refine wp_ret (ret_k aJ (v := .bool (decide (goodI a ma = goodI (decide (x.n < 0)) (canon (x.n).natAbs)))) (res_t rfl aZ _) ?_)
 refine ⟨?_, aK⟩
 show Ending.returned (.bool (decide (goodI a ma = goodI (decide (x.n < 0)) (canon (x.n).natAbs)))) = Ending.returned (.bool (alikeB a ma x))
 first | rfl | (simp only [alikeB, aa, ai, good_canon (z := x.n) (by omega), bsm] <;> rfl) | (exfalso; omega)
 have av := oF ai
 refine wp_g0 (.replicate 22 true) [] 26
   [ve (pv ad), ve (iv x.k), vF, vF, vU, vU, vU, vU, vF, vF, ve (pv ad), ve (iv x.k), vF, vF, vU, vU, vU, vU, vU, vF, vF, vF] af (.eq (.eq (.eq (.eq (.eq (.eq (.eq (.eq (.eq (.eq (.eq (.eq (.eq (.eq (.eq (.eq (.eq (.eq (.eq (.eq (.eq (.eq (.nil))))))))))))))))))))))) ?_ ?_
 exact .f (fun k => k.fx 3 ae) <| .t (fun _ w hn k => ⟨_, v_load rfl (k.eq1 0 5 rfl) (l_one Tryd.isAgg3 ((ab.new_ hn).cell 0)), rfl⟩) <| .t (fun _ w hn k => ⟨_, v_bin rfl (k.eq1 1 6 rfl) rfl (fun _ => rfl) (r_eql aa), rfl⟩) <| .m (fun k => k.eq1 2 7 rfl) <| .s (fun k => k.eq1 3 8 rfl) <| .s (fun k => k.eq1 3 8 rfl) <| .s (fun k => k.eq1 3 8 rfl) <| .s (fun k => k.eq1 3 8 rfl) <| .t (fun _ w hn k => ⟨_, v_pickF rfl (k.eq1 3 8 rfl) rfl, rfl⟩) <| .m (fun k => k.eq1 8 13 rfl) <| .gf (fun k => k.eq1 9 14 rfl) (fun k => k.fx 3 ae) <| .g (fun k => k.eq1 9 14 rfl) (fun _ w hn k => ⟨_, v_load rfl (k.eq1 10 15 rfl) (l_one Tryd.isAgg3 ((ab.new_ hn).cell 0)), rfl⟩) <| .g (fun k => k.eq1 9 14 rfl) (fun _ w hn k => ⟨_, v_bin rfl (k.eq1 11 16 rfl) rfl (fun _ => rfl) (r_eql ai), rfl⟩) <| .gm (fun k => k.eq1 9 14 rfl) (fun k => k.eq1 12 17 rfl) <| .s (fun k => k.eq1 13 18 rfl) <| .s (fun k => k.eq1 13 18 rfl) <| .s (fun k => k.eq1 13 18 rfl) <| .s (fun k => k.eq1 13 18 rfl) <| .s (fun k => k.eq1 13 18 rfl) <| .g (fun k => k.eq1 9 14 rfl) (fun _ w hn k => ⟨_, v_pickF rfl (k.eq1 13 18 rfl) rfl, rfl⟩) <| .t (fun _ w hn k => ⟨_, v_pickF rfl (k.eq1 9 14 rfl) (k.eq1 19 24 rfl), rfl⟩) <| .a (fun k => k.eq1 20 25 rfl) .nil
 refine aftI af an ag fun bq br be aM aN bf aO => ?_
 have a1 := aO.ge 21 4 rfl
 refine st_nil (ak _ _ ?_)
 refine wp_ret (ret_k aM (v := .bool false) (res_t rfl a1 _) ?_)
 refine ⟨?_, aN⟩
 show Ending.returned (.bool false) = Ending.returned (.bool (alikeB a ma x))
 first | rfl | (simp only [alikeB, aa, ai, good_canon (z := x.n) (by omega), bsm] <;> rfl) | (exfalso; omega)
theorem blank_c (x : Nat) (w : World) (hx : x < 65536) : Calls Tryd.prog 58 #[.int .u16 (x : Int)] w (IsRet (.bool (blankN x)) w) := by
 refine enter_abs Tryd.func58 rfl fun a0 af az hp => ?_
 have af : a0.tmps.size = 17 := af
 have aA : New w w := Upd.refl _ _
 have hp0 : a0.eval (.tmp 0) = .int .u16 (x : Int) := hp 0 _ rfl
 refine wp_seq_k fun K1 aB => ?_
 refine wp_g0 [true] [] 17
   [vF] af (.eq (.nil)) ?_ ?_
 exact .t (fun _ w hn k => ⟨_, v_assign rfl rfl, rfl⟩) .nil
 refine aftI af az aA fun a2 w3 ad ag ah aP aC => ?_
 have h8 := aC.fx 0 hp0
 refine st_nil (aB _ _ (wp_seq_k fun aQ ae => ?_))
 rcases bc (decide ((x : Int) = 32)) with aa | aa
 have ai := oT aa
 refine wp_g0 (.replicate 15 true) [] 17
   [ve (.int .u16 (x : Int)), vT, vT, vU, vU, vT, vT, vU, vU, vT, vT, vU, vU, vT, vT] ad (.eq (.eq (.eq (.eq (.eq (.eq (.eq (.eq (.eq (.eq (.eq (.eq (.eq (.eq (.eq (.nil)))))))))))))))) ?_ ?_
 exact .m (fun k => k.fx 0 h8) <| .t (fun _ w hn k => ⟨_, v_bin rfl (k.eq1 0 3 rfl) rfl (fun _ => rfl) (r_eql aa), rfl⟩) <| .m (fun k => k.eq1 1 4 rfl) <| .s (fun k => k.eq1 2 5 rfl) <| .s (fun k => k.eq1 2 5 rfl) <| .t (fun _ w hn k => ⟨_, v_pickT rfl (k.eq1 2 5 rfl) rfl, rfl⟩) <| .m (fun k => k.eq1 5 8 rfl) <| .s (fun k => k.eq1 6 9 rfl) <| .s (fun k => k.eq1 6 9 rfl) <| .t (fun _ w hn k => ⟨_, v_pickT rfl (k.eq1 6 9 rfl) rfl, rfl⟩) <| .m (fun k => k.eq1 9 12 rfl) <| .s (fun k => k.eq1 10 13 rfl) <| .s (fun k => k.eq1 10 13 rfl) <| .t (fun _ w hn k => ⟨_, v_pickT rfl (k.eq1 10 13 rfl) rfl, rfl⟩) <| .a (fun k => k.eq1 13 16 rfl) .nil
 refine aftI ad ag ah fun aR aS aH al am aI an => ?_
 have aD := an.ge 14 2 rfl
 refine st_nil (ae _ _ ?_)
 refine wp_ret (ret_k al (v := .bool true) (res_t rfl aD _) ?_)
 refine ⟨?_, am⟩
 show Ending.returned (.bool true) = Ending.returned (.bool (blankN x))
 first | rfl | (simp only [blankN, aa, bsm] <;> rfl) | (exfalso; omega)
 have ai := oF aa
 rcases bc (decide ((x : Int) = 9)) with ab | ab
 have aj := oT ab
 refine wp_g0 (.replicate 15 true) [] 17
   [ve (.int .u16 (x : Int)), vF, vF, ve (.int .u16 (x : Int)), vT, vT, vT, vU, vU, vT, vT, vU, vU, vT, vT] ad (.eq (.eq (.eq (.eq (.eq (.eq (.eq (.eq (.eq (.eq (.eq (.eq (.eq (.eq (.eq (.nil)))))))))))))))) ?_ ?_
 exact .m (fun k => k.fx 0 h8) <| .t (fun _ w hn k => ⟨_, v_bin rfl (k.eq1 0 3 rfl) rfl (fun _ => rfl) (r_eql aa), rfl⟩) <| .m (fun k => k.eq1 1 4 rfl) <| .gm (fun k => k.eq1 2 5 rfl) (fun k => k.fx 0 h8) <| .g (fun k => k.eq1 2 5 rfl) (fun _ w hn k => ⟨_, v_bin rfl (k.eq1 3 6 rfl) rfl (fun _ => rfl) (r_eql ab), rfl⟩) <| .t (fun _ w hn k => ⟨_, v_pickF rfl (k.eq1 2 5 rfl) (k.eq1 4 7 rfl), rfl⟩) <| .m (fun k => k.eq1 5 8 rfl) <| .s (fun k => k.eq1 6 9 rfl) <| .s (fun k => k.eq1 6 9 rfl) <| .t (fun _ w hn k => ⟨_, v_pickT rfl (k.eq1 6 9 rfl) rfl, rfl⟩) <| .m (fun k => k.eq1 9 12 rfl) <| .s (fun k => k.eq1 10 13 rfl) <| .s (fun k => k.eq1 10 13 rfl) <| .t (fun _ w hn k => ⟨_, v_pickT rfl (k.eq1 10 13 rfl) rfl, rfl⟩) <| .a (fun k => k.eq1 13 16 rfl) .nil
 refine aftI ad ag ah fun aT aU aJ ao ap aK aq => ?_
 have aE := aq.ge 14 2 rfl
 refine st_nil (ae _ _ ?_)
 refine wp_ret (ret_k ao (v := .bool true) (res_t rfl aE _) ?_)
 refine ⟨?_, ap⟩
 show Ending.returned (.bool true) = Ending.returned (.bool (blankN x))
 first | rfl | (simp only [blankN, aa, ab, bsm] <;> rfl) | (exfalso; omega)
 have aj := oF ab
 rcases bc (decide ((x : Int) = 10)) with ac | ac
 have ak := oT ac
 refine wp_g0 (.replicate 15 true) [] 17
   [ve (.int .u16 (x : Int)), vF, vF, ve (.int .u16 (x : Int)), vF, vF, vF, ve (.int .u16 (x : Int)), vT, vT, vT, vU, vU, vT, vT] ad (.eq (.eq (.eq (.eq (.eq (.eq (.eq (.eq (.eq (.eq (.eq (.eq (.eq (.eq (.eq (.nil)))))))))))))))) ?_ ?_
 exact .m (fun k => k.fx 0 h8) <| .t (fun _ w hn k => ⟨_, v_bin rfl (k.eq1 0 3 rfl) rfl (fun _ => rfl) (r_eql aa), rfl⟩) <| .m (fun k => k.eq1 1 4 rfl) <| .gm (fun k => k.eq1 2 5 rfl) (fun k => k.fx 0 h8) <| .g (fun k => k.eq1 2 5 rfl) (fun _ w hn k => ⟨_, v_bin rfl (k.eq1 3 6 rfl) rfl (fun _ => rfl) (r_eql ab), rfl⟩) <| .t (fun _ w hn k => ⟨_, v_pickF rfl (k.eq1 2 5 rfl) (k.eq1 4 7 rfl), rfl⟩) <| .m (fun k => k.eq1 5 8 rfl) <| .gm (fun k => k.eq1 6 9 rfl) (fun k => k.fx 0 h8) <| .g (fun k => k.eq1 6 9 rfl) (fun _ w hn k => ⟨_, v_bin rfl (k.eq1 7 10 rfl) rfl (fun _ => rfl) (r_eql ac), rfl⟩) <| .t (fun _ w hn k => ⟨_, v_pickF rfl (k.eq1 6 9 rfl) (k.eq1 8 11 rfl), rfl⟩) <| .m (fun k => k.eq1 9 12 rfl) <| .s (fun k => k.eq1 10 13 rfl) <| .s (fun k => k.eq1 10 13 rfl) <| .t (fun _ w hn k => ⟨_, v_pickT rfl (k.eq1 10 13 rfl) rfl, rfl⟩) <| .a (fun k => k.eq1 13 16 rfl) .nil
 refine aftI ad ag ah fun aV aW aL ar au aM av => ?_
 have aF := av.ge 14 2 rfl
 refine st_nil (ae _ _ ?_)
 refine wp_ret (ret_k ar (v := .bool true) (res_t rfl aF _) ?_)
 refine ⟨?_, au⟩
 show Ending.returned (.bool true) = Ending.returned (.bool (blankN x))
 first | rfl | (simp only [blankN, aa, ab, ac, bsm] <;> rfl) | (exfalso; omega)
 have ak := oF ac
 refine wp_g0 (.replicate 15 true) [] 17
   [ve (.int .u16 (x : Int)), vF, vF, ve (.int .u16 (x : Int)), vF, vF, vF, ve (.int .u16 (x : Int)), vF, vF, vF, ve (.int .u16 (x : Int)), ve (.bool (decide ((x : Int) = 13))), ve (.bool (decide ((x : Int) = 13))), ve (.bool (decide ((x : Int) = 13)))] ad (.eq (.eq (.eq (.eq (.eq (.eq (.eq (.eq (.eq (.eq (.eq (.eq (.eq (.eq (.eq (.nil)))))))))))))))) ?_ ?_
 exact .m (fun k => k.fx 0 h8) <| .t (fun _ w hn k => ⟨_, v_bin rfl (k.eq1 0 3 rfl) rfl (fun _ => rfl) (r_eql aa), rfl⟩) <| .m (fun k => k.eq1 1 4 rfl) <| .gm (fun k => k.eq1 2 5 rfl) (fun k => k.fx 0 h8) <| .g (fun k => k.eq1 2 5 rfl) (fun _ w hn k => ⟨_, v_bin rfl (k.eq1 3 6 rfl) rfl (fun _ => rfl) (r_eql ab), rfl⟩) <| .t (fun _ w hn k => ⟨_, v_pickF rfl (k.eq1 2 5 rfl) (k.eq1 4 7 rfl), rfl⟩) <| .m (fun k => k.eq1 5 8 rfl) <| .gm (fun k => k.eq1 6 9 rfl) (fun k => k.fx 0 h8) <| .g (fun k => k.eq1 6 9 rfl) (fun _ w hn k => ⟨_, v_bin rfl (k.eq1 7 10 rfl) rfl (fun _ => rfl) (r_eql ac), rfl⟩) <| .t (fun _ w hn k => ⟨_, v_pickF rfl (k.eq1 6 9 rfl) (k.eq1 8 11 rfl), rfl⟩) <| .m (fun k => k.eq1 9 12 rfl) <| .gm (fun k => k.eq1 10 13 rfl) (fun k => k.fx 0 h8) <| .g (fun k => k.eq1 10 13 rfl) (fun _ w hn k => ⟨_, v_bin rfl (k.eq1 11 14 rfl) rfl (fun _ => rfl) (r_eql rfl), rfl⟩) <| .t (fun _ w hn k => ⟨_, v_pickF rfl (k.eq1 10 13 rfl) (k.eq1 12 15 rfl), rfl⟩) <| .a (fun k => k.eq1 13 16 rfl) .nil
 refine aftI ad ag ah fun aX aY aN aw ax aO ay => ?_
 have aG := ay.ge 14 2 rfl
 refine st_nil (ae _ _ ?_)
 refine wp_ret (ret_k aw (v := .bool (decide ((x : Int) = 13))) (res_t rfl aG _) ?_)
 refine ⟨?_, ax⟩
 show Ending.returned (.bool (decide ((x : Int) = 13))) = Ending.returned (.bool (blankN x))
 first | rfl | (simp only [blankN, aa, ab, ac, bsm] <;> rfl) | (exfalso; omega)
theorem digit_c (x : Nat) (w : World) (hx : x < 65536) : Calls Tryd.prog 63 #[.int .u16 (x : Int)] w (IsRet (.bool (dgtN x)) w) := by
 refine enter_abs Tryd.func63 rfl fun a0 ab an hp => ?_
 have ab : a0.tmps.size = 9 := ab
 have ao : New w w := Upd.refl _ _
 have hp0 : a0.eval (.tmp 0) = .int .u16 (x : Int) := hp 0 _ rfl
 refine wp_seq_k fun K1 ap => ?_
 refine wp_g0 [true] [] 9
   [vF] ab (.eq (.nil)) ?_ ?_
 exact .t (fun _ w hn k => ⟨_, v_assign rfl rfl, rfl⟩) .nil
 refine aftI ab an ao fun a2 w3 ac af ag az aq => ?_
 have h8 := aq.fx 0 hp0
 refine st_nil (ap _ _ (wp_seq_k fun aA ad => ?_))
 rcases bc (decide ((x : Int) < 48)) with aa | aa
 have ae := oT aa
 refine wp_g0 [true, true, true, true, true, true, true] [] 9
   [ve (.int .u16 (x : Int)), vF, vF, vU, vU, vF, vF] ac (.eq (.eq (.eq (.eq (.eq (.eq (.eq (.nil)))))))) ?_ ?_
 exact .m (fun k => k.fx 0 h8) <| .t (fun _ w hn k => ⟨_, v_bin rfl (k.eq1 0 3 rfl) rfl (fun _ => rfl) (r_geqK aa), rfl⟩) <| .m (fun k => k.eq1 1 4 rfl) <| .s (fun k => k.eq1 2 5 rfl) <| .s (fun k => k.eq1 2 5 rfl) <| .t (fun _ w hn k => ⟨_, v_pickF rfl (k.eq1 2 5 rfl) rfl, rfl⟩) <| .a (fun k => k.eq1 5 8 rfl) .nil
 refine aftI ac af ag fun aB aC av ah ai aw aj => ?_
 have ar := aj.ge 6 2 rfl
 refine st_nil (ad _ _ ?_)
 refine wp_ret (ret_k ah (v := .bool false) (res_t rfl ar _) ?_)
 refine ⟨?_, ai⟩
 show Ending.returned (.bool false) = Ending.returned (.bool (dgtN x))
 first | rfl | (simp only [dgtN, aa, bsm] <;> rfl) | (exfalso; omega)
 have ae := oF aa
 refine wp_g0 [true, true, true, true, true, true, true] [] 9
   [ve (.int .u16 (x : Int)), vT, vT, ve (.int .u16 (x : Int)), ve (.bool (decide ((x : Int) ≤ 57))), ve (.bool (decide ((x : Int) ≤ 57))), ve (.bool (decide ((x : Int) ≤ 57)))] ac (.eq (.eq (.eq (.eq (.eq (.eq (.eq (.nil)))))))) ?_ ?_
 exact .m (fun k => k.fx 0 h8) <| .t (fun _ w hn k => ⟨_, v_bin rfl (k.eq1 0 3 rfl) rfl (fun _ => rfl) (r_geqK aa), rfl⟩) <| .m (fun k => k.eq1 1 4 rfl) <| .gm (fun k => k.eq1 2 5 rfl) (fun k => k.fx 0 h8) <| .g (fun k => k.eq1 2 5 rfl) (fun _ w hn k => ⟨_, v_bin rfl (k.eq1 3 6 rfl) rfl (fun _ => rfl) (r_leqK rfl), rfl⟩) <| .t (fun _ w hn k => ⟨_, v_pickT rfl (k.eq1 2 5 rfl) (k.eq1 4 7 rfl), rfl⟩) <| .a (fun k => k.eq1 5 8 rfl) .nil
 refine aftI ac af ag fun aD aE ax ak al ay am => ?_
 have au := am.ge 6 2 rfl
 refine st_nil (ad _ _ ?_)
 refine wp_ret (ret_k ak (v := .bool (decide ((x : Int) ≤ 57))) (res_t rfl au _) ?_)
 refine ⟨?_, al⟩
 show Ending.returned (.bool (decide ((x : Int) ≤ 57))) = Ending.returned (.bool (dgtN x))
 first | rfl | (simp only [dgtN, aa, bsm] <;> rfl) | (exfalso; omega)
def ascii_c_P (s : ByteArray) (w : World) (en : Ending) (w' : World) : Prop := ∃ (Ar0 : Option Addr) (cr0 : Nat), en = .returned (sv Ar0 (asc s) cr0) ∧ SOwn w' w.heap.size 64 .u16 Ar0 (asc s) cr0 ∧ New w w'
theorem ascii_c (s : ByteArray) (w : World) (hs : s.size ≤ 1000000) : Calls Tryd.prog 35 #[.string s] w (ascii_c_P s w) := by
 refine enter_abs Tryd.func35 rfl fun a0 ao bX hp => ?_
 have ao : a0.tmps.size = 19 := ao
 have bY : New w w := Upd.refl _ _
 have hp0 : a0.eval (.tmp 0) = .string s := hp 0 _ rfl
 refine wp_seq_k fun K1 bZ => ?_
 refine wp_g0 [true] [] 19
   [ve (sv none ([]) 0)] ao (.eq (.nil)) ?_ ?_
 exact .t (fun _ w hn k => ⟨_, v_assign rfl rfl, rfl⟩) .nil
 refine aftI ao bX bY fun a2 w3 a6 b0 b1 cw b2 => ?_
 have h8 := b2.fx 0 hp0
 refine st_nil (bZ _ _ (wp_seq_k fun cx bh => ?_))
 refine wp_g0 [true] [] 19
   [ve (sv none ([]) 0)] a6 (.eq (.nil)) ?_ ?_
 exact .t (fun _ w hn k => ⟨_, v_assign rfl rfl, rfl⟩) .nil
 refine aftI a6 b0 b1 fun cy cz au bi bj cn av => ?_
 have a7 := av.fx 0 h8
 have b3 := av.ge 0 3 rfl
 refine st_nil (bh _ _ (wp_seq_k fun cA bk => ?_))
 refine wp_seq_k fun cB bl => ?_
 refine wp_g0 [true, true, true] [] 19
   [ve (.string s), ve (iv (s.size : Int)), ve (iv 0)] au (.eq (.eq (.eq (.nil)))) ?_ ?_
 exact .m (fun k => k.fx 0 a7) <| .t (fun _ w hn k => ⟨_, v_lenS rfl (k.eq1 0 5 rfl) (by kernel_rfl), rfl⟩) <| .t (fun _ w hn k => ⟨_, v_move rfl rfl, rfl⟩) .nil
 refine aftI au bi bj fun cC cD bm bn bo co al => ?_
 have b4 := al.fx 0 a7
 have b5 := al.fx 3 b3
 have b6 := al.ge 1 6 rfl
 have b7 := al.ge 2 7 rfl
 refine st_nil (bl _ _ ?_)
 refine wp_block ?_
 refine wp_loopX (fun (mm : Nat) (aa : Act) (ww : World) => ∃ (i : Nat) (A1 : Option Addr) (c1 : Nat), mm = s.size - i ∧ aa.tmps.size = 19 ∧ aa.defers = [] ∧ New w ww ∧ aa.eval (.tmp 3) = sv A1 (ascT s i) c1 ∧ aa.eval (.tmp 7) = iv (i : Int) ∧ aa.eval (.tmp 0) = .string s ∧ aa.eval (.tmp 6) = iv (s.size : Int) ∧ SOwn ww w.heap.size 64 .u16 A1 (ascT s i) c1 ∧ (i ≤ s.size)) (fun mm => mm) ⟨_, ⟨0, none, 0, rfl, bm, bn, bo, (b5.trans (by rw [asc0])), b7, b4, b6, (by rw [asc0]; exact SOwn.nil _ _ _ _), (Nat.zero_le _)⟩⟩ ?_
 rintro mm cE cF ⟨i, A1, c1, hmm, aw, bp, bq, b8, a8, b9, a9, br, hi⟩
 refine wp_seq_k fun cG bs => ?_
 refine wp_g0 [true] [] 19
   [ve (.bool (decide ((i : Int) < (s.size : Int))))] aw (.eq (.nil)) ?_ ?_
 exact .t (fun _ w hn k => ⟨_, v_bin rfl (k.fx 7 a8) (k.fx 6 a9) (fun _ => rfl) (r_lssK rfl), rfl⟩) .nil
 refine aftI aw bp bq fun cH cI am ax ay bt ai => ?_
 have ba := ai.fx 3 b8
 have bb := ai.fx 7 a8
 have ca := ai.fx 0 b9
 have cb := ai.fx 6 a9
 have bd := ai.ge 0 8 rfl
 have az := br.new_ bt
 refine st_nil (bs _ _ (wp_seq_k fun cJ bu => ?_))
 rcases bc (decide ((i : Int) < (s.size : Int))) with aj | aj
 have aN := oT aj
 have bv := hB bd aj
 refine wp_cond_true bv ?_
 refine wp_skip ?_
 refine bu _ _ ?_
 refine wp_seq_k fun cK bw => ?_
 refine wp_block ?_
 refine wp_seq_k fun cL bx => ?_
 refine wp_g0 [true, true] [] 19
   [ve (iv (i : Int)), ve (iv (i : Int))] am (.eq (.eq (.nil))) ?_ ?_
 exact .m (fun k => k.fx 7 bb) <| .a (fun k => k.eq1 0 9 rfl) .nil
 refine aftI am ax ay fun cM be aA bz aB bA ak => ?_
 have bf := ak.fx 3 ba
 have cc := ak.fx 7 bb
 have bg := ak.fx 0 ca
 have cd := ak.fx 6 cb
 have ce := ak.ge 1 4 rfl
 have bB := az.new_ bA
 refine st_nil (bx _ _ ?_)
 have hal := @ascT_len s i
 have hbl := bAt_lt s i
 refine wp_g0 [true, true, true, true, true, true, false, false] [(6, false), (7, true)] 19
   [ve (sv A1 (ascT s i) c1), ve (.string s), ve (iv (i : Int)), ve (.int .u8 ((bAt s i : Nat) : Int)), ve (.int .u16 ((bAt s i : Nat) : Int)),
    (OP be.heap.size 64 .u16 ([(bAt s i)])), vt, vt] aA (.eq (.eq (.eq (.eq (.eq (.cons (fun _ _ _ n ⟨_, _, e, h⟩ => ⟨_, _, e, h.new_ n⟩) (.tt (.tt (.nil))))))))) ?_ ?_
 refine .m (fun k => k.fx 3 bf) <| .m (fun k => k.fx 0 bg) <| .m (fun k => k.fx 4 ce) <| .t (fun _ w hn k => ⟨_, v_idxN rfl (k.eq1 1 11 rfl) (k.eq1 2 12 rfl) (by kernel_rfl) (by omega), rfl⟩) <| .t (fun _ w hn k => ⟨_, v_conv rfl (k.eq1 3 13 rfl) (n_conv (by kernel_rfl) (by kernel_rfl) (by kernel_rfl) (IntWalk.u16_in _ (by omega))), rfl⟩) ?_
 refine .o1 (tkA rfl (noG rfl) fun _ w hn k => (by
       exact x_bslice (k := .u16) (ps := [(0, .int .u16 ((bAt s i : Nat) : Int))]) [(bAt s i)] rfl (parts1 (k.eq1 4 14 rfl)) elU rfl (by omega) (by omega) (by first | kernel_rfl | (simp only [enc, List.map_cons, List.map_nil, Int.toNat_natCast, Int.toNat_of_nonneg (by omega : (0 : Int) ≤ _)]; kernel_rfl)) fun A1 c2 W' hmo => ⟨A1, c2, rfl, (hmo.more hn.size)⟩)) ?_
 exact .off <| .off .nil
 refine aftI aA bz aB fun aC cN aD bC aE bD ag => ?_
 have cO := ag.fx 3 bf
 have cf := ag.fx 7 cc
 have ch := ag.fx 0 bg
 have ci := ag.fx 6 cd
 have cj := ag.ge 0 10 rfl
 obtain ⟨cl, bE, aF, bF⟩ : (OP be.heap.size 64 .u16 ([(bAt s i)])) _ _ := ag.got 5 15 rfl (by kernel_rfl)
 have aF : aC.eval (.tmp 15) = sv cl ([(bAt s i)]) bE := aF
 have aG := bB.new_ bD
 have bG := bF.more aB.size
 have hw101 := aE.size
 refine st_act rfl rfl fun cP aO => a_append (k := .u16) (b := w.heap.size) rfl elU cj aG aF bG.row (by first | omega | (simp only [List.length_nil, List.length_cons, List.length_append, List.length_take, List.length_drop, List.length_replicate, List.length_set]; omega)) (by first | omega | (simp only [List.length_nil, List.length_cons, List.length_append, List.length_take, List.length_drop, List.length_replicate, List.length_set]; omega)) hw101 fun ah ae cQ aH hg97 => aO _ _ trivial ?_
 have bH := aE.ownGrown aG hg97
 obtain ⟨an, ad⟩ : ∃ a', a' = aC.put (some 16) (sv ah ((ascT s i) ++ [(bAt s i)]) ae) := ⟨_, rfl⟩
 have ap := pz ad aD
 have aP := pd ad bC
 have bI := pn ad cf (by decide)
 have bJ := pn ad ch (by decide)
 have bK := pn ad ci (by decide)
 have aI : an.eval (.tmp 16) = sv ah ((ascT s i) ++ [(bAt s i)]) ae := by rw [ad]; exact put_same _ _ _ (by rw [aD]; decide)
 show stepsTo _ _ _ _ _ (aC.put (some 16) (sv ah ((ascT s i) ++ [(bAt s i)]) ae)) _
 rw [← ad]
 refine st_take rfl rfl (y_assign (v := sv ah ((ascT s i) ++ [(bAt s i)]) ae) rfl aI) rfl ?_
 obtain ⟨bL, ab⟩ : ∃ a', a' = an.put (some 3) (sv ah ((ascT s i) ++ [(bAt s i)]) ae) := ⟨_, rfl⟩
 have aq := pz ab ap
 have aQ := pd ab aP
 have aJ := pn ab bI (by decide)
 have bM := pn ab bJ (by decide)
 have bN := pn ab bK (by decide)
 have cp := pn ab aI (by decide)
 have aK : bL.eval (.tmp 3) = sv ah ((ascT s i) ++ [(bAt s i)]) ae := by rw [ab]; exact put_same _ _ _ (by rw [ap]; decide)
 show stepsTo _ _ _ _ _ (an.put (some 3) (sv ah ((ascT s i) ++ [(bAt s i)]) ae)) _
 rw [← ab]
 refine st_nil ?_
 have he119 : ((ascT s i) ++ [(bAt s i)]) = (ascT s (i + 1)) := asc_up (by omega)
 rw [he119] at aK
 rw [he119] at aH
 refine bw _ _ ?_
 refine wp_g0 [true, false] [(1, true)] 19
   [ve (iv ((i + 1 : Nat) : Int)), vt] aq (.eq (.tt (.nil))) ?_ ?_
 exact .t (fun _ w hn k => ⟨_, v_bin rfl (k.fx 7 aJ) rfl (fun _ => rfl) (n_add (by omega) (IntWalk.i64_in _ (by omega))), rfl⟩) <| .off .nil
 refine aftI aq aQ bH fun aL cq ar aR aS aT af => ?_
 have cr := af.fx 7 aJ
 have bO := af.fx 0 bM
 have bP := af.fx 6 bN
 have bQ := af.fx 3 aK
 have aM := af.ge 0 17 rfl
 have aU := aH.new_ aT
 refine st_take rfl rfl (y_move (v := iv ((i + 1 : Nat) : Int)) rfl aM) rfl ?_
 obtain ⟨bR, ac⟩ : ∃ a', a' = aL.put (some 7) (iv ((i + 1 : Nat) : Int)) := ⟨_, rfl⟩
 have aV := pz ac ar
 have aW := pd ac aR
 have bS := pn ac bO (by decide)
 have bT := pn ac bP (by decide)
 have bU := pn ac bQ (by decide)
 have cs := pn ac aM (by decide)
 have bV : bR.eval (.tmp 7) = iv ((i + 1 : Nat) : Int) := by rw [ac]; exact put_same _ _ _ (by rw [ar]; decide)
 show stepsTo _ _ _ _ _ (aL.put (some 7) (iv ((i + 1 : Nat) : Int))) _
 rw [← ac]
 refine st_nil ?_
 refine then_n ?_
 exact ⟨_, ⟨i + 1, ah, ae, rfl, aV, aW, aS, bU, (bV.trans (congrArg (Value.int .i64) (by omega))), bS, bT, aU, (by omega)⟩, (by omega)⟩
 have aN := oF aj
 have aX := hB bd aj
 refine wp_cond_false aX ?_
 refine wp_exit ?_
 refine bk _ _ ?_
 refine wp_seq_k fun ct aY => ?_
 refine wp_g0 [true, true] [] 19
   [ve (sv A1 (ascT s i) c1), ve (sv A1 (ascT s i) c1)] am (.eq (.eq (.nil))) ?_ ?_
 exact .m (fun k => k.fx 3 ba) <| .a (fun k => k.eq1 0 18 rfl) .nil
 refine aftI am ax ay fun cu cv cm aZ a1 a3 a4 => ?_
 have bW := a4.ge 1 2 rfl
 have a5 := az.new_ a3
 refine st_nil (aY _ _ ?_)
 refine wp_ret (ret_k aZ (v := sv A1 (ascT s i) c1) (res_t rfl bW _) ?_)
 have hsp : ascT s i = asc s := asc_end (by omega)
 exact ⟨A1, c1, by rw [← hsp], by rw [← hsp]; exact a5, a1⟩
def rascii_c_P (s : ByteArray) (w : World) (en : Ending) (w' : World) : Prop := ∃ (Ar0 : Option Addr) (cr0 : Nat), en = .returned (sv Ar0 (asc s) cr0) ∧ SOwn w' w.heap.size 64 .u16 Ar0 (asc s) cr0 ∧ New w w'
theorem rascii_c (s : ByteArray) (w : World) (hs : s.size ≤ 1000000) : Calls Tryd.prog 48 #[.string s] w (rascii_c_P s w) := by
 refine enter_abs Tryd.func48 rfl fun a0 an bG hp => ?_
 have an : a0.tmps.size = 19 := an
 have bH : New w w := Upd.refl _ _
 have hp0 : a0.eval (.tmp 0) = .string s := hp 0 _ rfl
 refine wp_seq_k fun K1 bI => ?_
 refine wp_g0 [true] [] 19
   [ve (sv none ([]) 0)] an (.eq (.nil)) ?_ ?_
 exact .t (fun _ w hn k => ⟨_, v_assign rfl rfl, rfl⟩) .nil
 refine aftI an bG bH fun a2 w3 aW bJ bK b9 bL => ?_
 have h8 := bL.fx 0 hp0
 refine st_nil (bI _ _ (wp_seq_k fun ca a8 => ?_))
 refine wp_g0 [true] [] 19
   [ve (sv none ([]) 0)] aW (.eq (.nil)) ?_ ?_
 exact .t (fun _ w hn k => ⟨_, v_assign rfl rfl, rfl⟩) .nil
 refine aftI aW bJ bK fun cb cc ap a9 ba b1 aq => ?_
 have bM := aq.fx 0 h8
 have bN := aq.ge 0 3 rfl
 refine st_nil (a8 _ _ (wp_seq_k fun cd bb => ?_))
 refine wp_seq_k fun ce bd => ?_
 refine wp_g0 [true] [] 19
   [ve (iv 0)] ap (.eq (.nil)) ?_ ?_
 exact .t (fun _ w hn k => ⟨_, v_assign rfl rfl, rfl⟩) .nil
 refine aftI ap a9 ba fun cf ch be bf bg b2 al => ?_
 have bO := al.fx 0 bM
 have bP := al.fx 3 bN
 have bQ := al.ge 0 4 rfl
 refine st_nil (bd _ _ ?_)
 refine wp_block ?_
 refine wp_loopX (fun (mm : Nat) (aa : Act) (ww : World) => ∃ (i : Nat) (A1 : Option Addr) (c1 : Nat), mm = s.size - i ∧ aa.tmps.size = 19 ∧ aa.defers = [] ∧ New w ww ∧ aa.eval (.tmp 3) = sv A1 (ascT s i) c1 ∧ aa.eval (.tmp 4) = iv (i : Int) ∧ aa.eval (.tmp 0) = .string s ∧ SOwn ww w.heap.size 64 .u16 A1 (ascT s i) c1 ∧ (i ≤ s.size)) (fun mm => mm) ⟨_, ⟨0, none, 0, rfl, be, bf, bg, (bP.trans (by rw [asc0])), bQ, bO, (by rw [asc0]; exact SOwn.nil _ _ _ _), (Nat.zero_le _)⟩⟩ ?_
 rintro mm ci cj ⟨i, A1, c1, hmm, ar, bh, bi, bR, aX, aY, bj, hi⟩
 refine wp_seq_k fun cl bk => ?_
 refine wp_seq_k fun cm bl => ?_
 refine wp_g0 [true, true, true, true] [] 19
   [ve (iv (i : Int)), ve (.string s), ve (iv (s.size : Int)), ve (.bool (decide ((i : Int) < (s.size : Int))))] ar (.eq (.eq (.eq (.eq (.nil))))) ?_ ?_
 exact .m (fun k => k.fx 4 aX) <| .m (fun k => k.fx 0 aY) <| .t (fun _ w hn k => ⟨_, v_lenS rfl (k.eq1 1 6 rfl) (by kernel_rfl), rfl⟩) <| .t (fun _ w hn k => ⟨_, v_bin rfl (k.eq1 0 5 rfl) (k.eq1 2 7 rfl) (fun _ => rfl) (r_lssK rfl), rfl⟩) .nil
 refine aftI ar bh bi fun cn aZ aj au am bm ak => ?_
 have av := ak.fx 3 bR
 have a1 := ak.fx 4 aX
 have a3 := ak.fx 0 aY
 have a4 := ak.ge 3 8 rfl
 have aw := bj.new_ bm
 refine st_nil (bl _ _ ?_)
 rcases bc (decide ((i : Int) < (s.size : Int))) with ah | ah
 have aI := oT ah
 have bn := hB a4 ah
 refine wp_cond_true bn ?_
 refine wp_skip ?_
 refine bk _ _ ?_
 refine wp_seq_k fun co bo => ?_
 refine wp_block ?_
 have hal := @ascT_len s i
 have hbl := bAt_lt s i
 refine wp_g0 [true, true, true, true, true, true, false, false] [(6, false), (7, true)] 19
   [ve (sv A1 (ascT s i) c1), ve (.string s), ve (iv (i : Int)), ve (.int .u8 ((bAt s i : Nat) : Int)), ve (.int .u16 ((bAt s i : Nat) : Int)),
    (OP aZ.heap.size 64 .u16 ([(bAt s i)])), vt, vt] aj (.eq (.eq (.eq (.eq (.eq (.cons (fun _ _ _ n ⟨_, _, e, h⟩ => ⟨_, _, e, h.new_ n⟩) (.tt (.tt (.nil))))))))) ?_ ?_
 refine .m (fun k => k.fx 3 av) <| .m (fun k => k.fx 0 a3) <| .m (fun k => k.fx 4 a1) <| .t (fun _ w hn k => ⟨_, v_idxN rfl (k.eq1 1 12 rfl) (k.eq1 2 13 rfl) (by kernel_rfl) (by omega), rfl⟩) <| .t (fun _ w hn k => ⟨_, v_conv rfl (k.eq1 3 14 rfl) (n_conv (by kernel_rfl) (by kernel_rfl) (by kernel_rfl) (IntWalk.u16_in _ (by omega))), rfl⟩) ?_
 refine .o1 (tkA rfl (noG rfl) fun _ w hn k => (by
       exact x_bslice (k := .u16) (ps := [(0, .int .u16 ((bAt s i : Nat) : Int))]) [(bAt s i)] rfl (parts1 (k.eq1 4 15 rfl)) elU rfl (by omega) (by omega) (by first | kernel_rfl | (simp only [enc, List.map_cons, List.map_nil, Int.toNat_natCast, Int.toNat_of_nonneg (by omega : (0 : Int) ≤ _)]; kernel_rfl)) fun A1 c2 W' hmo => ⟨A1, c2, rfl, (hmo.more hn.size)⟩)) ?_
 exact .off <| .off .nil
 refine aftI aj au am fun ax cp ay bp az bq ai => ?_
 have cq := ai.fx 3 av
 have bS := ai.fx 4 a1
 have bT := ai.fx 0 a3
 have bU := ai.ge 0 11 rfl
 obtain ⟨bV, br, aA, bs⟩ : (OP aZ.heap.size 64 .u16 ([(bAt s i)])) _ _ := ai.got 5 16 rfl (by kernel_rfl)
 have aA : ax.eval (.tmp 16) = sv bV ([(bAt s i)]) br := aA
 have aB := aw.new_ bq
 have bt := bs.more am.size
 have hw83 := az.size
 refine st_act rfl rfl fun cr bu => a_append (k := .u16) (b := w.heap.size) rfl elU bU aB aA bt.row (by first | omega | (simp only [List.length_nil, List.length_cons, List.length_append, List.length_take, List.length_drop, List.length_replicate, List.length_set]; omega)) (by first | omega | (simp only [List.length_nil, List.length_cons, List.length_append, List.length_take, List.length_drop, List.length_replicate, List.length_set]; omega)) hw83 fun af ac cs aC hg79 => bu _ _ trivial ?_
 have bv := az.ownGrown aB hg79
 obtain ⟨aD, ae⟩ : ∃ a', a' = ax.put (some 17) (sv af ((ascT s i) ++ [(bAt s i)]) ac) := ⟨_, rfl⟩
 have aE := pz ae ay
 have bw := pd ae bp
 have bW := pn ae bS (by decide)
 have bX := pn ae bT (by decide)
 have a5 : aD.eval (.tmp 17) = sv af ((ascT s i) ++ [(bAt s i)]) ac := by rw [ae]; exact put_same _ _ _ (by rw [ay]; decide)
 show stepsTo _ _ _ _ _ (ax.put (some 17) (sv af ((ascT s i) ++ [(bAt s i)]) ac)) _
 rw [← ae]
 refine st_take rfl rfl (y_assign (v := sv af ((ascT s i) ++ [(bAt s i)]) ac) rfl a5) rfl ?_
 obtain ⟨bY, ad⟩ : ∃ a', a' = aD.put (some 3) (sv af ((ascT s i) ++ [(bAt s i)]) ac) := ⟨_, rfl⟩
 have aF := pz ad aE
 have bx := pd ad bw
 have a6 := pn ad bW (by decide)
 have bZ := pn ad bX (by decide)
 have ct := pn ad a5 (by decide)
 have a7 : bY.eval (.tmp 3) = sv af ((ascT s i) ++ [(bAt s i)]) ac := by rw [ad]; exact put_same _ _ _ (by rw [aE]; decide)
 show stepsTo _ _ _ _ _ (aD.put (some 3) (sv af ((ascT s i) ++ [(bAt s i)]) ac)) _
 rw [← ad]
 refine st_nil ?_
 have he99 : ((ascT s i) ++ [(bAt s i)]) = (ascT s (i + 1)) := asc_up (by omega)
 rw [he99] at a7
 rw [he99] at aC
 refine bo _ _ ?_
 refine wp_g0 [true, true, false] [(2, true)] 19
   [ve (iv (i : Int)), ve (iv ((i + 1 : Nat) : Int)), vt] aF (.eq (.eq (.tt (.nil)))) ?_ ?_
 exact .m (fun k => k.fx 4 a6) <| .t (fun _ w hn k => ⟨_, v_bin rfl (k.eq1 0 9 rfl) rfl (fun _ => rfl) (n_add (by omega) (IntWalk.i64_in _ (by omega))), rfl⟩) <| .off .nil
 refine aftI aF bx bv fun aG b3 ao aJ aK aL ag => ?_
 have b4 := ag.fx 4 a6
 have bz := ag.fx 0 bZ
 have bA := ag.fx 3 a7
 have aH := ag.ge 1 10 rfl
 have aM := aC.new_ aL
 refine st_take rfl rfl (y_assign (v := iv ((i + 1 : Nat) : Int)) rfl aH) rfl ?_
 obtain ⟨bB, ab⟩ : ∃ a', a' = aG.put (some 4) (iv ((i + 1 : Nat) : Int)) := ⟨_, rfl⟩
 have aN := pz ab ao
 have aO := pd ab aJ
 have bC := pn ab bz (by decide)
 have bD := pn ab bA (by decide)
 have b5 := pn ab aH (by decide)
 have bE : bB.eval (.tmp 4) = iv ((i + 1 : Nat) : Int) := by rw [ab]; exact put_same _ _ _ (by rw [ao]; decide)
 show stepsTo _ _ _ _ _ (aG.put (some 4) (iv ((i + 1 : Nat) : Int))) _
 rw [← ab]
 refine st_nil ?_
 refine then_n ?_
 exact ⟨_, ⟨i + 1, af, ac, rfl, aN, aO, aK, bD, (bE.trans (congrArg (Value.int .i64) (by omega))), bC, aM, (by omega)⟩, (by omega)⟩
 have aI := oF ah
 have aP := hB a4 ah
 refine wp_cond_false aP ?_
 refine wp_exit ?_
 refine bb _ _ ?_
 refine wp_seq_k fun b6 aQ => ?_
 refine wp_g0 [true, true] [] 19
   [ve (sv A1 (ascT s i) c1), ve (sv A1 (ascT s i) c1)] aj (.eq (.eq (.nil))) ?_ ?_
 exact .m (fun k => k.fx 3 av) <| .a (fun k => k.eq1 0 18 rfl) .nil
 refine aftI aj au am fun b7 b8 b0 aR aS aT aU => ?_
 have bF := aU.ge 1 2 rfl
 have aV := aw.new_ aT
 refine st_nil (aQ _ _ ?_)
 refine wp_ret (ret_k aR (v := sv A1 (ascT s i) c1) (res_t rfl bF _) ?_)
 have hsp : ascT s i = asc s := asc_end (by omega)
 exact ⟨A1, c1, by rw [← hsp], by rw [← hsp]; exact aV, aS⟩
theorem tsame_c (Aa : Option Addr) (a : List Nat) (ca : Nat) (Ab : Option Addr) (b : List Nat) (cb : Nat) (w : World) (hra : SRow w .u16 Aa a ca) (hrb : SRow w .u16 Ab b cb) : Calls Tryd.prog 60 #[sv Aa a ca, sv Ab b cb] w (IsRet (.bool (decide (a = b))) w) := by
 refine enter_abs Tryd.func60 rfl fun a0 ab ai hp => ?_
 have ab : a0.tmps.size = 8 := ab
 have aj : New w w := Upd.refl _ _
 have hp0 : a0.eval (.tmp 0) = sv Aa a ca := hp 0 _ rfl
 have hp1 : a0.eval (.tmp 1) = sv Ab b cb := hp 1 _ rfl
 refine wp_seq_k fun K1 ak => ?_
 refine wp_g0 [true] [] 8
   [vF] ab (.eq (.nil)) ?_ ?_
 exact .t (fun _ w hn k => ⟨_, v_assign rfl rfl, rfl⟩) .nil
 refine aftI ab ai aj fun a2 w3 ac al aa ap ad => ?_
 have h8 := ad.fx 0 hp0
 have h9 := ad.fx 1 hp1
 refine st_nil (ak _ _ (wp_seq_k fun aq ae => ?_))
 refine wp_g0 [true, true, true, true] [] 8
   [ve (sv Aa a ca), ve (sv Ab b cb), ve (.bool (decide (a = b))), ve (.bool (decide (a = b)))] ac (.eq (.eq (.eq (.eq (.nil))))) ?_ ?_
 exact .m (fun k => k.fx 0 h8) <| .m (fun k => k.fx 1 h9) <| .o1 (ck rfl rfl rfl (fun _ w hn k => ⟨#[sv Aa a ca, sv Ab b cb], args2 (k.eq1 0 5 rfl) (k.eq1 1 6 rfl), fun _ => by kernel_rfl, sequal16_c _ a _ _ b _ _ (hra.new_ (aa.transNew hn)) (hrb.new_ (aa.transNew hn))⟩) fun _ => rfl) <| .a (fun k => k.eq1 2 7 rfl) .nil
 refine aftI ac al aa fun ar au an af ag ao ah => ?_
 have am := ah.ge 3 4 rfl
 refine st_nil (ae _ _ ?_)
 refine wp_ret (ret_k af (v := .bool (decide (a = b))) (res_t rfl am _) ?_)
 exact ⟨rfl, ag⟩
theorem index16_c (Au : Option Addr) (u : List Nat) (cu : Nat) (x : Nat) (w : World) (hru : SRow w .u16 Au u cu) (hx : x < 65536) : Calls Tryd.prog 88 #[sv Au u cu, .int .u16 (x : Int)] w (IsRet (iv (idxF (fun y : Nat => decide ((x : Int) = (y : Int))) u)) w) := by
 refine enter_abs Tryd.func88 rfl fun a0 al bo hp => ?_
 have al : a0.tmps.size = 19 := al
 have bp : New w w := Upd.refl _ _
 have hp0 : a0.eval (.tmp 0) = sv Au u cu := hp 0 _ rfl
 have hp1 : a0.eval (.tmp 1) = .int .u16 (x : Int) := hp 1 _ rfl
 have hmx := hru.max
 refine wp_seq_k fun K1 bq => ?_
 refine wp_g0 [true] [] 19
   [ve (iv 0)] al (.eq (.nil)) ?_ ?_
 exact .t (fun _ w hn k => ⟨_, v_assign rfl rfl, rfl⟩) .nil
 refine aftI al bo bp fun a2 w3 aG br aT b0 aH => ?_
 have h8 := aH.fx 0 hp0
 have h9 := aH.fx 1 hp1
 refine st_nil (bq _ _ (wp_seq_k fun b2 aU => ?_))
 refine wp_seq_k fun b4 aV => ?_
 refine wp_g0 [true, true, true] [] 19
   [ve (sv Au u cu), ve (iv (u.length : Int)), ve (iv 0)] aG (.eq (.eq (.eq (.nil)))) ?_ ?_
 exact .m (fun k => k.fx 0 h8) <| .t (fun _ w hn k => ⟨_, v_lenR rfl elU (k.eq1 0 6 rfl), rfl⟩) <| .t (fun _ w hn k => ⟨_, v_move rfl rfl, rfl⟩) .nil
 refine aftI aG br aT fun b6 b7 aW aX aY bP ai => ?_
 have bs := ai.fx 0 h8
 have bt := ai.fx 1 h9
 have bu := ai.ge 1 7 rfl
 have bv := ai.ge 2 8 rfl
 refine st_nil (aV _ _ ?_)
 refine wp_block ?_
 refine wp_loopX (fun (mm : Nat) (aa : Act) (ww : World) => ∃ (i : Nat), mm = u.length - i ∧ aa.tmps.size = 19 ∧ aa.defers = [] ∧ New w ww ∧ aa.eval (.tmp 8) = iv (i : Int) ∧ aa.eval (.tmp 0) = sv Au u cu ∧ aa.eval (.tmp 1) = .int .u16 (x : Int) ∧ aa.eval (.tmp 7) = iv (u.length : Int) ∧ (i ≤ u.length) ∧ (∀ j, j < i → (fun y : Nat => decide ((x : Int) = (y : Int))) (u.getD j 0) = false)) (fun mm => mm) ⟨_, ⟨0, rfl, aW, aX, aY, bv, bs, bt, bu, (Nat.zero_le _), (fun j h => absurd h (Nat.not_lt_zero _))⟩⟩ ?_
 rintro mm b8 b9 ⟨i, hmm, am, aZ, a1, aI, bw, bx, aJ, hi, hno⟩
 refine wp_seq_k fun ca a3 => ?_
 refine wp_g0 [true] [] 19
   [ve (.bool (decide ((i : Int) < (u.length : Int))))] am (.eq (.nil)) ?_ ?_
 exact .t (fun _ w hn k => ⟨_, v_bin rfl (k.fx 8 aI) (k.fx 7 aJ) (fun _ => rfl) (r_lssK rfl), rfl⟩) .nil
 refine aftI am aZ a1 fun cb cc aj an ao bQ ae => ?_
 have aK := ae.fx 8 aI
 have bz := ae.fx 0 bw
 have bA := ae.fx 1 bx
 have bB := ae.fx 7 aJ
 have aL := ae.ge 0 9 rfl
 refine st_nil (a3 _ _ (wp_seq_k fun cd a4 => ?_))
 rcases bc (decide ((i : Int) < (u.length : Int))) with af | af
 have aw := oT af
 have a5 := hB aL af
 refine wp_cond_true a5 ?_
 refine wp_skip ?_
 refine a4 _ _ ?_
 refine wp_seq_k fun ce a6 => ?_
 refine wp_block ?_
 refine wp_seq_k fun cf a7 => ?_
 refine wp_g0 [true, true] [] 19
   [ve (iv (i : Int)), ve (iv (i : Int))] aj (.eq (.eq (.nil))) ?_ ?_
 exact .m (fun k => k.fx 8 aK) <| .a (fun k => k.eq1 0 10 rfl) .nil
 refine aftI aj an ao fun ch ci ap a8 aq bR ag => ?_
 have bC := ag.fx 8 aK
 have aM := ag.fx 0 bz
 have aN := ag.fx 1 bA
 have bD := ag.fx 7 bB
 have aO := ag.ge 1 5 rfl
 refine st_nil (a7 _ _ (wp_seq_k fun cj a9 => ?_))
 refine wp_g0 [true, true, true, true, true, true] [] 19
   [ve (.int .u16 (x : Int)), ve (sv Au u cu), ve (iv (i : Int)),
    (EP (.int .u16 ((u.getD i 0 : Nat) : Int))), ve (.int .u16 ((u.getD i 0 : Nat) : Int)), ve (.bool (decide ((x : Int) = ((u.getD i 0 : Nat) : Int))))] ap (.eq (.eq (.eq (.cons (fun _ _ _ n ⟨_, _, e, h⟩ => ⟨_, _, e, h.new_ n⟩) (.eq (.eq (.nil))))))) ?_ ?_
 refine .m (fun k => k.fx 1 aN) <| .m (fun k => k.fx 0 aM) <| .m (fun k => k.fx 5 aO) ?_
 refine .o1 (tk rfl rfl fun _ w hn k => (by
       exact x_eaddr (k := .u16) rfl elU (k.eq1 1 12 rfl) (k.eq1 2 13 rfl) (hru.new_ (aq.transNew hn)) (by omega) fun b1 o2 hme => ⟨b1, o2, rfl, hme⟩)) ?_
 refine .o1 (tk rfl rfl fun _ w hn k => (by
       obtain ⟨b5, o6, e7, bE⟩ : (EP (.int .u16 ((u.getD i 0 : Nat) : Int))) _ _ := k.dep 3 14 (by kernel_rfl) (by kernel_rfl)
       exact ⟨_, v_load rfl e7 (l_one Tryd.isAgg64 bE.1), rfl⟩)) ?_
 exact .t (fun _ w hn k => ⟨_, v_bin rfl (k.eq1 0 11 rfl) (k.eq1 4 15 rfl) (fun _ => rfl) (r_eql rfl), rfl⟩) .nil
 refine aftI ap a8 aq fun cl cm ak ar au bS ad => ?_
 have aP := ad.fx 8 bC
 have bF := ad.fx 0 aM
 have bG := ad.fx 1 aN
 have bH := ad.fx 7 bD
 have bI := ad.fx 5 aO
 have aQ := ad.ge 5 16 rfl
 refine st_nil (a9 _ _ ?_)
 rcases bc (decide ((x : Int) = ((u.getD i 0 : Nat) : Int))) with ac | ac
 have ax := oT ac
 have ba := hB aQ ac
 refine wp_cond_true ba ?_
 refine wp_seq_k fun cn bb => ?_
 refine wp_g0 [true, true] [] 19
   [ve (iv (i : Int)), ve (iv (i : Int))] ak (.eq (.eq (.nil))) ?_ ?_
 exact .m (fun k => k.fx 5 bI) <| .a (fun k => k.eq1 0 17 rfl) .nil
 refine aftI ak ar au fun co cp bT bd be bU bf => ?_
 have bJ := bf.ge 1 4 rfl
 refine st_nil (bb _ _ ?_)
 refine wp_ret (ret_k bd (v := iv (i : Int)) (res_t rfl bJ _) ?_)
 exact ⟨by rw [idxF_at (fun y : Nat => decide ((x : Int) = (y : Int))) u i (by omega) hno ac], be⟩
 have ax := oF ac
 have bg := hB aQ ac
 refine wp_cond_false bg ?_
 refine wp_skip ?_
 refine a6 _ _ ?_
 refine wp_g0 [true, false] [(1, true)] 19
   [ve (iv ((i + 1 : Nat) : Int)), vt] ak (.eq (.tt (.nil))) ?_ ?_
 exact .t (fun _ w hn k => ⟨_, v_bin rfl (k.fx 8 aP) rfl (fun _ => rfl) (n_add (by omega) (IntWalk.i64_in _ (by omega))), rfl⟩) <| .off .nil
 refine aftI ak ar au fun aR cq av bh ay bV ah => ?_
 have cr := ah.fx 8 aP
 have bK := ah.fx 0 bF
 have bL := ah.fx 1 bG
 have bM := ah.fx 7 bH
 have aS := ah.ge 0 18 rfl
 refine st_take rfl rfl (y_move (v := iv ((i + 1 : Nat) : Int)) rfl aS) rfl ?_
 obtain ⟨bi, ab⟩ : ∃ a', a' = aR.put (some 8) (iv ((i + 1 : Nat) : Int)) := ⟨_, rfl⟩
 have az := pz ab av
 have aA := pd ab bh
 have bj := pn ab bK (by decide)
 have bk := pn ab bL (by decide)
 have bl := pn ab bM (by decide)
 have bW := pn ab aS (by decide)
 have bm : bi.eval (.tmp 8) = iv ((i + 1 : Nat) : Int) := by rw [ab]; exact put_same _ _ _ (by rw [av]; decide)
 show stepsTo _ _ _ _ _ (aR.put (some 8) (iv ((i + 1 : Nat) : Int))) _
 rw [← ab]
 refine st_nil ?_
 refine then_n ?_
 exact ⟨_, ⟨i + 1, rfl, az, aA, ay, (bm.trans (congrArg (Value.int .i64) (by omega))), bj, bk, bl, (by omega), (up_false (p := (fun y : Nat => decide ((x : Int) = (y : Int)))) hno ac)⟩, (by omega)⟩
 have aw := oF af
 have aB := hB aL af
 refine wp_cond_false aB ?_
 refine wp_exit ?_
 refine aU _ _ ?_
 refine wp_seq_k fun bX aC => ?_
 refine wp_g0 [true] [] 19
   [ve (iv (-1))] aj (.eq (.nil)) ?_ ?_
 exact .t (fun _ w hn k => ⟨_, v_assign rfl rfl, rfl⟩) .nil
 refine aftI aj an ao fun bY bZ bN aD aE bO aF => ?_
 have bn := aF.ge 0 4 rfl
 refine st_nil (aC _ _ ?_)
 refine wp_ret (ret_k aD (v := iv (-1)) (res_t rfl bn _) ?_)
 exact ⟨by rw [idxF_none (fun y : Nat => decide ((x : Int) = (y : Int))) u (fun j hj => hno j (by omega))], aE⟩
theorem contains16_c (Au : Option Addr) (u : List Nat) (cu : Nat) (x : Nat) (w : World) (hru : SRow w .u16 Au u cu) (hx : x < 65536) : Calls Tryd.prog 78 #[sv Au u cu, .int .u16 (x : Int)] w (IsRet (.bool (u.any (fun y : Nat => decide ((x : Int) = (y : Int))))) w) := by
 refine enter_abs Tryd.func78 rfl fun a0 ac ao hp => ?_
 have ac : a0.tmps.size = 9 := ac
 have ap : New w w := Upd.refl _ _
 have hp0 : a0.eval (.tmp 0) = sv Au u cu := hp 0 _ rfl
 have hp1 : a0.eval (.tmp 1) = .int .u16 (x : Int) := hp 1 _ rfl
 refine wp_seq_k fun K1 aq => ?_
 refine wp_g0 [true] [] 9
   [vF] ac (.eq (.nil)) ?_ ?_
 exact .t (fun _ w hn k => ⟨_, v_assign rfl rfl, rfl⟩) .nil
 refine aftI ac ao ap fun a2 w3 ad ag ab az ah => ?_
 have h8 := ah.fx 0 hp0
 have h9 := ah.fx 1 hp1
 refine st_nil (aq _ _ (wp_seq_k fun aA ae => ?_))
 rcases bc (decide ((idxF (fun y : Nat => decide ((x : Int) = (y : Int))) u) < 0)) with aa | aa
 have af := oT aa
 refine wp_g0 [true, true, true, true, true] [] 9
   [ve (sv Au u cu), ve (.int .u16 (x : Int)), ve (iv (idxF (fun y : Nat => decide ((x : Int) = (y : Int))) u)), vF, vF] ad (.eq (.eq (.eq (.eq (.eq (.nil)))))) ?_ ?_
 exact .m (fun k => k.fx 0 h8) <| .m (fun k => k.fx 1 h9) <| .o1 (ck rfl rfl rfl (fun _ w hn k => ⟨#[sv Au u cu, .int .u16 (x : Int)], args2 (k.eq1 0 5 rfl) (k.eq1 1 6 rfl), fun _ => by kernel_rfl, index16_c _ u _ x _ (hru.new_ (ab.transNew hn)) (by omega)⟩) fun _ => rfl) <| .t (fun _ w hn k => ⟨_, v_bin rfl (k.eq1 2 7 rfl) rfl (fun _ => rfl) (r_geqK aa), rfl⟩) <| .a (fun k => k.eq1 3 8 rfl) .nil
 refine aftI ad ag ab fun aB aC av ai aj aw ak => ?_
 have ar := ak.ge 4 4 rfl
 refine st_nil (ae _ _ ?_)
 refine wp_ret (ret_k ai (v := .bool false) (res_t rfl ar _) ?_)
 exact ⟨by rw [← idxF_any (fun y : Nat => decide ((x : Int) = (y : Int))) u, aa]; rfl, aj⟩
 have af := oF aa
 refine wp_g0 [true, true, true, true, true] [] 9
   [ve (sv Au u cu), ve (.int .u16 (x : Int)), ve (iv (idxF (fun y : Nat => decide ((x : Int) = (y : Int))) u)), vT, vT] ad (.eq (.eq (.eq (.eq (.eq (.nil)))))) ?_ ?_
 exact .m (fun k => k.fx 0 h8) <| .m (fun k => k.fx 1 h9) <| .o1 (ck rfl rfl rfl (fun _ w hn k => ⟨#[sv Au u cu, .int .u16 (x : Int)], args2 (k.eq1 0 5 rfl) (k.eq1 1 6 rfl), fun _ => by kernel_rfl, index16_c _ u _ x _ (hru.new_ (ab.transNew hn)) (by omega)⟩) fun _ => rfl) <| .t (fun _ w hn k => ⟨_, v_bin rfl (k.eq1 2 7 rfl) rfl (fun _ => rfl) (r_geqK aa), rfl⟩) <| .a (fun k => k.eq1 3 8 rfl) .nil
 refine aftI ad ag ab fun aD aE ax al am ay an => ?_
 have au := an.ge 4 4 rfl
 refine st_nil (ae _ _ ?_)
 refine wp_ret (ret_k al (v := .bool true) (res_t rfl au _) ?_)
 exact ⟨by rw [← idxF_any (fun y : Nat => decide ((x : Int) = (y : Int))) u, aa]; rfl, am⟩
theorem nodigit_c (x : Nat) (w : World) (hx : x < 65536) : Calls Tryd.prog 62 #[.int .u16 (x : Int)] w (IsRet (.bool (!dgtN x)) w) := by
 refine enter_abs Tryd.func62 rfl fun a0 ab am hp => ?_
 have ab : a0.tmps.size = 6 := ab
 have an : New w w := Upd.refl _ _
 have hp0 : a0.eval (.tmp 0) = .int .u16 (x : Int) := hp 0 _ rfl
 refine wp_seq_k fun K1 ao => ?_
 refine wp_g0 [true] [] 6
   [vF] ab (.eq (.nil)) ?_ ?_
 exact .t (fun _ w hn k => ⟨_, v_assign rfl rfl, rfl⟩) .nil
 refine aftI ab am an fun a2 w3 ac ae af ay ap => ?_
 have h8 := ap.fx 0 hp0
 refine st_nil (ao _ _ (wp_seq_k fun az ad => ?_))
 rcases bc (dgtN x) with aa | aa
 refine wp_g0 [true, true, true, true] [] 6
   [ve (.int .u16 (x : Int)), vT, vF, vF] ac (.eq (.eq (.eq (.eq (.nil))))) ?_ ?_
 exact .m (fun k => k.fx 0 h8) <| .o1 (ck rfl rfl rfl (fun _ w hn k => ⟨#[.int .u16 (x : Int)], args1 (k.eq1 0 3 rfl), fun _ => by kernel_rfl, digit_c x _ (by omega)⟩) fun _ => congrArg Value.bool aa) <| .t (fun _ w hn k => ⟨_, v_not rfl (k.eq1 1 4 rfl), rfl⟩) <| .a (fun k => k.eq1 2 5 rfl) .nil
 refine aftI ac ae af fun aA aB au ag ah av ai => ?_
 have aq := ai.ge 3 2 rfl
 refine st_nil (ad _ _ ?_)
 refine wp_ret (ret_k ag (v := .bool false) (res_t rfl aq _) ?_)
 refine ⟨?_, ah⟩
 show Ending.returned (.bool false) = Ending.returned (.bool (!dgtN x))
 first | rfl | (simp only [aa, bsm] <;> rfl) | (exfalso; omega)
 refine wp_g0 [true, true, true, true] [] 6
   [ve (.int .u16 (x : Int)), vF, vT, vT] ac (.eq (.eq (.eq (.eq (.nil))))) ?_ ?_
 exact .m (fun k => k.fx 0 h8) <| .o1 (ck rfl rfl rfl (fun _ w hn k => ⟨#[.int .u16 (x : Int)], args1 (k.eq1 0 3 rfl), fun _ => by kernel_rfl, digit_c x _ (by omega)⟩) fun _ => congrArg Value.bool aa) <| .t (fun _ w hn k => ⟨_, v_not rfl (k.eq1 1 4 rfl), rfl⟩) <| .a (fun k => k.eq1 2 5 rfl) .nil
 refine aftI ac ae af fun aC aD aw aj ak ax al => ?_
 have ar := al.ge 3 2 rfl
 refine st_nil (ad _ _ ?_)
 refine wp_ret (ret_k aj (v := .bool true) (res_t rfl ar _) ?_)
 refine ⟨?_, ak⟩
 show Ending.returned (.bool true) = Ending.returned (.bool (!dgtN x))
 first | rfl | (simp only [aa, bsm] <;> rfl) | (exfalso; omega)
theorem indexf_c (Au : Option Addr) (u : List Nat) (cu : Nat) (w : World) (hru : SRow w .u16 Au u cu) (hu : U16s u) : Calls Tryd.prog 79 #[sv Au u cu, .func (.func 62) #[] #[]] w (IsRet (iv (idxF (fun y : Nat => !dgtN y) u)) w) := by
 refine enter_abs Tryd.func79 rfl fun a0 al bn hp => ?_
 have al : a0.tmps.size = 19 := al
 have bo : New w w := Upd.refl _ _
 have hp0 : a0.eval (.tmp 0) = sv Au u cu := hp 0 _ rfl
 have hp1 : a0.eval (.tmp 1) = .func (.func 62) #[] #[] := hp 1 _ rfl
 have hmx := hru.max
 refine wp_seq_k fun K1 bp => ?_
 refine wp_g0 [true] [] 19
   [ve (iv 0)] al (.eq (.nil)) ?_ ?_
 exact .t (fun _ w hn k => ⟨_, v_assign rfl rfl, rfl⟩) .nil
 refine aftI al bn bo fun a2 w3 aF bq aS bZ aG => ?_
 have h8 := aG.fx 0 hp0
 have h9 := aG.fx 1 hp1
 refine st_nil (bp _ _ (wp_seq_k fun b0 aT => ?_))
 refine wp_seq_k fun b2 aU => ?_
 refine wp_g0 [true, true, true] [] 19
   [ve (sv Au u cu), ve (iv (u.length : Int)), ve (iv 0)] aF (.eq (.eq (.eq (.nil)))) ?_ ?_
 exact .m (fun k => k.fx 0 h8) <| .t (fun _ w hn k => ⟨_, v_lenR rfl elU (k.eq1 0 6 rfl), rfl⟩) <| .t (fun _ w hn k => ⟨_, v_move rfl rfl, rfl⟩) .nil
 refine aftI aF bq aS fun b4 b6 aV aW aX bO ai => ?_
 have br := ai.fx 0 h8
 have bs := ai.fx 1 h9
 have bt := ai.ge 1 7 rfl
 have bu := ai.ge 2 8 rfl
 refine st_nil (aU _ _ ?_)
 refine wp_block ?_
 refine wp_loopX (fun (mm : Nat) (aa : Act) (ww : World) => ∃ (i : Nat), mm = u.length - i ∧ aa.tmps.size = 19 ∧ aa.defers = [] ∧ New w ww ∧ aa.eval (.tmp 8) = iv (i : Int) ∧ aa.eval (.tmp 0) = sv Au u cu ∧ aa.eval (.tmp 1) = .func (.func 62) #[] #[] ∧ aa.eval (.tmp 7) = iv (u.length : Int) ∧ (i ≤ u.length) ∧ (∀ j, j < i → (fun y : Nat => !dgtN y) (u.getD j 0) = false)) (fun mm => mm) ⟨_, ⟨0, rfl, aV, aW, aX, bu, br, bs, bt, (Nat.zero_le _), (fun j h => absurd h (Nat.not_lt_zero _))⟩⟩ ?_
 rintro mm b7 b8 ⟨i, hmm, am, aY, aZ, aH, bv, bw, aI, hi, hno⟩
 refine wp_seq_k fun b9 a1 => ?_
 refine wp_g0 [true] [] 19
   [ve (.bool (decide ((i : Int) < (u.length : Int))))] am (.eq (.nil)) ?_ ?_
 exact .t (fun _ w hn k => ⟨_, v_bin rfl (k.fx 8 aH) (k.fx 7 aI) (fun _ => rfl) (r_lssK rfl), rfl⟩) .nil
 refine aftI am aY aZ fun ca cb aj an ao bP ad => ?_
 have aJ := ad.fx 8 aH
 have bx := ad.fx 0 bv
 have bz := ad.fx 1 bw
 have bA := ad.fx 7 aI
 have aK := ad.ge 0 9 rfl
 refine st_nil (a1 _ _ (wp_seq_k fun cc a3 => ?_))
 rcases bc (decide ((i : Int) < (u.length : Int))) with ae | ae
 have aw := oT ae
 have a4 := hB aK ae
 refine wp_cond_true a4 ?_
 refine wp_skip ?_
 refine a3 _ _ ?_
 refine wp_seq_k fun cd a5 => ?_
 refine wp_block ?_
 refine wp_seq_k fun ce a6 => ?_
 refine wp_g0 [true, true] [] 19
   [ve (iv (i : Int)), ve (iv (i : Int))] aj (.eq (.eq (.nil))) ?_ ?_
 exact .m (fun k => k.fx 8 aJ) <| .a (fun k => k.eq1 0 10 rfl) .nil
 refine aftI aj an ao fun cf ch ap a7 aq bQ af => ?_
 have bB := af.fx 8 aJ
 have aL := af.fx 0 bx
 have aM := af.fx 1 bz
 have bC := af.fx 7 bA
 have aN := af.ge 1 5 rfl
 refine st_nil (a6 _ _ (wp_seq_k fun ci a8 => ?_))
 have hb := hu.at16 i
 refine wp_g0 [true, true, true, true, true, true] [] 19
   [ve (.func (.func 62) #[] #[]), ve (sv Au u cu), ve (iv (i : Int)),
    (EP (.int .u16 ((u.getD i 0 : Nat) : Int))), ve (.int .u16 ((u.getD i 0 : Nat) : Int)), ve (.bool (!dgtN (u.getD i 0)))] ap (.eq (.eq (.eq (.cons (fun _ _ _ n ⟨_, _, e, h⟩ => ⟨_, _, e, h.new_ n⟩) (.eq (.eq (.nil))))))) ?_ ?_
 refine .m (fun k => k.fx 1 aM) <| .m (fun k => k.fx 0 aL) <| .m (fun k => k.fx 5 aN) ?_
 refine .o1 (tk rfl rfl fun _ w hn k => (by
       exact x_eaddr (k := .u16) rfl elU (k.eq1 1 12 rfl) (k.eq1 2 13 rfl) (hru.new_ (aq.transNew hn)) (by omega) fun b1 o2 hme => ⟨b1, o2, rfl, hme⟩)) ?_
 refine .o1 (tk rfl rfl fun _ w hn k => (by
       obtain ⟨b5, o6, e7, bD⟩ : (EP (.int .u16 ((u.getD i 0 : Nat) : Int))) _ _ := k.dep 3 14 (by kernel_rfl) (by kernel_rfl)
       exact ⟨_, v_load rfl e7 (l_one Tryd.isAgg64 bD.1), rfl⟩)) ?_
 refine .o1 (tkV rfl (noG rfl) rfl fun _ w hn k => (by
       refine ⟨62, #[.int .u16 ((u.getD i 0 : Nat) : Int)], _, (k.eq1 0 11 rfl), args1 (k.eq1 4 15 rfl), fun w => by kernel_rfl, nodigit_c (u.getD i 0) _ (by omega), ?_⟩
       rintro e w' ⟨rfl, hm⟩
       exact ⟨_, rfl, hm, rfl⟩)) ?_
 exact .nil
 refine aftI ap a7 aq fun cj cl ak ar au bR ac => ?_
 have aO := ac.fx 8 bB
 have bE := ac.fx 0 aL
 have bF := ac.fx 1 aM
 have bG := ac.fx 7 bC
 have bH := ac.fx 5 aN
 have aP := ac.ge 5 16 rfl
 refine st_nil (a8 _ _ ?_)
 rcases bc ((!dgtN (u.getD i 0))) with ag | ag
 have a9 := hB aP ag
 refine wp_cond_true a9 ?_
 refine wp_seq_k fun cm ba => ?_
 refine wp_g0 [true, true] [] 19
   [ve (iv (i : Int)), ve (iv (i : Int))] ak (.eq (.eq (.nil))) ?_ ?_
 exact .m (fun k => k.fx 5 bH) <| .a (fun k => k.eq1 0 17 rfl) .nil
 refine aftI ak ar au fun cn co bS bb bd bT be => ?_
 have bI := be.ge 1 4 rfl
 refine st_nil (ba _ _ ?_)
 refine wp_ret (ret_k bb (v := iv (i : Int)) (res_t rfl bI _) ?_)
 exact ⟨by rw [idxF_at (fun y : Nat => !dgtN y) u i (by omega) hno ag], bd⟩
 have bf := hB aP ag
 refine wp_cond_false bf ?_
 refine wp_skip ?_
 refine a5 _ _ ?_
 refine wp_g0 [true, false] [(1, true)] 19
   [ve (iv ((i + 1 : Nat) : Int)), vt] ak (.eq (.tt (.nil))) ?_ ?_
 exact .t (fun _ w hn k => ⟨_, v_bin rfl (k.fx 8 aO) rfl (fun _ => rfl) (n_add (by omega) (IntWalk.i64_in _ (by omega))), rfl⟩) <| .off .nil
 refine aftI ak ar au fun aQ cp av bg ax bU ah => ?_
 have cq := ah.fx 8 aO
 have bJ := ah.fx 0 bE
 have bK := ah.fx 1 bF
 have bL := ah.fx 7 bG
 have aR := ah.ge 0 18 rfl
 refine st_take rfl rfl (y_move (v := iv ((i + 1 : Nat) : Int)) rfl aR) rfl ?_
 obtain ⟨bh, ab⟩ : ∃ a', a' = aQ.put (some 8) (iv ((i + 1 : Nat) : Int)) := ⟨_, rfl⟩
 have ay := pz ab av
 have az := pd ab bg
 have bi := pn ab bJ (by decide)
 have bj := pn ab bK (by decide)
 have bk := pn ab bL (by decide)
 have bV := pn ab aR (by decide)
 have bl : bh.eval (.tmp 8) = iv ((i + 1 : Nat) : Int) := by rw [ab]; exact put_same _ _ _ (by rw [av]; decide)
 show stepsTo _ _ _ _ _ (aQ.put (some 8) (iv ((i + 1 : Nat) : Int))) _
 rw [← ab]
 refine st_nil ?_
 refine then_n ?_
 exact ⟨_, ⟨i + 1, rfl, ay, az, ax, (bl.trans (congrArg (Value.int .i64) (by omega))), bi, bj, bk, (by omega), (up_false (p := (fun y : Nat => !dgtN y)) hno ag)⟩, (by omega)⟩
 have aw := oF ae
 have aA := hB aK ae
 refine wp_cond_false aA ?_
 refine wp_exit ?_
 refine aT _ _ ?_
 refine wp_seq_k fun bW aB => ?_
 refine wp_g0 [true] [] 19
   [ve (iv (-1))] aj (.eq (.nil)) ?_ ?_
 exact .t (fun _ w hn k => ⟨_, v_assign rfl rfl, rfl⟩) .nil
 refine aftI aj an ao fun bX bY bM aC aD bN aE => ?_
 have bm := aE.ge 0 4 rfl
 refine st_nil (aB _ _ ?_)
 refine wp_ret (ret_k aC (v := iv (-1)) (res_t rfl bm _) ?_)
 exact ⟨by rw [idxF_none (fun y : Nat => !dgtN y) u (fun j hj => hno j (by omega))], aD⟩
theorem containsf_c (Au : Option Addr) (u : List Nat) (cu : Nat) (w : World) (hru : SRow w .u16 Au u cu) (hu : U16s u) : Calls Tryd.prog 61 #[sv Au u cu, .func (.func 62) #[] #[]] w (IsRet (.bool (u.any (fun y : Nat => !dgtN y))) w) := by
 refine enter_abs Tryd.func61 rfl fun a0 ac ao hp => ?_
 have ac : a0.tmps.size = 9 := ac
 have ap : New w w := Upd.refl _ _
 have hp0 : a0.eval (.tmp 0) = sv Au u cu := hp 0 _ rfl
 have hp1 : a0.eval (.tmp 1) = .func (.func 62) #[] #[] := hp 1 _ rfl
 have hmx := hru.max
 refine wp_seq_k fun K1 aq => ?_
 refine wp_g0 [true] [] 9
   [vF] ac (.eq (.nil)) ?_ ?_
 exact .t (fun _ w hn k => ⟨_, v_assign rfl rfl, rfl⟩) .nil
 refine aftI ac ao ap fun a2 w3 ad ag ab az ah => ?_
 have h8 := ah.fx 0 hp0
 have h9 := ah.fx 1 hp1
 refine st_nil (aq _ _ (wp_seq_k fun aA ae => ?_))
 rcases bc (decide ((idxF (fun y : Nat => !dgtN y) u) < 0)) with aa | aa
 have af := oT aa
 refine wp_g0 [true, true, true, true, true] [] 9
   [ve (sv Au u cu), ve (.func (.func 62) #[] #[]), ve (iv (idxF (fun y : Nat => !dgtN y) u)), vF, vF] ad (.eq (.eq (.eq (.eq (.eq (.nil)))))) ?_ ?_
 exact .m (fun k => k.fx 0 h8) <| .m (fun k => k.fx 1 h9) <| .o1 (ck rfl rfl rfl (fun _ w hn k => ⟨#[sv Au u cu, .func (.func 62) #[] #[]], args2 (k.eq1 0 5 rfl) (k.eq1 1 6 rfl), fun _ => by kernel_rfl, indexf_c _ u _ _ (hru.new_ (ab.transNew hn)) hu⟩) fun _ => rfl) <| .t (fun _ w hn k => ⟨_, v_bin rfl (k.eq1 2 7 rfl) rfl (fun _ => rfl) (r_geqK aa), rfl⟩) <| .a (fun k => k.eq1 3 8 rfl) .nil
 refine aftI ad ag ab fun aB aC av ai aj aw ak => ?_
 have ar := ak.ge 4 4 rfl
 refine st_nil (ae _ _ ?_)
 refine wp_ret (ret_k ai (v := .bool false) (res_t rfl ar _) ?_)
 exact ⟨by rw [← idxF_any (fun y : Nat => !dgtN y) u, aa]; rfl, aj⟩
 have af := oF aa
 refine wp_g0 [true, true, true, true, true] [] 9
   [ve (sv Au u cu), ve (.func (.func 62) #[] #[]), ve (iv (idxF (fun y : Nat => !dgtN y) u)), vT, vT] ad (.eq (.eq (.eq (.eq (.eq (.nil)))))) ?_ ?_
 exact .m (fun k => k.fx 0 h8) <| .m (fun k => k.fx 1 h9) <| .o1 (ck rfl rfl rfl (fun _ w hn k => ⟨#[sv Au u cu, .func (.func 62) #[] #[]], args2 (k.eq1 0 5 rfl) (k.eq1 1 6 rfl), fun _ => by kernel_rfl, indexf_c _ u _ _ (hru.new_ (ab.transNew hn)) hu⟩) fun _ => rfl) <| .t (fun _ w hn k => ⟨_, v_bin rfl (k.eq1 2 7 rfl) rfl (fun _ => rfl) (r_geqK aa), rfl⟩) <| .a (fun k => k.eq1 3 8 rfl) .nil
 refine aftI ad ag ab fun aD aE ax al am ay an => ?_
 have au := an.ge 4 4 rfl
 refine st_nil (ae _ _ ?_)
 refine wp_ret (ret_k al (v := .bool true) (res_t rfl au _) ?_)
 exact ⟨by rw [← idxF_any (fun y : Nat => !dgtN y) u, aa]; rfl, am⟩
theorem strange_c (Au : Option Addr) (u : List Nat) (cu : Nat) (w : World) (hru : SRow w .u16 Au u cu) (hu : U16s u) : Calls Tryd.prog 59 #[sv Au u cu] w (IsRet (.bool (strangeN u)) w) := by
 refine enter_abs Tryd.func59 rfl fun a0 bh e0 hp => ?_
 have bh : a0.tmps.size = 38 := bh
 have e1 : New w w := Upd.refl _ _
 have hp0 : a0.eval (.tmp 0) = sv Au u cu := hp 0 _ rfl
 have hmx := hru.max
 refine wp_seq_k fun K1 e2 => ?_
 refine wp_g0 [true] [] 38
   [vF] bh (.eq (.nil)) ?_ ?_
 exact .t (fun _ w hn k => ⟨_, v_assign rfl rfl, rfl⟩) .nil
 refine aftI bh e0 e1 fun a2 w3 dp e3 e4 hc e5 => ?_
 have h8 := e5.fx 0 hp0
 refine st_nil (e2 _ _ (wp_seq_k fun hd dD => ?_))
 refine wp_g0 [true] [] 38
   [vF] dp (.eq (.nil)) ?_ ?_
 exact .t (fun _ w hn k => ⟨_, v_assign rfl rfl, rfl⟩) .nil
 refine aftI dp e3 e4 fun hf hg bJ dE dF gi bK => ?_
 have e6 := bK.fx 0 h8
 have e8 := bK.ge 0 3 rfl
 refine st_nil (dD _ _ (wp_seq_k fun hh dG => ?_))
 refine wp_seq_k fun hj dH => ?_
 refine wp_g0 [true, true, true] [] 38
   [ve (sv Au u cu), ve (iv (u.length : Int)), ve (iv 0)] bJ (.eq (.eq (.eq (.nil)))) ?_ ?_
 exact .m (fun k => k.fx 0 e6) <| .t (fun _ w hn k => ⟨_, v_lenR rfl elU (k.eq1 0 6 rfl), rfl⟩) <| .t (fun _ w hn k => ⟨_, v_move rfl rfl, rfl⟩) .nil
 refine aftI bJ dE dF fun hk hl dI dJ dK gj aR => ?_
 have e9 := aR.fx 3 e8
 have fa := aR.ge 0 6 rfl
 have fb := aR.ge 1 7 rfl
 have fc := aR.ge 2 8 rfl
 refine st_nil (dH _ _ ?_)
 refine wp_block ?_
 refine wp_loopX (fun (mm : Nat) (aa : Act) (ww : World) => ∃ (i : Nat), mm = u.length - i ∧ aa.tmps.size = 38 ∧ aa.defers = [] ∧ New w ww ∧ aa.eval (.tmp 3) = .bool ((u.take i).any dgtN) ∧ aa.eval (.tmp 8) = iv (i : Int) ∧ aa.eval (.tmp 6) = sv Au u cu ∧ aa.eval (.tmp 7) = iv (u.length : Int) ∧ (i ≤ u.length) ∧ ((u.take i).all okcN = true)) (fun mm => mm) ⟨_, ⟨0, rfl, dI, dJ, dK, (e9.trans rfl), fc, fa, fb, (Nat.zero_le _), rfl⟩⟩ ?_
 rintro mm ho hq ⟨i, hmm, bL, dL, dM, fd, dq, fe, dr, hi, hall⟩
 refine wp_seq_k fun hr dN => ?_
 refine wp_g0 [true] [] 38
   [ve (.bool (decide ((i : Int) < (u.length : Int))))] bL (.eq (.nil)) ?_ ?_
 exact .t (fun _ w hn k => ⟨_, v_bin rfl (k.fx 8 dq) (k.fx 7 dr) (fun _ => rfl) (r_lssK rfl), rfl⟩) .nil
 refine aftI bL dL dM fun hs ht aS bM a6 gk aK => ?_
 have ds := aK.fx 3 fd
 have dt := aK.fx 8 dq
 have du := aK.fx 6 fe
 have ff := aK.fx 7 dr
 have dv := aK.ge 0 9 rfl
 refine st_nil (dN _ _ (wp_seq_k fun hv dO => ?_))
 rcases bc (decide ((i : Int) < (u.length : Int))) with aL | aL
 have cv := oT aL
 have dP := hB dv aL
 refine wp_cond_true dP ?_
 refine wp_skip ?_
 refine dO _ _ ?_
 refine wp_seq_j (fun (aa : Act) (ww : World) => aa.tmps.size = 38 ∧ aa.defers = [] ∧ New w ww ∧ aa.eval (.tmp 3) = .bool ((u.take (i + 1)).any dgtN) ∧ aa.eval (.tmp 6) = sv Au u cu ∧ aa.eval (.tmp 7) = iv (u.length : Int) ∧ aa.eval (.tmp 8) = iv (i : Int) ∧ (okcN (u.getD i 0) = true)) ?_ ?_
 rintro hw hx ⟨bN, dQ, dR, fg, fh, fi, dw, hok⟩
 refine wp_g0 [true, false] [(1, true)] 38
   [ve (iv ((i + 1 : Nat) : Int)), vt] bN (.eq (.tt (.nil))) ?_ ?_
 exact .t (fun _ w hn k => ⟨_, v_bin rfl (k.fx 8 dw) rfl (fun _ => rfl) (n_add (by omega) (IntWalk.i64_in _ (by omega))), rfl⟩) <| .off .nil
 refine aftI bN dQ dR fun dx hy bO dS dT gl aM => ?_
 have fj := aM.fx 3 fg
 have fk := aM.fx 6 fh
 have fl := aM.fx 7 fi
 have hz := aM.fx 8 dw
 have dy := aM.ge 0 36 rfl
 refine st_take rfl rfl (y_move (v := iv ((i + 1 : Nat) : Int)) rfl dy) rfl ?_
 obtain ⟨fm, ak⟩ : ∃ a', a' = dx.put (some 8) (iv ((i + 1 : Nat) : Int)) := ⟨_, rfl⟩
 have dU := pz ak bO
 have dV := pd ak dS
 have fn := pn ak fj (by decide)
 have fo := pn ak fk (by decide)
 have fp := pn ak fl (by decide)
 have hA := pn ak dy (by decide)
 have fq : fm.eval (.tmp 8) = iv ((i + 1 : Nat) : Int) := by rw [ak]; exact put_same _ _ _ (by rw [bO]; decide)
 show stepsTo _ _ _ _ _ (dx.put (some 8) (iv ((i + 1 : Nat) : Int))) _
 rw [← ak]
 refine st_nil ?_
 refine then_n ?_
 exact ⟨_, ⟨i + 1, rfl, dU, dV, dT, fn, (fq.trans (congrArg (Value.int .i64) (by omega))), fo, fp, (by omega), (all_up (by omega) hall hok)⟩, (by omega)⟩
 intro hC al
 refine wp_block ?_
 refine wp_seq_k fun hD dW => ?_
 have hb := hu.at16 i
 refine wp_g0 [true, true, true] [] 38
   [(EP (.int .u16 ((u.getD i 0 : Nat) : Int))), ve (.int .u16 ((u.getD i 0 : Nat) : Int)), ve (.int .u16 ((u.getD i 0 : Nat) : Int))] aS (.cons (fun _ _ _ n ⟨_, _, e, h⟩ => ⟨_, _, e, h.new_ n⟩) (.eq (.eq (.nil)))) ?_ ?_
 refine .o1 (tk rfl rfl fun _ w hn k => (by
       exact x_eaddr (k := .u16) rfl elU (k.fx 6 du) (k.fx 8 dt) (hru.new_ (a6.transNew hn)) (by omega) fun b1 o2 hme => ⟨b1, o2, rfl, hme⟩)) ?_
 refine .o1 (tk rfl rfl fun _ w hn k => (by
       obtain ⟨b5, o6, e7, fr⟩ : (EP (.int .u16 ((u.getD i 0 : Nat) : Int))) _ _ := k.dep 0 10 (by kernel_rfl) (by kernel_rfl)
       exact ⟨_, v_load rfl e7 (l_one Tryd.isAgg64 fr.1), rfl⟩)) ?_
 exact .a (fun k => k.eq1 1 11 rfl) .nil
 refine aftI aS bM a6 fun hE hF aT bP bi gn aN => ?_
 have dz := aN.fx 3 ds
 have dA := aN.fx 8 dt
 have dB := aN.fx 6 du
 have dC := aN.fx 7 ff
 have a7 := aN.ge 2 5 rfl
 refine st_nil (dW _ _ ?_)
 refine wp_seq_j (fun (aa : Act) (ww : World) => aa.tmps.size = 38 ∧ aa.defers = [] ∧ New w ww ∧ aa.eval (.tmp 3) = .bool ((u.take (i + 1)).any dgtN) ∧ aa.eval (.tmp 5) = .int .u16 ((u.getD i 0 : Nat) : Int) ∧ aa.eval (.tmp 6) = sv Au u cu ∧ aa.eval (.tmp 7) = iv (u.length : Int) ∧ aa.eval (.tmp 8) = iv (i : Int)) ?_ ?_
 rintro go gp ⟨bj, cw, cx, dX, bQ, dY, dZ, d0⟩
 refine wp_block ?_
 refine wp_seq_k fun gq am => ?_
 refine wp_seq_k fun gr cy => ?_
 have hb := hu.at16 i
 refine wp_g0 [true, true, true] [] 38
   [ve (.int .u16 ((u.getD i 0 : Nat) : Int)), ve (.bool (dgtN (u.getD i 0))), ve (.bool (dgtN (u.getD i 0)))] bj (.eq (.eq (.eq (.nil)))) ?_ ?_
 exact .m (fun k => k.fx 5 bQ) <| .o1 (ck rfl rfl rfl (fun _ w hn k => ⟨#[.int .u16 ((u.getD i 0 : Nat) : Int)], args1 (k.eq1 0 18 rfl), fun _ => by kernel_rfl, digit_c (u.getD i 0) _ (by omega)⟩) fun _ => rfl) <| .a (fun k => k.eq1 1 19 rfl) .nil
 refine aftI bj cw cx fun gs gt ay aU aV fU an => ?_
 have a8 := an.fx 3 dX
 have aO := an.fx 5 bQ
 have a9 := an.fx 6 dY
 have ba := an.fx 7 dZ
 have bb := an.fx 8 d0
 have bR := an.ge 2 17 rfl
 refine st_nil (cy _ _ ?_)
 rcases bc (dgtN (u.getD i 0)) with ac | ac
 have bk := hB bR ac
 refine wp_cond_true bk ?_
 refine wp_skip ?_
 refine am _ _ ?_
 refine wp_cond_true bk ?_
 refine wp_skip ?_
 exact al _ _ ⟨ay, aU, aV, a8, a9, ba, bb, (by unfold okcN; simp only [ac, bsm])⟩
 have cz := hB bR ac
 refine wp_cond_false cz ?_
 refine wp_seq_k fun gu bl => ?_
 rcases bc (decide (((u.getD i 0 : Nat) : Int) < 97)) with ab | ab
 have bS := oT ab
 refine wp_g0 [true, true, true, true, true, true, true] [] 38
   [ve (.int .u16 ((u.getD i 0 : Nat) : Int)), vF, vF, vU, vU, vF, vF] ay (.eq (.eq (.eq (.eq (.eq (.eq (.eq (.nil)))))))) ?_ ?_
 exact .m (fun k => k.fx 5 aO) <| .t (fun _ w hn k => ⟨_, v_bin rfl (k.eq1 0 20 rfl) rfl (fun _ => rfl) (r_geqK ab), rfl⟩) <| .m (fun k => k.eq1 1 21 rfl) <| .s (fun k => k.eq1 2 22 rfl) <| .s (fun k => k.eq1 2 22 rfl) <| .t (fun _ w hn k => ⟨_, v_pickF rfl (k.eq1 2 22 rfl) rfl, rfl⟩) <| .a (fun k => k.eq1 5 25 rfl) .nil
 refine aftI ay aU aV fun gv gw aJ bm bn fV ao => ?_
 have bT := ao.fx 3 a8
 have aP := ao.fx 5 aO
 have bU := ao.fx 6 a9
 have bV := ao.fx 7 ba
 have bW := ao.fx 8 bb
 have d1 := ao.ge 6 17 rfl
 refine st_nil (bl _ _ ?_)
 refine wp_cond_false d1 ?_
 rcases bc (decide (((u.getD i 0 : Nat) : Int) < 65)) with ae | ae
 have bX := oT ae
 refine wp_g0 [true, true, true, true, true, true, true] [] 38
   [ve (.int .u16 ((u.getD i 0 : Nat) : Int)), vF, vF, vU, vU, vF, vF] aJ (.eq (.eq (.eq (.eq (.eq (.eq (.eq (.nil)))))))) ?_ ?_
 exact .m (fun k => k.fx 5 aP) <| .t (fun _ w hn k => ⟨_, v_bin rfl (k.eq1 0 26 rfl) rfl (fun _ => rfl) (r_geqK ae), rfl⟩) <| .m (fun k => k.eq1 1 27 rfl) <| .s (fun k => k.eq1 2 28 rfl) <| .s (fun k => k.eq1 2 28 rfl) <| .t (fun _ w hn k => ⟨_, v_pickF rfl (k.eq1 2 28 rfl) rfl, rfl⟩) <| .a (fun k => k.eq1 5 31 rfl) .nil
 refine aftI aJ bm bn fun gx bY bo cA cB fW ap => ?_
 have d2 := ap.fx 3 bT
 have d3 := ap.fx 5 aP
 have d4 := ap.fx 6 bU
 have d5 := ap.fx 7 bV
 have d6 := ap.fx 8 bW
 have d7 := ap.ge 6 17 rfl
 refine st_nil (am _ _ ?_)
 refine wp_cond_false d7 ?_
 refine wp_seq_k fun gy cC => ?_
 have hb := hu.at16 i
 refine wp_g0 [true, true, true, true] [] 38
   [(OP bY.heap.size 64 .u16 (asc ⟨#[120, 88, 111, 79, 46, 43, 45, 95]⟩)), ve (.int .u16 ((u.getD i 0 : Nat) : Int)), ve (.bool ((asc ⟨#[120, 88, 111, 79, 46, 43, 45, 95]⟩).any (fun y : Nat => decide (((u.getD i 0) : Int) = (y : Int))))), ve (.bool ((asc ⟨#[120, 88, 111, 79, 46, 43, 45, 95]⟩).any (fun y : Nat => decide (((u.getD i 0) : Int) = (y : Int)))))] bo (.cons (fun _ _ _ n ⟨_, _, e, h⟩ => ⟨_, _, e, h.new_ n⟩) (.eq (.eq (.eq (.nil))))) ?_ ?_
 refine .o1 (tkC rfl (noG rfl) rfl fun _ w hn k => (by
       refine ⟨#[.string ⟨#[120, 88, 111, 79, 46, 43, 45, 95]⟩], _, args1 rfl, fun w => by kernel_rfl, ascii_c ⟨#[120, 88, 111, 79, 46, 43, 45, 95]⟩ _ (by first | omega | (show (_ : Nat) ≤ _; decide)), ?_⟩
       rintro e w' ⟨A9, fu, rfl, hmo0, hm⟩
       exact ⟨_, rfl, hm, ⟨A9, fu, rfl, (hmo0.more hn.size)⟩⟩)) ?_
 refine .m (fun k => k.fx 5 d3) ?_
 refine .o1 (tkC rfl (noG rfl) rfl fun _ w hn k => (by
       obtain ⟨fv, fw, fy, d8⟩ : (OP bY.heap.size 64 .u16 (asc ⟨#[120, 88, 111, 79, 46, 43, 45, 95]⟩)) _ _ := k.dep 0 33 (by kernel_rfl) (by kernel_rfl)
       refine ⟨#[sv fv (asc ⟨#[120, 88, 111, 79, 46, 43, 45, 95]⟩) fw, .int .u16 ((u.getD i 0 : Nat) : Int)], _, args2 fy (k.eq1 1 34 rfl), fun w => by kernel_rfl, contains16_c _ (asc ⟨#[120, 88, 111, 79, 46, 43, 45, 95]⟩) _ (u.getD i 0) _ d8.row (by omega), ?_⟩
       rintro e w' ⟨rfl, hm⟩
       exact ⟨_, rfl, hm, rfl⟩)) ?_
 exact .a (fun k => k.eq1 2 35 rfl) .nil
 refine aftI bo cA cB fun gz gA aW bp bq fX az => ?_
 have d9 := az.fx 3 d2
 have ea := az.fx 6 d4
 have eb := az.fx 7 d5
 have ec := az.fx 8 d6
 have bZ := az.ge 3 32 rfl
 refine st_nil (cC _ _ ?_)
 rcases bc (((asc ⟨#[120, 88, 111, 79, 46, 43, 45, 95]⟩).any (fun y : Nat => decide (((u.getD i 0) : Int) = (y : Int))))) with aA | aA
 have cD := hB bZ aA
 refine wp_cond_true cD ?_
 refine wp_skip ?_
 exact al _ _ ⟨aW, bp, bq, d9, ea, eb, ec, (by unfold okcN; simp only [ac, ab, ae, aA, bsm])⟩
 have cE := hB bZ aA
 refine wp_cond_false cE ?_
 refine wp_seq_k fun gB cF => ?_
 refine wp_g0 [true] [] 38
   [vF] aW (.eq (.nil)) ?_ ?_
 exact .t (fun _ w hn k => ⟨_, v_assign rfl rfl, rfl⟩) .nil
 refine aftI aW bp bq fun gC gD fY cG cH fZ cI => ?_
 have ed := cI.ge 0 2 rfl
 refine st_nil (cF _ _ ?_)
 refine wp_ret (ret_k cG (v := .bool false) (res_t rfl ed _) ?_)
 exact ⟨by rw [show strangeN u = false from by unfold strangeN; rw [all_bad (i := i) (by omega) (by unfold okcN; simp only [ac, ab, ae, aA, bsm]), Bool.false_and]], cH⟩
 have bX := oF ae
 refine wp_g0 [true, true, true, true, true, true, true] [] 38
   [ve (.int .u16 ((u.getD i 0 : Nat) : Int)), vT, vT, ve (.int .u16 ((u.getD i 0 : Nat) : Int)), ve (.bool (decide (((u.getD i 0 : Nat) : Int) ≤ 70))), ve (.bool (decide (((u.getD i 0 : Nat) : Int) ≤ 70))), ve (.bool (decide (((u.getD i 0 : Nat) : Int) ≤ 70)))] aJ (.eq (.eq (.eq (.eq (.eq (.eq (.eq (.nil)))))))) ?_ ?_
 exact .m (fun k => k.fx 5 aP) <| .t (fun _ w hn k => ⟨_, v_bin rfl (k.eq1 0 26 rfl) rfl (fun _ => rfl) (r_geqK ae), rfl⟩) <| .m (fun k => k.eq1 1 27 rfl) <| .gm (fun k => k.eq1 2 28 rfl) (fun k => k.fx 5 aP) <| .g (fun k => k.eq1 2 28 rfl) (fun _ w hn k => ⟨_, v_bin rfl (k.eq1 3 29 rfl) rfl (fun _ => rfl) (r_leqK rfl), rfl⟩) <| .t (fun _ w hn k => ⟨_, v_pickT rfl (k.eq1 2 28 rfl) (k.eq1 4 30 rfl), rfl⟩) <| .a (fun k => k.eq1 5 31 rfl) .nil
 refine aftI aJ bm bn fun gE b0 aX br bs f0 aq => ?_
 have b2 := aq.fx 3 bT
 have ee := aq.fx 5 aP
 have b4 := aq.fx 6 bU
 have b6 := aq.fx 7 bV
 have b7 := aq.fx 8 bW
 have b8 := aq.ge 6 17 rfl
 refine st_nil (am _ _ ?_)
 rcases bc (decide (((u.getD i 0 : Nat) : Int) ≤ 70)) with ai | ai
 have b9 := oT ai
 have cJ := hB b8 ai
 refine wp_cond_true cJ ?_
 refine wp_skip ?_
 exact al _ _ ⟨aX, br, bs, b2, b4, b6, b7, (by unfold okcN; simp only [ac, ab, ae, ai, bsm])⟩
 have b9 := oF ai
 have cK := hB b8 ai
 refine wp_cond_false cK ?_
 refine wp_seq_k fun gF cL => ?_
 have hb := hu.at16 i
 refine wp_g0 [true, true, true, true] [] 38
   [(OP b0.heap.size 64 .u16 (asc ⟨#[120, 88, 111, 79, 46, 43, 45, 95]⟩)), ve (.int .u16 ((u.getD i 0 : Nat) : Int)), ve (.bool ((asc ⟨#[120, 88, 111, 79, 46, 43, 45, 95]⟩).any (fun y : Nat => decide (((u.getD i 0) : Int) = (y : Int))))), ve (.bool ((asc ⟨#[120, 88, 111, 79, 46, 43, 45, 95]⟩).any (fun y : Nat => decide (((u.getD i 0) : Int) = (y : Int)))))] aX (.cons (fun _ _ _ n ⟨_, _, e, h⟩ => ⟨_, _, e, h.new_ n⟩) (.eq (.eq (.eq (.nil))))) ?_ ?_
 refine .o1 (tkC rfl (noG rfl) rfl fun _ w hn k => (by
       refine ⟨#[.string ⟨#[120, 88, 111, 79, 46, 43, 45, 95]⟩], _, args1 rfl, fun w => by kernel_rfl, ascii_c ⟨#[120, 88, 111, 79, 46, 43, 45, 95]⟩ _ (by first | omega | (show (_ : Nat) ≤ _; decide)), ?_⟩
       rintro e w' ⟨fB, fC, rfl, hmo0, hm⟩
       exact ⟨_, rfl, hm, ⟨fB, fC, rfl, (hmo0.more hn.size)⟩⟩)) ?_
 refine .m (fun k => k.fx 5 ee) ?_
 refine .o1 (tkC rfl (noG rfl) rfl fun _ w hn k => (by
       obtain ⟨fD, fE, fF, ef⟩ : (OP b0.heap.size 64 .u16 (asc ⟨#[120, 88, 111, 79, 46, 43, 45, 95]⟩)) _ _ := k.dep 0 33 (by kernel_rfl) (by kernel_rfl)
       refine ⟨#[sv fD (asc ⟨#[120, 88, 111, 79, 46, 43, 45, 95]⟩) fE, .int .u16 ((u.getD i 0 : Nat) : Int)], _, args2 fF (k.eq1 1 34 rfl), fun w => by kernel_rfl, contains16_c _ (asc ⟨#[120, 88, 111, 79, 46, 43, 45, 95]⟩) _ (u.getD i 0) _ ef.row (by omega), ?_⟩
       rintro e w' ⟨rfl, hm⟩
       exact ⟨_, rfl, hm, rfl⟩)) ?_
 exact .a (fun k => k.eq1 2 35 rfl) .nil
 refine aftI aX br bs fun gG gH aY bt bu f1 aB => ?_
 have eg := aB.fx 3 b2
 have eh := aB.fx 6 b4
 have ei := aB.fx 7 b6
 have ej := aB.fx 8 b7
 have ca := aB.ge 3 32 rfl
 refine st_nil (cL _ _ ?_)
 rcases bc (((asc ⟨#[120, 88, 111, 79, 46, 43, 45, 95]⟩).any (fun y : Nat => decide (((u.getD i 0) : Int) = (y : Int))))) with aC | aC
 have cM := hB ca aC
 refine wp_cond_true cM ?_
 refine wp_skip ?_
 exact al _ _ ⟨aY, bt, bu, eg, eh, ei, ej, (by unfold okcN; simp only [ac, ab, ae, ai, aC, bsm])⟩
 have cN := hB ca aC
 refine wp_cond_false cN ?_
 refine wp_seq_k fun gI cO => ?_
 refine wp_g0 [true] [] 38
   [vF] aY (.eq (.nil)) ?_ ?_
 exact .t (fun _ w hn k => ⟨_, v_assign rfl rfl, rfl⟩) .nil
 refine aftI aY bt bu fun gJ gK f2 cP cQ f3 cR => ?_
 have ek := cR.ge 0 2 rfl
 refine st_nil (cO _ _ ?_)
 refine wp_ret (ret_k cP (v := .bool false) (res_t rfl ek _) ?_)
 exact ⟨by rw [show strangeN u = false from by unfold strangeN; rw [all_bad (i := i) (by omega) (by unfold okcN; simp only [ac, ab, ae, ai, aC, bsm]), Bool.false_and]], cQ⟩
 have bS := oF ab
 refine wp_g0 [true, true, true, true, true, true, true] [] 38
   [ve (.int .u16 ((u.getD i 0 : Nat) : Int)), vT, vT, ve (.int .u16 ((u.getD i 0 : Nat) : Int)), ve (.bool (decide (((u.getD i 0 : Nat) : Int) ≤ 102))), ve (.bool (decide (((u.getD i 0 : Nat) : Int) ≤ 102))), ve (.bool (decide (((u.getD i 0 : Nat) : Int) ≤ 102)))] ay (.eq (.eq (.eq (.eq (.eq (.eq (.eq (.nil)))))))) ?_ ?_
 exact .m (fun k => k.fx 5 aO) <| .t (fun _ w hn k => ⟨_, v_bin rfl (k.eq1 0 20 rfl) rfl (fun _ => rfl) (r_geqK ab), rfl⟩) <| .m (fun k => k.eq1 1 21 rfl) <| .gm (fun k => k.eq1 2 22 rfl) (fun k => k.fx 5 aO) <| .g (fun k => k.eq1 2 22 rfl) (fun _ w hn k => ⟨_, v_bin rfl (k.eq1 3 23 rfl) rfl (fun _ => rfl) (r_leqK rfl), rfl⟩) <| .t (fun _ w hn k => ⟨_, v_pickT rfl (k.eq1 2 22 rfl) (k.eq1 4 24 rfl), rfl⟩) <| .a (fun k => k.eq1 5 25 rfl) .nil
 refine aftI ay aU aV fun gL gM aD aZ a1 f4 ar => ?_
 have bd := ar.fx 3 a8
 have aQ := ar.fx 5 aO
 have be := ar.fx 6 a9
 have bf := ar.fx 7 ba
 have bg := ar.fx 8 bb
 have cb := ar.ge 6 17 rfl
 refine st_nil (bl _ _ ?_)
 rcases bc (decide (((u.getD i 0 : Nat) : Int) ≤ 102)) with ad | ad
 have cc := oT ad
 have bv := hB cb ad
 refine wp_cond_true bv ?_
 refine wp_skip ?_
 refine am _ _ ?_
 refine wp_cond_true bv ?_
 refine wp_skip ?_
 exact al _ _ ⟨aD, aZ, a1, bd, be, bf, bg, (by unfold okcN; simp only [ac, ab, ad, bsm])⟩
 have cc := oF ad
 have cS := hB cb ad
 refine wp_cond_false cS ?_
 rcases bc (decide (((u.getD i 0 : Nat) : Int) < 65)) with af | af
 have cd := oT af
 refine wp_g0 [true, true, true, true, true, true, true] [] 38
   [ve (.int .u16 ((u.getD i 0 : Nat) : Int)), vF, vF, vU, vU, vF, vF] aD (.eq (.eq (.eq (.eq (.eq (.eq (.eq (.nil)))))))) ?_ ?_
 exact .m (fun k => k.fx 5 aQ) <| .t (fun _ w hn k => ⟨_, v_bin rfl (k.eq1 0 26 rfl) rfl (fun _ => rfl) (r_geqK af), rfl⟩) <| .m (fun k => k.eq1 1 27 rfl) <| .s (fun k => k.eq1 2 28 rfl) <| .s (fun k => k.eq1 2 28 rfl) <| .t (fun _ w hn k => ⟨_, v_pickF rfl (k.eq1 2 28 rfl) rfl, rfl⟩) <| .a (fun k => k.eq1 5 31 rfl) .nil
 refine aftI aD aZ a1 fun gN ce bw cT cU f5 au => ?_
 have el := au.fx 3 bd
 have em := au.fx 5 aQ
 have en := au.fx 6 be
 have eo := au.fx 7 bf
 have ep := au.fx 8 bg
 have er := au.ge 6 17 rfl
 refine st_nil (am _ _ ?_)
 refine wp_cond_false er ?_
 refine wp_seq_k fun gO cV => ?_
 have hb := hu.at16 i
 refine wp_g0 [true, true, true, true] [] 38
   [(OP ce.heap.size 64 .u16 (asc ⟨#[120, 88, 111, 79, 46, 43, 45, 95]⟩)), ve (.int .u16 ((u.getD i 0 : Nat) : Int)), ve (.bool ((asc ⟨#[120, 88, 111, 79, 46, 43, 45, 95]⟩).any (fun y : Nat => decide (((u.getD i 0) : Int) = (y : Int))))), ve (.bool ((asc ⟨#[120, 88, 111, 79, 46, 43, 45, 95]⟩).any (fun y : Nat => decide (((u.getD i 0) : Int) = (y : Int)))))] bw (.cons (fun _ _ _ n ⟨_, _, e, h⟩ => ⟨_, _, e, h.new_ n⟩) (.eq (.eq (.eq (.nil))))) ?_ ?_
 refine .o1 (tkC rfl (noG rfl) rfl fun _ w hn k => (by
       refine ⟨#[.string ⟨#[120, 88, 111, 79, 46, 43, 45, 95]⟩], _, args1 rfl, fun w => by kernel_rfl, ascii_c ⟨#[120, 88, 111, 79, 46, 43, 45, 95]⟩ _ (by first | omega | (show (_ : Nat) ≤ _; decide)), ?_⟩
       rintro e w' ⟨fI, fJ, rfl, hmo0, hm⟩
       exact ⟨_, rfl, hm, ⟨fI, fJ, rfl, (hmo0.more hn.size)⟩⟩)) ?_
 refine .m (fun k => k.fx 5 em) ?_
 refine .o1 (tkC rfl (noG rfl) rfl fun _ w hn k => (by
       obtain ⟨fK, fL, fM, es⟩ : (OP ce.heap.size 64 .u16 (asc ⟨#[120, 88, 111, 79, 46, 43, 45, 95]⟩)) _ _ := k.dep 0 33 (by kernel_rfl) (by kernel_rfl)
       refine ⟨#[sv fK (asc ⟨#[120, 88, 111, 79, 46, 43, 45, 95]⟩) fL, .int .u16 ((u.getD i 0 : Nat) : Int)], _, args2 fM (k.eq1 1 34 rfl), fun w => by kernel_rfl, contains16_c _ (asc ⟨#[120, 88, 111, 79, 46, 43, 45, 95]⟩) _ (u.getD i 0) _ es.row (by omega), ?_⟩
       rintro e w' ⟨rfl, hm⟩
       exact ⟨_, rfl, hm, rfl⟩)) ?_
 exact .a (fun k => k.eq1 2 35 rfl) .nil
 refine aftI bw cT cU fun gP gQ a3 bx bz f6 aE => ?_
 have et := aE.fx 3 el
 have eu := aE.fx 6 en
 have ev := aE.fx 7 eo
 have ew := aE.fx 8 ep
 have cf := aE.ge 3 32 rfl
 refine st_nil (cV _ _ ?_)
 rcases bc (((asc ⟨#[120, 88, 111, 79, 46, 43, 45, 95]⟩).any (fun y : Nat => decide (((u.getD i 0) : Int) = (y : Int))))) with aF | aF
 have cW := hB cf aF
 refine wp_cond_true cW ?_
 refine wp_skip ?_
 exact al _ _ ⟨a3, bx, bz, et, eu, ev, ew, (by unfold okcN; simp only [ac, ab, ad, af, aF, bsm])⟩
 have cX := hB cf aF
 refine wp_cond_false cX ?_
 refine wp_seq_k fun gR cY => ?_
 refine wp_g0 [true] [] 38
   [vF] a3 (.eq (.nil)) ?_ ?_
 exact .t (fun _ w hn k => ⟨_, v_assign rfl rfl, rfl⟩) .nil
 refine aftI a3 bx bz fun gS gT f7 cZ c0 f8 c1 => ?_
 have ex := c1.ge 0 2 rfl
 refine st_nil (cY _ _ ?_)
 refine wp_ret (ret_k cZ (v := .bool false) (res_t rfl ex _) ?_)
 exact ⟨by rw [show strangeN u = false from by unfold strangeN; rw [all_bad (i := i) (by omega) (by unfold okcN; simp only [ac, ab, ad, af, aF, bsm]), Bool.false_and]], c0⟩
 have cd := oF af
 refine wp_g0 [true, true, true, true, true, true, true] [] 38
   [ve (.int .u16 ((u.getD i 0 : Nat) : Int)), vT, vT, ve (.int .u16 ((u.getD i 0 : Nat) : Int)), ve (.bool (decide (((u.getD i 0 : Nat) : Int) ≤ 70))), ve (.bool (decide (((u.getD i 0 : Nat) : Int) ≤ 70))), ve (.bool (decide (((u.getD i 0 : Nat) : Int) ≤ 70)))] aD (.eq (.eq (.eq (.eq (.eq (.eq (.eq (.nil)))))))) ?_ ?_
 exact .m (fun k => k.fx 5 aQ) <| .t (fun _ w hn k => ⟨_, v_bin rfl (k.eq1 0 26 rfl) rfl (fun _ => rfl) (r_geqK af), rfl⟩) <| .m (fun k => k.eq1 1 27 rfl) <| .gm (fun k => k.eq1 2 28 rfl) (fun k => k.fx 5 aQ) <| .g (fun k => k.eq1 2 28 rfl) (fun _ w hn k => ⟨_, v_bin rfl (k.eq1 3 29 rfl) rfl (fun _ => rfl) (r_leqK rfl), rfl⟩) <| .t (fun _ w hn k => ⟨_, v_pickT rfl (k.eq1 2 28 rfl) (k.eq1 4 30 rfl), rfl⟩) <| .a (fun k => k.eq1 5 31 rfl) .nil
 refine aftI aD aZ a1 fun gU ch a4 bA bB f9 av => ?_
 have ci := av.fx 3 bd
 have ey := av.fx 5 aQ
 have cj := av.fx 6 be
 have cl := av.fx 7 bf
 have cm := av.fx 8 bg
 have cn := av.ge 6 17 rfl
 refine st_nil (am _ _ ?_)
 rcases bc (decide (((u.getD i 0 : Nat) : Int) ≤ 70)) with aj | aj
 have co := oT aj
 have c2 := hB cn aj
 refine wp_cond_true c2 ?_
 refine wp_skip ?_
 exact al _ _ ⟨a4, bA, bB, ci, cj, cl, cm, (by unfold okcN; simp only [ac, ab, ad, af, aj, bsm])⟩
 have co := oF aj
 have c3 := hB cn aj
 refine wp_cond_false c3 ?_
 refine wp_seq_k fun gV c4 => ?_
 have hb := hu.at16 i
 refine wp_g0 [true, true, true, true] [] 38
   [(OP ch.heap.size 64 .u16 (asc ⟨#[120, 88, 111, 79, 46, 43, 45, 95]⟩)), ve (.int .u16 ((u.getD i 0 : Nat) : Int)), ve (.bool ((asc ⟨#[120, 88, 111, 79, 46, 43, 45, 95]⟩).any (fun y : Nat => decide (((u.getD i 0) : Int) = (y : Int))))), ve (.bool ((asc ⟨#[120, 88, 111, 79, 46, 43, 45, 95]⟩).any (fun y : Nat => decide (((u.getD i 0) : Int) = (y : Int)))))] a4 (.cons (fun _ _ _ n ⟨_, _, e, h⟩ => ⟨_, _, e, h.new_ n⟩) (.eq (.eq (.eq (.nil))))) ?_ ?_
 refine .o1 (tkC rfl (noG rfl) rfl fun _ w hn k => (by
       refine ⟨#[.string ⟨#[120, 88, 111, 79, 46, 43, 45, 95]⟩], _, args1 rfl, fun w => by kernel_rfl, ascii_c ⟨#[120, 88, 111, 79, 46, 43, 45, 95]⟩ _ (by first | omega | (show (_ : Nat) ≤ _; decide)), ?_⟩
       rintro e w' ⟨fP, fQ, rfl, hmo0, hm⟩
       exact ⟨_, rfl, hm, ⟨fP, fQ, rfl, (hmo0.more hn.size)⟩⟩)) ?_
 refine .m (fun k => k.fx 5 ey) ?_
 refine .o1 (tkC rfl (noG rfl) rfl fun _ w hn k => (by
       obtain ⟨fR, fS, fT, ez⟩ : (OP ch.heap.size 64 .u16 (asc ⟨#[120, 88, 111, 79, 46, 43, 45, 95]⟩)) _ _ := k.dep 0 33 (by kernel_rfl) (by kernel_rfl)
       refine ⟨#[sv fR (asc ⟨#[120, 88, 111, 79, 46, 43, 45, 95]⟩) fS, .int .u16 ((u.getD i 0 : Nat) : Int)], _, args2 fT (k.eq1 1 34 rfl), fun w => by kernel_rfl, contains16_c _ (asc ⟨#[120, 88, 111, 79, 46, 43, 45, 95]⟩) _ (u.getD i 0) _ ez.row (by omega), ?_⟩
       rintro e w' ⟨rfl, hm⟩
       exact ⟨_, rfl, hm, rfl⟩)) ?_
 exact .a (fun k => k.eq1 2 35 rfl) .nil
 refine aftI a4 bA bB fun gW gX a5 bC bD ga aG => ?_
 have eA := aG.fx 3 ci
 have eB := aG.fx 6 cj
 have eC := aG.fx 7 cl
 have eD := aG.fx 8 cm
 have cp := aG.ge 3 32 rfl
 refine st_nil (c4 _ _ ?_)
 rcases bc (((asc ⟨#[120, 88, 111, 79, 46, 43, 45, 95]⟩).any (fun y : Nat => decide (((u.getD i 0) : Int) = (y : Int))))) with aH | aH
 have c5 := hB cp aH
 refine wp_cond_true c5 ?_
 refine wp_skip ?_
 exact al _ _ ⟨a5, bC, bD, eA, eB, eC, eD, (by unfold okcN; simp only [ac, ab, ad, af, aj, aH, bsm])⟩
 have c6 := hB cp aH
 refine wp_cond_false c6 ?_
 refine wp_seq_k fun gY c7 => ?_
 refine wp_g0 [true] [] 38
   [vF] a5 (.eq (.nil)) ?_ ?_
 exact .t (fun _ w hn k => ⟨_, v_assign rfl rfl, rfl⟩) .nil
 refine aftI a5 bC bD fun gZ g0 gb c8 c9 gc da => ?_
 have eE := da.ge 0 2 rfl
 refine st_nil (c7 _ _ ?_)
 refine wp_ret (ret_k c8 (v := .bool false) (res_t rfl eE _) ?_)
 exact ⟨by rw [show strangeN u = false from by unfold strangeN; rw [all_bad (i := i) (by omega) (by unfold okcN; simp only [ac, ab, ad, af, aj, aH, bsm]), Bool.false_and]], c9⟩
 intro g1 bE
 rcases bc (((u.take i).any dgtN)) with aI | aI
 have bF := hB dz aI
 have hb := hu.at16 i
 refine wp_g0 [true, true, true, true, true, false] [(5, true)] 38
   [vT, vT, vU, vU, vT, vt] aT (.eq (.eq (.eq (.eq (.eq (.tt (.nil))))))) ?_ ?_
 exact .m (fun k => k.fx 3 bF) <| .m (fun k => k.eq1 0 12 rfl) <| .s (fun k => k.eq1 1 13 rfl) <| .s (fun k => k.eq1 1 13 rfl) <| .t (fun _ w hn k => ⟨_, v_pickT rfl (k.eq1 1 13 rfl) rfl, rfl⟩) <| .off .nil
 refine aftI aT bP bi fun cq g2 bG db dc gd aw => ?_
 have g3 := aw.fx 3 bF
 have eF := aw.fx 8 dA
 have eG := aw.fx 6 dB
 have eH := aw.fx 7 dC
 have eI := aw.fx 5 a7
 have cr := aw.ge 4 16 rfl
 refine st_take rfl rfl (y_assign (v := .bool true) rfl cr) rfl ?_
 obtain ⟨eJ, ag⟩ : ∃ a', a' = cq.put (some 3) (.bool true) := ⟨_, rfl⟩
 have dd := pz ag bG
 have de := pd ag db
 have eK := pn ag eF (by decide)
 have eL := pn ag eG (by decide)
 have eM := pn ag eH (by decide)
 have eN := pn ag eI (by decide)
 have g4 := pn ag cr (by decide)
 have eO : eJ.eval (.tmp 3) = .bool true := by rw [ag]; exact put_same _ _ _ (by rw [bG]; decide)
 show stepsTo _ _ _ _ _ (cq.put (some 3) (.bool true)) _
 rw [← ag]
 refine st_nil ?_
 exact bE _ _ ⟨dd, de, dc, (eO.trans (congrArg Value.bool (by rw [any_up (by omega)]; simp only [aI, bsm]))), eN, eL, eM, eK⟩
 have bH := hB dz aI
 have hb := hu.at16 i
 refine wp_g0 [true, true, true, true, true, false] [(5, true)] 38
   [vF, vF, ve (.int .u16 ((u.getD i 0 : Nat) : Int)), ve (.bool (dgtN (u.getD i 0))), ve (.bool (dgtN (u.getD i 0))), vt] aT (.eq (.eq (.eq (.eq (.eq (.tt (.nil))))))) ?_ ?_
 exact .m (fun k => k.fx 3 bH) <| .m (fun k => k.eq1 0 12 rfl) <| .gm (fun k => k.eq1 1 13 rfl) (fun k => k.fx 5 a7) <| .o1 (cg rfl rfl rfl (fun _ _ k => k.eq1 1 13 rfl) rfl (fun _ w hn k => ⟨#[.int .u16 ((u.getD i 0 : Nat) : Int)], args1 (k.eq1 2 14 rfl), fun _ => by kernel_rfl, digit_c (u.getD i 0) _ (by omega)⟩) fun _ => rfl) <| .t (fun _ w hn k => ⟨_, v_pickF rfl (k.eq1 1 13 rfl) (k.eq1 3 15 rfl), rfl⟩) <| .off .nil
 refine aftI aT bP bi fun cs g5 bI df dg gf ax => ?_
 have g6 := ax.fx 3 bH
 have eP := ax.fx 8 dA
 have eQ := ax.fx 6 dB
 have eR := ax.fx 7 dC
 have eS := ax.fx 5 a7
 have ct := ax.ge 4 16 rfl
 refine st_take rfl rfl (y_assign (v := .bool (dgtN (u.getD i 0))) rfl ct) rfl ?_
 obtain ⟨eT, ah⟩ : ∃ a', a' = cs.put (some 3) (.bool (dgtN (u.getD i 0))) := ⟨_, rfl⟩
 have dh := pz ah bI
 have di := pd ah df
 have eU := pn ah eP (by decide)
 have eV := pn ah eQ (by decide)
 have eW := pn ah eR (by decide)
 have eX := pn ah eS (by decide)
 have g7 := pn ah ct (by decide)
 have eY : eT.eval (.tmp 3) = .bool (dgtN (u.getD i 0)) := by rw [ah]; exact put_same _ _ _ (by rw [bI]; decide)
 show stepsTo _ _ _ _ _ (cs.put (some 3) (.bool (dgtN (u.getD i 0)))) _
 rw [← ah]
 refine st_nil ?_
 exact bE _ _ ⟨dh, di, dg, (eY.trans (congrArg Value.bool (by rw [any_up (by omega)]; simp only [aI, bsm]))), eX, eV, eW, eU⟩
 have cv := oF aL
 have dj := hB dv aL
 refine wp_cond_false dj ?_
 refine wp_exit ?_
 refine dG _ _ ?_
 refine wp_seq_k fun g8 dk => ?_
 refine wp_g0 [true, true] [] 38
   [ve (.bool ((u.take i).any dgtN)), ve (.bool ((u.take i).any dgtN))] aS (.eq (.eq (.nil))) ?_ ?_
 exact .m (fun k => k.fx 3 ds) <| .a (fun k => k.eq1 0 37 rfl) .nil
 refine aftI aS bM a6 fun g9 ha gg dl dm gh dn => ?_
 have eZ := dn.ge 1 2 rfl
 refine st_nil (dk _ _ ?_)
 refine wp_ret (ret_k dl (v := .bool ((u.take i).any dgtN)) (res_t rfl eZ _) ?_)
 exact ⟨by rw [show strangeN u = ((u.take i).any dgtN) from by unfold strangeN; rw [List.take_of_length_le (by omega)] at hall; rw [hall, Bool.true_and, List.take_of_length_le (by omega)]], dm⟩
theorem value_c (Au : Option Addr) (u : List Nat) (cu : Nat) (w : World) (hru : SRow w .u16 Au u cu) (hu : U16s u) (hd : ∀ j, j < u.length → 48 ≤ u.getD j 0 ∧ u.getD j 0 ≤ 57) : Calls Tryd.prog 64 #[sv Au u cu] w (IsRet (.tuple #[iv ((valR u 0).1), .bool ((valR u 0).2)]) w) := by
 refine enter_abs Tryd.func64 rfl fun a0 ap bT hp => ?_
 have ap : a0.tmps.size = 25 := ap
 have bU : New w w := Upd.refl _ _
 have hp0 : a0.eval (.tmp 0) = sv Au u cu := hp 0 _ rfl
 have hmx := hru.max
 refine wp_seq_k fun K1 bV => ?_
 refine wp_g0 [true, true] [] 25
   [ve (iv 0), vF] ap (.eq (.eq (.nil))) ?_ ?_
 exact .t (fun _ w hn k => ⟨_, v_assign rfl rfl, rfl⟩) <| .t (fun _ w hn k => ⟨_, v_assign rfl rfl, rfl⟩) .nil
 refine aftI ap bT bU fun a2 w3 a3 bW bX cQ bY => ?_
 have h8 := bY.fx 0 hp0
 refine st_nil (bV _ _ (wp_seq_k fun cR bh => ?_))
 refine wp_g0 [true] [] 25
   [ve (iv 0)] a3 (.eq (.nil)) ?_ ?_
 exact .t (fun _ w hn k => ⟨_, v_assign rfl rfl, rfl⟩) .nil
 refine aftI a3 bW bX fun cS cT ay bi bj cs az => ?_
 have bZ := az.fx 0 h8
 have b0 := az.ge 0 4 rfl
 refine st_nil (bh _ _ (wp_seq_k fun cU bk => ?_))
 refine wp_seq_k fun cV bl => ?_
 refine wp_g0 [true, true, true] [] 25
   [ve (sv Au u cu), ve (iv (u.length : Int)), ve (iv 0)] ay (.eq (.eq (.eq (.nil)))) ?_ ?_
 exact .m (fun k => k.fx 0 bZ) <| .t (fun _ w hn k => ⟨_, v_lenR rfl elU (k.eq1 0 7 rfl), rfl⟩) <| .t (fun _ w hn k => ⟨_, v_move rfl rfl, rfl⟩) .nil
 refine aftI ay bi bj fun cW cX bm bn bo ct al => ?_
 have b2 := al.fx 4 b0
 have b4 := al.ge 0 7 rfl
 have b6 := al.ge 1 8 rfl
 have b7 := al.ge 2 9 rfl
 refine st_nil (bl _ _ ?_)
 refine wp_block ?_
 refine wp_loopX (fun (mm : Nat) (aa : Act) (ww : World) => ∃ (i : Nat) (n : Int), mm = u.length - i ∧ aa.tmps.size = 25 ∧ aa.defers = [] ∧ New w ww ∧ aa.eval (.tmp 4) = iv n ∧ aa.eval (.tmp 9) = iv (i : Int) ∧ aa.eval (.tmp 7) = sv Au u cu ∧ aa.eval (.tmp 8) = iv (u.length : Int) ∧ (i ≤ u.length) ∧ (0 ≤ n ∧ n ≤ 9007199254741000) ∧ (valR u 0 = valR (u.drop i) n)) (fun mm => mm) ⟨_, ⟨0, 0, rfl, bm, bn, bo, b2, b7, b4, b6, (Nat.zero_le _), (by omega), (by rw [List.drop_zero])⟩⟩ ?_
 rintro mm cY cZ ⟨i, n, hmm, aA, bp, bq, b8, a4, b9, a5, hi, hn, hv⟩
 refine wp_seq_k fun c0 br => ?_
 refine wp_g0 [true] [] 25
   [ve (.bool (decide ((i : Int) < (u.length : Int))))] aA (.eq (.nil)) ?_ ?_
 exact .t (fun _ w hn k => ⟨_, v_bin rfl (k.fx 9 a4) (k.fx 8 a5) (fun _ => rfl) (r_lssK rfl), rfl⟩) .nil
 refine aftI aA bp bq fun c1 c2 am aB ao cv ah => ?_
 have aC := ah.fx 4 b8
 have a6 := ah.fx 9 a4
 have a7 := ah.fx 7 b9
 have ca := ah.fx 8 a5
 have a8 := ah.ge 0 10 rfl
 refine st_nil (br _ _ (wp_seq_k fun c3 bs => ?_))
 rcases bc (decide ((i : Int) < (u.length : Int))) with ai | ai
 have aL := oT ai
 have bt := hB a8 ai
 refine wp_cond_true bt ?_
 refine wp_skip ?_
 refine bs _ _ ?_
 refine wp_seq_k fun c4 bu => ?_
 refine wp_block ?_
 refine wp_seq_k fun c5 bv => ?_
 have hb := hu.at16 i
 refine wp_g0 [true, true, true] [] 25
   [(EP (.int .u16 ((u.getD i 0 : Nat) : Int))), ve (.int .u16 ((u.getD i 0 : Nat) : Int)), ve (.int .u16 ((u.getD i 0 : Nat) : Int))] am (.cons (fun _ _ _ n ⟨_, _, e, h⟩ => ⟨_, _, e, h.new_ n⟩) (.eq (.eq (.nil)))) ?_ ?_
 refine .o1 (tk rfl rfl fun _ w hn k => (by
       exact x_eaddr (k := .u16) rfl elU (k.fx 7 a7) (k.fx 9 a6) (hru.new_ (ao.transNew hn)) (by omega) fun b1 o2 hme => ⟨b1, o2, rfl, hme⟩)) ?_
 refine .o1 (tk rfl rfl fun _ w hn k => (by
       obtain ⟨b5, o6, e7, cb⟩ : (EP (.int .u16 ((u.getD i 0 : Nat) : Int))) _ _ := k.dep 0 11 (by kernel_rfl) (by kernel_rfl)
       exact ⟨_, v_load rfl e7 (l_one Tryd.isAgg64 cb.1), rfl⟩)) ?_
 exact .a (fun k => k.eq1 1 12 rfl) .nil
 refine aftI am aB ao fun c6 c7 an aD aE cw aj => ?_
 have aq := aj.fx 4 aC
 have a9 := aj.fx 9 a6
 have ba := aj.fx 7 a7
 have bb := aj.fx 8 ca
 have bd := aj.ge 2 6 rfl
 refine st_nil (bv _ _ (wp_seq_k fun c8 bw => ?_))
 refine wp_seq_k fun c9 aF => ?_
 rcases bc (decide (n ≤ 900719925474099)) with ae | ae
 have aM := oT ae
 refine wp_g0 [true, true] [] 25
   [ve (iv n), vF] an (.eq (.eq (.nil))) ?_ ?_
 exact .m (fun k => k.fx 4 aq) <| .t (fun _ w hn k => ⟨_, v_bin rfl (k.eq1 0 13 rfl) rfl (fun _ => rfl) (r_gtrK ae), rfl⟩) .nil
 refine aftI an aD aE fun da db aG bx bz cx ag => ?_
 have be := ag.fx 4 aq
 have cc := ag.fx 9 a9
 have cd := ag.fx 7 ba
 have ce := ag.fx 8 bb
 have cf := ag.fx 6 bd
 have ch := ag.ge 1 14 rfl
 refine st_nil (aF _ _ ?_)
 refine wp_cond_false ch ?_
 refine wp_skip ?_
 refine bw _ _ ?_
 have hdg := hd i (by omega)
 have hb := hu.at16 i
 refine wp_g0 [true, true, true, true, true, true, false] [(6, true)] 25
   [ve (iv n), ve (iv (10 * n)), ve (.int .u16 ((u.getD i 0 : Nat) : Int)), ve (.int .u16 (((u.getD i 0) - 48 : Nat) : Int)), ve (iv (((u.getD i 0) - 48 : Nat) : Int)), ve (iv ((10 * n) + (((u.getD i 0) - 48 : Nat) : Int))), vt] aG (.eq (.eq (.eq (.eq (.eq (.eq (.tt (.nil)))))))) ?_ ?_
 exact .m (fun k => k.fx 4 be) <| .t (fun _ w hn k => ⟨_, v_bin rfl rfl (k.eq1 0 15 rfl) (fun _ => rfl) (n_mul rfl (IntWalk.i64_in _ (by omega))), rfl⟩) <| .m (fun k => k.fx 6 cf) <| .t (fun _ w hn k => ⟨_, v_bin rfl (k.eq1 2 17 rfl) rfl (fun _ => rfl) (n_sub (by omega) (IntWalk.u16_in _ (by omega))), rfl⟩) <| .t (fun _ w hn k => ⟨_, v_conv rfl (k.eq1 3 18 rfl) (n_conv (by kernel_rfl) (by kernel_rfl) (by kernel_rfl) (IntWalk.i64_in _ (by omega))), rfl⟩) <| .t (fun _ w hn k => ⟨_, v_bin rfl (k.eq1 1 16 rfl) (k.eq1 4 19 rfl) (fun _ => rfl) (r_add rfl (by omega)), rfl⟩) <| .off .nil
 refine aftI aG bx bz fun bf dc aH bA bB cy ak => ?_
 have dd := ak.fx 4 be
 have ci := ak.fx 9 cc
 have cj := ak.fx 7 cd
 have cl := ak.fx 8 ce
 have bg := ak.ge 5 20 rfl
 refine st_take rfl rfl (y_assign (v := iv ((10 * n) + (((u.getD i 0) - 48 : Nat) : Int))) rfl bg) rfl ?_
 obtain ⟨bC, ab⟩ : ∃ a', a' = bf.put (some 4) (iv ((10 * n) + (((u.getD i 0) - 48 : Nat) : Int))) := ⟨_, rfl⟩
 have ar := pz ab aH
 have aN := pd ab bA
 have aI := pn ab ci (by decide)
 have bD := pn ab cj (by decide)
 have bE := pn ab cl (by decide)
 have cz := pn ab bg (by decide)
 have bF : bC.eval (.tmp 4) = iv ((10 * n) + (((u.getD i 0) - 48 : Nat) : Int)) := by rw [ab]; exact put_same _ _ _ (by rw [aH]; decide)
 show stepsTo _ _ _ _ _ (bf.put (some 4) (iv ((10 * n) + (((u.getD i 0) - 48 : Nat) : Int)))) _
 rw [← ab]
 refine st_nil (bu _ _ ?_)
 refine wp_g0 [true, false] [(1, true)] 25
   [ve (iv ((i + 1 : Nat) : Int)), vt] ar (.eq (.tt (.nil))) ?_ ?_
 exact .t (fun _ w hn k => ⟨_, v_bin rfl (k.fx 9 aI) rfl (fun _ => rfl) (n_add (by omega) (IntWalk.i64_in _ (by omega))), rfl⟩) <| .off .nil
 refine aftI ar aN bB fun aJ cA au aO aP cm af => ?_
 have cB := af.fx 9 aI
 have bG := af.fx 7 bD
 have bH := af.fx 8 bE
 have bI := af.fx 4 bF
 have aK := af.ge 0 21 rfl
 refine st_take rfl rfl (y_move (v := iv ((i + 1 : Nat) : Int)) rfl aK) rfl ?_
 obtain ⟨bJ, ac⟩ : ∃ a', a' = aJ.put (some 9) (iv ((i + 1 : Nat) : Int)) := ⟨_, rfl⟩
 have aQ := pz ac au
 have aR := pd ac aO
 have bK := pn ac bG (by decide)
 have bL := pn ac bH (by decide)
 have bM := pn ac bI (by decide)
 have cC := pn ac aK (by decide)
 have bN : bJ.eval (.tmp 9) = iv ((i + 1 : Nat) : Int) := by rw [ac]; exact put_same _ _ _ (by rw [au]; decide)
 show stepsTo _ _ _ _ _ (aJ.put (some 9) (iv ((i + 1 : Nat) : Int))) _
 rw [← ac]
 refine st_nil ?_
 refine then_n ?_
 exact ⟨_, ⟨i + 1, 10 * n + (((u.getD i 0 : Nat) : Int) - 48), rfl, aQ, aR, aP, (bM.trans (congrArg (Value.int .i64) (by omega))), (bN.trans (congrArg (Value.int .i64) (by omega))), bK, bL, (by omega), (by omega), (hv.trans (by rw [drop_at (by omega)]; simp only [valR, ae]; rfl))⟩, (by omega)⟩
 have aM := oF ae
 refine wp_g0 [true, true] [] 25
   [ve (iv n), vT] an (.eq (.eq (.nil))) ?_ ?_
 exact .m (fun k => k.fx 4 aq) <| .t (fun _ w hn k => ⟨_, v_bin rfl (k.eq1 0 13 rfl) rfl (fun _ => rfl) (r_gtrK ae), rfl⟩) .nil
 refine aftI an aD aE fun cD cE av aS aT cn ad => ?_
 have cF := ad.fx 4 aq
 have cG := ad.fx 9 a9
 have cH := ad.fx 7 ba
 have cI := ad.fx 8 bb
 have cJ := ad.fx 6 bd
 have bO := ad.ge 1 14 rfl
 refine st_nil (aF _ _ ?_)
 refine wp_cond_true bO ?_
 refine wp_seq_k fun cK aU => ?_
 refine wp_g0 [true, true] [] 25
   [ve (iv 0), vF] av (.eq (.eq (.nil))) ?_ ?_
 exact .t (fun _ w hn k => ⟨_, v_assign rfl rfl, rfl⟩) <| .t (fun _ w hn k => ⟨_, v_assign rfl rfl, rfl⟩) .nil
 refine aftI av aS aT fun cL cM co aV aW cp aw => ?_
 have bP := aw.ge 0 2 rfl
 have bQ := aw.ge 1 3 rfl
 refine st_nil (aU _ _ ?_)
 refine wp_ret (ret_k aV (v := .tuple #[iv 0, .bool false]) (res_tt rfl bP bQ _) ?_)
 exact ⟨by rw [show valR u 0 = (0, false) from hv.trans (by rw [drop_at (by omega)]; simp only [valR, ae]; rfl)], aW⟩
 have aL := oF ai
 have aX := hB a8 ai
 refine wp_cond_false aX ?_
 refine wp_exit ?_
 refine bk _ _ ?_
 refine wp_seq_k fun cN aY => ?_
 refine wp_g0 [true, true, true, true, true] [] 25
   [ve (iv n), ve (iv n), ve (.bool (decide (n ≤ 9007199254740991))), ve (iv n), ve (.bool (decide (n ≤ 9007199254740991)))] am (.eq (.eq (.eq (.eq (.eq (.nil)))))) ?_ ?_
 exact .m (fun k => k.fx 4 aC) <| .m (fun k => k.fx 4 aC) <| .t (fun _ w hn k => ⟨_, v_bin rfl (k.eq1 1 23 rfl) rfl (fun _ => rfl) (r_leqK rfl), rfl⟩) <| .a (fun k => k.eq1 0 22 rfl) <| .a (fun k => k.eq1 2 24 rfl) .nil
 refine aftI am aB ao fun cO cP cq aZ a1 cr ax => ?_
 have bR := ax.ge 3 2 rfl
 have bS := ax.ge 4 3 rfl
 refine st_nil (aY _ _ ?_)
 refine wp_ret (ret_k aZ (v := .tuple #[iv n, .bool (decide (n ≤ 9007199254740991))]) (res_tt rfl bR bS _) ?_)
 exact ⟨by rw [show valR u 0 = (n, decide (n ≤ 9007199254740991)) from hv.trans (by rw [List.drop_eq_nil_of_le (by omega)]; rfl)], a1⟩
theorem tk_min (u : List Nat) : u.take ((min (u.length : Int) 4096).toNat) = u.take 4096 := by
  rw [show (min (u.length : Int) 4096).toNat = min u.length 4096 by omega]
  rcases Nat.le_total u.length 4096 with h | h
  · rw [Nat.min_eq_left h, List.take_length, List.take_of_length_le h]
  · rw [Nat.min_eq_right h]
theorem tnumber_c (Au : Option Addr) (u : List Nat) (cu : Nat) (w : World) (hru : SRow w .u16 Au u cu) (hu : U16s u) : Calls Tryd.prog 39 #[sv Au u cu] w (IsRet (.tuple #[nv ((numT u).1), .bool ((numT u).2)]) w) := by
 refine enter_abs Tryd.func39 rfl fun a0 cB nI hp => ?_
 have cB : a0.tmps.size = 91 := cB
 have kZ : New w w := Upd.refl _ _
 have hp0 : a0.eval (.tmp 0) = sv Au u cu := hp 0 _ rfl
 have hmx := hru.max
 refine wp_seq_k fun K1 nJ => ?_
 refine wp_g [true, true] [] [] 91
   [IsNew w 23 [iv 0, iv 0], vF]
   [0] (newsCons (fun v w h => IsNew.old h) newsNil) cB (.nw (.eq (.nil))) ?_ (fun i h => by cases h) ?_
 exact .o2 (step_allocN (cs := [iv 0, iv 0]) (t := 23) rfl (noG rfl) (fun _ w hn k => rfl) (fun q _ hq hb => ⟨q, rfl, hq, hb⟩)) <| .t (fun _ w hn k => ⟨_, v_assign rfl rfl, rfl⟩) .nil
 refine aftI cB nI kZ fun a2 w3 nK nL es rQ k0 => ?_
 have h8 := k0.fx 0 hp0
 obtain ⟨ay, h9, k9, la⟩ : IsNew _ _ _ _ _ := k0.got 0 2 rfl (by kernel_rfl)
 have pg := Nat.le_trans kZ.size k9
 refine st_nil (nJ _ _ ?_)
 refine wp_seq_j (fun (aa : Act) (ww : World) => ∃ (A3 : Option Addr), ∃ (c3 : Nat), aa.tmps.size = 91 ∧ aa.defers = [] ∧ New w ww ∧ aa.eval (.tmp 0) = sv A3 (u.dropWhile blankN) c3 ∧ aa.eval (.tmp 2) = pv ay ∧ Blk ww ay 23 [iv 0, iv 0] ∧ SRow ww .u16 A3 (u.dropWhile blankN) c3) ?_ ?_
 rintro rR rS ⟨A3, c3, lc, ld, le, nM, nN, lf, lg⟩
 refine wp_seq_j (fun (aa : Act) (ww : World) => ∃ (A4 : Option Addr), ∃ (c4 : Nat), aa.tmps.size = 91 ∧ aa.defers = [] ∧ New w ww ∧ aa.eval (.tmp 0) = sv A4 (trimN u) c4 ∧ aa.eval (.tmp 2) = pv ay ∧ Blk ww ay 23 [iv 0, iv 0] ∧ SRow ww .u16 A4 (trimN u) c4) ?_ ?_
 rintro rT nO ⟨A4, c4, et, lh, eu, nP, nQ, ev, li⟩
 have hut := hu.trim
 refine wp_seq_k fun rU lj => ?_
 refine wp_g [true, true, false] [] [(2, false)] 91
   [ve (nv (Nm.mk 2 0)), IsNew nO 23 [iv 0, iv 0], vt]
   [1] (newsCons (fun v w h => IsNew.old h) newsNil) et (.eq (.nw (.tt (.nil)))) ?_ (fun i h => by cases h) ?_
 exact .t (fun _ w hn k => ⟨_, v_build (ps := [(0, iv 2)]) rfl (parts1 rfl) (by kernel_rfl), rfl⟩) <| .o2 (step_allocN (cs := [iv 0, iv 0]) (t := 23) rfl (noG rfl) (fun _ w hn k => rfl) (fun q _ hq hb => ⟨q, rfl, hq, hb⟩)) <| .off .nil
 refine aftI et lh eu fun rV rW ew lk ll ex bv => ?_
 have k1 := bv.fx 0 nP
 have nR := bv.fx 2 nQ
 have nS := bv.ge 0 39 rfl
 obtain ⟨cC, k2, ey, ez⟩ : IsNew _ _ _ _ _ := bv.got 1 4 rfl (by kernel_rfl)
 have lm := ev.new_ ex
 have hne48 : ay ≠ cC := by have h1 := ev.lt; have h2 := ey; omega
 have ph := Nat.le_trans eu.size ey
 have ln := li.new_ ex
 obtain ⟨rX, -, gC, lo, eA, lp⟩ := s_two (v0 := iv 2) (v1 := iv 0) Tryd.sizeOf23 rfl rfl rfl ez
 refine st_act rfl rfl fun rY lq => a_store' rfl k2 nS gC (lq _ _ trivial ?_)
 have lr := ln.far ez eA (by first | rfl | decide | simp [notK])
 have ls := lp _ _ _ (hne48) lm
 have lu := ll.trans eA (fun _ h b => by subst b; omega)
 refine st_nil (lj _ _ (wp_seq_k fun rZ lv => ?_))
 refine wp_seq_k fun r0 lw => ?_
 refine wp_g0 [true, true, true] [] 91
   [ve (sv A4 (trimN u) c4), ve (iv ((trimN u).length : Int)), ve (.bool (decide (((trimN u).length : Int) = 0)))] ew (.eq (.eq (.eq (.nil)))) ?_ ?_
 exact .m (fun k => k.fx 0 k1) <| .t (fun _ w hn k => ⟨_, v_lenR rfl elU (k.eq1 0 40 rfl), rfl⟩) <| .t (fun _ w hn k => ⟨_, v_bin rfl (k.eq1 1 41 rfl) rfl (fun _ => rfl) (r_eql rfl), rfl⟩) .nil
 refine aftI ew lk lu fun r1 r2 bw eB eC cj bx => ?_
 have eD := bx.fx 0 k1
 have k3 := bx.fx 2 nR
 have nT := bx.fx 4 k2
 have k4 := bx.ge 2 42 rfl
 have eE := ls.new_ cj
 have lx := lo.new_ cj
 have eF := lr.new_ cj
 refine st_nil (lw _ _ ?_)
 rcases bc (decide (((trimN u).length : Int) = 0)) with ab | ab
 have gD := oT ab
 have ly := hB k4 ab
 refine wp_cond_true ly ?_
 refine wp_seq_k fun r3 lz => ?_
 refine wp_g0 [true, false, false] [(1, false), (2, true)] 91
   [ve (nv (Nm.mk 0 0)), vt, vt] bw (.eq (.tt (.tt (.nil)))) ?_ ?_
 exact .t (fun _ w hn k => ⟨_, v_build (ps := []) rfl parts0 (by kernel_rfl), rfl⟩) <| .off <| .off .nil
 refine aftI bw eB eC fun k5 r4 eG lA lB lC eH => ?_
 have k6 := eH.fx 2 k3
 have k7 := eH.ge 0 43 rfl
 have lD := eE.new_ lC
 obtain ⟨r5, -, gE, lE, lF, pi⟩ := s_two (v0 := iv 0) (v1 := iv 0) Tryd.sizeOf23 rfl rfl rfl lD
 refine st_act rfl rfl fun r6 lG => a_store' rfl k6 k7 gE (lG _ _ trivial ?_)
 have lH := lB.trans lF (fun _ h b => by subst b; omega)
 refine st_take rfl rfl (y_assign (v := .bool true) rfl rfl) rfl ?_
 obtain ⟨nU, az⟩ : ∃ a', a' = k5.put (some 3) (.bool true) := ⟨_, rfl⟩
 have oL := pz az eG
 have gF := pd az lA
 have lI := pn az k6 (by decide)
 have pj := pn az k7 (by decide)
 have lJ : nU.eval (.tmp 3) = .bool true := by rw [az]; exact put_same _ _ _ (by rw [eG]; decide)
 show stepsTo _ _ _ _ _ (k5.put (some 3) (.bool true)) _
 rw [← az]
 refine st_nil (lz _ _ ?_)
 refine wp_ret (ret_k gF (v := .tuple #[nv (Nm.mk 0 0), .bool true]) (res_ct rfl lI lJ (l_two Tryd.isAgg23 Tryd.sizeOf23 lE)) ?_)
 refine ⟨?_, lH⟩
 show Ending.returned (.tuple #[nv (Nm.mk 0 0), .bool true]) = Ending.returned (.tuple #[nv ((numT u).1), .bool ((numT u).2)])
 first | rfl | (simp only [numT, bodyT, ab, bsm] <;> rfl) | (exfalso; omega)
 have gD := oF ab
 have gG := hB k4 ab
 refine wp_cond_false gG ?_
 refine wp_skip ?_
 refine lv _ _ ?_
 refine wp_seq_k fun pk gH => ?_
 refine wp_g0 [true, true, true, true, true, true, true] [] 91
   [ve (sv A4 (trimN u) c4), ve (sv A4 (trimN u) c4),
    (EP (.int .u16 (((trimN u).getD 0 0 : Nat) : Int))), ve (.int .u16 (((trimN u).getD 0 0 : Nat) : Int)), ve (.bool (decide ((((trimN u).getD 0 0 : Nat) : Int) = 45))), ve (sv A4 (trimN u) c4), ve (.bool (decide ((((trimN u).getD 0 0 : Nat) : Int) = 45)))] bw (.eq (.eq (.cons (fun _ _ _ n ⟨_, _, e, h⟩ => ⟨_, _, e, h.new_ n⟩) (.eq (.eq (.eq (.eq (.nil)))))))) ?_ ?_
 refine .m (fun k => k.fx 0 eD) <| .m (fun k => k.fx 0 eD) ?_
 refine .o1 (tk rfl rfl fun _ w hn k => (by
       exact x_eaddr (k := .u16) rfl elU (k.eq1 1 45 rfl) rfl (eF.new_ hn) (by omega) fun b1 o2 hme => ⟨b1, o2, rfl, hme⟩)) ?_
 refine .o1 (tk rfl rfl fun _ w hn k => (by
       obtain ⟨b5, o6, e7, nV⟩ : (EP (.int .u16 (((trimN u).getD 0 0 : Nat) : Int))) _ _ := k.dep 2 46 (by kernel_rfl) (by kernel_rfl)
       exact ⟨_, v_load rfl e7 (l_one Tryd.isAgg64 nV.1), rfl⟩)) ?_
 exact .t (fun _ w hn k => ⟨_, v_bin rfl (k.eq1 3 47 rfl) rfl (fun _ => rfl) (r_eql rfl), rfl⟩) <| .a (fun k => k.eq1 0 44 rfl) <| .a (fun k => k.eq1 4 48 rfl) .nil
 refine aftI bw eB eC fun pl pm a3 cD cE bz aL => ?_
 have cl := aL.fx 0 eD
 have eI := aL.fx 2 k3
 have eJ := aL.fx 4 nT
 have eK := aL.ge 5 5 rfl
 have eL := aL.ge 6 6 rfl
 have cF := eE.new_ bz
 have cG := lx.new_ bz
 have bA := eF.new_ bz
 refine st_nil (gH _ _ ?_)
 refine wp_seq_j (fun (aa : Act) (ww : World) => ∃ (ng : Bool), ∃ (dd : List Nat), ∃ (A5 : Option Addr), ∃ (c5 : Nat), aa.tmps.size = 91 ∧ aa.defers = [] ∧ New w ww ∧ aa.eval (.tmp 5) = sv A5 dd c5 ∧ aa.eval (.tmp 6) = .bool ng ∧ aa.eval (.tmp 0) = sv A4 (trimN u) c4 ∧ aa.eval (.tmp 2) = pv ay ∧ aa.eval (.tmp 4) = pv cC ∧ Blk ww ay 23 [iv 0, iv 0] ∧ Blk ww cC 23 [iv 2, iv 0] ∧ SRow ww .u16 A5 dd c5 ∧ SRow ww .u16 A4 (trimN u) c4 ∧ (numT u = bodyT (trimN u) dd ng) ∧ (U16s dd)) ?_ ?_
 rintro po lK ⟨ng, dd, A5, c5, cH, gI, cI, lL, lM, lN, lO, eM, cJ, bB, gJ, gK, hbody, hdd⟩
 refine wp_seq_k fun pp gL => ?_
 refine wp_g [true, true, true, true, true, false, false] [3] [(5, false), (6, true)] 91
   [ve (nv (Nm.mk 2 0)), ve (sv A4 (trimN u) c4), ve (.bool (strangeN (trimN u))), ve (.bool (!(strangeN (trimN u)))), IsNew lK 23 [iv 0, iv 0], vt, vt]
   [4] (newsCons (fun v w h => IsNew.old h) newsNil) cH (.eq (.eq (.eq (.eq (.nw (.tt (.tt (.nil)))))))) ?_ ?_ ?_
 refine .t (fun _ w hn k => ⟨_, v_load rfl (k.fx 4 eM) (l_two Tryd.isAgg23 Tryd.sizeOf23 (bB.new_ hn)), rfl⟩) <| .m (fun k => k.fx 0 lN) <| .o1 (ck rfl rfl rfl (fun _ w hn k => ⟨#[sv A4 (trimN u) c4], args1 (k.eq1 1 59 rfl), fun _ => by kernel_rfl, strange_c _ (trimN u) _ _ (gK.new_ hn) hut⟩) fun _ => rfl) ?_
 refine .o3 ?_
 exact .o2 (step_allocN (cs := [iv 0, iv 0]) (t := 23) rfl (noG rfl) (fun _ w hn k => rfl) (fun q _ hq hb => ⟨q, rfl, hq, hb⟩)) <| .off <| .off .nil
 intro i h
 simp only [List.contains_eq_mem, List.mem_cons, List.not_mem_nil, or_false, decide_eq_true_eq] at h
 subst h
 exact eager_take rfl rfl fun _ w hn k => ⟨.bool (!(strangeN (trimN u))), fun w => v_not rfl (k.eq1 2 60 rfl), rfl⟩
 refine aftI cH gI cI fun eN pq cK gM gN bC ai => ?_
 have lP := ai.fx 5 lL
 have lQ := ai.fx 6 lM
 have lR := ai.fx 2 lO
 have lS := ai.fx 4 eM
 have eO := ai.ge 0 58 rfl
 have eP := ai.ge 3 61 rfl
 obtain ⟨eQ, eR, bD, cL⟩ : IsNew _ _ _ _ _ := ai.got 4 7 rfl (by kernel_rfl)
 have gO := cJ.new_ bC
 have gP := bB.new_ bC
 have hne156 : ay ≠ eQ := by have h1 := cJ.lt; have h2 := bD; omega
 have hne157 : cC ≠ eQ := by have h1 := bB.lt; have h2 := bD; omega
 have oM := Nat.le_trans cI.size bD
 have gQ := gJ.new_ bC
 obtain ⟨eS, -, eT, gR, cM, cN⟩ := s_two (v0 := iv 2) (v1 := iv 0) Tryd.sizeOf23 rfl rfl rfl cL
 refine st_act rfl rfl fun pr gS => a_store' rfl eR eO eT (gS _ _ trivial ?_)
 have cO := gQ.far cL cM (by first | rfl | decide | simp [notK])
 have gT := cN _ _ _ (hne156) gO
 have gU := cN _ _ _ (hne157) gP
 have gV := gN.trans cM (fun _ h b => by subst b; omega)
 refine st_take rfl rfl (y_assign (v := .bool (!(strangeN (trimN u)))) rfl eP) rfl ?_
 obtain ⟨lT, ae⟩ : ∃ a', a' = eN.put (some 8) (.bool (!(strangeN (trimN u)))) := ⟨_, rfl⟩
 have cP := pz ae cK
 have gW := pd ae gM
 have eU := pn ae lP (by decide)
 have lU := pn ae lQ (by decide)
 have lV := pn ae lR (by decide)
 have lW := pn ae lS (by decide)
 have pt := pn ae eO (by decide)
 have pu := pn ae eP (by decide)
 have lX := pn ae eR (by decide)
 have lY : lT.eval (.tmp 8) = .bool (!(strangeN (trimN u))) := by rw [ae]; exact put_same _ _ _ (by rw [cK]; decide)
 show stepsTo _ _ _ _ _ (eN.put (some 8) (.bool (!(strangeN (trimN u))))) _
 rw [← ae]
 refine st_nil (gL _ _ (wp_seq_k fun pw a4 => ?_))
 refine wp_block ?_
 refine wp_seq_k fun px gX => ?_
 refine wp_g0 [true, true, true, true] [] 91
   [ve (sv A5 dd c5),
    (OP eS.heap.size 64 .u16 (asc ⟨#[73, 110, 102, 105, 110, 105, 116, 121]⟩)), ve (.bool (decide (dd = (asc ⟨#[73, 110, 102, 105, 110, 105, 116, 121]⟩)))), ve (.bool (decide (dd = (asc ⟨#[73, 110, 102, 105, 110, 105, 116, 121]⟩))))] cP (.eq (.cons (fun _ _ _ n ⟨_, _, e, h⟩ => ⟨_, _, e, h.new_ n⟩) (.eq (.eq (.nil))))) ?_ ?_
 refine .m (fun k => k.fx 5 eU) ?_
 refine .o1 (tkC rfl (noG rfl) rfl fun _ w hn k => (by
       refine ⟨#[.string ⟨#[73, 110, 102, 105, 110, 105, 116, 121]⟩], _, args1 rfl, fun w => by kernel_rfl, ascii_c ⟨#[73, 110, 102, 105, 110, 105, 116, 121]⟩ _ (by first | omega | (show (_ : Nat) ≤ _; decide)), ?_⟩
       rintro e w' ⟨A9, nY, rfl, hmo0, hm⟩
       exact ⟨_, rfl, hm, ⟨A9, nY, rfl, (hmo0.more hn.size)⟩⟩)) ?_
 refine .o1 (tkC rfl (noG rfl) rfl fun _ w hn k => (by
       obtain ⟨nZ, n0, n1, lZ⟩ : (OP eS.heap.size 64 .u16 (asc ⟨#[73, 110, 102, 105, 110, 105, 116, 121]⟩)) _ _ := k.dep 1 64 (by kernel_rfl) (by kernel_rfl)
       refine ⟨#[sv A5 dd c5, sv nZ (asc ⟨#[73, 110, 102, 105, 110, 105, 116, 121]⟩) n0], _, args2 (k.eq1 0 63 rfl) n1, fun w => by kernel_rfl, tsame_c _ dd _ _ (asc ⟨#[73, 110, 102, 105, 110, 105, 116, 121]⟩) _ _ (cO.new_ hn) lZ.row, ?_⟩
       rintro e w' ⟨rfl, hm⟩
       exact ⟨_, rfl, hm, rfl⟩)) ?_
 exact .a (fun k => k.eq1 2 65 rfl) .nil
 refine aftI cP gW gV fun py pA aA bE bF a5 aj => ?_
 have bs := aj.fx 5 eU
 have cm := aj.fx 6 lU
 have cn := aj.fx 2 lV
 have eV := aj.fx 4 lW
 have co := aj.fx 7 lX
 have cp := aj.fx 8 lY
 have eW := aj.ge 3 62 rfl
 have bG := gT.new_ a5
 have cQ := gU.new_ a5
 have bH := gR.new_ a5
 have bI := cO.new_ a5
 refine st_nil (gX _ _ ?_)
 rcases bc (decide (dd = (asc ⟨#[73, 110, 102, 105, 110, 105, 116, 121]⟩))) with ac | ac
 have eX := oT ac
 have gY := hB eW ac
 refine wp_cond_true gY ?_
 refine wp_g0 [true, false] [(1, false)] 91
   [ve (nv (Nm.mk 3 0)), vt] aA (.eq (.tt (.nil))) ?_ ?_
 exact .t (fun _ w hn k => ⟨_, v_build (ps := [(0, iv 3)]) rfl (parts1 rfl) (by kernel_rfl), rfl⟩) <| .off .nil
 refine aftI aA bE bF fun pB pC cR gZ g0 cS aM => ?_
 have l0 := aM.fx 6 cm
 have l1 := aM.fx 2 cn
 have eY := aM.fx 7 co
 have l2 := aM.fx 8 cp
 have l3 := aM.ge 0 66 rfl
 have g1 := bG.new_ cS
 have g2 := bH.new_ cS
 obtain ⟨pD, -, eZ, g3, g4, g5⟩ := s_two (v0 := iv 3) (v1 := iv 0) Tryd.sizeOf23 rfl rfl rfl g2
 refine st_act rfl rfl fun pE g6 => a_store' rfl eY l3 eZ (g6 _ _ trivial ?_)
 have g7 := g5 _ _ _ (hne156) g1
 have g8 := g0.trans g4 (fun _ h b => by subst b; omega)
 refine st_nil (a4 _ _ (wp_seq_k fun pF cT => ?_))
 refine wp_seq_k fun pG g9 => ?_
 refine wp_g0 [true] [] 91
   [ve (.bool ng)] cR (.eq (.nil)) ?_ ?_
 exact .m (fun k => k.fx 6 l0) .nil
 refine aftI cR gZ g8 fun pH pI a6 cU cV cW a7 => ?_
 have e0 := a7.fx 2 l1
 have cq := a7.fx 7 eY
 have e1 := a7.fx 8 l2
 have e2 := a7.ge 0 86 rfl
 have cX := g7.new_ cW
 have bJ := g3.new_ cW
 refine st_nil (g9 _ _ ?_)
 rcases bc (ng) with aN | aN
 have ha := hB e2 aN
 refine wp_cond_true ha ?_
 refine wp_g0 [true, true, false] [(2, false)] 91
   [ve (nv (Nm.mk 3 0)), ve (nv (negM (Nm.mk 3 0))), vt] a6 (.eq (.eq (.tt (.nil)))) ?_ ?_
 exact .t (fun _ w hn k => ⟨_, v_load rfl (k.fx 7 cq) (l_two Tryd.isAgg23 Tryd.sizeOf23 (bJ.new_ hn)), rfl⟩) <| .o1 (ck rfl rfl rfl (fun _ w hn k => ⟨#[nv (Nm.mk 3 0)], args1 (k.eq1 0 87 rfl), fun _ => by kernel_rfl, nneg_c (Nm.mk 3 0) _ ⟩) fun _ => rfl) <| .off .nil
 refine aftI a6 cU cV fun pJ pK cY hc hd cZ a8 => ?_
 have l4 := a8.fx 2 e0
 have e3 := a8.fx 7 cq
 have l5 := a8.fx 8 e1
 have l6 := a8.ge 1 88 rfl
 have hf := cX.new_ cZ
 have hg := bJ.new_ cZ
 obtain ⟨pL, -, e4, hh, hi, hj⟩ := s_two (v0 := iv ((negM (Nm.mk 3 0)).k)) (v1 := iv ((negM (Nm.mk 3 0)).n)) Tryd.sizeOf23 rfl rfl rfl hg
 refine st_act rfl rfl fun pM hl => a_store' rfl e3 l6 e4 (hl _ _ trivial ?_)
 have ho := hj _ _ _ (hne156) hf
 have hr := hd.trans hi (fun _ h b => by subst b; omega)
 refine st_nil (cT _ _ (wp_seq_k fun pN hs => ?_))
 refine wp_g [true, true, false, false] [1] [(2, false), (3, true)] 91
   [ve (nv (negM (Nm.mk 3 0))), ve (.bool (!(strangeN (trimN u)))), vt, vt]
   [] newsNil cY (.eq (.eq (.tt (.tt (.nil))))) ?_ ?_ ?_
 refine .t (fun _ w hn k => ⟨_, v_load rfl (k.fx 7 e3) (l_two Tryd.isAgg23 Tryd.sizeOf23 (hh.new_ hn)), rfl⟩) ?_
 refine .o3 ?_
 exact .off <| .off .nil
 intro i h
 simp only [List.contains_eq_mem, List.mem_cons, List.not_mem_nil, or_false, decide_eq_true_eq] at h
 subst h
 exact eager_take rfl rfl fun _ w hn k => ⟨.bool (!(strangeN (trimN u))), fun w => v_move rfl (k.fx 8 l5), rfl⟩
 refine aftI cY hc hr fun e5 pO c0 ht hv hw bK => ?_
 have e6 := bK.fx 2 l4
 have e8 := bK.ge 0 89 rfl
 have e9 := bK.ge 1 90 rfl
 have hx := ho.new_ hw
 obtain ⟨pP, -, fa, hy, hz, oN⟩ := s_two (v0 := iv ((negM (Nm.mk 3 0)).k)) (v1 := iv ((negM (Nm.mk 3 0)).n)) Tryd.sizeOf23 rfl rfl rfl hx
 refine st_act rfl rfl fun pQ hA => a_store' rfl e6 e8 fa (hA _ _ trivial ?_)
 have hC := hv.trans hz (fun _ h b => by subst b; omega)
 refine st_take rfl rfl (y_assign (v := .bool (!(strangeN (trimN u)))) rfl e9) rfl ?_
 obtain ⟨l7, ak⟩ : ∃ a', a' = e5.put (some 3) (.bool (!(strangeN (trimN u)))) := ⟨_, rfl⟩
 have oO := pz ak c0
 have hD := pd ak ht
 have l8 := pn ak e6 (by decide)
 have pR := pn ak e8 (by decide)
 have pS := pn ak e9 (by decide)
 have l9 : l7.eval (.tmp 3) = .bool (!(strangeN (trimN u))) := by rw [ak]; exact put_same _ _ _ (by rw [c0]; decide)
 show stepsTo _ _ _ _ _ (e5.put (some 3) (.bool (!(strangeN (trimN u))))) _
 rw [← ak]
 refine st_nil (hs _ _ ?_)
 refine wp_ret (ret_k hD (v := .tuple #[nv (negM (Nm.mk 3 0)), .bool (!(strangeN (trimN u)))]) (res_ct rfl l8 l9 (l_two Tryd.isAgg23 Tryd.sizeOf23 hy)) ?_)
 refine ⟨?_, hC⟩
 show Ending.returned (.tuple #[nv (negM (Nm.mk 3 0)), .bool (!(strangeN (trimN u)))]) = Ending.returned (.tuple #[nv ((numT u).1), .bool ((numT u).2)])
 first | rfl | (simp only [hbody, bodyT, ab, ac, aN, bsm] <;> rfl) | (exfalso; omega)
 have hE := hB e2 aN
 refine wp_cond_false hE ?_
 refine wp_skip ?_
 refine cT _ _ ?_
 refine wp_seq_k fun pT hF => ?_
 refine wp_g [true, true, false, false] [1] [(2, false), (3, true)] 91
   [ve (nv (Nm.mk 3 0)), ve (.bool (!(strangeN (trimN u)))), vt, vt]
   [] newsNil a6 (.eq (.eq (.tt (.tt (.nil))))) ?_ ?_ ?_
 refine .t (fun _ w hn k => ⟨_, v_load rfl (k.fx 7 cq) (l_two Tryd.isAgg23 Tryd.sizeOf23 (bJ.new_ hn)), rfl⟩) ?_
 refine .o3 ?_
 exact .off <| .off .nil
 intro i h
 simp only [List.contains_eq_mem, List.mem_cons, List.not_mem_nil, or_false, decide_eq_true_eq] at h
 subst h
 exact eager_take rfl rfl fun _ w hn k => ⟨.bool (!(strangeN (trimN u))), fun w => v_move rfl (k.fx 8 e1), rfl⟩
 refine aftI a6 cU cV fun fb pU c6 hG hH hI bL => ?_
 have fc := bL.fx 2 e0
 have fd := bL.ge 0 89 rfl
 have fe := bL.ge 1 90 rfl
 have hJ := cX.new_ hI
 obtain ⟨pV, -, ff, hK, hL, oP⟩ := s_two (v0 := iv 3) (v1 := iv 0) Tryd.sizeOf23 rfl rfl rfl hJ
 refine st_act rfl rfl fun pW hM => a_store' rfl fc fd ff (hM _ _ trivial ?_)
 have hN := hH.trans hL (fun _ h b => by subst b; omega)
 refine st_take rfl rfl (y_assign (v := .bool (!(strangeN (trimN u)))) rfl fe) rfl ?_
 obtain ⟨ma, al⟩ : ∃ a', a' = fb.put (some 3) (.bool (!(strangeN (trimN u)))) := ⟨_, rfl⟩
 have oQ := pz al c6
 have hO := pd al hG
 have mb := pn al fc (by decide)
 have pX := pn al fd (by decide)
 have pY := pn al fe (by decide)
 have mc : ma.eval (.tmp 3) = .bool (!(strangeN (trimN u))) := by rw [al]; exact put_same _ _ _ (by rw [c6]; decide)
 show stepsTo _ _ _ _ _ (fb.put (some 3) (.bool (!(strangeN (trimN u))))) _
 rw [← al]
 refine st_nil (hF _ _ ?_)
 refine wp_ret (ret_k hO (v := .tuple #[nv (Nm.mk 3 0), .bool (!(strangeN (trimN u)))]) (res_ct rfl mb mc (l_two Tryd.isAgg23 Tryd.sizeOf23 hK)) ?_)
 refine ⟨?_, hN⟩
 show Ending.returned (.tuple #[nv (Nm.mk 3 0), .bool (!(strangeN (trimN u)))]) = Ending.returned (.tuple #[nv ((numT u).1), .bool ((numT u).2)])
 first | rfl | (simp only [hbody, bodyT, ab, ac, aN, bsm] <;> rfl) | (exfalso; omega)
 have eX := oF ac
 have hP := hB eW ac
 refine wp_cond_false hP ?_
 refine wp_seq_k fun pZ c7 => ?_
 rcases bc (decide ((dd.length : Int) ≤ 0)) with ad | ad
 have fg := oT ad
 refine wp_g0 (.replicate 9 true) [] 91
   [ve (sv A5 dd c5), ve (iv (dd.length : Int)), vF, vF, vU, vU, vU, vF, vF] aA (.eq (.eq (.eq (.eq (.eq (.eq (.eq (.eq (.eq (.nil)))))))))) ?_ ?_
 exact .m (fun k => k.fx 5 bs) <| .t (fun _ w hn k => ⟨_, v_lenR rfl elU (k.eq1 0 68 rfl), rfl⟩) <| .t (fun _ w hn k => ⟨_, v_bin rfl (k.eq1 1 69 rfl) rfl (fun _ => rfl) (r_gtrK ad), rfl⟩) <| .m (fun k => k.eq1 2 70 rfl) <| .s (fun k => k.eq1 3 71 rfl) <| .s (fun k => k.eq1 3 71 rfl) <| .s (fun k => k.eq1 3 71 rfl) <| .t (fun _ w hn k => ⟨_, v_pickF rfl (k.eq1 3 71 rfl) rfl, rfl⟩) <| .a (fun k => k.eq1 7 75 rfl) .nil
 refine aftI aA bE bF fun p0 p1 c8 hQ hR a9 am => ?_
 have p2 := am.fx 5 bs
 have md := am.fx 6 cm
 have me := am.fx 2 cn
 have p3 := am.fx 4 eV
 have mf := am.fx 7 co
 have mg := am.fx 8 cp
 have mh := am.ge 8 67 rfl
 have hS := bG.new_ a9
 have oR := cQ.new_ a9
 have hT := bH.new_ a9
 have oS := bI.new_ a9
 refine st_nil (c7 _ _ ?_)
 refine wp_cond_false mh ?_
 refine wp_skip ?_
 refine a4 _ _ ?_
 refine wp_seq_k fun p4 c9 => ?_
 refine wp_seq_k fun p5 hU => ?_
 refine wp_g0 [true] [] 91
   [ve (.bool ng)] c8 (.eq (.nil)) ?_ ?_
 exact .m (fun k => k.fx 6 md) .nil
 refine aftI c8 hQ hR fun p6 p7 ba da db dc bb => ?_
 have fh := bb.fx 2 me
 have cr := bb.fx 7 mf
 have fi := bb.fx 8 mg
 have fj := bb.ge 0 86 rfl
 have de := hS.new_ dc
 have bM := hT.new_ dc
 refine st_nil (hU _ _ ?_)
 rcases bc (ng) with aO | aO
 have hV := hB fj aO
 refine wp_cond_true hV ?_
 refine wp_g0 [true, true, false] [(2, false)] 91
   [ve (nv (Nm.mk 2 0)), ve (nv (negM (Nm.mk 2 0))), vt] ba (.eq (.eq (.tt (.nil)))) ?_ ?_
 exact .t (fun _ w hn k => ⟨_, v_load rfl (k.fx 7 cr) (l_two Tryd.isAgg23 Tryd.sizeOf23 (bM.new_ hn)), rfl⟩) <| .o1 (ck rfl rfl rfl (fun _ w hn k => ⟨#[nv (Nm.mk 2 0)], args1 (k.eq1 0 87 rfl), fun _ => by kernel_rfl, nneg_c (Nm.mk 2 0) _ ⟩) fun _ => rfl) <| .off .nil
 refine aftI ba da db fun p8 p9 df hW hX dg bd => ?_
 have mi := bd.fx 2 fh
 have fk := bd.fx 7 cr
 have mj := bd.fx 8 fi
 have ml := bd.ge 1 88 rfl
 have hY := de.new_ dg
 have hZ := bM.new_ dg
 obtain ⟨qa, -, fl, h3, h4, h5⟩ := s_two (v0 := iv ((negM (Nm.mk 2 0)).k)) (v1 := iv ((negM (Nm.mk 2 0)).n)) Tryd.sizeOf23 rfl rfl rfl hZ
 refine st_act rfl rfl fun qb h6 => a_store' rfl fk ml fl (h6 _ _ trivial ?_)
 have h7 := h5 _ _ _ (hne156) hY
 have ia := hX.trans h4 (fun _ h b => by subst b; omega)
 refine st_nil (c9 _ _ (wp_seq_k fun qc ib => ?_))
 refine wp_g [true, true, false, false] [1] [(2, false), (3, true)] 91
   [ve (nv (negM (Nm.mk 2 0))), ve (.bool (!(strangeN (trimN u)))), vt, vt]
   [] newsNil df (.eq (.eq (.tt (.tt (.nil))))) ?_ ?_ ?_
 refine .t (fun _ w hn k => ⟨_, v_load rfl (k.fx 7 fk) (l_two Tryd.isAgg23 Tryd.sizeOf23 (h3.new_ hn)), rfl⟩) ?_
 refine .o3 ?_
 exact .off <| .off .nil
 intro i h
 simp only [List.contains_eq_mem, List.mem_cons, List.not_mem_nil, or_false, decide_eq_true_eq] at h
 subst h
 exact eager_take rfl rfl fun _ w hn k => ⟨.bool (!(strangeN (trimN u))), fun w => v_move rfl (k.fx 8 mj), rfl⟩
 refine aftI df hW ia fun fm qd dh ic id ie bN => ?_
 have fn := bN.fx 2 mi
 have fo := bN.ge 0 89 rfl
 have fp := bN.ge 1 90 rfl
 have ig := h7.new_ ie
 obtain ⟨qe, -, fq, ih, ii, oU⟩ := s_two (v0 := iv ((negM (Nm.mk 2 0)).k)) (v1 := iv ((negM (Nm.mk 2 0)).n)) Tryd.sizeOf23 rfl rfl rfl ig
 refine st_act rfl rfl fun qf ij => a_store' rfl fn fo fq (ij _ _ trivial ?_)
 have ik := id.trans ii (fun _ h b => by subst b; omega)
 refine st_take rfl rfl (y_assign (v := .bool (!(strangeN (trimN u)))) rfl fp) rfl ?_
 obtain ⟨mn, an⟩ : ∃ a', a' = fm.put (some 3) (.bool (!(strangeN (trimN u)))) := ⟨_, rfl⟩
 have oV := pz an dh
 have il := pd an ic
 have mo := pn an fn (by decide)
 have qg := pn an fo (by decide)
 have qh := pn an fp (by decide)
 have mp : mn.eval (.tmp 3) = .bool (!(strangeN (trimN u))) := by rw [an]; exact put_same _ _ _ (by rw [dh]; decide)
 show stepsTo _ _ _ _ _ (fm.put (some 3) (.bool (!(strangeN (trimN u))))) _
 rw [← an]
 refine st_nil (ib _ _ ?_)
 refine wp_ret (ret_k il (v := .tuple #[nv (negM (Nm.mk 2 0)), .bool (!(strangeN (trimN u)))]) (res_ct rfl mo mp (l_two Tryd.isAgg23 Tryd.sizeOf23 ih)) ?_)
 refine ⟨?_, ik⟩
 show Ending.returned (.tuple #[nv (negM (Nm.mk 2 0)), .bool (!(strangeN (trimN u)))]) = Ending.returned (.tuple #[nv ((numT u).1), .bool ((numT u).2)])
 first | rfl | (simp only [hbody, bodyT, ab, ac, ad, aO, bsm] <;> rfl) | (exfalso; omega)
 have im := hB fj aO
 refine wp_cond_false im ?_
 refine wp_skip ?_
 refine c9 _ _ ?_
 refine wp_seq_k fun qi io => ?_
 refine wp_g [true, true, false, false] [1] [(2, false), (3, true)] 91
   [ve (nv (Nm.mk 2 0)), ve (.bool (!(strangeN (trimN u)))), vt, vt]
   [] newsNil ba (.eq (.eq (.tt (.tt (.nil))))) ?_ ?_ ?_
 refine .t (fun _ w hn k => ⟨_, v_load rfl (k.fx 7 cr) (l_two Tryd.isAgg23 Tryd.sizeOf23 (bM.new_ hn)), rfl⟩) ?_
 refine .o3 ?_
 exact .off <| .off .nil
 intro i h
 simp only [List.contains_eq_mem, List.mem_cons, List.not_mem_nil, or_false, decide_eq_true_eq] at h
 subst h
 exact eager_take rfl rfl fun _ w hn k => ⟨.bool (!(strangeN (trimN u))), fun w => v_move rfl (k.fx 8 fi), rfl⟩
 refine aftI ba da db fun fr qj di ip iq ir bO => ?_
 have fs := bO.fx 2 fh
 have ft := bO.ge 0 89 rfl
 have fu := bO.ge 1 90 rfl
 have it := de.new_ ir
 obtain ⟨qk, -, fv, iu, iw, oW⟩ := s_two (v0 := iv 2) (v1 := iv 0) Tryd.sizeOf23 rfl rfl rfl it
 refine st_act rfl rfl fun ql ix => a_store' rfl fs ft fv (ix _ _ trivial ?_)
 have iy := iq.trans iw (fun _ h b => by subst b; omega)
 refine st_take rfl rfl (y_assign (v := .bool (!(strangeN (trimN u)))) rfl fu) rfl ?_
 obtain ⟨mq, ao⟩ : ∃ a', a' = fr.put (some 3) (.bool (!(strangeN (trimN u)))) := ⟨_, rfl⟩
 have oX := pz ao di
 have iz := pd ao ip
 have mr := pn ao fs (by decide)
 have qm := pn ao ft (by decide)
 have qn := pn ao fu (by decide)
 have ms : mq.eval (.tmp 3) = .bool (!(strangeN (trimN u))) := by rw [ao]; exact put_same _ _ _ (by rw [di]; decide)
 show stepsTo _ _ _ _ _ (fr.put (some 3) (.bool (!(strangeN (trimN u))))) _
 rw [← ao]
 refine st_nil (io _ _ ?_)
 refine wp_ret (ret_k iz (v := .tuple #[nv (Nm.mk 2 0), .bool (!(strangeN (trimN u)))]) (res_ct rfl mr ms (l_two Tryd.isAgg23 Tryd.sizeOf23 iu)) ?_)
 refine ⟨?_, iy⟩
 show Ending.returned (.tuple #[nv (Nm.mk 2 0), .bool (!(strangeN (trimN u)))]) = Ending.returned (.tuple #[nv ((numT u).1), .bool ((numT u).2)])
 first | rfl | (simp only [hbody, bodyT, ab, ac, ad, aO, bsm] <;> rfl) | (exfalso; omega)
 have fg := oF ad
 refine wp_g0 (.replicate 9 true) [] 91
   [ve (sv A5 dd c5), ve (iv (dd.length : Int)), vT, vT, ve (sv A5 dd c5), ve (.bool (dd.any (fun y : Nat => !dgtN y))), ve (.bool (!(dd.any (fun y : Nat => !dgtN y)))), ve (.bool (!(dd.any (fun y : Nat => !dgtN y)))), ve (.bool (!(dd.any (fun y : Nat => !dgtN y))))] aA (.eq (.eq (.eq (.eq (.eq (.eq (.eq (.eq (.eq (.nil)))))))))) ?_ ?_
 exact .m (fun k => k.fx 5 bs) <| .t (fun _ w hn k => ⟨_, v_lenR rfl elU (k.eq1 0 68 rfl), rfl⟩) <| .t (fun _ w hn k => ⟨_, v_bin rfl (k.eq1 1 69 rfl) rfl (fun _ => rfl) (r_gtrK ad), rfl⟩) <| .m (fun k => k.eq1 2 70 rfl) <| .gm (fun k => k.eq1 3 71 rfl) (fun k => k.fx 5 bs) <| .o1 (cg rfl rfl rfl (fun _ _ k => k.eq1 3 71 rfl) rfl (fun _ w hn k => ⟨#[sv A5 dd c5, .func (.func 62) #[] #[]], args2 (k.eq1 4 72 rfl) rfl, fun _ => by kernel_rfl, containsf_c _ dd _ _ (bI.new_ hn) hdd⟩) fun _ => rfl) <| .g (fun k => k.eq1 3 71 rfl) (fun _ w hn k => ⟨_, v_not rfl (k.eq1 5 73 rfl), rfl⟩) <| .t (fun _ w hn k => ⟨_, v_pickT rfl (k.eq1 3 71 rfl) (k.eq1 6 74 rfl), rfl⟩) <| .a (fun k => k.eq1 7 75 rfl) .nil
 refine aftI aA bE bF fun fw qo be dj dk bf ap => ?_
 have mt := ap.fx 5 bs
 have fy := ap.fx 6 cm
 have fz := ap.fx 2 cn
 have mu := ap.fx 4 eV
 have fA := ap.fx 7 co
 have mv := ap.fx 8 cp
 have fB := ap.ge 8 67 rfl
 have dl := bG.new_ bf
 have iA := cQ.new_ bf
 have dm := bH.new_ bf
 have iB := bI.new_ bf
 refine st_nil (c7 _ _ ?_)
 rcases bc (dd.any (fun y : Nat => !dgtN y)) with af | af
 have iC : fw.eval (.tmp 67) = .bool false := fB.trans (congrArg Value.bool (by rw [af]; rfl))
 refine wp_cond_false iC ?_
 refine wp_skip ?_
 refine a4 _ _ ?_
 refine wp_seq_k fun qp dn => ?_
 refine wp_seq_k fun qq iD => ?_
 refine wp_g0 [true] [] 91
   [ve (.bool ng)] be (.eq (.nil)) ?_ ?_
 exact .m (fun k => k.fx 6 fy) .nil
 refine aftI be dj dk fun qr qs bg dp dq dr bh => ?_
 have fC := bh.fx 2 fz
 have ct := bh.fx 7 fA
 have fD := bh.fx 8 mv
 have fE := bh.ge 0 86 rfl
 have ds := dl.new_ dr
 have bP := dm.new_ dr
 refine st_nil (iD _ _ ?_)
 rcases bc (ng) with aP | aP
 have iE := hB fE aP
 refine wp_cond_true iE ?_
 refine wp_g0 [true, true, false] [(2, false)] 91
   [ve (nv (Nm.mk 2 0)), ve (nv (negM (Nm.mk 2 0))), vt] bg (.eq (.eq (.tt (.nil)))) ?_ ?_
 exact .t (fun _ w hn k => ⟨_, v_load rfl (k.fx 7 ct) (l_two Tryd.isAgg23 Tryd.sizeOf23 (bP.new_ hn)), rfl⟩) <| .o1 (ck rfl rfl rfl (fun _ w hn k => ⟨#[nv (Nm.mk 2 0)], args1 (k.eq1 0 87 rfl), fun _ => by kernel_rfl, nneg_c (Nm.mk 2 0) _ ⟩) fun _ => rfl) <| .off .nil
 refine aftI bg dp dq fun qt qu dt iF iG du bi => ?_
 have mw := bi.fx 2 fC
 have fF := bi.fx 7 ct
 have mx := bi.fx 8 fD
 have my := bi.ge 1 88 rfl
 have iH := ds.new_ du
 have iI := bP.new_ du
 obtain ⟨qv, -, fG, iJ, iK, iL⟩ := s_two (v0 := iv ((negM (Nm.mk 2 0)).k)) (v1 := iv ((negM (Nm.mk 2 0)).n)) Tryd.sizeOf23 rfl rfl rfl iI
 refine st_act rfl rfl fun qw iM => a_store' rfl fF my fG (iM _ _ trivial ?_)
 have iN := iL _ _ _ (hne156) iH
 have iO := iG.trans iK (fun _ h b => by subst b; omega)
 refine st_nil (dn _ _ (wp_seq_k fun qx iP => ?_))
 refine wp_g [true, true, false, false] [1] [(2, false), (3, true)] 91
   [ve (nv (negM (Nm.mk 2 0))), ve (.bool (!(strangeN (trimN u)))), vt, vt]
   [] newsNil dt (.eq (.eq (.tt (.tt (.nil))))) ?_ ?_ ?_
 refine .t (fun _ w hn k => ⟨_, v_load rfl (k.fx 7 fF) (l_two Tryd.isAgg23 Tryd.sizeOf23 (iJ.new_ hn)), rfl⟩) ?_
 refine .o3 ?_
 exact .off <| .off .nil
 intro i h
 simp only [List.contains_eq_mem, List.mem_cons, List.not_mem_nil, or_false, decide_eq_true_eq] at h
 subst h
 exact eager_take rfl rfl fun _ w hn k => ⟨.bool (!(strangeN (trimN u))), fun w => v_move rfl (k.fx 8 mx), rfl⟩
 refine aftI dt iF iO fun fH qy dv iQ iR iS bQ => ?_
 have fI := bQ.fx 2 mw
 have fJ := bQ.ge 0 89 rfl
 have fK := bQ.ge 1 90 rfl
 have iT := iN.new_ iS
 obtain ⟨qz, -, fL, iU, iV, oY⟩ := s_two (v0 := iv ((negM (Nm.mk 2 0)).k)) (v1 := iv ((negM (Nm.mk 2 0)).n)) Tryd.sizeOf23 rfl rfl rfl iT
 refine st_act rfl rfl fun qA iW => a_store' rfl fI fJ fL (iW _ _ trivial ?_)
 have iX := iR.trans iV (fun _ h b => by subst b; omega)
 refine st_take rfl rfl (y_assign (v := .bool (!(strangeN (trimN u)))) rfl fK) rfl ?_
 obtain ⟨mz, aq⟩ : ∃ a', a' = fH.put (some 3) (.bool (!(strangeN (trimN u)))) := ⟨_, rfl⟩
 have oZ := pz aq dv
 have iY := pd aq iQ
 have mA := pn aq fI (by decide)
 have qB := pn aq fJ (by decide)
 have qC := pn aq fK (by decide)
 have mB : mz.eval (.tmp 3) = .bool (!(strangeN (trimN u))) := by rw [aq]; exact put_same _ _ _ (by rw [dv]; decide)
 show stepsTo _ _ _ _ _ (fH.put (some 3) (.bool (!(strangeN (trimN u))))) _
 rw [← aq]
 refine st_nil (iP _ _ ?_)
 refine wp_ret (ret_k iY (v := .tuple #[nv (negM (Nm.mk 2 0)), .bool (!(strangeN (trimN u)))]) (res_ct rfl mA mB (l_two Tryd.isAgg23 Tryd.sizeOf23 iU)) ?_)
 refine ⟨?_, iX⟩
 show Ending.returned (.tuple #[nv (negM (Nm.mk 2 0)), .bool (!(strangeN (trimN u)))]) = Ending.returned (.tuple #[nv ((numT u).1), .bool ((numT u).2)])
 first | rfl | (simp only [hbody, bodyT, ab, ac, ad, af, aP, bsm] <;> rfl) | (exfalso; omega)
 have iZ := hB fE aP
 refine wp_cond_false iZ ?_
 refine wp_skip ?_
 refine dn _ _ ?_
 refine wp_seq_k fun qD i0 => ?_
 refine wp_g [true, true, false, false] [1] [(2, false), (3, true)] 91
   [ve (nv (Nm.mk 2 0)), ve (.bool (!(strangeN (trimN u)))), vt, vt]
   [] newsNil bg (.eq (.eq (.tt (.tt (.nil))))) ?_ ?_ ?_
 refine .t (fun _ w hn k => ⟨_, v_load rfl (k.fx 7 ct) (l_two Tryd.isAgg23 Tryd.sizeOf23 (bP.new_ hn)), rfl⟩) ?_
 refine .o3 ?_
 exact .off <| .off .nil
 intro i h
 simp only [List.contains_eq_mem, List.mem_cons, List.not_mem_nil, or_false, decide_eq_true_eq] at h
 subst h
 exact eager_take rfl rfl fun _ w hn k => ⟨.bool (!(strangeN (trimN u))), fun w => v_move rfl (k.fx 8 fD), rfl⟩
 refine aftI bg dp dq fun fM qE dx i1 i2 i3 bR => ?_
 have fN := bR.fx 2 fC
 have fO := bR.ge 0 89 rfl
 have fP := bR.ge 1 90 rfl
 have i4 := ds.new_ i3
 obtain ⟨qF, -, fQ, i5, i6, o0⟩ := s_two (v0 := iv 2) (v1 := iv 0) Tryd.sizeOf23 rfl rfl rfl i4
 refine st_act rfl rfl fun qG i7 => a_store' rfl fN fO fQ (i7 _ _ trivial ?_)
 have i8 := i2.trans i6 (fun _ h b => by subst b; omega)
 refine st_take rfl rfl (y_assign (v := .bool (!(strangeN (trimN u)))) rfl fP) rfl ?_
 obtain ⟨mC, ar⟩ : ∃ a', a' = fM.put (some 3) (.bool (!(strangeN (trimN u)))) := ⟨_, rfl⟩
 have o5 := pz ar dx
 have i9 := pd ar i1
 have mD := pn ar fN (by decide)
 have qH := pn ar fO (by decide)
 have qI := pn ar fP (by decide)
 have mE : mC.eval (.tmp 3) = .bool (!(strangeN (trimN u))) := by rw [ar]; exact put_same _ _ _ (by rw [dx]; decide)
 show stepsTo _ _ _ _ _ (fM.put (some 3) (.bool (!(strangeN (trimN u))))) _
 rw [← ar]
 refine st_nil (i0 _ _ ?_)
 refine wp_ret (ret_k i9 (v := .tuple #[nv (Nm.mk 2 0), .bool (!(strangeN (trimN u)))]) (res_ct rfl mD mE (l_two Tryd.isAgg23 Tryd.sizeOf23 i5)) ?_)
 refine ⟨?_, i8⟩
 show Ending.returned (.tuple #[nv (Nm.mk 2 0), .bool (!(strangeN (trimN u)))]) = Ending.returned (.tuple #[nv ((numT u).1), .bool ((numT u).2)])
 first | rfl | (simp only [hbody, bodyT, ab, ac, ad, af, aP, bsm] <;> rfl) | (exfalso; omega)
 have ja : fw.eval (.tmp 67) = .bool true := fB.trans (congrArg Value.bool (by rw [af]; rfl))
 refine wp_cond_true ja ?_
 refine wp_seq_k fun qJ jb => ?_
 refine wp_g0 [true, true, true, true, true, true, true] [] 91
   [ve (sv A5 dd c5), ve (.tuple #[iv ((valR dd 0).1), .bool ((valR dd 0).2)]), ve (.tuple #[iv ((valR dd 0).1), .bool ((valR dd 0).2)]), ve (iv ((valR dd 0).1)), ve (.bool ((valR dd 0).2)), ve (iv ((valR dd 0).1)), ve (.bool ((valR dd 0).2))] be (.eq (.eq (.eq (.eq (.eq (.eq (.eq (.nil)))))))) ?_ ?_
 exact .m (fun k => k.fx 5 mt) <| .o1 (ck rfl rfl rfl (fun _ w hn k => ⟨#[sv A5 dd c5], args1 (k.eq1 0 77 rfl), fun _ => by kernel_rfl, value_c _ dd _ _ (iB.new_ hn) hdd (digs_of af)⟩) fun _ => rfl) <| .m (fun k => k.eq1 1 78 rfl) <| .t (fun _ w hn k => ⟨_, v_extract rfl (k.eq1 2 76 rfl) rfl, rfl⟩) <| .t (fun _ w hn k => ⟨_, v_extract rfl (k.eq1 2 76 rfl) rfl, rfl⟩) <| .a (fun k => k.eq1 3 79 rfl) <| .a (fun k => k.eq1 4 80 rfl) .nil
 refine aftI be dj dk fun qK qL dy jc jd bS aB => ?_
 have mF := aB.fx 6 fy
 have mG := aB.fx 2 fz
 have mH := aB.fx 4 mu
 have mI := aB.fx 7 fA
 have mJ := aB.ge 5 9 rfl
 have mK := aB.ge 6 10 rfl
 have je := dl.new_ bS
 have jf := iA.new_ bS
 have jg := dm.new_ bS
 refine st_nil (jb _ _ (wp_seq_k fun qM jh => ?_))
 refine wp_seq_k fun qN ji => ?_
 refine wp_g0 [true, true] [] 91
   [ve (.bool ((valR dd 0).2)), ve (.bool (!((valR dd 0).2)))] dy (.eq (.eq (.nil))) ?_ ?_
 exact .m (fun k => k.fx 10 mK) <| .t (fun _ w hn k => ⟨_, v_not rfl (k.eq1 0 81 rfl), rfl⟩) .nil
 refine aftI dy jc jd fun fR qO bj dz dA bT aC => ?_
 have mL := aC.fx 6 mF
 have fS := aC.fx 2 mG
 have mM := aC.fx 4 mH
 have mN := aC.fx 7 mI
 have mO := aC.fx 9 mJ
 have fT := aC.ge 1 82 rfl
 have dB := je.new_ bT
 have jj := jf.new_ bT
 have jk := jg.new_ bT
 refine st_nil (ji _ _ ?_)
 rcases bc ((valR dd 0).2) with aD | aD
 have jl : fR.eval (.tmp 82) = .bool false := fT.trans (congrArg Value.bool (by rw [aD]; rfl))
 refine wp_cond_false jl ?_
 refine wp_skip ?_
 refine jh _ _ ?_
 refine wp_g0 [true, true, false, false] [(2, false), (3, true)] 91
   [ve (iv ((valR dd 0).1)), ve (nv (Nm.mk 0 ((valR dd 0).1))), vt, vt] bj (.eq (.eq (.tt (.tt (.nil))))) ?_ ?_
 exact .m (fun k => k.fx 9 mO) <| .t (fun _ w hn k => ⟨_, v_build (ps := [(1, iv ((valR dd 0).1))]) rfl (parts1 (k.eq1 0 84 rfl)) (by kernel_rfl), rfl⟩) <| .off <| .off .nil
 refine aftI bj dz dA fun fU qP dC jm jn dD bk => ?_
 have mP := bk.fx 6 mL
 have mQ := bk.fx 2 fS
 have fV := bk.fx 7 mN
 have fW := bk.ge 1 85 rfl
 have jo := dB.new_ dD
 have jp := jk.new_ dD
 obtain ⟨qQ, -, fX, jq, jr, js⟩ := s_two (v0 := iv 0) (v1 := iv ((valR dd 0).1)) Tryd.sizeOf23 rfl rfl rfl jp
 refine st_act rfl rfl fun qR jt => a_store' rfl fV fW fX (jt _ _ trivial ?_)
 have ju := js _ _ _ (hne156) jo
 have jv := jn.trans jr (fun _ h b => by subst b; omega)
 refine st_take rfl rfl (y_assign (v := .bool true) rfl rfl) rfl ?_
 obtain ⟨mR, ag⟩ : ∃ a', a' = fU.put (some 8) (.bool true) := ⟨_, rfl⟩
 have dE := pz ag dC
 have jw := pd ag jm
 have mS := pn ag mP (by decide)
 have mT := pn ag mQ (by decide)
 have mU := pn ag fV (by decide)
 have qS := pn ag fW (by decide)
 have mV : mR.eval (.tmp 8) = .bool true := by rw [ag]; exact put_same _ _ _ (by rw [dC]; decide)
 show stepsTo _ _ _ _ _ (fU.put (some 8) (.bool true)) _
 rw [← ag]
 refine st_nil (a4 _ _ (wp_seq_k fun qT dF => ?_))
 refine wp_seq_k fun qU jx => ?_
 refine wp_g0 [true] [] 91
   [ve (.bool ng)] dE (.eq (.nil)) ?_ ?_
 exact .m (fun k => k.fx 6 mS) .nil
 refine aftI dE jw jv fun qV qW bl dG dH dI bm => ?_
 have fY := bm.fx 2 mT
 have cv := bm.fx 7 mU
 have fZ := bm.fx 8 mV
 have f0 := bm.ge 0 86 rfl
 have dJ := ju.new_ dI
 have bU := jq.new_ dI
 refine st_nil (jx _ _ ?_)
 rcases bc (ng) with aQ | aQ
 have jy := hB f0 aQ
 refine wp_cond_true jy ?_
 refine wp_g0 [true, true, false] [(2, false)] 91
   [ve (nv (Nm.mk 0 ((valR dd 0).1))), ve (nv (negM (Nm.mk 0 ((valR dd 0).1)))), vt] bl (.eq (.eq (.tt (.nil)))) ?_ ?_
 exact .t (fun _ w hn k => ⟨_, v_load rfl (k.fx 7 cv) (l_two Tryd.isAgg23 Tryd.sizeOf23 (bU.new_ hn)), rfl⟩) <| .o1 (ck rfl rfl rfl (fun _ w hn k => ⟨#[nv (Nm.mk 0 ((valR dd 0).1))], args1 (k.eq1 0 87 rfl), fun _ => by kernel_rfl, nneg_c (Nm.mk 0 ((valR dd 0).1)) _ ⟩) fun _ => rfl) <| .off .nil
 refine aftI bl dG dH fun qX qY dK jz jA dL bn => ?_
 have mW := bn.fx 2 fY
 have f1 := bn.fx 7 cv
 have mX := bn.fx 8 fZ
 have mY := bn.ge 1 88 rfl
 have jB := dJ.new_ dL
 have jC := bU.new_ dL
 obtain ⟨qZ, -, f2, jD, jE, jF⟩ := s_two (v0 := iv ((negM (Nm.mk 0 ((valR dd 0).1))).k)) (v1 := iv ((negM (Nm.mk 0 ((valR dd 0).1))).n)) Tryd.sizeOf23 rfl rfl rfl jC
 refine st_act rfl rfl fun q0 jG => a_store' rfl f1 mY f2 (jG _ _ trivial ?_)
 have jH := jF _ _ _ (hne156) jB
 have jI := jA.trans jE (fun _ h b => by subst b; omega)
 refine st_nil (dF _ _ (wp_seq_k fun q1 jJ => ?_))
 refine wp_g [true, true, false, false] [1] [(2, false), (3, true)] 91
   [ve (nv (negM (Nm.mk 0 ((valR dd 0).1)))), vT, vt, vt]
   [] newsNil dK (.eq (.eq (.tt (.tt (.nil))))) ?_ ?_ ?_
 refine .t (fun _ w hn k => ⟨_, v_load rfl (k.fx 7 f1) (l_two Tryd.isAgg23 Tryd.sizeOf23 (jD.new_ hn)), rfl⟩) ?_
 refine .o3 ?_
 exact .off <| .off .nil
 intro i h
 simp only [List.contains_eq_mem, List.mem_cons, List.not_mem_nil, or_false, decide_eq_true_eq] at h
 subst h
 exact eager_take rfl rfl fun _ w hn k => ⟨.bool true, fun w => v_move rfl (k.fx 8 mX), rfl⟩
 refine aftI dK jz jI fun f3 q2 dM jK jL jM bV => ?_
 have f4 := bV.fx 2 mW
 have f5 := bV.ge 0 89 rfl
 have f6 := bV.ge 1 90 rfl
 have jN := jH.new_ jM
 obtain ⟨q3, -, f7, jO, jP, o7⟩ := s_two (v0 := iv ((negM (Nm.mk 0 ((valR dd 0).1))).k)) (v1 := iv ((negM (Nm.mk 0 ((valR dd 0).1))).n)) Tryd.sizeOf23 rfl rfl rfl jN
 refine st_act rfl rfl fun q4 jQ => a_store' rfl f4 f5 f7 (jQ _ _ trivial ?_)
 have jR := jL.trans jP (fun _ h b => by subst b; omega)
 refine st_take rfl rfl (y_assign (v := .bool true) rfl f6) rfl ?_
 obtain ⟨mZ, au⟩ : ∃ a', a' = f3.put (some 3) (.bool true) := ⟨_, rfl⟩
 have o8 := pz au dM
 have jS := pd au jK
 have m0 := pn au f4 (by decide)
 have q5 := pn au f5 (by decide)
 have q6 := pn au f6 (by decide)
 have m1 : mZ.eval (.tmp 3) = .bool true := by rw [au]; exact put_same _ _ _ (by rw [dM]; decide)
 show stepsTo _ _ _ _ _ (f3.put (some 3) (.bool true)) _
 rw [← au]
 refine st_nil (jJ _ _ ?_)
 refine wp_ret (ret_k jS (v := .tuple #[nv (negM (Nm.mk 0 ((valR dd 0).1))), .bool true]) (res_ct rfl m0 m1 (l_two Tryd.isAgg23 Tryd.sizeOf23 jO)) ?_)
 refine ⟨?_, jR⟩
 show Ending.returned (.tuple #[nv (negM (Nm.mk 0 ((valR dd 0).1))), .bool true]) = Ending.returned (.tuple #[nv ((numT u).1), .bool ((numT u).2)])
 first | rfl | (simp only [hbody, bodyT, ab, ac, ad, af, aD, aQ, bsm] <;> rfl) | (exfalso; omega)
 have jT := hB f0 aQ
 refine wp_cond_false jT ?_
 refine wp_skip ?_
 refine dF _ _ ?_
 refine wp_seq_k fun q7 jU => ?_
 refine wp_g [true, true, false, false] [1] [(2, false), (3, true)] 91
   [ve (nv (Nm.mk 0 ((valR dd 0).1))), vT, vt, vt]
   [] newsNil bl (.eq (.eq (.tt (.tt (.nil))))) ?_ ?_ ?_
 refine .t (fun _ w hn k => ⟨_, v_load rfl (k.fx 7 cv) (l_two Tryd.isAgg23 Tryd.sizeOf23 (bU.new_ hn)), rfl⟩) ?_
 refine .o3 ?_
 exact .off <| .off .nil
 intro i h
 simp only [List.contains_eq_mem, List.mem_cons, List.not_mem_nil, or_false, decide_eq_true_eq] at h
 subst h
 exact eager_take rfl rfl fun _ w hn k => ⟨.bool true, fun w => v_move rfl (k.fx 8 fZ), rfl⟩
 refine aftI bl dG dH fun f8 q8 dN jV jW jX bW => ?_
 have f9 := bW.fx 2 fY
 have ga := bW.ge 0 89 rfl
 have gb := bW.ge 1 90 rfl
 have jY := dJ.new_ jX
 obtain ⟨q9, -, gc, jZ, j0, o9⟩ := s_two (v0 := iv 0) (v1 := iv ((valR dd 0).1)) Tryd.sizeOf23 rfl rfl rfl jY
 refine st_act rfl rfl fun ra j1 => a_store' rfl f9 ga gc (j1 _ _ trivial ?_)
 have j2 := jW.trans j0 (fun _ h b => by subst b; omega)
 refine st_take rfl rfl (y_assign (v := .bool true) rfl gb) rfl ?_
 obtain ⟨m2, av⟩ : ∃ a', a' = f8.put (some 3) (.bool true) := ⟨_, rfl⟩
 have pa := pz av dN
 have j3 := pd av jV
 have m3 := pn av f9 (by decide)
 have rb := pn av ga (by decide)
 have rc := pn av gb (by decide)
 have m4 : m2.eval (.tmp 3) = .bool true := by rw [av]; exact put_same _ _ _ (by rw [dN]; decide)
 show stepsTo _ _ _ _ _ (f8.put (some 3) (.bool true)) _
 rw [← av]
 refine st_nil (jU _ _ ?_)
 refine wp_ret (ret_k j3 (v := .tuple #[nv (Nm.mk 0 ((valR dd 0).1)), .bool true]) (res_ct rfl m3 m4 (l_two Tryd.isAgg23 Tryd.sizeOf23 jZ)) ?_)
 refine ⟨?_, j2⟩
 show Ending.returned (.tuple #[nv (Nm.mk 0 ((valR dd 0).1)), .bool true]) = Ending.returned (.tuple #[nv ((numT u).1), .bool ((numT u).2)])
 first | rfl | (simp only [hbody, bodyT, ab, ac, ad, af, aD, aQ, bsm] <;> rfl) | (exfalso; omega)
 have j4 : fR.eval (.tmp 82) = .bool true := fT.trans (congrArg Value.bool (by rw [aD]; rfl))
 refine wp_cond_true j4 ?_
 refine wp_seq_k fun rd j5 => ?_
 refine wp_g0 [true, false, false] [(1, false), (2, true)] 91
   [ve (nv (Nm.mk 2 0)), vt, vt] bj (.eq (.tt (.tt (.nil)))) ?_ ?_
 exact .t (fun _ w hn k => ⟨_, v_load rfl (k.fx 4 mM) (l_two Tryd.isAgg23 Tryd.sizeOf23 (jj.new_ hn)), rfl⟩) <| .off <| .off .nil
 refine aftI bj dz dA fun gd re dO j6 j7 j8 dP => ?_
 have gf := dP.fx 2 fS
 have gg := dP.ge 0 83 rfl
 have j9 := dB.new_ j8
 obtain ⟨rf, -, gh, ka, kb, pb⟩ := s_two (v0 := iv 2) (v1 := iv 0) Tryd.sizeOf23 rfl rfl rfl j9
 refine st_act rfl rfl fun rg kc => a_store' rfl gf gg gh (kc _ _ trivial ?_)
 have kd := j7.trans kb (fun _ h b => by subst b; omega)
 refine st_take rfl rfl (y_assign (v := .bool false) rfl rfl) rfl ?_
 obtain ⟨m5, aE⟩ : ∃ a', a' = gd.put (some 3) (.bool false) := ⟨_, rfl⟩
 have pc := pz aE dO
 have ke := pd aE j6
 have m6 := pn aE gf (by decide)
 have rh := pn aE gg (by decide)
 have m7 : m5.eval (.tmp 3) = .bool false := by rw [aE]; exact put_same _ _ _ (by rw [dO]; decide)
 show stepsTo _ _ _ _ _ (gd.put (some 3) (.bool false)) _
 rw [← aE]
 refine st_nil (j5 _ _ ?_)
 refine wp_ret (ret_k ke (v := .tuple #[nv (Nm.mk 2 0), .bool false]) (res_ct rfl m6 m7 (l_two Tryd.isAgg23 Tryd.sizeOf23 ka)) ?_)
 refine ⟨?_, kd⟩
 show Ending.returned (.tuple #[nv (Nm.mk 2 0), .bool false]) = Ending.returned (.tuple #[nv ((numT u).1), .bool ((numT u).2)])
 first | rfl | (simp only [hbody, bodyT, ab, ac, ad, af, aD, bsm] <;> rfl) | (exfalso; omega)
 intro ri bX
 refine wp_seq_k fun rj dQ => ?_
 rcases bc (decide ((((trimN u).getD 0 0 : Nat) : Int) = 45)) with ah | ah
 have gi := oT ah
 have dR := hB eL ah
 refine wp_g0 [true, true, true, true, true, true, true] [] 91
   [vT, vT, vU, vU, vU, vU, vT] a3 (.eq (.eq (.eq (.eq (.eq (.eq (.eq (.nil)))))))) ?_ ?_
 exact .m (fun k => k.fx 6 dR) <| .m (fun k => k.eq1 0 49 rfl) <| .s (fun k => k.eq1 1 50 rfl) <| .s (fun k => k.eq1 1 50 rfl) <| .s (fun k => k.eq1 1 50 rfl) <| .s (fun k => k.eq1 1 50 rfl) <| .t (fun _ w hn k => ⟨_, v_pickT rfl (k.eq1 1 50 rfl) rfl, rfl⟩) .nil
 refine aftI a3 cD cE fun rk rl dS kf kg bY aF => ?_
 have gj := aF.fx 0 cl
 have m8 := aF.fx 2 eI
 have m9 := aF.fx 4 eJ
 have rm := aF.fx 5 eK
 have na := aF.fx 6 dR
 have nb := aF.ge 6 55 rfl
 have kh := cF.new_ bY
 have ki := cG.new_ bY
 have dT := bA.new_ bY
 refine st_nil (dQ _ _ ?_)
 refine wp_cond_true nb ?_
 refine wp_g0 [true, true, true] [] 91
   [ve (sv A4 (trimN u) c4),
    (RP .u16 ((trimN u).drop 1)),
    (RP .u16 ((trimN u).drop 1))] dS (.eq (.cons (fun _ _ _ n ⟨_, _, e, h⟩ => ⟨_, _, e, h.new_ n⟩) (.cons (fun v W W' hn ⟨n4, n5, he, h0⟩ => ⟨n4, n5, he, h0.new_ hn⟩) (.nil)))) ?_ ?_
 refine .m (fun k => k.fx 0 gj) ?_
 refine .o1 (tk rfl rfl fun _ w hn k => (by
       exact x_cutL (k := .u16) rfl elU (k.eq1 0 56 rfl) rfl (dT.new_ hn) (by omega) fun n6 n7 hmr => ⟨n6, n7, rfl, hmr⟩)) ?_
 refine .o1 (tk rfl rfl fun _ w hn k => (by
       obtain ⟨n8, n9, oa, nc⟩ : (RP .u16 ((trimN u).drop 1)) _ _ := k.dep 1 57 (by kernel_rfl) (by kernel_rfl)
       exact ⟨_, v_assign rfl oa, ⟨n8, n9, rfl, nc⟩⟩)) ?_
 exact .nil
 refine aftI dS kf kg fun nd rn kj kk kl bZ aR => ?_
 have ne := aR.fx 0 gj
 have nf := aR.fx 2 m8
 have nh := aR.fx 4 m9
 have ni := aR.fx 6 na
 obtain ⟨gk, dU, cw, km⟩ : (RP .u16 ((trimN u).drop 1)) _ _ := aR.got 2 5 rfl (by kernel_rfl)
 have cw : nd.eval (.tmp 5) = sv gk ((trimN u).drop 1) dU := cw
 have kn := kh.new_ bZ
 have ko := ki.new_ bZ
 have kp := dT.new_ bZ
 refine st_nil ?_
 exact bX _ _ ⟨true, ((trimN u).drop 1), gk, dU, kj, kk, kl, cw, ni, ne, nf, nh, kn, ko, km, kp, (by unfold numT; simp only [ab, ah, bsm]), (hut.drop 1)⟩
 have gi := oF ah
 have dV := hB eL ah
 refine wp_g0 [true, true, true, true, true, true, true] [] 91
   [vF, vF, ve (sv A4 (trimN u) c4),
    (EP (.int .u16 (((trimN u).getD 0 0 : Nat) : Int))), ve (.int .u16 (((trimN u).getD 0 0 : Nat) : Int)), ve (.bool (decide ((((trimN u).getD 0 0 : Nat) : Int) = 43))), ve (.bool (decide ((((trimN u).getD 0 0 : Nat) : Int) = 43)))] a3 (.eq (.eq (.eq (.cons (fun _ _ _ n ⟨_, _, e, h⟩ => ⟨_, _, e, h.new_ n⟩) (.eq (.eq (.eq (.nil)))))))) ?_ ?_
 refine .m (fun k => k.fx 6 dV) <| .m (fun k => k.eq1 0 49 rfl) <| .gm (fun k => k.eq1 1 50 rfl) (fun k => k.fx 0 cl) ?_
 refine .o1 (tg rfl rfl rfl (fun _ _ k => k.eq1 1 50 rfl) fun _ w hn k => (by
       exact x_eaddr (k := .u16) rfl elU (k.eq1 2 51 rfl) rfl (bA.new_ hn) (by omega) fun od oe hme => ⟨od, oe, rfl, hme⟩)) ?_
 refine .o1 (tg rfl rfl rfl (fun _ _ k => k.eq1 1 50 rfl) fun _ w hn k => (by
       obtain ⟨r7, r8, og, nj⟩ : (EP (.int .u16 (((trimN u).getD 0 0 : Nat) : Int))) _ _ := k.dep 3 52 (by kernel_rfl) (by kernel_rfl)
       exact ⟨_, v_load rfl og (l_one Tryd.isAgg64 nj.1), rfl⟩)) ?_
 exact .g (fun k => k.eq1 1 50 rfl) (fun _ w hn k => ⟨_, v_bin rfl (k.eq1 4 53 rfl) rfl (fun _ => rfl) (r_eql rfl), rfl⟩) <| .t (fun _ w hn k => ⟨_, v_pickF rfl (k.eq1 1 50 rfl) (k.eq1 5 54 rfl), rfl⟩) .nil
 refine aftI a3 cD cE fun ro rp b0 dW dX b2 aG => ?_
 have cx := aG.fx 0 cl
 have gl := aG.fx 2 eI
 have gn := aG.fx 4 eJ
 have nk := aG.fx 5 eK
 have go := aG.fx 6 dV
 have gp := aG.ge 6 55 rfl
 have dY := cF.new_ b2
 have dZ := cG.new_ b2
 have bo := bA.new_ b2
 refine st_nil (dQ _ _ ?_)
 rcases bc (decide ((((trimN u).getD 0 0 : Nat) : Int) = 43)) with aw | aw
 have gq := oT aw
 have kq := hB gp aw
 refine wp_cond_true kq ?_
 refine wp_g0 [true, true, true] [] 91
   [ve (sv A4 (trimN u) c4),
    (RP .u16 ((trimN u).drop 1)),
    (RP .u16 ((trimN u).drop 1))] b0 (.eq (.cons (fun _ _ _ n ⟨_, _, e, h⟩ => ⟨_, _, e, h.new_ n⟩) (.cons (fun v W W' hn ⟨oj, ok, he, h0⟩ => ⟨oj, ok, he, h0.new_ hn⟩) (.nil)))) ?_ ?_
 refine .m (fun k => k.fx 0 cx) ?_
 refine .o1 (tk rfl rfl fun _ w hn k => (by
       exact x_cutL (k := .u16) rfl elU (k.eq1 0 56 rfl) rfl (bo.new_ hn) (by omega) fun ol om hmr => ⟨ol, om, rfl, hmr⟩)) ?_
 refine .o1 (tk rfl rfl fun _ w hn k => (by
       obtain ⟨oo, op, oq, nl⟩ : (RP .u16 ((trimN u).drop 1)) _ _ := k.dep 1 57 (by kernel_rfl) (by kernel_rfl)
       exact ⟨_, v_assign rfl oq, ⟨oo, op, rfl, nl⟩⟩)) ?_
 exact .nil
 refine aftI b0 dW dX fun nm rq kr ks kt b4 aS => ?_
 have nn := aS.fx 0 cx
 have np := aS.fx 2 gl
 have nq := aS.fx 4 gn
 have nr := aS.fx 6 go
 obtain ⟨gr, d0, cy, ku⟩ : (RP .u16 ((trimN u).drop 1)) _ _ := aS.got 2 5 rfl (by kernel_rfl)
 have cy : nm.eval (.tmp 5) = sv gr ((trimN u).drop 1) d0 := cy
 have kv := dY.new_ b4
 have kw := dZ.new_ b4
 have kx := bo.new_ b4
 refine st_nil ?_
 exact bX _ _ ⟨false, ((trimN u).drop 1), gr, d0, kr, ks, kt, cy, nr, nn, np, nq, kv, kw, ku, kx, (by unfold numT; simp only [ab, ah, aw, bsm]), (hut.drop 1)⟩
 have gq := oF aw
 have ky := hB gp aw
 refine wp_cond_false ky ?_
 refine wp_skip ?_
 exact bX _ _ ⟨false, (trimN u), A4, c4, b0, dW, dX, nk, go, cx, gl, gn, dY, dZ, bo, bo, (by unfold numT; simp only [ab, ah, aw, bsm]), hut⟩
 intro rr d1
 refine wp_block ?_
 refine wp_loopX (fun (mm : Nat) (aa : Act) (ww : World) => ∃ (cu2 : List Nat) (A2 : Option Addr) (c2 : Nat), mm = cu2.length ∧ aa.tmps.size = 91 ∧ aa.defers = [] ∧ New w ww ∧ aa.eval (.tmp 0) = sv A2 cu2 c2 ∧ aa.eval (.tmp 2) = pv ay ∧ Blk ww ay 23 [iv 0, iv 0] ∧ SRow ww .u16 A2 cu2 c2 ∧ (rtrimN cu2 = trimN u) ∧ (U16s cu2)) (fun mm => mm) ⟨_, ⟨(u.dropWhile blankN), A3, c3, rfl, lc, ld, le, nM, nN, lf, lg, rfl, (hu.dw _)⟩⟩ ?_
 rintro mm rs rt ⟨cu2, A2, c2, hmm, bp, d2, d3, aY, gs, d4, aT, hc2, hcu2⟩
 refine wp_seq_k fun ru kz => ?_
 refine wp_seq_k fun rv d5 => ?_
 have hix2 : ((cu2.length : Int) - 1).toNat = cu2.length - 1 := by omega
 rcases bc (decide ((cu2.length : Int) ≤ 0)) with aU | aU
 have gt := oT aU
 have hb := hcu2.at16 ((cu2.length : Int) - 1).toNat
 have k8 := aT.max
 refine wp_g0 (.replicate 12 true) [] 91
   [ve (sv A2 cu2 c2), ve (iv (cu2.length : Int)), vF, vF, vU, vU, vU, vU, vU, vU, vU, vF] bp (.eq (.eq (.eq (.eq (.eq (.eq (.eq (.eq (.eq (.eq (.eq (.eq (.nil))))))))))))) ?_ ?_
 exact .m (fun k => k.fx 0 aY) <| .t (fun _ w hn k => ⟨_, v_lenR rfl elU (k.eq1 0 22 rfl), rfl⟩) <| .t (fun _ w hn k => ⟨_, v_bin rfl (k.eq1 1 23 rfl) rfl (fun _ => rfl) (r_gtrK aU), rfl⟩) <| .m (fun k => k.eq1 2 24 rfl) <| .s (fun k => k.eq1 3 25 rfl) <| .s (fun k => k.eq1 3 25 rfl) <| .s (fun k => k.eq1 3 25 rfl) <| .s (fun k => k.eq1 3 25 rfl) <| .s (fun k => k.eq1 3 25 rfl) <| .s (fun k => k.eq1 3 25 rfl) <| .s (fun k => k.eq1 3 25 rfl) <| .t (fun _ w hn k => ⟨_, v_pickF rfl (k.eq1 3 25 rfl) rfl, rfl⟩) .nil
 refine aftI bp d2 d3 fun rx ry kA kB kC d6 b6 => ?_
 have gu := b6.fx 0 aY
 have ns := b6.fx 2 gs
 have nt := b6.ge 11 33 rfl
 have kD := d4.new_ d6
 have d7 := aT.new_ d6
 refine st_nil (d5 _ _ ?_)
 refine wp_cond_false nt ?_
 refine wp_exit ?_
 have hrt := rt_end (l := cu2) (Or.inl (by omega))
 have he851 : cu2 = (trimN u) := hrt.symm.trans hc2
 rw [he851] at gu
 rw [he851] at d7
 exact d1 _ _ ⟨A2, c2, kA, kB, kC, gu, ns, kD, d7⟩
 have gt := oF aU
 have hb := hcu2.at16 ((cu2.length : Int) - 1).toNat
 have k8 := aT.max
 refine wp_g0 (.replicate 12 true) [] 91
   [ve (sv A2 cu2 c2), ve (iv (cu2.length : Int)), vT, vT, ve (sv A2 cu2 c2), ve (sv A2 cu2 c2), ve (iv (cu2.length : Int)), ve (iv ((cu2.length : Int) - 1)),
    (EP (.int .u16 ((cu2.getD (((cu2.length : Int) - 1 : Int).toNat) 0 : Nat) : Int))), ve (.int .u16 ((cu2.getD (((cu2.length : Int) - 1 : Int).toNat) 0 : Nat) : Int)), ve (.bool (blankN (cu2.getD (((cu2.length : Int) - 1 : Int).toNat) 0))), ve (.bool (blankN (cu2.getD (((cu2.length : Int) - 1 : Int).toNat) 0)))] bp (.eq (.eq (.eq (.eq (.eq (.eq (.eq (.eq (.cons (fun _ _ _ n ⟨_, _, e, h⟩ => ⟨_, _, e, h.new_ n⟩) (.eq (.eq (.eq (.nil))))))))))))) ?_ ?_
 refine .m (fun k => k.fx 0 aY) <| .t (fun _ w hn k => ⟨_, v_lenR rfl elU (k.eq1 0 22 rfl), rfl⟩) <| .t (fun _ w hn k => ⟨_, v_bin rfl (k.eq1 1 23 rfl) rfl (fun _ => rfl) (r_gtrK aU), rfl⟩) <| .m (fun k => k.eq1 2 24 rfl) <| .gm (fun k => k.eq1 3 25 rfl) (fun k => k.fx 0 aY) <| .gm (fun k => k.eq1 3 25 rfl) (fun k => k.fx 0 aY) <| .g (fun k => k.eq1 3 25 rfl) (fun _ w hn k => ⟨_, v_lenR rfl elU (k.eq1 5 27 rfl), rfl⟩) <| .g (fun k => k.eq1 3 25 rfl) (fun _ w hn k => ⟨_, v_bin rfl (k.eq1 6 28 rfl) rfl (fun _ => rfl) (r_sub rfl (by omega)), rfl⟩) ?_
 refine .o1 (tg rfl rfl rfl (fun _ _ k => k.eq1 3 25 rfl) fun _ w hn k => (by
       exact x_eaddr (k := .u16) rfl elU (k.eq1 4 26 rfl) (k.eq1 7 29 rfl) (aT.new_ hn) (by omega) fun ou ov hme => ⟨ou, ov, rfl, hme⟩)) ?_
 refine .o1 (tg rfl rfl rfl (fun _ _ k => k.eq1 3 25 rfl) fun _ w hn k => (by
       obtain ⟨r9, sa, ow, nu⟩ : (EP (.int .u16 ((cu2.getD (((cu2.length : Int) - 1 : Int).toNat) 0 : Nat) : Int))) _ _ := k.dep 8 30 (by kernel_rfl) (by kernel_rfl)
       exact ⟨_, v_load rfl ow (l_one Tryd.isAgg64 nu.1), rfl⟩)) ?_
 exact .o1 (cg rfl rfl rfl (fun _ _ k => k.eq1 3 25 rfl) rfl (fun _ w hn k => ⟨#[.int .u16 ((cu2.getD (((cu2.length : Int) - 1 : Int).toNat) 0 : Nat) : Int)], args1 (k.eq1 9 31 rfl), fun _ => by kernel_rfl, blank_c (cu2.getD (((cu2.length : Int) - 1 : Int).toNat) 0) _ (by omega)⟩) fun _ => rfl) <| .t (fun _ w hn k => ⟨_, v_pickT rfl (k.eq1 3 25 rfl) (k.eq1 10 32 rfl), rfl⟩) .nil
 refine aftI bp d2 d3 fun rz rA b7 d8 d9 ea b8 => ?_
 have bt := b8.fx 0 aY
 have gv := b8.fx 2 gs
 have gw := b8.ge 11 33 rfl
 have eb := d4.new_ ea
 have aV := aT.new_ ea
 refine st_nil (d5 _ _ ?_)
 rcases bc (blankN (cu2.getD (((cu2.length : Int) - 1 : Int).toNat) 0)) with ax | ax
 have kE := hB gw ax
 refine wp_cond_true kE ?_
 refine wp_skip ?_
 refine kz _ _ ?_
 refine wp_block ?_
 have k8 := aV.max
 refine wp_g0 [true, true, true, true, true, false] [(5, true)] 91
   [ve (sv A2 cu2 c2), ve (sv A2 cu2 c2), ve (iv (cu2.length : Int)), ve (iv ((cu2.length : Int) - 1)),
    (RP .u16 (cu2.take (((cu2.length : Int) - 1 : Int).toNat))), vt] b7 (.eq (.eq (.eq (.eq (.cons (fun _ _ _ n ⟨_, _, e, h⟩ => ⟨_, _, e, h.new_ n⟩) (.tt (.nil))))))) ?_ ?_
 refine .m (fun k => k.fx 0 bt) <| .m (fun k => k.fx 0 bt) <| .t (fun _ w hn k => ⟨_, v_lenR rfl elU (k.eq1 1 35 rfl), rfl⟩) <| .t (fun _ w hn k => ⟨_, v_bin rfl (k.eq1 2 36 rfl) rfl (fun _ => rfl) (r_sub rfl (by omega)), rfl⟩) ?_
 refine .o1 (tk rfl rfl fun _ w hn k => (by
       exact x_cutH (k := .u16) rfl elU (k.eq1 0 34 rfl) (k.eq1 3 37 rfl) (aV.new_ hn) (by omega) fun oz oA hmr => ⟨oz, oA, rfl, hmr⟩)) ?_
 exact .off .nil
 refine aftI b7 d8 d9 fun cz rB ec kF kG ed b9 => ?_
 have rC := b9.fx 0 bt
 have nx := b9.fx 2 gv
 obtain ⟨aZ, aH, ca, kH⟩ : (RP .u16 (cu2.take (((cu2.length : Int) - 1 : Int).toNat))) _ _ := b9.got 4 38 rfl (by kernel_rfl)
 have ca : cz.eval (.tmp 38) = sv aZ (cu2.take (((cu2.length : Int) - 1 : Int).toNat)) aH := ca
 have kI := eb.new_ ed
 have pe := aV.new_ ed
 refine st_take rfl rfl (y_assign (v := sv aZ (cu2.take (((cu2.length : Int) - 1 : Int).toNat)) aH) rfl ca) rfl ?_
 obtain ⟨ny, aI⟩ : ∃ a', a' = cz.put (some 0) (sv aZ (cu2.take (((cu2.length : Int) - 1 : Int).toNat)) aH) := ⟨_, rfl⟩
 have kJ := pz aI ec
 have kK := pd aI kF
 have nz := pn aI nx (by decide)
 have rD := pn aI ca (by decide)
 have nA : ny.eval (.tmp 0) = sv aZ (cu2.take (((cu2.length : Int) - 1 : Int).toNat)) aH := by rw [aI]; exact put_same _ _ _ (by rw [ec]; decide)
 show stepsTo _ _ _ _ _ (cz.put (some 0) (sv aZ (cu2.take (((cu2.length : Int) - 1 : Int).toNat)) aH)) _
 rw [← aI]
 refine st_nil ?_
 refine blk_n ?_
 refine then_n ?_
 exact ⟨_, ⟨(cu2.take (((cu2.length : Int) - 1 : Int).toNat)), aZ, aH, rfl, kJ, kK, kG, nA, nz, kI, kH, (by rw [hix2]; rw [hix2] at ax; exact (rt_step (by omega) ax).trans hc2), (hcu2.take _)⟩, (by rw [List.length_take]; omega)⟩
 have kL := hB gw ax
 refine wp_cond_false kL ?_
 refine wp_exit ?_
 rw [hix2] at ax
 have hrt := rt_end (l := cu2) (Or.inr ⟨by omega, ax⟩)
 have he889 : cu2 = (trimN u) := hrt.symm.trans hc2
 rw [he889] at bt
 rw [he889] at aV
 exact d1 _ _ ⟨A2, c2, b7, d8, d9, bt, gv, eb, aV⟩
 intro rE ee
 refine wp_block ?_
 refine wp_loopX (fun (mm : Nat) (aa : Act) (ww : World) => ∃ (cur : List Nat) (A1 : Option Addr) (c1 : Nat), mm = cur.length ∧ aa.tmps.size = 91 ∧ aa.defers = [] ∧ New w ww ∧ aa.eval (.tmp 0) = sv A1 cur c1 ∧ aa.eval (.tmp 2) = pv ay ∧ Blk ww ay 23 [iv 0, iv 0] ∧ SRow ww .u16 A1 cur c1 ∧ (cur.dropWhile blankN = u.dropWhile blankN) ∧ (U16s cur)) (fun mm => mm) ⟨_, ⟨u, Au, cu, rfl, nK, nL, es, h8, h9, la, (hru.new_ es), rfl, hu⟩⟩ ?_
 rintro mm rF rG ⟨cur, A1, c1, hmm, bq, ef, eg, bu, gx, eh, cb, hcd, hcu⟩
 refine wp_seq_k fun rH kM => ?_
 refine wp_seq_k fun rI ei => ?_
 rcases bc (decide ((cur.length : Int) ≤ 0)) with aW | aW
 have gy := oT aW
 have hb := hcu.at16 0
 refine wp_g0 (.replicate 9 true) [] 91
   [ve (sv A1 cur c1), ve (iv (cur.length : Int)), vF, vF, vU, vU, vU, vU, vF] bq (.eq (.eq (.eq (.eq (.eq (.eq (.eq (.eq (.eq (.nil)))))))))) ?_ ?_
 exact .m (fun k => k.fx 0 bu) <| .t (fun _ w hn k => ⟨_, v_lenR rfl elU (k.eq1 0 11 rfl), rfl⟩) <| .t (fun _ w hn k => ⟨_, v_bin rfl (k.eq1 1 12 rfl) rfl (fun _ => rfl) (r_gtrK aW), rfl⟩) <| .m (fun k => k.eq1 2 13 rfl) <| .s (fun k => k.eq1 3 14 rfl) <| .s (fun k => k.eq1 3 14 rfl) <| .s (fun k => k.eq1 3 14 rfl) <| .s (fun k => k.eq1 3 14 rfl) <| .t (fun _ w hn k => ⟨_, v_pickF rfl (k.eq1 3 14 rfl) rfl, rfl⟩) .nil
 refine aftI bq ef eg fun rJ rK kN kO kP ej cc => ?_
 have gz := cc.fx 0 bu
 have nB := cc.fx 2 gx
 have nC := cc.ge 8 19 rfl
 have kQ := eh.new_ ej
 have ek := cb.new_ ej
 refine st_nil (ei _ _ ?_)
 refine wp_cond_false nC ?_
 refine wp_exit ?_
 have hdw := dw_end (l := cur) (Or.inl (by omega))
 have he915 : cur = (u.dropWhile blankN) := hdw.symm.trans hcd
 rw [he915] at gz
 rw [he915] at ek
 exact ee _ _ ⟨A1, c1, kN, kO, kP, gz, nB, kQ, ek⟩
 have gy := oF aW
 have hb := hcu.at16 0
 refine wp_g0 (.replicate 9 true) [] 91
   [ve (sv A1 cur c1), ve (iv (cur.length : Int)), vT, vT, ve (sv A1 cur c1),
    (EP (.int .u16 ((cur.getD 0 0 : Nat) : Int))), ve (.int .u16 ((cur.getD 0 0 : Nat) : Int)), ve (.bool (blankN (cur.getD 0 0))), ve (.bool (blankN (cur.getD 0 0)))] bq (.eq (.eq (.eq (.eq (.eq (.cons (fun _ _ _ n ⟨_, _, e, h⟩ => ⟨_, _, e, h.new_ n⟩) (.eq (.eq (.eq (.nil)))))))))) ?_ ?_
 refine .m (fun k => k.fx 0 bu) <| .t (fun _ w hn k => ⟨_, v_lenR rfl elU (k.eq1 0 11 rfl), rfl⟩) <| .t (fun _ w hn k => ⟨_, v_bin rfl (k.eq1 1 12 rfl) rfl (fun _ => rfl) (r_gtrK aW), rfl⟩) <| .m (fun k => k.eq1 2 13 rfl) <| .gm (fun k => k.eq1 3 14 rfl) (fun k => k.fx 0 bu) ?_
 refine .o1 (tg rfl rfl rfl (fun _ _ k => k.eq1 3 14 rfl) fun _ w hn k => (by
       exact x_eaddr (k := .u16) rfl elU (k.eq1 4 15 rfl) rfl (cb.new_ hn) (by omega) fun oD oE hme => ⟨oD, oE, rfl, hme⟩)) ?_
 refine .o1 (tg rfl rfl rfl (fun _ _ k => k.eq1 3 14 rfl) fun _ w hn k => (by
       obtain ⟨sb, sc, oG, nD⟩ : (EP (.int .u16 ((cur.getD 0 0 : Nat) : Int))) _ _ := k.dep 5 16 (by kernel_rfl) (by kernel_rfl)
       exact ⟨_, v_load rfl oG (l_one Tryd.isAgg64 nD.1), rfl⟩)) ?_
 exact .o1 (cg rfl rfl rfl (fun _ _ k => k.eq1 3 14 rfl) rfl (fun _ w hn k => ⟨#[.int .u16 ((cur.getD 0 0 : Nat) : Int)], args1 (k.eq1 6 17 rfl), fun _ => by kernel_rfl, blank_c (cur.getD 0 0) _ (by omega)⟩) fun _ => rfl) <| .t (fun _ w hn k => ⟨_, v_pickT rfl (k.eq1 3 14 rfl) (k.eq1 7 18 rfl), rfl⟩) .nil
 refine aftI bq ef eg fun rL rM cd el em en ce => ?_
 have cf := ce.fx 0 bu
 have gA := ce.fx 2 gx
 have gB := ce.ge 8 19 rfl
 have eo := eh.new_ en
 have br := cb.new_ en
 refine st_nil (ei _ _ ?_)
 rcases bc (blankN (cur.getD 0 0)) with aX | aX
 have kR := hB gB aX
 refine wp_cond_true kR ?_
 refine wp_skip ?_
 refine kM _ _ ?_
 refine wp_block ?_
 refine wp_g0 [true, true, false] [(2, true)] 91
   [ve (sv A1 cur c1),
    (RP .u16 (cur.drop 1)), vt] cd (.eq (.cons (fun _ _ _ n ⟨_, _, e, h⟩ => ⟨_, _, e, h.new_ n⟩) (.tt (.nil)))) ?_ ?_
 refine .m (fun k => k.fx 0 cf) ?_
 refine .o1 (tk rfl rfl fun _ w hn k => (by
       exact x_cutL (k := .u16) rfl elU (k.eq1 0 20 rfl) rfl (br.new_ hn) (by omega) fun oJ oK hmr => ⟨oJ, oK, rfl, hmr⟩)) ?_
 exact .off .nil
 refine aftI cd el em fun cA rN ep kS kT er ch => ?_
 have rO := ch.fx 0 cf
 have nE := ch.fx 2 gA
 obtain ⟨a1, aJ, ci, kU⟩ : (RP .u16 (cur.drop 1)) _ _ := ch.got 1 21 rfl (by kernel_rfl)
 have ci : cA.eval (.tmp 21) = sv a1 (cur.drop 1) aJ := ci
 have kV := eo.new_ er
 have pf := br.new_ er
 refine st_take rfl rfl (y_assign (v := sv a1 (cur.drop 1) aJ) rfl ci) rfl ?_
 obtain ⟨nF, aK⟩ : ∃ a', a' = cA.put (some 0) (sv a1 (cur.drop 1) aJ) := ⟨_, rfl⟩
 have kW := pz aK ep
 have kX := pd aK kS
 have nG := pn aK nE (by decide)
 have rP := pn aK ci (by decide)
 have nH : nF.eval (.tmp 0) = sv a1 (cur.drop 1) aJ := by rw [aK]; exact put_same _ _ _ (by rw [ep]; decide)
 show stepsTo _ _ _ _ _ (cA.put (some 0) (sv a1 (cur.drop 1) aJ)) _
 rw [← aK]
 refine st_nil ?_
 refine blk_n ?_
 refine then_n ?_
 exact ⟨_, ⟨(cur.drop 1), a1, aJ, rfl, kW, kX, kT, nH, nG, kV, kU, ((dw_step (by omega) aX).trans hcd), (hcu.drop 1)⟩, (by rw [List.length_drop]; omega)⟩
 have kY := hB gB aX
 refine wp_cond_false kY ?_
 refine wp_exit ?_
 have hdw := dw_end (l := cur) (Or.inr aX)
 have he953 : cur = (u.dropWhile blankN) := hdw.symm.trans hcd
 rw [he953] at cf
 rw [he953] at br
 exact ee _ _ ⟨A1, c1, cd, el, em, cf, gA, eo, br⟩
end Go.Proofs.YtecgdgjlmlpcnaaDoor
