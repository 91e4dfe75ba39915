import Derived.Test.YtjakfchffigkkaaGreatDoorOxa
namespace Go.Proofs.YtjakfchffigkkaaGreatDoor
open Go.RowKit
set_option linter.unusedSimpArgs false
set_option linter.unusedVariables false
set_option maxHeartbeats 16000000
set_option maxRecDepth 100000
theorem digit_c (x : Nat) (w : World) (hx : x < 65536) : Calls Tryz.prog 101 #[.int .u16 (x : Int)] w (IsRet (.bool (dgtN x)) w) := by
 refine enter_abs Tryz.func101 rfl fun a0 aa ag hp => ?_
 have aa : a0.tmps.size = 9 := aa
 have ah : New w w := Upd.refl _ _
 have hp0 : a0.eval (.tmp 0) = .int .u16 (x : Int) := hp 0 _ rfl
 refine wp_seq_k fun K1 ai => ?_
 refine wp_g0 [true] [] 9
   [vF] aa (.eq (.nil)) ?_ ?_
 exact .t (fun _ w hn k => ⟨_, v_assign rfl rfl, rfl⟩) .nil
 refine aftI aa ag ah fun a2 w3 ab aj ak ap al => ?_
 have h8 := al.fx 0 hp0
 refine st_nil (ai _ _ (wp_seq_k fun aq ac => ?_))
 refine wp_g0 [true, true, true, true, true, true, true] [] 9
   [ve (.int .u16 (x : Int)), ve (.bool (!decide ((x : Int) < 48))), ve (.bool (!decide ((x : Int) < 48))), ve (gq (!decide ((x : Int) < 48)) (.int .u16 (x : Int))), ve (gq (!decide ((x : Int) < 48)) (.bool (decide ((x : Int) ≤ 57)))), ve (.bool ((!decide ((x : Int) < 48)) && (decide ((x : Int) ≤ 57)))), ve (.bool ((!decide ((x : Int) < 48)) && (decide ((x : Int) ≤ 57))))] ab (.eq (.eq (.eq (.eq (.eq (.eq (.eq (.nil)))))))) ?_ ?_
 exact .m (fun k => k.fx 0 h8) <| .t (fun _ w hn k => ⟨_, v_bin rfl (k.eq1 0 3 rfl) rfl (fun _ => rfl) (r_geqK rfl), rfl⟩) <| .m (fun k => k.eq1 1 4 rfl) <| .o1 (sc (G := (!decide ((x : Int) < 48))) rfl rfl rfl (fun _ _ k => g0 (k.eq1 2 5 rfl)) (fun hG _ w hn k => v_move rfl (k.fx 0 h8))) <| .o1 (sc (G := (!decide ((x : Int) < 48))) rfl rfl rfl (fun _ _ k => g0 (k.eq1 2 5 rfl)) (fun hG _ w hn k => v_bin rfl (cT hG (k.eq1 3 6 rfl)) rfl (fun _ => rfl) (r_leqK rfl))) <| .t (fun _ w hn k => ⟨_, v_and rfl (k.eq1 2 5 rfl) (fun hg => (cT hg (k.eq1 4 7 rfl))) rfl, rfl⟩) <| .a (fun k => k.eq1 5 8 rfl) .nil
 refine aftI ab aj ak fun ar au an ad ae ao af => ?_
 have am := af.ge 6 2 rfl
 refine st_nil (ac _ _ ?_)
 refine wp_ret (ret_k ad (v := .bool ((!decide ((x : Int) < 48)) && (decide ((x : Int) ≤ 57)))) (res_t rfl am _) ?_)
 refine ⟨?_, ae⟩
 show Ending.returned (.bool ((!decide ((x : Int) < 48)) && (decide ((x : Int) ≤ 57)))) = Ending.returned (.bool (dgtN x))
 first | rfl | (simp only [dgtN, bsm] <;> rfl) | (exfalso; omega)
def ascii_c_P (s : ByteArray) (w : World) (en : Ending) (w' : World) : Prop := ∃ (Ar0 : Option Addr) (cr0 : Nat), en = .returned (sv Ar0 (asc s) cr0) ∧ SOwn w' w.heap.size 74 .u16 Ar0 (asc s) cr0 ∧ New w w'
theorem ascii_c (s : ByteArray) (w : World) (hs : s.size ≤ 1000000) : Calls Tryz.prog 98 #[.string s] w (ascii_c_P s w) := by
 refine enter_abs Tryz.func98 rfl fun a0 ao bX hp => ?_
 have ao : a0.tmps.size = 19 := ao
 have bY : New w w := Upd.refl _ _
 have hp0 : a0.eval (.tmp 0) = .string s := hp 0 _ rfl
 refine wp_seq_k fun K1 bZ => ?_
 refine wp_g0 [true] [] 19
   [ve (sv none ([]) 0)] ao (.eq (.nil)) ?_ ?_
 exact .t (fun _ w hn k => ⟨_, v_assign rfl rfl, rfl⟩) .nil
 refine aftI ao bX bY fun a2 w3 a6 b0 b1 cw b2 => ?_
 have h8 := b2.fx 0 hp0
 refine st_nil (bZ _ _ (wp_seq_k fun cx bh => ?_))
 refine wp_g0 [true] [] 19
   [ve (sv none ([]) 0)] a6 (.eq (.nil)) ?_ ?_
 exact .t (fun _ w hn k => ⟨_, v_assign rfl rfl, rfl⟩) .nil
 refine aftI a6 b0 b1 fun cy cz au bi bj cn av => ?_
 have a7 := av.fx 0 h8
 have b3 := av.ge 0 3 rfl
 refine st_nil (bh _ _ (wp_seq_k fun cA bk => ?_))
 refine wp_seq_k fun cB bl => ?_
 refine wp_g0 [true, true, true] [] 19
   [ve (.string s), ve (iv (s.size : Int)), ve (iv 0)] au (.eq (.eq (.eq (.nil)))) ?_ ?_
 exact .m (fun k => k.fx 0 a7) <| .t (fun _ w hn k => ⟨_, v_lenS rfl (k.eq1 0 5 rfl) (by kernel_rfl), rfl⟩) <| .t (fun _ w hn k => ⟨_, v_move rfl rfl, rfl⟩) .nil
 refine aftI au bi bj fun cC cD bm bn bo co al => ?_
 have b4 := al.fx 0 a7
 have b5 := al.fx 3 b3
 have b6 := al.ge 1 6 rfl
 have b7 := al.ge 2 7 rfl
 refine st_nil (bl _ _ ?_)
 refine wp_block ?_
 refine wp_loopX (fun (mm : Nat) (aa : Act) (ww : World) => ∃ (i : Nat) (A1 : Option Addr) (c1 : Nat), mm = s.size - i ∧ aa.tmps.size = 19 ∧ aa.defers = [] ∧ New w ww ∧ aa.eval (.tmp 3) = sv A1 (ascT s i) c1 ∧ aa.eval (.tmp 7) = iv (i : Int) ∧ aa.eval (.tmp 0) = .string s ∧ aa.eval (.tmp 6) = iv (s.size : Int) ∧ SOwn ww w.heap.size 74 .u16 A1 (ascT s i) c1 ∧ (i ≤ s.size)) (fun mm => mm) ⟨_, ⟨0, none, 0, rfl, bm, bn, bo, (b5.trans (by rw [asc0])), b7, b4, b6, (by rw [asc0]; exact SOwn.nil _ _ _ _), (Nat.zero_le _)⟩⟩ ?_
 rintro mm cE cF ⟨i, A1, c1, hmm, aw, bp, bq, b8, a8, b9, a9, br, hi⟩
 refine wp_seq_k fun cG bs => ?_
 refine wp_g0 [true] [] 19
   [ve (.bool (decide ((i : Int) < (s.size : Int))))] aw (.eq (.nil)) ?_ ?_
 exact .t (fun _ w hn k => ⟨_, v_bin rfl (k.fx 7 a8) (k.fx 6 a9) (fun _ => rfl) (r_lssK rfl), rfl⟩) .nil
 refine aftI aw bp bq fun cH cI am ax ay bt ai => ?_
 have ba := ai.fx 3 b8
 have bb := ai.fx 7 a8
 have ca := ai.fx 0 b9
 have cb := ai.fx 6 a9
 have bd := ai.ge 0 8 rfl
 have az := br.new_ bt
 refine st_nil (bs _ _ (wp_seq_k fun cJ bu => ?_))
 rcases bc (decide ((i : Int) < (s.size : Int))) with aj | aj
 have aN := oT aj
 have bv := hB bd aj
 refine wp_cond_true bv ?_
 refine wp_skip ?_
 refine bu _ _ ?_
 refine wp_seq_k fun cK bw => ?_
 refine wp_block ?_
 refine wp_seq_k fun cL bx => ?_
 refine wp_g0 [true, true] [] 19
   [ve (iv (i : Int)), ve (iv (i : Int))] am (.eq (.eq (.nil))) ?_ ?_
 exact .m (fun k => k.fx 7 bb) <| .a (fun k => k.eq1 0 9 rfl) .nil
 refine aftI am ax ay fun cM be aA bz aB bA ak => ?_
 have bf := ak.fx 3 ba
 have cc := ak.fx 7 bb
 have bg := ak.fx 0 ca
 have cd := ak.fx 6 cb
 have ce := ak.ge 1 4 rfl
 have bB := az.new_ bA
 refine st_nil (bx _ _ ?_)
 have hal := @ascT_len s i
 have hbl := bAt_lt s i
 refine wp_g0 [true, true, true, true, true, true, false, false] [(6, false), (7, true)] 19
   [ve (sv A1 (ascT s i) c1), ve (.string s), ve (iv (i : Int)), ve (.int .u8 ((bAt s i : Nat) : Int)), ve (.int .u16 ((bAt s i : Nat) : Int)),
    (OP be.heap.size 74 .u16 ([(bAt s i)])), vt, vt] aA (.eq (.eq (.eq (.eq (.eq (.cons (fun _ _ _ n ⟨_, _, e, h⟩ => ⟨_, _, e, h.new_ n⟩) (.tt (.tt (.nil))))))))) ?_ ?_
 refine .m (fun k => k.fx 3 bf) <| .m (fun k => k.fx 0 bg) <| .m (fun k => k.fx 4 ce) <| .t (fun _ w hn k => ⟨_, v_idxN rfl (k.eq1 1 11 rfl) (k.eq1 2 12 rfl) (by kernel_rfl) (by omega), rfl⟩) <| .t (fun _ w hn k => ⟨_, v_conv rfl (k.eq1 3 13 rfl) (n_conv (by kernel_rfl) (by kernel_rfl) (by kernel_rfl) (IntWalk.u16_in _ (by omega))), rfl⟩) ?_
 refine .o1 (tkA rfl (noG rfl) fun _ w hn k => (by
       exact x_bslice (k := .u16) (ps := [(0, .int .u16 ((bAt s i : Nat) : Int))]) [(bAt s i)] rfl (parts1 (k.eq1 4 14 rfl)) elU rfl (by omega) (by omega) (by first | kernel_rfl | (simp only [enc, List.map_cons, List.map_nil, Int.toNat_natCast, Int.toNat_of_nonneg (by omega : (0 : Int) ≤ _)]; kernel_rfl)) fun A1 c2 W' hmo => ⟨A1, c2, rfl, (hmo.more hn.size)⟩)) ?_
 exact .off <| .off .nil
 refine aftI aA bz aB fun aC cN aD bC aE bD ag => ?_
 have cO := ag.fx 3 bf
 have cf := ag.fx 7 cc
 have ch := ag.fx 0 bg
 have ci := ag.fx 6 cd
 have cj := ag.ge 0 10 rfl
 obtain ⟨cl, bE, aF, bF⟩ : (OP be.heap.size 74 .u16 ([(bAt s i)])) _ _ := ag.got 5 15 rfl (by kernel_rfl)
 have aF : aC.eval (.tmp 15) = sv cl ([(bAt s i)]) bE := aF
 have aG := bB.new_ bD
 have bG := bF.more aB.size
 have hw101 := aE.size
 refine st_act rfl rfl fun cP aO => a_append (k := .u16) (b := w.heap.size) rfl elU cj aG aF bG.row (by first | omega | (simp only [List.length_nil, List.length_cons, List.length_append, List.length_take, List.length_drop, List.length_replicate, List.length_set]; omega)) (by first | omega | (simp only [List.length_nil, List.length_cons, List.length_append, List.length_take, List.length_drop, List.length_replicate, List.length_set]; omega)) hw101 fun ah ae cQ aH hg97 => aO _ _ trivial ?_
 have bH := aE.ownGrown aG hg97
 obtain ⟨an, ad⟩ : ∃ a', a' = aC.put (some 16) (sv ah ((ascT s i) ++ [(bAt s i)]) ae) := ⟨_, rfl⟩
 have ap := pz ad aD
 have aP := pd ad bC
 have bI := pn ad cf (by decide)
 have bJ := pn ad ch (by decide)
 have bK := pn ad ci (by decide)
 have aI : an.eval (.tmp 16) = sv ah ((ascT s i) ++ [(bAt s i)]) ae := by rw [ad]; exact put_same _ _ _ (by rw [aD]; decide)
 show stepsTo _ _ _ _ _ (aC.put (some 16) (sv ah ((ascT s i) ++ [(bAt s i)]) ae)) _
 rw [← ad]
 refine st_take rfl rfl (y_assign (v := sv ah ((ascT s i) ++ [(bAt s i)]) ae) rfl aI) rfl ?_
 obtain ⟨bL, ab⟩ : ∃ a', a' = an.put (some 3) (sv ah ((ascT s i) ++ [(bAt s i)]) ae) := ⟨_, rfl⟩
 have aq := pz ab ap
 have aQ := pd ab aP
 have aJ := pn ab bI (by decide)
 have bM := pn ab bJ (by decide)
 have bN := pn ab bK (by decide)
 have cp := pn ab aI (by decide)
 have aK : bL.eval (.tmp 3) = sv ah ((ascT s i) ++ [(bAt s i)]) ae := by rw [ab]; exact put_same _ _ _ (by rw [ap]; decide)
 show stepsTo _ _ _ _ _ (an.put (some 3) (sv ah ((ascT s i) ++ [(bAt s i)]) ae)) _
 rw [← ab]
 refine st_nil ?_
 have he119 : ((ascT s i) ++ [(bAt s i)]) = (ascT s (i + 1)) := asc_up (by omega)
 rw [he119] at aK
 rw [he119] at aH
 refine bw _ _ ?_
 refine wp_g0 [true, false] [(1, true)] 19
   [ve (iv ((i + 1 : Nat) : Int)), vt] aq (.eq (.tt (.nil))) ?_ ?_
 exact .t (fun _ w hn k => ⟨_, v_bin rfl (k.fx 7 aJ) rfl (fun _ => rfl) (n_add (by omega) (IntWalk.i64_in _ (by omega))), rfl⟩) <| .off .nil
 refine aftI aq aQ bH fun aL cq ar aR aS aT af => ?_
 have cr := af.fx 7 aJ
 have bO := af.fx 0 bM
 have bP := af.fx 6 bN
 have bQ := af.fx 3 aK
 have aM := af.ge 0 17 rfl
 have aU := aH.new_ aT
 refine st_take rfl rfl (y_move (v := iv ((i + 1 : Nat) : Int)) rfl aM) rfl ?_
 obtain ⟨bR, ac⟩ : ∃ a', a' = aL.put (some 7) (iv ((i + 1 : Nat) : Int)) := ⟨_, rfl⟩
 have aV := pz ac ar
 have aW := pd ac aR
 have bS := pn ac bO (by decide)
 have bT := pn ac bP (by decide)
 have bU := pn ac bQ (by decide)
 have cs := pn ac aM (by decide)
 have bV : bR.eval (.tmp 7) = iv ((i + 1 : Nat) : Int) := by rw [ac]; exact put_same _ _ _ (by rw [ar]; decide)
 show stepsTo _ _ _ _ _ (aL.put (some 7) (iv ((i + 1 : Nat) : Int))) _
 rw [← ac]
 refine st_nil ?_
 refine then_n ?_
 exact ⟨_, ⟨i + 1, ah, ae, rfl, aV, aW, aS, bU, (bV.trans (congrArg (Value.int .i64) (by omega))), bS, bT, aU, (by omega)⟩, (by omega)⟩
 have aN := oF aj
 have aX := hB bd aj
 refine wp_cond_false aX ?_
 refine wp_exit ?_
 refine bk _ _ ?_
 refine wp_seq_k fun ct aY => ?_
 refine wp_g0 [true, true] [] 19
   [ve (sv A1 (ascT s i) c1), ve (sv A1 (ascT s i) c1)] am (.eq (.eq (.nil))) ?_ ?_
 exact .m (fun k => k.fx 3 ba) <| .a (fun k => k.eq1 0 18 rfl) .nil
 refine aftI am ax ay fun cu cv cm aZ a1 a3 a4 => ?_
 have bW := a4.ge 1 2 rfl
 have a5 := az.new_ a3
 refine st_nil (aY _ _ ?_)
 refine wp_ret (ret_k aZ (v := sv A1 (ascT s i) c1) (res_t rfl bW _) ?_)
 have hsp : ascT s i = asc s := asc_end (by omega)
 exact ⟨A1, c1, by rw [← hsp], by rw [← hsp]; exact a5, a1⟩
def rascii_c_P (s : ByteArray) (w : World) (en : Ending) (w' : World) : Prop := ∃ (Ar0 : Option Addr) (cr0 : Nat), en = .returned (sv Ar0 (asc s) cr0) ∧ SOwn w' w.heap.size 74 .u16 Ar0 (asc s) cr0 ∧ New w w'
theorem rascii_c (s : ByteArray) (w : World) (hs : s.size ≤ 1000000) : Calls Tryz.prog 52 #[.string s] w (rascii_c_P s w) := by
 refine enter_abs Tryz.func52 rfl fun a0 an bG hp => ?_
 have an : a0.tmps.size = 19 := an
 have bH : New w w := Upd.refl _ _
 have hp0 : a0.eval (.tmp 0) = .string s := hp 0 _ rfl
 refine wp_seq_k fun K1 bI => ?_
 refine wp_g0 [true] [] 19
   [ve (sv none ([]) 0)] an (.eq (.nil)) ?_ ?_
 exact .t (fun _ w hn k => ⟨_, v_assign rfl rfl, rfl⟩) .nil
 refine aftI an bG bH fun a2 w3 aW bJ bK b9 bL => ?_
 have h8 := bL.fx 0 hp0
 refine st_nil (bI _ _ (wp_seq_k fun ca a8 => ?_))
 refine wp_g0 [true] [] 19
   [ve (sv none ([]) 0)] aW (.eq (.nil)) ?_ ?_
 exact .t (fun _ w hn k => ⟨_, v_assign rfl rfl, rfl⟩) .nil
 refine aftI aW bJ bK fun cb cc ap a9 ba b1 aq => ?_
 have bM := aq.fx 0 h8
 have bN := aq.ge 0 3 rfl
 refine st_nil (a8 _ _ (wp_seq_k fun cd bb => ?_))
 refine wp_seq_k fun ce bd => ?_
 refine wp_g0 [true] [] 19
   [ve (iv 0)] ap (.eq (.nil)) ?_ ?_
 exact .t (fun _ w hn k => ⟨_, v_assign rfl rfl, rfl⟩) .nil
 refine aftI ap a9 ba fun cf ch be bf bg b2 al => ?_
 have bO := al.fx 0 bM
 have bP := al.fx 3 bN
 have bQ := al.ge 0 4 rfl
 refine st_nil (bd _ _ ?_)
 refine wp_block ?_
 refine wp_loopX (fun (mm : Nat) (aa : Act) (ww : World) => ∃ (i : Nat) (A1 : Option Addr) (c1 : Nat), mm = s.size - i ∧ aa.tmps.size = 19 ∧ aa.defers = [] ∧ New w ww ∧ aa.eval (.tmp 3) = sv A1 (ascT s i) c1 ∧ aa.eval (.tmp 4) = iv (i : Int) ∧ aa.eval (.tmp 0) = .string s ∧ SOwn ww w.heap.size 74 .u16 A1 (ascT s i) c1 ∧ (i ≤ s.size)) (fun mm => mm) ⟨_, ⟨0, none, 0, rfl, be, bf, bg, (bP.trans (by rw [asc0])), bQ, bO, (by rw [asc0]; exact SOwn.nil _ _ _ _), (Nat.zero_le _)⟩⟩ ?_
 rintro mm ci cj ⟨i, A1, c1, hmm, ar, bh, bi, bR, aX, aY, bj, hi⟩
 refine wp_seq_k fun cl bk => ?_
 refine wp_seq_k fun cm bl => ?_
 refine wp_g0 [true, true, true, true] [] 19
   [ve (iv (i : Int)), ve (.string s), ve (iv (s.size : Int)), ve (.bool (decide ((i : Int) < (s.size : Int))))] ar (.eq (.eq (.eq (.eq (.nil))))) ?_ ?_
 exact .m (fun k => k.fx 4 aX) <| .m (fun k => k.fx 0 aY) <| .t (fun _ w hn k => ⟨_, v_lenS rfl (k.eq1 1 6 rfl) (by kernel_rfl), rfl⟩) <| .t (fun _ w hn k => ⟨_, v_bin rfl (k.eq1 0 5 rfl) (k.eq1 2 7 rfl) (fun _ => rfl) (r_lssK rfl), rfl⟩) .nil
 refine aftI ar bh bi fun cn aZ aj au am bm ak => ?_
 have av := ak.fx 3 bR
 have a1 := ak.fx 4 aX
 have a3 := ak.fx 0 aY
 have a4 := ak.ge 3 8 rfl
 have aw := bj.new_ bm
 refine st_nil (bl _ _ ?_)
 rcases bc (decide ((i : Int) < (s.size : Int))) with ah | ah
 have aI := oT ah
 have bn := hB a4 ah
 refine wp_cond_true bn ?_
 refine wp_skip ?_
 refine bk _ _ ?_
 refine wp_seq_k fun co bo => ?_
 refine wp_block ?_
 have hal := @ascT_len s i
 have hbl := bAt_lt s i
 refine wp_g0 [true, true, true, true, true, true, false, false] [(6, false), (7, true)] 19
   [ve (sv A1 (ascT s i) c1), ve (.string s), ve (iv (i : Int)), ve (.int .u8 ((bAt s i : Nat) : Int)), ve (.int .u16 ((bAt s i : Nat) : Int)),
    (OP aZ.heap.size 74 .u16 ([(bAt s i)])), vt, vt] aj (.eq (.eq (.eq (.eq (.eq (.cons (fun _ _ _ n ⟨_, _, e, h⟩ => ⟨_, _, e, h.new_ n⟩) (.tt (.tt (.nil))))))))) ?_ ?_
 refine .m (fun k => k.fx 3 av) <| .m (fun k => k.fx 0 a3) <| .m (fun k => k.fx 4 a1) <| .t (fun _ w hn k => ⟨_, v_idxN rfl (k.eq1 1 12 rfl) (k.eq1 2 13 rfl) (by kernel_rfl) (by omega), rfl⟩) <| .t (fun _ w hn k => ⟨_, v_conv rfl (k.eq1 3 14 rfl) (n_conv (by kernel_rfl) (by kernel_rfl) (by kernel_rfl) (IntWalk.u16_in _ (by omega))), rfl⟩) ?_
 refine .o1 (tkA rfl (noG rfl) fun _ w hn k => (by
       exact x_bslice (k := .u16) (ps := [(0, .int .u16 ((bAt s i : Nat) : Int))]) [(bAt s i)] rfl (parts1 (k.eq1 4 15 rfl)) elU rfl (by omega) (by omega) (by first | kernel_rfl | (simp only [enc, List.map_cons, List.map_nil, Int.toNat_natCast, Int.toNat_of_nonneg (by omega : (0 : Int) ≤ _)]; kernel_rfl)) fun A1 c2 W' hmo => ⟨A1, c2, rfl, (hmo.more hn.size)⟩)) ?_
 exact .off <| .off .nil
 refine aftI aj au am fun ax cp ay bp az bq ai => ?_
 have cq := ai.fx 3 av
 have bS := ai.fx 4 a1
 have bT := ai.fx 0 a3
 have bU := ai.ge 0 11 rfl
 obtain ⟨bV, br, aA, bs⟩ : (OP aZ.heap.size 74 .u16 ([(bAt s i)])) _ _ := ai.got 5 16 rfl (by kernel_rfl)
 have aA : ax.eval (.tmp 16) = sv bV ([(bAt s i)]) br := aA
 have aB := aw.new_ bq
 have bt := bs.more am.size
 have hw83 := az.size
 refine st_act rfl rfl fun cr bu => a_append (k := .u16) (b := w.heap.size) rfl elU bU aB aA bt.row (by first | omega | (simp only [List.length_nil, List.length_cons, List.length_append, List.length_take, List.length_drop, List.length_replicate, List.length_set]; omega)) (by first | omega | (simp only [List.length_nil, List.length_cons, List.length_append, List.length_take, List.length_drop, List.length_replicate, List.length_set]; omega)) hw83 fun af ac cs aC hg79 => bu _ _ trivial ?_
 have bv := az.ownGrown aB hg79
 obtain ⟨aD, ae⟩ : ∃ a', a' = ax.put (some 17) (sv af ((ascT s i) ++ [(bAt s i)]) ac) := ⟨_, rfl⟩
 have aE := pz ae ay
 have bw := pd ae bp
 have bW := pn ae bS (by decide)
 have bX := pn ae bT (by decide)
 have a5 : aD.eval (.tmp 17) = sv af ((ascT s i) ++ [(bAt s i)]) ac := by rw [ae]; exact put_same _ _ _ (by rw [ay]; decide)
 show stepsTo _ _ _ _ _ (ax.put (some 17) (sv af ((ascT s i) ++ [(bAt s i)]) ac)) _
 rw [← ae]
 refine st_take rfl rfl (y_assign (v := sv af ((ascT s i) ++ [(bAt s i)]) ac) rfl a5) rfl ?_
 obtain ⟨bY, ad⟩ : ∃ a', a' = aD.put (some 3) (sv af ((ascT s i) ++ [(bAt s i)]) ac) := ⟨_, rfl⟩
 have aF := pz ad aE
 have bx := pd ad bw
 have a6 := pn ad bW (by decide)
 have bZ := pn ad bX (by decide)
 have ct := pn ad a5 (by decide)
 have a7 : bY.eval (.tmp 3) = sv af ((ascT s i) ++ [(bAt s i)]) ac := by rw [ad]; exact put_same _ _ _ (by rw [aE]; decide)
 show stepsTo _ _ _ _ _ (aD.put (some 3) (sv af ((ascT s i) ++ [(bAt s i)]) ac)) _
 rw [← ad]
 refine st_nil ?_
 have he99 : ((ascT s i) ++ [(bAt s i)]) = (ascT s (i + 1)) := asc_up (by omega)
 rw [he99] at a7
 rw [he99] at aC
 refine bo _ _ ?_
 refine wp_g0 [true, true, false] [(2, true)] 19
   [ve (iv (i : Int)), ve (iv ((i + 1 : Nat) : Int)), vt] aF (.eq (.eq (.tt (.nil)))) ?_ ?_
 exact .m (fun k => k.fx 4 a6) <| .t (fun _ w hn k => ⟨_, v_bin rfl (k.eq1 0 9 rfl) rfl (fun _ => rfl) (n_add (by omega) (IntWalk.i64_in _ (by omega))), rfl⟩) <| .off .nil
 refine aftI aF bx bv fun aG b3 ao aJ aK aL ag => ?_
 have b4 := ag.fx 4 a6
 have bz := ag.fx 0 bZ
 have bA := ag.fx 3 a7
 have aH := ag.ge 1 10 rfl
 have aM := aC.new_ aL
 refine st_take rfl rfl (y_assign (v := iv ((i + 1 : Nat) : Int)) rfl aH) rfl ?_
 obtain ⟨bB, ab⟩ : ∃ a', a' = aG.put (some 4) (iv ((i + 1 : Nat) : Int)) := ⟨_, rfl⟩
 have aN := pz ab ao
 have aO := pd ab aJ
 have bC := pn ab bz (by decide)
 have bD := pn ab bA (by decide)
 have b5 := pn ab aH (by decide)
 have bE : bB.eval (.tmp 4) = iv ((i + 1 : Nat) : Int) := by rw [ab]; exact put_same _ _ _ (by rw [ao]; decide)
 show stepsTo _ _ _ _ _ (aG.put (some 4) (iv ((i + 1 : Nat) : Int))) _
 rw [← ab]
 refine st_nil ?_
 refine then_n ?_
 exact ⟨_, ⟨i + 1, af, ac, rfl, aN, aO, aK, bD, (bE.trans (congrArg (Value.int .i64) (by omega))), bC, aM, (by omega)⟩, (by omega)⟩
 have aI := oF ah
 have aP := hB a4 ah
 refine wp_cond_false aP ?_
 refine wp_exit ?_
 refine bb _ _ ?_
 refine wp_seq_k fun b6 aQ => ?_
 refine wp_g0 [true, true] [] 19
   [ve (sv A1 (ascT s i) c1), ve (sv A1 (ascT s i) c1)] aj (.eq (.eq (.nil))) ?_ ?_
 exact .m (fun k => k.fx 3 av) <| .a (fun k => k.eq1 0 18 rfl) .nil
 refine aftI aj au am fun b7 b8 b0 aR aS aT aU => ?_
 have bF := aU.ge 1 2 rfl
 have aV := aw.new_ aT
 refine st_nil (aQ _ _ ?_)
 refine wp_ret (ret_k aR (v := sv A1 (ascT s i) c1) (res_t rfl bF _) ?_)
 have hsp : ascT s i = asc s := asc_end (by omega)
 exact ⟨A1, c1, by rw [← hsp], by rw [← hsp]; exact aV, aS⟩
theorem tsame_c (Aa : Option Addr) (a : List Nat) (ca : Nat) (Ab : Option Addr) (b : List Nat) (cb : Nat) (w : World) (hra : SRow w .u16 Aa a ca) (hrb : SRow w .u16 Ab b cb) : Calls Tryz.prog 97 #[sv Aa a ca, sv Ab b cb] w (IsRet (.bool (decide (a = b))) w) := by
 refine enter_abs Tryz.func97 rfl fun a0 ab ai hp => ?_
 have ab : a0.tmps.size = 8 := ab
 have aj : New w w := Upd.refl _ _
 have hp0 : a0.eval (.tmp 0) = sv Aa a ca := hp 0 _ rfl
 have hp1 : a0.eval (.tmp 1) = sv Ab b cb := hp 1 _ rfl
 refine wp_seq_k fun K1 ak => ?_
 refine wp_g0 [true] [] 8
   [vF] ab (.eq (.nil)) ?_ ?_
 exact .t (fun _ w hn k => ⟨_, v_assign rfl rfl, rfl⟩) .nil
 refine aftI ab ai aj fun a2 w3 ac al aa ap ad => ?_
 have h8 := ad.fx 0 hp0
 have h9 := ad.fx 1 hp1
 refine st_nil (ak _ _ (wp_seq_k fun aq ae => ?_))
 refine wp_g0 [true, true, true, true] [] 8
   [ve (sv Aa a ca), ve (sv Ab b cb), ve (.bool (decide (a = b))), ve (.bool (decide (a = b)))] ac (.eq (.eq (.eq (.eq (.nil))))) ?_ ?_
 exact .m (fun k => k.fx 0 h8) <| .m (fun k => k.fx 1 h9) <| .o1 (ck rfl rfl rfl (fun _ w hn k => ⟨#[sv Aa a ca, sv Ab b cb], args2 (k.eq1 0 5 rfl) (k.eq1 1 6 rfl), fun _ => by kernel_rfl, sequal16_c _ a _ _ b _ _ (hra.new_ (aa.transNew hn)) (hrb.new_ (aa.transNew hn))⟩) fun _ => rfl) <| .a (fun k => k.eq1 2 7 rfl) .nil
 refine aftI ac al aa fun ar au an af ag ao ah => ?_
 have am := ah.ge 3 4 rfl
 refine st_nil (ae _ _ ?_)
 refine wp_ret (ret_k af (v := .bool (decide (a = b))) (res_t rfl am _) ?_)
 exact ⟨rfl, ag⟩
theorem index16_c (Au : Option Addr) (u : List Nat) (cu : Nat) (x : Nat) (w : World) (hru : SRow w .u16 Au u cu) (hx : x < 65536) : Calls Tryz.prog 183 #[sv Au u cu, .int .u16 (x : Int)] w (IsRet (iv (idxF (fun y : Nat => decide ((x : Int) = (y : Int))) u)) w) := by
 refine enter_abs Tryz.func183 rfl fun a0 al bo hp => ?_
 have al : a0.tmps.size = 19 := al
 have bp : New w w := Upd.refl _ _
 have hp0 : a0.eval (.tmp 0) = sv Au u cu := hp 0 _ rfl
 have hp1 : a0.eval (.tmp 1) = .int .u16 (x : Int) := hp 1 _ rfl
 have hmx := hru.max
 refine wp_seq_k fun K1 bq => ?_
 refine wp_g0 [true] [] 19
   [ve (iv 0)] al (.eq (.nil)) ?_ ?_
 exact .t (fun _ w hn k => ⟨_, v_assign rfl rfl, rfl⟩) .nil
 refine aftI al bo bp fun a2 w3 aG br aT b0 aH => ?_
 have h8 := aH.fx 0 hp0
 have h9 := aH.fx 1 hp1
 refine st_nil (bq _ _ (wp_seq_k fun b2 aU => ?_))
 refine wp_seq_k fun b4 aV => ?_
 refine wp_g0 [true, true, true] [] 19
   [ve (sv Au u cu), ve (iv (u.length : Int)), ve (iv 0)] aG (.eq (.eq (.eq (.nil)))) ?_ ?_
 exact .m (fun k => k.fx 0 h8) <| .t (fun _ w hn k => ⟨_, v_lenR rfl elU (k.eq1 0 6 rfl), rfl⟩) <| .t (fun _ w hn k => ⟨_, v_move rfl rfl, rfl⟩) .nil
 refine aftI aG br aT fun b6 b7 aW aX aY bP ai => ?_
 have bs := ai.fx 0 h8
 have bt := ai.fx 1 h9
 have bu := ai.ge 1 7 rfl
 have bv := ai.ge 2 8 rfl
 refine st_nil (aV _ _ ?_)
 refine wp_block ?_
 refine wp_loopX (fun (mm : Nat) (aa : Act) (ww : World) => ∃ (i : Nat), mm = u.length - i ∧ aa.tmps.size = 19 ∧ aa.defers = [] ∧ New w ww ∧ aa.eval (.tmp 8) = iv (i : Int) ∧ aa.eval (.tmp 0) = sv Au u cu ∧ aa.eval (.tmp 1) = .int .u16 (x : Int) ∧ aa.eval (.tmp 7) = iv (u.length : Int) ∧ (i ≤ u.length) ∧ (∀ j, j < i → (fun y : Nat => decide ((x : Int) = (y : Int))) (u.getD j 0) = false)) (fun mm => mm) ⟨_, ⟨0, rfl, aW, aX, aY, bv, bs, bt, bu, (Nat.zero_le _), (fun j h => absurd h (Nat.not_lt_zero _))⟩⟩ ?_
 rintro mm b8 b9 ⟨i, hmm, am, aZ, a1, aI, bw, bx, aJ, hi, hno⟩
 refine wp_seq_k fun ca a3 => ?_
 refine wp_g0 [true] [] 19
   [ve (.bool (decide ((i : Int) < (u.length : Int))))] am (.eq (.nil)) ?_ ?_
 exact .t (fun _ w hn k => ⟨_, v_bin rfl (k.fx 8 aI) (k.fx 7 aJ) (fun _ => rfl) (r_lssK rfl), rfl⟩) .nil
 refine aftI am aZ a1 fun cb cc aj an ao bQ ae => ?_
 have aK := ae.fx 8 aI
 have bz := ae.fx 0 bw
 have bA := ae.fx 1 bx
 have bB := ae.fx 7 aJ
 have aL := ae.ge 0 9 rfl
 refine st_nil (a3 _ _ (wp_seq_k fun cd a4 => ?_))
 rcases bc (decide ((i : Int) < (u.length : Int))) with af | af
 have aw := oT af
 have a5 := hB aL af
 refine wp_cond_true a5 ?_
 refine wp_skip ?_
 refine a4 _ _ ?_
 refine wp_seq_k fun ce a6 => ?_
 refine wp_block ?_
 refine wp_seq_k fun cf a7 => ?_
 refine wp_g0 [true, true] [] 19
   [ve (iv (i : Int)), ve (iv (i : Int))] aj (.eq (.eq (.nil))) ?_ ?_
 exact .m (fun k => k.fx 8 aK) <| .a (fun k => k.eq1 0 10 rfl) .nil
 refine aftI aj an ao fun ch ci ap a8 aq bR ag => ?_
 have bC := ag.fx 8 aK
 have aM := ag.fx 0 bz
 have aN := ag.fx 1 bA
 have bD := ag.fx 7 bB
 have aO := ag.ge 1 5 rfl
 refine st_nil (a7 _ _ (wp_seq_k fun cj a9 => ?_))
 refine wp_g0 [true, true, true, true, true, true] [] 19
   [ve (.int .u16 (x : Int)), ve (sv Au u cu), ve (iv (i : Int)),
    (EP (.int .u16 ((u.getD i 0 : Nat) : Int))), ve (.int .u16 ((u.getD i 0 : Nat) : Int)), ve (.bool (decide ((x : Int) = ((u.getD i 0 : Nat) : Int))))] ap (.eq (.eq (.eq (.cons (fun _ _ _ n ⟨_, _, e, h⟩ => ⟨_, _, e, h.new_ n⟩) (.eq (.eq (.nil))))))) ?_ ?_
 refine .m (fun k => k.fx 1 aN) <| .m (fun k => k.fx 0 aM) <| .m (fun k => k.fx 5 aO) ?_
 refine .o1 (tk rfl rfl fun _ w hn k => (by
       exact x_eaddr (k := .u16) rfl elU (k.eq1 1 12 rfl) (k.eq1 2 13 rfl) (hru.new_ (aq.transNew hn)) (by omega) fun b1 o2 hme => ⟨b1, o2, rfl, hme⟩)) ?_
 refine .o1 (tk rfl rfl fun _ w hn k => (by
       obtain ⟨b5, o6, e7, bE⟩ : (EP (.int .u16 ((u.getD i 0 : Nat) : Int))) _ _ := k.dep 3 14 (by kernel_rfl) (by kernel_rfl)
       exact ⟨_, v_load rfl e7 (l_one Tryz.isAgg74 bE.1), rfl⟩)) ?_
 exact .t (fun _ w hn k => ⟨_, v_bin rfl (k.eq1 0 11 rfl) (k.eq1 4 15 rfl) (fun _ => rfl) (r_eql rfl), rfl⟩) .nil
 refine aftI ap a8 aq fun cl cm ak ar au bS ad => ?_
 have aP := ad.fx 8 bC
 have bF := ad.fx 0 aM
 have bG := ad.fx 1 aN
 have bH := ad.fx 7 bD
 have bI := ad.fx 5 aO
 have aQ := ad.ge 5 16 rfl
 refine st_nil (a9 _ _ ?_)
 rcases bc (decide ((x : Int) = ((u.getD i 0 : Nat) : Int))) with ac | ac
 have ax := oT ac
 have ba := hB aQ ac
 refine wp_cond_true ba ?_
 refine wp_seq_k fun cn bb => ?_
 refine wp_g0 [true, true] [] 19
   [ve (iv (i : Int)), ve (iv (i : Int))] ak (.eq (.eq (.nil))) ?_ ?_
 exact .m (fun k => k.fx 5 bI) <| .a (fun k => k.eq1 0 17 rfl) .nil
 refine aftI ak ar au fun co cp bT bd be bU bf => ?_
 have bJ := bf.ge 1 4 rfl
 refine st_nil (bb _ _ ?_)
 refine wp_ret (ret_k bd (v := iv (i : Int)) (res_t rfl bJ _) ?_)
 exact ⟨by rw [idxF_at (fun y : Nat => decide ((x : Int) = (y : Int))) u i (by omega) hno ac], be⟩
 have ax := oF ac
 have bg := hB aQ ac
 refine wp_cond_false bg ?_
 refine wp_skip ?_
 refine a6 _ _ ?_
 refine wp_g0 [true, false] [(1, true)] 19
   [ve (iv ((i + 1 : Nat) : Int)), vt] ak (.eq (.tt (.nil))) ?_ ?_
 exact .t (fun _ w hn k => ⟨_, v_bin rfl (k.fx 8 aP) rfl (fun _ => rfl) (n_add (by omega) (IntWalk.i64_in _ (by omega))), rfl⟩) <| .off .nil
 refine aftI ak ar au fun aR cq av bh ay bV ah => ?_
 have cr := ah.fx 8 aP
 have bK := ah.fx 0 bF
 have bL := ah.fx 1 bG
 have bM := ah.fx 7 bH
 have aS := ah.ge 0 18 rfl
 refine st_take rfl rfl (y_move (v := iv ((i + 1 : Nat) : Int)) rfl aS) rfl ?_
 obtain ⟨bi, ab⟩ : ∃ a', a' = aR.put (some 8) (iv ((i + 1 : Nat) : Int)) := ⟨_, rfl⟩
 have az := pz ab av
 have aA := pd ab bh
 have bj := pn ab bK (by decide)
 have bk := pn ab bL (by decide)
 have bl := pn ab bM (by decide)
 have bW := pn ab aS (by decide)
 have bm : bi.eval (.tmp 8) = iv ((i + 1 : Nat) : Int) := by rw [ab]; exact put_same _ _ _ (by rw [av]; decide)
 show stepsTo _ _ _ _ _ (aR.put (some 8) (iv ((i + 1 : Nat) : Int))) _
 rw [← ab]
 refine st_nil ?_
 refine then_n ?_
 exact ⟨_, ⟨i + 1, rfl, az, aA, ay, (bm.trans (congrArg (Value.int .i64) (by omega))), bj, bk, bl, (by omega), (up_false (p := (fun y : Nat => decide ((x : Int) = (y : Int)))) hno ac)⟩, (by omega)⟩
 have aw := oF af
 have aB := hB aL af
 refine wp_cond_false aB ?_
 refine wp_exit ?_
 refine aU _ _ ?_
 refine wp_seq_k fun bX aC => ?_
 refine wp_g0 [true] [] 19
   [ve (iv (-1))] aj (.eq (.nil)) ?_ ?_
 exact .t (fun _ w hn k => ⟨_, v_assign rfl rfl, rfl⟩) .nil
 refine aftI aj an ao fun bY bZ bN aD aE bO aF => ?_
 have bn := aF.ge 0 4 rfl
 refine st_nil (aC _ _ ?_)
 refine wp_ret (ret_k aD (v := iv (-1)) (res_t rfl bn _) ?_)
 exact ⟨by rw [idxF_none (fun y : Nat => decide ((x : Int) = (y : Int))) u (fun j hj => hno j (by omega))], aE⟩
theorem contains16_c (Au : Option Addr) (u : List Nat) (cu : Nat) (x : Nat) (w : World) (hru : SRow w .u16 Au u cu) (hx : x < 65536) : Calls Tryz.prog 157 #[sv Au u cu, .int .u16 (x : Int)] w (IsRet (.bool (u.any (fun y : Nat => decide ((x : Int) = (y : Int))))) w) := by
 refine enter_abs Tryz.func157 rfl fun a0 ac ao hp => ?_
 have ac : a0.tmps.size = 9 := ac
 have ap : New w w := Upd.refl _ _
 have hp0 : a0.eval (.tmp 0) = sv Au u cu := hp 0 _ rfl
 have hp1 : a0.eval (.tmp 1) = .int .u16 (x : Int) := hp 1 _ rfl
 refine wp_seq_k fun K1 aq => ?_
 refine wp_g0 [true] [] 9
   [vF] ac (.eq (.nil)) ?_ ?_
 exact .t (fun _ w hn k => ⟨_, v_assign rfl rfl, rfl⟩) .nil
 refine aftI ac ao ap fun a2 w3 ad ag ab az ah => ?_
 have h8 := ah.fx 0 hp0
 have h9 := ah.fx 1 hp1
 refine st_nil (aq _ _ (wp_seq_k fun aA ae => ?_))
 rcases bc (decide ((idxF (fun y : Nat => decide ((x : Int) = (y : Int))) u) < 0)) with aa | aa
 have af := oT aa
 refine wp_g0 [true, true, true, true, true] [] 9
   [ve (sv Au u cu), ve (.int .u16 (x : Int)), ve (iv (idxF (fun y : Nat => decide ((x : Int) = (y : Int))) u)), vF, vF] ad (.eq (.eq (.eq (.eq (.eq (.nil)))))) ?_ ?_
 exact .m (fun k => k.fx 0 h8) <| .m (fun k => k.fx 1 h9) <| .o1 (ck rfl rfl rfl (fun _ w hn k => ⟨#[sv Au u cu, .int .u16 (x : Int)], args2 (k.eq1 0 5 rfl) (k.eq1 1 6 rfl), fun _ => by kernel_rfl, index16_c _ u _ x _ (hru.new_ (ab.transNew hn)) (by omega)⟩) fun _ => rfl) <| .t (fun _ w hn k => ⟨_, v_bin rfl (k.eq1 2 7 rfl) rfl (fun _ => rfl) (r_geqK aa), rfl⟩) <| .a (fun k => k.eq1 3 8 rfl) .nil
 refine aftI ad ag ab fun aB aC av ai aj aw ak => ?_
 have ar := ak.ge 4 4 rfl
 refine st_nil (ae _ _ ?_)
 refine wp_ret (ret_k ai (v := .bool false) (res_t rfl ar _) ?_)
 exact ⟨by rw [← idxF_any (fun y : Nat => decide ((x : Int) = (y : Int))) u, aa]; rfl, aj⟩
 have af := oF aa
 refine wp_g0 [true, true, true, true, true] [] 9
   [ve (sv Au u cu), ve (.int .u16 (x : Int)), ve (iv (idxF (fun y : Nat => decide ((x : Int) = (y : Int))) u)), vT, vT] ad (.eq (.eq (.eq (.eq (.eq (.nil)))))) ?_ ?_
 exact .m (fun k => k.fx 0 h8) <| .m (fun k => k.fx 1 h9) <| .o1 (ck rfl rfl rfl (fun _ w hn k => ⟨#[sv Au u cu, .int .u16 (x : Int)], args2 (k.eq1 0 5 rfl) (k.eq1 1 6 rfl), fun _ => by kernel_rfl, index16_c _ u _ x _ (hru.new_ (ab.transNew hn)) (by omega)⟩) fun _ => rfl) <| .t (fun _ w hn k => ⟨_, v_bin rfl (k.eq1 2 7 rfl) rfl (fun _ => rfl) (r_geqK aa), rfl⟩) <| .a (fun k => k.eq1 3 8 rfl) .nil
 refine aftI ad ag ab fun aD aE ax al am ay an => ?_
 have au := an.ge 4 4 rfl
 refine st_nil (ae _ _ ?_)
 refine wp_ret (ret_k al (v := .bool true) (res_t rfl au _) ?_)
 exact ⟨by rw [← idxF_any (fun y : Nat => decide ((x : Int) = (y : Int))) u, aa]; rfl, am⟩
theorem nodigit_c (x : Nat) (w : World) (hx : x < 65536) : Calls Tryz.prog 100 #[.int .u16 (x : Int)] w (IsRet (.bool (!dgtN x)) w) := by
 refine enter_abs Tryz.func100 rfl fun a0 ab am hp => ?_
 have ab : a0.tmps.size = 6 := ab
 have an : New w w := Upd.refl _ _
 have hp0 : a0.eval (.tmp 0) = .int .u16 (x : Int) := hp 0 _ rfl
 refine wp_seq_k fun K1 ao => ?_
 refine wp_g0 [true] [] 6
   [vF] ab (.eq (.nil)) ?_ ?_
 exact .t (fun _ w hn k => ⟨_, v_assign rfl rfl, rfl⟩) .nil
 refine aftI ab am an fun a2 w3 ac ae af ay ap => ?_
 have h8 := ap.fx 0 hp0
 refine st_nil (ao _ _ (wp_seq_k fun az ad => ?_))
 rcases bc (dgtN x) with aa | aa
 refine wp_g0 [true, true, true, true] [] 6
   [ve (.int .u16 (x : Int)), vT, vF, vF] ac (.eq (.eq (.eq (.eq (.nil))))) ?_ ?_
 exact .m (fun k => k.fx 0 h8) <| .o1 (ck rfl rfl rfl (fun _ w hn k => ⟨#[.int .u16 (x : Int)], args1 (k.eq1 0 3 rfl), fun _ => by kernel_rfl, digit_c x _ (by omega)⟩) fun _ => congrArg Value.bool aa) <| .t (fun _ w hn k => ⟨_, v_not rfl (k.eq1 1 4 rfl), rfl⟩) <| .a (fun k => k.eq1 2 5 rfl) .nil
 refine aftI ac ae af fun aA aB au ag ah av ai => ?_
 have aq := ai.ge 3 2 rfl
 refine st_nil (ad _ _ ?_)
 refine wp_ret (ret_k ag (v := .bool false) (res_t rfl aq _) ?_)
 refine ⟨?_, ah⟩
 show Ending.returned (.bool false) = Ending.returned (.bool (!dgtN x))
 first | rfl | (simp only [aa, bsm] <;> rfl) | (exfalso; omega)
 refine wp_g0 [true, true, true, true] [] 6
   [ve (.int .u16 (x : Int)), vF, vT, vT] ac (.eq (.eq (.eq (.eq (.nil))))) ?_ ?_
 exact .m (fun k => k.fx 0 h8) <| .o1 (ck rfl rfl rfl (fun _ w hn k => ⟨#[.int .u16 (x : Int)], args1 (k.eq1 0 3 rfl), fun _ => by kernel_rfl, digit_c x _ (by omega)⟩) fun _ => congrArg Value.bool aa) <| .t (fun _ w hn k => ⟨_, v_not rfl (k.eq1 1 4 rfl), rfl⟩) <| .a (fun k => k.eq1 2 5 rfl) .nil
 refine aftI ac ae af fun aC aD aw aj ak ax al => ?_
 have ar := al.ge 3 2 rfl
 refine st_nil (ad _ _ ?_)
 refine wp_ret (ret_k aj (v := .bool true) (res_t rfl ar _) ?_)
 refine ⟨?_, ak⟩
 show Ending.returned (.bool true) = Ending.returned (.bool (!dgtN x))
 first | rfl | (simp only [aa, bsm] <;> rfl) | (exfalso; omega)
theorem indexf_c (Au : Option Addr) (u : List Nat) (cu : Nat) (w : World) (hru : SRow w .u16 Au u cu) (hu : U16s u) : Calls Tryz.prog 158 #[sv Au u cu, .func (.func 100) #[] #[]] w (IsRet (iv (idxF (fun y : Nat => !dgtN y) u)) w) := by
 refine enter_abs Tryz.func158 rfl fun a0 al bn hp => ?_
 have al : a0.tmps.size = 19 := al
 have bo : New w w := Upd.refl _ _
 have hp0 : a0.eval (.tmp 0) = sv Au u cu := hp 0 _ rfl
 have hp1 : a0.eval (.tmp 1) = .func (.func 100) #[] #[] := hp 1 _ rfl
 have hmx := hru.max
 refine wp_seq_k fun K1 bp => ?_
 refine wp_g0 [true] [] 19
   [ve (iv 0)] al (.eq (.nil)) ?_ ?_
 exact .t (fun _ w hn k => ⟨_, v_assign rfl rfl, rfl⟩) .nil
 refine aftI al bn bo fun a2 w3 aF bq aS bZ aG => ?_
 have h8 := aG.fx 0 hp0
 have h9 := aG.fx 1 hp1
 refine st_nil (bp _ _ (wp_seq_k fun b0 aT => ?_))
 refine wp_seq_k fun b2 aU => ?_
 refine wp_g0 [true, true, true] [] 19
   [ve (sv Au u cu), ve (iv (u.length : Int)), ve (iv 0)] aF (.eq (.eq (.eq (.nil)))) ?_ ?_
 exact .m (fun k => k.fx 0 h8) <| .t (fun _ w hn k => ⟨_, v_lenR rfl elU (k.eq1 0 6 rfl), rfl⟩) <| .t (fun _ w hn k => ⟨_, v_move rfl rfl, rfl⟩) .nil
 refine aftI aF bq aS fun b4 b6 aV aW aX bO ai => ?_
 have br := ai.fx 0 h8
 have bs := ai.fx 1 h9
 have bt := ai.ge 1 7 rfl
 have bu := ai.ge 2 8 rfl
 refine st_nil (aU _ _ ?_)
 refine wp_block ?_
 refine wp_loopX (fun (mm : Nat) (aa : Act) (ww : World) => ∃ (i : Nat), mm = u.length - i ∧ aa.tmps.size = 19 ∧ aa.defers = [] ∧ New w ww ∧ aa.eval (.tmp 8) = iv (i : Int) ∧ aa.eval (.tmp 0) = sv Au u cu ∧ aa.eval (.tmp 1) = .func (.func 100) #[] #[] ∧ aa.eval (.tmp 7) = iv (u.length : Int) ∧ (i ≤ u.length) ∧ (∀ j, j < i → (fun y : Nat => !dgtN y) (u.getD j 0) = false)) (fun mm => mm) ⟨_, ⟨0, rfl, aV, aW, aX, bu, br, bs, bt, (Nat.zero_le _), (fun j h => absurd h (Nat.not_lt_zero _))⟩⟩ ?_
 rintro mm b7 b8 ⟨i, hmm, am, aY, aZ, aH, bv, bw, aI, hi, hno⟩
 refine wp_seq_k fun b9 a1 => ?_
 refine wp_g0 [true] [] 19
   [ve (.bool (decide ((i : Int) < (u.length : Int))))] am (.eq (.nil)) ?_ ?_
 exact .t (fun _ w hn k => ⟨_, v_bin rfl (k.fx 8 aH) (k.fx 7 aI) (fun _ => rfl) (r_lssK rfl), rfl⟩) .nil
 refine aftI am aY aZ fun ca cb aj an ao bP ad => ?_
 have aJ := ad.fx 8 aH
 have bx := ad.fx 0 bv
 have bz := ad.fx 1 bw
 have bA := ad.fx 7 aI
 have aK := ad.ge 0 9 rfl
 refine st_nil (a1 _ _ (wp_seq_k fun cc a3 => ?_))
 rcases bc (decide ((i : Int) < (u.length : Int))) with ae | ae
 have aw := oT ae
 have a4 := hB aK ae
 refine wp_cond_true a4 ?_
 refine wp_skip ?_
 refine a3 _ _ ?_
 refine wp_seq_k fun cd a5 => ?_
 refine wp_block ?_
 refine wp_seq_k fun ce a6 => ?_
 refine wp_g0 [true, true] [] 19
   [ve (iv (i : Int)), ve (iv (i : Int))] aj (.eq (.eq (.nil))) ?_ ?_
 exact .m (fun k => k.fx 8 aJ) <| .a (fun k => k.eq1 0 10 rfl) .nil
 refine aftI aj an ao fun cf ch ap a7 aq bQ af => ?_
 have bB := af.fx 8 aJ
 have aL := af.fx 0 bx
 have aM := af.fx 1 bz
 have bC := af.fx 7 bA
 have aN := af.ge 1 5 rfl
 refine st_nil (a6 _ _ (wp_seq_k fun ci a8 => ?_))
 have hb := hu.at16 i
 refine wp_g0 [true, true, true, true, true, true] [] 19
   [ve (.func (.func 100) #[] #[]), ve (sv Au u cu), ve (iv (i : Int)),
    (EP (.int .u16 ((u.getD i 0 : Nat) : Int))), ve (.int .u16 ((u.getD i 0 : Nat) : Int)), ve (.bool (!dgtN (u.getD i 0)))] ap (.eq (.eq (.eq (.cons (fun _ _ _ n ⟨_, _, e, h⟩ => ⟨_, _, e, h.new_ n⟩) (.eq (.eq (.nil))))))) ?_ ?_
 refine .m (fun k => k.fx 1 aM) <| .m (fun k => k.fx 0 aL) <| .m (fun k => k.fx 5 aN) ?_
 refine .o1 (tk rfl rfl fun _ w hn k => (by
       exact x_eaddr (k := .u16) rfl elU (k.eq1 1 12 rfl) (k.eq1 2 13 rfl) (hru.new_ (aq.transNew hn)) (by omega) fun b1 o2 hme => ⟨b1, o2, rfl, hme⟩)) ?_
 refine .o1 (tk rfl rfl fun _ w hn k => (by
       obtain ⟨b5, o6, e7, bD⟩ : (EP (.int .u16 ((u.getD i 0 : Nat) : Int))) _ _ := k.dep 3 14 (by kernel_rfl) (by kernel_rfl)
       exact ⟨_, v_load rfl e7 (l_one Tryz.isAgg74 bD.1), rfl⟩)) ?_
 refine .o1 (tkV rfl (noG rfl) rfl fun _ w hn k => (by
       refine ⟨100, #[.int .u16 ((u.getD i 0 : Nat) : Int)], _, (k.eq1 0 11 rfl), args1 (k.eq1 4 15 rfl), fun w => by kernel_rfl, nodigit_c (u.getD i 0) _ (by omega), ?_⟩
       rintro e w' ⟨rfl, hm⟩
       exact ⟨_, rfl, hm, rfl⟩)) ?_
 exact .nil
 refine aftI ap a7 aq fun cj cl ak ar au bR ac => ?_
 have aO := ac.fx 8 bB
 have bE := ac.fx 0 aL
 have bF := ac.fx 1 aM
 have bG := ac.fx 7 bC
 have bH := ac.fx 5 aN
 have aP := ac.ge 5 16 rfl
 refine st_nil (a8 _ _ ?_)
 rcases bc ((!dgtN (u.getD i 0))) with ag | ag
 have a9 := hB aP ag
 refine wp_cond_true a9 ?_
 refine wp_seq_k fun cm ba => ?_
 refine wp_g0 [true, true] [] 19
   [ve (iv (i : Int)), ve (iv (i : Int))] ak (.eq (.eq (.nil))) ?_ ?_
 exact .m (fun k => k.fx 5 bH) <| .a (fun k => k.eq1 0 17 rfl) .nil
 refine aftI ak ar au fun cn co bS bb bd bT be => ?_
 have bI := be.ge 1 4 rfl
 refine st_nil (ba _ _ ?_)
 refine wp_ret (ret_k bb (v := iv (i : Int)) (res_t rfl bI _) ?_)
 exact ⟨by rw [idxF_at (fun y : Nat => !dgtN y) u i (by omega) hno ag], bd⟩
 have bf := hB aP ag
 refine wp_cond_false bf ?_
 refine wp_skip ?_
 refine a5 _ _ ?_
 refine wp_g0 [true, false] [(1, true)] 19
   [ve (iv ((i + 1 : Nat) : Int)), vt] ak (.eq (.tt (.nil))) ?_ ?_
 exact .t (fun _ w hn k => ⟨_, v_bin rfl (k.fx 8 aO) rfl (fun _ => rfl) (n_add (by omega) (IntWalk.i64_in _ (by omega))), rfl⟩) <| .off .nil
 refine aftI ak ar au fun aQ cp av bg ax bU ah => ?_
 have cq := ah.fx 8 aO
 have bJ := ah.fx 0 bE
 have bK := ah.fx 1 bF
 have bL := ah.fx 7 bG
 have aR := ah.ge 0 18 rfl
 refine st_take rfl rfl (y_move (v := iv ((i + 1 : Nat) : Int)) rfl aR) rfl ?_
 obtain ⟨bh, ab⟩ : ∃ a', a' = aQ.put (some 8) (iv ((i + 1 : Nat) : Int)) := ⟨_, rfl⟩
 have ay := pz ab av
 have az := pd ab bg
 have bi := pn ab bJ (by decide)
 have bj := pn ab bK (by decide)
 have bk := pn ab bL (by decide)
 have bV := pn ab aR (by decide)
 have bl : bh.eval (.tmp 8) = iv ((i + 1 : Nat) : Int) := by rw [ab]; exact put_same _ _ _ (by rw [av]; decide)
 show stepsTo _ _ _ _ _ (aQ.put (some 8) (iv ((i + 1 : Nat) : Int))) _
 rw [← ab]
 refine st_nil ?_
 refine then_n ?_
 exact ⟨_, ⟨i + 1, rfl, ay, az, ax, (bl.trans (congrArg (Value.int .i64) (by omega))), bi, bj, bk, (by omega), (up_false (p := (fun y : Nat => !dgtN y)) hno ag)⟩, (by omega)⟩
 have aw := oF ae
 have aA := hB aK ae
 refine wp_cond_false aA ?_
 refine wp_exit ?_
 refine aT _ _ ?_
 refine wp_seq_k fun bW aB => ?_
 refine wp_g0 [true] [] 19
   [ve (iv (-1))] aj (.eq (.nil)) ?_ ?_
 exact .t (fun _ w hn k => ⟨_, v_assign rfl rfl, rfl⟩) .nil
 refine aftI aj an ao fun bX bY bM aC aD bN aE => ?_
 have bm := aE.ge 0 4 rfl
 refine st_nil (aB _ _ ?_)
 refine wp_ret (ret_k aC (v := iv (-1)) (res_t rfl bm _) ?_)
 exact ⟨by rw [idxF_none (fun y : Nat => !dgtN y) u (fun j hj => hno j (by omega))], aD⟩
theorem containsf_c (Au : Option Addr) (u : List Nat) (cu : Nat) (w : World) (hru : SRow w .u16 Au u cu) (hu : U16s u) : Calls Tryz.prog 99 #[sv Au u cu, .func (.func 100) #[] #[]] w (IsRet (.bool (u.any (fun y : Nat => !dgtN y))) w) := by
 refine enter_abs Tryz.func99 rfl fun a0 ac ao hp => ?_
 have ac : a0.tmps.size = 9 := ac
 have ap : New w w := Upd.refl _ _
 have hp0 : a0.eval (.tmp 0) = sv Au u cu := hp 0 _ rfl
 have hp1 : a0.eval (.tmp 1) = .func (.func 100) #[] #[] := hp 1 _ rfl
 have hmx := hru.max
 refine wp_seq_k fun K1 aq => ?_
 refine wp_g0 [true] [] 9
   [vF] ac (.eq (.nil)) ?_ ?_
 exact .t (fun _ w hn k => ⟨_, v_assign rfl rfl, rfl⟩) .nil
 refine aftI ac ao ap fun a2 w3 ad ag ab az ah => ?_
 have h8 := ah.fx 0 hp0
 have h9 := ah.fx 1 hp1
 refine st_nil (aq _ _ (wp_seq_k fun aA ae => ?_))
 rcases bc (decide ((idxF (fun y : Nat => !dgtN y) u) < 0)) with aa | aa
 have af := oT aa
 refine wp_g0 [true, true, true, true, true] [] 9
   [ve (sv Au u cu), ve (.func (.func 100) #[] #[]), ve (iv (idxF (fun y : Nat => !dgtN y) u)), vF, vF] ad (.eq (.eq (.eq (.eq (.eq (.nil)))))) ?_ ?_
 exact .m (fun k => k.fx 0 h8) <| .m (fun k => k.fx 1 h9) <| .o1 (ck rfl rfl rfl (fun _ w hn k => ⟨#[sv Au u cu, .func (.func 100) #[] #[]], args2 (k.eq1 0 5 rfl) (k.eq1 1 6 rfl), fun _ => by kernel_rfl, indexf_c _ u _ _ (hru.new_ (ab.transNew hn)) hu⟩) fun _ => rfl) <| .t (fun _ w hn k => ⟨_, v_bin rfl (k.eq1 2 7 rfl) rfl (fun _ => rfl) (r_geqK aa), rfl⟩) <| .a (fun k => k.eq1 3 8 rfl) .nil
 refine aftI ad ag ab fun aB aC av ai aj aw ak => ?_
 have ar := ak.ge 4 4 rfl
 refine st_nil (ae _ _ ?_)
 refine wp_ret (ret_k ai (v := .bool false) (res_t rfl ar _) ?_)
 exact ⟨by rw [← idxF_any (fun y : Nat => !dgtN y) u, aa]; rfl, aj⟩
 have af := oF aa
 refine wp_g0 [true, true, true, true, true] [] 9
   [ve (sv Au u cu), ve (.func (.func 100) #[] #[]), ve (iv (idxF (fun y : Nat => !dgtN y) u)), vT, vT] ad (.eq (.eq (.eq (.eq (.eq (.nil)))))) ?_ ?_
 exact .m (fun k => k.fx 0 h8) <| .m (fun k => k.fx 1 h9) <| .o1 (ck rfl rfl rfl (fun _ w hn k => ⟨#[sv Au u cu, .func (.func 100) #[] #[]], args2 (k.eq1 0 5 rfl) (k.eq1 1 6 rfl), fun _ => by kernel_rfl, indexf_c _ u _ _ (hru.new_ (ab.transNew hn)) hu⟩) fun _ => rfl) <| .t (fun _ w hn k => ⟨_, v_bin rfl (k.eq1 2 7 rfl) rfl (fun _ => rfl) (r_geqK aa), rfl⟩) <| .a (fun k => k.eq1 3 8 rfl) .nil
 refine aftI ad ag ab fun aD aE ax al am ay an => ?_
 have au := an.ge 4 4 rfl
 refine st_nil (ae _ _ ?_)
 refine wp_ret (ret_k al (v := .bool true) (res_t rfl au _) ?_)
 exact ⟨by rw [← idxF_any (fun y : Nat => !dgtN y) u, aa]; rfl, am⟩
theorem strange_c (Au : Option Addr) (u : List Nat) (cu : Nat) (w : World) (hru : SRow w .u16 Au u cu) (hu : U16s u) : Calls Tryz.prog 96 #[sv Au u cu] w (IsRet (.bool (strangeN u)) w) := by
 refine enter_abs Tryz.func96 rfl fun a0 aL cU hp => ?_
 have aL : a0.tmps.size = 38 := aL
 have cV : New w w := Upd.refl _ _
 have hp0 : a0.eval (.tmp 0) = sv Au u cu := hp 0 _ rfl
 have hmx := hru.max
 refine wp_seq_k fun K1 cW => ?_
 refine wp_g0 [true] [] 38
   [vF] aL (.eq (.nil)) ?_ ?_
 exact .t (fun _ w hn k => ⟨_, v_assign rfl rfl, rfl⟩) .nil
 refine aftI aL cU cV fun a2 w3 bV cX cY ea cZ => ?_
 have h8 := cZ.fx 0 hp0
 refine st_nil (cW _ _ (wp_seq_k fun eb b9 => ?_))
 refine wp_g0 [true] [] 38
   [vF] bV (.eq (.nil)) ?_ ?_
 exact .t (fun _ w hn k => ⟨_, v_assign rfl rfl, rfl⟩) .nil
 refine aftI bV cX cY fun ec ed aY ca cb dI aZ => ?_
 have c0 := aZ.fx 0 h8
 have c1 := aZ.ge 0 3 rfl
 refine st_nil (b9 _ _ (wp_seq_k fun ee cc => ?_))
 refine wp_seq_k fun ef cd => ?_
 refine wp_g0 [true, true, true] [] 38
   [ve (sv Au u cu), ve (iv (u.length : Int)), ve (iv 0)] aY (.eq (.eq (.eq (.nil)))) ?_ ?_
 exact .m (fun k => k.fx 0 c0) <| .t (fun _ w hn k => ⟨_, v_lenR rfl elU (k.eq1 0 6 rfl), rfl⟩) <| .t (fun _ w hn k => ⟨_, v_move rfl rfl, rfl⟩) .nil
 refine aftI aY ca cb fun eg eh ce cf ch dJ au => ?_
 have c2 := au.fx 3 c1
 have c3 := au.ge 0 6 rfl
 have c4 := au.ge 1 7 rfl
 have c5 := au.ge 2 8 rfl
 refine st_nil (cd _ _ ?_)
 refine wp_block ?_
 refine wp_loopX (fun (mm : Nat) (aa : Act) (ww : World) => ∃ (i : Nat), mm = u.length - i ∧ aa.tmps.size = 38 ∧ aa.defers = [] ∧ New w ww ∧ aa.eval (.tmp 3) = .bool ((u.take i).any dgtN) ∧ aa.eval (.tmp 8) = iv (i : Int) ∧ aa.eval (.tmp 6) = sv Au u cu ∧ aa.eval (.tmp 7) = iv (u.length : Int) ∧ (i ≤ u.length) ∧ ((u.take i).all okcN = true)) (fun mm => mm) ⟨_, ⟨0, rfl, ce, cf, ch, (c2.trans rfl), c5, c3, c4, (Nat.zero_le _), rfl⟩⟩ ?_
 rintro mm ei ej ⟨i, hmm, a1, ci, cj, c6, bW, c7, bX, hi, hall⟩
 refine wp_seq_k fun ek cl => ?_
 refine wp_g0 [true] [] 38
   [ve (.bool (decide ((i : Int) < (u.length : Int))))] a1 (.eq (.nil)) ?_ ?_
 exact .t (fun _ w hn k => ⟨_, v_bin rfl (k.fx 8 bW) (k.fx 7 bX) (fun _ => rfl) (r_lssK rfl), rfl⟩) .nil
 refine aftI a1 ci cj fun el em av a3 aI dK an => ?_
 have bY := an.fx 3 c6
 have bZ := an.fx 8 bW
 have b0 := an.fx 6 c7
 have c8 := an.fx 7 bX
 have b2 := an.ge 0 9 rfl
 refine st_nil (cl _ _ (wp_seq_k fun en cm => ?_))
 rcases bc (decide ((i : Int) < (u.length : Int))) with ao | ao
 have bt := oT ao
 have cn := hB b2 ao
 refine wp_cond_true cn ?_
 refine wp_skip ?_
 refine cm _ _ ?_
 refine wp_seq_j (fun (aa : Act) (ww : World) => aa.tmps.size = 38 ∧ aa.defers = [] ∧ New w ww ∧ aa.eval (.tmp 3) = .bool ((u.take (i + 1)).any dgtN) ∧ aa.eval (.tmp 6) = sv Au u cu ∧ aa.eval (.tmp 7) = iv (u.length : Int) ∧ aa.eval (.tmp 8) = iv (i : Int) ∧ (okcN (u.getD i 0) = true)) ?_ ?_
 rintro eo ep ⟨a4, co, cp, c9, da, db, b4, hok⟩
 refine wp_g0 [true, false] [(1, true)] 38
   [ve (iv ((i + 1 : Nat) : Int)), vt] a4 (.eq (.tt (.nil))) ?_ ?_
 exact .t (fun _ w hn k => ⟨_, v_bin rfl (k.fx 8 b4) rfl (fun _ => rfl) (n_add (by omega) (IntWalk.i64_in _ (by omega))), rfl⟩) <| .off .nil
 refine aftI a4 co cp fun b6 er a5 cq cr dL ap => ?_
 have dc := ap.fx 3 c9
 have dd := ap.fx 6 da
 have de := ap.fx 7 db
 have es := ap.fx 8 b4
 have b7 := ap.ge 0 36 rfl
 refine st_take rfl rfl (y_move (v := iv ((i + 1 : Nat) : Int)) rfl b7) rfl ?_
 obtain ⟨df, af⟩ : ∃ a', a' = b6.put (some 8) (iv ((i + 1 : Nat) : Int)) := ⟨_, rfl⟩
 have cs := pz af a5
 have ct := pd af cq
 have dg := pn af dc (by decide)
 have dh := pn af dd (by decide)
 have di := pn af de (by decide)
 have et := pn af b7 (by decide)
 have dj : df.eval (.tmp 8) = iv ((i + 1 : Nat) : Int) := by rw [af]; exact put_same _ _ _ (by rw [a5]; decide)
 show stepsTo _ _ _ _ _ (b6.put (some 8) (iv ((i + 1 : Nat) : Int))) _
 rw [← af]
 refine st_nil ?_
 refine then_n ?_
 exact ⟨_, ⟨i + 1, rfl, cs, ct, cr, dg, (dj.trans (congrArg (Value.int .i64) (by omega))), dh, di, (by omega), (all_up (by omega) hall hok)⟩, (by omega)⟩
 intro eu aw
 refine wp_block ?_
 refine wp_seq_k fun ev cv => ?_
 have hb := hu.at16 i
 refine wp_g0 [true, true, true] [] 38
   [(EP (.int .u16 ((u.getD i 0 : Nat) : Int))), ve (.int .u16 ((u.getD i 0 : Nat) : Int)), ve (.int .u16 ((u.getD i 0 : Nat) : Int))] av (.cons (fun _ _ _ n ⟨_, _, e, h⟩ => ⟨_, _, e, h.new_ n⟩) (.eq (.eq (.nil)))) ?_ ?_
 refine .o1 (tk rfl rfl fun _ w hn k => (by
       exact x_eaddr (k := .u16) rfl elU (k.fx 6 b0) (k.fx 8 bZ) (hru.new_ (aI.transNew hn)) (by omega) fun b1 o2 hme => ⟨b1, o2, rfl, hme⟩)) ?_
 refine .o1 (tk rfl rfl fun _ w hn k => (by
       obtain ⟨b5, o6, e7, dk⟩ : (EP (.int .u16 ((u.getD i 0 : Nat) : Int))) _ _ := k.dep 0 10 (by kernel_rfl) (by kernel_rfl)
       exact ⟨_, v_load rfl e7 (l_one Tryz.isAgg74 dk.1), rfl⟩)) ?_
 exact .a (fun k => k.eq1 1 11 rfl) .nil
 refine aftI av a3 aI fun ew ex a6 cw bu dM aq => ?_
 have b8 := aq.fx 3 bY
 have dl := aq.fx 8 bZ
 have dm := aq.fx 6 b0
 have dn := aq.fx 7 c8
 have a7 := aq.ge 2 5 rfl
 refine st_nil (cv _ _ ?_)
 refine wp_seq_j (fun (aa : Act) (ww : World) => aa.tmps.size = 38 ∧ aa.defers = [] ∧ New w ww ∧ aa.eval (.tmp 3) = .bool ((u.take (i + 1)).any dgtN) ∧ aa.eval (.tmp 5) = .int .u16 ((u.getD i 0 : Nat) : Int) ∧ aa.eval (.tmp 6) = sv Au u cu ∧ aa.eval (.tmp 7) = iv (u.length : Int) ∧ aa.eval (.tmp 8) = iv (i : Int)) ?_ ?_
 rintro dN dO ⟨aM, bv, bw, cx, a8, cy, cz, cA⟩
 refine wp_block ?_
 refine wp_seq_k fun dP ax => ?_
 refine wp_seq_k fun dQ bx => ?_
 have hb := hu.at16 i
 refine wp_g0 [true, true, true] [] 38
   [ve (.int .u16 ((u.getD i 0 : Nat) : Int)), ve (.bool (dgtN (u.getD i 0))), ve (.bool (dgtN (u.getD i 0)))] aM (.eq (.eq (.eq (.nil)))) ?_ ?_
 exact .m (fun k => k.fx 5 a8) <| .o1 (ck rfl rfl rfl (fun _ w hn k => ⟨#[.int .u16 ((u.getD i 0 : Nat) : Int)], args1 (k.eq1 0 18 rfl), fun _ => by kernel_rfl, digit_c (u.getD i 0) _ (by omega)⟩) fun _ => rfl) <| .a (fun k => k.eq1 1 19 rfl) .nil
 refine aftI aM bv bw fun dR dS ay aN aO dz ag => ?_
 have a9 := ag.fx 3 cx
 have aJ := ag.fx 5 a8
 have ba := ag.fx 6 cy
 have bb := ag.fx 7 cz
 have bd := ag.fx 8 cA
 have be := ag.ge 2 17 rfl
 refine st_nil (bx _ _ ?_)
 rcases bc (dgtN (u.getD i 0)) with ad | ad
 have aP := hB be ad
 refine wp_cond_true aP ?_
 refine wp_skip ?_
 refine ax _ _ ?_
 refine wp_cond_true aP ?_
 refine wp_skip ?_
 exact aw _ _ ⟨ay, aN, aO, a9, ba, bb, bd, (by unfold okcN; simp only [ad, bsm])⟩
 have bz := hB be ad
 refine wp_cond_false bz ?_
 refine wp_seq_k fun dT bA => ?_
 refine wp_g0 [true, true, true, true, true, true, true] [] 38
   [ve (.int .u16 ((u.getD i 0 : Nat) : Int)), ve (.bool (!decide (((u.getD i 0 : Nat) : Int) < 97))), ve (.bool (!decide (((u.getD i 0 : Nat) : Int) < 97))), ve (gq (!decide (((u.getD i 0 : Nat) : Int) < 97)) (.int .u16 ((u.getD i 0 : Nat) : Int))), ve (gq (!decide (((u.getD i 0 : Nat) : Int) < 97)) (.bool (decide (((u.getD i 0 : Nat) : Int) ≤ 102)))), ve (.bool ((!decide (((u.getD i 0 : Nat) : Int) < 97)) && (decide (((u.getD i 0 : Nat) : Int) ≤ 102)))), ve (.bool ((!decide (((u.getD i 0 : Nat) : Int) < 97)) && (decide (((u.getD i 0 : Nat) : Int) ≤ 102))))] ay (.eq (.eq (.eq (.eq (.eq (.eq (.eq (.nil)))))))) ?_ ?_
 exact .m (fun k => k.fx 5 aJ) <| .t (fun _ w hn k => ⟨_, v_bin rfl (k.eq1 0 20 rfl) rfl (fun _ => rfl) (r_geqK rfl), rfl⟩) <| .m (fun k => k.eq1 1 21 rfl) <| .o1 (sc (G := (!decide (((u.getD i 0 : Nat) : Int) < 97))) rfl rfl rfl (fun _ _ k => g0 (k.eq1 2 22 rfl)) (fun hG _ w hn k => v_move rfl (k.fx 5 aJ))) <| .o1 (sc (G := (!decide (((u.getD i 0 : Nat) : Int) < 97))) rfl rfl rfl (fun _ _ k => g0 (k.eq1 2 22 rfl)) (fun hG _ w hn k => v_bin rfl (cT hG (k.eq1 3 23 rfl)) rfl (fun _ => rfl) (r_leqK rfl))) <| .t (fun _ w hn k => ⟨_, v_and rfl (k.eq1 2 22 rfl) (fun hg => (cT hg (k.eq1 4 24 rfl))) rfl, rfl⟩) <| .a (fun k => k.eq1 5 25 rfl) .nil
 refine aftI ay aN aO fun dU dV az aQ aR dA ah => ?_
 have bf := ah.fx 3 a9
 have aK := ah.fx 5 aJ
 have bg := ah.fx 6 ba
 have bh := ah.fx 7 bb
 have bi := ah.fx 8 bd
 have bj := ah.ge 6 17 rfl
 refine st_nil (bA _ _ ?_)
 rcases bc (((!decide (((u.getD i 0 : Nat) : Int) < 97)) && (decide (((u.getD i 0 : Nat) : Int) ≤ 102)))) with ab | ab
 have aS := hB bj ab
 have aA : (!decide (((u.getD i 0 : Nat) : Int) < 97)) = true := al ab
 have aB : (decide (((u.getD i 0 : Nat) : Int) < 97)) = false := nF aA
 have dp := oF aB
 have aC : (decide (((u.getD i 0 : Nat) : Int) ≤ 102)) = true := ar ab
 have dq := oT aC
 refine wp_cond_true aS ?_
 refine wp_skip ?_
 refine ax _ _ ?_
 refine wp_cond_true aS ?_
 refine wp_skip ?_
 exact aw _ _ ⟨az, aQ, aR, bf, bg, bh, bi, (by unfold okcN; simp only [ad, ab, aA, aA, aB, aB, aC, aC, bsm])⟩
 have bB := hB bj ab
 refine wp_cond_false bB ?_
 refine wp_g0 [true, true, true, true, true, true, true] [] 38
   [ve (.int .u16 ((u.getD i 0 : Nat) : Int)), ve (.bool (!decide (((u.getD i 0 : Nat) : Int) < 65))), ve (.bool (!decide (((u.getD i 0 : Nat) : Int) < 65))), ve (gq (!decide (((u.getD i 0 : Nat) : Int) < 65)) (.int .u16 ((u.getD i 0 : Nat) : Int))), ve (gq (!decide (((u.getD i 0 : Nat) : Int) < 65)) (.bool (decide (((u.getD i 0 : Nat) : Int) ≤ 70)))), ve (.bool ((!decide (((u.getD i 0 : Nat) : Int) < 65)) && (decide (((u.getD i 0 : Nat) : Int) ≤ 70)))), ve (.bool ((!decide (((u.getD i 0 : Nat) : Int) < 65)) && (decide (((u.getD i 0 : Nat) : Int) ≤ 70))))] az (.eq (.eq (.eq (.eq (.eq (.eq (.eq (.nil)))))))) ?_ ?_
 exact .m (fun k => k.fx 5 aK) <| .t (fun _ w hn k => ⟨_, v_bin rfl (k.eq1 0 26 rfl) rfl (fun _ => rfl) (r_geqK rfl), rfl⟩) <| .m (fun k => k.eq1 1 27 rfl) <| .o1 (sc (G := (!decide (((u.getD i 0 : Nat) : Int) < 65))) rfl rfl rfl (fun _ _ k => g0 (k.eq1 2 28 rfl)) (fun hG _ w hn k => v_move rfl (k.fx 5 aK))) <| .o1 (sc (G := (!decide (((u.getD i 0 : Nat) : Int) < 65))) rfl rfl rfl (fun _ _ k => g0 (k.eq1 2 28 rfl)) (fun hG _ w hn k => v_bin rfl (cT hG (k.eq1 3 29 rfl)) rfl (fun _ => rfl) (r_leqK rfl))) <| .t (fun _ w hn k => ⟨_, v_and rfl (k.eq1 2 28 rfl) (fun hg => (cT hg (k.eq1 4 30 rfl))) rfl, rfl⟩) <| .a (fun k => k.eq1 5 31 rfl) .nil
 refine aftI az aQ aR fun dW bk aD aT aU dB ai => ?_
 have bl := ai.fx 3 bf
 have cB := ai.fx 5 aK
 have bm := ai.fx 6 bg
 have bn := ai.fx 7 bh
 have bo := ai.fx 8 bi
 have bp := ai.ge 6 17 rfl
 refine st_nil (ax _ _ ?_)
 rcases bc (((!decide (((u.getD i 0 : Nat) : Int) < 65)) && (decide (((u.getD i 0 : Nat) : Int) ≤ 70)))) with ae | ae
 have bC := hB bp ae
 have aE : (!decide (((u.getD i 0 : Nat) : Int) < 65)) = true := al ae
 have aF : (decide (((u.getD i 0 : Nat) : Int) < 65)) = false := nF aE
 have dr := oF aF
 have aG : (decide (((u.getD i 0 : Nat) : Int) ≤ 70)) = true := ar ae
 have ds := oT aG
 refine wp_cond_true bC ?_
 refine wp_skip ?_
 exact aw _ _ ⟨aD, aT, aU, bl, bm, bn, bo, (by unfold okcN; simp only [ad, ab, ae, aE, aE, aF, aF, aG, aG, bsm])⟩
 have bD := hB bp ae
 refine wp_cond_false bD ?_
 refine wp_seq_k fun dX bE => ?_
 have hb := hu.at16 i
 refine wp_g0 [true, true, true, true] [] 38
   [(OP bk.heap.size 74 .u16 (asc ⟨#[120, 88, 111, 79, 46, 43, 45, 95]⟩)), ve (.int .u16 ((u.getD i 0 : Nat) : Int)), ve (.bool ((asc ⟨#[120, 88, 111, 79, 46, 43, 45, 95]⟩).any (fun y : Nat => decide (((u.getD i 0) : Int) = (y : Int))))), ve (.bool ((asc ⟨#[120, 88, 111, 79, 46, 43, 45, 95]⟩).any (fun y : Nat => decide (((u.getD i 0) : Int) = (y : Int)))))] aD (.cons (fun _ _ _ n ⟨_, _, e, h⟩ => ⟨_, _, e, h.new_ n⟩) (.eq (.eq (.eq (.nil))))) ?_ ?_
 refine .o1 (tkC rfl (noG rfl) rfl fun _ w hn k => (by
       refine ⟨#[.string ⟨#[120, 88, 111, 79, 46, 43, 45, 95]⟩], _, args1 rfl, fun w => by kernel_rfl, ascii_c ⟨#[120, 88, 111, 79, 46, 43, 45, 95]⟩ _ (by first | omega | (show (_ : Nat) ≤ _; decide)), ?_⟩
       rintro e w' ⟨A9, dv, rfl, hmo0, hm⟩
       exact ⟨_, rfl, hm, ⟨A9, dv, rfl, (hmo0.more hn.size)⟩⟩)) ?_
 refine .m (fun k => k.fx 5 cB) ?_
 refine .o1 (tkC rfl (noG rfl) rfl fun _ w hn k => (by
       obtain ⟨dw, dx, dy, cC⟩ : (OP bk.heap.size 74 .u16 (asc ⟨#[120, 88, 111, 79, 46, 43, 45, 95]⟩)) _ _ := k.dep 0 33 (by kernel_rfl) (by kernel_rfl)
       refine ⟨#[sv dw (asc ⟨#[120, 88, 111, 79, 46, 43, 45, 95]⟩) dx, .int .u16 ((u.getD i 0 : Nat) : Int)], _, args2 dy (k.eq1 1 34 rfl), fun w => by kernel_rfl, contains16_c _ (asc ⟨#[120, 88, 111, 79, 46, 43, 45, 95]⟩) _ (u.getD i 0) _ cC.row (by omega), ?_⟩
       rintro e w' ⟨rfl, hm⟩
       exact ⟨_, rfl, hm, rfl⟩)) ?_
 exact .a (fun k => k.eq1 2 35 rfl) .nil
 refine aftI aD aT aU fun dY dZ aH aV aW dC ak => ?_
 have cD := ak.fx 3 bl
 have cE := ak.fx 6 bm
 have cF := ak.fx 7 bn
 have cG := ak.fx 8 bo
 have bq := ak.ge 3 32 rfl
 refine st_nil (bE _ _ ?_)
 rcases bc (((asc ⟨#[120, 88, 111, 79, 46, 43, 45, 95]⟩).any (fun y : Nat => decide (((u.getD i 0) : Int) = (y : Int))))) with am | am
 have bF := hB bq am
 refine wp_cond_true bF ?_
 refine wp_skip ?_
 exact aw _ _ ⟨aH, aV, aW, cD, cE, cF, cG, (by unfold okcN; simp only [ad, ab, ae, am, bsm])⟩
 have bG := hB bq am
 refine wp_cond_false bG ?_
 refine wp_seq_k fun d0 bH => ?_
 refine wp_g0 [true] [] 38
   [vF] aH (.eq (.nil)) ?_ ?_
 exact .t (fun _ w hn k => ⟨_, v_assign rfl rfl, rfl⟩) .nil
 refine aftI aH aV aW fun d1 d2 dD bI bJ dE bK => ?_
 have cH := bK.ge 0 2 rfl
 refine st_nil (bH _ _ ?_)
 refine wp_ret (ret_k bI (v := .bool false) (res_t rfl cH _) ?_)
 exact ⟨by rw [show strangeN u = false from by unfold strangeN; rw [all_bad (i := i) (by omega) (by unfold okcN; simp only [ad, ab, ae, am, bsm]), Bool.false_and]], bJ⟩
 intro d3 bL
 have hb := hu.at16 i
 refine wp_g0 [true, true, true, true, true, false] [(5, true)] 38
   [ve (.bool ((u.take i).any dgtN)), ve (.bool ((u.take i).any dgtN)), ve (gq (!((u.take i).any dgtN)) (.int .u16 ((u.getD i 0 : Nat) : Int))), ve (gq (!((u.take i).any dgtN)) (.bool (dgtN (u.getD i 0)))), ve (.bool (((u.take i).any dgtN) || (dgtN (u.getD i 0)))), vt] a6 (.eq (.eq (.eq (.eq (.eq (.tt (.nil))))))) ?_ ?_
 exact .m (fun k => k.fx 3 b8) <| .m (fun k => k.eq1 0 12 rfl) <| .o1 (sc (G := (!((u.take i).any dgtN))) rfl rfl rfl (fun _ _ k => g0' (k.eq1 1 13 rfl)) (fun hG _ w hn k => v_move rfl (k.fx 5 a7))) <| .o1 (scC (G := (!((u.take i).any dgtN))) rfl rfl rfl (fun _ _ k => g0' (k.eq1 1 13 rfl)) rfl (fun hG _ w hn k => ⟨#[.int .u16 ((u.getD i 0 : Nat) : Int)], args1 (cT hG (k.eq1 2 14 rfl)), fun _ => by kernel_rfl, digit_c (u.getD i 0) _ (by omega)⟩)) <| .t (fun _ w hn k => ⟨_, v_or rfl (k.eq1 1 13 rfl) rfl (fun hg => (cT (nt hg) (k.eq1 3 15 rfl))), rfl⟩) <| .off .nil
 refine aftI a6 cw bu fun br d4 aX bM bN dF aj => ?_
 have d5 := aj.fx 3 b8
 have cI := aj.fx 8 dl
 have cJ := aj.fx 6 dm
 have cK := aj.fx 7 dn
 have cL := aj.fx 5 a7
 have bs := aj.ge 4 16 rfl
 refine st_take rfl rfl (y_assign (v := .bool (((u.take i).any dgtN) || (dgtN (u.getD i 0)))) rfl bs) rfl ?_
 obtain ⟨cM, ac⟩ : ∃ a', a' = br.put (some 3) (.bool (((u.take i).any dgtN) || (dgtN (u.getD i 0)))) := ⟨_, rfl⟩
 have bO := pz ac aX
 have bP := pd ac bM
 have cN := pn ac cI (by decide)
 have cO := pn ac cJ (by decide)
 have cP := pn ac cK (by decide)
 have cQ := pn ac cL (by decide)
 have d6 := pn ac bs (by decide)
 have cR : cM.eval (.tmp 3) = .bool (((u.take i).any dgtN) || (dgtN (u.getD i 0))) := by rw [ac]; exact put_same _ _ _ (by rw [aX]; decide)
 show stepsTo _ _ _ _ _ (br.put (some 3) (.bool (((u.take i).any dgtN) || (dgtN (u.getD i 0))))) _
 rw [← ac]
 refine st_nil ?_
 exact bL _ _ ⟨bO, bP, bN, (cR.trans (congrArg Value.bool (by rw [any_up (by omega)]))), cQ, cO, cP, cN⟩
 have bt := oF ao
 have bQ := hB b2 ao
 refine wp_cond_false bQ ?_
 refine wp_exit ?_
 refine cc _ _ ?_
 refine wp_seq_k fun d7 bR => ?_
 refine wp_g0 [true, true] [] 38
   [ve (.bool ((u.take i).any dgtN)), ve (.bool ((u.take i).any dgtN))] av (.eq (.eq (.nil))) ?_ ?_
 exact .m (fun k => k.fx 3 bY) <| .a (fun k => k.eq1 0 37 rfl) .nil
 refine aftI av a3 aI fun d8 d9 dG bS bT dH bU => ?_
 have cS := bU.ge 1 2 rfl
 refine st_nil (bR _ _ ?_)
 refine wp_ret (ret_k bS (v := .bool ((u.take i).any dgtN)) (res_t rfl cS _) ?_)
 exact ⟨by rw [show strangeN u = ((u.take i).any dgtN) from by unfold strangeN; rw [List.take_of_length_le (by omega)] at hall; rw [hall, Bool.true_and, List.take_of_length_le (by omega)]], bT⟩
theorem value_c (Au : Option Addr) (u : List Nat) (cu : Nat) (w : World) (hru : SRow w .u16 Au u cu) (hu : U16s u) (hd : ∀ j, j < u.length → 48 ≤ u.getD j 0 ∧ u.getD j 0 ≤ 57) : Calls Tryz.prog 102 #[sv Au u cu] w (IsRet (.tuple #[iv ((valR u 0).1), .bool ((valR u 0).2)]) w) := by
 refine enter_abs Tryz.func102 rfl fun a0 ap bT hp => ?_
 have ap : a0.tmps.size = 25 := ap
 have bU : New w w := Upd.refl _ _
 have hp0 : a0.eval (.tmp 0) = sv Au u cu := hp 0 _ rfl
 have hmx := hru.max
 refine wp_seq_k fun K1 bV => ?_
 refine wp_g0 [true, true] [] 25
   [ve (iv 0), vF] ap (.eq (.eq (.nil))) ?_ ?_
 exact .t (fun _ w hn k => ⟨_, v_assign rfl rfl, rfl⟩) <| .t (fun _ w hn k => ⟨_, v_assign rfl rfl, rfl⟩) .nil
 refine aftI ap bT bU fun a2 w3 a3 bW bX cQ bY => ?_
 have h8 := bY.fx 0 hp0
 refine st_nil (bV _ _ (wp_seq_k fun cR bh => ?_))
 refine wp_g0 [true] [] 25
   [ve (iv 0)] a3 (.eq (.nil)) ?_ ?_
 exact .t (fun _ w hn k => ⟨_, v_assign rfl rfl, rfl⟩) .nil
 refine aftI a3 bW bX fun cS cT ay bi bj cs az => ?_
 have bZ := az.fx 0 h8
 have b0 := az.ge 0 4 rfl
 refine st_nil (bh _ _ (wp_seq_k fun cU bk => ?_))
 refine wp_seq_k fun cV bl => ?_
 refine wp_g0 [true, true, true] [] 25
   [ve (sv Au u cu), ve (iv (u.length : Int)), ve (iv 0)] ay (.eq (.eq (.eq (.nil)))) ?_ ?_
 exact .m (fun k => k.fx 0 bZ) <| .t (fun _ w hn k => ⟨_, v_lenR rfl elU (k.eq1 0 7 rfl), rfl⟩) <| .t (fun _ w hn k => ⟨_, v_move rfl rfl, rfl⟩) .nil
 refine aftI ay bi bj fun cW cX bm bn bo ct al => ?_
 have b2 := al.fx 4 b0
 have b4 := al.ge 0 7 rfl
 have b6 := al.ge 1 8 rfl
 have b7 := al.ge 2 9 rfl
 refine st_nil (bl _ _ ?_)
 refine wp_block ?_
 refine wp_loopX (fun (mm : Nat) (aa : Act) (ww : World) => ∃ (i : Nat) (n : Int), mm = u.length - i ∧ aa.tmps.size = 25 ∧ aa.defers = [] ∧ New w ww ∧ aa.eval (.tmp 4) = iv n ∧ aa.eval (.tmp 9) = iv (i : Int) ∧ aa.eval (.tmp 7) = sv Au u cu ∧ aa.eval (.tmp 8) = iv (u.length : Int) ∧ (i ≤ u.length) ∧ (0 ≤ n ∧ n ≤ 9007199254741000) ∧ (valR u 0 = valR (u.drop i) n)) (fun mm => mm) ⟨_, ⟨0, 0, rfl, bm, bn, bo, b2, b7, b4, b6, (Nat.zero_le _), (by omega), (by rw [List.drop_zero])⟩⟩ ?_
 rintro mm cY cZ ⟨i, n, hmm, aA, bp, bq, b8, a4, b9, a5, hi, hn, hv⟩
 refine wp_seq_k fun c0 br => ?_
 refine wp_g0 [true] [] 25
   [ve (.bool (decide ((i : Int) < (u.length : Int))))] aA (.eq (.nil)) ?_ ?_
 exact .t (fun _ w hn k => ⟨_, v_bin rfl (k.fx 9 a4) (k.fx 8 a5) (fun _ => rfl) (r_lssK rfl), rfl⟩) .nil
 refine aftI aA bp bq fun c1 c2 am aB ao cv ah => ?_
 have aC := ah.fx 4 b8
 have a6 := ah.fx 9 a4
 have a7 := ah.fx 7 b9
 have ca := ah.fx 8 a5
 have a8 := ah.ge 0 10 rfl
 refine st_nil (br _ _ (wp_seq_k fun c3 bs => ?_))
 rcases bc (decide ((i : Int) < (u.length : Int))) with ai | ai
 have aL := oT ai
 have bt := hB a8 ai
 refine wp_cond_true bt ?_
 refine wp_skip ?_
 refine bs _ _ ?_
 refine wp_seq_k fun c4 bu => ?_
 refine wp_block ?_
 refine wp_seq_k fun c5 bv => ?_
 have hb := hu.at16 i
 refine wp_g0 [true, true, true] [] 25
   [(EP (.int .u16 ((u.getD i 0 : Nat) : Int))), ve (.int .u16 ((u.getD i 0 : Nat) : Int)), ve (.int .u16 ((u.getD i 0 : Nat) : Int))] am (.cons (fun _ _ _ n ⟨_, _, e, h⟩ => ⟨_, _, e, h.new_ n⟩) (.eq (.eq (.nil)))) ?_ ?_
 refine .o1 (tk rfl rfl fun _ w hn k => (by
       exact x_eaddr (k := .u16) rfl elU (k.fx 7 a7) (k.fx 9 a6) (hru.new_ (ao.transNew hn)) (by omega) fun b1 o2 hme => ⟨b1, o2, rfl, hme⟩)) ?_
 refine .o1 (tk rfl rfl fun _ w hn k => (by
       obtain ⟨b5, o6, e7, cb⟩ : (EP (.int .u16 ((u.getD i 0 : Nat) : Int))) _ _ := k.dep 0 11 (by kernel_rfl) (by kernel_rfl)
       exact ⟨_, v_load rfl e7 (l_one Tryz.isAgg74 cb.1), rfl⟩)) ?_
 exact .a (fun k => k.eq1 1 12 rfl) .nil
 refine aftI am aB ao fun c6 c7 an aD aE cw aj => ?_
 have aq := aj.fx 4 aC
 have a9 := aj.fx 9 a6
 have ba := aj.fx 7 a7
 have bb := aj.fx 8 ca
 have bd := aj.ge 2 6 rfl
 refine st_nil (bv _ _ (wp_seq_k fun c8 bw => ?_))
 refine wp_seq_k fun c9 aF => ?_
 rcases bc (decide (n ≤ 900719925474099)) with ae | ae
 have aM := oT ae
 refine wp_g0 [true, true] [] 25
   [ve (iv n), vF] an (.eq (.eq (.nil))) ?_ ?_
 exact .m (fun k => k.fx 4 aq) <| .t (fun _ w hn k => ⟨_, v_bin rfl (k.eq1 0 13 rfl) rfl (fun _ => rfl) (r_gtrK ae), rfl⟩) .nil
 refine aftI an aD aE fun da db aG bx bz cx ag => ?_
 have be := ag.fx 4 aq
 have cc := ag.fx 9 a9
 have cd := ag.fx 7 ba
 have ce := ag.fx 8 bb
 have cf := ag.fx 6 bd
 have ch := ag.ge 1 14 rfl
 refine st_nil (aF _ _ ?_)
 refine wp_cond_false ch ?_
 refine wp_skip ?_
 refine bw _ _ ?_
 have hdg := hd i (by omega)
 have hb := hu.at16 i
 refine wp_g0 [true, true, true, true, true, true, false] [(6, true)] 25
   [ve (iv n), ve (iv (10 * n)), ve (.int .u16 ((u.getD i 0 : Nat) : Int)), ve (.int .u16 (((u.getD i 0) - 48 : Nat) : Int)), ve (iv (((u.getD i 0) - 48 : Nat) : Int)), ve (iv ((10 * n) + (((u.getD i 0) - 48 : Nat) : Int))), vt] aG (.eq (.eq (.eq (.eq (.eq (.eq (.tt (.nil)))))))) ?_ ?_
 exact .m (fun k => k.fx 4 be) <| .t (fun _ w hn k => ⟨_, v_bin rfl rfl (k.eq1 0 15 rfl) (fun _ => rfl) (n_mul rfl (IntWalk.i64_in _ (by omega))), rfl⟩) <| .m (fun k => k.fx 6 cf) <| .t (fun _ w hn k => ⟨_, v_bin rfl (k.eq1 2 17 rfl) rfl (fun _ => rfl) (n_sub (by omega) (IntWalk.u16_in _ (by omega))), rfl⟩) <| .t (fun _ w hn k => ⟨_, v_conv rfl (k.eq1 3 18 rfl) (n_conv (by kernel_rfl) (by kernel_rfl) (by kernel_rfl) (IntWalk.i64_in _ (by omega))), rfl⟩) <| .t (fun _ w hn k => ⟨_, v_bin rfl (k.eq1 1 16 rfl) (k.eq1 4 19 rfl) (fun _ => rfl) (r_add rfl (by omega)), rfl⟩) <| .off .nil
 refine aftI aG bx bz fun bf dc aH bA bB cy ak => ?_
 have dd := ak.fx 4 be
 have ci := ak.fx 9 cc
 have cj := ak.fx 7 cd
 have cl := ak.fx 8 ce
 have bg := ak.ge 5 20 rfl
 refine st_take rfl rfl (y_assign (v := iv ((10 * n) + (((u.getD i 0) - 48 : Nat) : Int))) rfl bg) rfl ?_
 obtain ⟨bC, ab⟩ : ∃ a', a' = bf.put (some 4) (iv ((10 * n) + (((u.getD i 0) - 48 : Nat) : Int))) := ⟨_, rfl⟩
 have ar := pz ab aH
 have aN := pd ab bA
 have aI := pn ab ci (by decide)
 have bD := pn ab cj (by decide)
 have bE := pn ab cl (by decide)
 have cz := pn ab bg (by decide)
 have bF : bC.eval (.tmp 4) = iv ((10 * n) + (((u.getD i 0) - 48 : Nat) : Int)) := by rw [ab]; exact put_same _ _ _ (by rw [aH]; decide)
 show stepsTo _ _ _ _ _ (bf.put (some 4) (iv ((10 * n) + (((u.getD i 0) - 48 : Nat) : Int)))) _
 rw [← ab]
 refine st_nil (bu _ _ ?_)
 refine wp_g0 [true, false] [(1, true)] 25
   [ve (iv ((i + 1 : Nat) : Int)), vt] ar (.eq (.tt (.nil))) ?_ ?_
 exact .t (fun _ w hn k => ⟨_, v_bin rfl (k.fx 9 aI) rfl (fun _ => rfl) (n_add (by omega) (IntWalk.i64_in _ (by omega))), rfl⟩) <| .off .nil
 refine aftI ar aN bB fun aJ cA au aO aP cm af => ?_
 have cB := af.fx 9 aI
 have bG := af.fx 7 bD
 have bH := af.fx 8 bE
 have bI := af.fx 4 bF
 have aK := af.ge 0 21 rfl
 refine st_take rfl rfl (y_move (v := iv ((i + 1 : Nat) : Int)) rfl aK) rfl ?_
 obtain ⟨bJ, ac⟩ : ∃ a', a' = aJ.put (some 9) (iv ((i + 1 : Nat) : Int)) := ⟨_, rfl⟩
 have aQ := pz ac au
 have aR := pd ac aO
 have bK := pn ac bG (by decide)
 have bL := pn ac bH (by decide)
 have bM := pn ac bI (by decide)
 have cC := pn ac aK (by decide)
 have bN : bJ.eval (.tmp 9) = iv ((i + 1 : Nat) : Int) := by rw [ac]; exact put_same _ _ _ (by rw [au]; decide)
 show stepsTo _ _ _ _ _ (aJ.put (some 9) (iv ((i + 1 : Nat) : Int))) _
 rw [← ac]
 refine st_nil ?_
 refine then_n ?_
 exact ⟨_, ⟨i + 1, 10 * n + (((u.getD i 0 : Nat) : Int) - 48), rfl, aQ, aR, aP, (bM.trans (congrArg (Value.int .i64) (by omega))), (bN.trans (congrArg (Value.int .i64) (by omega))), bK, bL, (by omega), (by omega), (hv.trans (by rw [drop_at (by omega)]; simp only [valR, ae]; rfl))⟩, (by omega)⟩
 have aM := oF ae
 refine wp_g0 [true, true] [] 25
   [ve (iv n), vT] an (.eq (.eq (.nil))) ?_ ?_
 exact .m (fun k => k.fx 4 aq) <| .t (fun _ w hn k => ⟨_, v_bin rfl (k.eq1 0 13 rfl) rfl (fun _ => rfl) (r_gtrK ae), rfl⟩) .nil
 refine aftI an aD aE fun cD cE av aS aT cn ad => ?_
 have cF := ad.fx 4 aq
 have cG := ad.fx 9 a9
 have cH := ad.fx 7 ba
 have cI := ad.fx 8 bb
 have cJ := ad.fx 6 bd
 have bO := ad.ge 1 14 rfl
 refine st_nil (aF _ _ ?_)
 refine wp_cond_true bO ?_
 refine wp_seq_k fun cK aU => ?_
 refine wp_g0 [true, true] [] 25
   [ve (iv 0), vF] av (.eq (.eq (.nil))) ?_ ?_
 exact .t (fun _ w hn k => ⟨_, v_assign rfl rfl, rfl⟩) <| .t (fun _ w hn k => ⟨_, v_assign rfl rfl, rfl⟩) .nil
 refine aftI av aS aT fun cL cM co aV aW cp aw => ?_
 have bP := aw.ge 0 2 rfl
 have bQ := aw.ge 1 3 rfl
 refine st_nil (aU _ _ ?_)
 refine wp_ret (ret_k aV (v := .tuple #[iv 0, .bool false]) (res_tt rfl bP bQ _) ?_)
 exact ⟨by rw [show valR u 0 = (0, false) from hv.trans (by rw [drop_at (by omega)]; simp only [valR, ae]; rfl)], aW⟩
 have aL := oF ai
 have aX := hB a8 ai
 refine wp_cond_false aX ?_
 refine wp_exit ?_
 refine bk _ _ ?_
 refine wp_seq_k fun cN aY => ?_
 refine wp_g0 [true, true, true, true, true] [] 25
   [ve (iv n), ve (iv n), ve (.bool (decide (n ≤ 9007199254740991))), ve (iv n), ve (.bool (decide (n ≤ 9007199254740991)))] am (.eq (.eq (.eq (.eq (.eq (.nil)))))) ?_ ?_
 exact .m (fun k => k.fx 4 aC) <| .m (fun k => k.fx 4 aC) <| .t (fun _ w hn k => ⟨_, v_bin rfl (k.eq1 1 23 rfl) rfl (fun _ => rfl) (r_leqK rfl), rfl⟩) <| .a (fun k => k.eq1 0 22 rfl) <| .a (fun k => k.eq1 2 24 rfl) .nil
 refine aftI am aB ao fun cO cP cq aZ a1 cr ax => ?_
 have bR := ax.ge 3 2 rfl
 have bS := ax.ge 4 3 rfl
 refine st_nil (aY _ _ ?_)
 refine wp_ret (ret_k aZ (v := .tuple #[iv n, .bool (decide (n ≤ 9007199254740991))]) (res_tt rfl bR bS _) ?_)
 exact ⟨by rw [show valR u 0 = (n, decide (n ≤ 9007199254740991)) from hv.trans (by rw [List.drop_eq_nil_of_le (by omega)]; rfl)], a1⟩
theorem tk_min (u : List Nat) : u.take ((min (u.length : Int) 4096).toNat) = u.take 4096 := by
  rw [show (min (u.length : Int) 4096).toNat = min u.length 4096 by omega]
  rcases Nat.le_total u.length 4096 with h | h
  · rw [Nat.min_eq_left h, List.take_length, List.take_of_length_le h]
  · rw [Nat.min_eq_right h]
theorem tnumber_c (Au : Option Addr) (u : List Nat) (cu : Nat) (w : World) (hru : SRow w .u16 Au u cu) (hu : U16s u) : Calls Tryz.prog 53 #[sv Au u cu] w (IsRet (.tuple #[nv ((numT u).1), .bool ((numT u).2)]) w) := by
 refine enter_abs Tryz.func53 rfl fun a0 bV j2 hp => ?_
 have bV : a0.tmps.size = 91 := bV
 have hJ : New w w := Upd.refl _ _
 have hp0 : a0.eval (.tmp 0) = sv Au u cu := hp 0 _ rfl
 have hmx := hru.max
 refine wp_seq_k fun K1 j3 => ?_
 refine wp_g [true, true] [] [] 91
   [IsNew w 23 [iv 0, iv 0], vF]
   [0] (newsCons (fun v w h => IsNew.old h) newsNil) bV (.nw (.eq (.nil))) ?_ (fun i h => by cases h) ?_
 exact .o2 (step_allocN (cs := [iv 0, iv 0]) (t := 23) rfl (noG rfl) (fun _ w hn k => rfl) (fun q _ hq hb => ⟨q, rfl, hq, hb⟩)) <| .t (fun _ w hn k => ⟨_, v_assign rfl rfl, rfl⟩) .nil
 refine aftI bV j2 hJ fun a2 w3 j4 j5 dz mR hK => ?_
 have h8 := hK.fx 0 hp0
 obtain ⟨af, h9, hT, hU⟩ : IsNew _ _ _ _ _ := hK.got 0 2 rfl (by kernel_rfl)
 have lh := Nat.le_trans hJ.size hT
 refine st_nil (j3 _ _ ?_)
 refine wp_seq_j (fun (aa : Act) (ww : World) => ∃ (A3 : Option Addr), ∃ (c3 : Nat), aa.tmps.size = 91 ∧ aa.defers = [] ∧ New w ww ∧ aa.eval (.tmp 0) = sv A3 (u.dropWhile blankN) c3 ∧ aa.eval (.tmp 2) = pv af ∧ Blk ww af 23 [iv 0, iv 0] ∧ SRow ww .u16 A3 (u.dropWhile blankN) c3) ?_ ?_
 rintro mS mT ⟨A3, c3, hV, hW, hX, j6, j7, hY, hZ⟩
 refine wp_seq_j (fun (aa : Act) (ww : World) => ∃ (A4 : Option Addr), ∃ (c4 : Nat), aa.tmps.size = 91 ∧ aa.defers = [] ∧ New w ww ∧ aa.eval (.tmp 0) = sv A4 (trimN u) c4 ∧ aa.eval (.tmp 2) = pv af ∧ Blk ww af 23 [iv 0, iv 0] ∧ SRow ww .u16 A4 (trimN u) c4) ?_ ?_
 rintro mU j8 ⟨A4, c4, dA, h3, dB, j9, ka, dC, h4⟩
 have hut := hu.trim
 refine wp_seq_k fun mV h5 => ?_
 refine wp_g [true, true, false] [] [(2, false)] 91
   [ve (nv (Nm.mk 2 0)), IsNew j8 23 [iv 0, iv 0], vt]
   [1] (newsCons (fun v w h => IsNew.old h) newsNil) dA (.eq (.nw (.tt (.nil)))) ?_ (fun i h => by cases h) ?_
 exact .t (fun _ w hn k => ⟨_, v_build (ps := [(0, iv 2)]) rfl (parts1 rfl) (by kernel_rfl), rfl⟩) <| .o2 (step_allocN (cs := [iv 0, iv 0]) (t := 23) rfl (noG rfl) (fun _ w hn k => rfl) (fun q _ hq hb => ⟨q, rfl, hq, hb⟩)) <| .off .nil
 refine aftI dA h3 dB fun mW mX dD h6 h7 dE ba => ?_
 have hL := ba.fx 0 j9
 have kb := ba.fx 2 ka
 have kc := ba.ge 0 39 rfl
 obtain ⟨bW, hM, dF, dG⟩ : IsNew _ _ _ _ _ := ba.got 1 4 rfl (by kernel_rfl)
 have ia := dC.new_ dE
 have hne48 : af ≠ bW := by have h1 := dC.lt; have h2 := dF; omega
 have li := Nat.le_trans dB.size dF
 have ib := h4.new_ dE
 obtain ⟨mY, -, eU, ic, dH, id⟩ := s_two (v0 := iv 2) (v1 := iv 0) Tryz.sizeOf23 rfl rfl rfl dG
 refine st_act rfl rfl fun mZ ie => a_store' rfl hM kc eU (ie _ _ trivial ?_)
 have ig := ib.far dG dH (by first | rfl | decide | simp [notK])
 have ih := id _ _ _ (hne48) ia
 have ii := h7.trans dH (fun _ h b => by subst b; omega)
 refine st_nil (h5 _ _ (wp_seq_k fun m0 ij => ?_))
 refine wp_seq_k fun m1 ik => ?_
 refine wp_g0 [true, true, true] [] 91
   [ve (sv A4 (trimN u) c4), ve (iv ((trimN u).length : Int)), ve (.bool (decide (((trimN u).length : Int) = 0)))] dD (.eq (.eq (.eq (.nil)))) ?_ ?_
 exact .m (fun k => k.fx 0 hL) <| .t (fun _ w hn k => ⟨_, v_lenR rfl elU (k.eq1 0 40 rfl), rfl⟩) <| .t (fun _ w hn k => ⟨_, v_bin rfl (k.eq1 1 41 rfl) rfl (fun _ => rfl) (r_eql rfl), rfl⟩) .nil
 refine aftI dD h6 ii fun m2 m3 bb dI dJ bM bd => ?_
 have dK := bd.fx 0 hL
 have hN := bd.fx 2 kb
 have kd := bd.fx 4 hM
 have hO := bd.ge 2 42 rfl
 have dL := ih.new_ bM
 have il := ic.new_ bM
 have dM := ig.new_ bM
 refine st_nil (ik _ _ ?_)
 rcases bc (decide (((trimN u).length : Int) = 0)) with ab | ab
 have eV := oT ab
 have im := hB hO ab
 refine wp_cond_true im ?_
 refine wp_seq_k fun m4 io => ?_
 refine wp_g0 [true, false, false] [(1, false), (2, true)] 91
   [ve (nv (Nm.mk 0 0)), vt, vt] bb (.eq (.tt (.tt (.nil)))) ?_ ?_
 exact .t (fun _ w hn k => ⟨_, v_build (ps := []) rfl parts0 (by kernel_rfl), rfl⟩) <| .off <| .off .nil
 refine aftI bb dI dJ fun hP m5 dN ip iq ir dO => ?_
 have hQ := dO.fx 2 hN
 have hR := dO.ge 0 43 rfl
 have it := dL.new_ ir
 obtain ⟨m6, -, eW, iu, iw, lj⟩ := s_two (v0 := iv 0) (v1 := iv 0) Tryz.sizeOf23 rfl rfl rfl it
 refine st_act rfl rfl fun m7 ix => a_store' rfl hQ hR eW (ix _ _ trivial ?_)
 have iy := iq.trans iw (fun _ h b => by subst b; omega)
 refine st_take rfl rfl (y_assign (v := .bool true) rfl rfl) rfl ?_
 obtain ⟨ke, au⟩ : ∃ a', a' = hP.put (some 3) (.bool true) := ⟨_, rfl⟩
 have k6 := pz au dN
 have eX := pd au ip
 have iz := pn au hQ (by decide)
 have lk := pn au hR (by decide)
 have iA : ke.eval (.tmp 3) = .bool true := by rw [au]; exact put_same _ _ _ (by rw [dN]; decide)
 show stepsTo _ _ _ _ _ (hP.put (some 3) (.bool true)) _
 rw [← au]
 refine st_nil (io _ _ ?_)
 refine wp_ret (ret_k eX (v := .tuple #[nv (Nm.mk 0 0), .bool true]) (res_ct rfl iz iA (l_two Tryz.isAgg23 Tryz.sizeOf23 iu)) ?_)
 refine ⟨?_, iy⟩
 show Ending.returned (.tuple #[nv (Nm.mk 0 0), .bool true]) = Ending.returned (.tuple #[nv ((numT u).1), .bool ((numT u).2)])
 first | rfl | (simp only [numT, bodyT, ab, bsm] <;> rfl) | (exfalso; omega)
 have eV := oF ab
 have eY := hB hO ab
 refine wp_cond_false eY ?_
 refine wp_skip ?_
 refine ij _ _ ?_
 refine wp_seq_k fun ll eZ => ?_
 refine wp_g0 [true, true, true, true, true, true, true] [] 91
   [ve (sv A4 (trimN u) c4), ve (sv A4 (trimN u) c4),
    (EP (.int .u16 (((trimN u).getD 0 0 : Nat) : Int))), ve (.int .u16 (((trimN u).getD 0 0 : Nat) : Int)), ve (.bool (decide ((((trimN u).getD 0 0 : Nat) : Int) = 45))), ve (sv A4 (trimN u) c4), ve (.bool (decide ((((trimN u).getD 0 0 : Nat) : Int) = 45)))] bb (.eq (.eq (.cons (fun _ _ _ n ⟨_, _, e, h⟩ => ⟨_, _, e, h.new_ n⟩) (.eq (.eq (.eq (.eq (.nil)))))))) ?_ ?_
 refine .m (fun k => k.fx 0 dK) <| .m (fun k => k.fx 0 dK) ?_
 refine .o1 (tk rfl rfl fun _ w hn k => (by
       exact x_eaddr (k := .u16) rfl elU (k.eq1 1 45 rfl) rfl (dM.new_ hn) (by omega) fun b1 o2 hme => ⟨b1, o2, rfl, hme⟩)) ?_
 refine .o1 (tk rfl rfl fun _ w hn k => (by
       obtain ⟨b5, o6, e7, kf⟩ : (EP (.int .u16 (((trimN u).getD 0 0 : Nat) : Int))) _ _ := k.dep 2 46 (by kernel_rfl) (by kernel_rfl)
       exact ⟨_, v_load rfl e7 (l_one Tryz.isAgg74 kf.1), rfl⟩)) ?_
 exact .t (fun _ w hn k => ⟨_, v_bin rfl (k.eq1 3 47 rfl) rfl (fun _ => rfl) (r_eql rfl), rfl⟩) <| .a (fun k => k.eq1 0 44 rfl) <| .a (fun k => k.eq1 4 48 rfl) .nil
 refine aftI bb dI dJ fun lm ln aT bX bY be aE => ?_
 have bN := aE.fx 0 dK
 have dP := aE.fx 2 hN
 have dQ := aE.fx 4 kd
 have dR := aE.ge 5 5 rfl
 have dS := aE.ge 6 6 rfl
 have bZ := dL.new_ be
 have b0 := il.new_ be
 have bf := dM.new_ be
 refine st_nil (eZ _ _ ?_)
 refine wp_seq_j (fun (aa : Act) (ww : World) => ∃ (ng : Bool), ∃ (dd : List Nat), ∃ (A5 : Option Addr), ∃ (c5 : Nat), aa.tmps.size = 91 ∧ aa.defers = [] ∧ New w ww ∧ aa.eval (.tmp 5) = sv A5 dd c5 ∧ aa.eval (.tmp 6) = .bool ng ∧ aa.eval (.tmp 0) = sv A4 (trimN u) c4 ∧ aa.eval (.tmp 2) = pv af ∧ aa.eval (.tmp 4) = pv bW ∧ Blk ww af 23 [iv 0, iv 0] ∧ Blk ww bW 23 [iv 2, iv 0] ∧ SRow ww .u16 A5 dd c5 ∧ SRow ww .u16 A4 (trimN u) c4 ∧ (numT u = bodyT (trimN u) dd ng) ∧ (U16s dd)) ?_ ?_
 rintro lo iB ⟨ng, dd, A5, c5, b2, e0, b4, iC, iD, iE, iF, dT, b6, bg, e1, e2, hbody, hdd⟩
 refine wp_seq_k fun lp e3 => ?_
 refine wp_g [true, true, true, true, true, false, false] [3] [(5, false), (6, true)] 91
   [ve (nv (Nm.mk 2 0)), ve (sv A4 (trimN u) c4), ve (.bool (strangeN (trimN u))), ve (.bool (!(strangeN (trimN u)))), IsNew iB 23 [iv 0, iv 0], vt, vt]
   [4] (newsCons (fun v w h => IsNew.old h) newsNil) b2 (.eq (.eq (.eq (.eq (.nw (.tt (.tt (.nil)))))))) ?_ ?_ ?_
 refine .t (fun _ w hn k => ⟨_, v_load rfl (k.fx 4 dT) (l_two Tryz.isAgg23 Tryz.sizeOf23 (bg.new_ hn)), rfl⟩) <| .m (fun k => k.fx 0 iE) <| .o1 (ck rfl rfl rfl (fun _ w hn k => ⟨#[sv A4 (trimN u) c4], args1 (k.eq1 1 59 rfl), fun _ => by kernel_rfl, strange_c _ (trimN u) _ _ (e2.new_ hn) hut⟩) fun _ => rfl) ?_
 refine .o3 ?_
 exact .o2 (step_allocN (cs := [iv 0, iv 0]) (t := 23) rfl (noG rfl) (fun _ w hn k => rfl) (fun q _ hq hb => ⟨q, rfl, hq, hb⟩)) <| .off <| .off .nil
 intro i h
 simp only [List.contains_eq_mem, List.mem_cons, List.not_mem_nil, or_false, decide_eq_true_eq] at h
 subst h
 exact eager_take rfl rfl fun _ w hn k => ⟨.bool (!(strangeN (trimN u))), fun w => v_not rfl (k.eq1 2 60 rfl), rfl⟩
 refine aftI b2 e0 b4 fun dU lq b7 e4 e5 bh aj => ?_
 have iG := aj.fx 5 iC
 have iH := aj.fx 6 iD
 have iI := aj.fx 2 iF
 have iJ := aj.fx 4 dT
 have dV := aj.ge 0 58 rfl
 have dW := aj.ge 3 61 rfl
 obtain ⟨bi, dX, bj, b8⟩ : IsNew _ _ _ _ _ := aj.got 4 7 rfl (by kernel_rfl)
 have e6 := b6.new_ bh
 have e8 := bg.new_ bh
 have hne156 : af ≠ bi := by have h1 := b6.lt; have h2 := bj; omega
 have hne157 : bW ≠ bi := by have h1 := bg.lt; have h2 := bj; omega
 have k7 := Nat.le_trans b4.size bj
 have e9 := e1.new_ bh
 obtain ⟨dY, -, dZ, fa, b9, ca⟩ := s_two (v0 := iv 2) (v1 := iv 0) Tryz.sizeOf23 rfl rfl rfl b8
 refine st_act rfl rfl fun lr fb => a_store' rfl dX dV dZ (fb _ _ trivial ?_)
 have cb := e9.far b8 b9 (by first | rfl | decide | simp [notK])
 have fc := ca _ _ _ (hne156) e6
 have fd := ca _ _ _ (hne157) e8
 have fe := e5.trans b9 (fun _ h b => by subst b; omega)
 refine st_take rfl rfl (y_assign (v := .bool (!(strangeN (trimN u)))) rfl dW) rfl ?_
 obtain ⟨iK, ad⟩ : ∃ a', a' = dU.put (some 8) (.bool (!(strangeN (trimN u)))) := ⟨_, rfl⟩
 have cc := pz ad b7
 have ff := pd ad e4
 have d0 := pn ad iG (by decide)
 have iL := pn ad iH (by decide)
 have iM := pn ad iI (by decide)
 have iN := pn ad iJ (by decide)
 have ls := pn ad dV (by decide)
 have lu := pn ad dW (by decide)
 have iO := pn ad dX (by decide)
 have iP : iK.eval (.tmp 8) = .bool (!(strangeN (trimN u))) := by rw [ad]; exact put_same _ _ _ (by rw [b7]; decide)
 show stepsTo _ _ _ _ _ (dU.put (some 8) (.bool (!(strangeN (trimN u))))) _
 rw [← ad]
 refine st_nil (e3 _ _ ?_)
 refine wp_seq_j (fun (aa : Act) (ww : World) => ∃ (na : Nm), ∃ (ok : Bool), aa.tmps.size = 91 ∧ aa.defers = [] ∧ New w ww ∧ aa.eval (.tmp 8) = .bool ok ∧ aa.eval (.tmp 2) = pv af ∧ aa.eval (.tmp 6) = .bool ng ∧ aa.eval (.tmp 7) = pv bi ∧ Blk ww af 23 [iv 0, iv 0] ∧ Blk ww bi 23 [iv na.k, iv na.n] ∧ (numT u = (if ng then negM na else na, ok))) ?_ ?_
 rintro lv lw ⟨na, ok, cd, fg, fh, iQ, iR, iS, iT, fi, fj, hfin⟩
 refine wp_seq_k fun lx ce => ?_
 refine wp_seq_k fun ly fk => ?_
 refine wp_g0 [true] [] 91
   [ve (.bool ng)] cd (.eq (.nil)) ?_ ?_
 exact .m (fun k => k.fx 6 iS) .nil
 refine aftI cd fg fh fun lz lA aU cf ch ci aV => ?_
 have d1 := aV.fx 8 iQ
 have d2 := aV.fx 2 iR
 have bO := aV.fx 7 iT
 have d3 := aV.ge 0 86 rfl
 have cj := fi.new_ ci
 have bk := fj.new_ ci
 refine st_nil (fk _ _ ?_)
 rcases bc (ng) with aF | aF
 have fl := hB d3 aF
 refine wp_cond_true fl ?_
 refine wp_g0 [true, true, false] [(2, false)] 91
   [ve (nv na), ve (nv (negM na)), vt] aU (.eq (.eq (.tt (.nil)))) ?_ ?_
 exact .t (fun _ w hn k => ⟨_, v_load rfl (k.fx 7 bO) (l_two Tryz.isAgg23 Tryz.sizeOf23 (bk.new_ hn)), rfl⟩) <| .o1 (ck rfl rfl rfl (fun _ w hn k => ⟨#[nv na], args1 (k.eq1 0 87 rfl), fun _ => by kernel_rfl, nneg_c na _ ⟩) fun _ => rfl) <| .off .nil
 refine aftI aU cf ch fun lB lC cl fm fn cm aW => ?_
 have iU := aW.fx 8 d1
 have iV := aW.fx 2 d2
 have d4 := aW.fx 7 bO
 have iW := aW.ge 1 88 rfl
 have fo := cj.new_ cm
 have fp := bk.new_ cm
 obtain ⟨lD, -, d5, fq, fr, fs⟩ := s_two (v0 := iv ((negM na).k)) (v1 := iv ((negM na).n)) Tryz.sizeOf23 rfl rfl rfl fp
 refine st_act rfl rfl fun lE ft => a_store' rfl d4 iW d5 (ft _ _ trivial ?_)
 have fu := fs _ _ _ (hne156) fo
 have fv := fn.trans fr (fun _ h b => by subst b; omega)
 refine st_nil (ce _ _ (wp_seq_k fun lF fw => ?_))
 refine wp_g [true, true, false, false] [1] [(2, false), (3, true)] 91
   [ve (nv (negM na)), ve (.bool ok), vt, vt]
   [] newsNil cl (.eq (.eq (.tt (.tt (.nil))))) ?_ ?_ ?_
 refine .t (fun _ w hn k => ⟨_, v_load rfl (k.fx 7 d4) (l_two Tryz.isAgg23 Tryz.sizeOf23 (fq.new_ hn)), rfl⟩) ?_
 refine .o3 ?_
 exact .off <| .off .nil
 intro i h
 simp only [List.contains_eq_mem, List.mem_cons, List.not_mem_nil, or_false, decide_eq_true_eq] at h
 subst h
 exact eager_take rfl rfl fun _ w hn k => ⟨.bool ok, fun w => v_move rfl (k.fx 8 iU), rfl⟩
 refine aftI cl fm fv fun d6 lG cn fy fz fA bl => ?_
 have d7 := bl.fx 2 iV
 have d8 := bl.ge 0 89 rfl
 have d9 := bl.ge 1 90 rfl
 have fB := fu.new_ fA
 obtain ⟨lH, -, ea, fC, fD, k8⟩ := s_two (v0 := iv ((negM na).k)) (v1 := iv ((negM na).n)) Tryz.sizeOf23 rfl rfl rfl fB
 refine st_act rfl rfl fun lI fE => a_store' rfl d7 d8 ea (fE _ _ trivial ?_)
 have fF := fz.trans fD (fun _ h b => by subst b; omega)
 refine st_take rfl rfl (y_assign (v := .bool ok) rfl d9) rfl ?_
 obtain ⟨iX, ak⟩ : ∃ a', a' = d6.put (some 3) (.bool ok) := ⟨_, rfl⟩
 have k9 := pz ak cn
 have fG := pd ak fy
 have iY := pn ak d7 (by decide)
 have lJ := pn ak d8 (by decide)
 have lK := pn ak d9 (by decide)
 have iZ : iX.eval (.tmp 3) = .bool ok := by rw [ak]; exact put_same _ _ _ (by rw [cn]; decide)
 show stepsTo _ _ _ _ _ (d6.put (some 3) (.bool ok)) _
 rw [← ak]
 refine st_nil (fw _ _ ?_)
 refine wp_ret (ret_k fG (v := .tuple #[nv (negM na), .bool ok]) (res_ct rfl iY iZ (l_two Tryz.isAgg23 Tryz.sizeOf23 fC)) ?_)
 refine ⟨?_, fF⟩
 show Ending.returned (.tuple #[nv (negM na), .bool ok]) = Ending.returned (.tuple #[nv ((numT u).1), .bool ((numT u).2)])
 first | rfl | (simp only [hfin, ab, aF, bsm] <;> rfl) | (exfalso; omega)
 have fH := hB d3 aF
 refine wp_cond_false fH ?_
 refine wp_skip ?_
 refine ce _ _ ?_
 refine wp_seq_k fun lL fI => ?_
 refine wp_g [true, true, false, false] [1] [(2, false), (3, true)] 91
   [ve (nv na), ve (.bool ok), vt, vt]
   [] newsNil aU (.eq (.eq (.tt (.tt (.nil))))) ?_ ?_ ?_
 refine .t (fun _ w hn k => ⟨_, v_load rfl (k.fx 7 bO) (l_two Tryz.isAgg23 Tryz.sizeOf23 (bk.new_ hn)), rfl⟩) ?_
 refine .o3 ?_
 exact .off <| .off .nil
 intro i h
 simp only [List.contains_eq_mem, List.mem_cons, List.not_mem_nil, or_false, decide_eq_true_eq] at h
 subst h
 exact eager_take rfl rfl fun _ w hn k => ⟨.bool ok, fun w => v_move rfl (k.fx 8 d1), rfl⟩
 refine aftI aU cf ch fun eb lM co fJ fK fL bm => ?_
 have ec := bm.fx 2 d2
 have ed := bm.ge 0 89 rfl
 have ee := bm.ge 1 90 rfl
 have fM := cj.new_ fL
 obtain ⟨lN, -, ef, fN, fO, la⟩ := s_two (v0 := iv na.k) (v1 := iv na.n) Tryz.sizeOf23 rfl rfl rfl fM
 refine st_act rfl rfl fun lO fP => a_store' rfl ec ed ef (fP _ _ trivial ?_)
 have fQ := fK.trans fO (fun _ h b => by subst b; omega)
 refine st_take rfl rfl (y_assign (v := .bool ok) rfl ee) rfl ?_
 obtain ⟨i0, am⟩ : ∃ a', a' = eb.put (some 3) (.bool ok) := ⟨_, rfl⟩
 have lc := pz am co
 have fR := pd am fJ
 have i1 := pn am ec (by decide)
 have lP := pn am ed (by decide)
 have lQ := pn am ee (by decide)
 have i2 : i0.eval (.tmp 3) = .bool ok := by rw [am]; exact put_same _ _ _ (by rw [co]; decide)
 show stepsTo _ _ _ _ _ (eb.put (some 3) (.bool ok)) _
 rw [← am]
 refine st_nil (fI _ _ ?_)
 refine wp_ret (ret_k fR (v := .tuple #[nv na, .bool ok]) (res_ct rfl i1 i2 (l_two Tryz.isAgg23 Tryz.sizeOf23 fN)) ?_)
 refine ⟨?_, fQ⟩
 show Ending.returned (.tuple #[nv na, .bool ok]) = Ending.returned (.tuple #[nv ((numT u).1), .bool ((numT u).2)])
 first | rfl | (simp only [hfin, ab, aF, bsm] <;> rfl) | (exfalso; omega)
 intro lR bn
 refine wp_block ?_
 refine wp_seq_k fun lS fS => ?_
 refine wp_g0 [true, true, true, true] [] 91
   [ve (sv A5 dd c5),
    (OP dY.heap.size 74 .u16 (asc ⟨#[73, 110, 102, 105, 110, 105, 116, 121]⟩)), ve (.bool (decide (dd = (asc ⟨#[73, 110, 102, 105, 110, 105, 116, 121]⟩)))), ve (.bool (decide (dd = (asc ⟨#[73, 110, 102, 105, 110, 105, 116, 121]⟩))))] cc (.eq (.cons (fun _ _ _ n ⟨_, _, e, h⟩ => ⟨_, _, e, h.new_ n⟩) (.eq (.eq (.nil))))) ?_ ?_
 refine .m (fun k => k.fx 5 d0) ?_
 refine .o1 (tkC rfl (noG rfl) rfl fun _ w hn k => (by
       refine ⟨#[.string ⟨#[73, 110, 102, 105, 110, 105, 116, 121]⟩], _, args1 rfl, fun w => by kernel_rfl, ascii_c ⟨#[73, 110, 102, 105, 110, 105, 116, 121]⟩ _ (by first | omega | (show (_ : Nat) ≤ _; decide)), ?_⟩
       rintro e w' ⟨A9, ki, rfl, hmo0, hm⟩
       exact ⟨_, rfl, hm, ⟨A9, ki, rfl, (hmo0.more hn.size)⟩⟩)) ?_
 refine .o1 (tkC rfl (noG rfl) rfl fun _ w hn k => (by
       obtain ⟨kj, kk, kl, i3⟩ : (OP dY.heap.size 74 .u16 (asc ⟨#[73, 110, 102, 105, 110, 105, 116, 121]⟩)) _ _ := k.dep 1 64 (by kernel_rfl) (by kernel_rfl)
       refine ⟨#[sv A5 dd c5, sv kj (asc ⟨#[73, 110, 102, 105, 110, 105, 116, 121]⟩) kk], _, args2 (k.eq1 0 63 rfl) kl, fun w => by kernel_rfl, tsame_c _ dd _ _ (asc ⟨#[73, 110, 102, 105, 110, 105, 116, 121]⟩) _ _ (cb.new_ hn) i3.row, ?_⟩
       rintro e w' ⟨rfl, hm⟩
       exact ⟨_, rfl, hm, rfl⟩)) ?_
 exact .a (fun k => k.eq1 2 65 rfl) .nil
 refine aftI cc ff fe fun lT lU aX cp cq aY an => ?_
 have bP := an.fx 5 d0
 have eg := an.fx 6 iL
 have eh := an.fx 2 iM
 have i4 := an.fx 4 iN
 have ei := an.fx 7 iO
 have ej := an.fx 8 iP
 have ek := an.ge 3 62 rfl
 have cr := fc.new_ aY
 have fT := fd.new_ aY
 have ct := fa.new_ aY
 have cv := cb.new_ aY
 refine st_nil (fS _ _ ?_)
 rcases bc (decide (dd = (asc ⟨#[73, 110, 102, 105, 110, 105, 116, 121]⟩))) with ac | ac
 have el := oT ac
 have fU := hB ek ac
 refine wp_cond_true fU ?_
 refine wp_g0 [true, false] [(1, false)] 91
   [ve (nv (Nm.mk 3 0)), vt] aX (.eq (.tt (.nil))) ?_ ?_
 exact .t (fun _ w hn k => ⟨_, v_build (ps := [(0, iv 3)]) rfl (parts1 rfl) (by kernel_rfl), rfl⟩) <| .off .nil
 refine aftI aX cp cq fun lV lW fV fW fX cw aG => ?_
 have i5 := aG.fx 6 eg
 have i6 := aG.fx 2 eh
 have em := aG.fx 7 ei
 have i7 := aG.fx 8 ej
 have i8 := aG.ge 0 66 rfl
 have fY := cr.new_ cw
 have fZ := ct.new_ cw
 obtain ⟨lX, -, en, f0, f1, f2⟩ := s_two (v0 := iv 3) (v1 := iv 0) Tryz.sizeOf23 rfl rfl rfl fZ
 refine st_act rfl rfl fun lY f3 => a_store' rfl em i8 en (f3 _ _ trivial ?_)
 have f4 := f2 _ _ _ (hne156) fY
 have f5 := fX.trans f1 (fun _ h b => by subst b; omega)
 refine st_nil ?_
 exact bn _ _ ⟨(Nm.mk 3 0), (!(strangeN (trimN u))), fV, fW, f5, i7, i6, i5, em, f4, f0, (by rw [hbody]; unfold bodyT; first | (simp only [ab, ac, bsm] <;> rfl) | (simp [ab, ac]; done))⟩
 have el := oF ac
 have f6 := hB ek ac
 refine wp_cond_false f6 ?_
 refine wp_seq_k fun lZ f7 => ?_
 refine wp_g0 (.replicate 9 true) [] 91
   [ve (sv A5 dd c5), ve (iv (dd.length : Int)), ve (.bool (!decide ((dd.length : Int) ≤ 0))), ve (.bool (!decide ((dd.length : Int) ≤ 0))), ve (gq (!decide ((dd.length : Int) ≤ 0)) (sv A5 dd c5)), ve (gq (!decide ((dd.length : Int) ≤ 0)) (.bool (dd.any (fun y : Nat => !dgtN y)))), ve (gq (!decide ((dd.length : Int) ≤ 0)) (.bool (!(dd.any (fun y : Nat => !dgtN y))))), ve (.bool ((!decide ((dd.length : Int) ≤ 0)) && (!(dd.any (fun y : Nat => !dgtN y))))), ve (.bool ((!decide ((dd.length : Int) ≤ 0)) && (!(dd.any (fun y : Nat => !dgtN y)))))] aX (.eq (.eq (.eq (.eq (.eq (.eq (.eq (.eq (.eq (.nil)))))))))) ?_ ?_
 exact .m (fun k => k.fx 5 bP) <| .t (fun _ w hn k => ⟨_, v_lenR rfl elU (k.eq1 0 68 rfl), rfl⟩) <| .t (fun _ w hn k => ⟨_, v_bin rfl (k.eq1 1 69 rfl) rfl (fun _ => rfl) (r_gtrK rfl), rfl⟩) <| .m (fun k => k.eq1 2 70 rfl) <| .o1 (sc (G := (!decide ((dd.length : Int) ≤ 0))) rfl rfl rfl (fun _ _ k => g0 (k.eq1 3 71 rfl)) (fun hG _ w hn k => v_move rfl (k.fx 5 bP))) <| .o1 (scC (G := (!decide ((dd.length : Int) ≤ 0))) rfl rfl rfl (fun _ _ k => g0 (k.eq1 3 71 rfl)) rfl (fun hG _ w hn k => ⟨#[sv A5 dd c5, .func (.func 100) #[] #[]], args2 (cT hG (k.eq1 4 72 rfl)) rfl, fun _ => by kernel_rfl, containsf_c _ dd _ _ (cv.new_ hn) hdd⟩)) <| .o1 (sc (G := (!decide ((dd.length : Int) ≤ 0))) rfl rfl rfl (fun _ _ k => g0 (k.eq1 3 71 rfl)) (fun hG _ w hn k => v_not rfl (cT hG (k.eq1 5 73 rfl)))) <| .t (fun _ w hn k => ⟨_, v_and rfl (k.eq1 3 71 rfl) (fun hg => (cT hg (k.eq1 6 74 rfl))) rfl, rfl⟩) <| .a (fun k => k.eq1 7 75 rfl) .nil
 refine aftI aX cp cq fun l0 l1 bo cx cy aZ ao => ?_
 have i9 := ao.fx 5 bP
 have eo := ao.fx 6 eg
 have ep := ao.fx 2 eh
 have ja := ao.fx 4 i4
 have er := ao.fx 7 ei
 have jb := ao.fx 8 ej
 have es := ao.ge 8 67 rfl
 have cz := cr.new_ aZ
 have f8 := fT.new_ aZ
 have cA := ct.new_ aZ
 have f9 := cv.new_ aZ
 refine st_nil (f7 _ _ ?_)
 rcases bc (((!decide ((dd.length : Int) ≤ 0)) && (!(dd.any (fun y : Nat => !dgtN y))))) with ae | ae
 have ga := hB es ae
 have aH : (!decide ((dd.length : Int) ≤ 0)) = true := al ae
 have aI : (decide ((dd.length : Int) ≤ 0)) = false := nF aH
 have km := oF aI
 have aJ : (!(dd.any (fun y : Nat => !dgtN y))) = true := ar ae
 have aK : (dd.any (fun y : Nat => !dgtN y)) = false := nF aJ
 refine wp_cond_true ga ?_
 refine wp_seq_k fun l2 gb => ?_
 refine wp_g0 [true, true, true, true, true, true, true] [] 91
   [ve (sv A5 dd c5), ve (.tuple #[iv ((valR dd 0).1), .bool ((valR dd 0).2)]), ve (.tuple #[iv ((valR dd 0).1), .bool ((valR dd 0).2)]), ve (iv ((valR dd 0).1)), ve (.bool ((valR dd 0).2)), ve (iv ((valR dd 0).1)), ve (.bool ((valR dd 0).2))] bo (.eq (.eq (.eq (.eq (.eq (.eq (.eq (.nil)))))))) ?_ ?_
 exact .m (fun k => k.fx 5 i9) <| .o1 (ck rfl rfl rfl (fun _ w hn k => ⟨#[sv A5 dd c5], args1 (k.eq1 0 77 rfl), fun _ => by kernel_rfl, value_c _ dd _ _ (f9.new_ hn) hdd (digs_of aK)⟩) fun _ => rfl) <| .m (fun k => k.eq1 1 78 rfl) <| .t (fun _ w hn k => ⟨_, v_extract rfl (k.eq1 2 76 rfl) rfl, rfl⟩) <| .t (fun _ w hn k => ⟨_, v_extract rfl (k.eq1 2 76 rfl) rfl, rfl⟩) <| .a (fun k => k.eq1 3 79 rfl) <| .a (fun k => k.eq1 4 80 rfl) .nil
 refine aftI bo cx cy fun l3 l4 cB gc gd bp av => ?_
 have jc := av.fx 6 eo
 have jd := av.fx 2 ep
 have je := av.fx 4 ja
 have jf := av.fx 7 er
 have jg := av.ge 5 9 rfl
 have jh := av.ge 6 10 rfl
 have gf := cz.new_ bp
 have gg := f8.new_ bp
 have gh := cA.new_ bp
 refine st_nil (gb _ _ (wp_seq_k fun l5 gi => ?_))
 refine wp_seq_k fun l6 gj => ?_
 refine wp_g0 [true, true] [] 91
   [ve (.bool ((valR dd 0).2)), ve (.bool (!((valR dd 0).2)))] cB (.eq (.eq (.nil))) ?_ ?_
 exact .m (fun k => k.fx 10 jh) <| .t (fun _ w hn k => ⟨_, v_not rfl (k.eq1 0 81 rfl), rfl⟩) .nil
 refine aftI cB gc gd fun l7 l8 a1 cC cD bq aw => ?_
 have ji := aw.fx 6 jc
 have et := aw.fx 2 jd
 have jj := aw.fx 4 je
 have jk := aw.fx 7 jf
 have jl := aw.fx 9 jg
 have eu := aw.ge 1 82 rfl
 have cE := gf.new_ bq
 have gk := gg.new_ bq
 have gl := gh.new_ bq
 refine st_nil (gj _ _ ?_)
 rcases bc ((!((valR dd 0).2))) with ag | ag
 have gn := hB eu ag
 have cF : ((valR dd 0).2) = false := nF ag
 refine wp_cond_true gn ?_
 refine wp_seq_k fun l9 go => ?_
 refine wp_g0 [true, false, false] [(1, false), (2, true)] 91
   [ve (nv (Nm.mk 2 0)), vt, vt] a1 (.eq (.tt (.tt (.nil)))) ?_ ?_
 exact .t (fun _ w hn k => ⟨_, v_load rfl (k.fx 4 jj) (l_two Tryz.isAgg23 Tryz.sizeOf23 (gk.new_ hn)), rfl⟩) <| .off <| .off .nil
 refine aftI a1 cC cD fun ev ma cG gp gr gs cH => ?_
 have ew := cH.fx 2 et
 have ex := cH.ge 0 83 rfl
 have gt := cE.new_ gs
 obtain ⟨mb, -, ey, gu, gv, ld⟩ := s_two (v0 := iv 2) (v1 := iv 0) Tryz.sizeOf23 rfl rfl rfl gt
 refine st_act rfl rfl fun mc gw => a_store' rfl ew ex ey (gw _ _ trivial ?_)
 have gx := gr.trans gv (fun _ h b => by subst b; omega)
 refine st_take rfl rfl (y_assign (v := .bool false) rfl rfl) rfl ?_
 obtain ⟨jm, ax⟩ : ∃ a', a' = ev.put (some 3) (.bool false) := ⟨_, rfl⟩
 have le := pz ax cG
 have gy := pd ax gp
 have jn := pn ax ew (by decide)
 have md := pn ax ex (by decide)
 have jo : jm.eval (.tmp 3) = .bool false := by rw [ax]; exact put_same _ _ _ (by rw [cG]; decide)
 show stepsTo _ _ _ _ _ (ev.put (some 3) (.bool false)) _
 rw [← ax]
 refine st_nil (go _ _ ?_)
 refine wp_ret (ret_k gy (v := .tuple #[nv (Nm.mk 2 0), .bool false]) (res_ct rfl jn jo (l_two Tryz.isAgg23 Tryz.sizeOf23 gu)) ?_)
 refine ⟨?_, gx⟩
 show Ending.returned (.tuple #[nv (Nm.mk 2 0), .bool false]) = Ending.returned (.tuple #[nv ((numT u).1), .bool ((numT u).2)])
 first | rfl | (simp only [hbody, bodyT, ab, ac, ae, aH, aH, aI, aI, aJ, aJ, aK, aK, ag, cF, cF, bsm] <;> rfl) | (exfalso; omega)
 have gz := hB eu ag
 have cI : ((valR dd 0).2) = true := nT ag
 refine wp_cond_false gz ?_
 refine wp_skip ?_
 refine gi _ _ ?_
 refine wp_g0 [true, true, false, false] [(2, false), (3, true)] 91
   [ve (iv ((valR dd 0).1)), ve (nv (Nm.mk 0 ((valR dd 0).1))), vt, vt] a1 (.eq (.eq (.tt (.tt (.nil))))) ?_ ?_
 exact .m (fun k => k.fx 9 jl) <| .t (fun _ w hn k => ⟨_, v_build (ps := [(1, iv ((valR dd 0).1))]) rfl (parts1 (k.eq1 0 84 rfl)) (by kernel_rfl), rfl⟩) <| .off <| .off .nil
 refine aftI a1 cC cD fun ez me cJ gA gB cK a3 => ?_
 have jp := a3.fx 6 ji
 have jq := a3.fx 2 et
 have eA := a3.fx 7 jk
 have eB := a3.ge 1 85 rfl
 have gC := cE.new_ cK
 have gD := gl.new_ cK
 obtain ⟨mf, -, eC, gE, gF, gG⟩ := s_two (v0 := iv 0) (v1 := iv ((valR dd 0).1)) Tryz.sizeOf23 rfl rfl rfl gD
 refine st_act rfl rfl fun mg gH => a_store' rfl eA eB eC (gH _ _ trivial ?_)
 have gI := gG _ _ _ (hne156) gC
 have gJ := gB.trans gF (fun _ h b => by subst b; omega)
 refine st_take rfl rfl (y_assign (v := .bool true) rfl rfl) rfl ?_
 obtain ⟨jr, ah⟩ : ∃ a', a' = ez.put (some 8) (.bool true) := ⟨_, rfl⟩
 have gK := pz ah cJ
 have gL := pd ah gA
 have js := pn ah jp (by decide)
 have jt := pn ah jq (by decide)
 have ju := pn ah eA (by decide)
 have mh := pn ah eB (by decide)
 have jv : jr.eval (.tmp 8) = .bool true := by rw [ah]; exact put_same _ _ _ (by rw [cJ]; decide)
 show stepsTo _ _ _ _ _ (ez.put (some 8) (.bool true)) _
 rw [← ah]
 refine st_nil ?_
 exact bn _ _ ⟨(Nm.mk 0 (valR dd 0).1), true, gK, gL, gJ, jv, jt, js, ju, gI, gE, (by rw [hbody]; unfold bodyT; first | (simp only [ab, ac, ae, aH, aI, aJ, aK, ag, cI, bsm] <;> rfl) | (simp [ab, ac, ae, aH, aI, aJ, aK, ag, cI]; done))⟩
 have gM := hB es ae
 refine wp_cond_false gM ?_
 refine wp_skip ?_
 exact bn _ _ ⟨(Nm.mk 2 0), (!(strangeN (trimN u))), bo, cx, cy, jb, ep, eo, er, cz, cA, (by rw [hbody]; unfold bodyT; first | (simp only [ab, ac, ae, bsm] <;> rfl) | (simp [ab, ac, ae]; done))⟩
 intro mi br
 refine wp_seq_k fun mj cL => ?_
 rcases bc (decide ((((trimN u).getD 0 0 : Nat) : Int) = 45)) with ai | ai
 have eD := oT ai
 have cM := hB dS ai
 refine wp_g0 [true, true, true, true, true, true, true] [] 91
   [vT, vT, vU, vU, vU, vU, vT] aT (.eq (.eq (.eq (.eq (.eq (.eq (.eq (.nil)))))))) ?_ ?_
 exact .m (fun k => k.fx 6 cM) <| .m (fun k => k.eq1 0 49 rfl) <| .s (fun k => k.eq1 1 50 rfl) <| .s (fun k => k.eq1 1 50 rfl) <| .s (fun k => k.eq1 1 50 rfl) <| .s (fun k => k.eq1 1 50 rfl) <| .t (fun _ w hn k => ⟨_, v_pickT rfl (k.eq1 1 50 rfl) rfl, rfl⟩) .nil
 refine aftI aT bX bY fun ml mn cN gN gO bs ay => ?_
 have eE := ay.fx 0 bN
 have jw := ay.fx 2 dP
 have jx := ay.fx 4 dQ
 have mo := ay.fx 5 dR
 have jy := ay.fx 6 cM
 have jz := ay.ge 6 55 rfl
 have gP := bZ.new_ bs
 have gQ := b0.new_ bs
 have cO := bf.new_ bs
 refine st_nil (cL _ _ ?_)
 refine wp_cond_true jz ?_
 refine wp_g0 [true, true, true] [] 91
   [ve (sv A4 (trimN u) c4),
    (RP .u16 ((trimN u).drop 1)),
    (RP .u16 ((trimN u).drop 1))] cN (.eq (.cons (fun _ _ _ n ⟨_, _, e, h⟩ => ⟨_, _, e, h.new_ n⟩) (.cons (fun v W W' hn ⟨kp, kq, he, h0⟩ => ⟨kp, kq, he, h0.new_ hn⟩) (.nil)))) ?_ ?_
 refine .m (fun k => k.fx 0 eE) ?_
 refine .o1 (tk rfl rfl fun _ w hn k => (by
       exact x_cutL (k := .u16) rfl elU (k.eq1 0 56 rfl) rfl (cO.new_ hn) (by omega) fun kr ks hmr => ⟨kr, ks, rfl, hmr⟩)) ?_
 refine .o1 (tk rfl rfl fun _ w hn k => (by
       obtain ⟨kt, ku, kv, jA⟩ : (RP .u16 ((trimN u).drop 1)) _ _ := k.dep 1 57 (by kernel_rfl) (by kernel_rfl)
       exact ⟨_, v_assign rfl kv, ⟨kt, ku, rfl, jA⟩⟩)) ?_
 exact .nil
 refine aftI cN gN gO fun jB mp gR gS gT bt aL => ?_
 have jC := aL.fx 0 eE
 have jD := aL.fx 2 jw
 have jE := aL.fx 4 jx
 have jF := aL.fx 6 jy
 obtain ⟨eF, cP, bQ, gU⟩ : (RP .u16 ((trimN u).drop 1)) _ _ := aL.got 2 5 rfl (by kernel_rfl)
 have bQ : jB.eval (.tmp 5) = sv eF ((trimN u).drop 1) cP := bQ
 have gV := gP.new_ bt
 have gW := gQ.new_ bt
 have gX := cO.new_ bt
 refine st_nil ?_
 exact br _ _ ⟨true, ((trimN u).drop 1), eF, cP, gR, gS, gT, bQ, jF, jC, jD, jE, gV, gW, gU, gX, (by unfold numT; simp only [ab, ai, bsm]), (hut.drop 1)⟩
 have eD := oF ai
 have cQ := hB dS ai
 refine wp_g0 [true, true, true, true, true, true, true] [] 91
   [vF, vF, ve (sv A4 (trimN u) c4),
    (EP (.int .u16 (((trimN u).getD 0 0 : Nat) : Int))), ve (.int .u16 (((trimN u).getD 0 0 : Nat) : Int)), ve (.bool (decide ((((trimN u).getD 0 0 : Nat) : Int) = 43))), ve (.bool (decide ((((trimN u).getD 0 0 : Nat) : Int) = 43)))] aT (.eq (.eq (.eq (.cons (fun _ _ _ n ⟨_, _, e, h⟩ => ⟨_, _, e, h.new_ n⟩) (.eq (.eq (.eq (.nil)))))))) ?_ ?_
 refine .m (fun k => k.fx 6 cQ) <| .m (fun k => k.eq1 0 49 rfl) <| .gm (fun k => k.eq1 1 50 rfl) (fun k => k.fx 0 bN) ?_
 refine .o1 (tg rfl rfl rfl (fun _ _ k => k.eq1 1 50 rfl) fun _ w hn k => (by
       exact x_eaddr (k := .u16) rfl elU (k.eq1 2 51 rfl) rfl (bf.new_ hn) (by omega) fun ky kz hme => ⟨ky, kz, rfl, hme⟩)) ?_
 refine .o1 (tg rfl rfl rfl (fun _ _ k => k.eq1 1 50 rfl) fun _ w hn k => (by
       obtain ⟨m8, m9, kA, jG⟩ : (EP (.int .u16 (((trimN u).getD 0 0 : Nat) : Int))) _ _ := k.dep 3 52 (by kernel_rfl) (by kernel_rfl)
       exact ⟨_, v_load rfl kA (l_one Tryz.isAgg74 jG.1), rfl⟩)) ?_
 exact .g (fun k => k.eq1 1 50 rfl) (fun _ w hn k => ⟨_, v_bin rfl (k.eq1 4 53 rfl) rfl (fun _ => rfl) (r_eql rfl), rfl⟩) <| .t (fun _ w hn k => ⟨_, v_pickF rfl (k.eq1 1 50 rfl) (k.eq1 5 54 rfl), rfl⟩) .nil
 refine aftI aT bX bY fun mq mr bu cR cS bv az => ?_
 have bR := az.fx 0 bN
 have eG := az.fx 2 dP
 have eH := az.fx 4 dQ
 have jH := az.fx 5 dR
 have eI := az.fx 6 cQ
 have eJ := az.ge 6 55 rfl
 have cU := bZ.new_ bv
 have cV := b0.new_ bv
 have a4 := bf.new_ bv
 refine st_nil (cL _ _ ?_)
 rcases bc (decide ((((trimN u).getD 0 0 : Nat) : Int) = 43)) with ap | ap
 have eK := oT ap
 have gY := hB eJ ap
 refine wp_cond_true gY ?_
 refine wp_g0 [true, true, true] [] 91
   [ve (sv A4 (trimN u) c4),
    (RP .u16 ((trimN u).drop 1)),
    (RP .u16 ((trimN u).drop 1))] bu (.eq (.cons (fun _ _ _ n ⟨_, _, e, h⟩ => ⟨_, _, e, h.new_ n⟩) (.cons (fun v W W' hn ⟨kD, kE, he, h0⟩ => ⟨kD, kE, he, h0.new_ hn⟩) (.nil)))) ?_ ?_
 refine .m (fun k => k.fx 0 bR) ?_
 refine .o1 (tk rfl rfl fun _ w hn k => (by
       exact x_cutL (k := .u16) rfl elU (k.eq1 0 56 rfl) rfl (a4.new_ hn) (by omega) fun kF kG hmr => ⟨kF, kG, rfl, hmr⟩)) ?_
 refine .o1 (tk rfl rfl fun _ w hn k => (by
       obtain ⟨kH, kI, kJ, jI⟩ : (RP .u16 ((trimN u).drop 1)) _ _ := k.dep 1 57 (by kernel_rfl) (by kernel_rfl)
       exact ⟨_, v_assign rfl kJ, ⟨kH, kI, rfl, jI⟩⟩)) ?_
 exact .nil
 refine aftI bu cR cS fun jJ ms gZ g1 g2 bw aM => ?_
 have jK := aM.fx 0 bR
 have jL := aM.fx 2 eG
 have jM := aM.fx 4 eH
 have jN := aM.fx 6 eI
 obtain ⟨eL, cW, bS, g3⟩ : (RP .u16 ((trimN u).drop 1)) _ _ := aM.got 2 5 rfl (by kernel_rfl)
 have bS : jJ.eval (.tmp 5) = sv eL ((trimN u).drop 1) cW := bS
 have g4 := cU.new_ bw
 have g5 := cV.new_ bw
 have g6 := a4.new_ bw
 refine st_nil ?_
 exact br _ _ ⟨false, ((trimN u).drop 1), eL, cW, gZ, g1, g2, bS, jN, jK, jL, jM, g4, g5, g3, g6, (by unfold numT; simp only [ab, ai, ap, bsm]), (hut.drop 1)⟩
 have eK := oF ap
 have g7 := hB eJ ap
 refine wp_cond_false g7 ?_
 refine wp_skip ?_
 exact br _ _ ⟨false, (trimN u), A4, c4, bu, cR, cS, jH, eI, bR, eG, eH, cU, cV, a4, a4, (by unfold numT; simp only [ab, ai, ap, bsm]), hut⟩
 intro mt cX
 refine wp_block ?_
 refine wp_loopX (fun (mm : Nat) (aa : Act) (ww : World) => ∃ (cu2 : List Nat) (A2 : Option Addr) (c2 : Nat), mm = cu2.length ∧ aa.tmps.size = 91 ∧ aa.defers = [] ∧ New w ww ∧ aa.eval (.tmp 0) = sv A2 cu2 c2 ∧ aa.eval (.tmp 2) = pv af ∧ Blk ww af 23 [iv 0, iv 0] ∧ SRow ww .u16 A2 cu2 c2 ∧ (rtrimN cu2 = trimN u) ∧ (U16s cu2)) (fun mm => mm) ⟨_, ⟨(u.dropWhile blankN), A3, c3, rfl, hV, hW, hX, j6, j7, hY, hZ, rfl, (hu.dw _)⟩⟩ ?_
 rintro mm mu mv ⟨cu2, A2, c2, hmm, a5, cY, cZ, aQ, eM, c0, aN, hc2, hcu2⟩
 refine wp_seq_k fun mw g8 => ?_
 refine wp_seq_k fun mx c6 => ?_
 have hix2 : ((cu2.length : Int) - 1).toNat = cu2.length - 1 := by omega
 rcases bc ((!decide ((cu2.length : Int) ≤ 0))) with bx | bx
 have c7 : (decide ((cu2.length : Int) ≤ 0)) = false := nF bx
 have kK := oF c7
 have hb := hcu2.at16 ((cu2.length : Int) - 1).toNat
 have hS := aN.max
 refine wp_g0 (.replicate 12 true) [] 91
   [ve (sv A2 cu2 c2), ve (iv (cu2.length : Int)), vT, vT, ve (sv A2 cu2 c2), ve (sv A2 cu2 c2), ve (iv (cu2.length : Int)), ve (iv ((cu2.length : Int) - 1)),
    (EP (.int .u16 ((cu2.getD (((cu2.length : Int) - 1 : Int).toNat) 0 : Nat) : Int))), ve (.int .u16 ((cu2.getD (((cu2.length : Int) - 1 : Int).toNat) 0 : Nat) : Int)), ve (.bool (blankN (cu2.getD (((cu2.length : Int) - 1 : Int).toNat) 0))), ve (.bool (blankN (cu2.getD (((cu2.length : Int) - 1 : Int).toNat) 0)))] a5 (.eq (.eq (.eq (.eq (.eq (.eq (.eq (.eq (.cons (fun _ _ _ n ⟨_, _, e, h⟩ => ⟨_, _, e, h.new_ n⟩) (.eq (.eq (.eq (.nil))))))))))))) ?_ ?_
 refine .m (fun k => k.fx 0 aQ) <| .t (fun _ w hn k => ⟨_, v_lenR rfl elU (k.eq1 0 22 rfl), rfl⟩) <| .t (fun _ w hn k => ⟨_, v_bin rfl (k.eq1 1 23 rfl) rfl (fun _ => rfl) (r_gtrK c7), rfl⟩) <| .m (fun k => k.eq1 2 24 rfl) <| .gm (fun k => k.eq1 3 25 rfl) (fun k => k.fx 0 aQ) <| .gm (fun k => k.eq1 3 25 rfl) (fun k => k.fx 0 aQ) <| .g (fun k => k.eq1 3 25 rfl) (fun _ w hn k => ⟨_, v_lenR rfl elU (k.eq1 5 27 rfl), rfl⟩) <| .g (fun k => k.eq1 3 25 rfl) (fun _ w hn k => ⟨_, v_bin rfl (k.eq1 6 28 rfl) rfl (fun _ => rfl) (r_sub rfl (by omega)), rfl⟩) ?_
 refine .o1 (tg rfl rfl rfl (fun _ _ k => k.eq1 3 25 rfl) fun _ w hn k => (by
       exact x_eaddr (k := .u16) rfl elU (k.eq1 4 26 rfl) (k.eq1 7 29 rfl) (aN.new_ hn) (by omega) fun kN kO hme => ⟨kN, kO, rfl, hme⟩)) ?_
 refine .o1 (tg rfl rfl rfl (fun _ _ k => k.eq1 3 25 rfl) fun _ w hn k => (by
       obtain ⟨nb, nc, kP, jO⟩ : (EP (.int .u16 ((cu2.getD (((cu2.length : Int) - 1 : Int).toNat) 0 : Nat) : Int))) _ _ := k.dep 8 30 (by kernel_rfl) (by kernel_rfl)
       exact ⟨_, v_load rfl kP (l_one Tryz.isAgg74 jO.1), rfl⟩)) ?_
 exact .o1 (cg rfl rfl rfl (fun _ _ k => k.eq1 3 25 rfl) rfl (fun _ w hn k => ⟨#[.int .u16 ((cu2.getD (((cu2.length : Int) - 1 : Int).toNat) 0 : Nat) : Int)], args1 (k.eq1 9 31 rfl), fun _ => by kernel_rfl, blank_c (cu2.getD (((cu2.length : Int) - 1 : Int).toNat) 0) _ (by omega)⟩) fun _ => rfl) <| .t (fun _ w hn k => ⟨_, v_pickT rfl (k.eq1 3 25 rfl) (k.eq1 10 32 rfl), rfl⟩) .nil
 refine aftI a5 cY cZ fun my mz bz c8 c9 da bA => ?_
 have a8 := bA.fx 0 aQ
 have eN := bA.fx 2 eM
 have eO := bA.ge 11 33 rfl
 have db := c0.new_ da
 have aO := aN.new_ da
 refine st_nil (c6 _ _ ?_)
 rcases bc (blankN (cu2.getD (((cu2.length : Int) - 1 : Int).toNat) 0)) with aq | aq
 have g9 := hB eO aq
 refine wp_cond_true g9 ?_
 refine wp_skip ?_
 refine g8 _ _ ?_
 refine wp_block ?_
 have hS := aO.max
 refine wp_g0 [true, true, true, true, true, false] [(5, true)] 91
   [ve (sv A2 cu2 c2), ve (sv A2 cu2 c2), ve (iv (cu2.length : Int)), ve (iv ((cu2.length : Int) - 1)),
    (RP .u16 (cu2.take (((cu2.length : Int) - 1 : Int).toNat))), vt] bz (.eq (.eq (.eq (.eq (.cons (fun _ _ _ n ⟨_, _, e, h⟩ => ⟨_, _, e, h.new_ n⟩) (.tt (.nil))))))) ?_ ?_
 refine .m (fun k => k.fx 0 a8) <| .m (fun k => k.fx 0 a8) <| .t (fun _ w hn k => ⟨_, v_lenR rfl elU (k.eq1 1 35 rfl), rfl⟩) <| .t (fun _ w hn k => ⟨_, v_bin rfl (k.eq1 2 36 rfl) rfl (fun _ => rfl) (r_sub rfl (by omega)), rfl⟩) ?_
 refine .o1 (tk rfl rfl fun _ w hn k => (by
       exact x_cutH (k := .u16) rfl elU (k.eq1 0 34 rfl) (k.eq1 3 37 rfl) (aO.new_ hn) (by omega) fun kS kT hmr => ⟨kS, kT, rfl, hmr⟩)) ?_
 exact .off .nil
 refine aftI bz c8 c9 fun bT mA dc ha hc de bB => ?_
 have mB := bB.fx 0 a8
 have jP := bB.fx 2 eN
 obtain ⟨aR, aA, bC, hd⟩ : (RP .u16 (cu2.take (((cu2.length : Int) - 1 : Int).toNat))) _ _ := bB.got 4 38 rfl (by kernel_rfl)
 have bC : bT.eval (.tmp 38) = sv aR (cu2.take (((cu2.length : Int) - 1 : Int).toNat)) aA := bC
 have hf := db.new_ de
 have lf := aO.new_ de
 refine st_take rfl rfl (y_assign (v := sv aR (cu2.take (((cu2.length : Int) - 1 : Int).toNat)) aA) rfl bC) rfl ?_
 obtain ⟨jQ, aB⟩ : ∃ a', a' = bT.put (some 0) (sv aR (cu2.take (((cu2.length : Int) - 1 : Int).toNat)) aA) := ⟨_, rfl⟩
 have hh := pz aB dc
 have hi := pd aB ha
 have jR := pn aB jP (by decide)
 have mC := pn aB bC (by decide)
 have jS : jQ.eval (.tmp 0) = sv aR (cu2.take (((cu2.length : Int) - 1 : Int).toNat)) aA := by rw [aB]; exact put_same _ _ _ (by rw [dc]; decide)
 show stepsTo _ _ _ _ _ (bT.put (some 0) (sv aR (cu2.take (((cu2.length : Int) - 1 : Int).toNat)) aA)) _
 rw [← aB]
 refine st_nil ?_
 refine blk_n ?_
 refine then_n ?_
 exact ⟨_, ⟨(cu2.take (((cu2.length : Int) - 1 : Int).toNat)), aR, aA, rfl, hh, hi, hc, jS, jR, hf, hd, (by rw [hix2]; rw [hix2] at aq; exact (rt_step (by omega) aq).trans hc2), (hcu2.take _)⟩, (by rw [List.length_take]; omega)⟩
 have hj := hB eO aq
 refine wp_cond_false hj ?_
 refine wp_exit ?_
 rw [hix2] at aq
 have hrt := rt_end (l := cu2) (Or.inr ⟨by omega, aq⟩)
 have he587 : cu2 = (trimN u) := hrt.symm.trans hc2
 rw [he587] at a8
 rw [he587] at aO
 exact cX _ _ ⟨A2, c2, bz, c8, c9, a8, eN, db, aO⟩
 have df : (decide ((cu2.length : Int) ≤ 0)) = true := nT bx
 have kU := oT df
 have hb := hcu2.at16 ((cu2.length : Int) - 1).toNat
 have hS := aN.max
 refine wp_g0 (.replicate 12 true) [] 91
   [ve (sv A2 cu2 c2), ve (iv (cu2.length : Int)), vF, vF, vU, vU, vU, vU, vU, vU, vU, vF] a5 (.eq (.eq (.eq (.eq (.eq (.eq (.eq (.eq (.eq (.eq (.eq (.eq (.nil))))))))))))) ?_ ?_
 exact .m (fun k => k.fx 0 aQ) <| .t (fun _ w hn k => ⟨_, v_lenR rfl elU (k.eq1 0 22 rfl), rfl⟩) <| .t (fun _ w hn k => ⟨_, v_bin rfl (k.eq1 1 23 rfl) rfl (fun _ => rfl) (r_gtrK df), rfl⟩) <| .m (fun k => k.eq1 2 24 rfl) <| .s (fun k => k.eq1 3 25 rfl) <| .s (fun k => k.eq1 3 25 rfl) <| .s (fun k => k.eq1 3 25 rfl) <| .s (fun k => k.eq1 3 25 rfl) <| .s (fun k => k.eq1 3 25 rfl) <| .s (fun k => k.eq1 3 25 rfl) <| .s (fun k => k.eq1 3 25 rfl) <| .t (fun _ w hn k => ⟨_, v_pickF rfl (k.eq1 3 25 rfl) rfl, rfl⟩) .nil
 refine aftI a5 cY cZ fun mD mE hl ho hr dg bD => ?_
 have eP := bD.fx 0 aQ
 have jT := bD.fx 2 eM
 have jU := bD.ge 11 33 rfl
 have hs := c0.new_ dg
 have dh := aN.new_ dg
 refine st_nil (c6 _ _ ?_)
 refine wp_cond_false jU ?_
 refine wp_exit ?_
 have hrt := rt_end (l := cu2) (Or.inl (by omega))
 have he601 : cu2 = (trimN u) := hrt.symm.trans hc2
 rw [he601] at eP
 rw [he601] at dh
 exact cX _ _ ⟨A2, c2, hl, ho, hr, eP, jT, hs, dh⟩
 intro mF di
 refine wp_block ?_
 refine wp_loopX (fun (mm : Nat) (aa : Act) (ww : World) => ∃ (cur : List Nat) (A1 : Option Addr) (c1 : Nat), mm = cur.length ∧ aa.tmps.size = 91 ∧ aa.defers = [] ∧ New w ww ∧ aa.eval (.tmp 0) = sv A1 cur c1 ∧ aa.eval (.tmp 2) = pv af ∧ Blk ww af 23 [iv 0, iv 0] ∧ SRow ww .u16 A1 cur c1 ∧ (cur.dropWhile blankN = u.dropWhile blankN) ∧ (U16s cur)) (fun mm => mm) ⟨_, ⟨u, Au, cu, rfl, j4, j5, dz, h8, h9, hU, (hru.new_ dz), rfl, hu⟩⟩ ?_
 rintro mm mG mH ⟨cur, A1, c1, hmm, a6, dj, dk, a9, eQ, dl, bE, hcd, hcu⟩
 refine wp_seq_k fun mI ht => ?_
 refine wp_seq_k fun mJ dm => ?_
 rcases bc ((!decide ((cur.length : Int) ≤ 0))) with bF | bF
 have dn : (decide ((cur.length : Int) ≤ 0)) = false := nF bF
 have kV := oF dn
 have hb := hcu.at16 0
 refine wp_g0 (.replicate 9 true) [] 91
   [ve (sv A1 cur c1), ve (iv (cur.length : Int)), vT, vT, ve (sv A1 cur c1),
    (EP (.int .u16 ((cur.getD 0 0 : Nat) : Int))), ve (.int .u16 ((cur.getD 0 0 : Nat) : Int)), ve (.bool (blankN (cur.getD 0 0))), ve (.bool (blankN (cur.getD 0 0)))] a6 (.eq (.eq (.eq (.eq (.eq (.cons (fun _ _ _ n ⟨_, _, e, h⟩ => ⟨_, _, e, h.new_ n⟩) (.eq (.eq (.eq (.nil)))))))))) ?_ ?_
 refine .m (fun k => k.fx 0 a9) <| .t (fun _ w hn k => ⟨_, v_lenR rfl elU (k.eq1 0 11 rfl), rfl⟩) <| .t (fun _ w hn k => ⟨_, v_bin rfl (k.eq1 1 12 rfl) rfl (fun _ => rfl) (r_gtrK dn), rfl⟩) <| .m (fun k => k.eq1 2 13 rfl) <| .gm (fun k => k.eq1 3 14 rfl) (fun k => k.fx 0 a9) ?_
 refine .o1 (tg rfl rfl rfl (fun _ _ k => k.eq1 3 14 rfl) fun _ w hn k => (by
       exact x_eaddr (k := .u16) rfl elU (k.eq1 4 15 rfl) rfl (bE.new_ hn) (by omega) fun kY kZ hme => ⟨kY, kZ, rfl, hme⟩)) ?_
 refine .o1 (tg rfl rfl rfl (fun _ _ k => k.eq1 3 14 rfl) fun _ w hn k => (by
       obtain ⟨nd, ne, k0, jV⟩ : (EP (.int .u16 ((cur.getD 0 0 : Nat) : Int))) _ _ := k.dep 5 16 (by kernel_rfl) (by kernel_rfl)
       exact ⟨_, v_load rfl k0 (l_one Tryz.isAgg74 jV.1), rfl⟩)) ?_
 exact .o1 (cg rfl rfl rfl (fun _ _ k => k.eq1 3 14 rfl) rfl (fun _ w hn k => ⟨#[.int .u16 ((cur.getD 0 0 : Nat) : Int)], args1 (k.eq1 6 17 rfl), fun _ => by kernel_rfl, blank_c (cur.getD 0 0) _ (by omega)⟩) fun _ => rfl) <| .t (fun _ w hn k => ⟨_, v_pickT rfl (k.eq1 3 14 rfl) (k.eq1 7 18 rfl), rfl⟩) .nil
 refine aftI a6 dj dk fun mK mL bG dp dq dr bH => ?_
 have bI := bH.fx 0 a9
 have eR := bH.fx 2 eQ
 have eS := bH.ge 8 19 rfl
 have ds := dl.new_ dr
 have a7 := bE.new_ dr
 refine st_nil (dm _ _ ?_)
 rcases bc (blankN (cur.getD 0 0)) with aP | aP
 have hv := hB eS aP
 refine wp_cond_true hv ?_
 refine wp_skip ?_
 refine ht _ _ ?_
 refine wp_block ?_
 refine wp_g0 [true, true, false] [(2, true)] 91
   [ve (sv A1 cur c1),
    (RP .u16 (cur.drop 1)), vt] bG (.eq (.cons (fun _ _ _ n ⟨_, _, e, h⟩ => ⟨_, _, e, h.new_ n⟩) (.tt (.nil)))) ?_ ?_
 refine .m (fun k => k.fx 0 bI) ?_
 refine .o1 (tk rfl rfl fun _ w hn k => (by
       exact x_cutL (k := .u16) rfl elU (k.eq1 0 20 rfl) rfl (a7.new_ hn) (by omega) fun k3 k4 hmr => ⟨k3, k4, rfl, hmr⟩)) ?_
 exact .off .nil
 refine aftI bG dp dq fun bU mM dt hw hx du bJ => ?_
 have mN := bJ.fx 0 bI
 have jW := bJ.fx 2 eR
 obtain ⟨aS, aC, bK, hy⟩ : (RP .u16 (cur.drop 1)) _ _ := bJ.got 1 21 rfl (by kernel_rfl)
 have bK : bU.eval (.tmp 21) = sv aS (cur.drop 1) aC := bK
 have hz := ds.new_ du
 have lg := a7.new_ du
 refine st_take rfl rfl (y_assign (v := sv aS (cur.drop 1) aC) rfl bK) rfl ?_
 obtain ⟨jX, aD⟩ : ∃ a', a' = bU.put (some 0) (sv aS (cur.drop 1) aC) := ⟨_, rfl⟩
 have hA := pz aD dt
 have hC := pd aD hw
 have jY := pn aD jW (by decide)
 have mO := pn aD bK (by decide)
 have jZ : jX.eval (.tmp 0) = sv aS (cur.drop 1) aC := by rw [aD]; exact put_same _ _ _ (by rw [dt]; decide)
 show stepsTo _ _ _ _ _ (bU.put (some 0) (sv aS (cur.drop 1) aC)) _
 rw [← aD]
 refine st_nil ?_
 refine blk_n ?_
 refine then_n ?_
 exact ⟨_, ⟨(cur.drop 1), aS, aC, rfl, hA, hC, hx, jZ, jY, hz, hy, ((dw_step (by omega) aP).trans hcd), (hcu.drop 1)⟩, (by rw [List.length_drop]; omega)⟩
 have hD := hB eS aP
 refine wp_cond_false hD ?_
 refine wp_exit ?_
 have hdw := dw_end (l := cur) (Or.inr aP)
 have he653 : cur = (u.dropWhile blankN) := hdw.symm.trans hcd
 rw [he653] at bI
 rw [he653] at a7
 exact di _ _ ⟨A1, c1, bG, dp, dq, bI, eR, ds, a7⟩
 have dv : (decide ((cur.length : Int) ≤ 0)) = true := nT bF
 have k5 := oT dv
 have hb := hcu.at16 0
 refine wp_g0 (.replicate 9 true) [] 91
   [ve (sv A1 cur c1), ve (iv (cur.length : Int)), vF, vF, vU, vU, vU, vU, vF] a6 (.eq (.eq (.eq (.eq (.eq (.eq (.eq (.eq (.eq (.nil)))))))))) ?_ ?_
 exact .m (fun k => k.fx 0 a9) <| .t (fun _ w hn k => ⟨_, v_lenR rfl elU (k.eq1 0 11 rfl), rfl⟩) <| .t (fun _ w hn k => ⟨_, v_bin rfl (k.eq1 1 12 rfl) rfl (fun _ => rfl) (r_gtrK dv), rfl⟩) <| .m (fun k => k.eq1 2 13 rfl) <| .s (fun k => k.eq1 3 14 rfl) <| .s (fun k => k.eq1 3 14 rfl) <| .s (fun k => k.eq1 3 14 rfl) <| .s (fun k => k.eq1 3 14 rfl) <| .t (fun _ w hn k => ⟨_, v_pickF rfl (k.eq1 3 14 rfl) rfl, rfl⟩) .nil
 refine aftI a6 dj dk fun mP mQ hE hF hH dx bL => ?_
 have eT := bL.fx 0 a9
 have j0 := bL.fx 2 eQ
 have j1 := bL.ge 8 19 rfl
 have hI := dl.new_ dx
 have dy := bE.new_ dx
 refine st_nil (dm _ _ ?_)
 refine wp_cond_false j1 ?_
 refine wp_exit ?_
 have hdw := dw_end (l := cur) (Or.inl (by omega))
 have he667 : cur = (u.dropWhile blankN) := hdw.symm.trans hcd
 rw [he667] at eT
 rw [he667] at dy
 exact di _ _ ⟨A1, c1, hE, hF, hH, eT, j0, hI, dy⟩
theorem cnumber_c (v : Vl) (Av : Option Addr) (cv : Nat) (Bv : Option Addr) (dv : Nat) (w : World) (hmv : SRow w .u32 Av v.mag cv) (hsv : SRow w .u16 Bv v.s dv) (hvv : VOk v) : Calls Tryz.prog 21 #[vv v Av cv Bv dv] w (IsRet (.tuple #[nv ((numberV v).1), iv ((numberV v).2)]) w) := by
 refine enter_abs Tryz.func21 rfl fun a0 aY gf hp => ?_
 have aY : a0.tmps.size = 37 := aY
 have bG : New w w := Upd.refl _ _
 have hp0 : a0.eval (.tmp 0) = vv v Av cv Bv dv := hp 0 _ rfl
 refine wp_seq_k fun K1 gg => ?_
 refine wp_g [true, true, true] [] [] 37
   [IsNew w 29 [iv v.k, iv v.nk, iv v.nn, .bool v.neg, sv Av v.mag cv, sv Bv v.s dv, iv v.ref], IsNew w 23 [iv 0, iv 0], ve (iv 0)]
   [0, 1] (newsCons (fun v w h => IsNew.old h) (newsCons (fun v w h => IsNew.old h) newsNil)) aY (.nw (.nw (.eq (.nil)))) ?_ (fun i h => by cases h) ?_
 exact .o2 (step_allocN (cs := [iv v.k, iv v.nk, iv v.nn, .bool v.neg, sv Av v.mag cv, sv Bv v.s dv, iv v.ref]) (t := 29) rfl (noG rfl) (fun _ w hn k => v_box rfl (k.fx 0 hp0) (fun w => rfl)) (fun q _ hq hb => ⟨q, rfl, hq, hb⟩)) <| .o2 (step_allocN (cs := [iv 0, iv 0]) (t := 23) rfl (noG rfl) (fun _ w hn k => rfl) (fun q _ hq hb => ⟨q, rfl, hq, hb⟩)) <| .t (fun _ w hn k => ⟨_, v_assign rfl rfl, rfl⟩) .nil
 refine aftI aY gf bG fun a2 w3 eW gh aS hO bH => ?_
 obtain ⟨q9, h8, e6, bI⟩ : IsNew _ _ _ _ _ := bH.got 0 1 rfl (by kernel_rfl)
 obtain ⟨eX, eY, e7, e8⟩ : IsNew _ _ _ _ _ := bH.got 1 2 rfl (by kernel_rfl)
 have hne16 : q9 ≠ eX := bH.ne 0 1 1 2 h8 eY
 have gF := Nat.le_trans bG.size e6
 have gG := Nat.le_trans bG.size e7
 refine st_nil (gg _ _ (wp_seq_k fun hP e9 => ?_))
 refine wp_g0 [true, true, false] [(2, false)] 37
   [ve (vv v Av cv Bv dv),
    (VP (cleanV v)), vt] eW (.eq (.cons (fun v W W' hn ⟨A5, c6, A7, c8, he, h0, h1⟩ => ⟨A5, c6, A7, c8, he, h0.new_ hn, h1.new_ hn⟩) (.tt (.nil)))) ?_ ?_
 refine .t (fun _ w hn k => ⟨_, v_load rfl (k.fx 1 h8) (l_agg Tryz.isAgg29 Tryz.sizeOf29 (bI.new_ hn) rfl), rfl⟩) ?_
 refine .o1 (tkC rfl (noG rfl) rfl fun _ w hn k => (by
       refine ⟨#[vv v Av cv Bv dv], _, args1 (k.eq1 0 6 rfl), fun w => by kernel_rfl, clean_c v _ _ _ _ _ (hmv.new_ (aS.transNew hn)) (hsv.new_ (aS.transNew hn)), ?_⟩
       rintro e w' ⟨A1, c2, A3, c4, rfl, hmo0, hmo1, hm⟩
       exact ⟨_, rfl, hm, ⟨A1, c2, A3, c4, rfl, hmo0, hmo1⟩⟩)) ?_
 exact .off .nil
 refine aftI eW gh aS fun gi hQ bJ fa fb bK aT => ?_
 have bL := aT.fx 1 h8
 have gj := aT.fx 2 eY
 obtain ⟨bM, aU, aR, aI, bN, fc, fd⟩ : (VP (cleanV v)) _ _ := aT.got 1 7 rfl (by kernel_rfl)
 have bN : gi.eval (.tmp 7) = vv (cleanV v) bM aU aR aI := bN
 have aV := bI.new_ bK
 have fe := e8.new_ bK
 obtain ⟨gk, cU, cV, aW, ff⟩ := s_many (P := Tryz.prog) (t := 29) (i := 0) [iv ((cleanV v).k), iv ((cleanV v).nk), iv ((cleanV v).nn), .bool ((cleanV v).neg), sv bM ((cleanV v).mag) aU, sv aR ((cleanV v).s) aI, iv ((cleanV v).ref)] Tryz.sizeOf29 rfl rfl rfl aV lb
 have bO : Blk gk q9 29 [iv ((cleanV v).k), iv ((cleanV v).nk), iv ((cleanV v).nn), .bool ((cleanV v).neg), sv bM ((cleanV v).mag) aU, sv aR ((cleanV v).s) aI, iv ((cleanV v).ref)] := cV
 refine st_act rfl rfl fun hR fg => a_store' rfl bL bN cU (fg _ _ trivial ?_)
 have fh := fc.far aV aW (by first | rfl | decide | simp [notK])
 have fi := fd.far aV aW (by first | rfl | decide | simp [notK])
 have fj := ff _ _ _ (fun h => hne16 h.symm) fe
 have fk := fb.trans aW (fun _ h b => by subst b; omega)
 refine st_nil (e9 _ _ (wp_seq_k fun hS bP => ?_))
 refine wp_seq_k fun hT fl => ?_
 refine wp_g0 [true, true] [] 37
   [ve (pv q9), ve (iv ((cleanV v).k))] bJ (.eq (.eq (.nil))) ?_ ?_
 exact .f (fun k => k.fx 1 bL) <| .t (fun _ w hn k => ⟨_, v_load rfl (k.eq1 0 8 rfl) (l_one Tryz.isAgg3 ((bO.new_ hn).cell 0)), rfl⟩) .nil
 refine aftI bJ fa fk fun hU hV bQ fm fn aJ aX => ?_
 have gl := aX.fx 1 bL
 have gm := aX.fx 2 gj
 have eZ := aX.ge 1 9 rfl
 have fo := bO.new_ aJ
 have fp := fj.new_ aJ
 have fq := fh.new_ aJ
 have fr := fi.new_ aJ
 refine st_nil (fl _ _ ?_)
 refine wp_block ?_
 refine wp_seq_k fun hW fs => ?_
 refine wp_g0 [true, true] [] 37
   [ve (.bool (decide (((cleanV v).k) = 0))), ve (.bool (decide (((cleanV v).k) = 0)))] bQ (.eq (.eq (.nil))) ?_ ?_
 exact .t (fun _ w hn k => ⟨_, v_bin rfl (k.fx 9 eZ) rfl (fun _ => rfl) (r_eql rfl), rfl⟩) <| .a (fun k => k.eq1 0 11 rfl) .nil
 refine aftI bQ fm fn fun hX hY aK bR bS aL aM => ?_
 have gn := aM.fx 1 gl
 have e0 := aM.fx 2 gm
 have e1 := aM.fx 9 eZ
 have e2 := aM.ge 1 10 rfl
 have ft := fo.new_ aL
 have bT := fp.new_ aL
 have fu := fq.new_ aL
 have fv := fr.new_ aL
 refine st_nil (fs _ _ ?_)
 rcases bc (decide (((cleanV v).k) = 0)) with ac | ac
 have cW := oT ac
 have fw := hB e2 ac
 refine wp_cond_true fw ?_
 refine wp_seq_k fun hZ fy => ?_
 refine wp_g0 [true, false, false] [(1, false), (2, true)] 37
   [ve (nv (Nm.mk 2 0)), vt, vt] aK (.eq (.tt (.tt (.nil)))) ?_ ?_
 exact .t (fun _ w hn k => ⟨_, v_build (ps := [(0, iv 2)]) rfl (parts1 rfl) (by kernel_rfl), rfl⟩) <| .off <| .off .nil
 refine aftI aK bR bS fun e3 h3 bU fz fA fB bV => ?_
 have e4 := bV.fx 2 e0
 have e5 := bV.ge 0 12 rfl
 have fC := bT.new_ fB
 obtain ⟨h4, -, cX, fD, fE, gH⟩ := s_two (v0 := iv 2) (v1 := iv 0) Tryz.sizeOf23 rfl rfl rfl fC
 refine st_act rfl rfl fun gI cY => a_store' rfl e4 e5 cX (cY _ _ trivial ?_)
 have cZ := fA.trans fE (fun _ h b => by subst b; omega)
 refine st_take rfl rfl (y_assign (v := iv 0) rfl rfl) rfl ?_
 obtain ⟨fF, ah⟩ : ∃ a', a' = e3.put (some 3) (iv 0) := ⟨_, rfl⟩
 have go := pz ah bU
 have c0 := pd ah fz
 have fG := pn ah e4 (by decide)
 have gJ := pn ah e5 (by decide)
 have fH : fF.eval (.tmp 3) = iv 0 := by rw [ah]; exact put_same _ _ _ (by rw [bU]; decide)
 show stepsTo _ _ _ _ _ (e3.put (some 3) (iv 0)) _
 rw [← ah]
 refine st_nil (fy _ _ ?_)
 refine wp_ret (ret_k c0 (v := .tuple #[nv (Nm.mk 2 0), iv 0]) (res_ct rfl fG fH (l_two Tryz.isAgg23 Tryz.sizeOf23 fD)) ?_)
 refine ⟨?_, cZ⟩
 show Ending.returned (.tuple #[nv (Nm.mk 2 0), iv 0]) = Ending.returned (.tuple #[nv ((numberV v).1), iv ((numberV v).2)])
 first | rfl | (simp only [numberV, ac, bsm] <;> rfl) | (exfalso; omega)
 have cW := oF ac
 have c1 := hB e2 ac
 refine wp_cond_false c1 ?_
 refine wp_seq_k fun gK aZ => ?_
 refine wp_seq_k fun gL c3 => ?_
 refine wp_g0 [true, true] [] 37
   [ve (.bool (decide (((cleanV v).k) = 1))), ve (.bool (decide (((cleanV v).k) = 1)))] aK (.eq (.eq (.nil))) ?_ ?_
 exact .t (fun _ w hn k => ⟨_, v_bin rfl (k.fx 9 e1) rfl (fun _ => rfl) (r_eql rfl), rfl⟩) <| .a (fun k => k.eq1 0 14 rfl) .nil
 refine aftI aK bR bS fun gM gN aq a1 a3 ar au => ?_
 have bW := au.fx 1 gn
 have bX := au.fx 2 e0
 have bY := au.fx 9 e1
 have bZ := au.ge 1 13 rfl
 have a4 := ft.new_ ar
 have a5 := bT.new_ ar
 have c5 := fu.new_ ar
 have c7 := fv.new_ ar
 refine st_nil (c3 _ _ ?_)
 rcases bc (decide (((cleanV v).k) = 1)) with aa | aa
 have b0 := oT aa
 have a6 := hB bZ aa
 refine wp_cond_true a6 ?_
 refine wp_skip ?_
 refine aZ _ _ ?_
 refine wp_cond_true a6 ?_
 refine wp_seq_k fun gO c9 => ?_
 refine wp_g0 [true, true, true, false, false] [(3, false), (4, true)] 37
   [ve (.pointer (some ⟨q9, 6, none⟩)), ve (iv ((cleanV v).ref)), ve (nv (Nm.mk 0 ((cleanV v).ref))), vt, vt] aq (.eq (.eq (.eq (.tt (.tt (.nil)))))) ?_ ?_
 exact .f (fun k => k.fx 1 bW) <| .t (fun _ w hn k => ⟨_, v_load rfl (k.eq1 0 16 rfl) (l_one Tryz.isAgg3 ((a4.new_ hn).cell 6)), rfl⟩) <| .t (fun _ w hn k => ⟨_, v_build (ps := [(1, iv ((cleanV v).ref))]) rfl (parts1 (k.eq1 1 17 rfl)) (by kernel_rfl), rfl⟩) <| .off <| .off .nil
 refine aftI aq a1 a3 fun b1 gP a7 da db dc a8 => ?_
 have b2 := a8.fx 2 bX
 have b3 := a8.ge 2 18 rfl
 have dd := a5.new_ dc
 obtain ⟨gQ, -, b4, de, df, gp⟩ := s_two (v0 := iv 0) (v1 := iv ((cleanV v).ref)) Tryz.sizeOf23 rfl rfl rfl dd
 refine st_act rfl rfl fun gR dg => a_store' rfl b2 b3 b4 (dg _ _ trivial ?_)
 have dh := db.trans df (fun _ h b => by subst b; omega)
 refine st_take rfl rfl (y_assign (v := iv 0) rfl rfl) rfl ?_
 obtain ⟨fI, ai⟩ : ∃ a', a' = b1.put (some 3) (iv 0) := ⟨_, rfl⟩
 have gq := pz ai a7
 have di := pd ai da
 have fJ := pn ai b2 (by decide)
 have gS := pn ai b3 (by decide)
 have fK : fI.eval (.tmp 3) = iv 0 := by rw [ai]; exact put_same _ _ _ (by rw [a7]; decide)
 show stepsTo _ _ _ _ _ (b1.put (some 3) (iv 0)) _
 rw [← ai]
 refine st_nil (c9 _ _ ?_)
 refine wp_ret (ret_k di (v := .tuple #[nv (Nm.mk 0 ((cleanV v).ref)), iv 0]) (res_ct rfl fJ fK (l_two Tryz.isAgg23 Tryz.sizeOf23 de)) ?_)
 refine ⟨?_, dh⟩
 show Ending.returned (.tuple #[nv (Nm.mk 0 ((cleanV v).ref)), iv 0]) = Ending.returned (.tuple #[nv ((numberV v).1), iv ((numberV v).2)])
 first | rfl | (simp only [numberV, ac, aa, bsm] <;> rfl) | (exfalso; omega)
 have b0 := oF aa
 have dj := hB bZ aa
 refine wp_cond_false dj ?_
 refine wp_g0 [true, true] [] 37
   [ve (.bool (decide (((cleanV v).k) = 2))), ve (.bool (decide (((cleanV v).k) = 2)))] aq (.eq (.eq (.nil))) ?_ ?_
 exact .t (fun _ w hn k => ⟨_, v_bin rfl (k.fx 9 bY) rfl (fun _ => rfl) (r_eql rfl), rfl⟩) <| .a (fun k => k.eq1 0 15 rfl) .nil
 refine aftI aq a1 a3 fun gT gU av a9 ba aw ax => ?_
 have b5 := ax.fx 1 bW
 have b6 := ax.fx 2 bX
 have b7 := ax.fx 9 bY
 have b8 := ax.ge 1 13 rfl
 have bb := a4.new_ aw
 have bd := a5.new_ aw
 have dk := c5.new_ aw
 have dl := c7.new_ aw
 refine st_nil (aZ _ _ ?_)
 rcases bc (decide (((cleanV v).k) = 2)) with ab | ab
 have b9 := oT ab
 have dm := hB b8 ab
 refine wp_cond_true dm ?_
 refine wp_seq_k fun gV dn => ?_
 refine wp_g0 [true, true, true, false, false] [(3, false), (4, true)] 37
   [ve (.pointer (some ⟨q9, 6, none⟩)), ve (iv ((cleanV v).ref)), ve (nv (Nm.mk 0 ((cleanV v).ref))), vt, vt] av (.eq (.eq (.eq (.tt (.tt (.nil)))))) ?_ ?_
 exact .f (fun k => k.fx 1 b5) <| .t (fun _ w hn k => ⟨_, v_load rfl (k.eq1 0 16 rfl) (l_one Tryz.isAgg3 ((bb.new_ hn).cell 6)), rfl⟩) <| .t (fun _ w hn k => ⟨_, v_build (ps := [(1, iv ((cleanV v).ref))]) rfl (parts1 (k.eq1 1 17 rfl)) (by kernel_rfl), rfl⟩) <| .off <| .off .nil
 refine aftI av a9 ba fun ca gW be dp dq dr bf => ?_
 have cb := bf.fx 2 b6
 have cc := bf.ge 2 18 rfl
 have ds := bd.new_ dr
 obtain ⟨gX, -, cd, dt, du, gr⟩ := s_two (v0 := iv 0) (v1 := iv ((cleanV v).ref)) Tryz.sizeOf23 rfl rfl rfl ds
 refine st_act rfl rfl fun gY dw => a_store' rfl cb cc cd (dw _ _ trivial ?_)
 have dx := dq.trans du (fun _ h b => by subst b; omega)
 refine st_take rfl rfl (y_assign (v := iv 0) rfl rfl) rfl ?_
 obtain ⟨fL, aj⟩ : ∃ a', a' = ca.put (some 3) (iv 0) := ⟨_, rfl⟩
 have gs := pz aj be
 have dy := pd aj dp
 have fM := pn aj cb (by decide)
 have gZ := pn aj cc (by decide)
 have fN : fL.eval (.tmp 3) = iv 0 := by rw [aj]; exact put_same _ _ _ (by rw [be]; decide)
 show stepsTo _ _ _ _ _ (ca.put (some 3) (iv 0)) _
 rw [← aj]
 refine st_nil (dn _ _ ?_)
 refine wp_ret (ret_k dy (v := .tuple #[nv (Nm.mk 0 ((cleanV v).ref)), iv 0]) (res_ct rfl fM fN (l_two Tryz.isAgg23 Tryz.sizeOf23 dt)) ?_)
 refine ⟨?_, dx⟩
 show Ending.returned (.tuple #[nv (Nm.mk 0 ((cleanV v).ref)), iv 0]) = Ending.returned (.tuple #[nv ((numberV v).1), iv ((numberV v).2)])
 first | rfl | (simp only [numberV, ac, aa, ab, bsm] <;> rfl) | (exfalso; omega)
 have b9 := oF ab
 have dz := hB b8 ab
 refine wp_cond_false dz ?_
 refine wp_seq_k fun g0 dA => ?_
 refine wp_g0 [true, true] [] 37
   [ve (.bool (decide (((cleanV v).k) = 3))), ve (.bool (decide (((cleanV v).k) = 3)))] av (.eq (.eq (.nil))) ?_ ?_
 exact .t (fun _ w hn k => ⟨_, v_bin rfl (k.fx 9 b7) rfl (fun _ => rfl) (r_eql rfl), rfl⟩) <| .a (fun k => k.eq1 0 20 rfl) .nil
 refine aftI av a9 ba fun g1 g2 ay bg bh az aA => ?_
 have ce := aA.fx 1 b5
 have cf := aA.fx 2 b6
 have ch := aA.fx 9 b7
 have ci := aA.ge 1 19 rfl
 have bi := bb.new_ az
 have bj := bd.new_ az
 have dB := dk.new_ az
 have dC := dl.new_ az
 refine st_nil (dA _ _ ?_)
 rcases bc (decide (((cleanV v).k) = 3)) with ad | ad
 have cj := oT ad
 have dD := hB ci ad
 refine wp_cond_true dD ?_
 refine wp_seq_k fun g3 dE => ?_
 refine wp_g0 [true, true, false, false] [(2, false), (3, true)] 37
   [ve (.pointer (some ⟨q9, 1, none⟩)), ve (nv (Nm.mk ((cleanV v).nk) ((cleanV v).nn))), vt, vt] ay (.eq (.eq (.tt (.tt (.nil))))) ?_ ?_
 exact .f (fun k => k.fx 1 ce) <| .t (fun _ w hn k => ⟨_, v_load rfl (k.eq1 0 21 rfl) (l_part Tryz.isAgg23 Tryz.sizeOf23 (bi.new_ hn) lb), rfl⟩) <| .off <| .off .nil
 refine aftI ay bg bh fun cl g4 bk dF dG dH bl => ?_
 have cm := bl.fx 2 cf
 have cn := bl.ge 1 22 rfl
 have dI := bj.new_ dH
 obtain ⟨g5, -, co, dJ, dK, gt⟩ := s_two (v0 := iv ((cleanV v).nk)) (v1 := iv ((cleanV v).nn)) Tryz.sizeOf23 rfl rfl rfl dI
 refine st_act rfl rfl fun g6 dL => a_store' rfl cm cn co (dL _ _ trivial ?_)
 have dM := dG.trans dK (fun _ h b => by subst b; omega)
 refine st_take rfl rfl (y_assign (v := iv 0) rfl rfl) rfl ?_
 obtain ⟨fO, ak⟩ : ∃ a', a' = cl.put (some 3) (iv 0) := ⟨_, rfl⟩
 have gu := pz ak bk
 have dN := pd ak dF
 have fP := pn ak cm (by decide)
 have g7 := pn ak cn (by decide)
 have fQ : fO.eval (.tmp 3) = iv 0 := by rw [ak]; exact put_same _ _ _ (by rw [bk]; decide)
 show stepsTo _ _ _ _ _ (cl.put (some 3) (iv 0)) _
 rw [← ak]
 refine st_nil (dE _ _ ?_)
 refine wp_ret (ret_k dN (v := .tuple #[nv (Nm.mk ((cleanV v).nk) ((cleanV v).nn)), iv 0]) (res_ct rfl fP fQ (l_two Tryz.isAgg23 Tryz.sizeOf23 dJ)) ?_)
 refine ⟨?_, dM⟩
 show Ending.returned (.tuple #[nv (Nm.mk ((cleanV v).nk) ((cleanV v).nn)), iv 0]) = Ending.returned (.tuple #[nv ((numberV v).1), iv ((numberV v).2)])
 first | rfl | (simp only [numberV, ac, aa, ab, ad, bsm] <;> rfl) | (exfalso; omega)
 have cj := oF ad
 have dO := hB ci ad
 refine wp_cond_false dO ?_
 refine wp_seq_k fun g8 dP => ?_
 refine wp_g0 [true, true] [] 37
   [ve (.bool (decide (((cleanV v).k) = 4))), ve (.bool (decide (((cleanV v).k) = 4)))] ay (.eq (.eq (.nil))) ?_ ?_
 exact .t (fun _ w hn k => ⟨_, v_bin rfl (k.fx 9 ch) rfl (fun _ => rfl) (r_eql rfl), rfl⟩) <| .a (fun k => k.eq1 0 24 rfl) .nil
 refine aftI ay bg bh fun g9 ha aB bm bn aC aD => ?_
 have fR := aD.fx 1 ce
 have cp := aD.fx 2 cf
 have fS := aD.fx 9 ch
 have cq := aD.ge 1 23 rfl
 have dQ := bi.new_ aC
 have bo := bj.new_ aC
 have dR := dB.new_ aC
 have dS := dC.new_ aC
 refine st_nil (dP _ _ ?_)
 rcases bc (decide (((cleanV v).k) = 4)) with ae | ae
 have cr := oT ae
 have dT := hB cq ae
 refine wp_cond_true dT ?_
 refine wp_seq_k fun hc dU => ?_
 refine wp_g0 [true, false, false] [(1, false), (2, true)] 37
   [ve (nv (Nm.mk 0 0)), vt, vt] aB (.eq (.tt (.tt (.nil)))) ?_ ?_
 exact .t (fun _ w hn k => ⟨_, v_build (ps := []) rfl parts0 (by kernel_rfl), rfl⟩) <| .off <| .off .nil
 refine aftI aB bm bn fun ct hd bp dV dW dX bq => ?_
 have cu := bq.fx 2 cp
 have cw := bq.ge 0 25 rfl
 have dY := bo.new_ dX
 obtain ⟨hf, -, cx, dZ, d0, gv⟩ := s_two (v0 := iv 0) (v1 := iv 0) Tryz.sizeOf23 rfl rfl rfl dY
 refine st_act rfl rfl fun hg d1 => a_store' rfl cu cw cx (d1 _ _ trivial ?_)
 have d2 := dW.trans d0 (fun _ h b => by subst b; omega)
 refine st_take rfl rfl (y_assign (v := iv 1) rfl rfl) rfl ?_
 obtain ⟨fT, al⟩ : ∃ a', a' = ct.put (some 3) (iv 1) := ⟨_, rfl⟩
 have gw := pz al bp
 have d3 := pd al dV
 have fU := pn al cu (by decide)
 have hh := pn al cw (by decide)
 have fV : fT.eval (.tmp 3) = iv 1 := by rw [al]; exact put_same _ _ _ (by rw [bp]; decide)
 show stepsTo _ _ _ _ _ (ct.put (some 3) (iv 1)) _
 rw [← al]
 refine st_nil (dU _ _ ?_)
 refine wp_ret (ret_k d3 (v := .tuple #[nv (Nm.mk 0 0), iv 1]) (res_ct rfl fU fV (l_two Tryz.isAgg23 Tryz.sizeOf23 dZ)) ?_)
 refine ⟨?_, d2⟩
 show Ending.returned (.tuple #[nv (Nm.mk 0 0), iv 1]) = Ending.returned (.tuple #[nv ((numberV v).1), iv ((numberV v).2)])
 first | rfl | (simp only [numberV, ac, aa, ab, ad, ae, bsm] <;> rfl) | (exfalso; omega)
 have cr := oF ae
 have d4 := hB cq ae
 refine wp_cond_false d4 ?_
 refine wp_seq_k fun hi d5 => ?_
 refine wp_g0 [true, true] [] 37
   [ve (.bool (decide (((cleanV v).k) = 5))), ve (.bool (decide (((cleanV v).k) = 5)))] aB (.eq (.eq (.nil))) ?_ ?_
 exact .t (fun _ w hn k => ⟨_, v_bin rfl (k.fx 9 fS) rfl (fun _ => rfl) (r_eql rfl), rfl⟩) <| .a (fun k => k.eq1 0 27 rfl) .nil
 refine aftI aB bm bn fun hj fW aE br aN aF aO => ?_
 have fX := aO.fx 1 fR
 have cy := aO.fx 2 cp
 have cz := aO.ge 1 26 rfl
 have d6 := dQ.new_ aF
 have aP := bo.new_ aF
 have gx := dR.new_ aF
 have d7 := dS.new_ aF
 refine st_nil (d5 _ _ ?_)
 rcases bc (decide (((cleanV v).k) = 5)) with af | af
 have cA := oT af
 have d8 := hB cz af
 refine wp_cond_true d8 ?_
 refine wp_seq_k fun hl d9 => ?_
 refine wp_g [true, true, true, true, true, true, true, false, false] [5] [(7, false), (8, true)] 37
   [ve (.pointer (some ⟨q9, 5, none⟩)), ve (sv aR ((cleanV v).s) aI), ve (.tuple #[nv ((numT ((cleanV v).s)).1), .bool ((numT ((cleanV v).s)).2)]), ve (.tuple #[nv ((numT ((cleanV v).s)).1), .bool ((numT ((cleanV v).s)).2)]), ve (nv ((numT ((cleanV v).s)).1)), ve (.bool ((numT ((cleanV v).s)).2)), IsNew fW 23 [iv 0, iv 0], vt, vt]
   [6] (newsCons (fun v w h => IsNew.old h) newsNil) aE (.eq (.eq (.eq (.eq (.eq (.eq (.nw (.tt (.tt (.nil)))))))))) ?_ ?_ ?_
 refine .f (fun k => k.fx 1 fX) <| .t (fun _ w hn k => ⟨_, v_load rfl (k.eq1 0 29 rfl) (l_one Tryz.isAgg27 ((d6.new_ hn).cell 5)), rfl⟩) <| .o1 (ck rfl rfl rfl (fun _ w hn k => ⟨#[sv aR ((cleanV v).s) aI], args1 (k.eq1 1 30 rfl), fun _ => by kernel_rfl, tnumber_c _ ((cleanV v).s) _ _ (d7.new_ hn) hvv.clean.units⟩) fun _ => rfl) <| .m (fun k => k.eq1 2 31 rfl) <| .t (fun _ w hn k => ⟨_, v_extract rfl (k.eq1 3 28 rfl) rfl, rfl⟩) ?_
 refine .o3 ?_
 exact .o2 (step_allocN (cs := [iv 0, iv 0]) (t := 23) rfl (noG rfl) (fun _ w hn k => rfl) (fun q _ hq hb => ⟨q, rfl, hq, hb⟩)) <| .off <| .off .nil
 intro i h
 simp only [List.contains_eq_mem, List.mem_cons, List.not_mem_nil, or_false, decide_eq_true_eq] at h
 subst h
 exact eager_take rfl rfl fun _ w hn k => ⟨.bool ((numT ((cleanV v).s)).2), fun w => v_extract rfl (k.eq1 3 28 rfl) rfl, rfl⟩
 refine aftI aE br aN fun cB ho bs ea eb ec aG => ?_
 have fY := aG.fx 2 cy
 have cC := aG.ge 4 32 rfl
 have cD := aG.ge 5 33 rfl
 obtain ⟨fZ, cE, bt, ed⟩ : IsNew _ _ _ _ _ := aG.got 6 4 rfl (by kernel_rfl)
 have ee := aP.new_ ec
 have hne323 : eX ≠ fZ := by have h1 := aP.lt; have h2 := bt; omega
 have gy := Nat.le_trans aN.size bt
 obtain ⟨hr, -, cF, ef, eg, eh⟩ := s_two (v0 := iv ((numT ((cleanV v).s)).1.k)) (v1 := iv ((numT ((cleanV v).s)).1.n)) Tryz.sizeOf23 rfl rfl rfl ed
 refine st_act rfl rfl fun hs ei => a_store' rfl cE cC cF (ei _ _ trivial ?_)
 have ej := eh _ _ _ (hne323) ee
 have ek := eb.trans eg (fun _ h b => by subst b; omega)
 refine st_take rfl rfl (y_assign (v := .bool ((numT ((cleanV v).s)).2)) rfl cD) rfl ?_
 obtain ⟨f0, ag⟩ : ∃ a', a' = cB.put (some 5) (.bool ((numT ((cleanV v).s)).2)) := ⟨_, rfl⟩
 have bu := pz ag bs
 have el := pd ag ea
 have f1 := pn ag fY (by decide)
 have ht := pn ag cC (by decide)
 have hu := pn ag cD (by decide)
 have f2 := pn ag cE (by decide)
 have f3 : f0.eval (.tmp 5) = .bool ((numT ((cleanV v).s)).2) := by rw [ag]; exact put_same _ _ _ (by rw [bs]; decide)
 show stepsTo _ _ _ _ _ (cB.put (some 5) (.bool ((numT ((cleanV v).s)).2))) _
 rw [← ag]
 refine st_nil (d9 _ _ (wp_seq_k fun hv em => ?_))
 refine wp_g0 [true] [] 37
   [ve (.bool ((numT ((cleanV v).s)).2))] bu (.eq (.nil)) ?_ ?_
 exact .m (fun k => k.fx 5 f3) .nil
 refine aftI bu el ek fun hw hx aH bv bw bx aQ => ?_
 have cG := aQ.fx 2 f1
 have f4 := aQ.fx 4 f2
 have cH := aQ.ge 0 34 rfl
 have bz := ej.new_ bx
 have en := ef.new_ bx
 refine st_nil (em _ _ ?_)
 rcases bc ((numT ((cleanV v).s)).2) with ap | ap
 have eo := hB cH ap
 refine wp_cond_true eo ?_
 refine wp_seq_k fun hy ep => ?_
 refine wp_g0 [true, false, false] [(1, false), (2, true)] 37
   [ve (nv ((numT ((cleanV v).s)).1)), vt, vt] aH (.eq (.tt (.tt (.nil)))) ?_ ?_
 exact .t (fun _ w hn k => ⟨_, v_load rfl (k.fx 4 f4) (l_two Tryz.isAgg23 Tryz.sizeOf23 (en.new_ hn)), rfl⟩) <| .off <| .off .nil
 refine aftI aH bv bw fun cI hz bA er es et bB => ?_
 have cJ := bB.fx 2 cG
 have cK := bB.ge 0 35 rfl
 have eu := bz.new_ et
 obtain ⟨hA, -, cL, ev, ew, gz⟩ := s_two (v0 := iv ((numT ((cleanV v).s)).1.k)) (v1 := iv ((numT ((cleanV v).s)).1.n)) Tryz.sizeOf23 rfl rfl rfl eu
 refine st_act rfl rfl fun hC ex => a_store' rfl cJ cK cL (ex _ _ trivial ?_)
 have ey := es.trans ew (fun _ h b => by subst b; omega)
 refine st_take rfl rfl (y_assign (v := iv 0) rfl rfl) rfl ?_
 obtain ⟨f5, am⟩ : ∃ a', a' = cI.put (some 3) (iv 0) := ⟨_, rfl⟩
 have gA := pz am bA
 have ez := pd am er
 have f6 := pn am cJ (by decide)
 have hD := pn am cK (by decide)
 have f7 : f5.eval (.tmp 3) = iv 0 := by rw [am]; exact put_same _ _ _ (by rw [bA]; decide)
 show stepsTo _ _ _ _ _ (cI.put (some 3) (iv 0)) _
 rw [← am]
 refine st_nil (ep _ _ ?_)
 refine wp_ret (ret_k ez (v := .tuple #[nv ((numT ((cleanV v).s)).1), iv 0]) (res_ct rfl f6 f7 (l_two Tryz.isAgg23 Tryz.sizeOf23 ev)) ?_)
 refine ⟨?_, ey⟩
 show Ending.returned (.tuple #[nv ((numT ((cleanV v).s)).1), iv 0]) = Ending.returned (.tuple #[nv ((numberV v).1), iv ((numberV v).2)])
 first | rfl | (simp only [numberV, ac, aa, ab, ad, ae, af, ap, bsm] <;> rfl) | (exfalso; omega)
 have eA := hB cH ap
 refine wp_cond_false eA ?_
 refine wp_skip ?_
 refine bP _ _ ?_
 refine wp_seq_k fun hE eB => ?_
 refine wp_g0 [true, false, false] [(1, false), (2, true)] 37
   [ve (nv (Nm.mk 0 0)), vt, vt] aH (.eq (.tt (.tt (.nil)))) ?_ ?_
 exact .t (fun _ w hn k => ⟨_, v_build (ps := []) rfl parts0 (by kernel_rfl), rfl⟩) <| .off <| .off .nil
 refine aftI aH bv bw fun cM hF bC eC eD eE bD => ?_
 have cN := bD.fx 2 cG
 have cO := bD.ge 0 36 rfl
 have eF := bz.new_ eE
 obtain ⟨hG, -, cP, eG, eH, gB⟩ := s_two (v0 := iv 0) (v1 := iv 0) Tryz.sizeOf23 rfl rfl rfl eF
 refine st_act rfl rfl fun hH eI => a_store' rfl cN cO cP (eI _ _ trivial ?_)
 have eJ := eD.trans eH (fun _ h b => by subst b; omega)
 refine st_take rfl rfl (y_assign (v := iv 3) rfl rfl) rfl ?_
 obtain ⟨f8, an⟩ : ∃ a', a' = cM.put (some 3) (iv 3) := ⟨_, rfl⟩
 have gC := pz an bC
 have eK := pd an eC
 have f9 := pn an cN (by decide)
 have hI := pn an cO (by decide)
 have ga : f8.eval (.tmp 3) = iv 3 := by rw [an]; exact put_same _ _ _ (by rw [bC]; decide)
 show stepsTo _ _ _ _ _ (cM.put (some 3) (iv 3)) _
 rw [← an]
 refine st_nil (eB _ _ ?_)
 refine wp_ret (ret_k eK (v := .tuple #[nv (Nm.mk 0 0), iv 3]) (res_ct rfl f9 ga (l_two Tryz.isAgg23 Tryz.sizeOf23 eG)) ?_)
 refine ⟨?_, eJ⟩
 show Ending.returned (.tuple #[nv (Nm.mk 0 0), iv 3]) = Ending.returned (.tuple #[nv ((numberV v).1), iv ((numberV v).2)])
 first | rfl | (simp only [numberV, ac, aa, ab, ad, ae, af, ap, bsm] <;> rfl) | (exfalso; omega)
 have cA := oF af
 have eL := hB cz af
 refine wp_cond_false eL ?_
 refine wp_skip ?_
 refine bP _ _ ?_
 refine wp_seq_k fun hJ eM => ?_
 refine wp_g0 [true, false, false] [(1, false), (2, true)] 37
   [ve (nv (Nm.mk 0 0)), vt, vt] aE (.eq (.tt (.tt (.nil)))) ?_ ?_
 exact .t (fun _ w hn k => ⟨_, v_build (ps := []) rfl parts0 (by kernel_rfl), rfl⟩) <| .off <| .off .nil
 refine aftI aE br aN fun cQ hK bE eN eO eP bF => ?_
 have cR := bF.fx 2 cy
 have cS := bF.ge 0 36 rfl
 have eQ := aP.new_ eP
 obtain ⟨hL, -, cT, eR, eS, gD⟩ := s_two (v0 := iv 0) (v1 := iv 0) Tryz.sizeOf23 rfl rfl rfl eQ
 refine st_act rfl rfl fun hM eT => a_store' rfl cR cS cT (eT _ _ trivial ?_)
 have eU := eO.trans eS (fun _ h b => by subst b; omega)
 refine st_take rfl rfl (y_assign (v := iv 3) rfl rfl) rfl ?_
 obtain ⟨gb, ao⟩ : ∃ a', a' = cQ.put (some 3) (iv 3) := ⟨_, rfl⟩
 have gE := pz ao bE
 have eV := pd ao eN
 have gc := pn ao cR (by decide)
 have hN := pn ao cS (by decide)
 have gd : gb.eval (.tmp 3) = iv 3 := by rw [ao]; exact put_same _ _ _ (by rw [bE]; decide)
 show stepsTo _ _ _ _ _ (cQ.put (some 3) (iv 3)) _
 rw [← ao]
 refine st_nil (eM _ _ ?_)
 refine wp_ret (ret_k eV (v := .tuple #[nv (Nm.mk 0 0), iv 3]) (res_ct rfl gc gd (l_two Tryz.isAgg23 Tryz.sizeOf23 eR)) ?_)
 refine ⟨?_, eU⟩
 show Ending.returned (.tuple #[nv (Nm.mk 0 0), iv 3]) = Ending.returned (.tuple #[nv ((numberV v).1), iv ((numberV v).2)])
 first | rfl | (simp only [numberV, ac, aa, ab, ad, ae, af, bsm] <;> rfl) | (exfalso; omega)
def cstr_c_P (Au : Option Addr) (u : List Nat) (cu : Nat) (w : World) (en : Ending) (w' : World) : Prop := ∃ (Ar0 : Option Addr) (cr0 : Nat) (Ar1 : Option Addr) (cr1 : Nat), en = .returned (vv (strV u) Ar0 cr0 Ar1 cr1) ∧ SRow w' .u32 Ar0 ((strV u).mag) cr0 ∧ SRow w' .u16 Ar1 ((strV u).s) cr1 ∧ New w w'
theorem cstr_c (Au : Option Addr) (u : List Nat) (cu : Nat) (w : World) (hru : SRow w .u16 Au u cu) (hs : u.length ≤ 20000) : Calls Tryz.prog 16 #[sv Au u cu] w (cstr_c_P Au u cu w) := by
 refine enter_abs Tryz.func16 rfl fun a0 af aJ hp => ?_
 have af : a0.tmps.size = 10 := af
 have am : New w w := Upd.refl _ _
 have hp0 : a0.eval (.tmp 0) = sv Au u cu := hp 0 _ rfl
 refine wp_seq_k fun K1 aK => ?_
 refine wp_g [true] [] [] 10
   [IsNew w 29 [iv 0, iv 0, iv 0, .bool false, sv none ([]) 0, sv none ([]) 0, iv 0]]
   [0] (newsCons (fun v w h => IsNew.old h) newsNil) af (.nw (.nil)) ?_ (fun i h => by cases h) ?_
 exact .o2 (step_allocN (cs := [iv 0, iv 0, iv 0, .bool false, sv none ([]) 0, sv none ([]) 0, iv 0]) (t := 29) rfl (noG rfl) (fun _ w hn k => rfl) (fun q _ hq hb => ⟨q, rfl, hq, hb⟩)) .nil
 refine aftI af aJ am fun a2 w3 an aL ae aX ao => ?_
 have h8 := ao.fx 0 hp0
 obtain ⟨aM, h9, aw, ax⟩ : IsNew _ _ _ _ _ := ao.got 0 2 rfl (by kernel_rfl)
 have aU := Nat.le_trans am.size aw
 refine st_nil (aK _ _ (wp_seq_k fun aY ay => ?_))
 refine wp_g0 [true, true, true, true, true, true, true, false] [(7, false)] 10
   [ve (sv Au u cu), ve (sv Au u cu), ve (iv (u.length : Int)), ve (iv (min (u.length : Int) 4096)),
    (RP .u16 (u.take ((min (u.length : Int) 4096 : Int).toNat))),
    (OP w3.heap.size 74 .u16 (u.take ((min (u.length : Int) 4096 : Int).toNat))), (fun (v_ : Value) (W : World) => ∃ (ab : Option Addr) (ac : Nat), v_ = vv (Vl.mk 5 0 0 false [] (u.take ((min (u.length : Int) 4096 : Int).toNat)) 0) none 0 ab ac ∧ SOwn W w3.heap.size 74 .u16 ab (u.take ((min (u.length : Int) 4096 : Int).toNat)) ac), vt] an (.eq (.eq (.eq (.eq (.cons (fun _ _ _ n ⟨_, _, e, h⟩ => ⟨_, _, e, h.new_ n⟩) (.cons (fun v W W' hn ⟨aN, aO, he, h0⟩ => ⟨aN, aO, he, h0.new_ hn⟩) (.cons (fun _ _ _ n ⟨_, _, e, h⟩ => ⟨_, _, e, h.new_ n⟩) (.tt (.nil))))))))) ?_ ?_
 refine .m (fun k => k.fx 0 h8) <| .m (fun k => k.fx 0 h8) <| .t (fun _ w hn k => ⟨_, v_lenR rfl elU (k.eq1 1 4 rfl), rfl⟩) <| .t (fun _ w hn k => ⟨_, v_min rfl (k.eq1 2 5 rfl) rfl, rfl⟩) ?_
 refine .o1 (tk rfl rfl fun _ w hn k => (by
       exact x_cutH (k := .u16) rfl elU (k.eq1 0 3 rfl) (k.eq1 3 6 rfl) (hru.new_ (ae.transNew hn)) (by omega) fun A1 c2 hmr => ⟨A1, c2, rfl, hmr⟩)) ?_
 refine .o1 (tkC rfl (noG rfl) rfl fun _ w hn k => (by
       obtain ⟨A5, c6, e7, aP⟩ : (RP .u16 (u.take ((min (u.length : Int) 4096 : Int).toNat))) _ _ := k.dep 4 7 (by kernel_rfl) (by kernel_rfl)
       refine ⟨#[sv A5 (u.take ((min (u.length : Int) 4096 : Int).toNat)) c6], _, args1 e7, fun w => by kernel_rfl, clone16_c _ (u.take ((min (u.length : Int) 4096 : Int).toNat)) _ _ aP (by first | omega | (simp only [List.length_nil, List.length_take, List.length_drop]; omega) | (simp only [List.length_cons, List.length_nil]; omega)), ?_⟩
       rintro e w' ⟨A9, aQ, rfl, hmo0, hm⟩
       exact ⟨_, rfl, hm, ⟨A9, aQ, rfl, (hmo0.more hn.size)⟩⟩)) ?_
 refine .o1 (tk rfl rfl fun _ w hn k => (by
       obtain ⟨ap, aq, aR, az⟩ : (OP w3.heap.size 74 .u16 (u.take ((min (u.length : Int) 4096 : Int).toNat))) _ _ := k.dep 5 8 (by kernel_rfl) (by kernel_rfl)
       exact ⟨_, v_build (ps := [(0, iv 5), (3, sv ap (u.take ((min (u.length : Int) 4096 : Int).toNat)) aq)]) rfl (parts2 rfl aR) (by kernel_rfl), ⟨ap, aq, rfl, az⟩⟩)) ?_
 exact .off .nil
 refine aftI an aL ae fun aS aZ aV aA aB aC ag => ?_
 have ar := ag.fx 2 h9
 obtain ⟨ad, aa, ah, aD⟩ : (fun (v_ : Value) (W : World) => ∃ (ab : Option Addr) (ac : Nat), v_ = vv (Vl.mk 5 0 0 false [] (u.take ((min (u.length : Int) 4096 : Int).toNat)) 0) none 0 ab ac ∧ SOwn W w3.heap.size 74 .u16 ab (u.take ((min (u.length : Int) 4096 : Int).toNat)) ac) _ _ := ag.got 6 9 rfl (by kernel_rfl)
 have ah : aS.eval (.tmp 9) = vv (Vl.mk 5 0 0 false [] (u.take ((min (u.length : Int) 4096 : Int).toNat)) 0) none 0 ad aa := ah
 have ai := ax.new_ aC
 have aE := aD.more ae.size
 obtain ⟨aT, ak, al, aj, aW⟩ := s_many (P := Tryz.prog) (t := 29) (i := 0) [iv 5, iv 0, iv 0, .bool false, sv none ([]) 0, sv ad (u.take ((min (u.length : Int) 4096 : Int).toNat)) aa, iv 0] Tryz.sizeOf29 rfl rfl rfl ai lb
 have aF : Blk aT aM 29 [iv 5, iv 0, iv 0, .bool false, sv none ([]) 0, sv ad (u.take ((min (u.length : Int) 4096 : Int).toNat)) aa, iv 0] := al
 refine st_act rfl rfl fun a1 aG => a_store' rfl ar ah ak (aG _ _ trivial ?_)
 have aH := aE.far ai aj (by decide)
 have aI := aB.trans aj (fun _ h b => by subst b; omega)
 refine st_nil (ay _ _ ?_)
 refine wp_ret (ret_k aA (v := vv (Vl.mk 5 0 0 false [] (u.take ((min (u.length : Int) 4096 : Int).toNat)) 0) none 0 ad aa) (res_c rfl ar (l_agg Tryz.isAgg29 Tryz.sizeOf29 aF rfl)) ?_)
 have au : (strV u).mag = [] := by first | rfl | (simp only [strV, tk_min, bsm] <;> rfl) | (exfalso; omega)
 have av : (strV u).s = (u.take ((min (u.length : Int) 4096 : Int).toNat)) := by first | rfl | (simp only [strV, tk_min, bsm] <;> rfl) | (exfalso; omega)
 exact ⟨none, 0, ad, aa, (by show Ending.returned (vv (Vl.mk 5 0 0 false [] (u.take ((min (u.length : Int) 4096 : Int).toNat)) 0) none 0 ad aa) = Ending.returned (vv (strV u) none 0 ad aa); (first | rfl | (simp only [strV, au, av, tk_min, bsm] <;> rfl) | (exfalso; omega))), (by rw [au]; exact (SRow.nil _ _)), (by rw [av]; exact aH.row), aI⟩
def cown_c_P (a : Bool) (Aa : Option Addr) (ma : List Nat) (ca : Nat) (w : World) (en : Ending) (w' : World) : Prop := ∃ (Ar0 : Option Addr) (cr0 : Nat), en = .returned (.agg #[.bool a, sv Ar0 ma cr0]) ∧ SRow w' .u32 Ar0 ma cr0 ∧ New w w'
theorem cown_c (a : Bool) (Aa : Option Addr) (ma : List Nat) (ca : Nat) (w : World) (hra : SRow w .u32 Aa ma ca) (hs : ma.length ≤ 1000000) : Calls Tryz.prog 72 #[.agg #[.bool a, sv Aa ma ca]] w (cown_c_P a Aa ma ca w) := by
 refine enter_abs Tryz.func72 rfl fun a0 ad aF hp => ?_
 have ad : a0.tmps.size = 9 := ad
 have af : New w w := Upd.refl _ _
 have hp0 : a0.eval (.tmp 0) = .agg #[.bool a, sv Aa ma ca] := hp 0 _ rfl
 refine wp_seq_k fun K1 aG => ?_
 refine wp_g [true, true] [] [] 9
   [IsNew w 26 [.bool a, sv Aa ma ca], IsNew w 26 [.bool false, sv none ([]) 0]]
   [0, 1] (newsCons (fun v w h => IsNew.old h) (newsCons (fun v w h => IsNew.old h) newsNil)) ad (.nw (.nw (.nil))) ?_ (fun i h => by cases h) ?_
 exact .o2 (step_allocN (cs := [.bool a, sv Aa ma ca]) (t := 26) rfl (noG rfl) (fun _ w hn k => v_box rfl (k.fx 0 hp0) (fun w => rfl)) (fun q _ hq hb => ⟨q, rfl, hq, hb⟩)) <| .o2 (step_allocN (cs := [.bool false, sv none ([]) 0]) (t := 26) rfl (noG rfl) (fun _ w hn k => rfl) (fun q _ hq hb => ⟨q, rfl, hq, hb⟩)) .nil
 refine aftI ad aF af fun a2 w3 an aH ac aP ag => ?_
 obtain ⟨q9, h8, aq, ah⟩ : IsNew _ _ _ _ _ := ag.got 0 1 rfl (by kernel_rfl)
 obtain ⟨aI, ao, ar, au⟩ : IsNew _ _ _ _ _ := ag.got 1 2 rfl (by kernel_rfl)
 have hne16 : q9 ≠ aI := ag.ne 0 1 1 2 h8 ao
 have aL := Nat.le_trans af.size aq
 have aM := Nat.le_trans af.size ar
 refine st_nil (aG _ _ (wp_seq_k fun aQ av => ?_))
 refine wp_g0 [true, true, true, true, true, true, false] [(6, false)] 9
   [ve (pv q9), ve (.bool a), ve (.pointer (some ⟨q9, 1, none⟩)), ve (sv Aa ma ca),
    (OP w3.heap.size 56 .u32 ma), (fun (v_ : Value) (W : World) => ∃ (A9 : Option Addr) (aa : Nat), v_ = .agg #[.bool a, sv A9 ma aa] ∧ SOwn W w3.heap.size 56 .u32 A9 ma aa), vt] an (.eq (.eq (.eq (.eq (.cons (fun _ _ _ n ⟨_, _, e, h⟩ => ⟨_, _, e, h.new_ n⟩) (.cons (fun v W W' hn ⟨A9, aa, he, h0⟩ => ⟨A9, aa, he, h0.new_ hn⟩) (.tt (.nil)))))))) ?_ ?_
 refine .f (fun k => k.fx 1 h8) <| .t (fun _ w hn k => ⟨_, v_load rfl (k.eq1 0 3 rfl) (l_one Tryz.isAgg4 ((ah.new_ hn).cell 0)), rfl⟩) <| .f (fun k => k.fx 1 h8) <| .t (fun _ w hn k => ⟨_, v_load rfl (k.eq1 2 5 rfl) (l_one Tryz.isAgg24 ((ah.new_ hn).cell 1)), rfl⟩) ?_
 refine .o1 (tkC rfl (noG rfl) rfl fun _ w hn k => (by
       refine ⟨#[sv Aa ma ca], _, args1 (k.eq1 3 6 rfl), fun w => by kernel_rfl, clone32_c _ ma _ _ (hra.new_ (ac.transNew hn)) (by first | omega | (simp only [List.length_nil, List.length_take, List.length_drop]; omega) | (simp only [List.length_cons, List.length_nil]; omega)), ?_⟩
       rintro e w' ⟨A1, c2, rfl, hmo0, hm⟩
       exact ⟨_, rfl, hm, ⟨A1, c2, rfl, (hmo0.more hn.size)⟩⟩)) ?_
 refine .o1 (tk rfl rfl fun _ w hn k => (by
       obtain ⟨A5, c6, e7, aJ⟩ : (OP w3.heap.size 56 .u32 ma) _ _ := k.dep 4 7 (by kernel_rfl) (by kernel_rfl)
       exact ⟨_, v_build (ps := [(0, .bool a), (1, sv A5 ma c6)]) rfl (parts2 (k.eq1 1 4 rfl) e7) (by kernel_rfl), ⟨A5, c6, rfl, aJ⟩⟩)) ?_
 exact .off .nil
 refine aftI an aH ac fun aK aR aN aw ax ay ai => ?_
 have ap := ai.fx 2 ao
 obtain ⟨ae, ab, aj, az⟩ : (fun (v_ : Value) (W : World) => ∃ (A9 : Option Addr) (aa : Nat), v_ = .agg #[.bool a, sv A9 ma aa] ∧ SOwn W w3.heap.size 56 .u32 A9 ma aa) _ _ := ai.got 5 8 rfl (by kernel_rfl)
 have aj : aK.eval (.tmp 8) = .agg #[.bool a, sv ae ma ab] := aj
 have ak := au.new_ ay
 have aA := az.more ac.size
 obtain ⟨aS, -, am, aB, al, aO⟩ := s_two (v0 := .bool a) (v1 := sv ae ma ab) Tryz.sizeOf26 rfl rfl rfl ak
 refine st_act rfl rfl fun aT aC => a_store' rfl ap aj am (aC _ _ trivial ?_)
 have aD := aA.far ak al (by decide)
 have aE := ax.trans al (fun _ h b => by subst b; omega)
 refine st_nil (av _ _ ?_)
 refine wp_ret (ret_k aw (v := .agg #[.bool a, sv ae ma ab]) (res_c rfl ap (l_two Tryz.isAgg26 Tryz.sizeOf26 aB)) ?_)
 exact ⟨ae, ab, rfl, aD.row, aE⟩
def cbig_c_P (a : Bool) (Aa : Option Addr) (ma : List Nat) (ca : Nat) (w : World) (en : Ending) (w' : World) : Prop := ∃ (Ar0 : Option Addr) (cr0 : Nat), en = .returned (vv (Vl.mk 4 0 0 a ma [] 0) Ar0 cr0 none 0) ∧ SRow w' .u32 Ar0 ma cr0 ∧ New w w'
theorem cbig_c (a : Bool) (Aa : Option Addr) (ma : List Nat) (ca : Nat) (w : World) (hra : SRow w .u32 Aa ma ca) : Calls Tryz.prog 42 #[.agg #[.bool a, sv Aa ma ca]] w (cbig_c_P a Aa ma ca w) := by
 refine enter_abs Tryz.func42 rfl fun a0 aa aA hp => ?_
 have aa : a0.tmps.size = 5 := aa
 have ab : New w w := Upd.refl _ _
 have hp0 : a0.eval (.tmp 0) = .agg #[.bool a, sv Aa ma ca] := hp 0 _ rfl
 refine wp_seq_k fun K1 aB => ?_
 refine wp_g [true, true] [] [] 5
   [IsNew w 26 [.bool a, sv Aa ma ca], IsNew w 29 [iv 0, iv 0, iv 0, .bool false, sv none ([]) 0, sv none ([]) 0, iv 0]]
   [0, 1] (newsCons (fun v w h => IsNew.old h) (newsCons (fun v w h => IsNew.old h) newsNil)) aa (.nw (.nw (.nil))) ?_ (fun i h => by cases h) ?_
 exact .o2 (step_allocN (cs := [.bool a, sv Aa ma ca]) (t := 26) rfl (noG rfl) (fun _ w hn k => v_box rfl (k.fx 0 hp0) (fun w => rfl)) (fun q _ hq hb => ⟨q, rfl, hq, hb⟩)) <| .o2 (step_allocN (cs := [iv 0, iv 0, iv 0, .bool false, sv none ([]) 0, sv none ([]) 0, iv 0]) (t := 29) rfl (noG rfl) (fun _ w hn k => rfl) (fun q _ hq hb => ⟨q, rfl, hq, hb⟩)) .nil
 refine aftI aa aA ab fun a2 w3 ah aC al aJ ac => ?_
 obtain ⟨q9, h8, am, an⟩ : IsNew _ _ _ _ _ := ac.got 0 1 rfl (by kernel_rfl)
 obtain ⟨ai, aj, ao, ap⟩ : IsNew _ _ _ _ _ := ac.got 1 2 rfl (by kernel_rfl)
 have hne16 : q9 ≠ ai := ac.ne 0 1 1 2 h8 aj
 have aF := Nat.le_trans ab.size am
 have aG := Nat.le_trans ab.size ao
 refine st_nil (aB _ _ (wp_seq_k fun aK aq => ?_))
 refine wp_g0 [true, true, false] [(2, false)] 5
   [ve (.agg #[.bool a, sv Aa ma ca]), ve (vv (Vl.mk 4 0 0 a ma [] 0) Aa ca none 0), vt] ah (.eq (.eq (.tt (.nil)))) ?_ ?_
 exact .t (fun _ w hn k => ⟨_, v_load rfl (k.fx 1 h8) (l_two Tryz.isAgg26 Tryz.sizeOf26 (an.new_ hn)), rfl⟩) <| .t (fun _ w hn k => ⟨_, v_build (ps := [(0, iv 4), (2, .agg #[.bool a, sv Aa ma ca])]) rfl (parts2 rfl (k.eq1 0 3 rfl)) (by kernel_rfl), rfl⟩) <| .off .nil
 refine aftI ah aC al fun aL aM aH ar au av ad => ?_
 have ak := ad.fx 2 aj
 have aD := ad.ge 1 4 rfl
 have aw := ap.new_ av
 obtain ⟨aE, af, ag, ax, aI⟩ := s_many (P := Tryz.prog) (t := 29) (i := 0) [iv 4, iv 0, iv 0, .bool a, sv Aa ma ca, sv none ([]) 0, iv 0] Tryz.sizeOf29 rfl rfl rfl aw lb
 have ay : Blk aE ai 29 [iv 4, iv 0, iv 0, .bool a, sv Aa ma ca, sv none ([]) 0, iv 0] := ag
 refine st_act rfl rfl fun aN az => a_store' rfl ak aD af (az _ _ trivial ?_)
 have ae := au.trans ax (fun _ h b => by subst b; omega)
 refine st_nil (aq _ _ ?_)
 refine wp_ret (ret_k ar (v := vv (Vl.mk 4 0 0 a ma [] 0) Aa ca none 0) (res_c rfl ak (l_agg Tryz.isAgg29 Tryz.sizeOf29 ay rfl)) ?_)
 exact ⟨Aa, ca, rfl, (hra.new_ ae), ae⟩
def cnumeric_c_P (v : Vl) (Av : Option Addr) (cv : Nat) (Bv : Option Addr) (dv : Nat) (w : World) (en : Ending) (w' : World) : Prop := ∃ (Ar0 : Option Addr) (cr0 : Nat) (Ar1 : Option Addr) (cr1 : Nat), en = .returned (.tuple #[vv (numericV v).1 Ar0 cr0 Ar1 cr1, iv ((numericV v).2)]) ∧ SRow w' .u32 Ar0 ((numericV v).1.mag) cr0 ∧ SRow w' .u16 Ar1 ((numericV v).1.s) cr1 ∧ New w w'
theorem cnumeric_c (v : Vl) (Av : Option Addr) (cv : Nat) (Bv : Option Addr) (dv : Nat) (w : World) (hmv : SRow w .u32 Av v.mag cv) (hsv : SRow w .u16 Bv v.s dv) (hvv : VOk v) : Calls Tryz.prog 29 #[vv v Av cv Bv dv] w (cnumeric_c_P v Av cv Bv dv w) := by
 refine enter_abs Tryz.func29 rfl fun a0 aK de hp => ?_
 have aK : a0.tmps.size = 26 := aK
 have aW : New w w := Upd.refl _ _
 have hp0 : a0.eval (.tmp 0) = vv v Av cv Bv dv := hp 0 _ rfl
 have hm := hvv.clean.mlen
 refine wp_seq_k fun K1 df => ?_
 refine wp_g [true, true, true] [] [] 26
   [IsNew w 29 [iv v.k, iv v.nk, iv v.nn, .bool v.neg, sv Av v.mag cv, sv Bv v.s dv, iv v.ref], IsNew w 29 [iv 0, iv 0, iv 0, .bool false, sv none ([]) 0, sv none ([]) 0, iv 0], ve (iv 0)]
   [0, 1] (newsCons (fun v w h => IsNew.old h) (newsCons (fun v w h => IsNew.old h) newsNil)) aK (.nw (.nw (.eq (.nil)))) ?_ (fun i h => by cases h) ?_
 exact .o2 (step_allocN (cs := [iv v.k, iv v.nk, iv v.nn, .bool v.neg, sv Av v.mag cv, sv Bv v.s dv, iv v.ref]) (t := 29) rfl (noG rfl) (fun _ w hn k => v_box rfl (k.fx 0 hp0) (fun w => rfl)) (fun q _ hq hb => ⟨q, rfl, hq, hb⟩)) <| .o2 (step_allocN (cs := [iv 0, iv 0, iv 0, .bool false, sv none ([]) 0, sv none ([]) 0, iv 0]) (t := 29) rfl (noG rfl) (fun _ w hn k => rfl) (fun q _ hq hb => ⟨q, rfl, hq, hb⟩)) <| .t (fun _ w hn k => ⟨_, v_assign rfl rfl, rfl⟩) .nil
 refine aftI aK de aW fun a2 w3 cf dg aD d1 aX => ?_
 obtain ⟨q9, h8, cn, aY⟩ : IsNew _ _ _ _ _ := aX.got 0 1 rfl (by kernel_rfl)
 obtain ⟨aB, ch, co, cp⟩ : IsNew _ _ _ _ _ := aX.got 1 2 rfl (by kernel_rfl)
 have hne16 : q9 ≠ aB := aX.ne 0 1 1 2 h8 ch
 have dF := Nat.le_trans aW.size cn
 have dG := Nat.le_trans aW.size co
 refine st_nil (df _ _ (wp_seq_k fun d2 cq => ?_))
 refine wp_g0 [true, true, false] [(2, false)] 26
   [ve (vv v Av cv Bv dv),
    (VP (cleanV v)), vt] cf (.eq (.cons (fun v W W' hn ⟨A5, c6, A7, c8, he, h0, h1⟩ => ⟨A5, c6, A7, c8, he, h0.new_ hn, h1.new_ hn⟩) (.tt (.nil)))) ?_ ?_
 refine .t (fun _ w hn k => ⟨_, v_load rfl (k.fx 1 h8) (l_agg Tryz.isAgg29 Tryz.sizeOf29 (aY.new_ hn) rfl), rfl⟩) ?_
 refine .o1 (tkC rfl (noG rfl) rfl fun _ w hn k => (by
       refine ⟨#[vv v Av cv Bv dv], _, args1 (k.eq1 0 6 rfl), fun w => by kernel_rfl, clean_c v _ _ _ _ _ (hmv.new_ (aD.transNew hn)) (hsv.new_ (aD.transNew hn)), ?_⟩
       rintro e w' ⟨A1, c2, A3, c4, rfl, hmo0, hmo1, hm⟩
       exact ⟨_, rfl, hm, ⟨A1, c2, A3, c4, rfl, hmo0, hmo1⟩⟩)) ?_
 exact .off .nil
 refine aftI cf dg aD fun dh d3 aZ cr ct a1 aE => ?_
 have a3 := aE.fx 1 h8
 have di := aE.fx 2 ch
 obtain ⟨ap, ah, aC, aq, a4, cu, cw⟩ : (VP (cleanV v)) _ _ := aE.got 1 7 rfl (by kernel_rfl)
 have a4 : dh.eval (.tmp 7) = vv (cleanV v) ap ah aC aq := a4
 have aF := aY.new_ a1
 have cx := cp.new_ a1
 obtain ⟨dj, bz, bA, aG, cy⟩ := s_many (P := Tryz.prog) (t := 29) (i := 0) [iv ((cleanV v).k), iv ((cleanV v).nk), iv ((cleanV v).nn), .bool ((cleanV v).neg), sv ap ((cleanV v).mag) ah, sv aC ((cleanV v).s) aq, iv ((cleanV v).ref)] Tryz.sizeOf29 rfl rfl rfl aF lb
 have a5 : Blk dj q9 29 [iv ((cleanV v).k), iv ((cleanV v).nk), iv ((cleanV v).nn), .bool ((cleanV v).neg), sv ap ((cleanV v).mag) ah, sv aC ((cleanV v).s) aq, iv ((cleanV v).ref)] := bA
 refine st_act rfl rfl fun d4 cz => a_store' rfl a3 a4 bz (cz _ _ trivial ?_)
 have cA := cu.far aF aG (by first | rfl | decide | simp [notK])
 have cB := cw.far aF aG (by first | rfl | decide | simp [notK])
 have cC := cy _ _ _ (fun h => hne16 h.symm) cx
 have cD := ct.trans aG (fun _ h b => by subst b; omega)
 refine st_nil (cq _ _ (wp_seq_k fun d5 cE => ?_))
 refine wp_seq_k fun d6 cF => ?_
 refine wp_g0 [true, true, true] [] 26
   [ve (pv q9), ve (iv ((cleanV v).k)), ve (.bool (decide (((cleanV v).k) = 4)))] aZ (.eq (.eq (.eq (.nil)))) ?_ ?_
 exact .f (fun k => k.fx 1 a3) <| .t (fun _ w hn k => ⟨_, v_load rfl (k.eq1 0 8 rfl) (l_one Tryz.isAgg3 ((a5.new_ hn).cell 0)), rfl⟩) <| .t (fun _ w hn k => ⟨_, v_bin rfl (k.eq1 1 9 rfl) rfl (fun _ => rfl) (r_eql rfl), rfl⟩) .nil
 refine aftI aZ cr cD fun d7 dk ay a6 aH az aI => ?_
 have ci := aI.fx 1 a3
 have cj := aI.fx 2 di
 have cl := aI.ge 2 10 rfl
 have a7 := a5.new_ az
 have aJ := cC.new_ az
 have a8 := cA.new_ az
 have cG := cB.new_ az
 refine st_nil (cF _ _ ?_)
 rcases bc (decide (((cleanV v).k) = 4)) with aa | aa
 have bB := oT aa
 have cH := hB cl aa
 refine wp_cond_true cH ?_
 refine wp_seq_k fun d8 cI => ?_
 refine wp_g0 [true, true, true, true, false, false] [(4, false), (5, true)] 26
   [ve (.pointer (some ⟨q9, 3, none⟩)), ve (.agg #[.bool ((cleanV v).neg), sv ap ((cleanV v).mag) ah]), (fun (v_ : Value) (W : World) => ∃ (ar : Option Addr) (au : Nat), v_ = .agg #[.bool ((cleanV v).neg), sv ar ((cleanV v).mag) au] ∧ SRow W .u32 ar ((cleanV v).mag) au), (fun (v_ : Value) (W : World) => ∃ (av : Option Addr) (aw : Nat), v_ = vv (Vl.mk 4 0 0 (cleanV v).neg (cleanV v).mag [] 0) av aw none 0 ∧ SRow W .u32 av ((cleanV v).mag) aw), vt, vt] ay (.eq (.eq (.cons (fun _ _ _ n ⟨_, _, e, h⟩ => ⟨_, _, e, h.new_ n⟩) (.cons (fun v W W' hn ⟨av, aw, he, h0⟩ => ⟨av, aw, he, h0.new_ hn⟩) (.tt (.tt (.nil))))))) ?_ ?_
 refine .f (fun k => k.fx 1 ci) <| .t (fun _ w hn k => ⟨_, v_load rfl (k.eq1 0 11 rfl) (l_part Tryz.isAgg26 Tryz.sizeOf26 (a7.new_ hn) lb), rfl⟩) ?_
 refine .o1 (tkC rfl (noG rfl) rfl fun _ w hn k => (by
       refine ⟨#[.agg #[.bool ((cleanV v).neg), sv ap ((cleanV v).mag) ah]], _, args1 (k.eq1 1 12 rfl), fun w => by kernel_rfl, cown_c ((cleanV v).neg) _ ((cleanV v).mag) _ _ (a8.new_ hn) (by first | omega | (simp only [List.length_nil, List.length_take, List.length_drop]; omega) | (simp only [List.length_cons, List.length_nil]; omega)), ?_⟩
       rintro e w' ⟨dl, dm, rfl, hmo0, hm⟩
       exact ⟨_, rfl, hm, ⟨dl, dm, rfl, hmo0⟩⟩)) ?_
 refine .o1 (tkC rfl (noG rfl) rfl fun _ w hn k => (by
       obtain ⟨dn, dp, dq, cJ⟩ : (fun (v_ : Value) (W : World) => ∃ (ar : Option Addr) (au : Nat), v_ = .agg #[.bool ((cleanV v).neg), sv ar ((cleanV v).mag) au] ∧ SRow W .u32 ar ((cleanV v).mag) au) _ _ := k.dep 2 13 (by kernel_rfl) (by kernel_rfl)
       refine ⟨#[.agg #[.bool ((cleanV v).neg), sv dn ((cleanV v).mag) dp]], _, args1 dq, fun w => by kernel_rfl, cbig_c ((cleanV v).neg) _ ((cleanV v).mag) _ _ cJ, ?_⟩
       rintro e w' ⟨dr, ds, rfl, hmo0, hm⟩
       exact ⟨_, rfl, hm, ⟨dr, ds, rfl, hmo0⟩⟩)) ?_
 exact .off <| .off .nil
 refine aftI ay a6 aH fun a9 d9 ba cK cL cM bb => ?_
 have cm := bb.fx 2 cj
 obtain ⟨ax, ai, aL, cN⟩ : (fun (v_ : Value) (W : World) => ∃ (av : Option Addr) (aw : Nat), v_ = vv (Vl.mk 4 0 0 (cleanV v).neg (cleanV v).mag [] 0) av aw none 0 ∧ SRow W .u32 av ((cleanV v).mag) aw) _ _ := bb.got 3 14 rfl (by kernel_rfl)
 have aL : a9.eval (.tmp 14) = vv (Vl.mk 4 0 0 (cleanV v).neg (cleanV v).mag [] 0) ax ai none 0 := aL
 have bd := aJ.new_ cM
 obtain ⟨dt, bC, bD, be, dH⟩ := s_many (P := Tryz.prog) (t := 29) (i := 0) [iv 4, iv 0, iv 0, .bool ((cleanV v).neg), sv ax ((cleanV v).mag) ai, sv none ([]) 0, iv 0] Tryz.sizeOf29 rfl rfl rfl bd lb
 have cO : Blk dt aB 29 [iv 4, iv 0, iv 0, .bool ((cleanV v).neg), sv ax ((cleanV v).mag) ai, sv none ([]) 0, iv 0] := bD
 refine st_act rfl rfl fun ea cP => a_store' rfl cm aL bC (cP _ _ trivial ?_)
 have cQ := cN.far bd be (by first | rfl | decide | simp [notK])
 have cR := cL.trans be (fun _ h b => by subst b; omega)
 refine st_take rfl rfl (y_assign (v := iv 0) rfl rfl) rfl ?_
 obtain ⟨du, aj⟩ : ∃ a', a' = a9.put (some 3) (iv 0) := ⟨_, rfl⟩
 have dI := pz aj ba
 have cS := pd aj cK
 have dw := pn aj cm (by decide)
 have eb := pn aj aL (by decide)
 have dx : du.eval (.tmp 3) = iv 0 := by rw [aj]; exact put_same _ _ _ (by rw [ba]; decide)
 show stepsTo _ _ _ _ _ (a9.put (some 3) (iv 0)) _
 rw [← aj]
 refine st_nil (cI _ _ ?_)
 refine wp_ret (ret_k cS (v := .tuple #[vv (Vl.mk 4 0 0 (cleanV v).neg (cleanV v).mag [] 0) ax ai none 0, iv 0]) (res_ct rfl dw dx (l_agg Tryz.isAgg29 Tryz.sizeOf29 cO rfl)) ?_)
 have ak : (numericV v).1.mag = ((cleanV v).mag) := by first | rfl | (simp only [numericV, Vl.z, aa, bsm] <;> rfl) | (exfalso; omega)
 have al : (numericV v).1.s = [] := by first | rfl | (simp only [numericV, Vl.z, aa, bsm] <;> rfl) | (exfalso; omega)
 exact ⟨ax, ai, none, 0, (by show Ending.returned (.tuple #[vv (Vl.mk 4 0 0 (cleanV v).neg (cleanV v).mag [] 0) ax ai none 0, iv 0]) = Ending.returned (.tuple #[vv (numericV v).1 ax ai none 0, iv ((numericV v).2)]); (first | rfl | (simp only [numericV, Vl.z, aa, ak, al, bsm] <;> rfl) | (exfalso; omega))), (by rw [ak]; exact cQ), (by rw [al]; exact (SRow.nil _ _)), cR⟩
 have bB := oF aa
 have cT := hB cl aa
 refine wp_cond_false cT ?_
 refine wp_skip ?_
 refine cE _ _ ?_
 refine wp_seq_k fun ec cU => ?_
 refine wp_g [true, true, true, true, true, true, false, false] [4] [(6, false), (7, true)] 26
   [ve (vv (cleanV v) ap ah aC aq), ve (.tuple #[nv ((numberV (cleanV v)).1), iv ((numberV (cleanV v)).2)]), ve (.tuple #[nv ((numberV (cleanV v)).1), iv ((numberV (cleanV v)).2)]), ve (nv ((numberV (cleanV v)).1)), ve (iv ((numberV (cleanV v)).2)), IsNew dk 23 [iv 0, iv 0], vt, vt]
   [5] (newsCons (fun v w h => IsNew.old h) newsNil) ay (.eq (.eq (.eq (.eq (.eq (.nw (.tt (.tt (.nil))))))))) ?_ ?_ ?_
 refine .t (fun _ w hn k => ⟨_, v_load rfl (k.fx 1 ci) (l_agg Tryz.isAgg29 Tryz.sizeOf29 (a7.new_ hn) rfl), rfl⟩) <| .o1 (ck rfl rfl rfl (fun _ w hn k => ⟨#[vv (cleanV v) ap ah aC aq], args1 (k.eq1 0 16 rfl), fun _ => by kernel_rfl, cnumber_c (cleanV v) _ _ _ _ _ (a8.new_ hn) (cG.new_ hn) hvv.clean⟩) fun _ => rfl) <| .m (fun k => k.eq1 1 17 rfl) <| .t (fun _ w hn k => ⟨_, v_extract rfl (k.eq1 2 15 rfl) rfl, rfl⟩) ?_
 refine .o3 ?_
 exact .o2 (step_allocN (cs := [iv 0, iv 0]) (t := 23) rfl (noG rfl) (fun _ w hn k => rfl) (fun q _ hq hb => ⟨q, rfl, hq, hb⟩)) <| .off <| .off .nil
 intro i h
 simp only [List.contains_eq_mem, List.mem_cons, List.not_mem_nil, or_false, decide_eq_true_eq] at h
 subst h
 exact eager_take rfl rfl fun _ w hn k => ⟨iv ((numberV (cleanV v)).2), fun w => v_extract rfl (k.eq1 2 15 rfl) rfl, rfl⟩
 refine aftI ay a6 aH fun bf dJ aM bE bF bG am => ?_
 have cV := am.fx 2 cj
 have bg := am.ge 3 18 rfl
 have bh := am.ge 4 19 rfl
 obtain ⟨cW, bi, aN, bH⟩ : IsNew _ _ _ _ _ := am.got 5 4 rfl (by kernel_rfl)
 have bI := aJ.new_ bG
 have hne114 : aB ≠ cW := by have h1 := aJ.lt; have h2 := aN; omega
 have dA := Nat.le_trans aH.size aN
 obtain ⟨dK, -, bj, bJ, bK, bL⟩ := s_two (v0 := iv ((numberV (cleanV v)).1.k)) (v1 := iv ((numberV (cleanV v)).1.n)) Tryz.sizeOf23 rfl rfl rfl bH
 refine st_act rfl rfl fun dL bM => a_store' rfl bi bg bj (bM _ _ trivial ?_)
 have bN := bL _ _ _ (hne114) bI
 have bO := bF.trans bK (fun _ h b => by subst b; omega)
 refine st_take rfl rfl (y_assign (v := iv ((numberV (cleanV v)).2)) rfl bh) rfl ?_
 obtain ⟨cX, ac⟩ : ∃ a', a' = bf.put (some 5) (iv ((numberV (cleanV v)).2)) := ⟨_, rfl⟩
 have aO := pz ac aM
 have bP := pd ac bE
 have cY := pn ac cV (by decide)
 have dM := pn ac bg (by decide)
 have dN := pn ac bh (by decide)
 have cZ := pn ac bi (by decide)
 have bk : cX.eval (.tmp 5) = iv ((numberV (cleanV v)).2) := by rw [ac]; exact put_same _ _ _ (by rw [aM]; decide)
 show stepsTo _ _ _ _ _ (bf.put (some 5) (iv ((numberV (cleanV v)).2))) _
 rw [← ac]
 refine st_nil (cU _ _ (wp_seq_k fun dO bQ => ?_))
 refine wp_seq_k fun dP bR => ?_
 refine wp_g0 [true, true] [] 26
   [ve (iv ((numberV (cleanV v)).2)), ve (.bool (!decide (((numberV (cleanV v)).2) = 0)))] aO (.eq (.eq (.nil))) ?_ ?_
 exact .m (fun k => k.fx 5 bk) <| .t (fun _ w hn k => ⟨_, v_bin rfl (k.eq1 0 20 rfl) rfl (fun _ => rfl) (r_neq rfl), rfl⟩) .nil
 refine aftI aO bP bO fun dQ dR an aP aQ aR ao => ?_
 have bl := ao.fx 2 cY
 have c0 := ao.fx 4 cZ
 have c1 := ao.fx 5 bk
 have bm := ao.ge 1 21 rfl
 have aS := bN.new_ aR
 have bS := bJ.new_ aR
 refine st_nil (bR _ _ ?_)
 rcases bc ((!decide (((numberV (cleanV v)).2) = 0))) with ab | ab
 have bT := hB bm ab
 have ad : (decide (((numberV (cleanV v)).2) = 0)) = false := nF ab
 have dy := oF ad
 refine wp_cond_true bT ?_
 refine wp_seq_k fun dS bU => ?_
 refine wp_g [true, true, false, false] [1] [(2, false), (3, true)] 26
   [ve (vv (Vl.mk 0 0 0 false [] [] 0) none 0 none 0), ve (iv ((numberV (cleanV v)).2)), vt, vt]
   [] newsNil an (.eq (.eq (.tt (.tt (.nil))))) ?_ ?_ ?_
 refine .t (fun _ w hn k => ⟨_, v_build (ps := []) rfl parts0 (by kernel_rfl), rfl⟩) ?_
 refine .o3 ?_
 exact .off <| .off .nil
 intro i h
 simp only [List.contains_eq_mem, List.mem_cons, List.not_mem_nil, or_false, decide_eq_true_eq] at h
 subst h
 exact eager_take rfl rfl fun _ w hn k => ⟨iv ((numberV (cleanV v)).2), fun w => v_move rfl (k.fx 5 c1), rfl⟩
 refine aftI an aP aQ fun bn dT aT bV bW bX aA => ?_
 have bo := aA.fx 2 bl
 have bp := aA.ge 0 22 rfl
 have bq := aA.ge 1 23 rfl
 have bY := aS.new_ bX
 obtain ⟨c3, br, bs, bZ, dB⟩ := s_many (P := Tryz.prog) (t := 29) (i := 0) [iv 0, iv 0, iv 0, .bool false, sv none ([]) 0, sv none ([]) 0, iv 0] Tryz.sizeOf29 rfl rfl rfl bY lb
 have b0 : Blk c3 aB 29 [iv 0, iv 0, iv 0, .bool false, sv none ([]) 0, sv none ([]) 0, iv 0] := bs
 refine st_act rfl rfl fun dU b1 => a_store' rfl bo bp br (b1 _ _ trivial ?_)
 have b2 := bW.trans bZ (fun _ h b => by subst b; omega)
 refine st_take rfl rfl (y_assign (v := iv ((numberV (cleanV v)).2)) rfl bq) rfl ?_
 obtain ⟨c5, ae⟩ : ∃ a', a' = bn.put (some 3) (iv ((numberV (cleanV v)).2)) := ⟨_, rfl⟩
 have dC := pz ae aT
 have b3 := pd ae bV
 have c7 := pn ae bo (by decide)
 have dV := pn ae bp (by decide)
 have dW := pn ae bq (by decide)
 have c9 : c5.eval (.tmp 3) = iv ((numberV (cleanV v)).2) := by rw [ae]; exact put_same _ _ _ (by rw [aT]; decide)
 show stepsTo _ _ _ _ _ (bn.put (some 3) (iv ((numberV (cleanV v)).2))) _
 rw [← ae]
 refine st_nil (bU _ _ ?_)
 refine wp_ret (ret_k b3 (v := .tuple #[vv (Vl.mk 0 0 0 false [] [] 0) none 0 none 0, iv ((numberV (cleanV v)).2)]) (res_ct rfl c7 c9 (l_agg Tryz.isAgg29 Tryz.sizeOf29 b0 rfl)) ?_)
 have ak : (numericV v).1.mag = [] := by first | rfl | (simp only [numericV, Vl.z, aa, ab, ad, ad, bsm] <;> rfl) | (exfalso; omega)
 have al : (numericV v).1.s = [] := by first | rfl | (simp only [numericV, Vl.z, aa, ab, ad, ad, bsm] <;> rfl) | (exfalso; omega)
 exact ⟨none, 0, none, 0, (by show Ending.returned (.tuple #[vv (Vl.mk 0 0 0 false [] [] 0) none 0 none 0, iv ((numberV (cleanV v)).2)]) = Ending.returned (.tuple #[vv (numericV v).1 none 0 none 0, iv ((numericV v).2)]); (first | rfl | (simp only [numericV, Vl.z, aa, ab, ad, ad, ak, al, bsm] <;> rfl) | (exfalso; omega))), (by rw [ak]; exact (SRow.nil _ _)), (by rw [al]; exact (SRow.nil _ _)), b2⟩
 have b4 := hB bm ab
 have af : (decide (((numberV (cleanV v)).2) = 0)) = true := nT ab
 have dz := oT af
 refine wp_cond_false b4 ?_
 refine wp_skip ?_
 refine bQ _ _ ?_
 refine wp_seq_k fun dX b5 => ?_
 refine wp_g0 [true, true, false, false] [(2, false), (3, true)] 26
   [ve (nv ((numberV (cleanV v)).1)), ve (vv (Vl.mk 3 ((numberV (cleanV v)).1).k ((numberV (cleanV v)).1).n false [] [] 0) none 0 none 0), vt, vt] an (.eq (.eq (.tt (.tt (.nil))))) ?_ ?_
 exact .t (fun _ w hn k => ⟨_, v_load rfl (k.fx 4 c0) (l_two Tryz.isAgg23 Tryz.sizeOf23 (bS.new_ hn)), rfl⟩) <| .o1 (ck rfl rfl rfl (fun _ w hn k => ⟨#[nv ((numberV (cleanV v)).1)], args1 (k.eq1 0 24 rfl), fun _ => by kernel_rfl, cnum_c ((numberV (cleanV v)).1) _ ⟩) fun _ => rfl) <| .off <| .off .nil
 refine aftI an aP aQ fun bt dY aU b6 b7 b8 aV => ?_
 have bu := aV.fx 2 bl
 have bv := aV.ge 1 25 rfl
 have b9 := aS.new_ b8
 obtain ⟨da, bw, bx, ca, dD⟩ := s_many (P := Tryz.prog) (t := 29) (i := 0) [iv 3, iv (((numberV (cleanV v)).1).k), iv (((numberV (cleanV v)).1).n), .bool false, sv none ([]) 0, sv none ([]) 0, iv 0] Tryz.sizeOf29 rfl rfl rfl b9 lb
 have cb : Blk da aB 29 [iv 3, iv (((numberV (cleanV v)).1).k), iv (((numberV (cleanV v)).1).n), .bool false, sv none ([]) 0, sv none ([]) 0, iv 0] := bx
 refine st_act rfl rfl fun dZ cc => a_store' rfl bu bv bw (cc _ _ trivial ?_)
 have cd := b7.trans ca (fun _ h b => by subst b; omega)
 refine st_take rfl rfl (y_assign (v := iv 0) rfl rfl) rfl ?_
 obtain ⟨db, ag⟩ : ∃ a', a' = bt.put (some 3) (iv 0) := ⟨_, rfl⟩
 have dE := pz ag aU
 have ce := pd ag b6
 have dc := pn ag bu (by decide)
 have d0 := pn ag bv (by decide)
 have dd : db.eval (.tmp 3) = iv 0 := by rw [ag]; exact put_same _ _ _ (by rw [aU]; decide)
 show stepsTo _ _ _ _ _ (bt.put (some 3) (iv 0)) _
 rw [← ag]
 refine st_nil (b5 _ _ ?_)
 refine wp_ret (ret_k ce (v := .tuple #[vv (Vl.mk 3 ((numberV (cleanV v)).1).k ((numberV (cleanV v)).1).n false [] [] 0) none 0 none 0, iv 0]) (res_ct rfl dc dd (l_agg Tryz.isAgg29 Tryz.sizeOf29 cb rfl)) ?_)
 have ak : (numericV v).1.mag = [] := by first | rfl | (simp only [numericV, Vl.z, aa, ab, af, af, bsm] <;> rfl) | (exfalso; omega)
 have al : (numericV v).1.s = [] := by first | rfl | (simp only [numericV, Vl.z, aa, ab, af, af, bsm] <;> rfl) | (exfalso; omega)
 exact ⟨none, 0, none, 0, (by show Ending.returned (.tuple #[vv (Vl.mk 3 ((numberV (cleanV v)).1).k ((numberV (cleanV v)).1).n false [] [] 0) none 0 none 0, iv 0]) = Ending.returned (.tuple #[vv (numericV v).1 none 0 none 0, iv ((numericV v).2)]); (first | rfl | (simp only [numericV, Vl.z, aa, ab, af, af, ak, al, bsm] <;> rfl) | (exfalso; omega))), (by rw [ak]; exact (SRow.nil _ _)), (by rw [al]; exact (SRow.nil _ _)), cd⟩
def ItoaOk (w0 : World) : Prop := ∀ n : Int, -9223372036854775808 ≤ n → n ≤ 9223372036854775807 → ∀ w', New w0 w' → Calls Tryz.prog 179 #[.int .i64 n] w' (IsRet (.string (itoaS n)) w')
theorem ItoaOk.up {w0 w : World} (h : ItoaOk w0) (hn : New w0 w) : ItoaOk w := fun n h1 h2 w' h3 => h n h1 h2 w' (hn.transNew h3)
theorem ntext_c (a : Nm) (w : World) (HT : ItoaOk w) : Calls Tryz.prog 140 #[nv a] w (IsRet (.string (textM a)) w) := by
 refine enter_abs Tryz.func140 rfl fun a0 aj bC hp => ?_
 have aj : a0.tmps.size = 16 := aj
 have aP : New w w := Upd.refl _ _
 have hp0 : a0.eval (.tmp 0) = nv a := hp 0 _ rfl
 refine wp_seq_k fun K1 bD => ?_
 refine wp_g [true, true] [] [] 16
   [IsNew w 23 [iv a.k, iv a.n], ve (.string ⟨#[]⟩)]
   [0] (newsCons (fun v w h => IsNew.old h) newsNil) aj (.nw (.eq (.nil))) ?_ (fun i h => by cases h) ?_
 exact .o2 (step_allocN (cs := [iv a.k, iv a.n]) (t := 23) rfl (noG rfl) (fun _ w hn k => v_box rfl (k.fx 0 hp0) (fun w => rfl)) (fun q _ hq hb => ⟨q, rfl, hq, hb⟩)) <| .t (fun _ w hn k => ⟨_, v_assign rfl rfl, rfl⟩) .nil
 refine aftI aj bC aP fun a2 w3 aQ bE aV b3 bF => ?_
 obtain ⟨q9, h8, aW, ak⟩ : IsNew _ _ _ _ _ := bF.got 0 1 rfl (by kernel_rfl)
 have bR := Nat.le_trans aP.size aW
 refine st_nil (bD _ _ (wp_seq_k fun b4 aX => ?_))
 refine wp_seq_k fun b5 aY => ?_
 refine wp_g0 [true, true, false] [(2, false)] 16
   [ve (nv a), ve (nv (asM a)), vt] aQ (.eq (.eq (.tt (.nil)))) ?_ ?_
 exact .t (fun _ w hn k => ⟨_, v_load rfl (k.fx 1 h8) (l_two Tryz.isAgg23 Tryz.sizeOf23 (ak.new_ hn)), rfl⟩) <| .o1 (ck rfl rfl rfl (fun _ w hn k => ⟨#[nv a], args1 (k.eq1 0 3 rfl), fun _ => by kernel_rfl, as_c a _ ⟩) fun _ => rfl) <| .off .nil
 refine aftI aQ bE aV fun b6 b7 al aZ a1 a3 am => ?_
 have an := am.fx 1 h8
 have bG := am.ge 1 4 rfl
 have a4 := ak.new_ a3
 have hbd_a := as_bd a
 obtain ⟨b8, -, aB, ao, a5, bS⟩ := s_two (v0 := iv ((asM a).k)) (v1 := iv ((asM a).n)) Tryz.sizeOf23 rfl rfl rfl a4
 refine st_act rfl rfl fun b9 a6 => a_store' rfl an bG aB (a6 _ _ trivial ?_)
 have a7 := a1.trans a5 (fun _ h b => by subst b; omega)
 refine st_nil (aY _ _ (wp_seq_k fun ca a8 => ?_))
 refine wp_g0 [true, true] [] 16
   [ve (pv q9), ve (iv ((asM a).k))] al (.eq (.eq (.nil))) ?_ ?_
 exact .f (fun k => k.fx 1 an) <| .t (fun _ w hn k => ⟨_, v_load rfl (k.eq1 0 5 rfl) (l_one Tryz.isAgg3 ((ao.new_ hn).cell 0)), rfl⟩) .nil
 refine aftI al aZ a7 fun cb cc ap a9 ba bb aq => ?_
 have bH := aq.fx 1 an
 have aR := aq.ge 1 6 rfl
 have bd := ao.new_ bb
 refine st_nil (a8 _ _ ?_)
 refine wp_block ?_
 refine wp_seq_k fun cd be => ?_
 refine wp_g0 [true, true] [] 16
   [ve (.bool (decide (((asM a).k) = 2))), ve (.bool (decide (((asM a).k) = 2)))] ap (.eq (.eq (.nil))) ?_ ?_
 exact .t (fun _ w hn k => ⟨_, v_bin rfl (k.fx 6 aR) rfl (fun _ => rfl) (r_eql rfl), rfl⟩) <| .a (fun k => k.eq1 0 8 rfl) .nil
 refine aftI ap a9 ba fun ce cf ad ar au bf ah => ?_
 have bI := ah.fx 1 bH
 have aS := ah.fx 6 aR
 have aT := ah.ge 1 7 rfl
 have bg := bd.new_ bf
 refine st_nil (be _ _ ?_)
 rcases bc (decide (((asM a).k) = 2)) with aa | aa
 have aC := oT aa
 have bh := hB aT aa
 refine wp_cond_true bh ?_
 refine wp_seq_k fun ch bi => ?_
 refine wp_g0 [true] [] 16
   [ve (.string ⟨#[78, 97, 78]⟩)] ad (.eq (.nil)) ?_ ?_
 exact .t (fun _ w hn k => ⟨_, v_assign rfl rfl, rfl⟩) .nil
 refine aftI ad ar au fun ci cj bT bj bk bU bl => ?_
 have bJ := bl.ge 0 2 rfl
 refine st_nil (bi _ _ ?_)
 refine wp_ret (ret_k bj (v := .string ⟨#[78, 97, 78]⟩) (res_t rfl bJ _) ?_)
 refine ⟨?_, bk⟩
 show Ending.returned (.string ⟨#[78, 97, 78]⟩) = Ending.returned (.string (textM a))
 first | rfl | (simp only [textM, aa, bsm] <;> rfl) | (exfalso; omega)
 have aC := oF aa
 have bm := hB aT aa
 refine wp_cond_false bm ?_
 refine wp_seq_k fun cl bn => ?_
 refine wp_g0 [true, true] [] 16
   [ve (.bool (decide (((asM a).k) = 3))), ve (.bool (decide (((asM a).k) = 3)))] ad (.eq (.eq (.nil))) ?_ ?_
 exact .t (fun _ w hn k => ⟨_, v_bin rfl (k.fx 6 aS) rfl (fun _ => rfl) (r_eql rfl), rfl⟩) <| .a (fun k => k.eq1 0 10 rfl) .nil
 refine aftI ad ar au fun cm cn ae av aw bo ai => ?_
 have bK := ai.fx 1 bI
 have bL := ai.fx 6 aS
 have aU := ai.ge 1 9 rfl
 have bp := bg.new_ bo
 refine st_nil (bn _ _ ?_)
 rcases bc (decide (((asM a).k) = 3)) with ac | ac
 have aD := oT ac
 have bq := hB aU ac
 refine wp_cond_true bq ?_
 refine wp_seq_k fun co br => ?_
 refine wp_g0 [true] [] 16
   [ve (.string ⟨#[73, 110, 102, 105, 110, 105, 116, 121]⟩)] ae (.eq (.nil)) ?_ ?_
 exact .t (fun _ w hn k => ⟨_, v_assign rfl rfl, rfl⟩) .nil
 refine aftI ae av aw fun cp cq bV bs bt bW bu => ?_
 have bM := bu.ge 0 2 rfl
 refine st_nil (br _ _ ?_)
 refine wp_ret (ret_k bs (v := .string ⟨#[73, 110, 102, 105, 110, 105, 116, 121]⟩) (res_t rfl bM _) ?_)
 refine ⟨?_, bt⟩
 show Ending.returned (.string ⟨#[73, 110, 102, 105, 110, 105, 116, 121]⟩) = Ending.returned (.string (textM a))
 first | rfl | (simp only [textM, aa, ac, bsm] <;> rfl) | (exfalso; omega)
 have aD := oF ac
 have bv := hB aU ac
 refine wp_cond_false bv ?_
 refine wp_seq_k fun cr bw => ?_
 refine wp_g0 [true, true] [] 16
   [ve (.bool (decide (((asM a).k) = 4))), ve (.bool (decide (((asM a).k) = 4)))] ae (.eq (.eq (.nil))) ?_ ?_
 exact .t (fun _ w hn k => ⟨_, v_bin rfl (k.fx 6 bL) rfl (fun _ => rfl) (r_eql rfl), rfl⟩) <| .a (fun k => k.eq1 0 12 rfl) .nil
 refine aftI ae av aw fun ct cu af ax ag bx ay => ?_
 have bz := ay.fx 1 bK
 have az := ay.ge 1 11 rfl
 have aE := bp.new_ bx
 refine st_nil (bw _ _ ?_)
 rcases bc (decide (((asM a).k) = 4)) with ab | ab
 have aA := oT ab
 have aF := hB az ab
 refine wp_cond_true aF ?_
 refine wp_seq_k fun bX aG => ?_
 refine wp_g0 [true] [] 16
   [ve (.string ⟨#[45, 73, 110, 102, 105, 110, 105, 116, 121]⟩)] af (.eq (.nil)) ?_ ?_
 exact .t (fun _ w hn k => ⟨_, v_assign rfl rfl, rfl⟩) .nil
 refine aftI af ax ag fun bY bZ bN aH aI bO aJ => ?_
 have bA := aJ.ge 0 2 rfl
 refine st_nil (aG _ _ ?_)
 refine wp_ret (ret_k aH (v := .string ⟨#[45, 73, 110, 102, 105, 110, 105, 116, 121]⟩) (res_t rfl bA _) ?_)
 refine ⟨?_, aI⟩
 show Ending.returned (.string ⟨#[45, 73, 110, 102, 105, 110, 105, 116, 121]⟩) = Ending.returned (.string (textM a))
 first | rfl | (simp only [textM, aa, ac, ab, bsm] <;> rfl) | (exfalso; omega)
 have aA := oF ab
 have aK := hB az ab
 refine wp_cond_false aK ?_
 refine wp_skip ?_
 refine aX _ _ ?_
 refine wp_seq_k fun b0 aL => ?_
 refine wp_g0 [true, true, true, true] [] 16
   [ve (.pointer (some ⟨q9, 1, none⟩)), ve (iv ((asM a).n)), ve (.string (itoaS ((asM a).n))), ve (.string (itoaS ((asM a).n)))] af (.eq (.eq (.eq (.eq (.nil))))) ?_ ?_
 exact .f (fun k => k.fx 1 bz) <| .t (fun _ w hn k => ⟨_, v_load rfl (k.eq1 0 13 rfl) (l_one Tryz.isAgg3 ((aE.new_ hn).cell 1)), rfl⟩) <| .o1 (ck rfl rfl rfl (fun _ w hn k => ⟨#[iv ((asM a).n)], args1 (k.eq1 1 14 rfl), fun _ => by kernel_rfl, HT ((asM a).n) (by omega) (by omega) _ (ag.transNew hn)⟩) fun _ => rfl) <| .a (fun k => k.eq1 2 15 rfl) .nil
 refine aftI af ax ag fun b1 b2 bP aM aN bQ aO => ?_
 have bB := aO.ge 3 2 rfl
 refine st_nil (aL _ _ ?_)
 refine wp_ret (ret_k aM (v := .string (itoaS ((asM a).n))) (res_t rfl bB _) ?_)
 refine ⟨?_, aN⟩
 show Ending.returned (.string (itoaS ((asM a).n))) = Ending.returned (.string (textM a))
 first | rfl | (simp only [textM, aa, ac, ab, bsm] <;> rfl) | (exfalso; omega)
def encW (m : List Nat) : List Value := m.map fun x : Nat => .int .u32 (x : Int)
theorem encW_one (m : List Nat) : ∀ u ∈ encW m, u.oneCell' = true := by
  intro u hu
  obtain ⟨x, _, rfl⟩ := List.mem_map.1 hu
  rfl
theorem encW_take (a : List Nat) (k : Nat) : encW (a.take k) = (encW a).take k := by simp [encW]
theorem encW_set (a : List Nat) (k x : Nat) : encW (a.set k x) = (encW a).set k (.int .u32 (x : Int)) := by simp [encW]
theorem encW_get (a : List Nat) (k : Nat) (h : k < a.length) : (encW a)[k]? = some (.int .u32 ((a.getD k 0 : Nat) : Int)) := by simp [encW, List.getD, h]
theorem rowW {w : World} {A : Option Addr} {n c : Nat} {m : List Nat} (h : RowAt w 1 (.slice A n c) n (encW m)) {k : Nat} (hk : k < n) :
    ∃ b off, A = some ⟨b, off, none⟩ ∧ n ≤ c ∧ c ≤ maxLen ∧ b < w.heap.size ∧ w.cell? ⟨b, off + k, none⟩ = some (.int .u32 ((m.getD k 0 : Nat) : Int)) := by
  rcases h.2 with ⟨h0, _⟩ | ⟨b, off, c', hv, hc, hm, hb, hx⟩
  · omega
  · injection hv with hA _ hc'
    subst hA hc'
    have hl : m.length = n := by simpa [encW] using h.1
    exact ⟨b, off, rfl, hc, hm, hb, hx k _ (encW_get m k (by omega))⟩
theorem row_max {w : World} {size n : Nat} {v : Value} {xs : List Value} (h : RowAt w size v n xs) : (n : Int) ≤ 9223372036854775807 := by
  rcases h.2 with ⟨h0, _⟩ | ⟨_, _, c', _, hc, hm, _⟩
  · omega
  · unfold maxLen at hm; omega
/-- A shorter piece of a row reads as the piece. -/
theorem RowAt.cut {w : World} {A : Option Addr} {n c : Nat} {m : List Nat} (h : RowAt w 1 (.slice A n c) n (encW m)) {k : Nat} (hk : k ≤ n) : RowAt w 1 (.slice A k c) k (encW (m.take k)) := by
  have hl : m.length = n := by simpa [encW] using h.1
  refine ⟨by simp [encW]; omega, ?_⟩
  rcases h.2 with ⟨rfl, _⟩ | ⟨b, off, c', hv, hc, hm, hb, hx⟩
  · exact .inl ⟨by omega, A, c, by rw [show k = 0 by omega]⟩
  · injection hv with hA _ hc'
    subst hA hc'
    refine .inr ⟨b, off, c, rfl, by omega, hm, hb, fun j u hj => hx j u ?_⟩
    simp only [encW, List.map_take, List.getElem?_take] at hj ⊢
    split at hj
    · exact hj
    · cases hj
set_option maxHeartbeats 400000 in
theorem cloneW (v : Value) (n : Nat) (xs : List Value) (w : World) (hr : RowAt w 1 v n xs) (h1 : ∀ u ∈ xs, u.oneCell' = true) (hb : n * 4 ≤ 140737488355328) :
    Calls Tryz.prog 139 #[v] w fun e w' => ∃ v', e = .returned v' ∧ Own w' w.heap.size 56 1 v' n xs ∧ New w w' := by
  have hm : n ≤ maxLen := by unfold maxLen; omega
  obtain ⟨A, c, rfl⟩ := hr.form
  cases A with
  | none =>
    obtain ⟨rfl, rfl⟩ : n = 0 ∧ xs = [] := by
      rcases hr.2 with ⟨h0, _⟩ | ⟨b, off, c', hv, _⟩
      · exact ⟨h0, List.eq_nil_of_length_eq_zero (by rw [hr.1, h0])⟩
      · cases hv
    have hE : ∀ W : World, (binOp .eql 24 (.slice none 0 c) (.slice none 0 0)).run Tryz.prog W = .ok (.bool true) W := fun W => Lib.run_eql_slice_nil W _ _ _ _ _ _ _ Tryz.underlying24
    go_enter Tryz.func139, Tryz.ntmps139
    go_wp2
    go_ret
    exact ⟨_, rfl, Own.nil_ _ _ _ _, Upd.refl _ _⟩
  | some a =>
    have hE : ∀ W : World, (binOp .eql 24 (.slice (some a) n c) (.slice none 0 0)).run Tryz.prog W = .ok (.bool false) W := fun W => Lib.run_eql_slice_nil W _ _ _ _ _ _ _ Tryz.underlying24
    have hr1 : RowAt (w.alloc (.cells #[] 56)) 1 (.slice (some a) n c) n xs := hr.new_ ((Upd.refl _ _).alloc _)
    have ho : Own (w.alloc (.cells #[] 56)) w.heap.size 56 1 (.slice (some ⟨w.heap.size, 0, none⟩) 0 0) 0 [] := .inr ⟨rfl, rfl, _, rfl⟩
    go_enter Tryz.func139, Tryz.ntmps139
    go_wp2_with (at_builtin; refine wpList_append_row _ rfl (.tmp 5) (.tmp 6) elW rfl w.heap.size (.slice (some ⟨w.heap.size, 0, none⟩) 0 0) 0 [] rfl ho _ n xs rfl hr1 h1 (by rw [Nat.zero_add]; exact hb) (by rw [Nat.zero_add]; exact hm) (by simp) ?_; intro v' w' hown hg hat)
    go_ret
    refine ⟨v', rfl, by simpa using hown, (((Upd.refl _ _).alloc _).grown hg (fun k hk => by simp [ownB] at hk))⟩
def IsMay (b : Bool) (m : List Nat) (w : World) (e : Ending) (w' : World) : Prop := e = .returned (.bool (mayB b m)) ∧ New w w'
theorem may_any (b : Bool) (v : Value) (m : List Nat) (w : World) (hr : RowAt w 1 v m.length (encW m)) :
    Calls Tryz.prog 48 #[.agg #[.bool b, v]] w (IsMay b m w) := by
  obtain ⟨A, c, rfl⟩ := hr.form
  have hmax := row_max hr
  by_cases h8 : m.length ≤ 8
  · rcases Nat.eq_zero_or_pos m.length with h0 | h0
    · have hb : mayB b m = !b := by simp [mayB, h0]
      rw [h0] at hr ⊢
      have Hb := hide hb
      clear hb hr hmax h0 h8
      cases b
      all_goals
        go_enter Tryz.func48, Tryz.ntmps48
        go_wp2
        go_ret
        exact ⟨by rw [Hb.out]; rfl, (Upd.refl _ _).alloc _⟩
    · obtain ⟨b1, off, rfl, hc, hm, hb1, hcell⟩ := rowW hr (k := m.length - 1) (by omega)
      have hb : mayB b m = decide (m.getD (m.length - 1) 0 ≠ 0) := by
        have : m.length ≠ 0 := by omega
        simp [mayB, h8, h0, this]
      obtain ⟨x, hx⟩ : ∃ x, x = m.getD (m.length - 1) 0 := ⟨_, rfl⟩
      rw [← hx] at hcell hb
      have hcell1 : (w.alloc (.cells #[.bool b, .slice (some ⟨b1, off, none⟩) m.length c] 26)).cell? ⟨b1, off + (m.length - 1), none⟩ = some (.int .u32 (x : Int)) := (((Upd.refl (fun _ => False) w).alloc _).cellN (p := ⟨b1, off + (m.length - 1), none⟩) hb1).trans hcell
      obtain ⟨n, hn⟩ : ∃ n, n = m.length := ⟨_, rfl⟩
      rw [← hn] at hcell1 hc h8 h0 hmax ⊢
      have hz : ((n : Int) == 0) = false := by simp; omega
      have Hb := hide hb
      clear hb hr hx hcell hn hm
      go_enter Tryz.func48, Tryz.ntmps48
      go_wp2
      go_ret
      refine ⟨?_, (Upd.refl _ _).alloc _⟩
      rw [Hb.out]
      by_cases h : x = 0 <;> simp [h]
  · have hb : mayB b m = false := by simp [mayB]; omega
    have Hb := hide hb
    clear hb hr
    go_enter Tryz.func48, Tryz.ntmps48
    go_wp2
    go_ret
    exact ⟨by rw [Hb.out]; rfl, (Upd.refl _ _).alloc _⟩
def lenOf : Value → Nat
  | .slice _ n _ => n
  | _ => 0
def IsTrim (A : Option Addr) (c : Nat) (m : List Nat) (w : World) (e : Ending) (w' : World) : Prop := e = .returned (.slice A (canon (val m)).length c) ∧ w = w'
set_option maxHeartbeats 800000 in
theorem trim_any (A : Option Addr) (n c : Nat) (m : List Nat) (w : World) (hr : RowAt w 1 (.slice A n c) n (encW m)) (hl : Limbs m) :
    Calls Tryz.prog 156 #[.slice A n c] w (IsTrim A c m w) := by
  have hn : m.length = n := by simpa [encW] using hr.1
  have hmax := row_max hr
  have Hr := hide (And.intro hr (And.intro hl hn))
  clear hr hl hn
  go_enter Tryz.func156, Tryz.ntmps156
  go_wp2
  go_loop [0] (fun v => ∃ k : Nat, k ≤ n ∧ v = .slice A k c ∧ Hid (val (m.take k) = val m)) (fun v => lenOf v)
  case atStart => exact ⟨n, Nat.le_refl _, rfl, by show _ = _; rw [List.take_of_length_le (by rw [Hr.out.2.2]; exact Nat.le_refl _)]⟩
  case round =>
    obtain ⟨k, hk, rfl, hv⟩ := hrel
    have hend : (m.take k = [] ∨ 0 < (m.take k).getD (k - 1) 0) → (canon (val m)).length = k := by
      intro ht
      have hlk : (m.take k).length = k := by rw [List.length_take, Hr.out.2.2]; omega
      have h1 : m.take k = canon (val (m.take k)) := canon_val (Hr.out.2.1.take k) (by
        rcases ht with ht | ht
        · exact .inl ht
        · exact .inr (by rw [hlk]; exact ht))
      have h2 : val (m.take k) = val m := hv
      rw [← h2, ← h1, hlk]
    have Hend := hide hend
    clear hend
    rcases Nat.eq_zero_or_pos k with rfl | hk0
    · go_wp2
      go_ret
      refine ⟨?_, rfl⟩
      rw [Hend.out (.inl (by simp))]
      rfl
    · obtain ⟨b, off, rfl, hc, hm, hb, hcell⟩ := rowW Hr.out.1 (k := k - 1) (by omega)
      obtain ⟨x, hx⟩ : ∃ x, x = m.getD (k - 1) 0 := ⟨_, rfl⟩
      rw [← hx] at hcell
      have Hx := hide hx
      have hcm : (c : Int) ≤ 9223372036854775807 := by unfold maxLen at hm; omega
      have hkc : k ≤ c := by omega
      clear hx hm
      have hd : (m.take k).getD (k - 1) 0 = m.getD (k - 1) 0 := by simp [List.getD, show k - 1 < k by omega]
      have Hd := hide hd
      clear hd
      by_cases h0 : x = 0
      · subst h0
        go_wp2
        go_round
        case rel =>
          refine ⟨k - 1, by omega, ?_, ?_⟩
          · rfl
          · show val (m.take (k - 1)) = val m
            have h1 := val_take m (k - 1)
            rw [show k - 1 + 1 = k by omega, ← Hx.out, Nat.mul_zero, Nat.add_zero] at h1
            rw [← h1]
            exact hv
        case measure => simp [lenOf]; omega
      · have h0' : ((x : Int) == 0) = false := by simp; omega
        clear h0
        go_wp2
        go_ret
        refine ⟨?_, rfl⟩
        rw [Hend.out (.inr (by rw [Hd.out, ← Hx.out]; simp at h0'; omega))]
        rfl
/-- A value that is a number that came in, worth z. -/
def BigAt (w : World) (x : Value) (z : Int) : Prop := ∃ b v m, x = .agg #[.bool b, v] ∧ RowAt w 1 v m.length (encW m) ∧ Limbs m ∧ goodI b m = z
/-- A value that is just z's number. -/
def CanAt (w : World) (x : Value) (z : Int) : Prop := ∃ d v, x = .agg #[.bool d, v] ∧ d = decide (z < 0) ∧ RowAt w 1 v (canon z.natAbs).length (encW (canon z.natAbs))
theorem BigAt.new_ {w w' : World} {x : Value} {z : Int} (h : BigAt w x z) (hu : New w w') : BigAt w' x z := by
  obtain ⟨b, v, m, hx, hr, hl, hg⟩ := h
  exact ⟨b, v, m, hx, hr.new_ hu, hl, hg⟩
theorem CanAt.new_ {w w' : World} {x : Value} {z : Int} (h : CanAt w x z) (hu : New w w') : CanAt w' x z := by
  obtain ⟨d, v, hx, hd, hr⟩ := h
  exact ⟨d, v, hx, hd, hr.new_ hu⟩
theorem BigAt.lt {w : World} {x : Value} {z : Int} (h : BigAt w x z) : z.natAbs < 2 ^ 256 := by
  obtain ⟨b, v, m, hx, hr, hl, hg⟩ := h
  rw [← hg]
  exact good_lt hl
theorem CanAt.big {w : World} {x : Value} {z : Int} (h : CanAt w x z) (hz : z.natAbs < 2 ^ 256) : BigAt w x z := by
  obtain ⟨d, v, hx, hd, hr⟩ := h
  subst hd
  refine ⟨_, v, _, hx, hr, limbs_canon _, ?_⟩
  unfold goodI
  rw [if_pos (may_canon hz), val_canon]
  unfold sgn
  split
  · rename_i h; simp at h; omega
  · rename_i h; simp at h; omega
def IsMag (z : Int) (w : World) (e : Ending) (w' : World) : Prop := ∃ A n c, e = .returned (.slice A n c) ∧ n = (canon z.natAbs).length ∧ Own w' w.heap.size 56 1 (.slice A n c) n (encW (canon z.natAbs)) ∧ New w w'
set_option maxHeartbeats 400000 in
theorem mag_any (x : Value) (z : Int) (w : World) (h : BigAt w x z) : Calls Tryz.prog 86 #[x] w (IsMag z w) := by
  obtain ⟨b, v, m, rfl, hr, hl, hg⟩ := h
  have hmg := canon_good (b := b) hl
  rw [hg] at hmg
  have hr1 := hr.new_ ((Upd.refl (fun _ => False) w).alloc (.cells #[.bool b, v] 26))
  have hn1 : New w (w.alloc (.cells #[.bool b, v] 26)) := (Upd.refl _ _).alloc _
  obtain ⟨A, c, rfl⟩ := hr.form
  have Hr := hide (And.intro hr1 (And.intro hl (And.intro hg (And.intro hmg hn1))))
  clear hr hr1 hl hg hmg hn1
  cases hb : mayB b m
  · have Hb := hide hb
    clear hb
    go_enter Tryz.func86, Tryz.ntmps86
    go_wp2_with fail
    refine (may_any b _ m _ Hr.out.1).mono ?_
    rintro e w1 ⟨rfl, hn⟩
    rw [Hb.out]
    go_wp2
    go_ret
    refine ⟨_, _, _, rfl, ?_, ?_, Hr.out.2.2.2.2.transNew hn⟩
    · rw [Hr.out.2.2.2.1, Hb.out]; rfl
    · rw [Hr.out.2.2.2.1, Hb.out]; exact Own.nil_ _ _ _ _
  · have Hb := hide hb
    have h8 := (may_trim hb).2.1
    clear hb
    have hw1 : ∀ w1, New (w.alloc (.cells #[.bool b, .slice A m.length c] 26)) w1 → w1.cell? ⟨w.heap.size, 1, none⟩ = some (.slice A m.length c) := fun w1 hn =>
      (hn.cellN (p := ⟨w.heap.size, 1, none⟩) (by simp)).trans ((Blk.new w 26 [.bool b, .slice A m.length c]).cell 1)
    have Hw1 := hide hw1
    clear hw1
    go_enter Tryz.func86, Tryz.ntmps86
    go_wp2_with fail
    refine (may_any b _ m _ Hr.out.1).mono ?_
    rintro e w1 ⟨rfl, hn⟩
    rw [Hb.out]
    have hc := Hw1.out w1 hn
    go_wp2_with fail
    refine (cloneW _ m.length (encW m) _ (Hr.out.1.new_ hn) (encW_one m) (by omega)).mono ?_
    rintro e w2 ⟨v2, rfl, ho2, hn2⟩
    obtain ⟨A2, c2, rfl⟩ := ho2.row.form
    go_wp2
    go_ret
    have hm : canon z.natAbs = m := by rw [Hr.out.2.2.2.1, Hb.out]; rfl
    refine ⟨_, _, _, rfl, by rw [hm], ?_, (Hr.out.2.2.2.2.transNew hn).transNew hn2⟩
    rw [hm]
    exact ho2.more (Nat.le_trans (Nat.le_of_lt (by simp)) hn.size)
def IsNeg (z : Int) (w : World) (e : Ending) (w' : World) : Prop := ∃ d, e = .returned (.bool d) ∧ d = decide (z < 0) ∧ New w w'
set_option maxHeartbeats 400000 in
theorem neg_any (x : Value) (z : Int) (w : World) (h : BigAt w x z) : Calls Tryz.prog 87 #[x] w (IsNeg z w) := by
  obtain ⟨b, v, m, rfl, hr, hl, hg⟩ := h
  have hmg := neg_good (b := b) hl
  rw [hg] at hmg
  have hr1 := hr.new_ ((Upd.refl (fun _ => False) w).alloc (.cells #[.bool b, v] 26))
  have hn1 : New w (w.alloc (.cells #[.bool b, v] 26)) := (Upd.refl _ _).alloc _
  have hw1 : ∀ w1, New (w.alloc (.cells #[.bool b, v] 26)) w1 → w1.cell? ⟨w.heap.size, 0, none⟩ = some (.bool b) := fun w1 hn =>
    (hn.cellN (p := ⟨w.heap.size, 0, none⟩) (by simp)).trans ((Blk.new w 26 [.bool b, v]).cell 0)
  have Hr := hide (And.intro hr1 (And.intro hmg (And.intro hn1 hw1)))
  clear hr hr1 hl hg hmg hn1 hw1
  cases hb : mayB b m
  all_goals
    have Hb := hide hb
    clear hb
    go_enter Tryz.func87, Tryz.ntmps87
    go_wp2_with fail
    refine (may_any b _ m _ Hr.out.1).mono ?_
    rintro e w1 ⟨rfl, hn⟩
    rw [Hb.out]
    have hc := Hr.out.2.2.2 w1 hn
    go_wp2
    go_ret
    exact ⟨_, rfl, by rw [Hr.out.2.1, Hb.out]; rfl, Hr.out.2.2.1.transNew hn⟩
theorem BigAt.form {w : World} {x : Value} {z : Int} (h : BigAt w x z) : ∃ b A n c, x = .agg #[.bool b, .slice A n c] := by
  obtain ⟨b, v, m, rfl, hr, _⟩ := h
  obtain ⟨A, c, rfl⟩ := hr.form
  exact ⟨b, A, _, c, rfl⟩
/-- The first k of a row of one's own. -/
theorem Own.cut {w : World} {base : Nat} {t : TypeId} {A : Option Addr} {n c : Nat} {xs : List Value} (h : Own w base t 1 (.slice A n c) n xs) {k : Nat} (hk : k ≤ n) : Own w base t 1 (.slice A k c) k (xs.take k) := by
  have hl := h.len
  rcases h with ⟨h1, h2⟩ | ⟨rfl, rfl, A', hA⟩
  · rcases h2 with ⟨hv, hx⟩ | ⟨g, cap, cur, hv, hb, hg, hn, hm, hs, ht⟩
    · injection hv with hA hn hc
      subst hA hn hc
      obtain rfl : k = 0 := by omega
      exact .inl ⟨by simp, .inl ⟨rfl, by simp⟩⟩
    · injection hv with hA _ hc
      subst hA hc
      refine .inl ⟨by rw [List.length_take]; omega, .inr ⟨g, c, cur, rfl, hb, hg, by omega, hm, hs, ?_⟩⟩
      have ht' : cur.toList.take n = xs := by simpa using ht
      show cur.toList.take (k * 1) = xs.take k
      rw [Nat.mul_one, ← ht', List.take_take, Nat.min_eq_left hk]
  · injection hA with hA _ hc
    subst hA hc
    obtain rfl : k = 0 := by omega
    exact .inr ⟨rfl, by simp, _, rfl⟩
theorem Own.trim {w : World} {base : Nat} {A : Option Addr} {n c : Nat} {m : List Nat} (h : Own w base 56 1 (.slice A n c) n (encW m)) (hl : Limbs m) : Own w base 56 1 (.slice A (canon (val m)).length c) (canon (val m)).length (encW (canon (val m))) := by
  have hn : m.length = n := by have := h.len; simpa [encW] using this
  have := h.cut (k := (canon (val m)).length) (by rw [← hn]; exact canon_len_le (val_lt hl))
  rwa [← encW_take, take_canon hl] at this
/-- A place of a row of one's own: what it holds, that it may be written, and the row behind that. -/
theorem Own.place {w : World} {base : Nat} {t : TypeId} {A : Option Addr} {n c : Nat} {xs : List Value} (h : Own w base t 1 (.slice A n c) n xs) {j : Nat} (hj : j < n) :
    ∃ g, A = some ⟨g, 0, none⟩ ∧ n ≤ c ∧ c ≤ maxLen ∧ base ≤ g ∧ g < w.heap.size ∧ w.cell? ⟨g, j, none⟩ = xs[j]? ∧ w.frozen? ⟨g, j, none⟩ = false ∧
      ∀ u : Value, Own (w.setCell ⟨g, j, none⟩ u) base t 1 (.slice (some ⟨g, 0, none⟩) n c) n (xs.set j u) := by
  rcases h with ⟨h1, h2⟩ | ⟨h0, _⟩
  · rcases h2 with ⟨hv, _⟩ | ⟨g, cap, cur, hv, hb, hg, hn, hm, hs, ht⟩
    · injection hv with _ hn _; omega
    · injection hv with hA _ hc
      subst hA hc
      have ht' : cur.toList.take n = xs := by simpa using ht
      have hlt : g < w.heap.size := (Array.getElem?_eq_some_iff.1 hg).1
      have hbk : Blk w g t cur.toList := by unfold Blk; simpa using hg
      have hcur : j < cur.size := by omega
      refine ⟨g, rfl, hn, hm, hb, hlt, ?_, hbk.frozen j, fun u => .inl ⟨by simpa using h1, .inr ⟨g, c, cur.setIfInBounds j u, rfl, hb, ?_, hn, hm, by simpa using hs, ?_⟩⟩⟩
      · rw [hbk.cell j, ← ht', List.getElem?_take, if_pos hj]
      · have := hbk.set_ j u
        unfold Blk at this
        rw [this]
        congr 2
        apply Array.ext'
        simp
      · rw [← ht']
        simp [List.take_set]
  · omega
theorem New.setAt {w w' : World} (h : New w w') {g : Nat} (hg : w.heap.size ≤ g) (j : Nat) (u : Value) : New w (w'.setCell ⟨g, j, none⟩ u) := h.setCell (p := ⟨g, j, none⟩) (.inr hg) u
theorem BigAt.len {w : World} {x : Value} {z : Int} (h : BigAt w x z) : (canon z.natAbs).length ≤ 8 := (canon_len8 _).2 h.lt
def encB (xs : List Int) : List Value := xs.map (Value.int .u8)
theorem encB_one (m : List Int) : ∀ u ∈ encB m, u.oneCell' = true := by
  intro u hu
  obtain ⟨x, _, rfl⟩ := List.mem_map.1 hu
  rfl
theorem encB_app (a b : List Int) : encB (a ++ b) = encB a ++ encB b := by simp [encB]
theorem encB_set (a : List Int) (k : Nat) (x : Int) : encB (a.set k x) = (encB a).set k (.int .u8 x) := by simp [encB]
theorem encB_get (a : List Int) (k : Nat) (h : k < a.length) : (encB a)[k]? = some (.int .u8 (a.getD k 0)) := by simp [encB, List.getD, h]
def IsRev (W : World) (base : Nat) (A : Option Addr) (n c : Nat) (l : List Int) (e : Ending) (w' : World) : Prop := e = .returned (.tuple #[]) ∧ Own w' base 5 1 (.slice A n c) n (encB l.reverse) ∧ Upd (fun q => ownB (.slice A n c) = some q) W w'
set_option maxHeartbeats 3200000 in
theorem reverse_any (base : Nat) (A : Option Addr) (n c : Nat) (l : List Int) (w : World) (ho : Own w base 5 1 (.slice A n c) n (encB l)) (hs : n ≤ 100000) :
    Calls Tryz.prog 180 #[.slice A n c] w (IsRev w base A n c l) := by
  have hl : l.length = n := by have := ho.len; simpa [encB] using this
  have Hl := hide hl
  have ho' : Own w base 5 1 (.slice A n c) n (encB (turned l 0)) := by rw [turned_zero]; exact ho
  clear hl ho
  go_enter Tryz.func180, Tryz.ntmps180
  go_wp2
  go_loopw [2, 3] (fun i j wr => ∃ k : Nat, i = .int .i64 k ∧ j = .int .i64 ((n : Int) - 1 - (k : Int)) ∧ k ≤ n ∧ Own wr base 5 1 (.slice A n c) n (encB (turned l k)) ∧ Upd (fun q => ownB (.slice A n c) = some q) w wr) (fun i _ _ => n - (intOf i).toNat)
  case atStart => exact ⟨0, rfl, by simp, by omega, ho', Upd.refl _ _⟩
  case round =>
    clear ho'
    obtain ⟨k, rfl, rfl, hk, ho, hu⟩ := hrel
    by_cases hlt : k + k + 1 < n
    · obtain ⟨g, rfl, hnc, hcm, hbg, hgl, hcell, hfz, hset⟩ := ho.place (j := k) (by omega)
      obtain ⟨g', hg', -, -, -, -, hcell2, hfz2, -⟩ := ho.place (j := n - 1 - k) (by omega)
      injection hg' with hg'
      injection hg' with hg' _ _
      subst hg'
      have hlt' : (turned l k).length = n := by rw [length_turned, Hl.out]
      rw [encB_get _ _ (by omega)] at hcell hcell2
      obtain ⟨x, hx⟩ : ∃ x, x = (turned l k).getD k 0 := ⟨_, rfl⟩
      obtain ⟨y, hy⟩ : ∃ y, y = (turned l k).getD (n - 1 - k) 0 := ⟨_, rfl⟩
      rw [← hx] at hcell
      rw [← hy] at hcell2
      have hb1 : (0 : Int) ≤ (k : Int) ∧ (k : Int) < (n : Int) ∧ (0 : Int) ≤ (n : Int) - 1 - (k : Int) ∧ (n : Int) - 1 - (k : Int) < (n : Int) := by omega
      obtain ⟨hb1, hb2, hb3, hb4⟩ := hb1
      have hne : k ≠ n - 1 - k := by omega
      have Hs := hide (And.intro hset (And.intro hx (And.intro hy (And.intro hu ho))))
      clear hset hx hy hu ho hcm hlt'
      go_wp2_with fail
      go_region
      obtain ⟨hset, hx, hy, hu, ho⟩ := Hs.out
      have ho1 := hset (.int .u8 y)
      rw [← encB_set] at ho1
      obtain ⟨g', hg', -, -, -, -, -, -, hset2⟩ := ho1.place (j := n - 1 - k) (by omega)
      injection hg' with hg'
      injection hg' with hg' _ _
      subst hg'
      have ho2 := hset2 (.int .u8 x)
      have hts := turned_succ l k (by rw [Hl.out]; exact hlt)
      rw [Hl.out, ← hx, ← hy] at hts
      rw [← encB_set, hts] at ho2
      have hF : ownB (.slice (some ⟨g, 0, none⟩) n c) = some g := by
        obtain ⟨c', rfl⟩ : ∃ c', c = c' + 1 := ⟨c - 1, by omega⟩
        rfl
      have ho3 := ho2.upd (Upd.refl (fun _ => False) _).drew (fun _ _ hf => hf)
      have hu3 := ((hu.setCell (p := ⟨g, k, none⟩) (.inl hF) (.int .u8 y)).setCell (p := ⟨g, n - 1 - k, none⟩) (.inl hF) (.int .u8 x)).drew
      have H3 := hide (And.intro ho3 hu3)
      clear hset hx hy hu ho ho1 hset2 ho2 hts ho3 hu3 hcell hcell2 hfz hfz2 hF
      go_wp2
      go_roundw
      case rel => exact ⟨k + 1, by go_num, by congr 1; omega, by omega, H3.out.1, H3.out.2⟩
      case measure => simp [intOf] <;> omega
    · have hge : (n : Int) - 1 - (k : Int) ≤ (k : Int) := by omega
      have H3 := hide (And.intro ho hu)
      clear ho hu
      go_wp2
      refine bodyPost_ret (v := .tuple #[]) (by simp [results, Tryz.results180, go_sem]) rfl ⟨rfl, ?_, H3.out.2⟩
      have h := H3.out.1
      rwa [turned_end l k (by rw [Hl.out]; omega)] at h
def IsText (xs : List Int) (w : World) (e : Ending) (w' : World) : Prop := e = .returned (.string (strOfNums xs)) ∧ New w w'
set_option maxHeartbeats 6400000 in
theorem text_any (x : Value) (z : Int) (w : World) (hx : BigAt w x z) : Calls Tryz.prog 141 #[x] w (IsText (textI z) w) := by
  obtain ⟨bx, Ax, nx, cx, rfl⟩ := hx.form
  obtain ⟨w1, hw1⟩ : ∃ w1, w1 = w.alloc (.cells #[.bool bx, .slice Ax nx cx] 26) := ⟨_, rfl⟩
  have hn1 : New w w1 := by rw [hw1]; exact (Upd.refl _ _).alloc _
  have hb1 : Blk w1 w.heap.size 26 [.bool bx, .slice Ax nx cx] := by rw [hw1]; exact Blk.new w _ _
  have hz := hx.new_ hn1
  have hzl := hx.lt
  have Hw := hide hw1
  clear hw1
  go_enter Tryz.func141, Tryz.ntmps141
  go_wp2_with fail
  rw [← Hw.out]
  refine (mag_any _ z _ hz).mono ?_
  rintro e w2 ⟨A, n, c, rfl, hl, ho, hm2⟩
  have hn2 := hn1.transNew hm2
  have hb2 := hb1.new_ hm2
  have hz2 := hz.new_ hm2
  have hsz : w.heap.size ≤ w1.heap.size := hn1.size
  have ho2 := ho.more hsz
  clear hn1 hb1 hz hm2 ho
  obtain ⟨V0, hV0⟩ : ∃ V0, V0 = z.natAbs := ⟨_, rfl⟩
  rw [← hV0] at hl ho2
  have hn8 : n ≤ 8 := by rw [hl, canon_len8, hV0]; exact hzl
  have hdl : (digs V0).length ≤ 78 := digs_big (by rw [hV0]; exact hzl)
  have Hl := hide (And.intro hl (And.intro hV0 hdl))
  have hzw := hx
  have H2 := hide (And.intro hb2 (And.intro hzw hn2))
  clear hl hV0 hdl hsz hzl hb2 hz2 hn2 hx hzw
  by_cases h0 : n = 0
  · subst h0
    have hz0 : z = 0 := by
      have h1 := canon_nil.1 (List.eq_nil_of_length_eq_zero Hl.out.1.symm)
      have := Hl.out.2.1
      omega
    have Hz := hide hz0
    clear hz0 ho2
    go_wp2
    go_ret
    refine ⟨?_, H2.out.2.2⟩
    rw [Hz.out]
    rfl
  · have hn0 : ((n : Int) == 0) = false := by simp; omega
    have hz0 : z ≠ 0 := by
      intro h
      refine h0 ?_
      rw [Hl.out.1, Hl.out.2.1, h, show (0 : Int).natAbs = 0 from rfl, canon_zero]; rfl
    have Hz := hide hz0
    clear h0 hz0
    go_wp2
    go_loopg [3, 4] V0 (fun gk m l wr => ∃ (A : Option Addr) (n c : Nat) (ds : List Int), m = .slice A n c ∧ n ≤ 8 ∧ ds.length ≤ 78 ∧ Hid (n = (canon gk).length ∧ (digs V0).map letter = ds ++ (digs gk).map letter) ∧ Own wr w.heap.size 56 1 (.slice A n c) n (encW (canon gk)) ∧ Own wr w.heap.size 5 1 l ds.length (encB ds) ∧ New w wr ∧ Hid (Blk wr w.heap.size 26 [.bool bx, .slice Ax nx cx]))
    case atStart => exact ⟨A, n, c, [], rfl, hn8, by simp, ⟨Hl.out.1, by simp⟩, ho2, Own.nil_ _ _ _ _, H2.out.2.2, H2.out.1⟩
    case round =>
      clear ho2 hn0
      obtain ⟨Am, nm, cm, ds, rfl, hnm8, hds, hd, hom, hol, hnew, hbox⟩ := hrel
      have Hd := hide (show nm = (canon gk).length ∧ (digs V0).map letter = ds ++ (digs gk).map letter from hd)
      clear hd
      by_cases hpos : 0 < nm
      · have hlc : (canon gk).length = nm := Hd.out.1.symm
        have hT := ten_start (limbs_canon gk)
        rw [hlc] at hT
        have Ho := hide (And.intro hom (And.intro hol (And.intro hnew (And.intro hT hbox))))
        clear hom hol hnew hT hlc hbox
        go_wp2
        go_loopw [5, 6] (fun r i wr => ∃ (k rr : Nat) (m2 : List Nat), k ≤ nm ∧ i = .int .i64 ((k : Int) - 1) ∧ r = .int .u64 (rr : Int) ∧ rr < 10 ∧ Hid (TenAt (canon gk) m2 k rr) ∧ Own wr w.heap.size 56 1 (.slice Am nm cm) nm (encW m2) ∧ Own wr w.heap.size 5 1 u4 ds.length (encB ds) ∧ New w wr ∧ Hid (Blk wr w.heap.size 26 [.bool bx, .slice Ax nx cx])) (fun _ i _ => (intOf i + 1).toNat)
        case atStart => exact ⟨nm, 0, canon gk, Nat.le_refl _, rfl, rfl, by omega, Ho.out.2.2.2.1, Ho.out.1, Ho.out.2.1, Ho.out.2.2.1, Ho.out.2.2.2.2⟩
        case round =>
          clear Ho
          obtain ⟨k, rr, m2, hk, rfl, rfl, hrr, hT, hom, hol, hnew, hbox⟩ := hrel
          rcases Nat.eq_zero_or_pos k with rfl | hk0
          · obtain ⟨he1, he2⟩ := ten_end (show TenAt (canon gk) m2 0 rr from hT)
            rw [val_canon] at he1 he2
            have hT' : TenAt (canon gk) m2 0 rr := hT
            have e1 : Value.int .u8 (48 + (rr : Int)) = .int .u8 (letter rr) := by simp [letter]
            have hgk : 0 < gk := by
              rcases Nat.eq_zero_or_pos gk with h | h
              · have := Hd.out.1
                rw [h, canon_zero] at this
                simp at this
                omega
              · exact h
            have hdg : (digs V0).map letter = (ds ++ [letter rr]) ++ (digs (gk / 10)).map letter := by
              rw [Hd.out.2, digs_pos hgk, List.map_cons, List.append_assoc, he2]
              rfl
            have hdsl : ds.length + 1 ≤ 78 := by
              have h1 := congrArg List.length hdg
              simp at h1
              have := Hl.out.2.2
              omega
            have hA : New wr (wr.alloc (.cells #[.int .u8 (letter rr)] 5)) := (Upd.refl _ _).alloc _
            have hrowl : RowAt (wr.alloc (.cells #[.int .u8 (letter rr)] 5)) 1 (.slice (some ⟨wr.heap.size, 0, none⟩) 1 1) 1 (encB [letter rr]) := RowAt.fresh wr _ (encB [letter rr]) 1 1 rfl (by omega) (by unfold maxLen; omega)
            have hbase : w.heap.size ≤ (wr.alloc (.cells #[.int .u8 (letter rr)] 5)).heap.size := (hnew.alloc _).size
            have P := hide (And.intro e1 (And.intro (hol.new_ hA) (And.intro hrowl (And.intro hbase (And.intro (hom.new_ hA) (And.intro (hnew.transNew hA) ((show Blk wr _ _ _ from hbox).new_ hA)))))))
            have Q := hide (And.intro he1 (And.intro hT' (And.intro hdg hgk)))
            clear e1 hA hrowl hbase hol hom hnew hbox he1 he2 hT hT' hdg hgk
            go_wp2_with (at_builtin; rw [P.out.1]; refine wpList_append_row _ rfl (.tmp 38) (.tmp 42) elB rfl w.heap.size u4 ds.length (encB ds) rfl P.out.2.1 (.slice (some ⟨wr.heap.size, 0, none⟩) 1 1) 1 (encB [letter rr]) rfl P.out.2.2.1 (encB_one _) (by omega) (by unfold maxLen; omega) P.out.2.2.2.1 ?_; intro v3 w3 hown3 hg3 _)
            have hu3 : Upd (fun q => ownB u4 = some q) (wr.alloc (.cells #[.int .u8 (letter rr)] 5)) w3 := (Upd.refl _ _).grown hg3 fun q hq => .inl hq
            have hom3 := P.out.2.2.2.2.1.upd hu3 fun q hq hq' => P.out.2.2.2.2.1.ne_own P.out.2.1 (by decide) q hq hq'
            have hbox3 := P.out.2.2.2.2.2.2.upd hu3 fun hq => P.out.2.1.ne_blk P.out.2.2.2.2.2.2 (by decide) _ hq rfl
            have hnew3 : New w w3 := P.out.2.2.2.2.2.1.grown hg3 fun q hq => .inr (P.out.2.1.lt q hq).1
            rw [← encB_app] at hown3
            have Q3 := hide (And.intro hom3 (And.intro hbox3 (And.intro hnew3 hown3)))
            clear hu3 hom3 hbox3 hnew3 hown3 hg3
            go_wp2_with fail
            refine (trim_any Am nm cm m2 _ Q3.out.1.row Q.out.2.1.limbs).mono ?_
            rintro e w4 ⟨rfl, rfl⟩
            have hot := Q3.out.1.trim Q.out.2.1.limbs
            rw [Q.out.1] at hot ⊢
            obtain ⟨nz, hnz⟩ : ∃ nz, nz = (canon (gk / 10)).length := ⟨_, rfl⟩
            rw [← hnz] at hot ⊢
            have hnz8 : nz ≤ 8 := by
              rw [hnz]
              refine Nat.le_trans (canon_len_le (k := (canon gk).length) ?_) (by rw [← Hd.out.1]; exact hnm8)
              have h := val_lt (limbs_canon gk)
              rw [val_canon] at h
              exact Nat.lt_of_le_of_lt (Nat.div_le_self _ _) h
            have Hot := hide (And.intro hot hnz)
            clear hot hnz
            go_wp2
            go_roundg (gk / 10)
            case measure => have := Q.out.2.2.2; omega
            case rel => exact ⟨Am, nz, cm, ds ++ [letter rr], rfl, hnz8, by simpa using hdsl, ⟨Hot.out.2, Q.out.2.2.1⟩, Hot.out.1, by simpa using Q3.out.2.2.2, Q3.out.2.2.1, Q3.out.2.1⟩
          · obtain ⟨p, rfl⟩ : ∃ p, k = p + 1 := ⟨k - 1, by omega⟩
            rw [show (((p + 1 : Nat) : Int) - 1) = (p : Int) by omega]
            obtain ⟨g, rfl, hnc, hcm, hbg, hgl, hcell, hfz, hset⟩ := hom.place (j := p) (by omega)
            have hT' : TenAt (canon gk) m2 (p + 1) rr := hT
            obtain ⟨hs1, hs2, hs3⟩ := ten_step (limbs_canon gk) hT' (by rw [← Hd.out.1]; omega)
            rw [encW_get _ _ (by rw [hT'.len, ← Hd.out.1]; omega), hT'.same p (by omega)] at hcell
            obtain ⟨y, hy⟩ : ∃ y, y = (canon gk).getD p 0 := ⟨_, rfl⟩
            rw [← hy] at hcell hs1 hs2
            have hyb : y < 4294967296 := by rw [hy]; exact (limbs_canon gk).at _
            have hor : bits .or .u64 ((rr : Int) * 4294967296) (y : Int) = ((rr * 4294967296 + y : Nat) : Int) := by
              have h1 : (rr : Int) * 4294967296 = ((rr * 4294967296 : Nat) : Int) := by simp
              rw [h1, bits_or_u64_nat _ _ (by omega) (by omega), or_word hyb]
            obtain ⟨s, hs⟩ : ∃ s, s = rr * 4294967296 + y := ⟨_, rfl⟩
            rw [← hs] at hor hs1 hs2
            have hsb : s < 42949672960 := by omega
            have hgq : g ≠ w.heap.size := fun h => hom.ne_blk (show Blk wr _ _ _ from hbox) (by decide) g (by
              obtain ⟨c', rfl⟩ : ∃ c', cm = c' + 1 := ⟨cm - 1, by omega⟩
              rfl) h
            have Hs := hide (And.intro hset (And.intro hs1 (And.intro hol (And.intro hnew (And.intro hom (And.intro hgq hbox))))))
            have Hor := hide hor
            clear hset hs1 hol hnew hom hT hT' hy hor hs hk0 hcm hgq hbox
            go_upto_region 11 with (fail)
            rw [Hor.out]
            go_wp2
            go_roundw
            case rel =>
              obtain ⟨hset, hs1, hol, hnew, hom, hgq, hbox⟩ := Hs.out
              have e2 : Value.int .u64 ((s : Int) % 10) = .int .u64 ((s % 10 : Nat) : Int) := by simp
              have e3 : Value.int .u32 ((s : Int) / 10) = .int .u32 ((s / 10 : Nat) : Int) := by simp
              refine ⟨p, s % 10, m2.set p (s / 10), by omega, rfl, e2, by omega, hs1, ?_, ?_, ?_, ?_⟩
              · rw [encW_set, ← e3]; exact hset _
              · exact hol.upd (Upd.cellAt wr ⟨g, p, none⟩ _) fun q hq hqg => hol.ne_own hom (by decide) q hq (by
                  have h1 : q = g := hqg
                  subst h1
                  obtain ⟨c', rfl⟩ : ∃ c', cm = c' + 1 := ⟨cm - 1, by omega⟩
                  rfl)
              · exact New.setAt hnew hbg _ _
              · exact (show Blk wr _ _ _ from hbox).far (p := ⟨g, p, none⟩) (Ne.symm hgq) _
            case measure => simp [intOf] <;> omega
      · obtain rfl : nm = 0 := by omega
        have hg0 : gk = 0 := canon_nil.1 (List.eq_nil_of_length_eq_zero Hd.out.1.symm)
        have hds0 : (digs V0).map letter = ds := by rw [Hd.out.2, hg0, digs_zero]; simp
        obtain ⟨Al, cl, rfl⟩ := hol.row.form
        have hb0 : wr.cell? ⟨w.heap.size, 0, none⟩ = some (.bool bx) := (show Blk wr _ _ _ from hbox).cell 0
        have hb1 : wr.cell? ⟨w.heap.size, 1, none⟩ = some (.slice Ax nx cx) := (show Blk wr _ _ _ from hbox).cell 1
        have hzr := H2.out.2.1.new_ hnew
        have hdn : 0 < ds.length := by
          rw [← hds0, List.length_map]
          rcases Nat.eq_zero_or_pos V0 with h | h
          · have := Hl.out.2.1
            exact absurd (show z = 0 by omega) Hz.out
          · rw [digs_pos h]; simp
        have hm0 : (0 : Int) < (ds.length : Int) := by omega
        have Q0 := hide (And.intro hol (And.intro hnew (And.intro hzr (And.intro hds0 (And.intro hdn hom)))))
        clear hol hnew hzr hds0 hdn hom hg0 hbox hpos
        go_wp2_with fail
        refine (neg_any _ z _ Q0.out.2.2.1).mono ?_
        rintro e w4 ⟨d, rfl, hd4, hn4⟩
        have hol := Q0.out.1.new_ hn4
        have hnew := Q0.out.2.1.transNew hn4
        have hds0 := Q0.out.2.2.2.1
        have hdn := Q0.out.2.2.2.2.1
        clear hb0 hb1
        cases hdd : d
        · subst hdd
          have hdsz : textI z = ds.reverse := by
            rw [textI_pos Hz.out, if_neg (by simpa using hd4.symm), List.append_nil, ← Hl.out.2.1, hds0]
          have hdsn : 0 < ds.length := hdn
          clear hds0 hdn hd4 hn4
          have Q3 := hide (And.intro hol (And.intro hnew (And.intro hdsz hdsn)))
          clear hol hnew hdsz hdsn
          go_wp2_with fail
          refine (reverse_any w.heap.size Al ds.length cl ds _ Q3.out.1 (by omega)).mono ?_
          rintro e w5 ⟨rfl, hrev, hu5⟩
          have hn5 : New w w5 := Q3.out.2.1.trans hu5 fun q hq hqo => by have := (Q3.out.1.lt q hqo).1; omega
          obtain ⟨g, rfl, -, -, -, -, -, -, -⟩ := Q3.out.1.place (j := 0) Q3.out.2.2.2
          have hlen5 : ds.reverse.length = ds.length := by simp
          have hconv := run_convert_bytes_arg (P := Tryz.prog) w5 77 5 Tryz.underlying77 Tryz.underlying5 g 0 ds.length cl ds.reverse hlen5 (fun i hi => by
            obtain ⟨g', hg', -, -, -, -, hcell, -, -⟩ := hrev.place (j := i) hi
            injection hg' with hg'
            injection hg' with hg' _ _
            subst hg'
            rw [Nat.zero_add, hcell, encB_get _ _ (by omega)]) 9 Tryz.underlying9
          rw [← Q3.out.2.2.1] at hconv
          have Hn5 := hide hn5
          clear hrev hu5 hn5 hlen5
          go_wp2
          go_ret
          exact ⟨rfl, Hn5.out⟩
        · subst hdd
          have hdsz : textI z = (ds ++ [45]).reverse := by
            rw [textI_pos Hz.out, if_pos (by simpa using hd4.symm), ← Hl.out.2.1, hds0]
          have hdsn : 0 < ds.length + 1 := by omega
          have hA : New w4 (w4.alloc (.cells #[.int .u8 45] 5)) := (Upd.refl _ _).alloc _
          have hrowl : RowAt (w4.alloc (.cells #[.int .u8 45] 5)) 1 (.slice (some ⟨w4.heap.size, 0, none⟩) 1 1) 1 (encB [45]) := RowAt.fresh w4 _ (encB [45]) 1 1 rfl (by omega) (by unfold maxLen; omega)
          have hbase : w.heap.size ≤ (w4.alloc (.cells #[.int .u8 45] 5)).heap.size := (hnew.alloc _).size
          have P := hide (And.intro (hol.new_ hA) (And.intro hrowl (And.intro hbase (And.intro (hnew.transNew hA) (And.intro hdsz hdsn)))))
          clear hds0 hdn hd4 hn4 hA hrowl hbase hol hnew hdsz hdsn
          go_wp2_with (at_builtin; refine wpList_append_row _ rfl (.tmp 48) (.tmp 49) elB rfl w.heap.size (.slice Al ds.length cl) ds.length (encB ds) rfl P.out.1 (.slice (some ⟨w4.heap.size, 0, none⟩) 1 1) 1 (encB [45]) rfl P.out.2.1 (encB_one _) (by omega) (by unfold maxLen; omega) P.out.2.2.1 ?_; intro v3 w3 hown3 hg3 _)
          have hnew : New w w3 := P.out.2.2.2.1.grown hg3 fun q hq => .inr (P.out.1.lt q hq).1
          rw [← encB_app] at hown3
          obtain ⟨Al2, cl2, rfl⟩ := hown3.row.form
          have hol := hown3
          have hdsz := P.out.2.2.2.2.1
          have hdsn := P.out.2.2.2.2.2
          clear hg3 hown3
          have Q3 := hide (And.intro hol (And.intro hnew (And.intro hdsz hdsn)))
          clear hol hnew hdsz hdsn
          go_wp2_with fail
          refine (reverse_any w.heap.size Al2 (ds.length + 1) cl2 (ds ++ [45]) _ Q3.out.1 (by omega)).mono ?_
          rintro e w5 ⟨rfl, hrev, hu5⟩
          have hn5 : New w w5 := Q3.out.2.1.trans hu5 fun q hq hqo => by have := (Q3.out.1.lt q hqo).1; omega
          obtain ⟨g, rfl, -, -, -, -, -, -, -⟩ := Q3.out.1.place (j := 0) Q3.out.2.2.2
          have hlen5 : (ds ++ [45]).reverse.length = (ds.length + 1) := by simp
          have hconv := run_convert_bytes_arg (P := Tryz.prog) w5 77 5 Tryz.underlying77 Tryz.underlying5 g 0 (ds.length + 1) cl2 (ds ++ [45]).reverse hlen5 (fun i hi => by
            obtain ⟨g', hg', -, -, -, -, hcell, -, -⟩ := hrev.place (j := i) hi
            injection hg' with hg'
            injection hg' with hg' _ _
            subst hg'
            rw [Nat.zero_add, hcell, encB_get _ _ (by omega)]) 9 Tryz.underlying9
          rw [← Q3.out.2.2.1] at hconv
          have Hn5 := hide hn5
          clear hrev hu5 hn5 hlen5
          go_wp2
          go_ret
          exact ⟨rfl, Hn5.out⟩

theorem isInf_c (a : Nm) (w : World) : Calls Tryz.prog 123 #[nv a] w (IsRet (.bool (infB a.k)) w) := by
 refine enter_abs Tryz.func123 rfl fun a0 aa ak hp => ?_
 have aa : a0.tmps.size = 11 := aa
 have ac : New w w := Upd.refl _ _
 have hp0 : a0.eval (.tmp 0) = nv a := hp 0 _ rfl
 refine wp_seq_k fun K1 al => ?_
 refine wp_g [true, true] [] [] 11
   [IsNew w 23 [iv a.k, iv a.n], vF]
   [0] (newsCons (fun v w h => IsNew.old h) newsNil) aa (.nw (.eq (.nil))) ?_ (fun i h => by cases h) ?_
 exact .o2 (step_allocN (cs := [iv a.k, iv a.n]) (t := 23) rfl (noG rfl) (fun _ w hn k => v_box rfl (k.fx 0 hp0) (fun w => rfl)) (fun q _ hq hb => ⟨q, rfl, hq, hb⟩)) <| .t (fun _ w hn k => ⟨_, v_assign rfl rfl, rfl⟩) .nil
 refine aftI aa ak ac fun a2 w3 ad am ae au an => ?_
 obtain ⟨q9, h8, af, ab⟩ : IsNew _ _ _ _ _ := an.got 0 1 rfl (by kernel_rfl)
 have ap := Nat.le_trans ac.size af
 refine st_nil (al _ _ (wp_seq_k fun av ag => ?_))
 refine wp_g0 (.replicate 9 true) [] 11
   [ve (pv q9), ve (iv a.k), ve (.bool (decide (a.k = 3))), ve (.bool (decide (a.k = 3))), ve (gq (!(decide (a.k = 3))) (pv q9)), ve (gq (!(decide (a.k = 3))) (iv a.k)), ve (gq (!(decide (a.k = 3))) (.bool (decide (a.k = 4)))), ve (.bool ((decide (a.k = 3)) || (decide (a.k = 4)))), ve (.bool ((decide (a.k = 3)) || (decide (a.k = 4))))] ad (.eq (.eq (.eq (.eq (.eq (.eq (.eq (.eq (.eq (.nil)))))))))) ?_ ?_
 exact .f (fun k => k.fx 1 h8) <| .t (fun _ w hn k => ⟨_, v_load rfl (k.eq1 0 3 rfl) (l_one Tryz.isAgg3 ((ab.new_ hn).cell 0)), rfl⟩) <| .t (fun _ w hn k => ⟨_, v_bin rfl (k.eq1 1 4 rfl) rfl (fun _ => rfl) (r_eql rfl), rfl⟩) <| .m (fun k => k.eq1 2 5 rfl) <| .o1 (sc (G := (!(decide (a.k = 3)))) rfl rfl rfl (fun _ _ k => g0' (k.eq1 3 6 rfl)) (fun hG _ w hn k => v_field rfl (k.fx 1 h8) (fun w => rfl))) <| .o1 (sc (G := (!(decide (a.k = 3)))) rfl rfl rfl (fun _ _ k => g0' (k.eq1 3 6 rfl)) (fun hG _ w hn k => v_load rfl (cT hG (k.eq1 4 7 rfl)) (l_one Tryz.isAgg3 ((ab.new_ hn).cell 0)))) <| .o1 (sc (G := (!(decide (a.k = 3)))) rfl rfl rfl (fun _ _ k => g0' (k.eq1 3 6 rfl)) (fun hG _ w hn k => v_bin rfl (cT hG (k.eq1 5 8 rfl)) rfl (fun _ => rfl) (r_eql rfl))) <| .t (fun _ w hn k => ⟨_, v_or rfl (k.eq1 3 6 rfl) rfl (fun hg => (cT (nt hg) (k.eq1 6 9 rfl))), rfl⟩) <| .a (fun k => k.eq1 7 10 rfl) .nil
 refine aftI ad am ae fun aw ax aq ah ai ar aj => ?_
 have ao := aj.ge 8 2 rfl
 refine st_nil (ag _ _ ?_)
 refine wp_ret (ret_k ah (v := .bool ((decide (a.k = 3)) || (decide (a.k = 4)))) (res_t rfl ao _) ?_)
 refine ⟨?_, ai⟩
 show Ending.returned (.bool ((decide (a.k = 3)) || (decide (a.k = 4)))) = Ending.returned (.bool (infB a.k))
 first | rfl | (simp only [infB, bsm] <;> rfl) | (exfalso; omega)
theorem isNought_c (a : Nm) (w : World) : Calls Tryz.prog 147 #[nv a] w (IsRet (.bool (noughtB a)) w) := by
 refine enter_abs Tryz.func147 rfl fun a0 ab al hp => ?_
 have ab : a0.tmps.size = 16 := ab
 have ac : New w w := Upd.refl _ _
 have hp0 : a0.eval (.tmp 0) = nv a := hp 0 _ rfl
 refine wp_seq_k fun K1 am => ?_
 refine wp_g [true, true] [] [] 16
   [IsNew w 23 [iv a.k, iv a.n], vF]
   [0] (newsCons (fun v w h => IsNew.old h) newsNil) ab (.nw (.eq (.nil))) ?_ (fun i h => by cases h) ?_
 exact .o2 (step_allocN (cs := [iv a.k, iv a.n]) (t := 23) rfl (noG rfl) (fun _ w hn k => v_box rfl (k.fx 0 hp0) (fun w => rfl)) (fun q _ hq hb => ⟨q, rfl, hq, hb⟩)) <| .t (fun _ w hn k => ⟨_, v_assign rfl rfl, rfl⟩) .nil
 refine aftI ab al ac fun a2 w3 ad an ae av ao => ?_
 obtain ⟨q9, h8, af, aa⟩ : IsNew _ _ _ _ _ := ao.got 0 1 rfl (by kernel_rfl)
 have aq := Nat.le_trans ac.size af
 refine st_nil (am _ _ (wp_seq_k fun aw ag => ?_))
 refine wp_g0 (.replicate 14 true) [] 16
   [ve (pv q9), ve (iv a.k), ve (.bool (decide (a.k = 1))), ve (.bool (decide (a.k = 1))), ve (gq (!(decide (a.k = 1))) (pv q9)), ve (gq (!(decide (a.k = 1))) (iv a.k)), ve (gq (!(decide (a.k = 1))) (.bool (decide (a.k = 0)))), ve (gq (!(decide (a.k = 1))) (.bool (decide (a.k = 0)))), ve (gq ((!(decide (a.k = 1))) && (decide (a.k = 0))) (.pointer (some ⟨q9, 1, none⟩))), ve (gq ((!(decide (a.k = 1))) && (decide (a.k = 0))) (iv a.n)), ve (gq ((!(decide (a.k = 1))) && (decide (a.k = 0))) (.bool (decide (a.n = 0)))), ve (gq (!(decide (a.k = 1))) (.bool ((decide (a.k = 0)) && (decide (a.n = 0))))), ve (.bool ((decide (a.k = 1)) || ((decide (a.k = 0)) && (decide (a.n = 0))))), ve (.bool ((decide (a.k = 1)) || ((decide (a.k = 0)) && (decide (a.n = 0)))))] ad (.eq (.eq (.eq (.eq (.eq (.eq (.eq (.eq (.eq (.eq (.eq (.eq (.eq (.eq (.nil))))))))))))))) ?_ ?_
 exact .f (fun k => k.fx 1 h8) <| .t (fun _ w hn k => ⟨_, v_load rfl (k.eq1 0 3 rfl) (l_one Tryz.isAgg3 ((aa.new_ hn).cell 0)), rfl⟩) <| .t (fun _ w hn k => ⟨_, v_bin rfl (k.eq1 1 4 rfl) rfl (fun _ => rfl) (r_eql rfl), rfl⟩) <| .m (fun k => k.eq1 2 5 rfl) <| .o1 (sc (G := (!(decide (a.k = 1)))) rfl rfl rfl (fun _ _ k => g0' (k.eq1 3 6 rfl)) (fun hG _ w hn k => v_field rfl (k.fx 1 h8) (fun w => rfl))) <| .o1 (sc (G := (!(decide (a.k = 1)))) rfl rfl rfl (fun _ _ k => g0' (k.eq1 3 6 rfl)) (fun hG _ w hn k => v_load rfl (cT hG (k.eq1 4 7 rfl)) (l_one Tryz.isAgg3 ((aa.new_ hn).cell 0)))) <| .o1 (sc (G := (!(decide (a.k = 1)))) rfl rfl rfl (fun _ _ k => g0' (k.eq1 3 6 rfl)) (fun hG _ w hn k => v_bin rfl (cT hG (k.eq1 5 8 rfl)) rfl (fun _ => rfl) (r_eql rfl))) <| .o1 (sc (G := (!(decide (a.k = 1)))) rfl rfl rfl (fun _ _ k => g0' (k.eq1 3 6 rfl)) (fun hG _ w hn k => v_move rfl (cT hG (k.eq1 6 9 rfl)))) <| .o1 (sc (G := ((!(decide (a.k = 1))) && (decide (a.k = 0)))) rfl rfl rfl (fun _ _ k => g1 (k.eq1 7 10 rfl)) (fun hG _ w hn k => v_field rfl (k.fx 1 h8) (fun w => rfl))) <| .o1 (sc (G := ((!(decide (a.k = 1))) && (decide (a.k = 0)))) rfl rfl rfl (fun _ _ k => g1 (k.eq1 7 10 rfl)) (fun hG _ w hn k => v_load rfl (cT hG (k.eq1 8 11 rfl)) (l_one Tryz.isAgg3 ((aa.new_ hn).cell 1)))) <| .o1 (sc (G := ((!(decide (a.k = 1))) && (decide (a.k = 0)))) rfl rfl rfl (fun _ _ k => g1 (k.eq1 7 10 rfl)) (fun hG _ w hn k => v_bin rfl (cT hG (k.eq1 9 12 rfl)) rfl (fun _ => rfl) (r_eql rfl))) <| .o1 (sc (G := (!(decide (a.k = 1)))) rfl rfl rfl (fun _ _ k => g0' (k.eq1 3 6 rfl)) (fun hG _ w hn k => v_and rfl (cT hG (k.eq1 7 10 rfl)) (fun hg => (cT (aj hG hg) (k.eq1 10 13 rfl))) rfl)) <| .t (fun _ w hn k => ⟨_, v_or rfl (k.eq1 3 6 rfl) rfl (fun hg => (cT (nt hg) (k.eq1 11 14 rfl))), rfl⟩) <| .a (fun k => k.eq1 12 15 rfl) .nil
 refine aftI ad an ae fun ax ay ar ah ai au ak => ?_
 have ap := ak.ge 13 2 rfl
 refine st_nil (ag _ _ ?_)
 refine wp_ret (ret_k ah (v := .bool ((decide (a.k = 1)) || ((decide (a.k = 0)) && (decide (a.n = 0))))) (res_t rfl ap _) ?_)
 refine ⟨?_, ai⟩
 show Ending.returned (.bool ((decide (a.k = 1)) || ((decide (a.k = 0)) && (decide (a.n = 0))))) = Ending.returned (.bool (noughtB a))
 first | rfl | (simp only [noughtB, bsm] <;> rfl) | (exfalso; omega)
theorem below_c (a : Nm) (w : World) : Calls Tryz.prog 146 #[nv a] w (IsRet (.bool (belowB a)) w) := by
 refine enter_abs Tryz.func146 rfl fun a0 ab al hp => ?_
 have ab : a0.tmps.size = 21 := ab
 have ac : New w w := Upd.refl _ _
 have hp0 : a0.eval (.tmp 0) = nv a := hp 0 _ rfl
 refine wp_seq_k fun K1 am => ?_
 refine wp_g [true, true] [] [] 21
   [IsNew w 23 [iv a.k, iv a.n], vF]
   [0] (newsCons (fun v w h => IsNew.old h) newsNil) ab (.nw (.eq (.nil))) ?_ (fun i h => by cases h) ?_
 exact .o2 (step_allocN (cs := [iv a.k, iv a.n]) (t := 23) rfl (noG rfl) (fun _ w hn k => v_box rfl (k.fx 0 hp0) (fun w => rfl)) (fun q _ hq hb => ⟨q, rfl, hq, hb⟩)) <| .t (fun _ w hn k => ⟨_, v_assign rfl rfl, rfl⟩) .nil
 refine aftI ab al ac fun a2 w3 ad an ae av ao => ?_
 obtain ⟨q9, h8, af, aa⟩ : IsNew _ _ _ _ _ := ao.got 0 1 rfl (by kernel_rfl)
 have aq := Nat.le_trans ac.size af
 refine st_nil (am _ _ (wp_seq_k fun aw ag => ?_))
 refine wp_g0 (.replicate 19 true) [] 21
   [ve (pv q9), ve (iv a.k), ve (.bool (decide (a.k = 1))), ve (.bool (decide (a.k = 1))), ve (gq (!(decide (a.k = 1))) (pv q9)), ve (gq (!(decide (a.k = 1))) (iv a.k)), ve (gq (!(decide (a.k = 1))) (.bool (decide (a.k = 4)))), ve (.bool ((decide (a.k = 1)) || (decide (a.k = 4)))), ve (.bool ((decide (a.k = 1)) || (decide (a.k = 4)))), ve (gq (!((decide (a.k = 1)) || (decide (a.k = 4)))) (pv q9)), ve (gq (!((decide (a.k = 1)) || (decide (a.k = 4)))) (iv a.k)), ve (gq (!((decide (a.k = 1)) || (decide (a.k = 4)))) (.bool (decide (a.k = 0)))), ve (gq (!((decide (a.k = 1)) || (decide (a.k = 4)))) (.bool (decide (a.k = 0)))), ve (gq ((!((decide (a.k = 1)) || (decide (a.k = 4)))) && (decide (a.k = 0))) (.pointer (some ⟨q9, 1, none⟩))), ve (gq ((!((decide (a.k = 1)) || (decide (a.k = 4)))) && (decide (a.k = 0))) (iv a.n)), ve (gq ((!((decide (a.k = 1)) || (decide (a.k = 4)))) && (decide (a.k = 0))) (.bool (decide (a.n < 0)))), ve (gq (!((decide (a.k = 1)) || (decide (a.k = 4)))) (.bool ((decide (a.k = 0)) && (decide (a.n < 0))))), ve (.bool (((decide (a.k = 1)) || (decide (a.k = 4))) || ((decide (a.k = 0)) && (decide (a.n < 0))))), ve (.bool (((decide (a.k = 1)) || (decide (a.k = 4))) || ((decide (a.k = 0)) && (decide (a.n < 0)))))] ad (.eq (.eq (.eq (.eq (.eq (.eq (.eq (.eq (.eq (.eq (.eq (.eq (.eq (.eq (.eq (.eq (.eq (.eq (.eq (.nil)))))))))))))))))))) ?_ ?_
 exact .f (fun k => k.fx 1 h8) <| .t (fun _ w hn k => ⟨_, v_load rfl (k.eq1 0 3 rfl) (l_one Tryz.isAgg3 ((aa.new_ hn).cell 0)), rfl⟩) <| .t (fun _ w hn k => ⟨_, v_bin rfl (k.eq1 1 4 rfl) rfl (fun _ => rfl) (r_eql rfl), rfl⟩) <| .m (fun k => k.eq1 2 5 rfl) <| .o1 (sc (G := (!(decide (a.k = 1)))) rfl rfl rfl (fun _ _ k => g0' (k.eq1 3 6 rfl)) (fun hG _ w hn k => v_field rfl (k.fx 1 h8) (fun w => rfl))) <| .o1 (sc (G := (!(decide (a.k = 1)))) rfl rfl rfl (fun _ _ k => g0' (k.eq1 3 6 rfl)) (fun hG _ w hn k => v_load rfl (cT hG (k.eq1 4 7 rfl)) (l_one Tryz.isAgg3 ((aa.new_ hn).cell 0)))) <| .o1 (sc (G := (!(decide (a.k = 1)))) rfl rfl rfl (fun _ _ k => g0' (k.eq1 3 6 rfl)) (fun hG _ w hn k => v_bin rfl (cT hG (k.eq1 5 8 rfl)) rfl (fun _ => rfl) (r_eql rfl))) <| .t (fun _ w hn k => ⟨_, v_or rfl (k.eq1 3 6 rfl) rfl (fun hg => (cT (nt hg) (k.eq1 6 9 rfl))), rfl⟩) <| .m (fun k => k.eq1 7 10 rfl) <| .o1 (sc (G := (!((decide (a.k = 1)) || (decide (a.k = 4))))) rfl rfl rfl (fun _ _ k => g0' (k.eq1 8 11 rfl)) (fun hG _ w hn k => v_field rfl (k.fx 1 h8) (fun w => rfl))) <| .o1 (sc (G := (!((decide (a.k = 1)) || (decide (a.k = 4))))) rfl rfl rfl (fun _ _ k => g0' (k.eq1 8 11 rfl)) (fun hG _ w hn k => v_load rfl (cT hG (k.eq1 9 12 rfl)) (l_one Tryz.isAgg3 ((aa.new_ hn).cell 0)))) <| .o1 (sc (G := (!((decide (a.k = 1)) || (decide (a.k = 4))))) rfl rfl rfl (fun _ _ k => g0' (k.eq1 8 11 rfl)) (fun hG _ w hn k => v_bin rfl (cT hG (k.eq1 10 13 rfl)) rfl (fun _ => rfl) (r_eql rfl))) <| .o1 (sc (G := (!((decide (a.k = 1)) || (decide (a.k = 4))))) rfl rfl rfl (fun _ _ k => g0' (k.eq1 8 11 rfl)) (fun hG _ w hn k => v_move rfl (cT hG (k.eq1 11 14 rfl)))) <| .o1 (sc (G := ((!((decide (a.k = 1)) || (decide (a.k = 4)))) && (decide (a.k = 0)))) rfl rfl rfl (fun _ _ k => g1 (k.eq1 12 15 rfl)) (fun hG _ w hn k => v_field rfl (k.fx 1 h8) (fun w => rfl))) <| .o1 (sc (G := ((!((decide (a.k = 1)) || (decide (a.k = 4)))) && (decide (a.k = 0)))) rfl rfl rfl (fun _ _ k => g1 (k.eq1 12 15 rfl)) (fun hG _ w hn k => v_load rfl (cT hG (k.eq1 13 16 rfl)) (l_one Tryz.isAgg3 ((aa.new_ hn).cell 1)))) <| .o1 (sc (G := ((!((decide (a.k = 1)) || (decide (a.k = 4)))) && (decide (a.k = 0)))) rfl rfl rfl (fun _ _ k => g1 (k.eq1 12 15 rfl)) (fun hG _ w hn k => v_bin rfl (cT hG (k.eq1 14 17 rfl)) rfl (fun _ => rfl) (r_lssK rfl))) <| .o1 (sc (G := (!((decide (a.k = 1)) || (decide (a.k = 4))))) rfl rfl rfl (fun _ _ k => g0' (k.eq1 8 11 rfl)) (fun hG _ w hn k => v_and rfl (cT hG (k.eq1 12 15 rfl)) (fun hg => (cT (aj hG hg) (k.eq1 15 18 rfl))) rfl)) <| .t (fun _ w hn k => ⟨_, v_or rfl (k.eq1 8 11 rfl) rfl (fun hg => (cT (nt hg) (k.eq1 16 19 rfl))), rfl⟩) <| .a (fun k => k.eq1 17 20 rfl) .nil
 refine aftI ad an ae fun ax ay ar ah ai au ak => ?_
 have ap := ak.ge 18 2 rfl
 refine st_nil (ag _ _ ?_)
 refine wp_ret (ret_k ah (v := .bool (((decide (a.k = 1)) || (decide (a.k = 4))) || ((decide (a.k = 0)) && (decide (a.n < 0))))) (res_t rfl ap _) ?_)
 refine ⟨?_, ai⟩
 show Ending.returned (.bool (((decide (a.k = 1)) || (decide (a.k = 4))) || ((decide (a.k = 0)) && (decide (a.n < 0))))) = Ending.returned (.bool (belowB a))
 first | rfl | (simp only [belowB, bsm] <;> rfl) | (exfalso; omega)
theorem size_c (n : Int) (w : World) (h : -9007199254740991 ≤ n ∧ n ≤ 9007199254740991) : Calls Tryz.prog 149 #[iv n] w (IsRet (.int .u64 (sizeI n)) w) := by
 refine enter_abs Tryz.func149 rfl fun a0 aa ag hp => ?_
 have aa : a0.tmps.size = 8 := aa
 have ah : New w w := Upd.refl _ _
 have hp0 : a0.eval (.tmp 0) = iv n := hp 0 _ rfl
 refine wp_seq_k fun K1 ai => ?_
 refine wp_g0 [true] [] 8
   [ve (.int .u64 0)] aa (.eq (.nil)) ?_ ?_
 exact .t (fun _ w hn k => ⟨_, v_assign rfl rfl, rfl⟩) .nil
 refine aftI aa ag ah fun a2 w3 ab aj ak ap al => ?_
 have h8 := al.fx 0 hp0
 refine st_nil (ai _ _ (wp_seq_k fun aq ac => ?_))
 refine wp_g0 [true, true, true, true, true, true] [] 8
   [ve (iv n), ve (iv n), ve (iv (-n)), ve (iv (max n (-n))), ve (.int .u64 (max n (-n))), ve (.int .u64 (max n (-n)))] ab (.eq (.eq (.eq (.eq (.eq (.eq (.nil))))))) ?_ ?_
 exact .m (fun k => k.fx 0 h8) <| .m (fun k => k.fx 0 h8) <| .t (fun _ w hn k => ⟨_, v_neg rfl (k.eq1 1 4 rfl) (by omega), rfl⟩) <| .t (fun _ w hn k => ⟨_, v_max rfl (k.eq1 0 3 rfl) (k.eq1 2 5 rfl), rfl⟩) <| .t (fun _ w hn k => ⟨_, v_conv rfl (k.eq1 3 6 rfl) (run_conv (by kernel_rfl) (by kernel_rfl) (by kernel_rfl) (IntWalk.u64_in _ (by omega))), rfl⟩) <| .a (fun k => k.eq1 4 7 rfl) .nil
 refine aftI ab aj ak fun ar au an ad ae ao af => ?_
 have am := af.ge 5 2 rfl
 refine st_nil (ac _ _ ?_)
 refine wp_ret (ret_k ad (v := .int .u64 (max n (-n))) (res_t rfl am _) ?_)
 refine ⟨?_, ae⟩
 show Ending.returned (.int .u64 (max n (-n))) = Ending.returned (.int .u64 (sizeI n))
 first | rfl | (simp only [bsm] <;> rfl) | (simp []; done) | (exfalso; omega)
theorem ndiv0_c   (w : World) : Calls Tryz.prog 78 #[nv (Nm.mk 0 1), nv (Nm.mk 0 2)] w (IsRet (.tuple #[nv (Nm.mk 2 0), .bool false]) w) := by
 refine enter_abs Tryz.func78 rfl fun a0 ap cn hp => ?_
 have ap : a0.tmps.size = 77 := ap
 have aq : New w w := Upd.refl _ _
 have hp0 : a0.eval (.tmp 0) = nv (Nm.mk 0 1) := hp 0 _ rfl
 have hp1 : a0.eval (.tmp 1) = nv (Nm.mk 0 2) := hp 1 _ rfl
 have co : sizeI (asM (Nm.mk 0 2)).n = 2 := by decide +kernel
 have cp : sizeI (asM (Nm.mk 0 1)).n = 1 := by decide +kernel
 have c2 : -9007199254740991 ≤ (asM (Nm.mk 0 2)).n ∧ (asM (Nm.mk 0 2)).n ≤ 9007199254740991 := as_bd _
 have c3 : -9007199254740991 ≤ (asM (Nm.mk 0 1)).n ∧ (asM (Nm.mk 0 1)).n ≤ 9007199254740991 := as_bd _
 refine wp_seq_k fun K1 cq => ?_
 refine wp_g [true, true, true, true] [] [] 77
   [IsNew w 23 [iv 0, iv 1], IsNew w 23 [iv 0, iv 2], IsNew w 23 [iv 0, iv 0], vF]
   [0, 1, 2] (newsCons (fun v w h => IsNew.old h) (newsCons (fun v w h => IsNew.old h) (newsCons (fun v w h => IsNew.old h) newsNil))) ap (.nw (.nw (.nw (.eq (.nil))))) ?_ (fun i h => by cases h) ?_
 exact .o2 (step_allocN (cs := [iv 0, iv 1]) (t := 23) rfl (noG rfl) (fun _ w hn k => v_box rfl (k.fx 0 hp0) (fun w => rfl)) (fun q _ hq hb => ⟨q, rfl, hq, hb⟩)) <| .o2 (step_allocN (cs := [iv 0, iv 2]) (t := 23) rfl (noG rfl) (fun _ w hn k => v_box rfl (k.fx 1 hp1) (fun w => rfl)) (fun q _ hq hb => ⟨q, rfl, hq, hb⟩)) <| .o2 (step_allocN (cs := [iv 0, iv 0]) (t := 23) rfl (noG rfl) (fun _ w hn k => rfl) (fun q _ hq hb => ⟨q, rfl, hq, hb⟩)) <| .t (fun _ w hn k => ⟨_, v_assign rfl rfl, rfl⟩) .nil
 refine aftI ap cn aq fun a2 w3 bB cr bG c4 ag => ?_
 obtain ⟨q9, h8, bH, aF⟩ : IsNew _ _ _ _ _ := ag.got 0 2 rfl (by kernel_rfl)
 obtain ⟨aG, ar, bI, aH⟩ : IsNew _ _ _ _ _ := ag.got 1 3 rfl (by kernel_rfl)
 obtain ⟨bC, aI, bJ, bK⟩ : IsNew _ _ _ _ _ := ag.got 2 4 rfl (by kernel_rfl)
 have hne20 : q9 ≠ aG := ag.ne 0 1 2 3 h8 ar
 have hne21 : q9 ≠ bC := ag.ne 0 2 2 4 h8 aI
 have hne22 : aG ≠ bC := ag.ne 1 2 3 4 ar aI
 have cI := Nat.le_trans aq.size bH
 have cJ := Nat.le_trans aq.size bI
 have cK := Nat.le_trans aq.size bJ
 refine st_nil (cq _ _ (wp_seq_k fun c5 bL => ?_))
 refine wp_g0 [true, true, true, true, false, false] [(4, false), (5, false)] 77
   [ve (nv (Nm.mk 0 1)), ve (nv (asM (Nm.mk 0 1))), ve (nv (Nm.mk 0 2)), ve (nv (asM (Nm.mk 0 2))), vt, vt] bB (.eq (.eq (.eq (.eq (.tt (.tt (.nil))))))) ?_ ?_
 exact .t (fun _ w hn k => ⟨_, v_load rfl (k.fx 2 h8) (l_two Tryz.isAgg23 Tryz.sizeOf23 (aF.new_ hn)), rfl⟩) <| .o1 (ck rfl rfl rfl (fun _ w hn k => ⟨#[nv (Nm.mk 0 1)], args1 (k.eq1 0 7 rfl), fun _ => by kernel_rfl, as_c (Nm.mk 0 1) _ ⟩) fun _ => rfl) <| .t (fun _ w hn k => ⟨_, v_load rfl (k.fx 3 ar) (l_two Tryz.isAgg23 Tryz.sizeOf23 (aH.new_ hn)), rfl⟩) <| .o1 (ck rfl rfl rfl (fun _ w hn k => ⟨#[nv (Nm.mk 0 2)], args1 (k.eq1 2 9 rfl), fun _ => by kernel_rfl, as_c (Nm.mk 0 2) _ ⟩) fun _ => rfl) <| .off <| .off .nil
 refine aftI bB cr bG fun c6 c7 aJ bM bN am ae => ?_
 have aK := ae.fx 2 h8
 have aL := ae.fx 3 ar
 have ct := ae.fx 4 aI
 have cu := ae.ge 1 8 rfl
 have cv := ae.ge 3 10 rfl
 have bO := aF.new_ am
 have bP := aH.new_ am
 have bQ := bK.new_ am
 have hbd_Nmmk01 := as_bd (Nm.mk 0 1)
 have hbd_Nmmk02 := as_bd (Nm.mk 0 2)
 obtain ⟨c8, -, a9, bR, bS, aM⟩ := s_two (v0 := iv ((asM (Nm.mk 0 1)).k)) (v1 := iv ((asM (Nm.mk 0 1)).n)) Tryz.sizeOf23 rfl rfl rfl bO
 refine st_act rfl rfl fun c9 bT => a_store' rfl aK cu a9 (bT _ _ trivial ?_)
 have bU := aM _ _ _ (fun h => hne20 h.symm) bP
 have bV := aM _ _ _ (fun h => hne21 h.symm) bQ
 have bW := bN.trans bS (fun _ h b => by subst b; omega)
 obtain ⟨da, -, ba, aN, bX, aO⟩ := s_two (v0 := iv ((asM (Nm.mk 0 2)).k)) (v1 := iv ((asM (Nm.mk 0 2)).n)) Tryz.sizeOf23 rfl rfl rfl bU
 refine st_act rfl rfl fun db bY => a_store' rfl aL cv ba (bY _ _ trivial ?_)
 have aP := aO _ _ _ (hne20) bR
 have bZ := aO _ _ _ (fun h => hne22 h.symm) bV
 have b0 := bW.trans bX (fun _ h b => by subst b; omega)
 refine st_nil (bL _ _ (wp_seq_k fun dc b1 => ?_))
 refine wp_g0 [true, true, true, true, true, true] [] 77
   [ve (nv (asM (Nm.mk 0 1))), ve (.bool (belowB (asM (Nm.mk 0 1)))), ve (nv (asM (Nm.mk 0 2))), ve (.bool (belowB (asM (Nm.mk 0 2)))), ve (.bool ((belowB (asM (Nm.mk 0 1))) != (belowB (asM (Nm.mk 0 2))))), ve (.bool ((belowB (asM (Nm.mk 0 1))) != (belowB (asM (Nm.mk 0 2)))))] aJ (.eq (.eq (.eq (.eq (.eq (.eq (.nil))))))) ?_ ?_
 exact .t (fun _ w hn k => ⟨_, v_load rfl (k.fx 2 aK) (l_two Tryz.isAgg23 Tryz.sizeOf23 (aP.new_ hn)), rfl⟩) <| .o1 (ck rfl rfl rfl (fun _ w hn k => ⟨#[nv (asM (Nm.mk 0 1))], args1 (k.eq1 0 11 rfl), fun _ => by kernel_rfl, below_c (asM (Nm.mk 0 1)) _ ⟩) fun _ => rfl) <| .t (fun _ w hn k => ⟨_, v_load rfl (k.fx 3 aL) (l_two Tryz.isAgg23 Tryz.sizeOf23 (aN.new_ hn)), rfl⟩) <| .o1 (ck rfl rfl rfl (fun _ w hn k => ⟨#[nv (asM (Nm.mk 0 2))], args1 (k.eq1 2 13 rfl), fun _ => by kernel_rfl, below_c (asM (Nm.mk 0 2)) _ ⟩) fun _ => rfl) <| .t (fun _ w hn k => ⟨_, v_bin rfl (k.eq1 1 12 rfl) (k.eq1 3 14 rfl) (fun _ => rfl) (r_neqB _ _), rfl⟩) <| .a (fun k => k.eq1 4 15 rfl) .nil
 refine aftI aJ bM b0 fun dd de aQ b2 b3 an ah => ?_
 have au := ah.fx 2 aK
 have bD := ah.fx 3 aL
 have cw := ah.fx 4 ct
 have cx := ah.ge 5 6 rfl
 have ai := aP.new_ an
 have aR := aN.new_ an
 have b4 := bZ.new_ an
 refine st_nil (b1 _ _ (wp_seq_k fun df cL => ?_))
 refine wp_block ?_
 refine wp_seq_k fun dg b5 => ?_
 have aS : (decide ((asM (Nm.mk 0 1)).k = 2)) = false := by decide +kernel
 have cC := oF aS
 have aT : (decide ((asM (Nm.mk 0 2)).k = 2)) = false := by decide +kernel
 have cD := oF aT
 have aU : (infB (asM (Nm.mk 0 1)).k) = false := by decide +kernel
 have aV : (noughtB (asM (Nm.mk 0 1))) = false := by decide +kernel
 refine wp_g0 (.replicate 23 true) [] 77
   [ve (nv (asM (Nm.mk 0 1))), vF, vF, ve (nv (asM (Nm.mk 0 2))), vF, vF, vF, ve (nv (asM (Nm.mk 0 1))), vF, vF, vU, vU, vF, vF, vF, ve (nv (asM (Nm.mk 0 1))), vF, vF, vU, vU, vF, vF, vF] aQ (.eq (.eq (.eq (.eq (.eq (.eq (.eq (.eq (.eq (.eq (.eq (.eq (.eq (.eq (.eq (.eq (.eq (.eq (.eq (.eq (.eq (.eq (.eq (.nil)))))))))))))))))))))))) ?_ ?_
 exact .t (fun _ w hn k => ⟨_, v_load rfl (k.fx 2 au) (l_two Tryz.isAgg23 Tryz.sizeOf23 (ai.new_ hn)), rfl⟩) <| .o1 (ck rfl rfl rfl (fun _ w hn k => ⟨#[nv (asM (Nm.mk 0 1))], args1 (k.eq1 0 17 rfl), fun _ => by kernel_rfl, isNaN_c (asM (Nm.mk 0 1)) _ ⟩) fun _ => congrArg Value.bool aS) <| .m (fun k => k.eq1 1 18 rfl) <| .g (fun k => k.eq1 2 19 rfl) (fun _ w hn k => ⟨_, v_load rfl (k.fx 3 bD) (l_two Tryz.isAgg23 Tryz.sizeOf23 (aR.new_ hn)), rfl⟩) <| .o1 (cg rfl rfl rfl (fun _ _ k => k.eq1 2 19 rfl) rfl (fun _ w hn k => ⟨#[nv (asM (Nm.mk 0 2))], args1 (k.eq1 3 20 rfl), fun _ => by kernel_rfl, isNaN_c (asM (Nm.mk 0 2)) _ ⟩) fun _ => congrArg Value.bool aT) <| .t (fun _ w hn k => ⟨_, v_pickF rfl (k.eq1 2 19 rfl) (k.eq1 4 21 rfl), rfl⟩) <| .m (fun k => k.eq1 5 22 rfl) <| .g (fun k => k.eq1 6 23 rfl) (fun _ w hn k => ⟨_, v_load rfl (k.fx 2 au) (l_two Tryz.isAgg23 Tryz.sizeOf23 (ai.new_ hn)), rfl⟩) <| .o1 (cg rfl rfl rfl (fun _ _ k => k.eq1 6 23 rfl) rfl (fun _ w hn k => ⟨#[nv (asM (Nm.mk 0 1))], args1 (k.eq1 7 24 rfl), fun _ => by kernel_rfl, isInf_c (asM (Nm.mk 0 1)) _ ⟩) fun _ => congrArg Value.bool aU) <| .gm (fun k => k.eq1 6 23 rfl) (fun k => k.eq1 8 25 rfl) <| .s (fun k => k.eq1 9 26 rfl) <| .s (fun k => k.eq1 9 26 rfl) <| .g (fun k => k.eq1 6 23 rfl) (fun _ w hn k => ⟨_, v_pickF rfl (k.eq1 9 26 rfl) rfl, rfl⟩) <| .t (fun _ w hn k => ⟨_, v_pickF rfl (k.eq1 6 23 rfl) (k.eq1 12 29 rfl), rfl⟩) <| .m (fun k => k.eq1 13 30 rfl) <| .g (fun k => k.eq1 14 31 rfl) (fun _ w hn k => ⟨_, v_load rfl (k.fx 2 au) (l_two Tryz.isAgg23 Tryz.sizeOf23 (ai.new_ hn)), rfl⟩) <| .o1 (cg rfl rfl rfl (fun _ _ k => k.eq1 14 31 rfl) rfl (fun _ w hn k => ⟨#[nv (asM (Nm.mk 0 1))], args1 (k.eq1 15 32 rfl), fun _ => by kernel_rfl, isNought_c (asM (Nm.mk 0 1)) _ ⟩) fun _ => congrArg Value.bool aV) <| .gm (fun k => k.eq1 14 31 rfl) (fun k => k.eq1 16 33 rfl) <| .s (fun k => k.eq1 17 34 rfl) <| .s (fun k => k.eq1 17 34 rfl) <| .g (fun k => k.eq1 14 31 rfl) (fun _ w hn k => ⟨_, v_pickF rfl (k.eq1 17 34 rfl) rfl, rfl⟩) <| .t (fun _ w hn k => ⟨_, v_pickF rfl (k.eq1 14 31 rfl) (k.eq1 20 37 rfl), rfl⟩) <| .a (fun k => k.eq1 21 38 rfl) .nil
 refine aftI aQ b2 b3 fun dh di aW b6 b7 ao af => ?_
 have bE := af.fx 2 au
 have bF := af.fx 3 bD
 have cy := af.fx 4 cw
 have cz := af.fx 6 cx
 have cA := af.ge 22 16 rfl
 have aX := ai.new_ ao
 have aY := aR.new_ ao
 have b8 := b4.new_ ao
 refine st_nil (b5 _ _ ?_)
 refine wp_cond_false cA ?_
 refine wp_seq_k fun dj b9 => ?_
 refine wp_g0 [true, true, true, true, true, true, true] [] 77
   [ve (nv (asM (Nm.mk 0 1))), vF, vF, ve (nv (asM (Nm.mk 0 2))), ve (.bool (noughtB (asM (Nm.mk 0 2)))), ve (.bool (noughtB (asM (Nm.mk 0 2)))), ve (.bool (noughtB (asM (Nm.mk 0 2))))] aW (.eq (.eq (.eq (.eq (.eq (.eq (.eq (.nil)))))))) ?_ ?_
 exact .t (fun _ w hn k => ⟨_, v_load rfl (k.fx 2 bE) (l_two Tryz.isAgg23 Tryz.sizeOf23 (aX.new_ hn)), rfl⟩) <| .o1 (ck rfl rfl rfl (fun _ w hn k => ⟨#[nv (asM (Nm.mk 0 1))], args1 (k.eq1 0 41 rfl), fun _ => by kernel_rfl, isInf_c (asM (Nm.mk 0 1)) _ ⟩) fun _ => congrArg Value.bool aU) <| .m (fun k => k.eq1 1 42 rfl) <| .g (fun k => k.eq1 2 43 rfl) (fun _ w hn k => ⟨_, v_load rfl (k.fx 3 bF) (l_two Tryz.isAgg23 Tryz.sizeOf23 (aY.new_ hn)), rfl⟩) <| .o1 (cg rfl rfl rfl (fun _ _ k => k.eq1 2 43 rfl) rfl (fun _ w hn k => ⟨#[nv (asM (Nm.mk 0 2))], args1 (k.eq1 3 44 rfl), fun _ => by kernel_rfl, isNought_c (asM (Nm.mk 0 2)) _ ⟩) fun _ => rfl) <| .t (fun _ w hn k => ⟨_, v_pickF rfl (k.eq1 2 43 rfl) (k.eq1 4 45 rfl), rfl⟩) <| .a (fun k => k.eq1 5 46 rfl) .nil
 refine aftI aW b6 b7 fun cM cN av bb bd aj ab => ?_
 have aZ := ab.fx 2 bE
 have a1 := ab.fx 3 bF
 have ca := ab.fx 4 cy
 have cb := ab.fx 6 cz
 have cc := ab.ge 6 40 rfl
 have aw := aX.new_ aj
 have ax := aY.new_ aj
 have be := b8.new_ aj
 refine st_nil (b9 _ _ ?_)
 have bf : (noughtB (asM (Nm.mk 0 2))) = false := by decide +kernel
 have bg := hB cc bf
 refine wp_cond_false bg ?_
 refine wp_seq_k fun cO bh => ?_
 have bi : (infB (asM (Nm.mk 0 2)).k) = false := by decide +kernel
 refine wp_g0 [true, true, true, true, true, true, true] [] 77
   [ve (nv (asM (Nm.mk 0 2))), vF, vF, ve (nv (asM (Nm.mk 0 1))), vF, vF, vF] av (.eq (.eq (.eq (.eq (.eq (.eq (.eq (.nil)))))))) ?_ ?_
 exact .t (fun _ w hn k => ⟨_, v_load rfl (k.fx 3 a1) (l_two Tryz.isAgg23 Tryz.sizeOf23 (ax.new_ hn)), rfl⟩) <| .o1 (ck rfl rfl rfl (fun _ w hn k => ⟨#[nv (asM (Nm.mk 0 2))], args1 (k.eq1 0 50 rfl), fun _ => by kernel_rfl, isInf_c (asM (Nm.mk 0 2)) _ ⟩) fun _ => congrArg Value.bool bi) <| .m (fun k => k.eq1 1 51 rfl) <| .g (fun k => k.eq1 2 52 rfl) (fun _ w hn k => ⟨_, v_load rfl (k.fx 2 aZ) (l_two Tryz.isAgg23 Tryz.sizeOf23 (aw.new_ hn)), rfl⟩) <| .o1 (cg rfl rfl rfl (fun _ _ k => k.eq1 2 52 rfl) rfl (fun _ w hn k => ⟨#[nv (asM (Nm.mk 0 1))], args1 (k.eq1 3 53 rfl), fun _ => by kernel_rfl, isNought_c (asM (Nm.mk 0 1)) _ ⟩) fun _ => congrArg Value.bool aV) <| .t (fun _ w hn k => ⟨_, v_pickF rfl (k.eq1 2 52 rfl) (k.eq1 4 54 rfl), rfl⟩) <| .a (fun k => k.eq1 5 55 rfl) .nil
 refine aftI av bb bd fun cP cQ ay bj bk ak ac => ?_
 have a3 := ac.fx 2 aZ
 have a4 := ac.fx 3 a1
 have cd := ac.fx 4 ca
 have ce := ac.fx 6 cb
 have cf := ac.ge 6 49 rfl
 have az := aw.new_ ak
 have aA := ax.new_ ak
 have bl := be.new_ ak
 refine st_nil (bh _ _ ?_)
 refine wp_cond_false cf ?_
 refine wp_seq_k fun cR bm => ?_
 have aB : (decide (((sizeI ((asM (Nm.mk 0 1)).n)).tmod (sizeI ((asM (Nm.mk 0 2)).n))) = 0)) = false := by decide +kernel
 have cB := oF aB
 have co : sizeI (asM (Nm.mk 0 2)).n = 2 := by decide +kernel
 have cp : sizeI (asM (Nm.mk 0 1)).n = 1 := by decide +kernel
 refine wp_g0 (.replicate 9 true) [] 77
   [ve (.pointer (some ⟨q9, 1, none⟩)), ve (iv ((asM (Nm.mk 0 1)).n)), ve (.int .u64 (sizeI ((asM (Nm.mk 0 1)).n))), ve (.pointer (some ⟨aG, 1, none⟩)), ve (iv ((asM (Nm.mk 0 2)).n)), ve (.int .u64 (sizeI ((asM (Nm.mk 0 2)).n))), ve (.int .u64 ((sizeI ((asM (Nm.mk 0 1)).n)).tmod (sizeI ((asM (Nm.mk 0 2)).n)))), vT, vT] ay (.eq (.eq (.eq (.eq (.eq (.eq (.eq (.eq (.eq (.nil)))))))))) ?_ ?_
 exact .f (fun k => k.fx 2 a3) <| .t (fun _ w hn k => ⟨_, v_load rfl (k.eq1 0 59 rfl) (l_one Tryz.isAgg3 ((az.new_ hn).cell 1)), rfl⟩) <| .o1 (ck rfl rfl rfl (fun _ w hn k => ⟨#[iv ((asM (Nm.mk 0 1)).n)], args1 (k.eq1 1 60 rfl), fun _ => by kernel_rfl, size_c ((asM (Nm.mk 0 1)).n) _ (by omega)⟩) fun _ => rfl) <| .f (fun k => k.fx 3 a4) <| .t (fun _ w hn k => ⟨_, v_load rfl (k.eq1 3 62 rfl) (l_one Tryz.isAgg3 ((aA.new_ hn).cell 1)), rfl⟩) <| .o1 (ck rfl rfl rfl (fun _ w hn k => ⟨#[iv ((asM (Nm.mk 0 2)).n)], args1 (k.eq1 4 63 rfl), fun _ => by kernel_rfl, size_c ((asM (Nm.mk 0 2)).n) _ (by omega)⟩) fun _ => rfl) <| .t (fun _ w hn k => ⟨_, v_bin rfl (k.eq1 2 61 rfl) (k.eq1 5 64 rfl) (fun _ => rfl) (r_remU rfl (by omega)), rfl⟩) <| .t (fun _ w hn k => ⟨_, v_bin rfl (k.eq1 6 65 rfl) rfl (fun _ => rfl) (r_neq aB), rfl⟩) <| .a (fun k => k.eq1 7 66 rfl) .nil
 refine aftI ay bj bk fun cS cT aC bn bo al ad => ?_
 have cU := ad.fx 2 a3
 have cV := ad.fx 3 a4
 have ch := ad.fx 4 cd
 have cW := ad.fx 6 ce
 have ci := ad.ge 8 58 rfl
 have cE := az.new_ al
 have cF := aA.new_ al
 have bp := bl.new_ al
 refine st_nil (bm _ _ ?_)
 refine wp_cond_true ci ?_
 refine wp_seq_k fun cX bq => ?_
 refine wp_g0 [true, false, false] [(1, false), (2, true)] 77
   [ve (nv (Nm.mk 2 0)), vt, vt] aC (.eq (.tt (.tt (.nil)))) ?_ ?_
 exact .o1 (ck rfl rfl rfl (fun _ w hn k => ⟨#[], rfl, fun _ => by kernel_rfl, nan_c  _ ⟩) fun _ => rfl) <| .off <| .off .nil
 refine aftI aC bn bo fun a5 cY aD br bs bt aE => ?_
 have a6 := aE.fx 4 ch
 have a7 := aE.ge 0 67 rfl
 have bu := bp.new_ bt
 obtain ⟨cZ, -, a8, bv, bw, cG⟩ := s_two (v0 := iv 2) (v1 := iv 0) Tryz.sizeOf23 rfl rfl rfl bu
 refine st_act rfl rfl fun c0 bx => a_store' rfl a6 a7 a8 (bx _ _ trivial ?_)
 have bz := bs.trans bw (fun _ h b => by subst b; omega)
 refine st_take rfl rfl (y_assign (v := .bool false) rfl rfl) rfl ?_
 obtain ⟨cj, aa⟩ : ∃ a', a' = a5.put (some 5) (.bool false) := ⟨_, rfl⟩
 have cH := pz aa aD
 have bA := pd aa br
 have cl := pn aa a6 (by decide)
 have c1 := pn aa a7 (by decide)
 have cm : cj.eval (.tmp 5) = .bool false := by rw [aa]; exact put_same _ _ _ (by rw [aD]; decide)
 show stepsTo _ _ _ _ _ (a5.put (some 5) (.bool false)) _
 rw [← aa]
 refine st_nil (bq _ _ ?_)
 refine wp_ret (ret_k bA (v := .tuple #[nv (Nm.mk 2 0), .bool false]) (res_ct rfl cl cm (l_two Tryz.isAgg23 Tryz.sizeOf23 bv)) ?_)
 exact ⟨rfl, bz⟩
theorem ndivS_c (a b : Nm) (w : World) (ha : a = ⟨0, 1⟩) (hb : b = ⟨0, 2⟩) : Calls Tryz.prog 78 #[nv a, nv b] w (IsRet (.tuple #[nv (Nm.mk 2 0), .bool false]) w) := by
  subst ha hb
  exact ndiv0_c w
def numberedV (a : Nm) (b : Bool) : Int × Nm × Int := if b then (3, a, 0) else (0, ⟨0, 0⟩, 3)
theorem VOk.numeric {v : Vl} (h : VOk v) : VOk (numericV v).1 := by
  have h1 := number_may (cleanV v)
  unfold numericV
  split
  · exact ⟨h.clean.limbs, U16s.nil, h.clean.mlen, Nat.zero_le _, (by decide : (-9223372036854775808 : Int) ≤ 0), (by decide : (0 : Int) ≤ 9223372036854775807), (by decide : (-9223372036854775808 : Int) ≤ 0), (by decide : (0 : Int) ≤ 9223372036854775807)⟩
  · split
    · rename_i h2
      have h3 := h1 (of_decide_eq_true h2)
      have h4 := as_bd (numberV (cleanV v)).1
      unfold asM at h4
      rw [if_pos h3] at h4
      exact ⟨Limbs.nil, U16s.nil, Nat.zero_le _, Nat.zero_le _, (show -9223372036854775808 ≤ (numberV (cleanV v)).1.n by omega), (show (numberV (cleanV v)).1.n ≤ 9223372036854775807 by omega), (by decide : (-9223372036854775808 : Int) ≤ 0), (by decide : (0 : Int) ≤ 9223372036854775807)⟩
    · exact VOk.z
theorem VOk.numerics1 {v u : Vl} (h : VOk v) (h2 : VOk u) : VOk (numericsV v u).1 := by
  unfold numericsV
  repeat' split
  all_goals first | exact h.numeric | exact VOk.z
theorem VOk.numerics2 {v u : Vl} (h : VOk v) (h2 : VOk u) : VOk (numericsV v u).2.1 := by
  unfold numericsV
  repeat' split
  all_goals first | exact h2.numeric | exact VOk.z
theorem numbered_c (a : Nm) (b : Bool) (w : World) : Calls Tryz.prog 65 #[nv a, .bool b] w (IsRet (.tuple #[vv (Vl.mk (numberedV a b).1 (numberedV a b).2.1.k (numberedV a b).2.1.n false [] [] 0) none 0 none 0, iv ((numberedV a b).2.2)]) w) := by
 refine enter_abs Tryz.func65 rfl fun a0 af bf hp => ?_
 have af : a0.tmps.size = 11 := af
 have ah : New w w := Upd.refl _ _
 have hp0 : a0.eval (.tmp 0) = nv a := hp 0 _ rfl
 have hp1 : a0.eval (.tmp 1) = .bool b := hp 1 _ rfl
 refine wp_seq_k fun K1 bg => ?_
 refine wp_g [true, true, true] [] [] 11
   [IsNew w 23 [iv a.k, iv a.n], IsNew w 29 [iv 0, iv 0, iv 0, .bool false, sv none ([]) 0, sv none ([]) 0, iv 0], ve (iv 0)]
   [0, 1] (newsCons (fun v w h => IsNew.old h) (newsCons (fun v w h => IsNew.old h) newsNil)) af (.nw (.nw (.eq (.nil)))) ?_ (fun i h => by cases h) ?_
 exact .o2 (step_allocN (cs := [iv a.k, iv a.n]) (t := 23) rfl (noG rfl) (fun _ w hn k => v_box rfl (k.fx 0 hp0) (fun w => rfl)) (fun q _ hq hb => ⟨q, rfl, hq, hb⟩)) <| .o2 (step_allocN (cs := [iv 0, iv 0, iv 0, .bool false, sv none ([]) 0, sv none ([]) 0, iv 0]) (t := 29) rfl (noG rfl) (fun _ w hn k => rfl) (fun q _ hq hb => ⟨q, rfl, hq, hb⟩)) <| .t (fun _ w hn k => ⟨_, v_assign rfl rfl, rfl⟩) .nil
 refine aftI af bf ah fun a2 w3 ax bh aI bz ag => ?_
 have h8 := ag.fx 1 hp1
 obtain ⟨bi, h9, aJ, aK⟩ : IsNew _ _ _ _ _ := ag.got 0 2 rfl (by kernel_rfl)
 obtain ⟨ai, ay, aL, aM⟩ : IsNew _ _ _ _ _ := ag.got 1 4 rfl (by kernel_rfl)
 have hne17 : bi ≠ ai := ag.ne 0 1 2 4 h9 ay
 have bs := Nat.le_trans ah.size aJ
 have bt := Nat.le_trans ah.size aL
 refine st_nil (bg _ _ (wp_seq_k fun bA aN => ?_))
 refine wp_seq_k fun bB aO => ?_
 refine wp_g0 [true, true] [] 11
   [ve (.bool b), ve (.bool (!b))] ax (.eq (.eq (.nil))) ?_ ?_
 exact .m (fun k => k.fx 1 h8) <| .t (fun _ w hn k => ⟨_, v_not rfl (k.eq1 0 6 rfl), rfl⟩) .nil
 refine aftI ax bh aI fun az bC ad aj ak al ae => ?_
 have bj := ae.fx 2 h9
 have aA := ae.fx 4 ay
 have aB := ae.ge 1 7 rfl
 have aP := aK.new_ al
 have am := aM.new_ al
 refine st_nil (aO _ _ ?_)
 rcases bc (b) with ac | ac
 have aQ : az.eval (.tmp 7) = .bool false := aB.trans (congrArg Value.bool (by rw [ac]; rfl))
 refine wp_cond_false aQ ?_
 refine wp_skip ?_
 refine aN _ _ ?_
 refine wp_seq_k fun bD aR => ?_
 refine wp_g0 [true, true, false, false] [(2, false), (3, true)] 11
   [ve (nv a), ve (vv (Vl.mk 3 a.k a.n false [] [] 0) none 0 none 0), vt, vt] ad (.eq (.eq (.tt (.tt (.nil))))) ?_ ?_
 exact .t (fun _ w hn k => ⟨_, v_load rfl (k.fx 2 bj) (l_two Tryz.isAgg23 Tryz.sizeOf23 (aP.new_ hn)), rfl⟩) <| .o1 (ck rfl rfl rfl (fun _ w hn k => ⟨#[nv a], args1 (k.eq1 0 9 rfl), fun _ => by kernel_rfl, cnum_c a _ ⟩) fun _ => rfl) <| .off <| .off .nil
 refine aftI ad aj ak fun aC bE an aS aT aU ao => ?_
 have aD := ao.fx 4 aA
 have aE := ao.ge 1 10 rfl
 have aV := am.new_ aU
 obtain ⟨bk, ar, au, aW, bu⟩ := s_many (P := Tryz.prog) (t := 29) (i := 0) [iv 3, iv a.k, iv a.n, .bool false, sv none ([]) 0, sv none ([]) 0, iv 0] Tryz.sizeOf29 rfl rfl rfl aV lb
 have aX : Blk bk ai 29 [iv 3, iv a.k, iv a.n, .bool false, sv none ([]) 0, sv none ([]) 0, iv 0] := au
 refine st_act rfl rfl fun bF aY => a_store' rfl aD aE ar (aY _ _ trivial ?_)
 have aZ := aT.trans aW (fun _ h b => by subst b; omega)
 refine st_take rfl rfl (y_assign (v := iv 0) rfl rfl) rfl ?_
 obtain ⟨bl, aa⟩ : ∃ a', a' = aC.put (some 5) (iv 0) := ⟨_, rfl⟩
 have bv := pz aa an
 have a1 := pd aa aS
 have bm := pn aa aD (by decide)
 have bG := pn aa aE (by decide)
 have bn : bl.eval (.tmp 5) = iv 0 := by rw [aa]; exact put_same _ _ _ (by rw [an]; decide)
 show stepsTo _ _ _ _ _ (aC.put (some 5) (iv 0)) _
 rw [← aa]
 refine st_nil (aR _ _ ?_)
 refine wp_ret (ret_k a1 (v := .tuple #[vv (Vl.mk 3 a.k a.n false [] [] 0) none 0 none 0, iv 0]) (res_ct rfl bm bn (l_agg Tryz.isAgg29 Tryz.sizeOf29 aX rfl)) ?_)
 refine ⟨?_, aZ⟩
 show Ending.returned (.tuple #[vv (Vl.mk 3 a.k a.n false [] [] 0) none 0 none 0, iv 0]) = Ending.returned (.tuple #[vv (Vl.mk (numberedV a b).1 (numberedV a b).2.1.k (numberedV a b).2.1.n false [] [] 0) none 0 none 0, iv ((numberedV a b).2.2)])
 first | rfl | (simp only [numberedV, ac, bsm] <;> rfl) | (exfalso; omega)
 have a3 : az.eval (.tmp 7) = .bool true := aB.trans (congrArg Value.bool (by rw [ac]; rfl))
 refine wp_cond_true a3 ?_
 refine wp_seq_k fun bH a4 => ?_
 refine wp_g0 [true, false, false] [(1, false), (2, true)] 11
   [ve (vv (Vl.mk 0 0 0 false [] [] 0) none 0 none 0), vt, vt] ad (.eq (.tt (.tt (.nil)))) ?_ ?_
 exact .t (fun _ w hn k => ⟨_, v_build (ps := []) rfl parts0 (by kernel_rfl), rfl⟩) <| .off <| .off .nil
 refine aftI ad aj ak fun aF bI ap a5 a6 a7 aq => ?_
 have aG := aq.fx 4 aA
 have aH := aq.ge 0 8 rfl
 have a8 := am.new_ a7
 obtain ⟨bo, av, aw, a9, bw⟩ := s_many (P := Tryz.prog) (t := 29) (i := 0) [iv 0, iv 0, iv 0, .bool false, sv none ([]) 0, sv none ([]) 0, iv 0] Tryz.sizeOf29 rfl rfl rfl a8 lb
 have ba : Blk bo ai 29 [iv 0, iv 0, iv 0, .bool false, sv none ([]) 0, sv none ([]) 0, iv 0] := aw
 refine st_act rfl rfl fun bJ bb => a_store' rfl aG aH av (bb _ _ trivial ?_)
 have bd := a6.trans a9 (fun _ h b => by subst b; omega)
 refine st_take rfl rfl (y_assign (v := iv 3) rfl rfl) rfl ?_
 obtain ⟨bp, ab⟩ : ∃ a', a' = aF.put (some 5) (iv 3) := ⟨_, rfl⟩
 have bx := pz ab ap
 have be := pd ab a5
 have bq := pn ab aG (by decide)
 have bK := pn ab aH (by decide)
 have br : bp.eval (.tmp 5) = iv 3 := by rw [ab]; exact put_same _ _ _ (by rw [ap]; decide)
 show stepsTo _ _ _ _ _ (aF.put (some 5) (iv 3)) _
 rw [← ab]
 refine st_nil (a4 _ _ ?_)
 refine wp_ret (ret_k be (v := .tuple #[vv (Vl.mk 0 0 0 false [] [] 0) none 0 none 0, iv 3]) (res_ct rfl bq br (l_agg Tryz.isAgg29 Tryz.sizeOf29 ba rfl)) ?_)
 refine ⟨?_, bd⟩
 show Ending.returned (.tuple #[vv (Vl.mk 0 0 0 false [] [] 0) none 0 none 0, iv 3]) = Ending.returned (.tuple #[vv (Vl.mk (numberedV a b).1 (numberedV a b).2.1.k (numberedV a b).2.1.n false [] [] 0) none 0 none 0, iv ((numberedV a b).2.2)])
 first | rfl | (simp only [numberedV, ac, bsm] <;> rfl) | (exfalso; omega)
def numerics_c_P (v : Vl) (Av : Option Addr) (cv : Nat) (Bv : Option Addr) (dv : Nat) (u : Vl) (Au : Option Addr) (cu : Nat) (Bu : Option Addr) (du : Nat) (w : World) (en : Ending) (w' : World) : Prop := ∃ (Ar0 : Option Addr) (cr0 : Nat) (Ar1 : Option Addr) (cr1 : Nat) (Ar2 : Option Addr) (cr2 : Nat) (Ar3 : Option Addr) (cr3 : Nat), en = .returned (.tuple #[vv (numericsV v u).1 Ar0 cr0 Ar1 cr1, vv (numericsV v u).2.1 Ar2 cr2 Ar3 cr3, iv ((numericsV v u).2.2)]) ∧ SRow w' .u32 Ar0 ((numericsV v u).1.mag) cr0 ∧ SRow w' .u16 Ar1 ((numericsV v u).1.s) cr1 ∧ SRow w' .u32 Ar2 ((numericsV v u).2.1.mag) cr2 ∧ SRow w' .u16 Ar3 ((numericsV v u).2.1.s) cr3 ∧ New w w'
end Go.Proofs.YtjakfchffigkkaaGreatDoor
