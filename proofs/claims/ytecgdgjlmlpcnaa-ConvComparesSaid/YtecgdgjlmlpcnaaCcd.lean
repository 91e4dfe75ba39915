import Derived.Test.YtecgdgjlmlpcnaaCcc
namespace Go.Proofs.Ytecgdgjlmlpcnaa
open Go.RowKit
set_option linter.unusedSimpArgs false
set_option linter.unusedVariables false
set_option maxHeartbeats 16000000
set_option maxRecDepth 100000
theorem sword_c (Am : Option Addr) (m : List Nat) (cm : Nat) (i : Int) (w : World) (hrm : SRow w .u32 Am m cm) (hl : Limbs m) (hi : 0 ≤ i) : Calls Try.prog 104 #[sv Am m cm, iv i] w (IsRet (.int .u64 ((m.getD i.toNat 0 : Nat) : Int)) w) := by
 refine enter_abs Try.func104 rfl fun a0 ae az hp => ?_
 have ae : a0.tmps.size = 14 := ae
 have aA : New w w := Upd.refl _ _
 have hp0 : a0.eval (.tmp 0) = sv Am m cm := hp 0 _ rfl
 have hp1 : a0.eval (.tmp 1) = iv i := hp 1 _ rfl
 have hb := hl.at i.toNat
 refine wp_seq_k fun K1 aB => ?_
 refine wp_g0 [true] [] 14
   [ve (.int .u64 0)] ae (.eq (.nil)) ?_ ?_
 exact .t (fun _ w hn k => ⟨_, v_assign rfl rfl, rfl⟩) .nil
 refine aftI ae az aA fun a2 w3 ah aC ak aN ai => ?_
 have h8 := ai.fx 0 hp0
 have h9 := ai.fx 1 hp1
 refine st_nil (aB _ _ (wp_seq_k fun aO al => ?_))
 refine wp_seq_k fun aP am => ?_
 refine wp_g0 [true, true, true, true] [] 14
   [ve (iv i), ve (sv Am m cm), ve (iv (m.length : Int)), ve (.bool (decide (i < (m.length : Int))))] ah (.eq (.eq (.eq (.eq (.nil))))) ?_ ?_
 exact .m (fun k => k.fx 1 h9) <| .m (fun k => k.fx 0 h8) <| .t (fun _ w hn k => ⟨_, v_lenR rfl elW (k.eq1 1 6 rfl), rfl⟩) <| .t (fun _ w hn k => ⟨_, v_bin rfl (k.eq1 0 5 rfl) (k.eq1 2 7 rfl) (fun _ => rfl) (r_lssK rfl), rfl⟩) .nil
 refine aftI ah aC ak fun aQ aR ab af ac aI ad => ?_
 have aD := ad.fx 0 h8
 have aE := ad.fx 1 h9
 have aj := ad.ge 3 8 rfl
 refine st_nil (am _ _ ?_)
 rcases bc (decide (i < (m.length : Int))) with aa | aa
 have ag := oT aa
 have an := hB aj aa
 refine wp_cond_true an ?_
 refine wp_seq_k fun aS ao => ?_
 refine wp_g0 [true, true, true, true, true, true] [] 14
   [ve (sv Am m cm), ve (iv i),
    (EP (.int .u32 ((m.getD ((i : Int).toNat) 0 : Nat) : Int))), ve (.int .u32 ((m.getD ((i : Int).toNat) 0 : Nat) : Int)), ve (.int .u64 ((m.getD ((i : Int).toNat) 0 : Nat) : Int)), ve (.int .u64 ((m.getD ((i : Int).toNat) 0 : Nat) : Int))] ab (.eq (.eq (.cons (fun _ _ _ n ⟨_, _, e, h⟩ => ⟨_, _, e, h.new_ n⟩) (.eq (.eq (.eq (.nil))))))) ?_ ?_
 refine .m (fun k => k.fx 0 aD) <| .m (fun k => k.fx 1 aE) ?_
 refine .o1 (tk rfl rfl fun _ w hn k => (by
       exact x_eaddr (k := .u32) rfl elW (k.eq1 0 9 rfl) (k.eq1 1 10 rfl) (hrm.new_ (ac.transNew hn)) (by omega) fun b1 o2 hme => ⟨b1, o2, rfl, hme⟩)) ?_
 refine .o1 (tk rfl rfl fun _ w hn k => (by
       obtain ⟨b5, o6, e7, aF⟩ : (EP (.int .u32 ((m.getD ((i : Int).toNat) 0 : Nat) : Int))) _ _ := k.dep 2 11 (by kernel_rfl) (by kernel_rfl)
       exact ⟨_, v_load rfl e7 (l_one Try.isAgg56 aF.1), rfl⟩)) ?_
 exact .t (fun _ w hn k => ⟨_, v_conv rfl (k.eq1 3 12 rfl) (n_conv (by kernel_rfl) (by kernel_rfl) (by kernel_rfl) (IntWalk.u64_in _ (by omega))), rfl⟩) <| .a (fun k => k.eq1 4 13 rfl) .nil
 refine aftI ab af ac fun aT aU aJ ap aq aK ar => ?_
 have aG := ar.ge 5 4 rfl
 refine st_nil (ao _ _ ?_)
 refine wp_ret (ret_k ap (v := .int .u64 ((m.getD ((i : Int).toNat) 0 : Nat) : Int)) (res_t rfl aG _) ?_)
 exact ⟨rfl, aq⟩
 have ag := oF aa
 have au := hB aj aa
 refine wp_cond_false au ?_
 refine wp_skip ?_
 refine al _ _ ?_
 refine wp_seq_k fun aV av => ?_
 refine wp_g0 [true] [] 14
   [ve (.int .u64 0)] ab (.eq (.nil)) ?_ ?_
 exact .t (fun _ w hn k => ⟨_, v_assign rfl rfl, rfl⟩) .nil
 refine aftI ab af ac fun aW aX aL aw ax aM ay => ?_
 have aH := ay.ge 0 4 rfl
 refine st_nil (av _ _ ?_)
 refine wp_ret (ret_k aw (v := .int .u64 0) (res_t rfl aH _) ?_)
 have hz : m.getD i.toNat 0 = 0 := zgetD_far (by omega)
 exact ⟨by rw [hz]; rfl, ax⟩
def strim_c_P (Am : Option Addr) (m : List Nat) (cm : Nat) (w : World) (en : Ending) (w' : World) : Prop := ∃ (Ar0 : Option Addr) (cr0 : Nat), en = .returned (sv Ar0 (canon (val m)) cr0) ∧ SOwn w' w.heap.size 56 .u32 Ar0 (canon (val m)) cr0 ∧ New w w'
theorem strim_c (Am : Option Addr) (m : List Nat) (cm : Nat) (w : World) (hrm : SRow w .u32 Am m cm) (hl : Limbs m) (hs : m.length ≤ 1000000) : Calls Try.prog 105 #[sv Am m cm] w (strim_c_P Am m cm w) := by
 refine enter_abs Try.func105 rfl fun a0 aB bU hp => ?_
 have aB : a0.tmps.size = 23 := aB
 have bV : New w w := Upd.refl _ _
 have hp0 : a0.eval (.tmp 0) = sv Am m cm := hp 0 _ rfl
 refine wp_seq_k fun K1 bW => ?_
 refine wp_g0 [true] [] 23
   [ve (sv none ([]) 0)] aB (.eq (.nil)) ?_ ?_
 exact .t (fun _ w hn k => ⟨_, v_assign rfl rfl, rfl⟩) .nil
 refine aftI aB bU bV fun a2 w3 bj bX bY cE bZ => ?_
 have h8 := bZ.fx 0 hp0
 refine st_nil (bW _ _ (wp_seq_k fun cF br => ?_))
 refine wp_g0 [true, true, true] [] 23
   [ve (sv Am m cm), ve (iv (m.length : Int)), ve (iv (m.length : Int))] bj (.eq (.eq (.eq (.nil)))) ?_ ?_
 exact .m (fun k => k.fx 0 h8) <| .t (fun _ w hn k => ⟨_, v_lenR rfl elW (k.eq1 0 4 rfl), rfl⟩) <| .a (fun k => k.eq1 1 5 rfl) .nil
 refine aftI bj bX bY fun cG cH bs bt bu cs aI => ?_
 have b0 := aI.fx 0 h8
 have b1 := aI.ge 2 3 rfl
 refine st_nil (br _ _ (wp_seq_k fun cI aJ => ?_))
 refine wp_block ?_
 refine wp_loopX (fun (mm : Nat) (aa : Act) (ww : World) => ∃ (kk : Nat), mm = kk ∧ aa.tmps.size = 23 ∧ aa.defers = [] ∧ New w ww ∧ aa.eval (.tmp 3) = iv (kk : Int) ∧ aa.eval (.tmp 0) = sv Am m cm ∧ (kk ≤ m.length) ∧ (val (m.take kk) = val m)) (fun mm => mm) ⟨_, ⟨m.length, rfl, bs, bt, bu, b1, b0, (Nat.le_refl _), (by rw [List.take_length])⟩⟩ ?_
 rintro mm cJ cK ⟨kk, hmm, al, aK, ar, aq, aL, hk, hv⟩
 refine wp_seq_k fun cL bv => ?_
 refine wp_seq_k fun cM aM => ?_
 rcases bc (decide ((kk : Int) ≤ 0)) with aj | aj
 have a1 := oT aj
 refine wp_g0 (.replicate 10 true) [] 23
   [ve (iv (kk : Int)), vF, vF, vU, vU, vU, vU, vU, vU, vF] al (.eq (.eq (.eq (.eq (.eq (.eq (.eq (.eq (.eq (.eq (.nil))))))))))) ?_ ?_
 exact .m (fun k => k.fx 3 aq) <| .t (fun _ w hn k => ⟨_, v_bin rfl (k.eq1 0 6 rfl) rfl (fun _ => rfl) (r_gtrK aj), rfl⟩) <| .m (fun k => k.eq1 1 7 rfl) <| .s (fun k => k.eq1 2 8 rfl) <| .s (fun k => k.eq1 2 8 rfl) <| .s (fun k => k.eq1 2 8 rfl) <| .s (fun k => k.eq1 2 8 rfl) <| .s (fun k => k.eq1 2 8 rfl) <| .s (fun k => k.eq1 2 8 rfl) <| .t (fun _ w hn k => ⟨_, v_pickF rfl (k.eq1 2 8 rfl) rfl, rfl⟩) .nil
 refine aftI al aK ar fun cN bk aN bw au ct av => ?_
 have b2 := av.fx 3 aq
 have b3 := av.fx 0 aL
 have b4 := av.ge 9 15 rfl
 refine st_nil (aM _ _ ?_)
 refine wp_cond_false b4 ?_
 refine wp_exit ?_
 refine aJ _ _ ?_
 refine wp_seq_k fun cO bx => ?_
 refine wp_g0 [true, true, true, true, false, false] [(4, false), (5, true)] 23
   [(OP bk.heap.size 56 .u32 ([])), ve (sv Am m cm), ve (iv (kk : Int)),
    (RP .u32 (m.take kk)), vt, vt] aN (.cons (fun _ _ _ n ⟨_, _, e, h⟩ => ⟨_, _, e, h.new_ n⟩) (.eq (.eq (.cons (fun _ _ _ n ⟨_, _, e, h⟩ => ⟨_, _, e, h.new_ n⟩) (.tt (.tt (.nil))))))) ?_ ?_
 refine .o1 (tkA rfl (noG rfl) fun _ w hn k => (by
       exact x_bslice0 .u32 rfl parts0 elW fun A1 c2 W' hmo => ⟨A1, c2, rfl, (hmo.more hn.size)⟩)) ?_
 refine .m (fun k => k.fx 0 b3) <| .m (fun k => k.fx 3 b2) ?_
 refine .o1 (tk rfl rfl fun _ w hn k => (by
       exact x_cutH (k := .u32) rfl elW (k.eq1 1 19 rfl) (k.eq1 2 20 rfl) (hrm.new_ (au.transNew hn)) (by omega) fun A5 c6 hmr => ⟨A5, c6, rfl, hmr⟩)) ?_
 exact .off <| .off .nil
 refine aftI aN bw au fun aC cP aO bz aP cu aQ => ?_
 obtain ⟨b5, bA, aR, bB⟩ : (OP bk.heap.size 56 .u32 ([])) _ _ := aQ.got 0 18 rfl (by kernel_rfl)
 have aR : aC.eval (.tmp 18) = sv b5 ([]) bA := aR
 obtain ⟨b6, bC, aS, bD⟩ : (RP .u32 (m.take kk)) _ _ := aQ.got 3 21 rfl (by kernel_rfl)
 have aS : aC.eval (.tmp 21) = sv b6 (m.take kk) bC := aS
 have aT := bB.more au.size
 have hw66 := aP.size
 refine st_act rfl rfl fun cQ bE => a_append (k := .u32) (b := w.heap.size) rfl elW aR aT aS bD (by first | omega | (simp only [List.length_nil, List.length_cons, List.length_append, List.length_take, List.length_drop, List.length_replicate, List.length_set]; omega)) (by first | omega | (simp only [List.length_nil, List.length_cons, List.length_append, List.length_take, List.length_drop, List.length_replicate, List.length_set]; omega)) hw66 fun ag ac cR bF hg62 => bE _ _ trivial ?_
 have bG := aP.ownGrown aT hg62
 obtain ⟨aU, am⟩ : ∃ a', a' = aC.put (some 22) (sv ag ([] ++ (m.take kk)) ac) := ⟨_, rfl⟩
 have aV := pz am aO
 have bH := pd am bz
 have bl : aU.eval (.tmp 22) = sv ag ([] ++ (m.take kk)) ac := by rw [am]; exact put_same _ _ _ (by rw [aO]; decide)
 show stepsTo _ _ _ _ _ (aC.put (some 22) (sv ag ([] ++ (m.take kk)) ac)) _
 rw [← am]
 refine st_take rfl rfl (y_assign (v := sv ag ([] ++ (m.take kk)) ac) rfl bl) rfl ?_
 obtain ⟨b7, ak⟩ : ∃ a', a' = aU.put (some 2) (sv ag ([] ++ (m.take kk)) ac) := ⟨_, rfl⟩
 have cv := pz ak aV
 have bI := pd ak bH
 have cS := pn ak bl (by decide)
 have b8 : b7.eval (.tmp 2) = sv ag ([] ++ (m.take kk)) ac := by rw [ak]; exact put_same _ _ _ (by rw [aV]; decide)
 show stepsTo _ _ _ _ _ (aU.put (some 2) (sv ag ([] ++ (m.take kk)) ac)) _
 rw [← ak]
 refine st_nil (bx _ _ ?_)
 refine wp_ret (ret_k bI (v := sv ag ([] ++ (m.take kk)) ac) (res_t rfl b8 _) ?_)
 have hsp : ([] ++ (m.take kk)) = canon (val m) := ztrim_end hl hk hv (Or.inl (by omega))
 exact ⟨ag, ac, by rw [← hsp], by rw [← hsp]; exact bF, bG⟩
 have a1 := oF aj
 refine wp_g0 (.replicate 10 true) [] 23
   [ve (iv (kk : Int)), vT, vT, ve (sv Am m cm), ve (iv (kk : Int)), ve (iv ((kk : Int) - 1)),
    (EP (.int .u32 ((m.getD (((kk : Int) - 1 : Int).toNat) 0 : Nat) : Int))), ve (.int .u32 ((m.getD (((kk : Int) - 1 : Int).toNat) 0 : Nat) : Int)), ve (.bool (decide (((m.getD (((kk : Int) - 1 : Int).toNat) 0 : Nat) : Int) = 0))), ve (.bool (decide (((m.getD (((kk : Int) - 1 : Int).toNat) 0 : Nat) : Int) = 0)))] al (.eq (.eq (.eq (.eq (.eq (.eq (.cons (fun _ _ _ n ⟨_, _, e, h⟩ => ⟨_, _, e, h.new_ n⟩) (.eq (.eq (.eq (.nil))))))))))) ?_ ?_
 refine .m (fun k => k.fx 3 aq) <| .t (fun _ w hn k => ⟨_, v_bin rfl (k.eq1 0 6 rfl) rfl (fun _ => rfl) (r_gtrK aj), rfl⟩) <| .m (fun k => k.eq1 1 7 rfl) <| .gm (fun k => k.eq1 2 8 rfl) (fun k => k.fx 0 aL) <| .gm (fun k => k.eq1 2 8 rfl) (fun k => k.fx 3 aq) <| .g (fun k => k.eq1 2 8 rfl) (fun _ w hn k => ⟨_, v_bin rfl (k.eq1 4 10 rfl) rfl (fun _ => rfl) (r_sub rfl (by omega)), rfl⟩) ?_
 refine .o1 (tg rfl rfl rfl (fun _ _ k => k.eq1 2 8 rfl) fun _ w hn k => (by
       exact x_eaddr (k := .u32) rfl elW (k.eq1 3 9 rfl) (k.eq1 5 11 rfl) (hrm.new_ (ar.transNew hn)) (by omega) fun b9 cc hme => ⟨b9, cc, rfl, hme⟩)) ?_
 refine .o1 (tg rfl rfl rfl (fun _ _ k => k.eq1 2 8 rfl) fun _ w hn k => (by
       obtain ⟨cT, cU, cd, bJ⟩ : (EP (.int .u32 ((m.getD (((kk : Int) - 1 : Int).toNat) 0 : Nat) : Int))) _ _ := k.dep 6 12 (by kernel_rfl) (by kernel_rfl)
       exact ⟨_, v_load rfl cd (l_one Try.isAgg56 bJ.1), rfl⟩)) ?_
 exact .g (fun k => k.eq1 2 8 rfl) (fun _ w hn k => ⟨_, v_bin rfl (k.eq1 7 13 rfl) rfl (fun _ => rfl) (r_eql rfl), rfl⟩) <| .t (fun _ w hn k => ⟨_, v_pickT rfl (k.eq1 2 8 rfl) (k.eq1 8 14 rfl), rfl⟩) .nil
 refine aftI al aK ar fun cV bm an aW ao cw aw => ?_
 have aX := aw.fx 3 aq
 have bn := aw.fx 0 aL
 have bo := aw.ge 9 15 rfl
 refine st_nil (aM _ _ ?_)
 rcases bc (decide (((m.getD (((kk : Int) - 1 : Int).toNat) 0 : Nat) : Int) = 0)) with af | af
 have a3 := oT af
 have bK := hB bo af
 refine wp_cond_true bK ?_
 refine wp_skip ?_
 refine bv _ _ ?_
 refine wp_block ?_
 refine wp_g0 [true, true, false] [(2, true)] 23
   [ve (iv (kk : Int)), ve (iv ((kk : Int) - 1)), vt] an (.eq (.eq (.tt (.nil)))) ?_ ?_
 exact .m (fun k => k.fx 3 aX) <| .t (fun _ w hn k => ⟨_, v_bin rfl (k.eq1 0 16 rfl) rfl (fun _ => rfl) (r_sub rfl (by omega)), rfl⟩) <| .off .nil
 refine aftI an aW ao fun bp cW aY bL bM cx ax => ?_
 have cX := ax.fx 3 aX
 have ce := ax.fx 0 bn
 have bq := ax.ge 1 17 rfl
 refine st_take rfl rfl (y_assign (v := iv ((kk : Int) - 1)) rfl bq) rfl ?_
 obtain ⟨bN, ae⟩ : ∃ a', a' = bp.put (some 3) (iv ((kk : Int) - 1)) := ⟨_, rfl⟩
 have a4 := pz ae aY
 have a5 := pd ae bL
 have bO := pn ae ce (by decide)
 have cy := pn ae bq (by decide)
 have bP : bN.eval (.tmp 3) = iv ((kk : Int) - 1) := by rw [ae]; exact put_same _ _ _ (by rw [aY]; decide)
 show stepsTo _ _ _ _ _ (bp.put (some 3) (iv ((kk : Int) - 1))) _
 rw [← ae]
 refine st_nil ?_
 refine blk_n ?_
 refine then_n ?_
 exact ⟨_, ⟨kk - 1, rfl, a4, a5, bM, (bP.trans (congrArg (Value.int .i64) (by omega))), bO, (by omega), (ztrim_dn (by omega) af hv)⟩, (by omega)⟩
 have a3 := oF af
 have a6 := hB bo af
 refine wp_cond_false a6 ?_
 refine wp_exit ?_
 refine aJ _ _ ?_
 refine wp_seq_k fun cz a7 => ?_
 refine wp_g0 [true, true, true, true, false, false] [(4, false), (5, true)] 23
   [(OP bm.heap.size 56 .u32 ([])), ve (sv Am m cm), ve (iv (kk : Int)),
    (RP .u32 (m.take kk)), vt, vt] an (.cons (fun _ _ _ n ⟨_, _, e, h⟩ => ⟨_, _, e, h.new_ n⟩) (.eq (.eq (.cons (fun _ _ _ n ⟨_, _, e, h⟩ => ⟨_, _, e, h.new_ n⟩) (.tt (.tt (.nil))))))) ?_ ?_
 refine .o1 (tkA rfl (noG rfl) fun _ w hn k => (by
       exact x_bslice0 .u32 rfl parts0 elW fun cl cn W' hmo => ⟨cl, cn, rfl, (hmo.more hn.size)⟩)) ?_
 refine .m (fun k => k.fx 0 bn) <| .m (fun k => k.fx 3 aX) ?_
 refine .o1 (tk rfl rfl fun _ w hn k => (by
       exact x_cutH (k := .u32) rfl elW (k.eq1 1 19 rfl) (k.eq1 2 20 rfl) (hrm.new_ (ao.transNew hn)) (by omega) fun co cp hmr => ⟨co, cp, rfl, hmr⟩)) ?_
 exact .off <| .off .nil
 refine aftI an aW ao fun ap cA aD a8 aE cq aF => ?_
 obtain ⟨bQ, a9, ay, ba⟩ : (OP bm.heap.size 56 .u32 ([])) _ _ := aF.got 0 18 rfl (by kernel_rfl)
 have ay : ap.eval (.tmp 18) = sv bQ ([]) a9 := ay
 obtain ⟨bR, bb, az, bd⟩ : (RP .u32 (m.take kk)) _ _ := aF.got 3 21 rfl (by kernel_rfl)
 have az : ap.eval (.tmp 21) = sv bR (m.take kk) bb := az
 have aG := ba.more ao.size
 have hw133 := aE.size
 refine st_act rfl rfl fun cB be => a_append (k := .u32) (b := w.heap.size) rfl elW ay aG az bd (by first | omega | (simp only [List.length_nil, List.length_cons, List.length_append, List.length_take, List.length_drop, List.length_replicate, List.length_set]; omega)) (by first | omega | (simp only [List.length_nil, List.length_cons, List.length_append, List.length_take, List.length_drop, List.length_replicate, List.length_set]; omega)) hw133 fun ad ab cC bf hg129 => be _ _ trivial ?_
 have bg := aE.ownGrown aG hg129
 obtain ⟨aA, ai⟩ : ∃ a', a' = ap.put (some 22) (sv ad ([] ++ (m.take kk)) ab) := ⟨_, rfl⟩
 have aH := pz ai aD
 have bh := pd ai a8
 have aZ : aA.eval (.tmp 22) = sv ad ([] ++ (m.take kk)) ab := by rw [ai]; exact put_same _ _ _ (by rw [aD]; decide)
 show stepsTo _ _ _ _ _ (ap.put (some 22) (sv ad ([] ++ (m.take kk)) ab)) _
 rw [← ai]
 refine st_take rfl rfl (y_assign (v := sv ad ([] ++ (m.take kk)) ab) rfl aZ) rfl ?_
 obtain ⟨bS, ah⟩ : ∃ a', a' = aA.put (some 2) (sv ad ([] ++ (m.take kk)) ab) := ⟨_, rfl⟩
 have cr := pz ah aH
 have bi := pd ah bh
 have cD := pn ah aZ (by decide)
 have bT : bS.eval (.tmp 2) = sv ad ([] ++ (m.take kk)) ab := by rw [ah]; exact put_same _ _ _ (by rw [aH]; decide)
 show stepsTo _ _ _ _ _ (aA.put (some 2) (sv ad ([] ++ (m.take kk)) ab)) _
 rw [← ah]
 refine st_nil (a7 _ _ ?_)
 refine wp_ret (ret_k bi (v := sv ad ([] ++ (m.take kk)) ab) (res_t rfl bT _) ?_)
 have hsp : ([] ++ (m.take kk)) = canon (val m) := ztrim_end hl hk hv (Or.inr (ztrim_nz af))
 exact ⟨ad, ab, by rw [← hsp], by rw [← hsp]; exact bf, bg⟩
def smade_c_P (d : Bool) (Am : Option Addr) (m : List Nat) (cm : Nat) (w : World) (en : Ending) (w' : World) : Prop := ∃ (Ar0 : Option Addr) (cr0 : Nat), en = .returned (.agg #[.bool (decide (sgn d (val m) < 0)), sv Ar0 (canon (sgn d (val m)).natAbs) cr0]) ∧ SRow w' .u32 Ar0 (canon (sgn d (val m)).natAbs) cr0 ∧ New w w'
theorem smade_c (d : Bool) (Am : Option Addr) (m : List Nat) (cm : Nat) (w : World) (hrm : SRow w .u32 Am m cm) (hl : Limbs m) (hs : m.length ≤ 1000000) : Calls Try.prog 95 #[.bool d, sv Am m cm] w (smade_c_P d Am m cm w) := by
 refine enter_abs Try.func95 rfl fun a0 an bj hp => ?_
 have an : a0.tmps.size = 16 := an
 have aJ : New w w := Upd.refl _ _
 have hp0 : a0.eval (.tmp 0) = .bool d := hp 0 _ rfl
 have hp1 : a0.eval (.tmp 1) = sv Am m cm := hp 1 _ rfl
 refine wp_seq_k fun K1 bk => ?_
 refine wp_g [true] [] [] 16
   [IsNew w 26 [.bool false, sv none ([]) 0]]
   [0] (newsCons (fun v w h => IsNew.old h) newsNil) an (.nw (.nil)) ?_ (fun i h => by cases h) ?_
 exact .o2 (step_allocN (cs := [.bool false, sv none ([]) 0]) (t := 26) rfl (noG rfl) (fun _ w hn k => rfl) (fun q _ hq hb => ⟨q, rfl, hq, hb⟩)) .nil
 refine aftI an bj aJ fun a2 w3 aK bl ag bB ao => ?_
 have h8 := ao.fx 0 hp0
 have h9 := ao.fx 1 hp1
 obtain ⟨bC, bm, aP, aQ⟩ : IsNew _ _ _ _ _ := ao.got 0 4 rfl (by kernel_rfl)
 have bt := Nat.le_trans aJ.size aP
 refine st_nil (bk _ _ (wp_seq_k fun bD aR => ?_))
 refine wp_g0 [true, true, true] [] 16
   [ve (sv Am m cm),
    (OP w3.heap.size 56 .u32 (canon (val m))),
    (OP w3.heap.size 56 .u32 (canon (val m)))] aK (.eq (.cons (fun _ _ _ n ⟨_, _, e, h⟩ => ⟨_, _, e, h.new_ n⟩) (.cons (fun v W W' hn ⟨A9, bn, he, h0⟩ => ⟨A9, bn, he, h0.new_ hn⟩) (.nil)))) ?_ ?_
 refine .m (fun k => k.fx 1 h9) ?_
 refine .o1 (tkC rfl (noG rfl) rfl fun _ w hn k => (by
       refine ⟨#[sv Am m cm], _, args1 (k.eq1 0 6 rfl), fun w => by kernel_rfl, strim_c _ m _ _ (hrm.new_ (ag.transNew hn)) hl (by first | omega | (simp only [List.length_nil, List.length_take, List.length_drop]; omega) | (simp only [List.length_cons, List.length_nil]; omega)), ?_⟩
       rintro e w' ⟨A1, c2, rfl, hmo0, hm⟩
       exact ⟨_, rfl, hm, ⟨A1, c2, rfl, (hmo0.more hn.size)⟩⟩)) ?_
 refine .o1 (tk rfl rfl fun _ w hn k => (by
       obtain ⟨A5, c6, e7, bo⟩ : (OP w3.heap.size 56 .u32 (canon (val m))) _ _ := k.dep 1 7 (by kernel_rfl) (by kernel_rfl)
       exact ⟨_, v_assign rfl e7, ⟨A5, c6, rfl, bo⟩⟩)) ?_
 exact .nil
 refine aftI aK bl ag fun bp bE ad ah ai aS aj => ?_
 have aL := aj.fx 0 h8
 have ap := aj.fx 4 bm
 obtain ⟨ab, aa, ae, aT⟩ : (OP w3.heap.size 56 .u32 (canon (val m))) _ _ := aj.got 2 5 rfl (by kernel_rfl)
 have ae : bp.eval (.tmp 5) = sv ab (canon (val m)) aa := ae
 have ak := aQ.new_ aS
 have al := aT.more ag.size
 refine st_nil (aR _ _ (wp_seq_k fun bF am => ?_))
 rcases bc (d) with af | af
 have aq := hB aL af
 rcases bc (decide (((canon (val m)).length : Int) ≤ 0)) with ac | ac
 have aF := oT ac
 refine wp_g0 [true, true, true, true, true, true, true, true, false] [(8, false)] 16
   [vT, vT, ve (sv ab (canon (val m)) aa), ve (iv ((canon (val m)).length : Int)), vF, vF, ve (sv ab (canon (val m)) aa), ve (.agg #[.bool false, sv ab (canon (val m)) aa]), vt] ad (.eq (.eq (.eq (.eq (.eq (.eq (.eq (.eq (.tt (.nil)))))))))) ?_ ?_
 exact .m (fun k => k.fx 0 aq) <| .m (fun k => k.eq1 0 8 rfl) <| .gm (fun k => k.eq1 1 9 rfl) (fun k => k.fx 5 ae) <| .g (fun k => k.eq1 1 9 rfl) (fun _ w hn k => ⟨_, v_lenR rfl elW (k.eq1 2 10 rfl), rfl⟩) <| .g (fun k => k.eq1 1 9 rfl) (fun _ w hn k => ⟨_, v_bin rfl (k.eq1 3 11 rfl) rfl (fun _ => rfl) (r_gtrK ac), rfl⟩) <| .t (fun _ w hn k => ⟨_, v_pickT rfl (k.eq1 1 9 rfl) (k.eq1 4 12 rfl), rfl⟩) <| .m (fun k => k.fx 5 ae) <| .t (fun _ w hn k => ⟨_, v_build (ps := [(0, .bool false), (1, sv ab (canon (val m)) aa)]) rfl (parts2 (k.eq1 5 13 rfl) (k.eq1 6 14 rfl)) (by kernel_rfl), rfl⟩) <| .off .nil
 refine aftI ad ah ai fun bG bH bu aU aV ar au => ?_
 have aM := au.fx 4 ap
 have bq := au.ge 7 15 rfl
 have av := ak.new_ ar
 have aW := al.new_ ar
 obtain ⟨bI, -, aG, aX, aw, bv⟩ := s_two (v0 := .bool false) (v1 := sv ab (canon (val m)) aa) Try.sizeOf26 rfl rfl rfl av
 refine st_act rfl rfl fun bJ aY => a_store' rfl aM bq aG (aY _ _ trivial ?_)
 have aZ := aW.far av aw (by decide)
 have a1 := aV.trans aw (fun _ h b => by subst b; omega)
 refine st_nil (am _ _ ?_)
 refine wp_ret (ret_k aU (v := .agg #[.bool false, sv ab (canon (val m)) aa]) (res_c rfl aM (l_two Try.isAgg26 Try.sizeOf26 aX)) ?_)
 have hz1 : (decide (sgn d (val m) < 0)) = false := zmade_b2 ac
 have hz2 : canon (sgn d (val m)).natAbs = (canon (val m)) := by rw [natAbs_sgn]
 exact ⟨ab, aa, by rw [hz1, hz2], by rw [hz2]; exact aZ.row, a1⟩
 have aF := oF ac
 refine wp_g0 [true, true, true, true, true, true, true, true, false] [(8, false)] 16
   [vT, vT, ve (sv ab (canon (val m)) aa), ve (iv ((canon (val m)).length : Int)), vT, vT, ve (sv ab (canon (val m)) aa), ve (.agg #[.bool true, sv ab (canon (val m)) aa]), vt] ad (.eq (.eq (.eq (.eq (.eq (.eq (.eq (.eq (.tt (.nil)))))))))) ?_ ?_
 exact .m (fun k => k.fx 0 aq) <| .m (fun k => k.eq1 0 8 rfl) <| .gm (fun k => k.eq1 1 9 rfl) (fun k => k.fx 5 ae) <| .g (fun k => k.eq1 1 9 rfl) (fun _ w hn k => ⟨_, v_lenR rfl elW (k.eq1 2 10 rfl), rfl⟩) <| .g (fun k => k.eq1 1 9 rfl) (fun _ w hn k => ⟨_, v_bin rfl (k.eq1 3 11 rfl) rfl (fun _ => rfl) (r_gtrK ac), rfl⟩) <| .t (fun _ w hn k => ⟨_, v_pickT rfl (k.eq1 1 9 rfl) (k.eq1 4 12 rfl), rfl⟩) <| .m (fun k => k.fx 5 ae) <| .t (fun _ w hn k => ⟨_, v_build (ps := [(0, .bool true), (1, sv ab (canon (val m)) aa)]) rfl (parts2 (k.eq1 5 13 rfl) (k.eq1 6 14 rfl)) (by kernel_rfl), rfl⟩) <| .off .nil
 refine aftI ad ah ai fun bK bL bw a3 a4 ax ay => ?_
 have aN := ay.fx 4 ap
 have br := ay.ge 7 15 rfl
 have az := ak.new_ ax
 have a5 := al.new_ ax
 obtain ⟨bM, -, aH, a6, aA, bx⟩ := s_two (v0 := .bool true) (v1 := sv ab (canon (val m)) aa) Try.sizeOf26 rfl rfl rfl az
 refine st_act rfl rfl fun bN a7 => a_store' rfl aN br aH (a7 _ _ trivial ?_)
 have a8 := a5.far az aA (by decide)
 have a9 := a4.trans aA (fun _ h b => by subst b; omega)
 refine st_nil (am _ _ ?_)
 refine wp_ret (ret_k a3 (v := .agg #[.bool true, sv ab (canon (val m)) aa]) (res_c rfl aN (l_two Try.isAgg26 Try.sizeOf26 a6)) ?_)
 have hz1 : (decide (sgn d (val m) < 0)) = true := zmade_b3 af ac
 have hz2 : canon (sgn d (val m)).natAbs = (canon (val m)) := by rw [natAbs_sgn]
 exact ⟨ab, aa, by rw [hz1, hz2], by rw [hz2]; exact a8.row, a9⟩
 have ba := hB aL af
 refine wp_g0 [true, true, true, true, true, true, true, true, false] [(8, false)] 16
   [vF, vF, vU, vU, vU, vF, ve (sv ab (canon (val m)) aa), ve (.agg #[.bool false, sv ab (canon (val m)) aa]), vt] ad (.eq (.eq (.eq (.eq (.eq (.eq (.eq (.eq (.tt (.nil)))))))))) ?_ ?_
 exact .m (fun k => k.fx 0 ba) <| .m (fun k => k.eq1 0 8 rfl) <| .s (fun k => k.eq1 1 9 rfl) <| .s (fun k => k.eq1 1 9 rfl) <| .s (fun k => k.eq1 1 9 rfl) <| .t (fun _ w hn k => ⟨_, v_pickF rfl (k.eq1 1 9 rfl) rfl, rfl⟩) <| .m (fun k => k.fx 5 ae) <| .t (fun _ w hn k => ⟨_, v_build (ps := [(0, .bool false), (1, sv ab (canon (val m)) aa)]) rfl (parts2 (k.eq1 5 13 rfl) (k.eq1 6 14 rfl)) (by kernel_rfl), rfl⟩) <| .off .nil
 refine aftI ad ah ai fun bO bP bz bb bd aB aC => ?_
 have aO := aC.fx 4 ap
 have bs := aC.ge 7 15 rfl
 have aD := ak.new_ aB
 have be := al.new_ aB
 obtain ⟨bQ, -, aI, bf, aE, bA⟩ := s_two (v0 := .bool false) (v1 := sv ab (canon (val m)) aa) Try.sizeOf26 rfl rfl rfl aD
 refine st_act rfl rfl fun bR bg => a_store' rfl aO bs aI (bg _ _ trivial ?_)
 have bh := be.far aD aE (by decide)
 have bi := bd.trans aE (fun _ h b => by subst b; omega)
 refine st_nil (am _ _ ?_)
 refine wp_ret (ret_k bb (v := .agg #[.bool false, sv ab (canon (val m)) aa]) (res_c rfl aO (l_two Try.isAgg26 Try.sizeOf26 bf)) ?_)
 have hz1 : (decide (sgn d (val m) < 0)) = false := zmade_b1 af
 have hz2 : canon (sgn d (val m)).natAbs = (canon (val m)) := by rw [natAbs_sgn]
 exact ⟨ab, aa, by rw [hz1, hz2], by rw [hz2]; exact bh.row, bi⟩
theorem scmp_c (Aa : Option Addr) (a : List Nat) (ca : Nat) (Ab : Option Addr) (b : List Nat) (cb : Nat) (w : World) (hra : SRow w .u32 Aa a ca) (hrb : SRow w .u32 Ab b cb) (ha : Limbs a) (hb : Limbs b) (hsa : a.length ≤ 900000) (hsb : b.length ≤ 900000) : Calls Try.prog 94 #[sv Aa a ca, sv Ab b cb] w (IsRet (iv (cmpI (val a) (val b))) w) := by
 refine enter_abs Try.func94 rfl fun a0 au bT hp => ?_
 have au : a0.tmps.size = 30 := au
 have bU : New w w := Upd.refl _ _
 have hp0 : a0.eval (.tmp 0) = sv Aa a ca := hp 0 _ rfl
 have hp1 : a0.eval (.tmp 1) = sv Ab b cb := hp 1 _ rfl
 refine wp_seq_k fun K1 bV => ?_
 refine wp_g0 [true] [] 30
   [ve (iv 0)] au (.eq (.nil)) ?_ ?_
 exact .t (fun _ w hn k => ⟨_, v_assign rfl rfl, rfl⟩) .nil
 refine aftI au bT bU fun a2 w3 a5 bW bk cC a6 => ?_
 have h8 := a6.fx 0 hp0
 have h9 := a6.fx 1 hp1
 refine st_nil (bV _ _ (wp_seq_k fun cD bl => ?_))
 refine wp_seq_k fun cE bm => ?_
 refine wp_g0 [true, true, true, true, true, true, true] [] 30
   [ve (sv Aa a ca), ve (iv (a.length : Int)), ve (sv Ab b cb), ve (iv (b.length : Int)), ve (iv (max (a.length : Int) (b.length : Int))), ve (iv ((max (a.length : Int) (b.length : Int)) - 1)), ve (iv ((max (a.length : Int) (b.length : Int)) - 1))] a5 (.eq (.eq (.eq (.eq (.eq (.eq (.eq (.nil)))))))) ?_ ?_
 exact .m (fun k => k.fx 0 h8) <| .t (fun _ w hn k => ⟨_, v_lenR rfl elW (k.eq1 0 8 rfl), rfl⟩) <| .m (fun k => k.fx 1 h9) <| .t (fun _ w hn k => ⟨_, v_lenR rfl elW (k.eq1 2 10 rfl), rfl⟩) <| .t (fun _ w hn k => ⟨_, v_max rfl (k.eq1 1 9 rfl) (k.eq1 3 11 rfl), rfl⟩) <| .t (fun _ w hn k => ⟨_, v_bin rfl (k.eq1 4 12 rfl) rfl (fun _ => rfl) (r_sub rfl (by omega)), rfl⟩) <| .a (fun k => k.eq1 5 13 rfl) .nil
 refine aftI a5 bW bk fun cF cG bn bo bp ce ao => ?_
 have bX := ao.fx 0 h8
 have bY := ao.fx 1 h9
 have bZ := ao.ge 6 5 rfl
 refine st_nil (bm _ _ ?_)
 refine wp_block ?_
 refine wp_loopX (fun (mm : Nat) (aa : Act) (ww : World) => ∃ (n : Nat), mm = n ∧ aa.tmps.size = 30 ∧ aa.defers = [] ∧ New w ww ∧ aa.eval (.tmp 5) = iv ((n : Int) - 1) ∧ aa.eval (.tmp 0) = sv Aa a ca ∧ aa.eval (.tmp 1) = sv Ab b cb ∧ (n ≤ max a.length b.length) ∧ (Above a b n)) (fun mm => mm) ⟨_, ⟨(max a.length b.length), rfl, bn, bo, bp, (bZ.trans (congrArg (Value.int .i64) (by omega))), bX, bY, (Nat.le_refl _), above_of_len⟩⟩ ?_
 rintro mm cH cI ⟨n, hmm, al, aA, aB, av, a7, a8, hn, hab⟩
 refine wp_seq_k fun cJ bq => ?_
 refine wp_seq_k fun cK aC => ?_
 rcases bc (decide (((n : Int) - 1) < 0)) with aj | aj
 have aL := oT aj
 refine wp_g0 [true, true] [] 30
   [ve (iv ((n : Int) - 1)), vF] al (.eq (.eq (.nil))) ?_ ?_
 exact .m (fun k => k.fx 5 av) <| .t (fun _ w hn k => ⟨_, v_bin rfl (k.eq1 0 14 rfl) rfl (fun _ => rfl) (r_geqK aj), rfl⟩) .nil
 refine aftI al aA aB fun cL cM aD br bs cf am => ?_
 have cN := am.fx 5 av
 have cO := am.fx 0 a7
 have cP := am.fx 1 a8
 have b0 := am.ge 1 15 rfl
 refine st_nil (aC _ _ ?_)
 refine wp_cond_false b0 ?_
 refine wp_exit ?_
 refine bl _ _ ?_
 refine wp_seq_k fun cQ bt => ?_
 refine wp_g0 [true] [] 30
   [ve (iv 0)] aD (.eq (.nil)) ?_ ?_
 exact .t (fun _ w hn k => ⟨_, v_assign rfl rfl, rfl⟩) .nil
 refine aftI aD br bs fun cR cS ch bu bv ci bw => ?_
 have b1 := bw.ge 0 4 rfl
 refine st_nil (bt _ _ ?_)
 refine wp_ret (ret_k bu (v := iv 0) (res_t rfl b1 _) ?_)
 exact ⟨by rw [show cmpI (val a) (val b) = 0 from zcmp_eq hab (by omega)], bv⟩
 have aL := oF aj
 refine wp_g0 [true, true] [] 30
   [ve (iv ((n : Int) - 1)), vT] al (.eq (.eq (.nil))) ?_ ?_
 exact .m (fun k => k.fx 5 av) <| .t (fun _ w hn k => ⟨_, v_bin rfl (k.eq1 0 14 rfl) rfl (fun _ => rfl) (r_geqK aj), rfl⟩) .nil
 refine aftI al aA aB fun cT cU aE bx ap cj an => ?_
 have aF := an.fx 5 av
 have a9 := an.fx 0 a7
 have ba := an.fx 1 a8
 have b2 := an.ge 1 15 rfl
 refine st_nil (aC _ _ ?_)
 refine wp_cond_true b2 ?_
 refine wp_skip ?_
 refine bq _ _ ?_
 refine wp_seq_k fun cV bz => ?_
 refine wp_block ?_
 refine wp_seq_k fun cW bA => ?_
 refine wp_g0 (.replicate 8 true) [] 30
   [ve (sv Aa a ca), ve (iv ((n : Int) - 1)), ve (.int .u64 ((a.getD (((n : Int) - 1 : Int).toNat) 0 : Nat) : Int)), ve (sv Ab b cb), ve (iv ((n : Int) - 1)), ve (.int .u64 ((b.getD (((n : Int) - 1 : Int).toNat) 0 : Nat) : Int)), ve (.int .u64 ((a.getD (((n : Int) - 1 : Int).toNat) 0 : Nat) : Int)), ve (.int .u64 ((b.getD (((n : Int) - 1 : Int).toNat) 0 : Nat) : Int))] aE (.eq (.eq (.eq (.eq (.eq (.eq (.eq (.eq (.nil))))))))) ?_ ?_
 exact .m (fun k => k.fx 0 a9) <| .m (fun k => k.fx 5 aF) <| .o1 (ck rfl rfl rfl (fun _ w hn k => ⟨#[sv Aa a ca, iv ((n : Int) - 1)], args2 (k.eq1 0 18 rfl) (k.eq1 1 19 rfl), fun _ => by kernel_rfl, sword_c _ _ _ _ _ (hra.new_ (ap.transNew hn)) ha (by omega)⟩) fun _ => rfl) <| .m (fun k => k.fx 1 ba) <| .m (fun k => k.fx 5 aF) <| .o1 (ck rfl rfl rfl (fun _ w hn k => ⟨#[sv Ab b cb, iv ((n : Int) - 1)], args2 (k.eq1 3 21 rfl) (k.eq1 4 22 rfl), fun _ => by kernel_rfl, sword_c _ _ _ _ _ (hrb.new_ (ap.transNew hn)) hb (by omega)⟩) fun _ => rfl) <| .a (fun k => k.eq1 2 20 rfl) <| .a (fun k => k.eq1 5 23 rfl) .nil
 refine aftI aE bx ap fun cX cY aG bB bC cl ak => ?_
 have b3 := ak.fx 5 aF
 have b4 := ak.fx 0 a9
 have b5 := ak.fx 1 ba
 have bb := ak.ge 6 6 rfl
 have bd := ak.ge 7 7 rfl
 refine st_nil (bA _ _ (wp_seq_k fun cZ bD => ?_))
 refine wp_seq_k fun c0 bE => ?_
 refine wp_g0 [true, true, true] [] 30
   [ve (.int .u64 ((a.getD (((n : Int) - 1 : Int).toNat) 0 : Nat) : Int)), ve (.int .u64 ((b.getD (((n : Int) - 1 : Int).toNat) 0 : Nat) : Int)), ve (.bool (decide (((a.getD (((n : Int) - 1 : Int).toNat) 0 : Nat) : Int) < ((b.getD (((n : Int) - 1 : Int).toNat) 0 : Nat) : Int))))] aG (.eq (.eq (.eq (.nil)))) ?_ ?_
 exact .m (fun k => k.fx 6 bb) <| .m (fun k => k.fx 7 bd) <| .t (fun _ w hn k => ⟨_, v_bin rfl (k.eq1 0 24 rfl) (k.eq1 1 25 rfl) (fun _ => rfl) (r_lssK rfl), rfl⟩) .nil
 refine aftI aG bB bC fun c1 c2 ae aq ar cm af => ?_
 have be := af.fx 5 b3
 have bf := af.fx 0 b4
 have bg := af.fx 1 b5
 have bh := af.fx 6 bb
 have bi := af.fx 7 bd
 have bj := af.ge 2 26 rfl
 refine st_nil (bE _ _ ?_)
 rcases bc (decide (((a.getD (((n : Int) - 1 : Int).toNat) 0 : Nat) : Int) < ((b.getD (((n : Int) - 1 : Int).toNat) 0 : Nat) : Int))) with ad | ad
 have aM := oT ad
 have bF := hB bj ad
 refine wp_cond_true bF ?_
 refine wp_seq_k fun c3 bG => ?_
 refine wp_g0 [true] [] 30
   [ve (iv (-1))] ae (.eq (.nil)) ?_ ?_
 exact .t (fun _ w hn k => ⟨_, v_assign rfl rfl, rfl⟩) .nil
 refine aftI ae aq ar fun c4 c5 b6 aN aO cn aP => ?_
 have bH := aP.ge 0 4 rfl
 refine st_nil (bG _ _ ?_)
 refine wp_ret (ret_k aN (v := iv (-1)) (res_t rfl bH _) ?_)
 exact ⟨by rw [show cmpI (val a) (val b) = -1 from zcmp_lt ha hab (by omega) ad], aO⟩
 have aM := oF ad
 have aQ := hB bj ad
 refine wp_cond_false aQ ?_
 refine wp_skip ?_
 refine bD _ _ ?_
 refine wp_seq_k fun co aw => ?_
 rcases bc (decide (((a.getD (((n : Int) - 1 : Int).toNat) 0 : Nat) : Int) ≤ ((b.getD (((n : Int) - 1 : Int).toNat) 0 : Nat) : Int))) with ab | ab
 have aH := oT ab
 refine wp_g0 [true, true, true] [] 30
   [ve (.int .u64 ((a.getD (((n : Int) - 1 : Int).toNat) 0 : Nat) : Int)), ve (.int .u64 ((b.getD (((n : Int) - 1 : Int).toNat) 0 : Nat) : Int)), vF] ae (.eq (.eq (.eq (.nil)))) ?_ ?_
 exact .m (fun k => k.fx 6 bh) <| .m (fun k => k.fx 7 bi) <| .t (fun _ w hn k => ⟨_, v_bin rfl (k.eq1 0 27 rfl) (k.eq1 1 28 rfl) (fun _ => rfl) (r_gtrK ab), rfl⟩) .nil
 refine aftI ae aq ar fun cp cq ax aR aS b7 ag => ?_
 have aI := ag.fx 5 be
 have bI := ag.fx 0 bf
 have bJ := ag.fx 1 bg
 have bK := ag.ge 2 29 rfl
 refine st_nil (aw _ _ ?_)
 refine wp_cond_false bK ?_
 refine wp_skip ?_
 refine bz _ _ ?_
 refine wp_g0 [true, true, false] [(2, true)] 30
   [ve (iv ((n : Int) - 1)), ve (iv (((n : Int) - 1) - 1)), vt] ax (.eq (.eq (.tt (.nil)))) ?_ ?_
 exact .m (fun k => k.fx 5 aI) <| .t (fun _ w hn k => ⟨_, v_bin rfl (k.eq1 0 16 rfl) rfl (fun _ => rfl) (r_sub rfl (by omega)), rfl⟩) <| .off .nil
 refine aftI ax aR aS fun aJ cr ay aT aU b8 ah => ?_
 have cs := ah.fx 5 aI
 have bL := ah.fx 0 bI
 have bM := ah.fx 1 bJ
 have aK := ah.ge 1 17 rfl
 refine st_take rfl rfl (y_assign (v := iv (((n : Int) - 1) - 1)) rfl aK) rfl ?_
 obtain ⟨bN, ac⟩ : ∃ a', a' = aJ.put (some 5) (iv (((n : Int) - 1) - 1)) := ⟨_, rfl⟩
 have aV := pz ac ay
 have aW := pd ac aT
 have bO := pn ac bL (by decide)
 have bP := pn ac bM (by decide)
 have ct := pn ac aK (by decide)
 have bQ : bN.eval (.tmp 5) = iv (((n : Int) - 1) - 1) := by rw [ac]; exact put_same _ _ _ (by rw [ay]; decide)
 show stepsTo _ _ _ _ _ (aJ.put (some 5) (iv (((n : Int) - 1) - 1))) _
 rw [← ac]
 refine st_nil ?_
 refine then_n ?_
 exact ⟨_, ⟨n - 1, rfl, aV, aW, aU, (bQ.trans (congrArg (Value.int .i64) (by omega))), bO, bP, (by omega), (zabove_dn hab (by omega) ad ab)⟩, (by omega)⟩
 have aH := oF ab
 refine wp_g0 [true, true, true] [] 30
   [ve (.int .u64 ((a.getD (((n : Int) - 1 : Int).toNat) 0 : Nat) : Int)), ve (.int .u64 ((b.getD (((n : Int) - 1 : Int).toNat) 0 : Nat) : Int)), vT] ae (.eq (.eq (.eq (.nil)))) ?_ ?_
 exact .m (fun k => k.fx 6 bh) <| .m (fun k => k.fx 7 bi) <| .t (fun _ w hn k => ⟨_, v_bin rfl (k.eq1 0 27 rfl) (k.eq1 1 28 rfl) (fun _ => rfl) (r_gtrK ab), rfl⟩) .nil
 refine aftI ae aq ar fun cu cv az aX aY b9 ai => ?_
 have cw := ai.fx 5 be
 have cx := ai.fx 0 bf
 have cy := ai.fx 1 bg
 have bR := ai.ge 2 29 rfl
 refine st_nil (aw _ _ ?_)
 refine wp_cond_true bR ?_
 refine wp_seq_k fun cz aZ => ?_
 refine wp_g0 [true] [] 30
   [ve (iv 1)] az (.eq (.nil)) ?_ ?_
 exact .t (fun _ w hn k => ⟨_, v_assign rfl rfl, rfl⟩) .nil
 refine aftI az aX aY fun cA cB cc a1 a3 cd a4 => ?_
 have bS := a4.ge 0 4 rfl
 refine st_nil (aZ _ _ ?_)
 refine wp_ret (ret_k a1 (v := iv 1) (res_t rfl bS _) ?_)
 exact ⟨by rw [show cmpI (val a) (val b) = 1 from zcmp_gt hb hab (by omega) ab], a3⟩
theorem sCmp_c (a : Bool) (Aa : Option Addr) (ma : List Nat) (ca : Nat) (b : Bool) (Ab : Option Addr) (mb : List Nat) (cb : Nat) (w : World) (hra : SRow w .u32 Aa ma ca) (hrb : SRow w .u32 Ab mb cb) (ha : Limbs ma) (hb : Limbs mb) : Calls Try.prog 78 #[.agg #[.bool a, sv Aa ma ca], .agg #[.bool b, sv Ab mb cb]] w (IsRet (iv (cmpZ (goodI a ma) (goodI b mb))) w) := by
 refine enter_abs Try.func78 rfl fun a0 aW cX hp => ?_
 have aW : a0.tmps.size = 40 := aW
 have ba : New w w := Upd.refl _ _
 have hp0 : a0.eval (.tmp 0) = .agg #[.bool a, sv Aa ma ca] := hp 0 _ rfl
 have hp1 : a0.eval (.tmp 1) = .agg #[.bool b, sv Ab mb cb] := hp 1 _ rfl
 have h8x := (canon_len8 _).2 (good_lt (b := a) ha)
 have h8y := (canon_len8 _).2 (good_lt (b := b) hb)
 refine wp_seq_k fun K1 cY => ?_
 refine wp_g [true, true, true] [] [] 40
   [IsNew w 26 [.bool a, sv Aa ma ca], IsNew w 26 [.bool b, sv Ab mb cb], ve (iv 0)]
   [0, 1] (newsCons (fun v w h => IsNew.old h) (newsCons (fun v w h => IsNew.old h) newsNil)) aW (.nw (.nw (.eq (.nil)))) ?_ (fun i h => by cases h) ?_
 exact .o2 (step_allocN (cs := [.bool a, sv Aa ma ca]) (t := 26) rfl (noG rfl) (fun _ w hn k => v_box rfl (k.fx 0 hp0) (fun w => rfl)) (fun q _ hq hb => ⟨q, rfl, hq, hb⟩)) <| .o2 (step_allocN (cs := [.bool b, sv Ab mb cb]) (t := 26) rfl (noG rfl) (fun _ w hn k => v_box rfl (k.fx 1 hp1) (fun w => rfl)) (fun q _ hq hb => ⟨q, rfl, hq, hb⟩)) <| .t (fun _ w hn k => ⟨_, v_assign rfl rfl, rfl⟩) .nil
 refine aftI aW cX ba fun a2 w3 b4 cZ au dZ b5 => ?_
 obtain ⟨q9, h8, cc, cd⟩ : IsNew _ _ _ _ _ := b5.got 0 2 rfl (by kernel_rfl)
 obtain ⟨d0, c0, ce, cf⟩ : IsNew _ _ _ _ _ := b5.got 1 3 rfl (by kernel_rfl)
 have dp := Nat.le_trans ba.size cc
 have dq := Nat.le_trans ba.size ce
 refine st_nil (cY _ _ (wp_seq_k fun d1 ch => ?_))
 refine wp_g [true, true, true, true, true, true, false, false] [] [(6, false), (7, false)] 40
   [ve (.agg #[.bool a, sv Aa ma ca]), (fun (v_ : Value) (W : World) => ∃ (A3 : Option Addr) (c4 : Nat), v_ = .agg #[.bool (decide (goodI a ma < 0)), sv A3 (canon (goodI a ma).natAbs) c4] ∧ SRow W .u32 A3 (canon (goodI a ma).natAbs) c4), ve (.agg #[.bool b, sv Ab mb cb]), (fun (v_ : Value) (W : World) => ∃ (A7 : Option Addr) (c8 : Nat), v_ = .agg #[.bool (decide (goodI b mb < 0)), sv A7 (canon (goodI b mb).natAbs) c8] ∧ SRow W .u32 A7 (canon (goodI b mb).natAbs) c8), IsNew w3 26 [.bool false, sv none ([]) 0], IsNew w3 26 [.bool false, sv none ([]) 0], vt, vt]
   [4, 5] (newsCons (fun v w h => IsNew.old h) (newsCons (fun v w h => IsNew.old h) newsNil)) b4 (.eq (.cons (fun _ _ _ n ⟨_, _, e, h⟩ => ⟨_, _, e, h.new_ n⟩) (.eq (.cons (fun _ _ _ n ⟨_, _, e, h⟩ => ⟨_, _, e, h.new_ n⟩) (.nw (.nw (.tt (.tt (.nil))))))))) ?_ (fun i h => by cases h) ?_
 refine .t (fun _ w hn k => ⟨_, v_load rfl (k.fx 2 h8) (l_two Try.isAgg26 Try.sizeOf26 (cd.new_ hn)), rfl⟩) ?_
 refine .o1 (tkC rfl (noG rfl) rfl fun _ w hn k => (by
       refine ⟨#[.agg #[.bool a, sv Aa ma ca]], _, args1 (k.eq1 0 7 rfl), fun w => by kernel_rfl, sgood_c a _ ma _ _ (hra.new_ (au.transNew hn)) ha, ?_⟩
       rintro e w' ⟨A1, c2, rfl, hmo0, hm⟩
       exact ⟨_, rfl, hm, ⟨A1, c2, rfl, hmo0⟩⟩)) ?_
 refine .t (fun _ w hn k => ⟨_, v_load rfl (k.fx 3 c0) (l_two Try.isAgg26 Try.sizeOf26 (cf.new_ hn)), rfl⟩) ?_
 refine .o1 (tkC rfl (noG rfl) rfl fun _ w hn k => (by
       refine ⟨#[.agg #[.bool b, sv Ab mb cb]], _, args1 (k.eq1 2 9 rfl), fun w => by kernel_rfl, sgood_c b _ mb _ _ (hrb.new_ (au.transNew hn)) hb, ?_⟩
       rintro e w' ⟨A5, c6, rfl, hmo0, hm⟩
       exact ⟨_, rfl, hm, ⟨A5, c6, rfl, hmo0⟩⟩)) ?_
 exact .o2 (step_allocN (cs := [.bool false, sv none ([]) 0]) (t := 26) rfl (noG rfl) (fun _ w hn k => rfl) (fun q _ hq hb => ⟨q, rfl, hq, hb⟩)) <| .o2 (step_allocN (cs := [.bool false, sv none ([]) 0]) (t := 26) rfl (noG rfl) (fun _ w hn k => rfl) (fun q _ hq hb => ⟨q, rfl, hq, hb⟩)) <| .off <| .off .nil
 refine aftI b4 cZ au fun b6 d2 ae aK ci dr av => ?_
 obtain ⟨ay, af, bb, cj⟩ : (fun (v_ : Value) (W : World) => ∃ (A3 : Option Addr) (c4 : Nat), v_ = .agg #[.bool (decide (goodI a ma < 0)), sv A3 (canon (goodI a ma).natAbs) c4] ∧ SRow W .u32 A3 (canon (goodI a ma).natAbs) c4) _ _ := av.got 1 8 rfl (by kernel_rfl)
 have bb : b6.eval (.tmp 8) = .agg #[.bool (decide (goodI a ma < 0)), sv ay (canon (goodI a ma).natAbs) af] := bb
 obtain ⟨az, ag, bd, cl⟩ : (fun (v_ : Value) (W : World) => ∃ (A7 : Option Addr) (c8 : Nat), v_ = .agg #[.bool (decide (goodI b mb < 0)), sv A7 (canon (goodI b mb).natAbs) c8] ∧ SRow W .u32 A7 (canon (goodI b mb).natAbs) c8) _ _ := av.got 3 10 rfl (by kernel_rfl)
 have bd : b6.eval (.tmp 10) = .agg #[.bool (decide (goodI b mb < 0)), sv az (canon (goodI b mb).natAbs) ag] := bd
 obtain ⟨ad, ai, cm, aL⟩ : IsNew _ _ _ _ _ := av.got 4 5 rfl (by kernel_rfl)
 obtain ⟨aj, aw, cn, co⟩ : IsNew _ _ _ _ _ := av.got 5 6 rfl (by kernel_rfl)
 have hne42 : ad ≠ aj := av.ne 4 5 5 6 ai aw
 have ds := Nat.le_trans au.size cm
 have dt := Nat.le_trans au.size cn
 obtain ⟨d3, -, bl, cp, aM, cq⟩ := s_two (v0 := .bool (decide (goodI a ma < 0))) (v1 := sv ay (canon (goodI a ma).natAbs) af) Try.sizeOf26 rfl rfl rfl aL
 refine st_act rfl rfl fun d4 cr => a_store' rfl ai bb bl (cr _ _ trivial ?_)
 have ct := cj.far aL aM (by first | rfl | decide | simp [notK])
 have cu := cl.far aL aM (by first | rfl | decide | simp [notK])
 have aN := cq _ _ _ (fun h => hne42 h.symm) co
 have cv := ci.trans aM (fun _ h b => by subst b; omega)
 obtain ⟨d5, -, bm, ax, aO, cw⟩ := s_two (v0 := .bool (decide (goodI b mb < 0))) (v1 := sv az (canon (goodI b mb).natAbs) ag) Try.sizeOf26 rfl rfl rfl aN
 refine st_act rfl rfl fun d6 cx => a_store' rfl aw bd bm (cx _ _ trivial ?_)
 have aP := ct.far aN aO (by first | rfl | decide | simp [notK])
 have aQ := cu.far aN aO (by first | rfl | decide | simp [notK])
 have ah := cw _ _ _ (hne42) cp
 have aR := cv.trans aO (fun _ h b => by subst b; omega)
 refine st_nil (ch _ _ (wp_seq_k fun d7 cy => ?_))
 refine wp_block ?_
 refine wp_seq_k fun d8 aS => ?_
 rcases bc (decide (goodI a ma < 0)) with aa | aa
 have bn := oT aa
 rcases bc (decide (goodI b mb < 0)) with ac | ac
 have bo := oT ac
 refine wp_g0 (.replicate 8 true) [] 40
   [ve (pv ad), vT, vT, ve (pv aj), vT, vF, vF, vF] ae (.eq (.eq (.eq (.eq (.eq (.eq (.eq (.eq (.nil))))))))) ?_ ?_
 exact .f (fun k => k.fx 5 ai) <| .o1 (tk rfl rfl fun _ w hn k => ⟨_, v_load rfl (k.eq1 0 12 rfl) (l_one Try.isAgg4 ((ah.new_ hn).cell 0)), congrArg Value.bool aa⟩) <| .m (fun k => k.eq1 1 13 rfl) <| .gf (fun k => k.eq1 2 14 rfl) (fun k => k.fx 6 aw) <| .o1 (tg rfl rfl rfl (fun _ _ k => k.eq1 2 14 rfl) fun _ w hn k => ⟨_, v_load rfl (k.eq1 3 15 rfl) (l_one Try.isAgg4 ((ax.new_ hn).cell 0)), congrArg Value.bool ac⟩) <| .g (fun k => k.eq1 2 14 rfl) (fun _ w hn k => ⟨_, v_not rfl (k.eq1 4 16 rfl), rfl⟩) <| .t (fun _ w hn k => ⟨_, v_pickT rfl (k.eq1 2 14 rfl) (k.eq1 5 17 rfl), rfl⟩) <| .a (fun k => k.eq1 6 18 rfl) .nil
 refine aftI ae aK aR fun d9 ea be cz cA aA aT => ?_
 have b7 := aT.fx 5 ai
 have b8 := aT.fx 6 aw
 have c1 := aT.ge 7 11 rfl
 have bf := ah.new_ aA
 have bg := ax.new_ aA
 have cB := aP.new_ aA
 have cC := aQ.new_ aA
 refine st_nil (aS _ _ ?_)
 refine wp_cond_false c1 ?_
 refine wp_seq_k fun eb cD => ?_
 refine wp_g0 (.replicate 8 true) [] 40
   [ve (pv aj), vT, vT, ve (pv ad), vT, vF, vF, vF] be (.eq (.eq (.eq (.eq (.eq (.eq (.eq (.eq (.nil))))))))) ?_ ?_
 exact .f (fun k => k.fx 6 b8) <| .o1 (tk rfl rfl fun _ w hn k => ⟨_, v_load rfl (k.eq1 0 20 rfl) (l_one Try.isAgg4 ((bg.new_ hn).cell 0)), congrArg Value.bool ac⟩) <| .m (fun k => k.eq1 1 21 rfl) <| .gf (fun k => k.eq1 2 22 rfl) (fun k => k.fx 5 b7) <| .o1 (tg rfl rfl rfl (fun _ _ k => k.eq1 2 22 rfl) fun _ w hn k => ⟨_, v_load rfl (k.eq1 3 23 rfl) (l_one Try.isAgg4 ((bf.new_ hn).cell 0)), congrArg Value.bool aa⟩) <| .g (fun k => k.eq1 2 22 rfl) (fun _ w hn k => ⟨_, v_not rfl (k.eq1 4 24 rfl), rfl⟩) <| .t (fun _ w hn k => ⟨_, v_pickT rfl (k.eq1 2 22 rfl) (k.eq1 5 25 rfl), rfl⟩) <| .a (fun k => k.eq1 6 26 rfl) .nil
 refine aftI be cz cA fun ec ed bh cE bp aB aU => ?_
 have b9 := aU.fx 5 b7
 have c3 := aU.fx 6 b8
 have c5 := aU.ge 7 19 rfl
 have bi := bf.new_ aB
 have cF := bg.new_ aB
 have cG := cB.new_ aB
 have cH := cC.new_ aB
 refine st_nil (cD _ _ ?_)
 refine wp_cond_false c5 ?_
 refine wp_seq_k fun du bq => ?_
 refine wp_g0 [true, true, true] [] 40
   [ve (pv ad), vT, vT] bh (.eq (.eq (.eq (.nil)))) ?_ ?_
 exact .f (fun k => k.fx 5 b9) <| .o1 (tk rfl rfl fun _ w hn k => ⟨_, v_load rfl (k.eq1 0 28 rfl) (l_one Try.isAgg4 ((bi.new_ hn).cell 0)), congrArg Value.bool aa⟩) <| .a (fun k => k.eq1 1 29 rfl) .nil
 refine aftI bh cE bp fun dv dw aX br bs ak aC => ?_
 have cI := aC.fx 5 b9
 have cJ := aC.fx 6 c3
 have cK := aC.ge 2 27 rfl
 have bt := bi.new_ ak
 have bu := cF.new_ ak
 have bv := cG.new_ ak
 have bw := cH.new_ ak
 refine st_nil (bq _ _ ?_)
 refine wp_cond_true cK ?_
 refine wp_seq_k fun dx bx => ?_
 refine wp_g0 [true, true, true, true, true, true] [] 40
   [ve (.pointer (some ⟨aj, 1, none⟩)), ve (sv az (canon (goodI b mb).natAbs) ag), ve (.pointer (some ⟨ad, 1, none⟩)), ve (sv ay (canon (goodI a ma).natAbs) af), ve (iv (cmpI (val (canon (goodI b mb).natAbs)) (val (canon (goodI a ma).natAbs)))), ve (iv (cmpI (val (canon (goodI b mb).natAbs)) (val (canon (goodI a ma).natAbs))))] aX (.eq (.eq (.eq (.eq (.eq (.eq (.nil))))))) ?_ ?_
 exact .f (fun k => k.fx 6 cJ) <| .t (fun _ w hn k => ⟨_, v_load rfl (k.eq1 0 30 rfl) (l_one Try.isAgg24 ((bu.new_ hn).cell 1)), rfl⟩) <| .f (fun k => k.fx 5 cI) <| .t (fun _ w hn k => ⟨_, v_load rfl (k.eq1 2 32 rfl) (l_one Try.isAgg24 ((bt.new_ hn).cell 1)), rfl⟩) <| .o1 (ck rfl rfl rfl (fun _ w hn k => ⟨#[sv az (canon (goodI b mb).natAbs) ag, sv ay (canon (goodI a ma).natAbs) af], args2 (k.eq1 1 31 rfl) (k.eq1 3 33 rfl), fun _ => by kernel_rfl, scmp_c _ (canon (goodI b mb).natAbs) _ _ (canon (goodI a ma).natAbs) _ _ (bw.new_ hn) (bv.new_ hn) (limbs_canon _) (limbs_canon _) (by first | omega | (simp only [List.length_nil, List.length_take, List.length_drop]; omega) | (simp only [List.length_cons, List.length_nil]; omega)) (by first | omega | (simp only [List.length_nil, List.length_take, List.length_drop]; omega) | (simp only [List.length_cons, List.length_nil]; omega))⟩) fun _ => rfl) <| .a (fun k => k.eq1 4 34 rfl) .nil
 refine aftI aX br bs fun dy dz c7 bz bA c9 bB => ?_
 have cL := bB.ge 5 4 rfl
 refine st_nil (bx _ _ ?_)
 refine wp_ret (ret_k bz (v := iv (cmpI (val (canon (goodI b mb).natAbs)) (val (canon (goodI a ma).natAbs)))) (res_t rfl cL _) ?_)
 exact ⟨congrArg (fun z => Ending.returned (iv z)) (cmpZ_nn2 aa ac), bA⟩
 have bo := oF ac
 refine wp_g0 (.replicate 8 true) [] 40
   [ve (pv ad), vT, vT, ve (pv aj), vF, vT, vT, vT] ae (.eq (.eq (.eq (.eq (.eq (.eq (.eq (.eq (.nil))))))))) ?_ ?_
 exact .f (fun k => k.fx 5 ai) <| .o1 (tk rfl rfl fun _ w hn k => ⟨_, v_load rfl (k.eq1 0 12 rfl) (l_one Try.isAgg4 ((ah.new_ hn).cell 0)), congrArg Value.bool aa⟩) <| .m (fun k => k.eq1 1 13 rfl) <| .gf (fun k => k.eq1 2 14 rfl) (fun k => k.fx 6 aw) <| .o1 (tg rfl rfl rfl (fun _ _ k => k.eq1 2 14 rfl) fun _ w hn k => ⟨_, v_load rfl (k.eq1 3 15 rfl) (l_one Try.isAgg4 ((ax.new_ hn).cell 0)), congrArg Value.bool ac⟩) <| .g (fun k => k.eq1 2 14 rfl) (fun _ w hn k => ⟨_, v_not rfl (k.eq1 4 16 rfl), rfl⟩) <| .t (fun _ w hn k => ⟨_, v_pickT rfl (k.eq1 2 14 rfl) (k.eq1 5 17 rfl), rfl⟩) <| .a (fun k => k.eq1 6 18 rfl) .nil
 refine aftI ae aK aR fun dA dB aY bC bD al aD => ?_
 have dC := aD.fx 5 ai
 have dD := aD.fx 6 aw
 have cM := aD.ge 7 11 rfl
 have da := ah.new_ al
 have db := ax.new_ al
 have dc := aP.new_ al
 have dd := aQ.new_ al
 refine st_nil (aS _ _ ?_)
 refine wp_cond_true cM ?_
 refine wp_seq_k fun dE bE => ?_
 refine wp_g0 [true] [] 40
   [ve (iv (-1))] aY (.eq (.nil)) ?_ ?_
 exact .t (fun _ w hn k => ⟨_, v_assign rfl rfl, rfl⟩) .nil
 refine aftI aY bC bD fun dF dG de bF bG df bH => ?_
 have cN := bH.ge 0 4 rfl
 refine st_nil (bE _ _ ?_)
 refine wp_ret (ret_k bF (v := iv (-1)) (res_t rfl cN _) ?_)
 exact ⟨by rw [show cmpZ (goodI a ma) (goodI b mb) = -1 from cmpZ_np (oT aa) (oF ac)], bG⟩
 have bn := oF aa
 refine wp_g0 (.replicate 8 true) [] 40
   [ve (pv ad), vF, vF, vU, vU, vU, vF, vF] ae (.eq (.eq (.eq (.eq (.eq (.eq (.eq (.eq (.nil))))))))) ?_ ?_
 exact .f (fun k => k.fx 5 ai) <| .o1 (tk rfl rfl fun _ w hn k => ⟨_, v_load rfl (k.eq1 0 12 rfl) (l_one Try.isAgg4 ((ah.new_ hn).cell 0)), congrArg Value.bool aa⟩) <| .m (fun k => k.eq1 1 13 rfl) <| .s (fun k => k.eq1 2 14 rfl) <| .s (fun k => k.eq1 2 14 rfl) <| .s (fun k => k.eq1 2 14 rfl) <| .t (fun _ w hn k => ⟨_, v_pickF rfl (k.eq1 2 14 rfl) rfl, rfl⟩) <| .a (fun k => k.eq1 6 18 rfl) .nil
 refine aftI ae aK aR fun dH dI am aZ a1 an aE => ?_
 have aV := aE.fx 5 ai
 have aF := aE.fx 6 aw
 have cO := aE.ge 7 11 rfl
 have aG := ah.new_ an
 have ao := ax.new_ an
 have a3 := aP.new_ an
 have a4 := aQ.new_ an
 refine st_nil (aS _ _ ?_)
 refine wp_cond_false cO ?_
 refine wp_seq_k fun dJ a5 => ?_
 rcases bc (decide (goodI b mb < 0)) with ab | ab
 have bj := oT ab
 refine wp_g0 (.replicate 8 true) [] 40
   [ve (pv aj), vT, vT, ve (pv ad), vF, vT, vT, vT] am (.eq (.eq (.eq (.eq (.eq (.eq (.eq (.eq (.nil))))))))) ?_ ?_
 exact .f (fun k => k.fx 6 aF) <| .o1 (tk rfl rfl fun _ w hn k => ⟨_, v_load rfl (k.eq1 0 20 rfl) (l_one Try.isAgg4 ((ao.new_ hn).cell 0)), congrArg Value.bool ab⟩) <| .m (fun k => k.eq1 1 21 rfl) <| .gf (fun k => k.eq1 2 22 rfl) (fun k => k.fx 5 aV) <| .o1 (tg rfl rfl rfl (fun _ _ k => k.eq1 2 22 rfl) fun _ w hn k => ⟨_, v_load rfl (k.eq1 3 23 rfl) (l_one Try.isAgg4 ((aG.new_ hn).cell 0)), congrArg Value.bool aa⟩) <| .g (fun k => k.eq1 2 22 rfl) (fun _ w hn k => ⟨_, v_not rfl (k.eq1 4 24 rfl), rfl⟩) <| .t (fun _ w hn k => ⟨_, v_pickT rfl (k.eq1 2 22 rfl) (k.eq1 5 25 rfl), rfl⟩) <| .a (fun k => k.eq1 6 26 rfl) .nil
 refine aftI am aZ a1 fun dK dL a6 bI bJ ap aH => ?_
 have dM := aH.fx 5 aV
 have dN := aH.fx 6 aF
 have cP := aH.ge 7 19 rfl
 have dg := aG.new_ ap
 have dh := ao.new_ ap
 have di := a3.new_ ap
 have dj := a4.new_ ap
 refine st_nil (a5 _ _ ?_)
 refine wp_cond_true cP ?_
 refine wp_seq_k fun dO bK => ?_
 refine wp_g0 [true] [] 40
   [ve (iv 1)] a6 (.eq (.nil)) ?_ ?_
 exact .t (fun _ w hn k => ⟨_, v_assign rfl rfl, rfl⟩) .nil
 refine aftI a6 bI bJ fun dP dQ dk bL bM dl bN => ?_
 have cQ := bN.ge 0 4 rfl
 refine st_nil (bK _ _ ?_)
 refine wp_ret (ret_k bL (v := iv 1) (res_t rfl cQ _) ?_)
 exact ⟨by rw [show cmpZ (goodI a ma) (goodI b mb) = 1 from cmpZ_pn (oF aa) (oT ab)], bM⟩
 have bj := oF ab
 refine wp_g0 (.replicate 8 true) [] 40
   [ve (pv aj), vF, vF, vU, vU, vU, vF, vF] am (.eq (.eq (.eq (.eq (.eq (.eq (.eq (.eq (.nil))))))))) ?_ ?_
 exact .f (fun k => k.fx 6 aF) <| .o1 (tk rfl rfl fun _ w hn k => ⟨_, v_load rfl (k.eq1 0 20 rfl) (l_one Try.isAgg4 ((ao.new_ hn).cell 0)), congrArg Value.bool ab⟩) <| .m (fun k => k.eq1 1 21 rfl) <| .s (fun k => k.eq1 2 22 rfl) <| .s (fun k => k.eq1 2 22 rfl) <| .s (fun k => k.eq1 2 22 rfl) <| .t (fun _ w hn k => ⟨_, v_pickF rfl (k.eq1 2 22 rfl) rfl, rfl⟩) <| .a (fun k => k.eq1 6 26 rfl) .nil
 refine aftI am aZ a1 fun dR dS a7 bO bP aq aI => ?_
 have bk := aI.fx 5 aV
 have cR := aI.fx 6 aF
 have cS := aI.ge 7 19 rfl
 have a8 := aG.new_ aq
 have bQ := ao.new_ aq
 have bR := a3.new_ aq
 have bS := a4.new_ aq
 refine st_nil (a5 _ _ ?_)
 refine wp_cond_false cS ?_
 refine wp_seq_k fun dT bT => ?_
 refine wp_g0 [true, true, true] [] 40
   [ve (pv ad), vF, vF] a7 (.eq (.eq (.eq (.nil)))) ?_ ?_
 exact .f (fun k => k.fx 5 bk) <| .o1 (tk rfl rfl fun _ w hn k => ⟨_, v_load rfl (k.eq1 0 28 rfl) (l_one Try.isAgg4 ((a8.new_ hn).cell 0)), congrArg Value.bool aa⟩) <| .a (fun k => k.eq1 1 29 rfl) .nil
 refine aftI a7 bO bP fun dU dV a9 bU bV ar aJ => ?_
 have cT := aJ.fx 5 bk
 have cU := aJ.fx 6 cR
 have cV := aJ.ge 2 27 rfl
 have bW := a8.new_ ar
 have bX := bQ.new_ ar
 have bY := bR.new_ ar
 have bZ := bS.new_ ar
 refine st_nil (bT _ _ ?_)
 refine wp_cond_false cV ?_
 refine wp_skip ?_
 refine cy _ _ ?_
 refine wp_seq_k fun dW b0 => ?_
 refine wp_g0 [true, true, true, true, true, true] [] 40
   [ve (.pointer (some ⟨ad, 1, none⟩)), ve (sv ay (canon (goodI a ma).natAbs) af), ve (.pointer (some ⟨aj, 1, none⟩)), ve (sv az (canon (goodI b mb).natAbs) ag), ve (iv (cmpI (val (canon (goodI a ma).natAbs)) (val (canon (goodI b mb).natAbs)))), ve (iv (cmpI (val (canon (goodI a ma).natAbs)) (val (canon (goodI b mb).natAbs))))] a9 (.eq (.eq (.eq (.eq (.eq (.eq (.nil))))))) ?_ ?_
 exact .f (fun k => k.fx 5 cT) <| .t (fun _ w hn k => ⟨_, v_load rfl (k.eq1 0 35 rfl) (l_one Try.isAgg24 ((bW.new_ hn).cell 1)), rfl⟩) <| .f (fun k => k.fx 6 cU) <| .t (fun _ w hn k => ⟨_, v_load rfl (k.eq1 2 37 rfl) (l_one Try.isAgg24 ((bX.new_ hn).cell 1)), rfl⟩) <| .o1 (ck rfl rfl rfl (fun _ w hn k => ⟨#[sv ay (canon (goodI a ma).natAbs) af, sv az (canon (goodI b mb).natAbs) ag], args2 (k.eq1 1 36 rfl) (k.eq1 3 38 rfl), fun _ => by kernel_rfl, scmp_c _ (canon (goodI a ma).natAbs) _ _ (canon (goodI b mb).natAbs) _ _ (bY.new_ hn) (bZ.new_ hn) (limbs_canon _) (limbs_canon _) (by first | omega | (simp only [List.length_nil, List.length_take, List.length_drop]; omega) | (simp only [List.length_cons, List.length_nil]; omega)) (by first | omega | (simp only [List.length_nil, List.length_take, List.length_drop]; omega) | (simp only [List.length_cons, List.length_nil]; omega))⟩) fun _ => rfl) <| .a (fun k => k.eq1 4 39 rfl) .nil
 refine aftI a9 bU bV fun dX dY dm b1 b2 dn b3 => ?_
 have cW := b3.ge 5 4 rfl
 refine st_nil (b0 _ _ ?_)
 refine wp_ret (ret_k b1 (v := iv (cmpI (val (canon (goodI a ma).natAbs)) (val (canon (goodI b mb).natAbs)))) (res_t rfl cW _) ?_)
 exact ⟨congrArg (fun z => Ending.returned (iv z)) (cmpZ_pp2 aa ab), b2⟩
def sOf_c_P (n : Int) (w : World) (en : Ending) (w' : World) : Prop := ∃ (Ar0 : Option Addr) (cr0 : Nat), en = .returned (.agg #[.bool (decide (n < 0)), sv Ar0 (canon (n).natAbs) cr0]) ∧ SRow w' .u32 Ar0 (canon (n).natAbs) cr0 ∧ New w w'
theorem sOf_c (n : Int) (w : World) (hlo : -9223372036854775808 ≤ n) (hhi : n ≤ 9223372036854775807) : Calls Try.prog 79 #[iv n] w (sOf_c_P n w) := by
 refine enter_abs Try.func79 rfl fun a0 ao bC hp => ?_
 have ao : a0.tmps.size = 20 := ao
 have aP : New w w := Upd.refl _ _
 have hp0 : a0.eval (.tmp 0) = iv n := hp 0 _ rfl
 have hmd : 0 ≤ n % 18446744073709551616 ∧ n % 18446744073709551616 < 18446744073709551616 := by omega
 refine wp_seq_k fun K1 bD => ?_
 refine wp_g [true] [] [] 20
   [IsNew w 26 [.bool false, sv none ([]) 0]]
   [0] (newsCons (fun v w h => IsNew.old h) newsNil) ao (.nw (.nil)) ?_ (fun i h => by cases h) ?_
 exact .o2 (step_allocN (cs := [.bool false, sv none ([]) 0]) (t := 26) rfl (noG rfl) (fun _ w hn k => rfl) (fun q _ hq hb => ⟨q, rfl, hq, hb⟩)) .nil
 refine aftI ao bC aP fun a2 w3 aQ bE a5 b6 aR => ?_
 have h8 := aR.fx 0 hp0
 obtain ⟨b7, h9, a6, a7⟩ : IsNew _ _ _ _ _ := aR.got 0 2 rfl (by kernel_rfl)
 have b0 := Nat.le_trans aP.size a6
 refine st_nil (bD _ _ (wp_seq_k fun b8 a8 => ?_))
 refine wp_g0 [true, true, true] [] 20
   [ve (iv n), ve (.int .u64 (((n % 18446744073709551616).toNat : Nat) : Int)), ve (.int .u64 (((n % 18446744073709551616).toNat : Nat) : Int))] aQ (.eq (.eq (.eq (.nil)))) ?_ ?_
 exact .m (fun k => k.fx 0 h8) <| .t (fun _ w hn k => ⟨_, v_conv rfl (k.eq1 0 4 rfl) (n_conv (by kernel_rfl) (by kernel_rfl) (by kernel_rfl) (of_conv n)), rfl⟩) <| .a (fun k => k.eq1 1 5 rfl) .nil
 refine aftI aQ bE a5 fun b9 ca ar a9 ba bb an => ?_
 have aS := an.fx 0 h8
 have bF := an.fx 2 h9
 have bG := an.ge 2 3 rfl
 have bd := a7.new_ bb
 refine st_nil (a8 _ _ (wp_seq_k fun cb au => ?_))
 refine wp_seq_k fun cc be => ?_
 refine wp_g0 [true, true] [] 20
   [ve (iv n), ve (.bool (decide (n < 0)))] ar (.eq (.eq (.nil))) ?_ ?_
 exact .m (fun k => k.fx 0 aS) <| .t (fun _ w hn k => ⟨_, v_bin rfl (k.eq1 0 6 rfl) rfl (fun _ => rfl) (r_lssK rfl), rfl⟩) .nil
 refine aftI ar a9 ba fun cd aT ak av aw bf al => ?_
 have aU := al.fx 0 aS
 have aV := al.fx 2 bF
 have ap := al.fx 3 bG
 have aW := al.ge 1 7 rfl
 have ax := bd.new_ bf
 refine st_nil (be _ _ ?_)
 rcases bc (decide (n < 0)) with aa | aa
 have aI := oT aa
 have bg := hB aW aa
 refine wp_cond_true bg ?_
 refine wp_g0 [true, true, false] [(2, true)] 20
   [ve (.int .u64 (((n % 18446744073709551616).toNat : Nat) : Int)), ve (.int .u64 (((-n).toNat : Nat) : Int)), vt] ak (.eq (.eq (.tt (.nil)))) ?_ ?_
 exact .m (fun k => k.fx 3 ap) <| .t (fun _ w hn k => ⟨_, v_negU rfl (k.eq1 0 8 rfl) (of_neg hlo (oT aa)), rfl⟩) <| .off .nil
 refine aftI ak av aw fun aX aY ay bh bi bj am => ?_
 have bH := am.fx 0 aU
 have bI := am.fx 2 aV
 have ce := am.fx 3 ap
 have aZ := am.ge 1 9 rfl
 have bk := ax.new_ bj
 refine st_take rfl rfl (y_assign (v := .int .u64 (((-n).toNat : Nat) : Int)) rfl aZ) rfl ?_
 obtain ⟨bJ, ab⟩ : ∃ a', a' = aX.put (some 3) (.int .u64 (((-n).toNat : Nat) : Int)) := ⟨_, rfl⟩
 have az := pz ab ay
 have bl := pd ab bh
 have bK := pn ab bH (by decide)
 have bL := pn ab bI (by decide)
 have cf := pn ab aZ (by decide)
 have a1 : bJ.eval (.tmp 3) = .int .u64 (((-n).toNat : Nat) : Int) := by rw [ab]; exact put_same _ _ _ (by rw [ay]; decide)
 show stepsTo _ _ _ _ _ (aX.put (some 3) (.int .u64 (((-n).toNat : Nat) : Int))) _
 rw [← ab]
 refine st_nil (au _ _ (wp_seq_k fun ch bm => ?_))
 refine wp_g0 [true, true, true, true, true, true, true, true, true, true, false] [(10, false)] 20
   [ve (iv n), vT, ve (.int .u64 (((-n).toNat : Nat) : Int)), ve (.int .u64 ((((-n).toNat) % 4294967296 : Nat) : Int)), ve (.int .u32 ((((-n).toNat) % 4294967296 : Nat) : Int)), ve (.int .u64 (((-n).toNat : Nat) : Int)), ve (.int .u64 ((((-n).toNat) / 4294967296 : Nat) : Int)), ve (.int .u32 (((((-n).toNat) / 4294967296) % 4294967296 : Nat) : Int)),
    (OP aY.heap.size 56 .u32 ([(((-n).toNat) % 4294967296), ((((-n).toNat) / 4294967296) % 4294967296)])), (fun (v_ : Value) (W : World) => ∃ (ae : Option Addr) (af : Nat), v_ = .agg #[.bool (decide (sgn true (val ([(((-n).toNat) % 4294967296), ((((-n).toNat) / 4294967296) % 4294967296)])) < 0)), sv ae (canon (sgn true (val ([(((-n).toNat) % 4294967296), ((((-n).toNat) / 4294967296) % 4294967296)]))).natAbs) af] ∧ SRow W .u32 ae (canon (sgn true (val ([(((-n).toNat) % 4294967296), ((((-n).toNat) / 4294967296) % 4294967296)]))).natAbs) af), vt] az (.eq (.eq (.eq (.eq (.eq (.eq (.eq (.eq (.cons (fun _ _ _ n ⟨_, _, e, h⟩ => ⟨_, _, e, h.new_ n⟩) (.cons (fun v W W' hn ⟨ae, af, he, h0⟩ => ⟨ae, af, he, h0.new_ hn⟩) (.tt (.nil)))))))))))) ?_ ?_
 refine .m (fun k => k.fx 0 bK) <| .t (fun _ w hn k => ⟨_, v_bin rfl (k.eq1 0 10 rfl) rfl (fun _ => rfl) (r_lssK aa), rfl⟩) <| .m (fun k => k.fx 3 a1) <| .t (fun _ w hn k => ⟨_, v_bin rfl (k.eq1 2 12 rfl) rfl (fun _ => rfl) (n_andMask64 ((-n).toNat) (by omega)), rfl⟩) <| .t (fun _ w hn k => ⟨_, v_conv rfl (k.eq1 3 13 rfl) (n_conv (by kernel_rfl) (by kernel_rfl) (by kernel_rfl) (IntWalk.u32_in _ (by omega))), rfl⟩) <| .m (fun k => k.fx 3 a1) <| .t (fun _ w hn k => ⟨_, v_bin rfl (k.eq1 5 15 rfl) rfl (fun _ => rfl) (n_shr ((-n).toNat) 32 (by decide)), rfl⟩) <| .t (fun _ w hn k => ⟨_, v_conv rfl (k.eq1 6 16 rfl) (n_conv (by kernel_rfl) (by kernel_rfl) (by kernel_rfl) (n_wrap32 _)), rfl⟩) ?_
 refine .o1 (tkA rfl (noG rfl) fun _ w hn k => (by
       exact x_bslice (k := .u32) (ps := [(0, .int .u32 ((((-n).toNat) % 4294967296 : Nat) : Int)), (1, .int .u32 (((((-n).toNat) / 4294967296) % 4294967296 : Nat) : Int))]) [(((-n).toNat) % 4294967296), ((((-n).toNat) / 4294967296) % 4294967296)] rfl (parts2 (k.eq1 4 14 rfl) (k.eq1 7 17 rfl)) elW rfl (by omega) (by omega) (by first | kernel_rfl | (simp only [enc, List.map_cons, List.map_nil, Int.toNat_natCast, Int.toNat_of_nonneg (by omega : (0 : Int) ≤ _)]; kernel_rfl)) fun A1 c2 W' hmo => ⟨A1, c2, rfl, (hmo.more hn.size)⟩)) ?_
 refine .o1 (tkC rfl (noG rfl) rfl fun _ w hn k => (by
       obtain ⟨A5, c6, e7, bM⟩ : (OP aY.heap.size 56 .u32 ([(((-n).toNat) % 4294967296), ((((-n).toNat) / 4294967296) % 4294967296)])) _ _ := k.dep 8 18 (by kernel_rfl) (by kernel_rfl)
       refine ⟨#[.bool true, sv A5 ([(((-n).toNat) % 4294967296), ((((-n).toNat) / 4294967296) % 4294967296)]) c6], _, args2 (k.eq1 1 11 rfl) e7, fun w => by kernel_rfl, smade_c true _ ([(((-n).toNat) % 4294967296), ((((-n).toNat) / 4294967296) % 4294967296)]) _ _ bM.row (two_limbs_m _) (by first | omega | (simp only [List.length_nil, List.length_take, List.length_drop]; omega) | (simp only [List.length_cons, List.length_nil]; omega)), ?_⟩
       rintro e w' ⟨A9, bN, rfl, hmo0, hm⟩
       exact ⟨_, rfl, hm, ⟨A9, bN, rfl, hmo0⟩⟩)) ?_
 exact .off .nil
 refine aftI az bl bi fun bO ci b1 bn bo bp aA => ?_
 have a3 := aA.fx 2 bL
 obtain ⟨ai, ac, aB, bq⟩ : (fun (v_ : Value) (W : World) => ∃ (ae : Option Addr) (af : Nat), v_ = .agg #[.bool (decide (sgn true (val ([(((-n).toNat) % 4294967296), ((((-n).toNat) / 4294967296) % 4294967296)])) < 0)), sv ae (canon (sgn true (val ([(((-n).toNat) % 4294967296), ((((-n).toNat) / 4294967296) % 4294967296)]))).natAbs) af] ∧ SRow W .u32 ae (canon (sgn true (val ([(((-n).toNat) % 4294967296), ((((-n).toNat) / 4294967296) % 4294967296)]))).natAbs) af) _ _ := aA.got 9 19 rfl (by kernel_rfl)
 have aB : bO.eval (.tmp 19) = .agg #[.bool (decide (sgn true (val ([(((-n).toNat) % 4294967296), ((((-n).toNat) / 4294967296) % 4294967296)])) < 0)), sv ai (canon (sgn true (val ([(((-n).toNat) % 4294967296), ((((-n).toNat) / 4294967296) % 4294967296)]))).natAbs) ac] := aB
 have aC := bk.new_ bp
 obtain ⟨cj, -, aJ, br, aD, b2⟩ := s_two (v0 := .bool (decide (sgn true (val ([(((-n).toNat) % 4294967296), ((((-n).toNat) / 4294967296) % 4294967296)])) < 0))) (v1 := sv ai (canon (sgn true (val ([(((-n).toNat) % 4294967296), ((((-n).toNat) / 4294967296) % 4294967296)]))).natAbs) ac) Try.sizeOf26 rfl rfl rfl aC
 refine st_act rfl rfl fun cl bs => a_store' rfl a3 aB aJ (bs _ _ trivial ?_)
 have bt := bq.far aC aD (by first | rfl | decide | simp [notK])
 have bu := bo.trans aD (fun _ h b => by subst b; omega)
 refine st_nil (bm _ _ ?_)
 refine wp_ret (ret_k bn (v := .agg #[.bool (decide (sgn true (val ([(((-n).toNat) % 4294967296), ((((-n).toNat) / 4294967296) % 4294967296)])) < 0)), sv ai (canon (sgn true (val ([(((-n).toNat) % 4294967296), ((((-n).toNat) / 4294967296) % 4294967296)]))).natAbs) ac]) (res_c rfl a3 (l_two Try.isAgg26 Try.sizeOf26 br)) ?_)
 have hz1 : sgn true (val ([(((-n).toNat) % 4294967296), ((((-n).toNat) / 4294967296) % 4294967296)])) = n := of_yes hlo aa
 exact ⟨ai, ac, congrArg (fun z : Int => Ending.returned (Value.agg #[.bool (decide (z < 0)), sv ai (canon z.natAbs) ac])) hz1, Eq.mp (congrArg (fun z : Int => SRow _ .u32 ai (canon z.natAbs) ac) hz1) bt, bu⟩
 have aI := oF aa
 have bv := hB aW aa
 refine wp_cond_false bv ?_
 refine wp_skip ?_
 refine au _ _ ?_
 refine wp_seq_k fun cm bw => ?_
 refine wp_g0 [true, true, true, true, true, true, true, true, true, true, false] [(10, false)] 20
   [ve (iv n), vF, ve (.int .u64 (((n % 18446744073709551616).toNat : Nat) : Int)), ve (.int .u64 ((((n % 18446744073709551616).toNat) % 4294967296 : Nat) : Int)), ve (.int .u32 ((((n % 18446744073709551616).toNat) % 4294967296 : Nat) : Int)), ve (.int .u64 (((n % 18446744073709551616).toNat : Nat) : Int)), ve (.int .u64 ((((n % 18446744073709551616).toNat) / 4294967296 : Nat) : Int)), ve (.int .u32 (((((n % 18446744073709551616).toNat) / 4294967296) % 4294967296 : Nat) : Int)),
    (OP aT.heap.size 56 .u32 ([(((n % 18446744073709551616).toNat) % 4294967296), ((((n % 18446744073709551616).toNat) / 4294967296) % 4294967296)])), (fun (v_ : Value) (W : World) => ∃ (ag : Option Addr) (ah : Nat), v_ = .agg #[.bool (decide (sgn false (val ([(((n % 18446744073709551616).toNat) % 4294967296), ((((n % 18446744073709551616).toNat) / 4294967296) % 4294967296)])) < 0)), sv ag (canon (sgn false (val ([(((n % 18446744073709551616).toNat) % 4294967296), ((((n % 18446744073709551616).toNat) / 4294967296) % 4294967296)]))).natAbs) ah] ∧ SRow W .u32 ag (canon (sgn false (val ([(((n % 18446744073709551616).toNat) % 4294967296), ((((n % 18446744073709551616).toNat) / 4294967296) % 4294967296)]))).natAbs) ah), vt] ak (.eq (.eq (.eq (.eq (.eq (.eq (.eq (.eq (.cons (fun _ _ _ n ⟨_, _, e, h⟩ => ⟨_, _, e, h.new_ n⟩) (.cons (fun v W W' hn ⟨ag, ah, he, h0⟩ => ⟨ag, ah, he, h0.new_ hn⟩) (.tt (.nil)))))))))))) ?_ ?_
 refine .m (fun k => k.fx 0 aU) <| .t (fun _ w hn k => ⟨_, v_bin rfl (k.eq1 0 10 rfl) rfl (fun _ => rfl) (r_lssK aa), rfl⟩) <| .m (fun k => k.fx 3 ap) <| .t (fun _ w hn k => ⟨_, v_bin rfl (k.eq1 2 12 rfl) rfl (fun _ => rfl) (n_andMask64 ((n % 18446744073709551616).toNat) (by omega)), rfl⟩) <| .t (fun _ w hn k => ⟨_, v_conv rfl (k.eq1 3 13 rfl) (n_conv (by kernel_rfl) (by kernel_rfl) (by kernel_rfl) (IntWalk.u32_in _ (by omega))), rfl⟩) <| .m (fun k => k.fx 3 ap) <| .t (fun _ w hn k => ⟨_, v_bin rfl (k.eq1 5 15 rfl) rfl (fun _ => rfl) (n_shr ((n % 18446744073709551616).toNat) 32 (by decide)), rfl⟩) <| .t (fun _ w hn k => ⟨_, v_conv rfl (k.eq1 6 16 rfl) (n_conv (by kernel_rfl) (by kernel_rfl) (by kernel_rfl) (n_wrap32 _)), rfl⟩) ?_
 refine .o1 (tkA rfl (noG rfl) fun _ w hn k => (by
       exact x_bslice (k := .u32) (ps := [(0, .int .u32 ((((n % 18446744073709551616).toNat) % 4294967296 : Nat) : Int)), (1, .int .u32 (((((n % 18446744073709551616).toNat) / 4294967296) % 4294967296 : Nat) : Int))]) [(((n % 18446744073709551616).toNat) % 4294967296), ((((n % 18446744073709551616).toNat) / 4294967296) % 4294967296)] rfl (parts2 (k.eq1 4 14 rfl) (k.eq1 7 17 rfl)) elW rfl (by omega) (by omega) (by first | kernel_rfl | (simp only [enc, List.map_cons, List.map_nil, Int.toNat_natCast, Int.toNat_of_nonneg (by omega : (0 : Int) ≤ _)]; kernel_rfl)) fun bR bS W' hmo => ⟨bR, bS, rfl, (hmo.more hn.size)⟩)) ?_
 refine .o1 (tkC rfl (noG rfl) rfl fun _ w hn k => (by
       obtain ⟨bT, bU, bV, bx⟩ : (OP aT.heap.size 56 .u32 ([(((n % 18446744073709551616).toNat) % 4294967296), ((((n % 18446744073709551616).toNat) / 4294967296) % 4294967296)])) _ _ := k.dep 8 18 (by kernel_rfl) (by kernel_rfl)
       refine ⟨#[.bool false, sv bT ([(((n % 18446744073709551616).toNat) % 4294967296), ((((n % 18446744073709551616).toNat) / 4294967296) % 4294967296)]) bU], _, args2 (k.eq1 1 11 rfl) bV, fun w => by kernel_rfl, smade_c false _ ([(((n % 18446744073709551616).toNat) % 4294967296), ((((n % 18446744073709551616).toNat) / 4294967296) % 4294967296)]) _ _ bx.row (two_limbs_m _) (by first | omega | (simp only [List.length_nil, List.length_take, List.length_drop]; omega) | (simp only [List.length_cons, List.length_nil]; omega)), ?_⟩
       rintro e w' ⟨bW, bX, rfl, hmo0, hm⟩
       exact ⟨_, rfl, hm, ⟨bW, bX, rfl, hmo0⟩⟩)) ?_
 exact .off .nil
 refine aftI ak av aw fun bY cn b3 bz aK bA aE => ?_
 have a4 := aE.fx 2 aV
 obtain ⟨aj, ad, aF, bB⟩ : (fun (v_ : Value) (W : World) => ∃ (ag : Option Addr) (ah : Nat), v_ = .agg #[.bool (decide (sgn false (val ([(((n % 18446744073709551616).toNat) % 4294967296), ((((n % 18446744073709551616).toNat) / 4294967296) % 4294967296)])) < 0)), sv ag (canon (sgn false (val ([(((n % 18446744073709551616).toNat) % 4294967296), ((((n % 18446744073709551616).toNat) / 4294967296) % 4294967296)]))).natAbs) ah] ∧ SRow W .u32 ag (canon (sgn false (val ([(((n % 18446744073709551616).toNat) % 4294967296), ((((n % 18446744073709551616).toNat) / 4294967296) % 4294967296)]))).natAbs) ah) _ _ := aE.got 9 19 rfl (by kernel_rfl)
 have aF : bY.eval (.tmp 19) = .agg #[.bool (decide (sgn false (val ([(((n % 18446744073709551616).toNat) % 4294967296), ((((n % 18446744073709551616).toNat) / 4294967296) % 4294967296)])) < 0)), sv aj (canon (sgn false (val ([(((n % 18446744073709551616).toNat) % 4294967296), ((((n % 18446744073709551616).toNat) / 4294967296) % 4294967296)]))).natAbs) ad] := aF
 have aG := ax.new_ bA
 obtain ⟨b4, -, aH, aL, aq, bZ⟩ := s_two (v0 := .bool (decide (sgn false (val ([(((n % 18446744073709551616).toNat) % 4294967296), ((((n % 18446744073709551616).toNat) / 4294967296) % 4294967296)])) < 0))) (v1 := sv aj (canon (sgn false (val ([(((n % 18446744073709551616).toNat) % 4294967296), ((((n % 18446744073709551616).toNat) / 4294967296) % 4294967296)]))).natAbs) ad) Try.sizeOf26 rfl rfl rfl aG
 refine st_act rfl rfl fun b5 aM => a_store' rfl a4 aF aH (aM _ _ trivial ?_)
 have aN := bB.far aG aq (by first | rfl | decide | simp [notK])
 have aO := aK.trans aq (fun _ h b => by subst b; omega)
 refine st_nil (bw _ _ ?_)
 refine wp_ret (ret_k bz (v := .agg #[.bool (decide (sgn false (val ([(((n % 18446744073709551616).toNat) % 4294967296), ((((n % 18446744073709551616).toNat) / 4294967296) % 4294967296)])) < 0)), sv aj (canon (sgn false (val ([(((n % 18446744073709551616).toNat) % 4294967296), ((((n % 18446744073709551616).toNat) / 4294967296) % 4294967296)]))).natAbs) ad]) (res_c rfl a4 (l_two Try.isAgg26 Try.sizeOf26 aL)) ?_)
 have hz1 : sgn false (val ([(((n % 18446744073709551616).toNat) % 4294967296), ((((n % 18446744073709551616).toNat) / 4294967296) % 4294967296)])) = n := of_no hhi aa
 exact ⟨aj, ad, congrArg (fun z : Int => Ending.returned (Value.agg #[.bool (decide (z < 0)), sv aj (canon z.natAbs) ad])) hz1, Eq.mp (congrArg (fun z : Int => SRow _ .u32 aj (canon z.natAbs) ad) hz1) aN, aO⟩
theorem rbig_c (a : Bool) (Aa : Option Addr) (ma : List Nat) (ca : Nat) (b : Bool) (Ab : Option Addr) (mb : List Nat) (cb : Nat) (w : World) (hra : SRow w .u32 Aa ma ca) (hrb : SRow w .u32 Ab mb cb) : Calls Try.prog 60 #[.agg #[.bool a, sv Aa ma ca], .agg #[.bool b, sv Ab mb cb]] w (IsRet (.bool (decide (a = b) && decide (ma = mb))) w) := by
 refine enter_abs Try.func60 rfl fun a0 ak aE hp => ?_
 have ak : a0.tmps.size = 17 := ak
 have am : New w w := Upd.refl _ _
 have hp0 : a0.eval (.tmp 0) = .agg #[.bool a, sv Aa ma ca] := hp 0 _ rfl
 have hp1 : a0.eval (.tmp 1) = .agg #[.bool b, sv Ab mb cb] := hp 1 _ rfl
 refine wp_seq_k fun K1 aF => ?_
 refine wp_g [true, true, true] [] [] 17
   [IsNew w 26 [.bool a, sv Aa ma ca], IsNew w 26 [.bool b, sv Ab mb cb], vF]
   [0, 1] (newsCons (fun v w h => IsNew.old h) (newsCons (fun v w h => IsNew.old h) newsNil)) ak (.nw (.nw (.eq (.nil)))) ?_ (fun i h => by cases h) ?_
 exact .o2 (step_allocN (cs := [.bool a, sv Aa ma ca]) (t := 26) rfl (noG rfl) (fun _ w hn k => v_box rfl (k.fx 0 hp0) (fun w => rfl)) (fun q _ hq hb => ⟨q, rfl, hq, hb⟩)) <| .o2 (step_allocN (cs := [.bool b, sv Ab mb cb]) (t := 26) rfl (noG rfl) (fun _ w hn k => v_box rfl (k.fx 1 hp1) (fun w => rfl)) (fun q _ hq hb => ⟨q, rfl, hq, hb⟩)) <| .t (fun _ w hn k => ⟨_, v_assign rfl rfl, rfl⟩) .nil
 refine aftI ak aE am fun a2 w3 ae al ab aU an => ?_
 obtain ⟨q9, h8, ao, ac⟩ : IsNew _ _ _ _ _ := an.got 0 2 rfl (by kernel_rfl)
 obtain ⟨ah, ai, ap, ad⟩ : IsNew _ _ _ _ _ := an.got 1 3 rfl (by kernel_rfl)
 have aK := Nat.le_trans am.size ao
 have aL := Nat.le_trans am.size ap
 refine st_nil (aF _ _ (wp_seq_k fun aV aj => ?_))
 rcases bc (a) with aa | aa
 rcases bc (b) with af | af
 refine wp_g0 (.replicate 13 true) [] 17
   [ve (pv q9), vT, ve (pv ah), vT, vT, vT, ve (.pointer (some ⟨q9, 1, none⟩)), ve (sv Aa ma ca), ve (.pointer (some ⟨ah, 1, none⟩)), ve (sv Ab mb cb), ve (.bool (decide (ma = mb))), ve (.bool (decide (ma = mb))), ve (.bool (decide (ma = mb)))] ae (.eq (.eq (.eq (.eq (.eq (.eq (.eq (.eq (.eq (.eq (.eq (.eq (.eq (.nil)))))))))))))) ?_ ?_
 exact .f (fun k => k.fx 2 h8) <| .o1 (tk rfl rfl fun _ w hn k => ⟨_, v_load rfl (k.eq1 0 5 rfl) (l_one Try.isAgg4 ((ac.new_ hn).cell 0)), congrArg Value.bool aa⟩) <| .f (fun k => k.fx 3 ai) <| .o1 (tk rfl rfl fun _ w hn k => ⟨_, v_load rfl (k.eq1 2 7 rfl) (l_one Try.isAgg4 ((ad.new_ hn).cell 0)), congrArg Value.bool af⟩) <| .t (fun _ w hn k => ⟨_, v_bin rfl (k.eq1 1 6 rfl) (k.eq1 3 8 rfl) (fun _ => rfl) (fun w => by kernel_rfl), rfl⟩) <| .m (fun k => k.eq1 4 9 rfl) <| .gf (fun k => k.eq1 5 10 rfl) (fun k => k.fx 2 h8) <| .g (fun k => k.eq1 5 10 rfl) (fun _ w hn k => ⟨_, v_load rfl (k.eq1 6 11 rfl) (l_one Try.isAgg24 ((ac.new_ hn).cell 1)), rfl⟩) <| .gf (fun k => k.eq1 5 10 rfl) (fun k => k.fx 3 ai) <| .g (fun k => k.eq1 5 10 rfl) (fun _ w hn k => ⟨_, v_load rfl (k.eq1 8 13 rfl) (l_one Try.isAgg24 ((ad.new_ hn).cell 1)), rfl⟩) <| .o1 (cg rfl rfl rfl (fun _ _ k => k.eq1 5 10 rfl) rfl (fun _ w hn k => ⟨#[sv Aa ma ca, sv Ab mb cb], args2 (k.eq1 7 12 rfl) (k.eq1 9 14 rfl), fun _ => by kernel_rfl, rlist32_c _ ma _ _ mb _ _ (hra.new_ (ab.transNew hn)) (hrb.new_ (ab.transNew hn))⟩) fun _ => rfl) <| .t (fun _ w hn k => ⟨_, v_pickT rfl (k.eq1 5 10 rfl) (k.eq1 10 15 rfl), rfl⟩) <| .a (fun k => k.eq1 11 16 rfl) .nil
 refine aftI ae al ab fun aW aX aM aq ar aN au => ?_
 have aG := au.ge 12 4 rfl
 refine st_nil (aj _ _ ?_)
 refine wp_ret (ret_k aq (v := .bool (decide (ma = mb))) (res_t rfl aG _) ?_)
 refine ⟨?_, ar⟩
 show Ending.returned (.bool (decide (ma = mb))) = Ending.returned (.bool (decide (a = b) && decide (ma = mb)))
 first | rfl | (simp only [aa, af, bsm] <;> rfl) | (exfalso; omega)
 refine wp_g0 (.replicate 13 true) [] 17
   [ve (pv q9), vT, ve (pv ah), vF, vF, vF, vU, vU, vU, vU, vU, vF, vF] ae (.eq (.eq (.eq (.eq (.eq (.eq (.eq (.eq (.eq (.eq (.eq (.eq (.eq (.nil)))))))))))))) ?_ ?_
 exact .f (fun k => k.fx 2 h8) <| .o1 (tk rfl rfl fun _ w hn k => ⟨_, v_load rfl (k.eq1 0 5 rfl) (l_one Try.isAgg4 ((ac.new_ hn).cell 0)), congrArg Value.bool aa⟩) <| .f (fun k => k.fx 3 ai) <| .o1 (tk rfl rfl fun _ w hn k => ⟨_, v_load rfl (k.eq1 2 7 rfl) (l_one Try.isAgg4 ((ad.new_ hn).cell 0)), congrArg Value.bool af⟩) <| .t (fun _ w hn k => ⟨_, v_bin rfl (k.eq1 1 6 rfl) (k.eq1 3 8 rfl) (fun _ => rfl) (fun w => by kernel_rfl), rfl⟩) <| .m (fun k => k.eq1 4 9 rfl) <| .s (fun k => k.eq1 5 10 rfl) <| .s (fun k => k.eq1 5 10 rfl) <| .s (fun k => k.eq1 5 10 rfl) <| .s (fun k => k.eq1 5 10 rfl) <| .s (fun k => k.eq1 5 10 rfl) <| .t (fun _ w hn k => ⟨_, v_pickF rfl (k.eq1 5 10 rfl) rfl, rfl⟩) <| .a (fun k => k.eq1 11 16 rfl) .nil
 refine aftI ae al ab fun aY aZ aO av aw aP ax => ?_
 have aH := ax.ge 12 4 rfl
 refine st_nil (aj _ _ ?_)
 refine wp_ret (ret_k av (v := .bool false) (res_t rfl aH _) ?_)
 refine ⟨?_, aw⟩
 show Ending.returned (.bool false) = Ending.returned (.bool (decide (a = b) && decide (ma = mb)))
 first | rfl | (simp only [aa, af, bsm] <;> rfl) | (exfalso; omega)
 rcases bc (b) with ag | ag
 refine wp_g0 (.replicate 13 true) [] 17
   [ve (pv q9), vF, ve (pv ah), vT, vF, vF, vU, vU, vU, vU, vU, vF, vF] ae (.eq (.eq (.eq (.eq (.eq (.eq (.eq (.eq (.eq (.eq (.eq (.eq (.eq (.nil)))))))))))))) ?_ ?_
 exact .f (fun k => k.fx 2 h8) <| .o1 (tk rfl rfl fun _ w hn k => ⟨_, v_load rfl (k.eq1 0 5 rfl) (l_one Try.isAgg4 ((ac.new_ hn).cell 0)), congrArg Value.bool aa⟩) <| .f (fun k => k.fx 3 ai) <| .o1 (tk rfl rfl fun _ w hn k => ⟨_, v_load rfl (k.eq1 2 7 rfl) (l_one Try.isAgg4 ((ad.new_ hn).cell 0)), congrArg Value.bool ag⟩) <| .t (fun _ w hn k => ⟨_, v_bin rfl (k.eq1 1 6 rfl) (k.eq1 3 8 rfl) (fun _ => rfl) (fun w => by kernel_rfl), rfl⟩) <| .m (fun k => k.eq1 4 9 rfl) <| .s (fun k => k.eq1 5 10 rfl) <| .s (fun k => k.eq1 5 10 rfl) <| .s (fun k => k.eq1 5 10 rfl) <| .s (fun k => k.eq1 5 10 rfl) <| .s (fun k => k.eq1 5 10 rfl) <| .t (fun _ w hn k => ⟨_, v_pickF rfl (k.eq1 5 10 rfl) rfl, rfl⟩) <| .a (fun k => k.eq1 11 16 rfl) .nil
 refine aftI ae al ab fun a1 a3 aQ ay az aR aA => ?_
 have aI := aA.ge 12 4 rfl
 refine st_nil (aj _ _ ?_)
 refine wp_ret (ret_k ay (v := .bool false) (res_t rfl aI _) ?_)
 refine ⟨?_, az⟩
 show Ending.returned (.bool false) = Ending.returned (.bool (decide (a = b) && decide (ma = mb)))
 first | rfl | (simp only [aa, ag, bsm] <;> rfl) | (exfalso; omega)
 refine wp_g0 (.replicate 13 true) [] 17
   [ve (pv q9), vF, ve (pv ah), vF, vT, vT, ve (.pointer (some ⟨q9, 1, none⟩)), ve (sv Aa ma ca), ve (.pointer (some ⟨ah, 1, none⟩)), ve (sv Ab mb cb), ve (.bool (decide (ma = mb))), ve (.bool (decide (ma = mb))), ve (.bool (decide (ma = mb)))] ae (.eq (.eq (.eq (.eq (.eq (.eq (.eq (.eq (.eq (.eq (.eq (.eq (.eq (.nil)))))))))))))) ?_ ?_
 exact .f (fun k => k.fx 2 h8) <| .o1 (tk rfl rfl fun _ w hn k => ⟨_, v_load rfl (k.eq1 0 5 rfl) (l_one Try.isAgg4 ((ac.new_ hn).cell 0)), congrArg Value.bool aa⟩) <| .f (fun k => k.fx 3 ai) <| .o1 (tk rfl rfl fun _ w hn k => ⟨_, v_load rfl (k.eq1 2 7 rfl) (l_one Try.isAgg4 ((ad.new_ hn).cell 0)), congrArg Value.bool ag⟩) <| .t (fun _ w hn k => ⟨_, v_bin rfl (k.eq1 1 6 rfl) (k.eq1 3 8 rfl) (fun _ => rfl) (fun w => by kernel_rfl), rfl⟩) <| .m (fun k => k.eq1 4 9 rfl) <| .gf (fun k => k.eq1 5 10 rfl) (fun k => k.fx 2 h8) <| .g (fun k => k.eq1 5 10 rfl) (fun _ w hn k => ⟨_, v_load rfl (k.eq1 6 11 rfl) (l_one Try.isAgg24 ((ac.new_ hn).cell 1)), rfl⟩) <| .gf (fun k => k.eq1 5 10 rfl) (fun k => k.fx 3 ai) <| .g (fun k => k.eq1 5 10 rfl) (fun _ w hn k => ⟨_, v_load rfl (k.eq1 8 13 rfl) (l_one Try.isAgg24 ((ad.new_ hn).cell 1)), rfl⟩) <| .o1 (cg rfl rfl rfl (fun _ _ k => k.eq1 5 10 rfl) rfl (fun _ w hn k => ⟨#[sv Aa ma ca, sv Ab mb cb], args2 (k.eq1 7 12 rfl) (k.eq1 9 14 rfl), fun _ => by kernel_rfl, rlist32_c _ ma _ _ mb _ _ (hra.new_ (ab.transNew hn)) (hrb.new_ (ab.transNew hn))⟩) fun _ => rfl) <| .t (fun _ w hn k => ⟨_, v_pickT rfl (k.eq1 5 10 rfl) (k.eq1 10 15 rfl), rfl⟩) <| .a (fun k => k.eq1 11 16 rfl) .nil
 refine aftI ae al ab fun a4 a5 aS aB aC aT aD => ?_
 have aJ := aD.ge 12 4 rfl
 refine st_nil (aj _ _ ?_)
 refine wp_ret (ret_k aB (v := .bool (decide (ma = mb))) (res_t rfl aJ _) ?_)
 refine ⟨?_, aC⟩
 show Ending.returned (.bool (decide (ma = mb))) = Ending.returned (.bool (decide (a = b) && decide (ma = mb)))
 first | rfl | (simp only [aa, ag, bsm] <;> rfl) | (exfalso; omega)
theorem qsame_c (v : Vl) (Av : Option Addr) (cv : Nat) (Bv : Option Addr) (dv : Nat) (u : Vl) (Au : Option Addr) (cu : Nat) (Bu : Option Addr) (du : Nat) (w : World) (hmv : SRow w .u32 Av v.mag cv) (hsv : SRow w .u16 Bv v.s dv) (hmu : SRow w .u32 Au u.mag cu) (hsu : SRow w .u16 Bu u.s du) : Calls Try.prog 37 #[vv v Av cv Bv dv, vv u Au cu Bu du] w (IsRet (.bool (sameV v u)) w) := by
 refine enter_abs Try.func37 rfl fun a0 am aK hp => ?_
 have am : a0.tmps.size = 38 := am
 have an : New w w := Upd.refl _ _
 have hp0 : a0.eval (.tmp 0) = vv v Av cv Bv dv := hp 0 _ rfl
 have hp1 : a0.eval (.tmp 1) = vv u Au cu Bu du := hp 1 _ rfl
 refine wp_seq_k fun K1 aL => ?_
 refine wp_g [true, true, true] [] [] 38
   [IsNew w 32 [iv v.k, iv v.nk, iv v.nn, .bool v.neg, sv Av v.mag cv, sv Bv v.s dv, iv v.ref], IsNew w 32 [iv u.k, iv u.nk, iv u.nn, .bool u.neg, sv Au u.mag cu, sv Bu u.s du, iv u.ref], vF]
   [0, 1] (newsCons (fun v w h => IsNew.old h) (newsCons (fun v w h => IsNew.old h) newsNil)) am (.nw (.nw (.eq (.nil)))) ?_ (fun i h => by cases h) ?_
 exact .o2 (step_allocN (cs := [iv v.k, iv v.nk, iv v.nn, .bool v.neg, sv Av v.mag cv, sv Bv v.s dv, iv v.ref]) (t := 32) rfl (noG rfl) (fun _ w hn k => v_box rfl (k.fx 0 hp0) (fun w => rfl)) (fun q _ hq hb => ⟨q, rfl, hq, hb⟩)) <| .o2 (step_allocN (cs := [iv u.k, iv u.nk, iv u.nn, .bool u.neg, sv Au u.mag cu, sv Bu u.s du, iv u.ref]) (t := 32) rfl (noG rfl) (fun _ w hn k => v_box rfl (k.fx 1 hp1) (fun w => rfl)) (fun q _ hq hb => ⟨q, rfl, hq, hb⟩)) <| .t (fun _ w hn k => ⟨_, v_assign rfl rfl, rfl⟩) .nil
 refine aftI am aK an fun a2 w3 ah al aa a5 aq => ?_
 obtain ⟨q9, h8, ar, ab⟩ : IsNew _ _ _ _ _ := aq.got 0 2 rfl (by kernel_rfl)
 obtain ⟨ae, af, au, ac⟩ : IsNew _ _ _ _ _ := aq.got 1 3 rfl (by kernel_rfl)
 have aR := Nat.le_trans an.size ar
 have aS := Nat.le_trans an.size au
 refine st_nil (aL _ _ (wp_seq_k fun a6 ak => ?_))
 rcases bc (decide (v.k = u.k)) with ad | ad
 have ao := oT ad
 rcases bc ((decide ((Nm.mk v.nk v.nn).k = (Nm.mk u.nk u.nn).k) && decide ((Nm.mk v.nk v.nn).n = (Nm.mk u.nk u.nn).n))) with ag | ag
 rcases bc ((decide (v.neg = u.neg) && decide (v.mag = u.mag))) with ai | ai
 rcases bc (decide (v.s = u.s)) with aj | aj
 have ap := oT aj
 refine wp_g0 (.replicate 34 true) [] 38
   [ve (pv q9), ve (iv v.k), ve (pv ae), ve (iv u.k), vT, vT, ve (.pointer (some ⟨q9, 1, none⟩)), ve (nv (Nm.mk v.nk v.nn)), ve (.pointer (some ⟨ae, 1, none⟩)), ve (nv (Nm.mk u.nk u.nn)), vT, vT, vT, ve (.pointer (some ⟨q9, 3, none⟩)), ve (.agg #[.bool v.neg, sv Av v.mag cv]), ve (.pointer (some ⟨ae, 3, none⟩)), ve (.agg #[.bool u.neg, sv Au u.mag cu]), vT, vT, vT, ve (.pointer (some ⟨q9, 5, none⟩)), ve (sv Bv v.s dv), ve (.pointer (some ⟨ae, 5, none⟩)), ve (sv Bu u.s du), vT, vT, vT, ve (.pointer (some ⟨q9, 6, none⟩)), ve (iv v.ref), ve (.pointer (some ⟨ae, 6, none⟩)), ve (iv u.ref), ve (.bool (decide (v.ref = u.ref))), ve (.bool (decide (v.ref = u.ref))), ve (.bool (decide (v.ref = u.ref)))] ah (.eq (.eq (.eq (.eq (.eq (.eq (.eq (.eq (.eq (.eq (.eq (.eq (.eq (.eq (.eq (.eq (.eq (.eq (.eq (.eq (.eq (.eq (.eq (.eq (.eq (.eq (.eq (.eq (.eq (.eq (.eq (.eq (.eq (.eq (.nil))))))))))))))))))))))))))))))))))) ?_ ?_
 exact .f (fun k => k.fx 2 h8) <| .t (fun _ w hn k => ⟨_, v_load rfl (k.eq1 0 5 rfl) (l_one Try.isAgg3 ((ab.new_ hn).cell 0)), rfl⟩) <| .f (fun k => k.fx 3 af) <| .t (fun _ w hn k => ⟨_, v_load rfl (k.eq1 2 7 rfl) (l_one Try.isAgg3 ((ac.new_ hn).cell 0)), rfl⟩) <| .t (fun _ w hn k => ⟨_, v_bin rfl (k.eq1 1 6 rfl) (k.eq1 3 8 rfl) (fun _ => rfl) (r_eql ad), rfl⟩) <| .m (fun k => k.eq1 4 9 rfl) <| .gf (fun k => k.eq1 5 10 rfl) (fun k => k.fx 2 h8) <| .g (fun k => k.eq1 5 10 rfl) (fun _ w hn k => ⟨_, v_load rfl (k.eq1 6 11 rfl) (l_part Try.isAgg23 Try.sizeOf23 (ab.new_ hn) lb), rfl⟩) <| .gf (fun k => k.eq1 5 10 rfl) (fun k => k.fx 3 af) <| .g (fun k => k.eq1 5 10 rfl) (fun _ w hn k => ⟨_, v_load rfl (k.eq1 8 13 rfl) (l_part Try.isAgg23 Try.sizeOf23 (ac.new_ hn) lb), rfl⟩) <| .o1 (cg rfl rfl rfl (fun _ _ k => k.eq1 5 10 rfl) rfl (fun _ w hn k => ⟨#[nv (Nm.mk v.nk v.nn), nv (Nm.mk u.nk u.nn)], args2 (k.eq1 7 12 rfl) (k.eq1 9 14 rfl), fun _ => by kernel_rfl, rnum_c (Nm.mk v.nk v.nn) (Nm.mk u.nk u.nn) _ ⟩) fun _ => congrArg Value.bool ag) <| .t (fun _ w hn k => ⟨_, v_pickT rfl (k.eq1 5 10 rfl) (k.eq1 10 15 rfl), rfl⟩) <| .m (fun k => k.eq1 11 16 rfl) <| .gf (fun k => k.eq1 12 17 rfl) (fun k => k.fx 2 h8) <| .g (fun k => k.eq1 12 17 rfl) (fun _ w hn k => ⟨_, v_load rfl (k.eq1 13 18 rfl) (l_part Try.isAgg26 Try.sizeOf26 (ab.new_ hn) lb), rfl⟩) <| .gf (fun k => k.eq1 12 17 rfl) (fun k => k.fx 3 af) <| .g (fun k => k.eq1 12 17 rfl) (fun _ w hn k => ⟨_, v_load rfl (k.eq1 15 20 rfl) (l_part Try.isAgg26 Try.sizeOf26 (ac.new_ hn) lb), rfl⟩) <| .o1 (cg rfl rfl rfl (fun _ _ k => k.eq1 12 17 rfl) rfl (fun _ w hn k => ⟨#[.agg #[.bool v.neg, sv Av v.mag cv], .agg #[.bool u.neg, sv Au u.mag cu]], args2 (k.eq1 14 19 rfl) (k.eq1 16 21 rfl), fun _ => by kernel_rfl, rbig_c v.neg _ v.mag _ u.neg _ u.mag _ _ (hmv.new_ (aa.transNew hn)) (hmu.new_ (aa.transNew hn))⟩) fun _ => congrArg Value.bool ai) <| .t (fun _ w hn k => ⟨_, v_pickT rfl (k.eq1 12 17 rfl) (k.eq1 17 22 rfl), rfl⟩) <| .m (fun k => k.eq1 18 23 rfl) <| .gf (fun k => k.eq1 19 24 rfl) (fun k => k.fx 2 h8) <| .g (fun k => k.eq1 19 24 rfl) (fun _ w hn k => ⟨_, v_load rfl (k.eq1 20 25 rfl) (l_one Try.isAgg27 ((ab.new_ hn).cell 5)), rfl⟩) <| .gf (fun k => k.eq1 19 24 rfl) (fun k => k.fx 3 af) <| .g (fun k => k.eq1 19 24 rfl) (fun _ w hn k => ⟨_, v_load rfl (k.eq1 22 27 rfl) (l_one Try.isAgg27 ((ac.new_ hn).cell 5)), rfl⟩) <| .o1 (cg rfl rfl rfl (fun _ _ k => k.eq1 19 24 rfl) rfl (fun _ w hn k => ⟨#[sv Bv v.s dv, sv Bu u.s du], args2 (k.eq1 21 26 rfl) (k.eq1 23 28 rfl), fun _ => by kernel_rfl, rlist16_c _ v.s _ _ u.s _ _ (hsv.new_ (aa.transNew hn)) (hsu.new_ (aa.transNew hn))⟩) fun _ => congrArg Value.bool aj) <| .t (fun _ w hn k => ⟨_, v_pickT rfl (k.eq1 19 24 rfl) (k.eq1 24 29 rfl), rfl⟩) <| .m (fun k => k.eq1 25 30 rfl) <| .gf (fun k => k.eq1 26 31 rfl) (fun k => k.fx 2 h8) <| .g (fun k => k.eq1 26 31 rfl) (fun _ w hn k => ⟨_, v_load rfl (k.eq1 27 32 rfl) (l_one Try.isAgg3 ((ab.new_ hn).cell 6)), rfl⟩) <| .gf (fun k => k.eq1 26 31 rfl) (fun k => k.fx 3 af) <| .g (fun k => k.eq1 26 31 rfl) (fun _ w hn k => ⟨_, v_load rfl (k.eq1 29 34 rfl) (l_one Try.isAgg3 ((ac.new_ hn).cell 6)), rfl⟩) <| .g (fun k => k.eq1 26 31 rfl) (fun _ w hn k => ⟨_, v_bin rfl (k.eq1 28 33 rfl) (k.eq1 30 35 rfl) (fun _ => rfl) (r_eql rfl), rfl⟩) <| .t (fun _ w hn k => ⟨_, v_pickT rfl (k.eq1 26 31 rfl) (k.eq1 31 36 rfl), rfl⟩) <| .a (fun k => k.eq1 32 37 rfl) .nil
 refine aftI ah al aa fun a7 a8 aT av aw aU ax => ?_
 have aM := ax.ge 33 4 rfl
 refine st_nil (ak _ _ ?_)
 refine wp_ret (ret_k av (v := .bool (decide (v.ref = u.ref))) (res_t rfl aM _) ?_)
 refine ⟨?_, aw⟩
 show Ending.returned (.bool (decide (v.ref = u.ref))) = Ending.returned (.bool (sameV v u))
 first | rfl | (simp only [sameV, ad, ag, ai, aj, bsm] <;> rfl) | (exfalso; omega)
 have ap := oF aj
 refine wp_g0 (.replicate 34 true) [] 38
   [ve (pv q9), ve (iv v.k), ve (pv ae), ve (iv u.k), vT, vT, ve (.pointer (some ⟨q9, 1, none⟩)), ve (nv (Nm.mk v.nk v.nn)), ve (.pointer (some ⟨ae, 1, none⟩)), ve (nv (Nm.mk u.nk u.nn)), vT, vT, vT, ve (.pointer (some ⟨q9, 3, none⟩)), ve (.agg #[.bool v.neg, sv Av v.mag cv]), ve (.pointer (some ⟨ae, 3, none⟩)), ve (.agg #[.bool u.neg, sv Au u.mag cu]), vT, vT, vT, ve (.pointer (some ⟨q9, 5, none⟩)), ve (sv Bv v.s dv), ve (.pointer (some ⟨ae, 5, none⟩)), ve (sv Bu u.s du), vF, vF, vF, vU, vU, vU, vU, vU, vF, vF] ah (.eq (.eq (.eq (.eq (.eq (.eq (.eq (.eq (.eq (.eq (.eq (.eq (.eq (.eq (.eq (.eq (.eq (.eq (.eq (.eq (.eq (.eq (.eq (.eq (.eq (.eq (.eq (.eq (.eq (.eq (.eq (.eq (.eq (.eq (.nil))))))))))))))))))))))))))))))))))) ?_ ?_
 exact .f (fun k => k.fx 2 h8) <| .t (fun _ w hn k => ⟨_, v_load rfl (k.eq1 0 5 rfl) (l_one Try.isAgg3 ((ab.new_ hn).cell 0)), rfl⟩) <| .f (fun k => k.fx 3 af) <| .t (fun _ w hn k => ⟨_, v_load rfl (k.eq1 2 7 rfl) (l_one Try.isAgg3 ((ac.new_ hn).cell 0)), rfl⟩) <| .t (fun _ w hn k => ⟨_, v_bin rfl (k.eq1 1 6 rfl) (k.eq1 3 8 rfl) (fun _ => rfl) (r_eql ad), rfl⟩) <| .m (fun k => k.eq1 4 9 rfl) <| .gf (fun k => k.eq1 5 10 rfl) (fun k => k.fx 2 h8) <| .g (fun k => k.eq1 5 10 rfl) (fun _ w hn k => ⟨_, v_load rfl (k.eq1 6 11 rfl) (l_part Try.isAgg23 Try.sizeOf23 (ab.new_ hn) lb), rfl⟩) <| .gf (fun k => k.eq1 5 10 rfl) (fun k => k.fx 3 af) <| .g (fun k => k.eq1 5 10 rfl) (fun _ w hn k => ⟨_, v_load rfl (k.eq1 8 13 rfl) (l_part Try.isAgg23 Try.sizeOf23 (ac.new_ hn) lb), rfl⟩) <| .o1 (cg rfl rfl rfl (fun _ _ k => k.eq1 5 10 rfl) rfl (fun _ w hn k => ⟨#[nv (Nm.mk v.nk v.nn), nv (Nm.mk u.nk u.nn)], args2 (k.eq1 7 12 rfl) (k.eq1 9 14 rfl), fun _ => by kernel_rfl, rnum_c (Nm.mk v.nk v.nn) (Nm.mk u.nk u.nn) _ ⟩) fun _ => congrArg Value.bool ag) <| .t (fun _ w hn k => ⟨_, v_pickT rfl (k.eq1 5 10 rfl) (k.eq1 10 15 rfl), rfl⟩) <| .m (fun k => k.eq1 11 16 rfl) <| .gf (fun k => k.eq1 12 17 rfl) (fun k => k.fx 2 h8) <| .g (fun k => k.eq1 12 17 rfl) (fun _ w hn k => ⟨_, v_load rfl (k.eq1 13 18 rfl) (l_part Try.isAgg26 Try.sizeOf26 (ab.new_ hn) lb), rfl⟩) <| .gf (fun k => k.eq1 12 17 rfl) (fun k => k.fx 3 af) <| .g (fun k => k.eq1 12 17 rfl) (fun _ w hn k => ⟨_, v_load rfl (k.eq1 15 20 rfl) (l_part Try.isAgg26 Try.sizeOf26 (ac.new_ hn) lb), rfl⟩) <| .o1 (cg rfl rfl rfl (fun _ _ k => k.eq1 12 17 rfl) rfl (fun _ w hn k => ⟨#[.agg #[.bool v.neg, sv Av v.mag cv], .agg #[.bool u.neg, sv Au u.mag cu]], args2 (k.eq1 14 19 rfl) (k.eq1 16 21 rfl), fun _ => by kernel_rfl, rbig_c v.neg _ v.mag _ u.neg _ u.mag _ _ (hmv.new_ (aa.transNew hn)) (hmu.new_ (aa.transNew hn))⟩) fun _ => congrArg Value.bool ai) <| .t (fun _ w hn k => ⟨_, v_pickT rfl (k.eq1 12 17 rfl) (k.eq1 17 22 rfl), rfl⟩) <| .m (fun k => k.eq1 18 23 rfl) <| .gf (fun k => k.eq1 19 24 rfl) (fun k => k.fx 2 h8) <| .g (fun k => k.eq1 19 24 rfl) (fun _ w hn k => ⟨_, v_load rfl (k.eq1 20 25 rfl) (l_one Try.isAgg27 ((ab.new_ hn).cell 5)), rfl⟩) <| .gf (fun k => k.eq1 19 24 rfl) (fun k => k.fx 3 af) <| .g (fun k => k.eq1 19 24 rfl) (fun _ w hn k => ⟨_, v_load rfl (k.eq1 22 27 rfl) (l_one Try.isAgg27 ((ac.new_ hn).cell 5)), rfl⟩) <| .o1 (cg rfl rfl rfl (fun _ _ k => k.eq1 19 24 rfl) rfl (fun _ w hn k => ⟨#[sv Bv v.s dv, sv Bu u.s du], args2 (k.eq1 21 26 rfl) (k.eq1 23 28 rfl), fun _ => by kernel_rfl, rlist16_c _ v.s _ _ u.s _ _ (hsv.new_ (aa.transNew hn)) (hsu.new_ (aa.transNew hn))⟩) fun _ => congrArg Value.bool aj) <| .t (fun _ w hn k => ⟨_, v_pickT rfl (k.eq1 19 24 rfl) (k.eq1 24 29 rfl), rfl⟩) <| .m (fun k => k.eq1 25 30 rfl) <| .s (fun k => k.eq1 26 31 rfl) <| .s (fun k => k.eq1 26 31 rfl) <| .s (fun k => k.eq1 26 31 rfl) <| .s (fun k => k.eq1 26 31 rfl) <| .s (fun k => k.eq1 26 31 rfl) <| .t (fun _ w hn k => ⟨_, v_pickF rfl (k.eq1 26 31 rfl) rfl, rfl⟩) <| .a (fun k => k.eq1 32 37 rfl) .nil
 refine aftI ah al aa fun a9 ba aV ay az aW aA => ?_
 have aN := aA.ge 33 4 rfl
 refine st_nil (ak _ _ ?_)
 refine wp_ret (ret_k ay (v := .bool false) (res_t rfl aN _) ?_)
 refine ⟨?_, az⟩
 show Ending.returned (.bool false) = Ending.returned (.bool (sameV v u))
 first | rfl | (simp only [sameV, ad, ag, ai, aj, bsm] <;> rfl) | (exfalso; omega)
 refine wp_g0 (.replicate 34 true) [] 38
   [ve (pv q9), ve (iv v.k), ve (pv ae), ve (iv u.k), vT, vT, ve (.pointer (some ⟨q9, 1, none⟩)), ve (nv (Nm.mk v.nk v.nn)), ve (.pointer (some ⟨ae, 1, none⟩)), ve (nv (Nm.mk u.nk u.nn)), vT, vT, vT, ve (.pointer (some ⟨q9, 3, none⟩)), ve (.agg #[.bool v.neg, sv Av v.mag cv]), ve (.pointer (some ⟨ae, 3, none⟩)), ve (.agg #[.bool u.neg, sv Au u.mag cu]), vF, vF, vF, vU, vU, vU, vU, vU, vF, vF, vU, vU, vU, vU, vU, vF, vF] ah (.eq (.eq (.eq (.eq (.eq (.eq (.eq (.eq (.eq (.eq (.eq (.eq (.eq (.eq (.eq (.eq (.eq (.eq (.eq (.eq (.eq (.eq (.eq (.eq (.eq (.eq (.eq (.eq (.eq (.eq (.eq (.eq (.eq (.eq (.nil))))))))))))))))))))))))))))))))))) ?_ ?_
 exact .f (fun k => k.fx 2 h8) <| .t (fun _ w hn k => ⟨_, v_load rfl (k.eq1 0 5 rfl) (l_one Try.isAgg3 ((ab.new_ hn).cell 0)), rfl⟩) <| .f (fun k => k.fx 3 af) <| .t (fun _ w hn k => ⟨_, v_load rfl (k.eq1 2 7 rfl) (l_one Try.isAgg3 ((ac.new_ hn).cell 0)), rfl⟩) <| .t (fun _ w hn k => ⟨_, v_bin rfl (k.eq1 1 6 rfl) (k.eq1 3 8 rfl) (fun _ => rfl) (r_eql ad), rfl⟩) <| .m (fun k => k.eq1 4 9 rfl) <| .gf (fun k => k.eq1 5 10 rfl) (fun k => k.fx 2 h8) <| .g (fun k => k.eq1 5 10 rfl) (fun _ w hn k => ⟨_, v_load rfl (k.eq1 6 11 rfl) (l_part Try.isAgg23 Try.sizeOf23 (ab.new_ hn) lb), rfl⟩) <| .gf (fun k => k.eq1 5 10 rfl) (fun k => k.fx 3 af) <| .g (fun k => k.eq1 5 10 rfl) (fun _ w hn k => ⟨_, v_load rfl (k.eq1 8 13 rfl) (l_part Try.isAgg23 Try.sizeOf23 (ac.new_ hn) lb), rfl⟩) <| .o1 (cg rfl rfl rfl (fun _ _ k => k.eq1 5 10 rfl) rfl (fun _ w hn k => ⟨#[nv (Nm.mk v.nk v.nn), nv (Nm.mk u.nk u.nn)], args2 (k.eq1 7 12 rfl) (k.eq1 9 14 rfl), fun _ => by kernel_rfl, rnum_c (Nm.mk v.nk v.nn) (Nm.mk u.nk u.nn) _ ⟩) fun _ => congrArg Value.bool ag) <| .t (fun _ w hn k => ⟨_, v_pickT rfl (k.eq1 5 10 rfl) (k.eq1 10 15 rfl), rfl⟩) <| .m (fun k => k.eq1 11 16 rfl) <| .gf (fun k => k.eq1 12 17 rfl) (fun k => k.fx 2 h8) <| .g (fun k => k.eq1 12 17 rfl) (fun _ w hn k => ⟨_, v_load rfl (k.eq1 13 18 rfl) (l_part Try.isAgg26 Try.sizeOf26 (ab.new_ hn) lb), rfl⟩) <| .gf (fun k => k.eq1 12 17 rfl) (fun k => k.fx 3 af) <| .g (fun k => k.eq1 12 17 rfl) (fun _ w hn k => ⟨_, v_load rfl (k.eq1 15 20 rfl) (l_part Try.isAgg26 Try.sizeOf26 (ac.new_ hn) lb), rfl⟩) <| .o1 (cg rfl rfl rfl (fun _ _ k => k.eq1 12 17 rfl) rfl (fun _ w hn k => ⟨#[.agg #[.bool v.neg, sv Av v.mag cv], .agg #[.bool u.neg, sv Au u.mag cu]], args2 (k.eq1 14 19 rfl) (k.eq1 16 21 rfl), fun _ => by kernel_rfl, rbig_c v.neg _ v.mag _ u.neg _ u.mag _ _ (hmv.new_ (aa.transNew hn)) (hmu.new_ (aa.transNew hn))⟩) fun _ => congrArg Value.bool ai) <| .t (fun _ w hn k => ⟨_, v_pickT rfl (k.eq1 12 17 rfl) (k.eq1 17 22 rfl), rfl⟩) <| .m (fun k => k.eq1 18 23 rfl) <| .s (fun k => k.eq1 19 24 rfl) <| .s (fun k => k.eq1 19 24 rfl) <| .s (fun k => k.eq1 19 24 rfl) <| .s (fun k => k.eq1 19 24 rfl) <| .s (fun k => k.eq1 19 24 rfl) <| .t (fun _ w hn k => ⟨_, v_pickF rfl (k.eq1 19 24 rfl) rfl, rfl⟩) <| .m (fun k => k.eq1 25 30 rfl) <| .s (fun k => k.eq1 26 31 rfl) <| .s (fun k => k.eq1 26 31 rfl) <| .s (fun k => k.eq1 26 31 rfl) <| .s (fun k => k.eq1 26 31 rfl) <| .s (fun k => k.eq1 26 31 rfl) <| .t (fun _ w hn k => ⟨_, v_pickF rfl (k.eq1 26 31 rfl) rfl, rfl⟩) <| .a (fun k => k.eq1 32 37 rfl) .nil
 refine aftI ah al aa fun bb bd aX aB aC aY aD => ?_
 have aO := aD.ge 33 4 rfl
 refine st_nil (ak _ _ ?_)
 refine wp_ret (ret_k aB (v := .bool false) (res_t rfl aO _) ?_)
 refine ⟨?_, aC⟩
 show Ending.returned (.bool false) = Ending.returned (.bool (sameV v u))
 first | rfl | (simp only [sameV, ad, ag, ai, bsm] <;> rfl) | (exfalso; omega)
 refine wp_g0 (.replicate 34 true) [] 38
   [ve (pv q9), ve (iv v.k), ve (pv ae), ve (iv u.k), vT, vT, ve (.pointer (some ⟨q9, 1, none⟩)), ve (nv (Nm.mk v.nk v.nn)), ve (.pointer (some ⟨ae, 1, none⟩)), ve (nv (Nm.mk u.nk u.nn)), vF, vF, vF, vU, vU, vU, vU, vU, vF, vF, vU, vU, vU, vU, vU, vF, vF, vU, vU, vU, vU, vU, vF, vF] ah (.eq (.eq (.eq (.eq (.eq (.eq (.eq (.eq (.eq (.eq (.eq (.eq (.eq (.eq (.eq (.eq (.eq (.eq (.eq (.eq (.eq (.eq (.eq (.eq (.eq (.eq (.eq (.eq (.eq (.eq (.eq (.eq (.eq (.eq (.nil))))))))))))))))))))))))))))))))))) ?_ ?_
 exact .f (fun k => k.fx 2 h8) <| .t (fun _ w hn k => ⟨_, v_load rfl (k.eq1 0 5 rfl) (l_one Try.isAgg3 ((ab.new_ hn).cell 0)), rfl⟩) <| .f (fun k => k.fx 3 af) <| .t (fun _ w hn k => ⟨_, v_load rfl (k.eq1 2 7 rfl) (l_one Try.isAgg3 ((ac.new_ hn).cell 0)), rfl⟩) <| .t (fun _ w hn k => ⟨_, v_bin rfl (k.eq1 1 6 rfl) (k.eq1 3 8 rfl) (fun _ => rfl) (r_eql ad), rfl⟩) <| .m (fun k => k.eq1 4 9 rfl) <| .gf (fun k => k.eq1 5 10 rfl) (fun k => k.fx 2 h8) <| .g (fun k => k.eq1 5 10 rfl) (fun _ w hn k => ⟨_, v_load rfl (k.eq1 6 11 rfl) (l_part Try.isAgg23 Try.sizeOf23 (ab.new_ hn) lb), rfl⟩) <| .gf (fun k => k.eq1 5 10 rfl) (fun k => k.fx 3 af) <| .g (fun k => k.eq1 5 10 rfl) (fun _ w hn k => ⟨_, v_load rfl (k.eq1 8 13 rfl) (l_part Try.isAgg23 Try.sizeOf23 (ac.new_ hn) lb), rfl⟩) <| .o1 (cg rfl rfl rfl (fun _ _ k => k.eq1 5 10 rfl) rfl (fun _ w hn k => ⟨#[nv (Nm.mk v.nk v.nn), nv (Nm.mk u.nk u.nn)], args2 (k.eq1 7 12 rfl) (k.eq1 9 14 rfl), fun _ => by kernel_rfl, rnum_c (Nm.mk v.nk v.nn) (Nm.mk u.nk u.nn) _ ⟩) fun _ => congrArg Value.bool ag) <| .t (fun _ w hn k => ⟨_, v_pickT rfl (k.eq1 5 10 rfl) (k.eq1 10 15 rfl), rfl⟩) <| .m (fun k => k.eq1 11 16 rfl) <| .s (fun k => k.eq1 12 17 rfl) <| .s (fun k => k.eq1 12 17 rfl) <| .s (fun k => k.eq1 12 17 rfl) <| .s (fun k => k.eq1 12 17 rfl) <| .s (fun k => k.eq1 12 17 rfl) <| .t (fun _ w hn k => ⟨_, v_pickF rfl (k.eq1 12 17 rfl) rfl, rfl⟩) <| .m (fun k => k.eq1 18 23 rfl) <| .s (fun k => k.eq1 19 24 rfl) <| .s (fun k => k.eq1 19 24 rfl) <| .s (fun k => k.eq1 19 24 rfl) <| .s (fun k => k.eq1 19 24 rfl) <| .s (fun k => k.eq1 19 24 rfl) <| .t (fun _ w hn k => ⟨_, v_pickF rfl (k.eq1 19 24 rfl) rfl, rfl⟩) <| .m (fun k => k.eq1 25 30 rfl) <| .s (fun k => k.eq1 26 31 rfl) <| .s (fun k => k.eq1 26 31 rfl) <| .s (fun k => k.eq1 26 31 rfl) <| .s (fun k => k.eq1 26 31 rfl) <| .s (fun k => k.eq1 26 31 rfl) <| .t (fun _ w hn k => ⟨_, v_pickF rfl (k.eq1 26 31 rfl) rfl, rfl⟩) <| .a (fun k => k.eq1 32 37 rfl) .nil
 refine aftI ah al aa fun be bf aZ aE aF a1 aG => ?_
 have aP := aG.ge 33 4 rfl
 refine st_nil (ak _ _ ?_)
 refine wp_ret (ret_k aE (v := .bool false) (res_t rfl aP _) ?_)
 refine ⟨?_, aF⟩
 show Ending.returned (.bool false) = Ending.returned (.bool (sameV v u))
 first | rfl | (simp only [sameV, ad, ag, bsm] <;> rfl) | (exfalso; omega)
 have ao := oF ad
 refine wp_g0 (.replicate 34 true) [] 38
   [ve (pv q9), ve (iv v.k), ve (pv ae), ve (iv u.k), vF, vF, vU, vU, vU, vU, vU, vF, vF, vU, vU, vU, vU, vU, vF, vF, vU, vU, vU, vU, vU, vF, vF, vU, vU, vU, vU, vU, vF, vF] ah (.eq (.eq (.eq (.eq (.eq (.eq (.eq (.eq (.eq (.eq (.eq (.eq (.eq (.eq (.eq (.eq (.eq (.eq (.eq (.eq (.eq (.eq (.eq (.eq (.eq (.eq (.eq (.eq (.eq (.eq (.eq (.eq (.eq (.eq (.nil))))))))))))))))))))))))))))))))))) ?_ ?_
 exact .f (fun k => k.fx 2 h8) <| .t (fun _ w hn k => ⟨_, v_load rfl (k.eq1 0 5 rfl) (l_one Try.isAgg3 ((ab.new_ hn).cell 0)), rfl⟩) <| .f (fun k => k.fx 3 af) <| .t (fun _ w hn k => ⟨_, v_load rfl (k.eq1 2 7 rfl) (l_one Try.isAgg3 ((ac.new_ hn).cell 0)), rfl⟩) <| .t (fun _ w hn k => ⟨_, v_bin rfl (k.eq1 1 6 rfl) (k.eq1 3 8 rfl) (fun _ => rfl) (r_eql ad), rfl⟩) <| .m (fun k => k.eq1 4 9 rfl) <| .s (fun k => k.eq1 5 10 rfl) <| .s (fun k => k.eq1 5 10 rfl) <| .s (fun k => k.eq1 5 10 rfl) <| .s (fun k => k.eq1 5 10 rfl) <| .s (fun k => k.eq1 5 10 rfl) <| .t (fun _ w hn k => ⟨_, v_pickF rfl (k.eq1 5 10 rfl) rfl, rfl⟩) <| .m (fun k => k.eq1 11 16 rfl) <| .s (fun k => k.eq1 12 17 rfl) <| .s (fun k => k.eq1 12 17 rfl) <| .s (fun k => k.eq1 12 17 rfl) <| .s (fun k => k.eq1 12 17 rfl) <| .s (fun k => k.eq1 12 17 rfl) <| .t (fun _ w hn k => ⟨_, v_pickF rfl (k.eq1 12 17 rfl) rfl, rfl⟩) <| .m (fun k => k.eq1 18 23 rfl) <| .s (fun k => k.eq1 19 24 rfl) <| .s (fun k => k.eq1 19 24 rfl) <| .s (fun k => k.eq1 19 24 rfl) <| .s (fun k => k.eq1 19 24 rfl) <| .s (fun k => k.eq1 19 24 rfl) <| .t (fun _ w hn k => ⟨_, v_pickF rfl (k.eq1 19 24 rfl) rfl, rfl⟩) <| .m (fun k => k.eq1 25 30 rfl) <| .s (fun k => k.eq1 26 31 rfl) <| .s (fun k => k.eq1 26 31 rfl) <| .s (fun k => k.eq1 26 31 rfl) <| .s (fun k => k.eq1 26 31 rfl) <| .s (fun k => k.eq1 26 31 rfl) <| .t (fun _ w hn k => ⟨_, v_pickF rfl (k.eq1 26 31 rfl) rfl, rfl⟩) <| .a (fun k => k.eq1 32 37 rfl) .nil
 refine aftI ah al aa fun bg bh a3 aH aI a4 aJ => ?_
 have aQ := aJ.ge 33 4 rfl
 refine st_nil (ak _ _ ?_)
 refine wp_ret (ret_k aH (v := .bool false) (res_t rfl aQ _) ?_)
 refine ⟨?_, aI⟩
 show Ending.returned (.bool false) = Ending.returned (.bool (sameV v u))
 first | rfl | (simp only [sameV, ad, bsm] <;> rfl) | (exfalso; omega)
theorem qmay_c0 (v : Vl) (Av : Option Addr) (cv : Nat) (Bv : Option Addr) (dv : Nat) (w : World) (hmv : SRow w .u32 Av v.mag cv) (hsv : SRow w .u16 Bv v.s dv) : Calls Try.prog 51 #[vv v Av cv Bv dv] w (IsRet (.bool (mayR v)) w) := by
 refine enter_abs Try.func51 rfl fun a0 bw g2 hp => ?_
 have bw : a0.tmps.size = 63 := bw
 have fE : New w w := Upd.refl _ _
 have hp0 : a0.eval (.tmp 0) = vv v Av cv Bv dv := hp 0 _ rfl
 refine wp_seq_k fun K1 g3 => ?_
 refine wp_g [true, true] [] [] 63
   [IsNew w 32 [iv v.k, iv v.nk, iv v.nn, .bool v.neg, sv Av v.mag cv, sv Bv v.s dv, iv v.ref], vF]
   [0] (newsCons (fun v w h => IsNew.old h) newsNil) bw (.nw (.eq (.nil))) ?_ (fun i h => by cases h) ?_
 exact .o2 (step_allocN (cs := [iv v.k, iv v.nk, iv v.nn, .bool v.neg, sv Av v.mag cv, sv Bv v.s dv, iv v.ref]) (t := 32) rfl (noG rfl) (fun _ w hn k => v_box rfl (k.fx 0 hp0) (fun w => rfl)) (fun q _ hq hb => ⟨q, rfl, hq, hb⟩)) <| .t (fun _ w hn k => ⟨_, v_assign rfl rfl, rfl⟩) .nil
 refine aftI bw g2 fE fun a2 w3 fF g4 cq jv g5 => ?_
 obtain ⟨q9, h8, fR, bk⟩ : IsNew _ _ _ _ _ := g5.got 0 1 rfl (by kernel_rfl)
 have hK := Nat.le_trans fE.size fR
 refine st_nil (g3 _ _ (wp_seq_k fun jw fS => ?_))
 refine wp_g [true, true, true, true, false] [] [(4, false)] 63
   [ve (pv q9), ve (iv v.k), ve (vv (Vl.mk v.k 0 0 false [] [] 0) none 0 none 0), IsNew w3 32 [iv 0, iv 0, iv 0, .bool false, sv none ([]) 0, sv none ([]) 0, iv 0], vt]
   [3] (newsCons (fun v w h => IsNew.old h) newsNil) fF (.eq (.eq (.eq (.nw (.tt (.nil)))))) ?_ (fun i h => by cases h) ?_
 exact .f (fun k => k.fx 1 h8) <| .t (fun _ w hn k => ⟨_, v_load rfl (k.eq1 0 4 rfl) (l_one Try.isAgg3 ((bk.new_ hn).cell 0)), rfl⟩) <| .t (fun _ w hn k => ⟨_, v_build (ps := [(0, iv v.k)]) rfl (parts1 (k.eq1 1 5 rfl)) (by kernel_rfl), rfl⟩) <| .o2 (step_allocN (cs := [iv 0, iv 0, iv 0, .bool false, sv none ([]) 0, sv none ([]) 0, iv 0]) (t := 32) rfl (noG rfl) (fun _ w hn k => rfl) (fun q _ hq hb => ⟨q, rfl, hq, hb⟩)) <| .off .nil
 refine aftI fF g4 cq fun jx jy cr fT fU fV bl => ?_
 have fG := bl.fx 1 h8
 have g6 := bl.ge 2 6 rfl
 obtain ⟨ap, fH, ct, fW⟩ : IsNew _ _ _ _ _ := bl.got 3 3 rfl (by kernel_rfl)
 have fX := bk.new_ fV
 have hne28 : q9 ≠ ap := by have h1 := bk.lt; have h2 := ct; omega
 have hL := Nat.le_trans cq.size ct
 obtain ⟨g7, dh, di, fY, fZ⟩ := s_many (P := Try.prog) (t := 32) (i := 0) [iv v.k, iv 0, iv 0, .bool false, sv none ([]) 0, sv none ([]) 0, iv 0] Try.sizeOf32 rfl rfl rfl fW lb
 have f0 : Blk g7 ap 32 [iv v.k, iv 0, iv 0, .bool false, sv none ([]) 0, sv none ([]) 0, iv 0] := di
 refine st_act rfl rfl fun jz f1 => a_store' rfl fH g6 dh (f1 _ _ trivial ?_)
 have cu := fZ _ _ _ (hne28) fX
 have f2 := fU.trans fY (fun _ h b => by subst b; omega)
 refine st_nil (fS _ _ (wp_seq_k fun jA am => ?_))
 refine wp_seq_k fun jB f3 => ?_
 refine wp_g0 [true, true] [] 63
   [ve (pv q9), ve (iv v.k)] cr (.eq (.eq (.nil))) ?_ ?_
 exact .f (fun k => k.fx 1 fG) <| .t (fun _ w hn k => ⟨_, v_load rfl (k.eq1 0 7 rfl) (l_one Try.isAgg3 ((cu.new_ hn).cell 0)), rfl⟩) .nil
 refine aftI cr fT f2 fun jC jD cw f4 f5 cx bm => ?_
 have g8 := bm.fx 1 fG
 have g9 := bm.fx 3 fH
 have fI := bm.ge 1 8 rfl
 have f6 := cu.new_ cx
 have f7 := f0.new_ cx
 refine st_nil (f3 _ _ ?_)
 refine wp_block ?_
 refine wp_seq_k fun jE cy => ?_
 refine wp_seq_k fun jF f8 => ?_
 refine wp_g0 [true, true] [] 63
   [ve (.bool (decide (v.k = 0))), ve (.bool (decide (v.k = 0)))] cw (.eq (.eq (.nil))) ?_ ?_
 exact .t (fun _ w hn k => ⟨_, v_bin rfl (k.fx 8 fI) rfl (fun _ => rfl) (r_eql rfl), rfl⟩) <| .a (fun k => k.eq1 0 10 rfl) .nil
 refine aftI cw f4 f5 fun jG jH aR cz aS cA aT => ?_
 have fJ := aT.fx 1 g8
 have fK := aT.fx 3 g9
 have fL := aT.fx 8 fI
 have fM := aT.ge 1 9 rfl
 have cB := f6.new_ cA
 have cC := f7.new_ cA
 refine st_nil (f8 _ _ ?_)
 rcases bc (decide (v.k = 0)) with ab | ab
 have dj := oT ab
 have cD := hB fM ab
 refine wp_cond_true cD ?_
 refine wp_skip ?_
 refine cy _ _ ?_
 refine wp_cond_true cD ?_
 refine wp_skip ?_
 refine am _ _ ?_
 refine wp_seq_k fun jI f9 => ?_
 refine wp_g0 [true, true, true, true] [] 63
   [ve (vv v Av cv Bv dv), ve (vv (Vl.mk v.k 0 0 false [] [] 0) none 0 none 0), ve (.bool (sameV v (Vl.mk v.k 0 0 false [] [] 0))), ve (.bool (sameV v (Vl.mk v.k 0 0 false [] [] 0)))] aR (.eq (.eq (.eq (.eq (.nil))))) ?_ ?_
 exact .t (fun _ w hn k => ⟨_, v_load rfl (k.fx 1 fJ) (l_agg Try.isAgg32 Try.sizeOf32 (cB.new_ hn) rfl), rfl⟩) <| .t (fun _ w hn k => ⟨_, v_load rfl (k.fx 3 fK) (l_agg Try.isAgg32 Try.sizeOf32 (cC.new_ hn) rfl), rfl⟩) <| .o1 (ck rfl rfl rfl (fun _ w hn k => ⟨#[vv v Av cv Bv dv, vv (Vl.mk v.k 0 0 false [] [] 0) none 0 none 0], args2 (k.eq1 0 60 rfl) (k.eq1 1 61 rfl), fun _ => by kernel_rfl, qsame_c v _ _ _ _ (Vl.mk v.k 0 0 false [] [] 0) _ _ _ _ _ (hmv.new_ (aS.transNew hn)) (hsv.new_ (aS.transNew hn)) (SRow.nil _ _) (SRow.nil _ _)⟩) fun _ => rfl) <| .a (fun k => k.eq1 2 62 rfl) .nil
 refine aftI aR cz aS fun jJ jK hM ga gb hN gc => ?_
 have ha := gc.ge 3 2 rfl
 refine st_nil (f9 _ _ ?_)
 refine wp_ret (ret_k ga (v := .bool (sameV v (Vl.mk v.k 0 0 false [] [] 0))) (res_t rfl ha _) ?_)
 refine ⟨?_, gb⟩
 show Ending.returned (.bool (sameV v (Vl.mk v.k 0 0 false [] [] 0))) = Ending.returned (.bool (mayR v))
 first | rfl | (simp only [mayR, Vl.num, ab, bsm] <;> rfl) | (exfalso; omega)
 have dj := oF ab
 have gd := hB fM ab
 refine wp_cond_false gd ?_
 refine wp_g0 [true, true] [] 63
   [ve (.bool (decide (v.k = 1))), ve (.bool (decide (v.k = 1)))] aR (.eq (.eq (.nil))) ?_ ?_
 exact .t (fun _ w hn k => ⟨_, v_bin rfl (k.fx 8 fL) rfl (fun _ => rfl) (r_eql rfl), rfl⟩) <| .a (fun k => k.eq1 0 11 rfl) .nil
 refine aftI aR cz aS fun jL jM aU cE aV cF aW => ?_
 have fN := aW.fx 1 fJ
 have fO := aW.fx 3 fK
 have fP := aW.fx 8 fL
 have fQ := aW.ge 1 9 rfl
 have cG := cB.new_ cF
 have cH := cC.new_ cF
 refine st_nil (cy _ _ ?_)
 rcases bc (decide (v.k = 1)) with ac | ac
 have dk := oT ac
 have gg := hB fQ ac
 refine wp_cond_true gg ?_
 refine wp_skip ?_
 refine am _ _ ?_
 refine wp_seq_k fun jN gh => ?_
 refine wp_g0 [true, true, true, true] [] 63
   [ve (vv v Av cv Bv dv), ve (vv (Vl.mk v.k 0 0 false [] [] 0) none 0 none 0), ve (.bool (sameV v (Vl.mk v.k 0 0 false [] [] 0))), ve (.bool (sameV v (Vl.mk v.k 0 0 false [] [] 0)))] aU (.eq (.eq (.eq (.eq (.nil))))) ?_ ?_
 exact .t (fun _ w hn k => ⟨_, v_load rfl (k.fx 1 fN) (l_agg Try.isAgg32 Try.sizeOf32 (cG.new_ hn) rfl), rfl⟩) <| .t (fun _ w hn k => ⟨_, v_load rfl (k.fx 3 fO) (l_agg Try.isAgg32 Try.sizeOf32 (cH.new_ hn) rfl), rfl⟩) <| .o1 (ck rfl rfl rfl (fun _ w hn k => ⟨#[vv v Av cv Bv dv, vv (Vl.mk v.k 0 0 false [] [] 0) none 0 none 0], args2 (k.eq1 0 60 rfl) (k.eq1 1 61 rfl), fun _ => by kernel_rfl, qsame_c v _ _ _ _ (Vl.mk v.k 0 0 false [] [] 0) _ _ _ _ _ (hmv.new_ (aV.transNew hn)) (hsv.new_ (aV.transNew hn)) (SRow.nil _ _) (SRow.nil _ _)⟩) fun _ => rfl) <| .a (fun k => k.eq1 2 62 rfl) .nil
 refine aftI aU cE aV fun jO jP hc dl dm hO dn => ?_
 have gi := dn.ge 3 2 rfl
 refine st_nil (gh _ _ ?_)
 refine wp_ret (ret_k dl (v := .bool (sameV v (Vl.mk v.k 0 0 false [] [] 0))) (res_t rfl gi _) ?_)
 refine ⟨?_, dm⟩
 show Ending.returned (.bool (sameV v (Vl.mk v.k 0 0 false [] [] 0))) = Ending.returned (.bool (mayR v))
 first | rfl | (simp only [mayR, Vl.num, ab, ac, bsm] <;> rfl) | (exfalso; omega)
 have dk := oF ac
 have dp := hB fQ ac
 refine wp_cond_false dp ?_
 refine wp_seq_k fun hP dq => ?_
 refine wp_g0 [true, true] [] 63
   [ve (.bool (decide (v.k = 2))), ve (.bool (decide (v.k = 2)))] aU (.eq (.eq (.nil))) ?_ ?_
 exact .t (fun _ w hn k => ⟨_, v_bin rfl (k.fx 8 fP) rfl (fun _ => rfl) (r_eql rfl), rfl⟩) <| .a (fun k => k.eq1 0 13 rfl) .nil
 refine aftI aU cE aV fun hQ hR av bx bz bA aw => ?_
 have bn := aw.fx 1 fN
 have bo := aw.fx 3 fO
 have cI := aw.fx 8 fP
 have cJ := aw.ge 1 12 rfl
 have aX := cG.new_ bA
 have bB := cH.new_ bA
 refine st_nil (dq _ _ ?_)
 rcases bc (decide (v.k = 2)) with aa | aa
 have cK := oT aa
 have dr := hB cJ aa
 refine wp_cond_true dr ?_
 refine wp_seq_k fun hS ds => ?_
 refine wp_g0 [true, true, true, false] [(3, false)] 63
   [ve (.pointer (some ⟨q9, 6, none⟩)), ve (iv v.ref), ve (.pointer (some ⟨ap, 6, none⟩)), vt] av (.eq (.eq (.eq (.tt (.nil))))) ?_ ?_
 exact .f (fun k => k.fx 1 bn) <| .t (fun _ w hn k => ⟨_, v_load rfl (k.eq1 0 14 rfl) (l_one Try.isAgg3 ((aX.new_ hn).cell 6)), rfl⟩) <| .f (fun k => k.fx 3 bo) <| .off .nil
 refine aftI av bx bz fun hT hU ao aY dt bC ax => ?_
 have an := ax.fx 1 bn
 have bp := ax.fx 3 bo
 have gj := ax.ge 1 15 rfl
 have gk := ax.ge 2 16 rfl
 have du := aX.new_ bC
 have dw := bB.new_ bC
 obtain ⟨hV, -, cL, aZ, dx, dy⟩ := s_one (v := iv v.ref) (i := 6) Try.sizeOf3 rfl rfl dw lb
 refine st_act rfl rfl fun hW dz => a_store' rfl gk gj cL (dz _ _ trivial ?_)
 have ah := dy _ _ _ (hne28) du
 have a1 := dt.trans dx (fun _ h b => by subst b; omega)
 refine st_nil (ds _ _ (wp_seq_k fun hX a3 => ?_))
 rcases bc (decide (v.ref = 0)) with ag | ag
 have cM := oT ag
 refine wp_g0 (.replicate 8 true) [] 63
   [ve (.pointer (some ⟨q9, 6, none⟩)), ve (iv v.ref), vF, vF, vU, vU, vU, vF] ao (.eq (.eq (.eq (.eq (.eq (.eq (.eq (.eq (.nil))))))))) ?_ ?_
 exact .f (fun k => k.fx 1 an) <| .t (fun _ w hn k => ⟨_, v_load rfl (k.eq1 0 17 rfl) (l_one Try.isAgg3 ((ah.new_ hn).cell 6)), rfl⟩) <| .t (fun _ w hn k => ⟨_, v_bin rfl (k.eq1 1 18 rfl) rfl (fun _ => rfl) (r_neq ag), rfl⟩) <| .m (fun k => k.eq1 2 19 rfl) <| .s (fun k => k.eq1 3 20 rfl) <| .s (fun k => k.eq1 3 20 rfl) <| .s (fun k => k.eq1 3 20 rfl) <| .t (fun _ w hn k => ⟨_, v_pickF rfl (k.eq1 3 20 rfl) rfl, rfl⟩) .nil
 refine aftI ao aY a1 fun hY hZ bD dA a4 bE a5 => ?_
 have gl := a5.fx 1 an
 have gm := a5.fx 3 bp
 have gn := a5.ge 7 24 rfl
 have dB := ah.new_ bE
 have dC := aZ.new_ bE
 refine st_nil (a3 _ _ ?_)
 refine wp_cond_false gn ?_
 refine wp_skip ?_
 refine am _ _ ?_
 refine wp_seq_k fun h0 dD => ?_
 refine wp_g0 [true, true, true, true] [] 63
   [ve (vv v Av cv Bv dv), ve (vv (Vl.mk v.k 0 0 false [] [] v.ref) none 0 none 0), ve (.bool (sameV v (Vl.mk v.k 0 0 false [] [] v.ref))), ve (.bool (sameV v (Vl.mk v.k 0 0 false [] [] v.ref)))] bD (.eq (.eq (.eq (.eq (.nil))))) ?_ ?_
 exact .t (fun _ w hn k => ⟨_, v_load rfl (k.fx 1 gl) (l_agg Try.isAgg32 Try.sizeOf32 (dB.new_ hn) rfl), rfl⟩) <| .t (fun _ w hn k => ⟨_, v_load rfl (k.fx 3 gm) (l_agg Try.isAgg32 Try.sizeOf32 (dC.new_ hn) rfl), rfl⟩) <| .o1 (ck rfl rfl rfl (fun _ w hn k => ⟨#[vv v Av cv Bv dv, vv (Vl.mk v.k 0 0 false [] [] v.ref) none 0 none 0], args2 (k.eq1 0 60 rfl) (k.eq1 1 61 rfl), fun _ => by kernel_rfl, qsame_c v _ _ _ _ (Vl.mk v.k 0 0 false [] [] v.ref) _ _ _ _ _ (hmv.new_ (a4.transNew hn)) (hsv.new_ (a4.transNew hn)) (SRow.nil _ _) (SRow.nil _ _)⟩) fun _ => rfl) <| .a (fun k => k.eq1 2 62 rfl) .nil
 refine aftI bD dA a4 fun h3 h4 hd dE dF he dG => ?_
 have go := dG.ge 3 2 rfl
 refine st_nil (dD _ _ ?_)
 refine wp_ret (ret_k dE (v := .bool (sameV v (Vl.mk v.k 0 0 false [] [] v.ref))) (res_t rfl go _) ?_)
 refine ⟨?_, dF⟩
 show Ending.returned (.bool (sameV v (Vl.mk v.k 0 0 false [] [] v.ref))) = Ending.returned (.bool (mayR v))
 first | rfl | (simp only [mayR, Vl.num, ab, ac, aa, ag, bsm] <;> rfl) | (exfalso; omega)
 have cM := oF ag
 rcases bc (decide (v.ref = 1)) with aj | aj
 have cN := oT aj
 refine wp_g0 (.replicate 8 true) [] 63
   [ve (.pointer (some ⟨q9, 6, none⟩)), ve (iv v.ref), vT, vT, ve (.pointer (some ⟨q9, 6, none⟩)), ve (iv v.ref), vF, vF] ao (.eq (.eq (.eq (.eq (.eq (.eq (.eq (.eq (.nil))))))))) ?_ ?_
 exact .f (fun k => k.fx 1 an) <| .t (fun _ w hn k => ⟨_, v_load rfl (k.eq1 0 17 rfl) (l_one Try.isAgg3 ((ah.new_ hn).cell 6)), rfl⟩) <| .t (fun _ w hn k => ⟨_, v_bin rfl (k.eq1 1 18 rfl) rfl (fun _ => rfl) (r_neq ag), rfl⟩) <| .m (fun k => k.eq1 2 19 rfl) <| .gf (fun k => k.eq1 3 20 rfl) (fun k => k.fx 1 an) <| .g (fun k => k.eq1 3 20 rfl) (fun _ w hn k => ⟨_, v_load rfl (k.eq1 4 21 rfl) (l_one Try.isAgg3 ((ah.new_ hn).cell 6)), rfl⟩) <| .g (fun k => k.eq1 3 20 rfl) (fun _ w hn k => ⟨_, v_bin rfl (k.eq1 5 22 rfl) rfl (fun _ => rfl) (r_neq aj), rfl⟩) <| .t (fun _ w hn k => ⟨_, v_pickT rfl (k.eq1 3 20 rfl) (k.eq1 6 23 rfl), rfl⟩) .nil
 refine aftI ao aY a1 fun h5 h6 bF dH a6 bG a7 => ?_
 have gp := a7.fx 1 an
 have gq := a7.fx 3 bp
 have gr := a7.ge 7 24 rfl
 have dI := ah.new_ bG
 have dJ := aZ.new_ bG
 refine st_nil (a3 _ _ ?_)
 refine wp_cond_false gr ?_
 refine wp_skip ?_
 refine am _ _ ?_
 refine wp_seq_k fun h7 dK => ?_
 refine wp_g0 [true, true, true, true] [] 63
   [ve (vv v Av cv Bv dv), ve (vv (Vl.mk v.k 0 0 false [] [] v.ref) none 0 none 0), ve (.bool (sameV v (Vl.mk v.k 0 0 false [] [] v.ref))), ve (.bool (sameV v (Vl.mk v.k 0 0 false [] [] v.ref)))] bF (.eq (.eq (.eq (.eq (.nil))))) ?_ ?_
 exact .t (fun _ w hn k => ⟨_, v_load rfl (k.fx 1 gp) (l_agg Try.isAgg32 Try.sizeOf32 (dI.new_ hn) rfl), rfl⟩) <| .t (fun _ w hn k => ⟨_, v_load rfl (k.fx 3 gq) (l_agg Try.isAgg32 Try.sizeOf32 (dJ.new_ hn) rfl), rfl⟩) <| .o1 (ck rfl rfl rfl (fun _ w hn k => ⟨#[vv v Av cv Bv dv, vv (Vl.mk v.k 0 0 false [] [] v.ref) none 0 none 0], args2 (k.eq1 0 60 rfl) (k.eq1 1 61 rfl), fun _ => by kernel_rfl, qsame_c v _ _ _ _ (Vl.mk v.k 0 0 false [] [] v.ref) _ _ _ _ _ (hmv.new_ (a6.transNew hn)) (hsv.new_ (a6.transNew hn)) (SRow.nil _ _) (SRow.nil _ _)⟩) fun _ => rfl) <| .a (fun k => k.eq1 2 62 rfl) .nil
 refine aftI bF dH a6 fun h9 ia hf dL dM hg dN => ?_
 have gs := dN.ge 3 2 rfl
 refine st_nil (dK _ _ ?_)
 refine wp_ret (ret_k dL (v := .bool (sameV v (Vl.mk v.k 0 0 false [] [] v.ref))) (res_t rfl gs _) ?_)
 refine ⟨?_, dM⟩
 show Ending.returned (.bool (sameV v (Vl.mk v.k 0 0 false [] [] v.ref))) = Ending.returned (.bool (mayR v))
 first | rfl | (simp only [mayR, Vl.num, ab, ac, aa, ag, aj, bsm] <;> rfl) | (exfalso; omega)
 have cN := oF aj
 refine wp_g0 (.replicate 8 true) [] 63
   [ve (.pointer (some ⟨q9, 6, none⟩)), ve (iv v.ref), vT, vT, ve (.pointer (some ⟨q9, 6, none⟩)), ve (iv v.ref), vT, vT] ao (.eq (.eq (.eq (.eq (.eq (.eq (.eq (.eq (.nil))))))))) ?_ ?_
 exact .f (fun k => k.fx 1 an) <| .t (fun _ w hn k => ⟨_, v_load rfl (k.eq1 0 17 rfl) (l_one Try.isAgg3 ((ah.new_ hn).cell 6)), rfl⟩) <| .t (fun _ w hn k => ⟨_, v_bin rfl (k.eq1 1 18 rfl) rfl (fun _ => rfl) (r_neq ag), rfl⟩) <| .m (fun k => k.eq1 2 19 rfl) <| .gf (fun k => k.eq1 3 20 rfl) (fun k => k.fx 1 an) <| .g (fun k => k.eq1 3 20 rfl) (fun _ w hn k => ⟨_, v_load rfl (k.eq1 4 21 rfl) (l_one Try.isAgg3 ((ah.new_ hn).cell 6)), rfl⟩) <| .g (fun k => k.eq1 3 20 rfl) (fun _ w hn k => ⟨_, v_bin rfl (k.eq1 5 22 rfl) rfl (fun _ => rfl) (r_neq aj), rfl⟩) <| .t (fun _ w hn k => ⟨_, v_pickT rfl (k.eq1 3 20 rfl) (k.eq1 6 23 rfl), rfl⟩) .nil
 refine aftI ao aY a1 fun ib ic bH dO dP bI a8 => ?_
 have id := a8.fx 1 an
 have ie := a8.fx 3 bp
 have gt := a8.ge 7 24 rfl
 have hh := ah.new_ bI
 have hi := aZ.new_ bI
 refine st_nil (a3 _ _ ?_)
 refine wp_cond_true gt ?_
 refine wp_seq_k fun ig dQ => ?_
 refine wp_g0 [true] [] 63
   [vF] bH (.eq (.nil)) ?_ ?_
 exact .t (fun _ w hn k => ⟨_, v_assign rfl rfl, rfl⟩) .nil
 refine aftI bH dO dP fun ih ii hj dR dS hl dT => ?_
 have gu := dT.ge 0 2 rfl
 refine st_nil (dQ _ _ ?_)
 refine wp_ret (ret_k dR (v := .bool false) (res_t rfl gu _) ?_)
 refine ⟨?_, dS⟩
 show Ending.returned (.bool false) = Ending.returned (.bool (mayR v))
 first | rfl | (simp only [mayR, Vl.num, ab, ac, aa, ag, aj, bsm] <;> rfl) | (exfalso; omega)
 have cK := oF aa
 have dU := hB cJ aa
 refine wp_cond_false dU ?_
 refine wp_seq_k fun ij dV => ?_
 refine wp_g0 [true, true] [] 63
   [ve (.bool (decide (v.k = 3))), ve (.bool (decide (v.k = 3)))] av (.eq (.eq (.nil))) ?_ ?_
 exact .t (fun _ w hn k => ⟨_, v_bin rfl (k.fx 8 cI) rfl (fun _ => rfl) (r_eql rfl), rfl⟩) <| .a (fun k => k.eq1 0 26 rfl) .nil
 refine aftI av bx bz fun ik il ay bJ bK bL az => ?_
 have bq := az.fx 1 bn
 have br := az.fx 3 bo
 have cO := az.fx 8 cI
 have cP := az.ge 1 25 rfl
 have a9 := aX.new_ bL
 have bM := bB.new_ bL
 refine st_nil (dV _ _ ?_)
 rcases bc (decide (v.k = 3)) with ad | ad
 have cQ := oT ad
 have dW := hB cP ad
 refine wp_cond_true dW ?_
 refine wp_seq_k fun im dX => ?_
 refine wp_g0 [true, true, true, false] [(3, false)] 63
   [ve (.pointer (some ⟨q9, 1, none⟩)), ve (nv (Nm.mk v.nk v.nn)), ve (.pointer (some ⟨ap, 1, none⟩)), vt] ay (.eq (.eq (.eq (.tt (.nil))))) ?_ ?_
 exact .f (fun k => k.fx 1 bq) <| .t (fun _ w hn k => ⟨_, v_load rfl (k.eq1 0 27 rfl) (l_part Try.isAgg23 Try.sizeOf23 (a9.new_ hn) lb), rfl⟩) <| .f (fun k => k.fx 3 br) <| .off .nil
 refine aftI ay bJ bK fun io ip bN dY dZ bO aA => ?_
 have cR := aA.fx 1 bq
 have gv := aA.fx 3 br
 have gw := aA.ge 1 28 rfl
 have gx := aA.ge 2 29 rfl
 have d0 := a9.new_ bO
 have d1 := bM.new_ bO
 obtain ⟨gy, cS, cT, d2, d3⟩ := s_many (P := Try.prog) (t := 23) (i := 1) [iv v.nk, iv v.nn] Try.sizeOf23 rfl rfl rfl d1 lb
 have d4 : Blk gy ap 32 [iv v.k, iv v.nk, iv v.nn, .bool false, sv none ([]) 0, sv none ([]) 0, iv 0] := cT
 refine st_act rfl rfl fun iq d5 => a_store' rfl gx gw cS (d5 _ _ trivial ?_)
 have bP := d3 _ _ _ (hne28) d0
 have d6 := dZ.trans d2 (fun _ h b => by subst b; omega)
 refine st_nil (dX _ _ (wp_seq_k fun ir d7 => ?_))
 refine wp_g0 [true, true, true, true] [] 63
   [ve (.pointer (some ⟨q9, 1, none⟩)), ve (nv (Nm.mk v.nk v.nn)), ve (.bool (nmayB (Nm.mk v.nk v.nn))), ve (.bool (!(nmayB (Nm.mk v.nk v.nn))))] bN (.eq (.eq (.eq (.eq (.nil))))) ?_ ?_
 exact .f (fun k => k.fx 1 cR) <| .t (fun _ w hn k => ⟨_, v_load rfl (k.eq1 0 30 rfl) (l_part Try.isAgg23 Try.sizeOf23 (bP.new_ hn) lb), rfl⟩) <| .o1 (ck rfl rfl rfl (fun _ w hn k => ⟨#[nv (Nm.mk v.nk v.nn)], args1 (k.eq1 1 31 rfl), fun _ => by kernel_rfl, rmay_c (Nm.mk v.nk v.nn) _ ⟩) fun _ => rfl) <| .t (fun _ w hn k => ⟨_, v_not rfl (k.eq1 2 32 rfl), rfl⟩) .nil
 refine aftI bN dY d6 fun cU it aB bQ aC bR ba => ?_
 have gz := ba.fx 1 cR
 have gA := ba.fx 3 gv
 have cV := ba.ge 3 33 rfl
 have d8 := bP.new_ bR
 have d9 := d4.new_ bR
 refine st_nil (d7 _ _ ?_)
 rcases bc (nmayB (Nm.mk v.nk v.nn)) with aq | aq
 have ea : cU.eval (.tmp 33) = .bool false := cV.trans (congrArg Value.bool (by rw [aq]; rfl))
 refine wp_cond_false ea ?_
 refine wp_skip ?_
 refine am _ _ ?_
 refine wp_seq_k fun iu eb => ?_
 refine wp_g0 [true, true, true, true] [] 63
   [ve (vv v Av cv Bv dv), ve (vv (Vl.mk v.k v.nk v.nn false [] [] 0) none 0 none 0), ve (.bool (sameV v (Vl.mk v.k v.nk v.nn false [] [] 0))), ve (.bool (sameV v (Vl.mk v.k v.nk v.nn false [] [] 0)))] aB (.eq (.eq (.eq (.eq (.nil))))) ?_ ?_
 exact .t (fun _ w hn k => ⟨_, v_load rfl (k.fx 1 gz) (l_agg Try.isAgg32 Try.sizeOf32 (d8.new_ hn) rfl), rfl⟩) <| .t (fun _ w hn k => ⟨_, v_load rfl (k.fx 3 gA) (l_agg Try.isAgg32 Try.sizeOf32 (d9.new_ hn) rfl), rfl⟩) <| .o1 (ck rfl rfl rfl (fun _ w hn k => ⟨#[vv v Av cv Bv dv, vv (Vl.mk v.k v.nk v.nn false [] [] 0) none 0 none 0], args2 (k.eq1 0 60 rfl) (k.eq1 1 61 rfl), fun _ => by kernel_rfl, qsame_c v _ _ _ _ (Vl.mk v.k v.nk v.nn false [] [] 0) _ _ _ _ _ (hmv.new_ (aC.transNew hn)) (hsv.new_ (aC.transNew hn)) (SRow.nil _ _) (SRow.nil _ _)⟩) fun _ => rfl) <| .a (fun k => k.eq1 2 62 rfl) .nil
 refine aftI aB bQ aC fun iw ix hm ec ed ho ee => ?_
 have gB := ee.ge 3 2 rfl
 refine st_nil (eb _ _ ?_)
 refine wp_ret (ret_k ec (v := .bool (sameV v (Vl.mk v.k v.nk v.nn false [] [] 0))) (res_t rfl gB _) ?_)
 refine ⟨?_, ed⟩
 show Ending.returned (.bool (sameV v (Vl.mk v.k v.nk v.nn false [] [] 0))) = Ending.returned (.bool (mayR v))
 first | rfl | (simp only [mayR, Vl.num, ab, ac, aa, ad, aq, bsm] <;> rfl) | (exfalso; omega)
 have ef : cU.eval (.tmp 33) = .bool true := cV.trans (congrArg Value.bool (by rw [aq]; rfl))
 refine wp_cond_true ef ?_
 refine wp_seq_k fun iy eg => ?_
 refine wp_g0 [true] [] 63
   [vF] aB (.eq (.nil)) ?_ ?_
 exact .t (fun _ w hn k => ⟨_, v_assign rfl rfl, rfl⟩) .nil
 refine aftI aB bQ aC fun iz iA hr eh ei hs ej => ?_
 have gC := ej.ge 0 2 rfl
 refine st_nil (eg _ _ ?_)
 refine wp_ret (ret_k eh (v := .bool false) (res_t rfl gC _) ?_)
 refine ⟨?_, ei⟩
 show Ending.returned (.bool false) = Ending.returned (.bool (mayR v))
 first | rfl | (simp only [mayR, Vl.num, ab, ac, aa, ad, aq, bsm] <;> rfl) | (exfalso; omega)
 have cQ := oF ad
 have ek := hB cP ad
 refine wp_cond_false ek ?_
 refine wp_seq_k fun iB el => ?_
 refine wp_g0 [true, true] [] 63
   [ve (.bool (decide (v.k = 4))), ve (.bool (decide (v.k = 4)))] ay (.eq (.eq (.nil))) ?_ ?_
 exact .t (fun _ w hn k => ⟨_, v_bin rfl (k.fx 8 cO) rfl (fun _ => rfl) (r_eql rfl), rfl⟩) <| .a (fun k => k.eq1 0 35 rfl) .nil
 refine aftI ay bJ bK fun iC iD aD bS bT bU aE => ?_
 have bs := aE.fx 1 bq
 have bt := aE.fx 3 br
 have cW := aE.fx 8 cO
 have cX := aE.ge 1 34 rfl
 have bb := a9.new_ bU
 have bV := bM.new_ bU
 refine st_nil (el _ _ ?_)
 rcases bc (decide (v.k = 4)) with ae | ae
 have cY := oT ae
 have em := hB cX ae
 refine wp_cond_true em ?_
 refine wp_seq_k fun iE en => ?_
 refine wp_g0 [true, true, true, false] [(3, false)] 63
   [ve (.pointer (some ⟨q9, 3, none⟩)), ve (.agg #[.bool v.neg, sv Av v.mag cv]), ve (.pointer (some ⟨ap, 3, none⟩)), vt] aD (.eq (.eq (.eq (.tt (.nil))))) ?_ ?_
 exact .f (fun k => k.fx 1 bs) <| .t (fun _ w hn k => ⟨_, v_load rfl (k.eq1 0 36 rfl) (l_part Try.isAgg26 Try.sizeOf26 (bb.new_ hn) lb), rfl⟩) <| .f (fun k => k.fx 3 bt) <| .off .nil
 refine aftI aD bS bT fun iF iG bW eo ep bX aF => ?_
 have cZ := aF.fx 1 bs
 have gD := aF.fx 3 bt
 have gE := aF.ge 1 37 rfl
 have gF := aF.ge 2 38 rfl
 have er := bb.new_ bX
 have es := bV.new_ bX
 obtain ⟨gG, c0, c1, et, eu⟩ := s_many (P := Try.prog) (t := 26) (i := 3) [.bool v.neg, sv Av v.mag cv] Try.sizeOf26 rfl rfl rfl es lb
 have ev : Blk gG ap 32 [iv v.k, iv 0, iv 0, .bool v.neg, sv Av v.mag cv, sv none ([]) 0, iv 0] := c1
 refine st_act rfl rfl fun iH ew => a_store' rfl gF gE c0 (ew _ _ trivial ?_)
 have bY := eu _ _ _ (hne28) er
 have bZ := ep.trans et (fun _ h b => by subst b; omega)
 refine st_nil (en _ _ (wp_seq_k fun iI ex => ?_))
 refine wp_g0 [true, true, true, true] [] 63
   [ve (.pointer (some ⟨q9, 3, none⟩)), ve (.agg #[.bool v.neg, sv Av v.mag cv]), ve (.bool (mayB v.neg v.mag)), ve (.bool (!(mayB v.neg v.mag)))] bW (.eq (.eq (.eq (.eq (.nil))))) ?_ ?_
 exact .f (fun k => k.fx 1 cZ) <| .t (fun _ w hn k => ⟨_, v_load rfl (k.eq1 0 39 rfl) (l_part Try.isAgg26 Try.sizeOf26 (bY.new_ hn) lb), rfl⟩) <| .o1 (ck rfl rfl rfl (fun _ w hn k => ⟨#[.agg #[.bool v.neg, sv Av v.mag cv]], args1 (k.eq1 1 40 rfl), fun _ => by kernel_rfl, sMay_c v.neg _ v.mag _ _ (hmv.new_ (bZ.transNew hn))⟩) fun _ => rfl) <| .t (fun _ w hn k => ⟨_, v_not rfl (k.eq1 2 41 rfl), rfl⟩) .nil
 refine aftI bW eo bZ fun c2 iJ aG b0 ar b1 bd => ?_
 have gH := bd.fx 1 cZ
 have gI := bd.fx 3 gD
 have c3 := bd.ge 3 42 rfl
 have ey := bY.new_ b1
 have ez := ev.new_ b1
 refine st_nil (ex _ _ ?_)
 rcases bc (mayB v.neg v.mag) with au | au
 have eA : c2.eval (.tmp 42) = .bool false := c3.trans (congrArg Value.bool (by rw [au]; rfl))
 refine wp_cond_false eA ?_
 refine wp_skip ?_
 refine am _ _ ?_
 refine wp_seq_k fun iK eB => ?_
 refine wp_g0 [true, true, true, true] [] 63
   [ve (vv v Av cv Bv dv), ve (vv (Vl.mk v.k 0 0 v.neg v.mag [] 0) Av cv none 0), ve (.bool (sameV v (Vl.mk v.k 0 0 v.neg v.mag [] 0))), ve (.bool (sameV v (Vl.mk v.k 0 0 v.neg v.mag [] 0)))] aG (.eq (.eq (.eq (.eq (.nil))))) ?_ ?_
 exact .t (fun _ w hn k => ⟨_, v_load rfl (k.fx 1 gH) (l_agg Try.isAgg32 Try.sizeOf32 (ey.new_ hn) rfl), rfl⟩) <| .t (fun _ w hn k => ⟨_, v_load rfl (k.fx 3 gI) (l_agg Try.isAgg32 Try.sizeOf32 (ez.new_ hn) rfl), rfl⟩) <| .o1 (ck rfl rfl rfl (fun _ w hn k => ⟨#[vv v Av cv Bv dv, vv (Vl.mk v.k 0 0 v.neg v.mag [] 0) Av cv none 0], args2 (k.eq1 0 60 rfl) (k.eq1 1 61 rfl), fun _ => by kernel_rfl, qsame_c v _ _ _ _ (Vl.mk v.k 0 0 v.neg v.mag [] 0) _ _ _ _ _ (hmv.new_ (ar.transNew hn)) (hsv.new_ (ar.transNew hn)) (hmv.new_ (ar.transNew hn)) (SRow.nil _ _)⟩) fun _ => rfl) <| .a (fun k => k.eq1 2 62 rfl) .nil
 refine aftI aG b0 ar fun iL iM ht eC eD hu eE => ?_
 have gJ := eE.ge 3 2 rfl
 refine st_nil (eB _ _ ?_)
 refine wp_ret (ret_k eC (v := .bool (sameV v (Vl.mk v.k 0 0 v.neg v.mag [] 0))) (res_t rfl gJ _) ?_)
 refine ⟨?_, eD⟩
 show Ending.returned (.bool (sameV v (Vl.mk v.k 0 0 v.neg v.mag [] 0))) = Ending.returned (.bool (mayR v))
 first | rfl | (simp only [mayR, Vl.num, ab, ac, aa, ad, ae, au, bsm] <;> rfl) | (exfalso; omega)
 have eF : c2.eval (.tmp 42) = .bool true := c3.trans (congrArg Value.bool (by rw [au]; rfl))
 refine wp_cond_true eF ?_
 refine wp_seq_k fun iN eG => ?_
 refine wp_g0 [true] [] 63
   [vF] aG (.eq (.nil)) ?_ ?_
 exact .t (fun _ w hn k => ⟨_, v_assign rfl rfl, rfl⟩) .nil
 refine aftI aG b0 ar fun iO iP hv eH eI hw eJ => ?_
 have gK := eJ.ge 0 2 rfl
 refine st_nil (eG _ _ ?_)
 refine wp_ret (ret_k eH (v := .bool false) (res_t rfl gK _) ?_)
 refine ⟨?_, eI⟩
 show Ending.returned (.bool false) = Ending.returned (.bool (mayR v))
 first | rfl | (simp only [mayR, Vl.num, ab, ac, aa, ad, ae, au, bsm] <;> rfl) | (exfalso; omega)
 have cY := oF ae
 have eK := hB cX ae
 refine wp_cond_false eK ?_
 refine wp_seq_k fun iQ eL => ?_
 refine wp_g0 [true, true] [] 63
   [ve (.bool (decide (v.k = 5))), ve (.bool (decide (v.k = 5)))] aD (.eq (.eq (.nil))) ?_ ?_
 exact .t (fun _ w hn k => ⟨_, v_bin rfl (k.fx 8 cW) rfl (fun _ => rfl) (r_eql rfl), rfl⟩) <| .a (fun k => k.eq1 0 44 rfl) .nil
 refine aftI aD bS bT fun iR iS aH b2 b3 b4 aI => ?_
 have bu := aI.fx 1 bs
 have bv := aI.fx 3 bt
 have gL := aI.fx 8 cW
 have c4 := aI.ge 1 43 rfl
 have be := bb.new_ b4
 have b5 := bV.new_ b4
 refine st_nil (eL _ _ ?_)
 rcases bc (decide (v.k = 5)) with af | af
 have c5 := oT af
 have eM := hB c4 af
 refine wp_cond_true eM ?_
 refine wp_seq_k fun iT eN => ?_
 refine wp_g0 [true, true, true, false] [(3, false)] 63
   [ve (.pointer (some ⟨q9, 5, none⟩)), ve (sv Bv v.s dv), ve (.pointer (some ⟨ap, 5, none⟩)), vt] aH (.eq (.eq (.eq (.tt (.nil))))) ?_ ?_
 exact .f (fun k => k.fx 1 bu) <| .t (fun _ w hn k => ⟨_, v_load rfl (k.eq1 0 45 rfl) (l_one Try.isAgg27 ((be.new_ hn).cell 5)), rfl⟩) <| .f (fun k => k.fx 3 bv) <| .off .nil
 refine aftI aH b2 b3 fun iU iV aJ b6 eO b7 aK => ?_
 have bf := aK.fx 1 bu
 have c6 := aK.fx 3 bv
 have gM := aK.ge 1 46 rfl
 have gN := aK.ge 2 47 rfl
 have eP := be.new_ b7
 have eQ := b5.new_ b7
 obtain ⟨iW, -, c7, b8, eR, eS⟩ := s_one (v := sv Bv v.s dv) (i := 5) Try.sizeOf27 rfl rfl eQ lb
 refine st_act rfl rfl fun iX eT => a_store' rfl gN gM c7 (eT _ _ trivial ?_)
 have aL := eS _ _ _ (hne28) eP
 have b9 := eO.trans eR (fun _ h b => by subst b; omega)
 refine st_nil (eN _ _ (wp_seq_k fun iY ca => ?_))
 rcases bc (decide ((v.s.length : Int) ≤ 4096)) with ak | ak
 have c8 := oT ak
 refine wp_g0 [true, true, true, true] [] 63
   [ve (.pointer (some ⟨q9, 5, none⟩)), ve (sv Bv v.s dv), ve (iv (v.s.length : Int)), vF] aJ (.eq (.eq (.eq (.eq (.nil))))) ?_ ?_
 exact .f (fun k => k.fx 1 bf) <| .t (fun _ w hn k => ⟨_, v_load rfl (k.eq1 0 48 rfl) (l_one Try.isAgg27 ((aL.new_ hn).cell 5)), rfl⟩) <| .t (fun _ w hn k => ⟨_, v_lenR rfl elU (k.eq1 1 49 rfl), rfl⟩) <| .t (fun _ w hn k => ⟨_, v_bin rfl (k.eq1 2 50 rfl) rfl (fun _ => rfl) (r_gtrK ak), rfl⟩) .nil
 refine aftI aJ b6 b9 fun iZ i0 cb eU aM cc bg => ?_
 have gO := bg.fx 1 bf
 have gP := bg.fx 3 c6
 have gQ := bg.ge 3 51 rfl
 have eV := aL.new_ cc
 have eW := b8.new_ cc
 refine st_nil (ca _ _ ?_)
 refine wp_cond_false gQ ?_
 refine wp_skip ?_
 refine am _ _ ?_
 refine wp_seq_k fun i1 eX => ?_
 refine wp_g0 [true, true, true, true] [] 63
   [ve (vv v Av cv Bv dv), ve (vv (Vl.mk v.k 0 0 false [] v.s 0) none 0 Bv dv), ve (.bool (sameV v (Vl.mk v.k 0 0 false [] v.s 0))), ve (.bool (sameV v (Vl.mk v.k 0 0 false [] v.s 0)))] cb (.eq (.eq (.eq (.eq (.nil))))) ?_ ?_
 exact .t (fun _ w hn k => ⟨_, v_load rfl (k.fx 1 gO) (l_agg Try.isAgg32 Try.sizeOf32 (eV.new_ hn) rfl), rfl⟩) <| .t (fun _ w hn k => ⟨_, v_load rfl (k.fx 3 gP) (l_agg Try.isAgg32 Try.sizeOf32 (eW.new_ hn) rfl), rfl⟩) <| .o1 (ck rfl rfl rfl (fun _ w hn k => ⟨#[vv v Av cv Bv dv, vv (Vl.mk v.k 0 0 false [] v.s 0) none 0 Bv dv], args2 (k.eq1 0 60 rfl) (k.eq1 1 61 rfl), fun _ => by kernel_rfl, qsame_c v _ _ _ _ (Vl.mk v.k 0 0 false [] v.s 0) _ _ _ _ _ (hmv.new_ (aM.transNew hn)) (hsv.new_ (aM.transNew hn)) (SRow.nil _ _) (hsv.new_ (aM.transNew hn))⟩) fun _ => rfl) <| .a (fun k => k.eq1 2 62 rfl) .nil
 refine aftI cb eU aM fun i2 i3 hx eY eZ hy e0 => ?_
 have gR := e0.ge 3 2 rfl
 refine st_nil (eX _ _ ?_)
 refine wp_ret (ret_k eY (v := .bool (sameV v (Vl.mk v.k 0 0 false [] v.s 0))) (res_t rfl gR _) ?_)
 refine ⟨?_, eZ⟩
 show Ending.returned (.bool (sameV v (Vl.mk v.k 0 0 false [] v.s 0))) = Ending.returned (.bool (mayR v))
 first | rfl | (simp only [mayR, Vl.num, ab, ac, aa, ad, ae, af, ak, bsm] <;> rfl) | (exfalso; omega)
 have c8 := oF ak
 refine wp_g0 [true, true, true, true] [] 63
   [ve (.pointer (some ⟨q9, 5, none⟩)), ve (sv Bv v.s dv), ve (iv (v.s.length : Int)), vT] aJ (.eq (.eq (.eq (.eq (.nil))))) ?_ ?_
 exact .f (fun k => k.fx 1 bf) <| .t (fun _ w hn k => ⟨_, v_load rfl (k.eq1 0 48 rfl) (l_one Try.isAgg27 ((aL.new_ hn).cell 5)), rfl⟩) <| .t (fun _ w hn k => ⟨_, v_lenR rfl elU (k.eq1 1 49 rfl), rfl⟩) <| .t (fun _ w hn k => ⟨_, v_bin rfl (k.eq1 2 50 rfl) rfl (fun _ => rfl) (r_gtrK ak), rfl⟩) .nil
 refine aftI aJ b6 b9 fun i4 i5 cd e1 e2 ce bh => ?_
 have i6 := bh.fx 1 bf
 have i7 := bh.fx 3 c6
 have gS := bh.ge 3 51 rfl
 have hz := aL.new_ ce
 have hA := b8.new_ ce
 refine st_nil (ca _ _ ?_)
 refine wp_cond_true gS ?_
 refine wp_seq_k fun i8 e3 => ?_
 refine wp_g0 [true] [] 63
   [vF] cd (.eq (.nil)) ?_ ?_
 exact .t (fun _ w hn k => ⟨_, v_assign rfl rfl, rfl⟩) .nil
 refine aftI cd e1 e2 fun i9 ja hC e4 e5 hD e6 => ?_
 have gT := e6.ge 0 2 rfl
 refine st_nil (e3 _ _ ?_)
 refine wp_ret (ret_k e4 (v := .bool false) (res_t rfl gT _) ?_)
 refine ⟨?_, e5⟩
 show Ending.returned (.bool false) = Ending.returned (.bool (mayR v))
 first | rfl | (simp only [mayR, Vl.num, ab, ac, aa, ad, ae, af, ak, bsm] <;> rfl) | (exfalso; omega)
 have c5 := oF af
 have e7 := hB c4 af
 refine wp_cond_false e7 ?_
 refine wp_seq_k fun jb e8 => ?_
 refine wp_g0 [true, true] [] 63
   [ve (.bool (decide (v.k = 6))), ve (.bool (decide (v.k = 6)))] aH (.eq (.eq (.nil))) ?_ ?_
 exact .t (fun _ w hn k => ⟨_, v_bin rfl (k.fx 8 gL) rfl (fun _ => rfl) (r_eql rfl), rfl⟩) <| .a (fun k => k.eq1 0 53 rfl) .nil
 refine aftI aH b2 b3 fun jc jd aN cf ch ci bi => ?_
 have c9 := bi.fx 1 bu
 have da := bi.fx 3 bv
 have db := bi.ge 1 52 rfl
 have cj := be.new_ ci
 have e9 := b5.new_ ci
 refine st_nil (e8 _ _ ?_)
 rcases bc (decide (v.k = 6)) with ai | ai
 have dc := oT ai
 have fa := hB db ai
 refine wp_cond_true fa ?_
 refine wp_seq_k fun je fb => ?_
 refine wp_g0 [true, true, true, false] [(3, false)] 63
   [ve (.pointer (some ⟨q9, 6, none⟩)), ve (iv v.ref), ve (.pointer (some ⟨ap, 6, none⟩)), vt] aN (.eq (.eq (.eq (.tt (.nil))))) ?_ ?_
 exact .f (fun k => k.fx 1 c9) <| .t (fun _ w hn k => ⟨_, v_load rfl (k.eq1 0 54 rfl) (l_one Try.isAgg3 ((cj.new_ hn).cell 6)), rfl⟩) <| .f (fun k => k.fx 3 da) <| .off .nil
 refine aftI aN cf ch fun jf jg cl fc fd cm aO => ?_
 have dd := aO.fx 1 c9
 have gU := aO.fx 3 da
 have gV := aO.ge 1 55 rfl
 have gW := aO.ge 2 56 rfl
 have fe := cj.new_ cm
 have ff := e9.new_ cm
 obtain ⟨jh, -, de, fg, fh, fi⟩ := s_one (v := iv v.ref) (i := 6) Try.sizeOf3 rfl rfl ff lb
 refine st_act rfl rfl fun ji fj => a_store' rfl gW gV de (fj _ _ trivial ?_)
 have cn := fi _ _ _ (hne28) fe
 have fk := fd.trans fh (fun _ h b => by subst b; omega)
 refine st_nil (fb _ _ (wp_seq_k fun jj fl => ?_))
 refine wp_g0 [true, true, true] [] 63
   [ve (.pointer (some ⟨q9, 6, none⟩)), ve (iv v.ref), ve (.bool (decide (v.ref < 0)))] cl (.eq (.eq (.eq (.nil)))) ?_ ?_
 exact .f (fun k => k.fx 1 dd) <| .t (fun _ w hn k => ⟨_, v_load rfl (k.eq1 0 57 rfl) (l_one Try.isAgg3 ((cn.new_ hn).cell 6)), rfl⟩) <| .t (fun _ w hn k => ⟨_, v_bin rfl (k.eq1 1 58 rfl) rfl (fun _ => rfl) (r_lssK rfl), rfl⟩) .nil
 refine aftI cl fc fk fun jk jl aP co aQ cp bj => ?_
 have gX := bj.fx 1 dd
 have gY := bj.fx 3 gU
 have df := bj.ge 2 59 rfl
 have fm := cn.new_ cp
 have fn := fg.new_ cp
 refine st_nil (fl _ _ ?_)
 rcases bc (decide (v.ref < 0)) with al | al
 have dg := oT al
 have fo := hB df al
 refine wp_cond_true fo ?_
 refine wp_seq_k fun jm fp => ?_
 refine wp_g0 [true] [] 63
   [vF] aP (.eq (.nil)) ?_ ?_
 exact .t (fun _ w hn k => ⟨_, v_assign rfl rfl, rfl⟩) .nil
 refine aftI aP co aQ fun jn jo hE fq fr hF fs => ?_
 have gZ := fs.ge 0 2 rfl
 refine st_nil (fp _ _ ?_)
 refine wp_ret (ret_k fq (v := .bool false) (res_t rfl gZ _) ?_)
 refine ⟨?_, fr⟩
 show Ending.returned (.bool false) = Ending.returned (.bool (mayR v))
 first | rfl | (simp only [mayR, Vl.num, ab, ac, aa, ad, ae, af, ai, al, bsm] <;> rfl) | (exfalso; omega)
 have dg := oF al
 have ft := hB df al
 refine wp_cond_false ft ?_
 refine wp_skip ?_
 refine am _ _ ?_
 refine wp_seq_k fun jp fu => ?_
 refine wp_g0 [true, true, true, true] [] 63
   [ve (vv v Av cv Bv dv), ve (vv (Vl.mk v.k 0 0 false [] [] v.ref) none 0 none 0), ve (.bool (sameV v (Vl.mk v.k 0 0 false [] [] v.ref))), ve (.bool (sameV v (Vl.mk v.k 0 0 false [] [] v.ref)))] aP (.eq (.eq (.eq (.eq (.nil))))) ?_ ?_
 exact .t (fun _ w hn k => ⟨_, v_load rfl (k.fx 1 gX) (l_agg Try.isAgg32 Try.sizeOf32 (fm.new_ hn) rfl), rfl⟩) <| .t (fun _ w hn k => ⟨_, v_load rfl (k.fx 3 gY) (l_agg Try.isAgg32 Try.sizeOf32 (fn.new_ hn) rfl), rfl⟩) <| .o1 (ck rfl rfl rfl (fun _ w hn k => ⟨#[vv v Av cv Bv dv, vv (Vl.mk v.k 0 0 false [] [] v.ref) none 0 none 0], args2 (k.eq1 0 60 rfl) (k.eq1 1 61 rfl), fun _ => by kernel_rfl, qsame_c v _ _ _ _ (Vl.mk v.k 0 0 false [] [] v.ref) _ _ _ _ _ (hmv.new_ (aQ.transNew hn)) (hsv.new_ (aQ.transNew hn)) (SRow.nil _ _) (SRow.nil _ _)⟩) fun _ => rfl) <| .a (fun k => k.eq1 2 62 rfl) .nil
 refine aftI aP co aQ fun jq jr hG fv fw hH fy => ?_
 have g0 := fy.ge 3 2 rfl
 refine st_nil (fu _ _ ?_)
 refine wp_ret (ret_k fv (v := .bool (sameV v (Vl.mk v.k 0 0 false [] [] v.ref))) (res_t rfl g0 _) ?_)
 refine ⟨?_, fw⟩
 show Ending.returned (.bool (sameV v (Vl.mk v.k 0 0 false [] [] v.ref))) = Ending.returned (.bool (mayR v))
 first | rfl | (simp only [mayR, Vl.num, ab, ac, aa, ad, ae, af, ai, al, bsm] <;> rfl) | (exfalso; omega)
 have dc := oF ai
 have fz := hB db ai
 refine wp_cond_false fz ?_
 refine wp_seq_k fun js fA => ?_
 refine wp_g0 [true] [] 63
   [vF] aN (.eq (.nil)) ?_ ?_
 exact .t (fun _ w hn k => ⟨_, v_assign rfl rfl, rfl⟩) .nil
 refine aftI aN cf ch fun jt ju hI fB fC hJ fD => ?_
 have g1 := fD.ge 0 2 rfl
 refine st_nil (fA _ _ ?_)
 refine wp_ret (ret_k fB (v := .bool false) (res_t rfl g1 _) ?_)
 refine ⟨?_, fC⟩
 show Ending.returned (.bool false) = Ending.returned (.bool (mayR v))
 first | rfl | (simp only [mayR, Vl.num, ab, ac, aa, ad, ae, af, ai, bsm] <;> rfl) | (exfalso; omega)
theorem qmay_c (v : Vl) (Av : Option Addr) (cv : Nat) (Bv : Option Addr) (dv : Nat) (w : World) (hmv : SRow w .u32 Av v.mag cv) (hsv : SRow w .u16 Bv v.s dv) : Calls Try.prog 51 #[vv v Av cv Bv dv] w (IsRet (.bool (mayV v)) w) := by
  have h := qmay_c0 v Av cv Bv dv w hmv hsv
  rw [mayR_eq] at h
  exact h
def qgood_c_P (v : Vl) (Av : Option Addr) (cv : Nat) (Bv : Option Addr) (dv : Nat) (w : World) (en : Ending) (w' : World) : Prop := ∃ (Ar0 : Option Addr) (cr0 : Nat) (Ar1 : Option Addr) (cr1 : Nat), en = .returned (vv (cleanV v) Ar0 cr0 Ar1 cr1) ∧ SRow w' .u32 Ar0 ((cleanV v).mag) cr0 ∧ SRow w' .u16 Ar1 ((cleanV v).s) cr1 ∧ New w w'
theorem qgood_c (v : Vl) (Av : Option Addr) (cv : Nat) (Bv : Option Addr) (dv : Nat) (w : World) (hmv : SRow w .u32 Av v.mag cv) (hsv : SRow w .u16 Bv v.s dv) : Calls Try.prog 33 #[vv v Av cv Bv dv] w (qgood_c_P v Av cv Bv dv w) := by
 refine enter_abs Try.func33 rfl fun a0 ah a5 hp => ?_
 have ah : a0.tmps.size = 7 := ah
 have ai : New w w := Upd.refl _ _
 have hp0 : a0.eval (.tmp 0) = vv v Av cv Bv dv := hp 0 _ rfl
 refine wp_seq_k fun K1 a6 => ?_
 refine wp_g [true, true] [] [] 7
   [IsNew w 32 [iv v.k, iv v.nk, iv v.nn, .bool v.neg, sv Av v.mag cv, sv Bv v.s dv, iv v.ref], IsNew w 32 [iv 0, iv 0, iv 0, .bool false, sv none ([]) 0, sv none ([]) 0, iv 0]]
   [0, 1] (newsCons (fun v w h => IsNew.old h) (newsCons (fun v w h => IsNew.old h) newsNil)) ah (.nw (.nw (.nil))) ?_ (fun i h => by cases h) ?_
 exact .o2 (step_allocN (cs := [iv v.k, iv v.nk, iv v.nn, .bool v.neg, sv Av v.mag cv, sv Bv v.s dv, iv v.ref]) (t := 32) rfl (noG rfl) (fun _ w hn k => v_box rfl (k.fx 0 hp0) (fun w => rfl)) (fun q _ hq hb => ⟨q, rfl, hq, hb⟩)) <| .o2 (step_allocN (cs := [iv 0, iv 0, iv 0, .bool false, sv none ([]) 0, sv none ([]) 0, iv 0]) (t := 32) rfl (noG rfl) (fun _ w hn k => rfl) (fun q _ hq hb => ⟨q, rfl, hq, hb⟩)) .nil
 refine aftI ah a5 ai fun a2 w3 ay a7 ae bk aj => ?_
 obtain ⟨q9, h8, aE, ak⟩ : IsNew _ _ _ _ _ := aj.got 0 1 rfl (by kernel_rfl)
 obtain ⟨al, az, aF, aG⟩ : IsNew _ _ _ _ _ := aj.got 1 2 rfl (by kernel_rfl)
 have hne16 : q9 ≠ al := aj.ne 0 1 1 2 h8 az
 have be := Nat.le_trans ai.size aE
 have bf := Nat.le_trans ai.size aF
 refine st_nil (a6 _ _ (wp_seq_k fun bl aH => ?_))
 refine wp_seq_k fun bm aI => ?_
 refine wp_g0 [true, true] [] 7
   [ve (vv v Av cv Bv dv), ve (.bool (mayV v))] ay (.eq (.eq (.nil))) ?_ ?_
 exact .t (fun _ w hn k => ⟨_, v_load rfl (k.fx 1 h8) (l_agg Try.isAgg32 Try.sizeOf32 (ak.new_ hn) rfl), rfl⟩) <| .o1 (ck rfl rfl rfl (fun _ w hn k => ⟨#[vv v Av cv Bv dv], args1 (k.eq1 0 3 rfl), fun _ => by kernel_rfl, qmay_c v _ _ _ _ _ (hmv.new_ (ae.transNew hn)) (hsv.new_ (ae.transNew hn))⟩) fun _ => rfl) .nil
 refine aftI ay a7 ae fun bn bo ab am an ao af => ?_
 have a8 := af.fx 1 h8
 have aA := af.fx 2 az
 have aB := af.ge 1 4 rfl
 have aJ := ak.new_ ao
 have ap := aG.new_ ao
 refine st_nil (aI _ _ ?_)
 rcases bc (mayV v) with aa | aa
 have aK := hB aB aa
 refine wp_cond_true aK ?_
 refine wp_seq_k fun bp aL => ?_
 refine wp_g0 [true, false] [(1, false)] 7
   [ve (vv v Av cv Bv dv), vt] ab (.eq (.tt (.nil))) ?_ ?_
 exact .t (fun _ w hn k => ⟨_, v_load rfl (k.fx 1 a8) (l_agg Try.isAgg32 Try.sizeOf32 (aJ.new_ hn) rfl), rfl⟩) <| .off .nil
 refine aftI ab am an fun bq br bg aM aN aO aq => ?_
 have aC := aq.fx 2 aA
 have a9 := aq.ge 0 5 rfl
 have aP := ap.new_ aO
 obtain ⟨ba, au, av, aQ, bh⟩ := s_many (P := Try.prog) (t := 32) (i := 0) [iv v.k, iv v.nk, iv v.nn, .bool v.neg, sv Av v.mag cv, sv Bv v.s dv, iv v.ref] Try.sizeOf32 rfl rfl rfl aP lb
 have aR : Blk ba al 32 [iv v.k, iv v.nk, iv v.nn, .bool v.neg, sv Av v.mag cv, sv Bv v.s dv, iv v.ref] := av
 refine st_act rfl rfl fun bs aS => a_store' rfl aC a9 au (aS _ _ trivial ?_)
 have ag := aN.trans aQ (fun _ h b => by subst b; omega)
 refine st_nil (aL _ _ ?_)
 refine wp_ret (ret_k aM (v := vv v Av cv Bv dv) (res_c rfl aC (l_agg Try.isAgg32 Try.sizeOf32 aR rfl)) ?_)
 have ac : (cleanV v).mag = v.mag := by first | rfl | (simp only [cleanV, Vl.z, aa, bsm] <;> rfl) | (exfalso; omega)
 have ad : (cleanV v).s = v.s := by first | rfl | (simp only [cleanV, Vl.z, aa, bsm] <;> rfl) | (exfalso; omega)
 exact ⟨Av, cv, Bv, dv, (by show Ending.returned (vv v Av cv Bv dv) = Ending.returned (vv (cleanV v) Av cv Bv dv); (first | rfl | (simp only [cleanV, Vl.z, aa, ac, ad, bsm] <;> rfl) | (exfalso; omega))), (by rw [ac]; exact (hmv.new_ ag)), (by rw [ad]; exact (hsv.new_ ag)), ag⟩
 have aT := hB aB aa
 refine wp_cond_false aT ?_
 refine wp_skip ?_
 refine aH _ _ ?_
 refine wp_seq_k fun bt aU => ?_
 refine wp_g0 [true, false] [(1, false)] 7
   [ve (vv (Vl.mk 0 0 0 false [] [] 0) none 0 none 0), vt] ab (.eq (.tt (.nil))) ?_ ?_
 exact .t (fun _ w hn k => ⟨_, v_build (ps := []) rfl parts0 (by kernel_rfl), rfl⟩) <| .off .nil
 refine aftI ab am an fun bu bv bi aV aW aX ar => ?_
 have aD := ar.fx 2 aA
 have bb := ar.ge 0 6 rfl
 have aY := ap.new_ aX
 obtain ⟨bd, aw, ax, aZ, bj⟩ := s_many (P := Try.prog) (t := 32) (i := 0) [iv 0, iv 0, iv 0, .bool false, sv none ([]) 0, sv none ([]) 0, iv 0] Try.sizeOf32 rfl rfl rfl aY lb
 have a1 : Blk bd al 32 [iv 0, iv 0, iv 0, .bool false, sv none ([]) 0, sv none ([]) 0, iv 0] := ax
 refine st_act rfl rfl fun bw a3 => a_store' rfl aD bb aw (a3 _ _ trivial ?_)
 have a4 := aW.trans aZ (fun _ h b => by subst b; omega)
 refine st_nil (aU _ _ ?_)
 refine wp_ret (ret_k aV (v := vv (Vl.mk 0 0 0 false [] [] 0) none 0 none 0) (res_c rfl aD (l_agg Try.isAgg32 Try.sizeOf32 a1 rfl)) ?_)
 have ac : (cleanV v).mag = [] := by first | rfl | (simp only [cleanV, Vl.z, aa, bsm] <;> rfl) | (exfalso; omega)
 have ad : (cleanV v).s = [] := by first | rfl | (simp only [cleanV, Vl.z, aa, bsm] <;> rfl) | (exfalso; omega)
 exact ⟨none, 0, none, 0, (by show Ending.returned (vv (Vl.mk 0 0 0 false [] [] 0) none 0 none 0) = Ending.returned (vv (cleanV v) none 0 none 0); (first | rfl | (simp only [cleanV, Vl.z, aa, ac, ad, bsm] <;> rfl) | (exfalso; omega))), (by rw [ac]; exact (SRow.nil _ _)), (by rw [ad]; exact (SRow.nil _ _)), a4⟩
theorem qnum_c (a : Nm) (w : World) : Calls Try.prog 22 #[nv a] w (IsRet (vv (Vl.mk 3 a.k a.n false [] [] 0) none 0 none 0) w) := by
 refine enter_abs Try.func22 rfl fun a0 aa aA hp => ?_
 have aa : a0.tmps.size = 5 := aa
 have ab : New w w := Upd.refl _ _
 have hp0 : a0.eval (.tmp 0) = nv a := hp 0 _ rfl
 refine wp_seq_k fun K1 aB => ?_
 refine wp_g [true, true] [] [] 5
   [IsNew w 23 [iv a.k, iv a.n], IsNew w 32 [iv 0, iv 0, iv 0, .bool false, sv none ([]) 0, sv none ([]) 0, iv 0]]
   [0, 1] (newsCons (fun v w h => IsNew.old h) (newsCons (fun v w h => IsNew.old h) newsNil)) aa (.nw (.nw (.nil))) ?_ (fun i h => by cases h) ?_
 exact .o2 (step_allocN (cs := [iv a.k, iv a.n]) (t := 23) rfl (noG rfl) (fun _ w hn k => v_box rfl (k.fx 0 hp0) (fun w => rfl)) (fun q _ hq hb => ⟨q, rfl, hq, hb⟩)) <| .o2 (step_allocN (cs := [iv 0, iv 0, iv 0, .bool false, sv none ([]) 0, sv none ([]) 0, iv 0]) (t := 32) rfl (noG rfl) (fun _ w hn k => rfl) (fun q _ hq hb => ⟨q, rfl, hq, hb⟩)) .nil
 refine aftI aa aA ab fun a2 w3 ag aC ak aJ ac => ?_
 obtain ⟨q9, h8, al, am⟩ : IsNew _ _ _ _ _ := ac.got 0 1 rfl (by kernel_rfl)
 obtain ⟨ah, ai, an, ao⟩ : IsNew _ _ _ _ _ := ac.got 1 2 rfl (by kernel_rfl)
 have hne16 : q9 ≠ ah := ac.ne 0 1 1 2 h8 ai
 have aF := Nat.le_trans ab.size al
 have aG := Nat.le_trans ab.size an
 refine st_nil (aB _ _ (wp_seq_k fun aK ap => ?_))
 refine wp_g0 [true, true, false] [(2, false)] 5
   [ve (nv a), ve (vv (Vl.mk 3 a.k a.n false [] [] 0) none 0 none 0), vt] ag (.eq (.eq (.tt (.nil)))) ?_ ?_
 exact .t (fun _ w hn k => ⟨_, v_load rfl (k.fx 1 h8) (l_two Try.isAgg23 Try.sizeOf23 (am.new_ hn)), rfl⟩) <| .t (fun _ w hn k => ⟨_, v_build (ps := [(0, iv 3), (1, nv a)]) rfl (parts2 rfl (k.eq1 0 3 rfl)) (by kernel_rfl), rfl⟩) <| .off .nil
 refine aftI ag aC ak fun aL aM aH aq ar au ad => ?_
 have aj := ad.fx 2 ai
 have aD := ad.ge 1 4 rfl
 have av := ao.new_ au
 obtain ⟨aE, ae, af, aw, aI⟩ := s_many (P := Try.prog) (t := 32) (i := 0) [iv 3, iv a.k, iv a.n, .bool false, sv none ([]) 0, sv none ([]) 0, iv 0] Try.sizeOf32 rfl rfl rfl av lb
 have ax : Blk aE ah 32 [iv 3, iv a.k, iv a.n, .bool false, sv none ([]) 0, sv none ([]) 0, iv 0] := af
 refine st_act rfl rfl fun aN ay => a_store' rfl aj aD ae (ay _ _ trivial ?_)
 have az := ar.trans aw (fun _ h b => by subst b; omega)
 refine st_nil (ap _ _ ?_)
 refine wp_ret (ret_k aq (v := vv (Vl.mk 3 a.k a.n false [] [] 0) none 0 none 0) (res_c rfl aj (l_agg Try.isAgg32 Try.sizeOf32 ax rfl)) ?_)
 exact ⟨rfl, az⟩
theorem few_c (v : Vl) (Av : Option Addr) (cv : Nat) (Bv : Option Addr) (dv : Nat) (w : World) (hmv : SRow w .u32 Av v.mag cv) (hsv : SRow w .u16 Bv v.s dv) : Calls Try.prog 7 #[vv v Av cv Bv dv] w (IsRet (.bool (decide ((v.s.length : Int) ≤ 20000) && decide ((v.mag.length : Int) ≤ 40))) w) := by
 refine enter_abs Try.func7 rfl fun a0 ac aq hp => ?_
 have ac : a0.tmps.size = 14 := ac
 have ah : New w w := Upd.refl _ _
 have hp0 : a0.eval (.tmp 0) = vv v Av cv Bv dv := hp 0 _ rfl
 refine wp_seq_k fun K1 ar => ?_
 refine wp_g [true, true] [] [] 14
   [IsNew w 29 [iv v.k, iv v.nk, iv v.nn, .bool v.neg, sv Av v.mag cv, sv Bv v.s dv, iv v.ref], vF]
   [0] (newsCons (fun v w h => IsNew.old h) newsNil) ac (.nw (.eq (.nil))) ?_ (fun i h => by cases h) ?_
 exact .o2 (step_allocN (cs := [iv v.k, iv v.nk, iv v.nn, .bool v.neg, sv Av v.mag cv, sv Bv v.s dv, iv v.ref]) (t := 29) rfl (noG rfl) (fun _ w hn k => v_box rfl (k.fx 0 hp0) (fun w => rfl)) (fun q _ hq hb => ⟨q, rfl, hq, hb⟩)) <| .t (fun _ w hn k => ⟨_, v_assign rfl rfl, rfl⟩) .nil
 refine aftI ac aq ah fun a2 w3 ad ai ae aC au => ?_
 obtain ⟨q9, h8, aj, ab⟩ : IsNew _ _ _ _ _ := au.got 0 1 rfl (by kernel_rfl)
 have ax := Nat.le_trans ah.size aj
 refine st_nil (ar _ _ (wp_seq_k fun aD af => ?_))
 rcases bc (decide ((v.s.length : Int) ≤ 20000)) with aa | aa
 have ag := oT aa
 refine wp_g0 (.replicate 12 true) [] 14
   [ve (.pointer (some ⟨q9, 5, none⟩)), ve (sv Bv v.s dv), ve (iv (v.s.length : Int)), vT, vT, ve (.pointer (some ⟨q9, 3, none⟩)), ve (.pointer (some ⟨q9, 4, none⟩)), ve (sv Av v.mag cv), ve (iv (v.mag.length : Int)), ve (.bool (decide ((v.mag.length : Int) ≤ 40))), ve (.bool (decide ((v.mag.length : Int) ≤ 40))), ve (.bool (decide ((v.mag.length : Int) ≤ 40)))] ad (.eq (.eq (.eq (.eq (.eq (.eq (.eq (.eq (.eq (.eq (.eq (.eq (.nil))))))))))))) ?_ ?_
 exact .f (fun k => k.fx 1 h8) <| .t (fun _ w hn k => ⟨_, v_load rfl (k.eq1 0 3 rfl) (l_one Try.isAgg27 ((ab.new_ hn).cell 5)), rfl⟩) <| .t (fun _ w hn k => ⟨_, v_lenR rfl elU (k.eq1 1 4 rfl), rfl⟩) <| .t (fun _ w hn k => ⟨_, v_bin rfl (k.eq1 2 5 rfl) rfl (fun _ => rfl) (r_leqK aa), rfl⟩) <| .m (fun k => k.eq1 3 6 rfl) <| .gf (fun k => k.eq1 4 7 rfl) (fun k => k.fx 1 h8) <| .gf (fun k => k.eq1 4 7 rfl) (fun k => k.eq1 5 8 rfl) <| .g (fun k => k.eq1 4 7 rfl) (fun _ w hn k => ⟨_, v_load rfl (k.eq1 6 9 rfl) (l_one Try.isAgg24 ((ab.new_ hn).cell 4)), rfl⟩) <| .g (fun k => k.eq1 4 7 rfl) (fun _ w hn k => ⟨_, v_lenR rfl elW (k.eq1 7 10 rfl), rfl⟩) <| .g (fun k => k.eq1 4 7 rfl) (fun _ w hn k => ⟨_, v_bin rfl (k.eq1 8 11 rfl) rfl (fun _ => rfl) (r_leqK rfl), rfl⟩) <| .t (fun _ w hn k => ⟨_, v_pickT rfl (k.eq1 4 7 rfl) (k.eq1 9 12 rfl), rfl⟩) <| .a (fun k => k.eq1 10 13 rfl) .nil
 refine aftI ad ai ae fun aE aF ay ak al az am => ?_
 have av := am.ge 11 2 rfl
 refine st_nil (af _ _ ?_)
 refine wp_ret (ret_k ak (v := .bool (decide ((v.mag.length : Int) ≤ 40))) (res_t rfl av _) ?_)
 refine ⟨?_, al⟩
 show Ending.returned (.bool (decide ((v.mag.length : Int) ≤ 40))) = Ending.returned (.bool (decide ((v.s.length : Int) ≤ 20000) && decide ((v.mag.length : Int) ≤ 40)))
 first | rfl | (simp only [aa, bsm] <;> rfl) | (exfalso; omega)
 have ag := oF aa
 refine wp_g0 (.replicate 12 true) [] 14
   [ve (.pointer (some ⟨q9, 5, none⟩)), ve (sv Bv v.s dv), ve (iv (v.s.length : Int)), vF, vF, vU, vU, vU, vU, vU, vF, vF] ad (.eq (.eq (.eq (.eq (.eq (.eq (.eq (.eq (.eq (.eq (.eq (.eq (.nil))))))))))))) ?_ ?_
 exact .f (fun k => k.fx 1 h8) <| .t (fun _ w hn k => ⟨_, v_load rfl (k.eq1 0 3 rfl) (l_one Try.isAgg27 ((ab.new_ hn).cell 5)), rfl⟩) <| .t (fun _ w hn k => ⟨_, v_lenR rfl elU (k.eq1 1 4 rfl), rfl⟩) <| .t (fun _ w hn k => ⟨_, v_bin rfl (k.eq1 2 5 rfl) rfl (fun _ => rfl) (r_leqK aa), rfl⟩) <| .m (fun k => k.eq1 3 6 rfl) <| .s (fun k => k.eq1 4 7 rfl) <| .s (fun k => k.eq1 4 7 rfl) <| .s (fun k => k.eq1 4 7 rfl) <| .s (fun k => k.eq1 4 7 rfl) <| .s (fun k => k.eq1 4 7 rfl) <| .t (fun _ w hn k => ⟨_, v_pickF rfl (k.eq1 4 7 rfl) rfl, rfl⟩) <| .a (fun k => k.eq1 10 13 rfl) .nil
 refine aftI ad ai ae fun aG aH aA an ao aB ap => ?_
 have aw := ap.ge 11 2 rfl
 refine st_nil (af _ _ ?_)
 refine wp_ret (ret_k an (v := .bool false) (res_t rfl aw _) ?_)
 refine ⟨?_, ao⟩
 show Ending.returned (.bool false) = Ending.returned (.bool (decide ((v.s.length : Int) ≤ 20000) && decide ((v.mag.length : Int) ≤ 40)))
 first | rfl | (simp only [aa, bsm] <;> rfl) | (exfalso; omega)
theorem plain_c (v : Vl) (Av : Option Addr) (cv : Nat) (Bv : Option Addr) (dv : Nat) (w : World) (hmv : SRow w .u32 Av v.mag cv) (hsv : SRow w .u16 Bv v.s dv) : Calls Try.prog 8 #[vv v Av cv Bv dv] w (IsRet (vv v Av cv Bv dv) w) := by
 refine enter_abs Try.func8 rfl fun a0 ab aA hp => ?_
 have ab : a0.tmps.size = 14 := ab
 have ac : New w w := Upd.refl _ _
 have hp0 : a0.eval (.tmp 0) = vv v Av cv Bv dv := hp 0 _ rfl
 refine wp_seq_k fun K1 aB => ?_
 refine wp_g [true, true] [] [] 14
   [IsNew w 29 [iv v.k, iv v.nk, iv v.nn, .bool v.neg, sv Av v.mag cv, sv Bv v.s dv, iv v.ref], IsNew w 32 [iv 0, iv 0, iv 0, .bool false, sv none ([]) 0, sv none ([]) 0, iv 0]]
   [0, 1] (newsCons (fun v w h => IsNew.old h) (newsCons (fun v w h => IsNew.old h) newsNil)) ab (.nw (.nw (.nil))) ?_ (fun i h => by cases h) ?_
 exact .o2 (step_allocN (cs := [iv v.k, iv v.nk, iv v.nn, .bool v.neg, sv Av v.mag cv, sv Bv v.s dv, iv v.ref]) (t := 29) rfl (noG rfl) (fun _ w hn k => v_box rfl (k.fx 0 hp0) (fun w => rfl)) (fun q _ hq hb => ⟨q, rfl, hq, hb⟩)) <| .o2 (step_allocN (cs := [iv 0, iv 0, iv 0, .bool false, sv none ([]) 0, sv none ([]) 0, iv 0]) (t := 32) rfl (noG rfl) (fun _ w hn k => rfl) (fun q _ hq hb => ⟨q, rfl, hq, hb⟩)) .nil
 refine aftI ab aA ac fun a2 w3 ah aC al aJ ad => ?_
 obtain ⟨q9, h8, am, aa⟩ : IsNew _ _ _ _ _ := ad.got 0 1 rfl (by kernel_rfl)
 obtain ⟨ai, aj, an, ao⟩ : IsNew _ _ _ _ _ := ad.got 1 2 rfl (by kernel_rfl)
 have hne16 : q9 ≠ ai := ad.ne 0 1 1 2 h8 aj
 have aF := Nat.le_trans ac.size am
 have aG := Nat.le_trans ac.size an
 refine st_nil (aB _ _ (wp_seq_k fun aK ap => ?_))
 refine wp_g0 [true, true, true, true, true, true, true, true, true, true, true, false] [(11, false)] 14
   [ve (pv q9), ve (iv v.k), ve (.pointer (some ⟨q9, 1, none⟩)), ve (nv (Nm.mk v.nk v.nn)), ve (.pointer (some ⟨q9, 3, none⟩)), ve (.agg #[.bool v.neg, sv Av v.mag cv]), ve (.pointer (some ⟨q9, 5, none⟩)), ve (sv Bv v.s dv), ve (.pointer (some ⟨q9, 6, none⟩)), ve (iv v.ref), ve (vv v Av cv Bv dv), vt] ah (.eq (.eq (.eq (.eq (.eq (.eq (.eq (.eq (.eq (.eq (.eq (.tt (.nil))))))))))))) ?_ ?_
 exact .f (fun k => k.fx 1 h8) <| .t (fun _ w hn k => ⟨_, v_load rfl (k.eq1 0 3 rfl) (l_one Try.isAgg3 ((aa.new_ hn).cell 0)), rfl⟩) <| .f (fun k => k.fx 1 h8) <| .t (fun _ w hn k => ⟨_, v_load rfl (k.eq1 2 5 rfl) (l_part Try.isAgg23 Try.sizeOf23 (aa.new_ hn) lb), rfl⟩) <| .f (fun k => k.fx 1 h8) <| .t (fun _ w hn k => ⟨_, v_load rfl (k.eq1 4 7 rfl) (l_part Try.isAgg26 Try.sizeOf26 (aa.new_ hn) lb), rfl⟩) <| .f (fun k => k.fx 1 h8) <| .t (fun _ w hn k => ⟨_, v_load rfl (k.eq1 6 9 rfl) (l_one Try.isAgg27 ((aa.new_ hn).cell 5)), rfl⟩) <| .f (fun k => k.fx 1 h8) <| .t (fun _ w hn k => ⟨_, v_load rfl (k.eq1 8 11 rfl) (l_one Try.isAgg3 ((aa.new_ hn).cell 6)), rfl⟩) <| .t (fun _ w hn k => ⟨_, v_build (ps := [(0, iv v.k), (1, nv (Nm.mk v.nk v.nn)), (2, .agg #[.bool v.neg, sv Av v.mag cv]), (3, sv Bv v.s dv), (4, iv v.ref)]) rfl (parts5 (k.eq1 1 4 rfl) (k.eq1 3 6 rfl) (k.eq1 5 8 rfl) (k.eq1 7 10 rfl) (k.eq1 9 12 rfl)) (by kernel_rfl), rfl⟩) <| .off .nil
 refine aftI ah aC al fun aL aM aH aq ar au ae => ?_
 have ak := ae.fx 2 aj
 have aD := ae.ge 10 13 rfl
 have av := ao.new_ au
 obtain ⟨aE, af, ag, aw, aI⟩ := s_many (P := Try.prog) (t := 32) (i := 0) [iv v.k, iv v.nk, iv v.nn, .bool v.neg, sv Av v.mag cv, sv Bv v.s dv, iv v.ref] Try.sizeOf32 rfl rfl rfl av lb
 have ax : Blk aE ai 32 [iv v.k, iv v.nk, iv v.nn, .bool v.neg, sv Av v.mag cv, sv Bv v.s dv, iv v.ref] := ag
 refine st_act rfl rfl fun aN ay => a_store' rfl ak aD af (ay _ _ trivial ?_)
 have az := ar.trans aw (fun _ h b => by subst b; omega)
 refine st_nil (ap _ _ ?_)
 refine wp_ret (ret_k aq (v := vv v Av cv Bv dv) (res_c rfl ak (l_agg Try.isAgg32 Try.sizeOf32 ax rfl)) ?_)
 exact ⟨rfl, az⟩
theorem rblank_c (x : Nat) (w : World) (hx : x < 65536) : Calls Try.prog 106 #[.int .u16 (x : Int)] w (IsRet (.bool (blankN x)) w) := by
 refine enter_abs Try.func106 rfl fun a0 af az hp => ?_
 have af : a0.tmps.size = 17 := af
 have aA : New w w := Upd.refl _ _
 have hp0 : a0.eval (.tmp 0) = .int .u16 (x : Int) := hp 0 _ rfl
 refine wp_seq_k fun K1 aB => ?_
 refine wp_g0 [true] [] 17
   [vF] af (.eq (.nil)) ?_ ?_
 exact .t (fun _ w hn k => ⟨_, v_assign rfl rfl, rfl⟩) .nil
 refine aftI af az aA fun a2 w3 ad ag ah aP aC => ?_
 have h8 := aC.fx 0 hp0
 refine st_nil (aB _ _ (wp_seq_k fun aQ ae => ?_))
 rcases bc (decide ((x : Int) = 32)) with aa | aa
 have ai := oT aa
 refine wp_g0 (.replicate 15 true) [] 17
   [ve (.int .u16 (x : Int)), vT, vT, vU, vU, vT, vT, vU, vU, vT, vT, vU, vU, vT, vT] ad (.eq (.eq (.eq (.eq (.eq (.eq (.eq (.eq (.eq (.eq (.eq (.eq (.eq (.eq (.eq (.nil)))))))))))))))) ?_ ?_
 exact .m (fun k => k.fx 0 h8) <| .t (fun _ w hn k => ⟨_, v_bin rfl (k.eq1 0 3 rfl) rfl (fun _ => rfl) (r_eql aa), rfl⟩) <| .m (fun k => k.eq1 1 4 rfl) <| .s (fun k => k.eq1 2 5 rfl) <| .s (fun k => k.eq1 2 5 rfl) <| .t (fun _ w hn k => ⟨_, v_pickT rfl (k.eq1 2 5 rfl) rfl, rfl⟩) <| .m (fun k => k.eq1 5 8 rfl) <| .s (fun k => k.eq1 6 9 rfl) <| .s (fun k => k.eq1 6 9 rfl) <| .t (fun _ w hn k => ⟨_, v_pickT rfl (k.eq1 6 9 rfl) rfl, rfl⟩) <| .m (fun k => k.eq1 9 12 rfl) <| .s (fun k => k.eq1 10 13 rfl) <| .s (fun k => k.eq1 10 13 rfl) <| .t (fun _ w hn k => ⟨_, v_pickT rfl (k.eq1 10 13 rfl) rfl, rfl⟩) <| .a (fun k => k.eq1 13 16 rfl) .nil
 refine aftI ad ag ah fun aR aS aH al am aI an => ?_
 have aD := an.ge 14 2 rfl
 refine st_nil (ae _ _ ?_)
 refine wp_ret (ret_k al (v := .bool true) (res_t rfl aD _) ?_)
 refine ⟨?_, am⟩
 show Ending.returned (.bool true) = Ending.returned (.bool (blankN x))
 first | rfl | (simp only [blankN, aa, bsm] <;> rfl) | (exfalso; omega)
 have ai := oF aa
 rcases bc (decide ((x : Int) = 9)) with ab | ab
 have aj := oT ab
 refine wp_g0 (.replicate 15 true) [] 17
   [ve (.int .u16 (x : Int)), vF, vF, ve (.int .u16 (x : Int)), vT, vT, vT, vU, vU, vT, vT, vU, vU, vT, vT] ad (.eq (.eq (.eq (.eq (.eq (.eq (.eq (.eq (.eq (.eq (.eq (.eq (.eq (.eq (.eq (.nil)))))))))))))))) ?_ ?_
 exact .m (fun k => k.fx 0 h8) <| .t (fun _ w hn k => ⟨_, v_bin rfl (k.eq1 0 3 rfl) rfl (fun _ => rfl) (r_eql aa), rfl⟩) <| .m (fun k => k.eq1 1 4 rfl) <| .gm (fun k => k.eq1 2 5 rfl) (fun k => k.fx 0 h8) <| .g (fun k => k.eq1 2 5 rfl) (fun _ w hn k => ⟨_, v_bin rfl (k.eq1 3 6 rfl) rfl (fun _ => rfl) (r_eql ab), rfl⟩) <| .t (fun _ w hn k => ⟨_, v_pickF rfl (k.eq1 2 5 rfl) (k.eq1 4 7 rfl), rfl⟩) <| .m (fun k => k.eq1 5 8 rfl) <| .s (fun k => k.eq1 6 9 rfl) <| .s (fun k => k.eq1 6 9 rfl) <| .t (fun _ w hn k => ⟨_, v_pickT rfl (k.eq1 6 9 rfl) rfl, rfl⟩) <| .m (fun k => k.eq1 9 12 rfl) <| .s (fun k => k.eq1 10 13 rfl) <| .s (fun k => k.eq1 10 13 rfl) <| .t (fun _ w hn k => ⟨_, v_pickT rfl (k.eq1 10 13 rfl) rfl, rfl⟩) <| .a (fun k => k.eq1 13 16 rfl) .nil
 refine aftI ad ag ah fun aT aU aJ ao ap aK aq => ?_
 have aE := aq.ge 14 2 rfl
 refine st_nil (ae _ _ ?_)
 refine wp_ret (ret_k ao (v := .bool true) (res_t rfl aE _) ?_)
 refine ⟨?_, ap⟩
 show Ending.returned (.bool true) = Ending.returned (.bool (blankN x))
 first | rfl | (simp only [blankN, aa, ab, bsm] <;> rfl) | (exfalso; omega)
 have aj := oF ab
 rcases bc (decide ((x : Int) = 10)) with ac | ac
 have ak := oT ac
 refine wp_g0 (.replicate 15 true) [] 17
   [ve (.int .u16 (x : Int)), vF, vF, ve (.int .u16 (x : Int)), vF, vF, vF, ve (.int .u16 (x : Int)), vT, vT, vT, vU, vU, vT, vT] ad (.eq (.eq (.eq (.eq (.eq (.eq (.eq (.eq (.eq (.eq (.eq (.eq (.eq (.eq (.eq (.nil)))))))))))))))) ?_ ?_
 exact .m (fun k => k.fx 0 h8) <| .t (fun _ w hn k => ⟨_, v_bin rfl (k.eq1 0 3 rfl) rfl (fun _ => rfl) (r_eql aa), rfl⟩) <| .m (fun k => k.eq1 1 4 rfl) <| .gm (fun k => k.eq1 2 5 rfl) (fun k => k.fx 0 h8) <| .g (fun k => k.eq1 2 5 rfl) (fun _ w hn k => ⟨_, v_bin rfl (k.eq1 3 6 rfl) rfl (fun _ => rfl) (r_eql ab), rfl⟩) <| .t (fun _ w hn k => ⟨_, v_pickF rfl (k.eq1 2 5 rfl) (k.eq1 4 7 rfl), rfl⟩) <| .m (fun k => k.eq1 5 8 rfl) <| .gm (fun k => k.eq1 6 9 rfl) (fun k => k.fx 0 h8) <| .g (fun k => k.eq1 6 9 rfl) (fun _ w hn k => ⟨_, v_bin rfl (k.eq1 7 10 rfl) rfl (fun _ => rfl) (r_eql ac), rfl⟩) <| .t (fun _ w hn k => ⟨_, v_pickF rfl (k.eq1 6 9 rfl) (k.eq1 8 11 rfl), rfl⟩) <| .m (fun k => k.eq1 9 12 rfl) <| .s (fun k => k.eq1 10 13 rfl) <| .s (fun k => k.eq1 10 13 rfl) <| .t (fun _ w hn k => ⟨_, v_pickT rfl (k.eq1 10 13 rfl) rfl, rfl⟩) <| .a (fun k => k.eq1 13 16 rfl) .nil
 refine aftI ad ag ah fun aV aW aL ar au aM av => ?_
 have aF := av.ge 14 2 rfl
 refine st_nil (ae _ _ ?_)
 refine wp_ret (ret_k ar (v := .bool true) (res_t rfl aF _) ?_)
 refine ⟨?_, au⟩
 show Ending.returned (.bool true) = Ending.returned (.bool (blankN x))
 first | rfl | (simp only [blankN, aa, ab, ac, bsm] <;> rfl) | (exfalso; omega)
 have ak := oF ac
 refine wp_g0 (.replicate 15 true) [] 17
   [ve (.int .u16 (x : Int)), vF, vF, ve (.int .u16 (x : Int)), vF, vF, vF, ve (.int .u16 (x : Int)), vF, vF, vF, ve (.int .u16 (x : Int)), ve (.bool (decide ((x : Int) = 13))), ve (.bool (decide ((x : Int) = 13))), ve (.bool (decide ((x : Int) = 13)))] ad (.eq (.eq (.eq (.eq (.eq (.eq (.eq (.eq (.eq (.eq (.eq (.eq (.eq (.eq (.eq (.nil)))))))))))))))) ?_ ?_
 exact .m (fun k => k.fx 0 h8) <| .t (fun _ w hn k => ⟨_, v_bin rfl (k.eq1 0 3 rfl) rfl (fun _ => rfl) (r_eql aa), rfl⟩) <| .m (fun k => k.eq1 1 4 rfl) <| .gm (fun k => k.eq1 2 5 rfl) (fun k => k.fx 0 h8) <| .g (fun k => k.eq1 2 5 rfl) (fun _ w hn k => ⟨_, v_bin rfl (k.eq1 3 6 rfl) rfl (fun _ => rfl) (r_eql ab), rfl⟩) <| .t (fun _ w hn k => ⟨_, v_pickF rfl (k.eq1 2 5 rfl) (k.eq1 4 7 rfl), rfl⟩) <| .m (fun k => k.eq1 5 8 rfl) <| .gm (fun k => k.eq1 6 9 rfl) (fun k => k.fx 0 h8) <| .g (fun k => k.eq1 6 9 rfl) (fun _ w hn k => ⟨_, v_bin rfl (k.eq1 7 10 rfl) rfl (fun _ => rfl) (r_eql ac), rfl⟩) <| .t (fun _ w hn k => ⟨_, v_pickF rfl (k.eq1 6 9 rfl) (k.eq1 8 11 rfl), rfl⟩) <| .m (fun k => k.eq1 9 12 rfl) <| .gm (fun k => k.eq1 10 13 rfl) (fun k => k.fx 0 h8) <| .g (fun k => k.eq1 10 13 rfl) (fun _ w hn k => ⟨_, v_bin rfl (k.eq1 11 14 rfl) rfl (fun _ => rfl) (r_eql rfl), rfl⟩) <| .t (fun _ w hn k => ⟨_, v_pickF rfl (k.eq1 10 13 rfl) (k.eq1 12 15 rfl), rfl⟩) <| .a (fun k => k.eq1 13 16 rfl) .nil
 refine aftI ad ag ah fun aX aY aN aw ax aO ay => ?_
 have aG := ay.ge 14 2 rfl
 refine st_nil (ae _ _ ?_)
 refine wp_ret (ret_k aw (v := .bool (decide ((x : Int) = 13))) (res_t rfl aG _) ?_)
 refine ⟨?_, ax⟩
 show Ending.returned (.bool (decide ((x : Int) = 13))) = Ending.returned (.bool (blankN x))
 first | rfl | (simp only [blankN, aa, ab, ac, bsm] <;> rfl) | (exfalso; omega)
theorem rdigit_c (x : Nat) (w : World) (hx : x < 65536) : Calls Try.prog 107 #[.int .u16 (x : Int)] w (IsRet (.bool (dgtN x)) w) := by
 refine enter_abs Try.func107 rfl fun a0 ab an hp => ?_
 have ab : a0.tmps.size = 9 := ab
 have ao : New w w := Upd.refl _ _
 have hp0 : a0.eval (.tmp 0) = .int .u16 (x : Int) := hp 0 _ rfl
 refine wp_seq_k fun K1 ap => ?_
 refine wp_g0 [true] [] 9
   [vF] ab (.eq (.nil)) ?_ ?_
 exact .t (fun _ w hn k => ⟨_, v_assign rfl rfl, rfl⟩) .nil
 refine aftI ab an ao fun a2 w3 ac af ag az aq => ?_
 have h8 := aq.fx 0 hp0
 refine st_nil (ap _ _ (wp_seq_k fun aA ad => ?_))
 rcases bc (decide ((x : Int) < 48)) with aa | aa
 have ae := oT aa
 refine wp_g0 [true, true, true, true, true, true, true] [] 9
   [ve (.int .u16 (x : Int)), vF, vF, vU, vU, vF, vF] ac (.eq (.eq (.eq (.eq (.eq (.eq (.eq (.nil)))))))) ?_ ?_
 exact .m (fun k => k.fx 0 h8) <| .t (fun _ w hn k => ⟨_, v_bin rfl (k.eq1 0 3 rfl) rfl (fun _ => rfl) (r_geqK aa), rfl⟩) <| .m (fun k => k.eq1 1 4 rfl) <| .s (fun k => k.eq1 2 5 rfl) <| .s (fun k => k.eq1 2 5 rfl) <| .t (fun _ w hn k => ⟨_, v_pickF rfl (k.eq1 2 5 rfl) rfl, rfl⟩) <| .a (fun k => k.eq1 5 8 rfl) .nil
 refine aftI ac af ag fun aB aC av ah ai aw aj => ?_
 have ar := aj.ge 6 2 rfl
 refine st_nil (ad _ _ ?_)
 refine wp_ret (ret_k ah (v := .bool false) (res_t rfl ar _) ?_)
 refine ⟨?_, ai⟩
 show Ending.returned (.bool false) = Ending.returned (.bool (dgtN x))
 first | rfl | (simp only [dgtN, aa, bsm] <;> rfl) | (exfalso; omega)
 have ae := oF aa
 refine wp_g0 [true, true, true, true, true, true, true] [] 9
   [ve (.int .u16 (x : Int)), vT, vT, ve (.int .u16 (x : Int)), ve (.bool (decide ((x : Int) ≤ 57))), ve (.bool (decide ((x : Int) ≤ 57))), ve (.bool (decide ((x : Int) ≤ 57)))] ac (.eq (.eq (.eq (.eq (.eq (.eq (.eq (.nil)))))))) ?_ ?_
 exact .m (fun k => k.fx 0 h8) <| .t (fun _ w hn k => ⟨_, v_bin rfl (k.eq1 0 3 rfl) rfl (fun _ => rfl) (r_geqK aa), rfl⟩) <| .m (fun k => k.eq1 1 4 rfl) <| .gm (fun k => k.eq1 2 5 rfl) (fun k => k.fx 0 h8) <| .g (fun k => k.eq1 2 5 rfl) (fun _ w hn k => ⟨_, v_bin rfl (k.eq1 3 6 rfl) rfl (fun _ => rfl) (r_leqK rfl), rfl⟩) <| .t (fun _ w hn k => ⟨_, v_pickT rfl (k.eq1 2 5 rfl) (k.eq1 4 7 rfl), rfl⟩) <| .a (fun k => k.eq1 5 8 rfl) .nil
 refine aftI ac af ag fun aD aE ax ak al ay am => ?_
 have au := am.ge 6 2 rfl
 refine st_nil (ad _ _ ?_)
 refine wp_ret (ret_k ak (v := .bool (decide ((x : Int) ≤ 57))) (res_t rfl au _) ?_)
 refine ⟨?_, al⟩
 show Ending.returned (.bool (decide ((x : Int) ≤ 57))) = Ending.returned (.bool (dgtN x))
 first | rfl | (simp only [dgtN, aa, bsm] <;> rfl) | (exfalso; omega)
def rtrim_c_P (Au : Option Addr) (u : List Nat) (cu : Nat) (w : World) (en : Ending) (w' : World) : Prop := ∃ (Ar0 : Option Addr) (cr0 : Nat), en = .returned (sv Ar0 (trimN u) cr0) ∧ SRow w' .u16 Ar0 (trimN u) cr0 ∧ New w w'
theorem rtrim_c (Au : Option Addr) (u : List Nat) (cu : Nat) (w : World) (hru : SRow w .u16 Au u cu) (hu : U16s u) : Calls Try.prog 96 #[sv Au u cu] w (rtrim_c_P Au u cu w) := by
 refine enter_abs Try.func96 rfl fun a0 aZ da hp => ?_
 have aZ : a0.tmps.size = 36 := aZ
 have db : New w w := Upd.refl _ _
 have hp0 : a0.eval (.tmp 0) = sv Au u cu := hp 0 _ rfl
 have hmx := hru.max
 refine wp_seq_k fun K1 dc => ?_
 refine wp_g0 [true] [] 36
   [ve (sv none ([]) 0)] aZ (.eq (.nil)) ?_ ?_
 exact .t (fun _ w hn k => ⟨_, v_assign rfl rfl, rfl⟩) .nil
 refine aftI aZ da db fun a2 w3 ci dd de eX df => ?_
 have h8 := df.fx 0 hp0
 refine st_nil (dc _ _ (wp_seq_k fun eY cp => ?_))
 refine wp_g0 [true, true, true, true] [] 36
   [ve (sv Au u cu), ve (iv (u.length : Int)), ve (iv 0), ve (iv (u.length : Int))] ci (.eq (.eq (.eq (.eq (.nil))))) ?_ ?_
 exact .m (fun k => k.fx 0 h8) <| .t (fun _ w hn k => ⟨_, v_lenR rfl elU (k.eq1 0 5 rfl), rfl⟩) <| .t (fun _ w hn k => ⟨_, v_assign rfl rfl, rfl⟩) <| .a (fun k => k.eq1 1 6 rfl) .nil
 refine aftI ci dd de fun eZ e0 cq cr cs es aP => ?_
 have dg := aP.fx 0 h8
 have dh := aP.ge 2 3 rfl
 have di := aP.ge 3 4 rfl
 refine st_nil (cp _ _ (wp_seq_k fun e1 be => ?_))
 refine wp_block ?_
 refine wp_loopX (fun (mm : Nat) (aa : Act) (ww : World) => ∃ (i : Nat), mm = u.length - i ∧ aa.tmps.size = 36 ∧ aa.defers = [] ∧ New w ww ∧ aa.eval (.tmp 3) = iv (i : Int) ∧ aa.eval (.tmp 0) = sv Au u cu ∧ aa.eval (.tmp 4) = iv (u.length : Int) ∧ (i ≤ u.length) ∧ ((u.drop i).dropWhile blankN = u.dropWhile blankN)) (fun mm => mm) ⟨_, ⟨0, rfl, cq, cr, cs, dh, dg, di, (Nat.zero_le _), (by rw [List.drop_zero])⟩⟩ ?_
 rintro mm e2 e3 ⟨i, hmm, aD, bf, aQ, aM, bg, a1, hi, hcd⟩
 refine wp_seq_k fun e4 ct => ?_
 refine wp_seq_k fun e5 bh => ?_
 rcases bc (decide ((i : Int) < (u.length : Int))) with av | av
 have bF := oT av
 have hb := hu.at16 i
 refine wp_g0 (.replicate 10 true) [] 36
   [ve (iv (i : Int)), ve (iv (u.length : Int)), vT, vT, ve (sv Au u cu), ve (iv (i : Int)),
    (EP (.int .u16 ((u.getD i 0 : Nat) : Int))), ve (.int .u16 ((u.getD i 0 : Nat) : Int)), ve (.bool (blankN (u.getD i 0))), ve (.bool (blankN (u.getD i 0)))] aD (.eq (.eq (.eq (.eq (.eq (.eq (.cons (fun _ _ _ n ⟨_, _, e, h⟩ => ⟨_, _, e, h.new_ n⟩) (.eq (.eq (.eq (.nil))))))))))) ?_ ?_
 refine .m (fun k => k.fx 3 aM) <| .m (fun k => k.fx 4 a1) <| .t (fun _ w hn k => ⟨_, v_bin rfl (k.eq1 0 7 rfl) (k.eq1 1 8 rfl) (fun _ => rfl) (r_lssK av), rfl⟩) <| .m (fun k => k.eq1 2 9 rfl) <| .gm (fun k => k.eq1 3 10 rfl) (fun k => k.fx 0 bg) <| .gm (fun k => k.eq1 3 10 rfl) (fun k => k.fx 3 aM) ?_
 refine .o1 (tg rfl rfl rfl (fun _ _ k => k.eq1 3 10 rfl) fun _ w hn k => (by
       exact x_eaddr (k := .u16) rfl elU (k.eq1 4 11 rfl) (k.eq1 5 12 rfl) (hru.new_ (aQ.transNew hn)) (by omega) fun b1 o2 hme => ⟨b1, o2, rfl, hme⟩)) ?_
 refine .o1 (tg rfl rfl rfl (fun _ _ k => k.eq1 3 10 rfl) fun _ w hn k => (by
       obtain ⟨b5, o6, e7, dj⟩ : (EP (.int .u16 ((u.getD i 0 : Nat) : Int))) _ _ := k.dep 6 13 (by kernel_rfl) (by kernel_rfl)
       exact ⟨_, v_load rfl e7 (l_one Try.isAgg66 dj.1), rfl⟩)) ?_
 exact .o1 (cg rfl rfl rfl (fun _ _ k => k.eq1 3 10 rfl) rfl (fun _ w hn k => ⟨#[.int .u16 ((u.getD i 0 : Nat) : Int)], args1 (k.eq1 7 14 rfl), fun _ => by kernel_rfl, rblank_c (u.getD i 0) _ (by omega)⟩) fun _ => rfl) <| .t (fun _ w hn k => ⟨_, v_pickT rfl (k.eq1 3 10 rfl) (k.eq1 8 15 rfl), rfl⟩) .nil
 refine aftI aD bf aQ fun e6 e8 aR bi bj et aE => ?_
 have bk := aE.fx 3 aM
 have cj := aE.fx 0 bg
 have cl := aE.fx 4 a1
 have cm := aE.ge 9 16 rfl
 refine st_nil (bh _ _ ?_)
 rcases bc (blankN (u.getD i 0)) with aw | aw
 have cv := hB cm aw
 refine wp_cond_true cv ?_
 refine wp_skip ?_
 refine ct _ _ ?_
 refine wp_block ?_
 refine wp_g0 [true, true, false] [(2, true)] 36
   [ve (iv (i : Int)), ve (iv ((i + 1 : Nat) : Int)), vt] aR (.eq (.eq (.tt (.nil)))) ?_ ?_
 exact .m (fun k => k.fx 3 bk) <| .t (fun _ w hn k => ⟨_, v_bin rfl (k.eq1 0 17 rfl) rfl (fun _ => rfl) (n_add (by omega) (IntWalk.i64_in _ (by omega))), rfl⟩) <| .off .nil
 refine aftI aR bi bj fun cn e9 bl cw cx eu aF => ?_
 have fa := aF.fx 3 bk
 have dk := aF.fx 0 cj
 have dl := aF.fx 4 cl
 have co := aF.ge 1 18 rfl
 refine st_take rfl rfl (y_assign (v := iv ((i + 1 : Nat) : Int)) rfl co) rfl ?_
 obtain ⟨dm, ad⟩ : ∃ a', a' = cn.put (some 3) (iv ((i + 1 : Nat) : Int)) := ⟨_, rfl⟩
 have cy := pz ad bl
 have cz := pd ad cw
 have dn := pn ad dk (by decide)
 have dp := pn ad dl (by decide)
 have fb := pn ad co (by decide)
 have dq : dm.eval (.tmp 3) = iv ((i + 1 : Nat) : Int) := by rw [ad]; exact put_same _ _ _ (by rw [bl]; decide)
 show stepsTo _ _ _ _ _ (cn.put (some 3) (iv ((i + 1 : Nat) : Int))) _
 rw [← ad]
 refine st_nil ?_
 refine blk_n ?_
 refine then_n ?_
 exact ⟨_, ⟨i + 1, rfl, cy, cz, cx, (dq.trans (congrArg (Value.int .i64) (by omega))), dn, dp, (by omega), ((tr_up (by omega) aw).trans hcd)⟩, (by omega)⟩
 have cA := hB cm aw
 refine wp_cond_false cA ?_
 refine wp_exit ?_
 refine be _ _ ?_
 refine wp_seq_k fun fc bm => ?_
 refine wp_block ?_
 refine wp_loopX (fun (mm : Nat) (aa : Act) (ww : World) => ∃ (jj : Nat), mm = jj ∧ aa.tmps.size = 36 ∧ aa.defers = [] ∧ New w ww ∧ aa.eval (.tmp 4) = iv (jj : Int) ∧ aa.eval (.tmp 0) = sv Au u cu ∧ aa.eval (.tmp 3) = iv (i : Int) ∧ (i ≤ jj) ∧ (jj ≤ u.length) ∧ (rtrimN ((u.take jj).drop i) = trimN u)) (fun mm => mm) ⟨_, ⟨u.length, rfl, aR, bi, bj, cl, cj, bk, (by omega), (Nat.le_refl _), (by rw [List.take_length]; exact tr_mid hcd (Or.inr ⟨by omega, aw⟩))⟩⟩ ?_
 rintro mm fd fe ⟨jj, hmm, aG, bn, aS, aN, bo, a3, hij, hjl, hc2⟩
 refine wp_seq_k fun ff cB => ?_
 refine wp_seq_k fun fg bp => ?_
 rcases bc (decide ((jj : Int) ≤ (i : Int))) with ax | ax
 have bG := oT ax
 have hb := hu.at16 ((jj : Int) - 1).toNat
 refine wp_g0 (.replicate 11 true) [] 36
   [ve (iv (jj : Int)), ve (iv (i : Int)), vF, vF, vU, vU, vU, vU, vU, vU, vF] aG (.eq (.eq (.eq (.eq (.eq (.eq (.eq (.eq (.eq (.eq (.eq (.nil)))))))))))) ?_ ?_
 exact .m (fun k => k.fx 4 aN) <| .m (fun k => k.fx 3 a3) <| .t (fun _ w hn k => ⟨_, v_bin rfl (k.eq1 0 19 rfl) (k.eq1 1 20 rfl) (fun _ => rfl) (r_gtrK ax), rfl⟩) <| .m (fun k => k.eq1 2 21 rfl) <| .s (fun k => k.eq1 3 22 rfl) <| .s (fun k => k.eq1 3 22 rfl) <| .s (fun k => k.eq1 3 22 rfl) <| .s (fun k => k.eq1 3 22 rfl) <| .s (fun k => k.eq1 3 22 rfl) <| .s (fun k => k.eq1 3 22 rfl) <| .t (fun _ w hn k => ⟨_, v_pickF rfl (k.eq1 3 22 rfl) rfl, rfl⟩) .nil
 refine aftI aG bn aS fun fh fi bq cC br ev aH => ?_
 have dr := aH.fx 4 aN
 have ds := aH.fx 0 bo
 have dt := aH.fx 3 a3
 have du := aH.ge 10 29 rfl
 refine st_nil (bp _ _ ?_)
 refine wp_cond_false du ?_
 refine wp_exit ?_
 refine bm _ _ ?_
 refine wp_seq_k fun fj cD => ?_
 refine wp_g0 [true, true, true, true, true] [] 36
   [ve (sv Au u cu), ve (iv (i : Int)), ve (iv (jj : Int)),
    (RP .u16 ((u.take jj).drop i)),
    (RP .u16 ((u.take jj).drop i))] bq (.eq (.eq (.eq (.cons (fun _ _ _ n ⟨_, _, e, h⟩ => ⟨_, _, e, h.new_ n⟩) (.cons (fun v W W' hn ⟨dx, dy, he, h0⟩ => ⟨dx, dy, he, h0.new_ hn⟩) (.nil)))))) ?_ ?_
 refine .m (fun k => k.fx 0 ds) <| .m (fun k => k.fx 3 dt) <| .m (fun k => k.fx 4 dr) ?_
 refine .o1 (tk rfl rfl fun _ w hn k => (by
       exact x_cutLH (k := .u16) rfl elU (k.eq1 0 32 rfl) (k.eq1 1 33 rfl) (k.eq1 2 34 rfl) (hru.new_ (br.transNew hn)) (by omega) fun A9 dz hmr => ⟨A9, dz, rfl, hmr⟩)) ?_
 refine .o1 (tk rfl rfl fun _ w hn k => (by
       obtain ⟨dA, dB, dC, cE⟩ : (RP .u16 ((u.take jj).drop i)) _ _ := k.dep 3 35 (by kernel_rfl) (by kernel_rfl)
       exact ⟨_, v_assign rfl dC, ⟨dA, dB, rfl, cE⟩⟩)) ?_
 exact .nil
 refine aftI bq cC br fun dD fk ew cF bH ex cG => ?_
 obtain ⟨aO, ay, bs, cH⟩ : (RP .u16 ((u.take jj).drop i)) _ _ := cG.got 4 2 rfl (by kernel_rfl)
 have bs : dD.eval (.tmp 2) = sv aO ((u.take jj).drop i) ay := bs
 refine st_nil (cD _ _ ?_)
 refine wp_ret (ret_k cF (v := sv aO ((u.take jj).drop i) ay) (res_t rfl bs _) ?_)
 have hsp : ((u.take jj).drop i) = trimN u := tr_end hjl hc2 (Or.inl (by omega))
 exact ⟨aO, ay, congrArg (fun l => Ending.returned (sv aO l ay)) hsp, Eq.mp (congrArg (fun l => SRow _ _ aO l ay) hsp) cH, bH⟩
 have bG := oF ax
 have hb := hu.at16 ((jj : Int) - 1).toNat
 refine wp_g0 (.replicate 11 true) [] 36
   [ve (iv (jj : Int)), ve (iv (i : Int)), vT, vT, ve (sv Au u cu), ve (iv (jj : Int)), ve (iv ((jj : Int) - 1)),
    (EP (.int .u16 ((u.getD (((jj : Int) - 1 : Int).toNat) 0 : Nat) : Int))), ve (.int .u16 ((u.getD (((jj : Int) - 1 : Int).toNat) 0 : Nat) : Int)), ve (.bool (blankN (u.getD (((jj : Int) - 1 : Int).toNat) 0))), ve (.bool (blankN (u.getD (((jj : Int) - 1 : Int).toNat) 0)))] aG (.eq (.eq (.eq (.eq (.eq (.eq (.eq (.cons (fun _ _ _ n ⟨_, _, e, h⟩ => ⟨_, _, e, h.new_ n⟩) (.eq (.eq (.eq (.nil)))))))))))) ?_ ?_
 refine .m (fun k => k.fx 4 aN) <| .m (fun k => k.fx 3 a3) <| .t (fun _ w hn k => ⟨_, v_bin rfl (k.eq1 0 19 rfl) (k.eq1 1 20 rfl) (fun _ => rfl) (r_gtrK ax), rfl⟩) <| .m (fun k => k.eq1 2 21 rfl) <| .gm (fun k => k.eq1 3 22 rfl) (fun k => k.fx 0 bo) <| .gm (fun k => k.eq1 3 22 rfl) (fun k => k.fx 4 aN) <| .g (fun k => k.eq1 3 22 rfl) (fun _ w hn k => ⟨_, v_bin rfl (k.eq1 5 24 rfl) rfl (fun _ => rfl) (r_sub rfl (by omega)), rfl⟩) ?_
 refine .o1 (tg rfl rfl rfl (fun _ _ k => k.eq1 3 22 rfl) fun _ w hn k => (by
       exact x_eaddr (k := .u16) rfl elU (k.eq1 4 23 rfl) (k.eq1 6 25 rfl) (hru.new_ (aS.transNew hn)) (by omega) fun dG dH hme => ⟨dG, dH, rfl, hme⟩)) ?_
 refine .o1 (tg rfl rfl rfl (fun _ _ k => k.eq1 3 22 rfl) fun _ w hn k => (by
       obtain ⟨fl, fm, dI, cI⟩ : (EP (.int .u16 ((u.getD (((jj : Int) - 1 : Int).toNat) 0 : Nat) : Int))) _ _ := k.dep 7 26 (by kernel_rfl) (by kernel_rfl)
       exact ⟨_, v_load rfl dI (l_one Try.isAgg66 cI.1), rfl⟩)) ?_
 exact .o1 (cg rfl rfl rfl (fun _ _ k => k.eq1 3 22 rfl) rfl (fun _ w hn k => ⟨#[.int .u16 ((u.getD (((jj : Int) - 1 : Int).toNat) 0 : Nat) : Int)], args1 (k.eq1 8 27 rfl), fun _ => by kernel_rfl, rblank_c (u.getD (((jj : Int) - 1 : Int).toNat) 0) _ (by omega)⟩) fun _ => rfl) <| .t (fun _ w hn k => ⟨_, v_pickT rfl (k.eq1 3 22 rfl) (k.eq1 9 28 rfl), rfl⟩) .nil
 refine aftI aG bn aS fun ey ez ak a4 aI ef al => ?_
 have aT := al.fx 4 aN
 have bt := al.fx 0 bo
 have bu := al.fx 3 a3
 have bv := al.ge 10 29 rfl
 refine st_nil (bp _ _ ?_)
 rcases bc (blankN (u.getD (((jj : Int) - 1 : Int).toNat) 0)) with ae | ae
 have bI := hB bv ae
 refine wp_cond_true bI ?_
 refine wp_skip ?_
 refine cB _ _ ?_
 refine wp_block ?_
 refine wp_g0 [true, true, false] [(2, true)] 36
   [ve (iv (jj : Int)), ve (iv ((jj : Int) - 1)), vt] ak (.eq (.eq (.tt (.nil)))) ?_ ?_
 exact .m (fun k => k.fx 4 aT) <| .t (fun _ w hn k => ⟨_, v_bin rfl (k.eq1 0 30 rfl) rfl (fun _ => rfl) (r_sub rfl (by omega)), rfl⟩) <| .off .nil
 refine aftI ak a4 aI fun bw eA a5 bJ bK eg am => ?_
 have eB := am.fx 4 aT
 have cJ := am.fx 0 bt
 have cK := am.fx 3 bu
 have bx := am.ge 1 31 rfl
 refine st_take rfl rfl (y_assign (v := iv ((jj : Int) - 1)) rfl bx) rfl ?_
 obtain ⟨cL, ab⟩ : ∃ a', a' = bw.put (some 4) (iv ((jj : Int) - 1)) := ⟨_, rfl⟩
 have bL := pz ab a5
 have bM := pd ab bJ
 have cM := pn ab cJ (by decide)
 have cN := pn ab cK (by decide)
 have eC := pn ab bx (by decide)
 have cO : cL.eval (.tmp 4) = iv ((jj : Int) - 1) := by rw [ab]; exact put_same _ _ _ (by rw [a5]; decide)
 show stepsTo _ _ _ _ _ (bw.put (some 4) (iv ((jj : Int) - 1))) _
 rw [← ab]
 refine st_nil ?_
 refine blk_n ?_
 refine then_n ?_
 exact ⟨_, ⟨jj - 1, rfl, bL, bM, bK, (cO.trans (congrArg (Value.int .i64) (by omega))), cM, cN, (by omega), (by omega), ((tr_dn (by omega) hjl ae).trans hc2)⟩, (by omega)⟩
 have bN := hB bv ae
 refine wp_cond_false bN ?_
 refine wp_exit ?_
 refine bm _ _ ?_
 refine wp_seq_k fun eD bO => ?_
 refine wp_g0 [true, true, true, true, true] [] 36
   [ve (sv Au u cu), ve (iv (i : Int)), ve (iv (jj : Int)),
    (RP .u16 ((u.take jj).drop i)),
    (RP .u16 ((u.take jj).drop i))] ak (.eq (.eq (.eq (.cons (fun _ _ _ n ⟨_, _, e, h⟩ => ⟨_, _, e, h.new_ n⟩) (.cons (fun v W W' hn ⟨dL, dM, he, h0⟩ => ⟨dL, dM, he, h0.new_ hn⟩) (.nil)))))) ?_ ?_
 refine .m (fun k => k.fx 0 bt) <| .m (fun k => k.fx 3 bu) <| .m (fun k => k.fx 4 aT) ?_
 refine .o1 (tk rfl rfl fun _ w hn k => (by
       exact x_cutLH (k := .u16) rfl elU (k.eq1 0 32 rfl) (k.eq1 1 33 rfl) (k.eq1 2 34 rfl) (hru.new_ (aI.transNew hn)) (by omega) fun dN dO hmr => ⟨dN, dO, rfl, hmr⟩)) ?_
 refine .o1 (tk rfl rfl fun _ w hn k => (by
       obtain ⟨dP, dQ, dR, cP⟩ : (RP .u16 ((u.take jj).drop i)) _ _ := k.dep 3 35 (by kernel_rfl) (by kernel_rfl)
       exact ⟨_, v_assign rfl dR, ⟨dP, dQ, rfl, cP⟩⟩)) ?_
 exact .nil
 refine aftI ak a4 aI fun cQ eE eh bP bQ ei bR => ?_
 obtain ⟨az, af, aU, bS⟩ : (RP .u16 ((u.take jj).drop i)) _ _ := bR.got 4 2 rfl (by kernel_rfl)
 have aU : cQ.eval (.tmp 2) = sv az ((u.take jj).drop i) af := aU
 refine st_nil (bO _ _ ?_)
 refine wp_ret (ret_k bP (v := sv az ((u.take jj).drop i) af) (res_t rfl aU _) ?_)
 have hsp : ((u.take jj).drop i) = trimN u := tr_end hjl hc2 (Or.inr ⟨by omega, ae⟩)
 exact ⟨az, af, congrArg (fun l => Ending.returned (sv az l af)) hsp, Eq.mp (congrArg (fun l => SRow _ _ az l af) hsp) bS, bQ⟩
 have bF := oF av
 have hb := hu.at16 i
 refine wp_g0 (.replicate 10 true) [] 36
   [ve (iv (i : Int)), ve (iv (u.length : Int)), vF, vF, vU, vU, vU, vU, vU, vF] aD (.eq (.eq (.eq (.eq (.eq (.eq (.eq (.eq (.eq (.eq (.nil))))))))))) ?_ ?_
 exact .m (fun k => k.fx 3 aM) <| .m (fun k => k.fx 4 a1) <| .t (fun _ w hn k => ⟨_, v_bin rfl (k.eq1 0 7 rfl) (k.eq1 1 8 rfl) (fun _ => rfl) (r_lssK av), rfl⟩) <| .m (fun k => k.eq1 2 9 rfl) <| .s (fun k => k.eq1 3 10 rfl) <| .s (fun k => k.eq1 3 10 rfl) <| .s (fun k => k.eq1 3 10 rfl) <| .s (fun k => k.eq1 3 10 rfl) <| .s (fun k => k.eq1 3 10 rfl) <| .t (fun _ w hn k => ⟨_, v_pickF rfl (k.eq1 3 10 rfl) rfl, rfl⟩) .nil
 refine aftI aD bf aQ fun eF eG bT bU bV ej an => ?_
 have cR := an.fx 3 aM
 have cS := an.fx 0 bg
 have cT := an.fx 4 a1
 have cU := an.ge 9 16 rfl
 refine st_nil (bh _ _ ?_)
 refine wp_cond_false cU ?_
 refine wp_exit ?_
 refine be _ _ ?_
 refine wp_seq_k fun eH a6 => ?_
 refine wp_block ?_
 refine wp_loopX (fun (mm : Nat) (aa : Act) (ww : World) => ∃ (jj : Nat), mm = jj ∧ aa.tmps.size = 36 ∧ aa.defers = [] ∧ New w ww ∧ aa.eval (.tmp 4) = iv (jj : Int) ∧ aa.eval (.tmp 0) = sv Au u cu ∧ aa.eval (.tmp 3) = iv (i : Int) ∧ (i ≤ jj) ∧ (jj ≤ u.length) ∧ (rtrimN ((u.take jj).drop i) = trimN u)) (fun mm => mm) ⟨_, ⟨u.length, rfl, bT, bU, bV, cT, cS, cR, (by omega), (Nat.le_refl _), (by rw [List.take_length]; exact tr_mid hcd (Or.inl (by omega)))⟩⟩ ?_
 rintro mm eI eJ ⟨jj, hmm, ao, a7, aJ, aA, aV, aK, hij, hjl, hc2⟩
 refine wp_seq_k fun eK bW => ?_
 refine wp_seq_k fun eL a8 => ?_
 rcases bc (decide ((jj : Int) ≤ (i : Int))) with ag | ag
 have bz := oT ag
 have hb := hu.at16 ((jj : Int) - 1).toNat
 refine wp_g0 (.replicate 11 true) [] 36
   [ve (iv (jj : Int)), ve (iv (i : Int)), vF, vF, vU, vU, vU, vU, vU, vU, vF] ao (.eq (.eq (.eq (.eq (.eq (.eq (.eq (.eq (.eq (.eq (.eq (.nil)))))))))))) ?_ ?_
 exact .m (fun k => k.fx 4 aA) <| .m (fun k => k.fx 3 aK) <| .t (fun _ w hn k => ⟨_, v_bin rfl (k.eq1 0 19 rfl) (k.eq1 1 20 rfl) (fun _ => rfl) (r_gtrK ag), rfl⟩) <| .m (fun k => k.eq1 2 21 rfl) <| .s (fun k => k.eq1 3 22 rfl) <| .s (fun k => k.eq1 3 22 rfl) <| .s (fun k => k.eq1 3 22 rfl) <| .s (fun k => k.eq1 3 22 rfl) <| .s (fun k => k.eq1 3 22 rfl) <| .s (fun k => k.eq1 3 22 rfl) <| .t (fun _ w hn k => ⟨_, v_pickF rfl (k.eq1 3 22 rfl) rfl, rfl⟩) .nil
 refine aftI ao a7 aJ fun eM eN a9 bX ba ek ap => ?_
 have cV := ap.fx 4 aA
 have cW := ap.fx 0 aV
 have cX := ap.fx 3 aK
 have cY := ap.ge 10 29 rfl
 refine st_nil (a8 _ _ ?_)
 refine wp_cond_false cY ?_
 refine wp_exit ?_
 refine a6 _ _ ?_
 refine wp_seq_k fun eO bY => ?_
 refine wp_g0 [true, true, true, true, true] [] 36
   [ve (sv Au u cu), ve (iv (i : Int)), ve (iv (jj : Int)),
    (RP .u16 ((u.take jj).drop i)),
    (RP .u16 ((u.take jj).drop i))] a9 (.eq (.eq (.eq (.cons (fun _ _ _ n ⟨_, _, e, h⟩ => ⟨_, _, e, h.new_ n⟩) (.cons (fun v W W' hn ⟨dU, dV, he, h0⟩ => ⟨dU, dV, he, h0.new_ hn⟩) (.nil)))))) ?_ ?_
 refine .m (fun k => k.fx 0 cW) <| .m (fun k => k.fx 3 cX) <| .m (fun k => k.fx 4 cV) ?_
 refine .o1 (tk rfl rfl fun _ w hn k => (by
       exact x_cutLH (k := .u16) rfl elU (k.eq1 0 32 rfl) (k.eq1 1 33 rfl) (k.eq1 2 34 rfl) (hru.new_ (ba.transNew hn)) (by omega) fun dW dX hmr => ⟨dW, dX, rfl, hmr⟩)) ?_
 refine .o1 (tk rfl rfl fun _ w hn k => (by
       obtain ⟨dY, dZ, d0, cZ⟩ : (RP .u16 ((u.take jj).drop i)) _ _ := k.dep 3 35 (by kernel_rfl) (by kernel_rfl)
       exact ⟨_, v_assign rfl d0, ⟨dY, dZ, rfl, cZ⟩⟩)) ?_
 exact .nil
 refine aftI a9 bX ba fun c0 eP el bZ b0 em b2 => ?_
 obtain ⟨aB, ah, aW, b4⟩ : (RP .u16 ((u.take jj).drop i)) _ _ := b2.got 4 2 rfl (by kernel_rfl)
 have aW : c0.eval (.tmp 2) = sv aB ((u.take jj).drop i) ah := aW
 refine st_nil (bY _ _ ?_)
 refine wp_ret (ret_k bZ (v := sv aB ((u.take jj).drop i) ah) (res_t rfl aW _) ?_)
 have hsp : ((u.take jj).drop i) = trimN u := tr_end hjl hc2 (Or.inl (by omega))
 exact ⟨aB, ah, congrArg (fun l => Ending.returned (sv aB l ah)) hsp, Eq.mp (congrArg (fun l => SRow _ _ aB l ah) hsp) b4, b0⟩
 have bz := oF ag
 have hb := hu.at16 ((jj : Int) - 1).toNat
 refine wp_g0 (.replicate 11 true) [] 36
   [ve (iv (jj : Int)), ve (iv (i : Int)), vT, vT, ve (sv Au u cu), ve (iv (jj : Int)), ve (iv ((jj : Int) - 1)),
    (EP (.int .u16 ((u.getD (((jj : Int) - 1 : Int).toNat) 0 : Nat) : Int))), ve (.int .u16 ((u.getD (((jj : Int) - 1 : Int).toNat) 0 : Nat) : Int)), ve (.bool (blankN (u.getD (((jj : Int) - 1 : Int).toNat) 0))), ve (.bool (blankN (u.getD (((jj : Int) - 1 : Int).toNat) 0)))] ao (.eq (.eq (.eq (.eq (.eq (.eq (.eq (.cons (fun _ _ _ n ⟨_, _, e, h⟩ => ⟨_, _, e, h.new_ n⟩) (.eq (.eq (.eq (.nil)))))))))))) ?_ ?_
 refine .m (fun k => k.fx 4 aA) <| .m (fun k => k.fx 3 aK) <| .t (fun _ w hn k => ⟨_, v_bin rfl (k.eq1 0 19 rfl) (k.eq1 1 20 rfl) (fun _ => rfl) (r_gtrK ag), rfl⟩) <| .m (fun k => k.eq1 2 21 rfl) <| .gm (fun k => k.eq1 3 22 rfl) (fun k => k.fx 0 aV) <| .gm (fun k => k.eq1 3 22 rfl) (fun k => k.fx 4 aA) <| .g (fun k => k.eq1 3 22 rfl) (fun _ w hn k => ⟨_, v_bin rfl (k.eq1 5 24 rfl) rfl (fun _ => rfl) (r_sub rfl (by omega)), rfl⟩) ?_
 refine .o1 (tg rfl rfl rfl (fun _ _ k => k.eq1 3 22 rfl) fun _ w hn k => (by
       exact x_eaddr (k := .u16) rfl elU (k.eq1 4 23 rfl) (k.eq1 6 25 rfl) (hru.new_ (aJ.transNew hn)) (by omega) fun d3 d4 hme => ⟨d3, d4, rfl, hme⟩)) ?_
 refine .o1 (tg rfl rfl rfl (fun _ _ k => k.eq1 3 22 rfl) fun _ w hn k => (by
       obtain ⟨fn, fo, d5, c1⟩ : (EP (.int .u16 ((u.getD (((jj : Int) - 1 : Int).toNat) 0 : Nat) : Int))) _ _ := k.dep 7 26 (by kernel_rfl) (by kernel_rfl)
       exact ⟨_, v_load rfl d5 (l_one Try.isAgg66 c1.1), rfl⟩)) ?_
 exact .o1 (cg rfl rfl rfl (fun _ _ k => k.eq1 3 22 rfl) rfl (fun _ w hn k => ⟨#[.int .u16 ((u.getD (((jj : Int) - 1 : Int).toNat) 0 : Nat) : Int)], args1 (k.eq1 8 27 rfl), fun _ => by kernel_rfl, rblank_c (u.getD (((jj : Int) - 1 : Int).toNat) 0) _ (by omega)⟩) fun _ => rfl) <| .t (fun _ w hn k => ⟨_, v_pickT rfl (k.eq1 3 22 rfl) (k.eq1 9 28 rfl), rfl⟩) .nil
 refine aftI ao a7 aJ fun eQ eR aq bb aL en ar => ?_
 have aX := ar.fx 4 aA
 have bA := ar.fx 0 aV
 have bB := ar.fx 3 aK
 have bC := ar.ge 10 29 rfl
 refine st_nil (a8 _ _ ?_)
 rcases bc (blankN (u.getD (((jj : Int) - 1 : Int).toNat) 0)) with ai | ai
 have b6 := hB bC ai
 refine wp_cond_true b6 ?_
 refine wp_skip ?_
 refine bW _ _ ?_
 refine wp_block ?_
 refine wp_g0 [true, true, false] [(2, true)] 36
   [ve (iv (jj : Int)), ve (iv ((jj : Int) - 1)), vt] aq (.eq (.eq (.tt (.nil)))) ?_ ?_
 exact .m (fun k => k.fx 4 aX) <| .t (fun _ w hn k => ⟨_, v_bin rfl (k.eq1 0 30 rfl) rfl (fun _ => rfl) (r_sub rfl (by omega)), rfl⟩) <| .off .nil
 refine aftI aq bb aL fun bD eS bd b7 b8 eo au => ?_
 have eT := au.fx 4 aX
 have c2 := au.fx 0 bA
 have c3 := au.fx 3 bB
 have bE := au.ge 1 31 rfl
 refine st_take rfl rfl (y_assign (v := iv ((jj : Int) - 1)) rfl bE) rfl ?_
 obtain ⟨c4, ac⟩ : ∃ a', a' = bD.put (some 4) (iv ((jj : Int) - 1)) := ⟨_, rfl⟩
 have b9 := pz ac bd
 have ca := pd ac b7
 have c5 := pn ac c2 (by decide)
 have c6 := pn ac c3 (by decide)
 have eU := pn ac bE (by decide)
 have c7 : c4.eval (.tmp 4) = iv ((jj : Int) - 1) := by rw [ac]; exact put_same _ _ _ (by rw [bd]; decide)
 show stepsTo _ _ _ _ _ (bD.put (some 4) (iv ((jj : Int) - 1))) _
 rw [← ac]
 refine st_nil ?_
 refine blk_n ?_
 refine then_n ?_
 exact ⟨_, ⟨jj - 1, rfl, b9, ca, b8, (c7.trans (congrArg (Value.int .i64) (by omega))), c5, c6, (by omega), (by omega), ((tr_dn (by omega) hjl ai).trans hc2)⟩, (by omega)⟩
 have cb := hB bC ai
 refine wp_cond_false cb ?_
 refine wp_exit ?_
 refine a6 _ _ ?_
 refine wp_seq_k fun eV cc => ?_
 refine wp_g0 [true, true, true, true, true] [] 36
   [ve (sv Au u cu), ve (iv (i : Int)), ve (iv (jj : Int)),
    (RP .u16 ((u.take jj).drop i)),
    (RP .u16 ((u.take jj).drop i))] aq (.eq (.eq (.eq (.cons (fun _ _ _ n ⟨_, _, e, h⟩ => ⟨_, _, e, h.new_ n⟩) (.cons (fun v W W' hn ⟨d8, d9, he, h0⟩ => ⟨d8, d9, he, h0.new_ hn⟩) (.nil)))))) ?_ ?_
 refine .m (fun k => k.fx 0 bA) <| .m (fun k => k.fx 3 bB) <| .m (fun k => k.fx 4 aX) ?_
 refine .o1 (tk rfl rfl fun _ w hn k => (by
       exact x_cutLH (k := .u16) rfl elU (k.eq1 0 32 rfl) (k.eq1 1 33 rfl) (k.eq1 2 34 rfl) (hru.new_ (aL.transNew hn)) (by omega) fun ea eb hmr => ⟨ea, eb, rfl, hmr⟩)) ?_
 refine .o1 (tk rfl rfl fun _ w hn k => (by
       obtain ⟨ec, ed, ee, c8⟩ : (RP .u16 ((u.take jj).drop i)) _ _ := k.dep 3 35 (by kernel_rfl) (by kernel_rfl)
       exact ⟨_, v_assign rfl ee, ⟨ec, ed, rfl, c8⟩⟩)) ?_
 exact .nil
 refine aftI aq bb aL fun c9 eW ep cd ce er cf => ?_
 obtain ⟨aC, aj, aY, ch⟩ : (RP .u16 ((u.take jj).drop i)) _ _ := cf.got 4 2 rfl (by kernel_rfl)
 have aY : c9.eval (.tmp 2) = sv aC ((u.take jj).drop i) aj := aY
 refine st_nil (cc _ _ ?_)
 refine wp_ret (ret_k cd (v := sv aC ((u.take jj).drop i) aj) (res_t rfl aY _) ?_)
 have hsp : ((u.take jj).drop i) = trimN u := tr_end hjl hc2 (Or.inr ⟨by omega, ai⟩)
 exact ⟨aC, aj, congrArg (fun l => Ending.returned (sv aC l aj)) hsp, Eq.mp (congrArg (fun l => SRow _ _ aC l aj) hsp) ch, ce⟩
theorem rdigits_c (Au : Option Addr) (u : List Nat) (cu : Nat) (w : World) (hru : SRow w .u16 Au u cu) (hu : U16s u) : Calls Try.prog 97 #[sv Au u cu] w (IsRet (.bool (digitsT u)) w) := by
 refine enter_abs Try.func97 rfl fun a0 an bi hp => ?_
 have an : a0.tmps.size = 19 := an
 have bj : New w w := Upd.refl _ _
 have hp0 : a0.eval (.tmp 0) = sv Au u cu := hp 0 _ rfl
 have hmx := hru.max
 refine wp_seq_k fun K1 bk => ?_
 refine wp_g0 [true] [] 19
   [vF] an (.eq (.nil)) ?_ ?_
 exact .t (fun _ w hn k => ⟨_, v_assign rfl rfl, rfl⟩) .nil
 refine aftI an bi bj fun a2 w3 aE bl bm bV bn => ?_
 have h8 := bn.fx 0 hp0
 refine st_nil (bk _ _ (wp_seq_k fun bW aL => ?_))
 refine wp_seq_k fun bX aM => ?_
 refine wp_g0 [true] [] 19
   [ve (iv 0)] aE (.eq (.nil)) ?_ ?_
 exact .t (fun _ w hn k => ⟨_, v_assign rfl rfl, rfl⟩) .nil
 refine aftI aE bl bm fun bY bZ aN aO aP bK ap => ?_
 have bo := ap.fx 0 h8
 have bp := ap.ge 0 3 rfl
 refine st_nil (aM _ _ ?_)
 refine wp_block ?_
 refine wp_loopX (fun (mm : Nat) (aa : Act) (ww : World) => ∃ (i : Nat), mm = u.length - i ∧ aa.tmps.size = 19 ∧ aa.defers = [] ∧ New w ww ∧ aa.eval (.tmp 3) = iv (i : Int) ∧ aa.eval (.tmp 0) = sv Au u cu ∧ (i ≤ u.length) ∧ (∀ j, j < i → (fun y : Nat => !dgtN y) (u.getD j 0) = false)) (fun mm => mm) ⟨_, ⟨0, rfl, aN, aO, aP, bp, bo, (Nat.zero_le _), (fun j h => absurd h (Nat.not_lt_zero _))⟩⟩ ?_
 rintro mm b0 b1 ⟨i, hmm, aq, aQ, aR, aF, aG, hi, hno⟩
 refine wp_seq_k fun b2 aS => ?_
 refine wp_seq_k fun b3 aT => ?_
 refine wp_g0 [true, true, true, true] [] 19
   [ve (iv (i : Int)), ve (sv Au u cu), ve (iv (u.length : Int)), ve (.bool (decide ((i : Int) < (u.length : Int))))] aq (.eq (.eq (.eq (.eq (.nil))))) ?_ ?_
 exact .m (fun k => k.fx 3 aF) <| .m (fun k => k.fx 0 aG) <| .t (fun _ w hn k => ⟨_, v_lenR rfl elU (k.eq1 1 5 rfl), rfl⟩) <| .t (fun _ w hn k => ⟨_, v_bin rfl (k.eq1 0 4 rfl) (k.eq1 2 6 rfl) (fun _ => rfl) (r_lssK rfl), rfl⟩) .nil
 refine aftI aq aQ aR fun b4 b5 ab ai ad bL aj => ?_
 have ao := aj.fx 3 aF
 have ah := aj.fx 0 aG
 have aH := aj.ge 3 7 rfl
 refine st_nil (aT _ _ ?_)
 rcases bc (decide ((i : Int) < (u.length : Int))) with af | af
 have ay := oT af
 have aU := hB aH af
 refine wp_cond_true aU ?_
 refine wp_skip ?_
 refine aS _ _ ?_
 refine wp_seq_k fun b6 aV => ?_
 refine wp_block ?_
 refine wp_seq_k fun b7 ar => ?_
 rcases bc (dgtN (u.getD i 0)) with ag | ag
 have hb := hu.at16 i
 refine wp_g0 [true, true, true, true, true, true] [] 19
   [ve (sv Au u cu), ve (iv (i : Int)),
    (EP (.int .u16 ((u.getD i 0 : Nat) : Int))), ve (.int .u16 ((u.getD i 0 : Nat) : Int)), vT, vF] ab (.eq (.eq (.cons (fun _ _ _ n ⟨_, _, e, h⟩ => ⟨_, _, e, h.new_ n⟩) (.eq (.eq (.eq (.nil))))))) ?_ ?_
 refine .m (fun k => k.fx 0 ah) <| .m (fun k => k.fx 3 ao) ?_
 refine .o1 (tk rfl rfl fun _ w hn k => (by
       exact x_eaddr (k := .u16) rfl elU (k.eq1 0 10 rfl) (k.eq1 1 11 rfl) (hru.new_ (ad.transNew hn)) (by omega) fun b9 bs hme => ⟨b9, bs, rfl, hme⟩)) ?_
 refine .o1 (tk rfl rfl fun _ w hn k => (by
       obtain ⟨b8, ca, bt, aW⟩ : (EP (.int .u16 ((u.getD i 0 : Nat) : Int))) _ _ := k.dep 2 12 (by kernel_rfl) (by kernel_rfl)
       exact ⟨_, v_load rfl bt (l_one Try.isAgg66 aW.1), rfl⟩)) ?_
 exact .o1 (ck rfl rfl rfl (fun _ w hn k => ⟨#[.int .u16 ((u.getD i 0 : Nat) : Int)], args1 (k.eq1 3 13 rfl), fun _ => by kernel_rfl, rdigit_c (u.getD i 0) _ (by omega)⟩) fun _ => congrArg Value.bool ag) <| .t (fun _ w hn k => ⟨_, v_not rfl (k.eq1 4 14 rfl), rfl⟩) .nil
 refine aftI ab ai ad fun cb cc au aX aY bM ak => ?_
 have aI := ak.fx 3 ao
 have bu := ak.fx 0 ah
 have bv := ak.ge 5 15 rfl
 refine st_nil (ar _ _ ?_)
 refine wp_cond_false bv ?_
 refine wp_skip ?_
 refine aV _ _ ?_
 refine wp_g0 [true, true, false] [(2, true)] 19
   [ve (iv (i : Int)), ve (iv ((i + 1 : Nat) : Int)), vt] au (.eq (.eq (.tt (.nil)))) ?_ ?_
 exact .m (fun k => k.fx 3 aI) <| .t (fun _ w hn k => ⟨_, v_bin rfl (k.eq1 0 8 rfl) rfl (fun _ => rfl) (n_add (by omega) (IntWalk.i64_in _ (by omega))), rfl⟩) <| .off .nil
 refine aftI au aX aY fun aJ cd av aZ a1 bN al => ?_
 have ce := al.fx 3 aI
 have bw := al.fx 0 bu
 have aK := al.ge 1 9 rfl
 refine st_take rfl rfl (y_assign (v := iv ((i + 1 : Nat) : Int)) rfl aK) rfl ?_
 obtain ⟨bx, ae⟩ : ∃ a', a' = aJ.put (some 3) (iv ((i + 1 : Nat) : Int)) := ⟨_, rfl⟩
 have a3 := pz ae av
 have a4 := pd ae aZ
 have bz := pn ae bw (by decide)
 have cf := pn ae aK (by decide)
 have bA : bx.eval (.tmp 3) = iv ((i + 1 : Nat) : Int) := by rw [ae]; exact put_same _ _ _ (by rw [av]; decide)
 show stepsTo _ _ _ _ _ (aJ.put (some 3) (iv ((i + 1 : Nat) : Int))) _
 rw [← ae]
 refine st_nil ?_
 refine then_n ?_
 exact ⟨_, ⟨i + 1, rfl, a3, a4, a1, (bA.trans (congrArg (Value.int .i64) (by omega))), bz, (by omega), (up_false (p := (fun y : Nat => !dgtN y)) hno (by show (!dgtN (u.getD i 0)) = false; rw [ag]; rfl))⟩, (by omega)⟩
 have hb := hu.at16 i
 refine wp_g0 [true, true, true, true, true, true] [] 19
   [ve (sv Au u cu), ve (iv (i : Int)),
    (EP (.int .u16 ((u.getD i 0 : Nat) : Int))), ve (.int .u16 ((u.getD i 0 : Nat) : Int)), vF, vT] ab (.eq (.eq (.cons (fun _ _ _ n ⟨_, _, e, h⟩ => ⟨_, _, e, h.new_ n⟩) (.eq (.eq (.eq (.nil))))))) ?_ ?_
 refine .m (fun k => k.fx 0 ah) <| .m (fun k => k.fx 3 ao) ?_
 refine .o1 (tk rfl rfl fun _ w hn k => (by
       exact x_eaddr (k := .u16) rfl elU (k.eq1 0 10 rfl) (k.eq1 1 11 rfl) (hru.new_ (ad.transNew hn)) (by omega) fun bD bE hme => ⟨bD, bE, rfl, hme⟩)) ?_
 refine .o1 (tk rfl rfl fun _ w hn k => (by
       obtain ⟨ch, ci, bF, a5⟩ : (EP (.int .u16 ((u.getD i 0 : Nat) : Int))) _ _ := k.dep 2 12 (by kernel_rfl) (by kernel_rfl)
       exact ⟨_, v_load rfl bF (l_one Try.isAgg66 a5.1), rfl⟩)) ?_
 exact .o1 (ck rfl rfl rfl (fun _ w hn k => ⟨#[.int .u16 ((u.getD i 0 : Nat) : Int)], args1 (k.eq1 3 13 rfl), fun _ => by kernel_rfl, rdigit_c (u.getD i 0) _ (by omega)⟩) fun _ => congrArg Value.bool ag) <| .t (fun _ w hn k => ⟨_, v_not rfl (k.eq1 4 14 rfl), rfl⟩) .nil
 refine aftI ab ai ad fun cj cl aw a6 a7 bO am => ?_
 have cm := am.fx 3 ao
 have cn := am.fx 0 ah
 have bG := am.ge 5 15 rfl
 refine st_nil (ar _ _ ?_)
 refine wp_cond_true bG ?_
 refine wp_seq_k fun co a8 => ?_
 refine wp_g0 [true] [] 19
   [vF] aw (.eq (.nil)) ?_ ?_
 exact .t (fun _ w hn k => ⟨_, v_assign rfl rfl, rfl⟩) .nil
 refine aftI aw a6 a7 fun cp cq bP a9 ba bQ bb => ?_
 have bH := bb.ge 0 2 rfl
 refine st_nil (a8 _ _ ?_)
 refine wp_ret (ret_k a9 (v := .bool false) (res_t rfl bH _) ?_)
 exact ⟨by rw [show digitsT u = false from by unfold digitsT; rw [any_true (p := (fun y : Nat => !dgtN y)) (i := i) (by omega) (by show (!dgtN (u.getD i 0)) = true; rw [ag]; rfl)]; simp], ba⟩
 have ay := oF af
 have bd := hB aH af
 refine wp_cond_false bd ?_
 refine wp_exit ?_
 refine aL _ _ ?_
 refine wp_seq_k fun cr ax => ?_
 rcases bc (decide ((u.length : Int) ≤ 0)) with ac | ac
 have az := oT ac
 refine wp_g0 [true, true, true, true] [] 19
   [ve (sv Au u cu), ve (iv (u.length : Int)), vF, vF] ab (.eq (.eq (.eq (.eq (.nil))))) ?_ ?_
 exact .m (fun k => k.fx 0 ah) <| .t (fun _ w hn k => ⟨_, v_lenR rfl elU (k.eq1 0 16 rfl), rfl⟩) <| .t (fun _ w hn k => ⟨_, v_bin rfl (k.eq1 1 17 rfl) rfl (fun _ => rfl) (r_gtrK ac), rfl⟩) <| .a (fun k => k.eq1 2 18 rfl) .nil
 refine aftI ab ai ad fun cs ct bR be aA bS bf => ?_
 have bg := bf.ge 3 2 rfl
 refine st_nil (ax _ _ ?_)
 refine wp_ret (ret_k be (v := .bool false) (res_t rfl bg _) ?_)
 exact ⟨by rw [show digitsT u = false from by unfold digitsT; rw [any_false (p := (fun y : Nat => !dgtN y)) (fun j hj => hno j (by omega))]; simp only [ac]; rfl], aA⟩
 have az := oF ac
 refine wp_g0 [true, true, true, true] [] 19
   [ve (sv Au u cu), ve (iv (u.length : Int)), vT, vT] ab (.eq (.eq (.eq (.eq (.nil))))) ?_ ?_
 exact .m (fun k => k.fx 0 ah) <| .t (fun _ w hn k => ⟨_, v_lenR rfl elU (k.eq1 0 16 rfl), rfl⟩) <| .t (fun _ w hn k => ⟨_, v_bin rfl (k.eq1 1 17 rfl) rfl (fun _ => rfl) (r_gtrK ac), rfl⟩) <| .a (fun k => k.eq1 2 18 rfl) .nil
 refine aftI ab ai ad fun bT bU bI aB aC bJ aD => ?_
 have bh := aD.ge 3 2 rfl
 refine st_nil (ax _ _ ?_)
 refine wp_ret (ret_k aB (v := .bool true) (res_t rfl bh _) ?_)
 exact ⟨by rw [show digitsT u = true from by unfold digitsT; rw [any_false (p := (fun y : Nat => !dgtN y)) (fun j hj => hno j (by omega))]; simp only [ac]; rfl], aC⟩
theorem rwhole3_c (Au : Option Addr) (u : List Nat) (cu : Nat) (w : World) (hru : SRow w .u16 Au u cu) (hu : U16s u) (hd : ∀ j, j < u.length → 48 ≤ u.getD j 0 ∧ u.getD j 0 ≤ 57) : Calls Try.prog 98 #[sv Au u cu] w (IsRet (iv (wholeR u 0)) w) := by
 refine enter_abs Try.func98 rfl fun a0 ao bB hp => ?_
 have ao : a0.tmps.size = 23 := ao
 have bC : New w w := Upd.refl _ _
 have hp0 : a0.eval (.tmp 0) = sv Au u cu := hp 0 _ rfl
 have hmx := hru.max
 refine wp_seq_k fun K1 bD => ?_
 refine wp_g0 [true] [] 23
   [ve (iv 0)] ao (.eq (.nil)) ?_ ?_
 exact .t (fun _ w hn k => ⟨_, v_assign rfl rfl, rfl⟩) .nil
 refine aftI ao bB bC fun a2 w3 aT bE bF co bG => ?_
 have h8 := bG.fx 0 hp0
 refine st_nil (bD _ _ (wp_seq_k fun cp a8 => ?_))
 refine wp_g0 [true] [] 23
   [ve (iv 0)] aT (.eq (.nil)) ?_ ?_
 exact .t (fun _ w hn k => ⟨_, v_assign rfl rfl, rfl⟩) .nil
 refine aftI aT bE bF fun cq cr ar a9 ba b2 au => ?_
 have bH := au.fx 0 h8
 have bI := au.ge 0 3 rfl
 refine st_nil (a8 _ _ (wp_seq_k fun cs bb => ?_))
 refine wp_seq_k fun ct bd => ?_
 refine wp_g0 [true] [] 23
   [ve (iv 0)] ar (.eq (.nil)) ?_ ?_
 exact .t (fun _ w hn k => ⟨_, v_assign rfl rfl, rfl⟩) .nil
 refine aftI ar a9 ba fun cv cw be bf bg b4 am => ?_
 have bJ := am.fx 0 bH
 have bK := am.fx 3 bI
 have bL := am.ge 0 4 rfl
 refine st_nil (bd _ _ ?_)
 refine wp_block ?_
 refine wp_loopX (fun (mm : Nat) (aa : Act) (ww : World) => ∃ (i : Nat) (n : Int), mm = u.length - i ∧ aa.tmps.size = 23 ∧ aa.defers = [] ∧ New w ww ∧ aa.eval (.tmp 3) = iv n ∧ aa.eval (.tmp 4) = iv (i : Int) ∧ aa.eval (.tmp 0) = sv Au u cu ∧ (i ≤ u.length) ∧ (0 ≤ n ∧ n ≤ 9007199254740991) ∧ (wholeR u 0 = wholeR (u.drop i) n)) (fun mm => mm) ⟨_, ⟨0, 0, rfl, be, bf, bg, bK, bL, bJ, (Nat.zero_le _), (by omega), (by rw [List.drop_zero])⟩⟩ ?_
 rintro mm cx cy ⟨i, n, hmm, av, bh, bi, bM, aU, aV, hi, hn, hv⟩
 refine wp_seq_k fun cz bj => ?_
 refine wp_seq_k fun cA bk => ?_
 refine wp_g0 [true, true, true, true] [] 23
   [ve (iv (i : Int)), ve (sv Au u cu), ve (iv (u.length : Int)), ve (.bool (decide ((i : Int) < (u.length : Int))))] av (.eq (.eq (.eq (.eq (.nil))))) ?_ ?_
 exact .m (fun k => k.fx 4 aU) <| .m (fun k => k.fx 0 aV) <| .t (fun _ w hn k => ⟨_, v_lenR rfl elU (k.eq1 1 6 rfl), rfl⟩) <| .t (fun _ w hn k => ⟨_, v_bin rfl (k.eq1 0 5 rfl) (k.eq1 2 7 rfl) (fun _ => rfl) (r_lssK rfl), rfl⟩) .nil
 refine aftI av bh bi fun cB cC ag aw an b6 ah => ?_
 have ax := ah.fx 3 bM
 have aW := ah.fx 4 aU
 have aX := ah.fx 0 aV
 have aY := ah.ge 3 8 rfl
 refine st_nil (bk _ _ ?_)
 rcases bc (decide ((i : Int) < (u.length : Int))) with ae | ae
 have aE := oT ae
 have bl := hB aY ae
 refine wp_cond_true bl ?_
 refine wp_skip ?_
 refine bj _ _ ?_
 refine wp_seq_k fun cD bm => ?_
 refine wp_block ?_
 refine wp_seq_k fun cE bn => ?_
 have hdg := hd i (by omega)
 have hb := hu.at16 i
 refine wp_g0 [true, true, true, true, true, true, true, true, true, false] [(9, true)] 23
   [ve (iv n), ve (iv (10 * n)), ve (sv Au u cu), ve (iv (i : Int)),
    (EP (.int .u16 ((u.getD i 0 : Nat) : Int))), ve (.int .u16 ((u.getD i 0 : Nat) : Int)), ve (.int .u16 (((u.getD i 0) - 48 : Nat) : Int)), ve (iv (((u.getD i 0) - 48 : Nat) : Int)), ve (iv ((10 * n) + (((u.getD i 0) - 48 : Nat) : Int))), vt] ag (.eq (.eq (.eq (.eq (.cons (fun _ _ _ n ⟨_, _, e, h⟩ => ⟨_, _, e, h.new_ n⟩) (.eq (.eq (.eq (.eq (.tt (.nil))))))))))) ?_ ?_
 refine .m (fun k => k.fx 3 ax) <| .t (fun _ w hn k => ⟨_, v_bin rfl rfl (k.eq1 0 11 rfl) (fun _ => rfl) (n_mul rfl (IntWalk.i64_in _ (by omega))), rfl⟩) <| .m (fun k => k.fx 0 aX) <| .m (fun k => k.fx 4 aW) ?_
 refine .o1 (tk rfl rfl fun _ w hn k => (by
       exact x_eaddr (k := .u16) rfl elU (k.eq1 2 13 rfl) (k.eq1 3 14 rfl) (hru.new_ (an.transNew hn)) (by omega) fun b1 o2 hme => ⟨b1, o2, rfl, hme⟩)) ?_
 refine .o1 (tk rfl rfl fun _ w hn k => (by
       obtain ⟨b5, o6, e7, bN⟩ : (EP (.int .u16 ((u.getD i 0 : Nat) : Int))) _ _ := k.dep 4 15 (by kernel_rfl) (by kernel_rfl)
       exact ⟨_, v_load rfl e7 (l_one Try.isAgg66 bN.1), rfl⟩)) ?_
 exact .t (fun _ w hn k => ⟨_, v_bin rfl (k.eq1 5 16 rfl) rfl (fun _ => rfl) (n_sub (by omega) (IntWalk.u16_in _ (by omega))), rfl⟩) <| .t (fun _ w hn k => ⟨_, v_conv rfl (k.eq1 6 17 rfl) (n_conv (by kernel_rfl) (by kernel_rfl) (by kernel_rfl) (IntWalk.i64_in _ (by omega))), rfl⟩) <| .t (fun _ w hn k => ⟨_, v_bin rfl (k.eq1 1 12 rfl) (k.eq1 7 18 rfl) (fun _ => rfl) (r_add rfl (by omega)), rfl⟩) <| .off .nil
 refine aftI ag aw an fun aZ cF ay bo az b7 ai => ?_
 have cG := ai.fx 3 ax
 have bO := ai.fx 4 aW
 have bP := ai.fx 0 aX
 have a1 := ai.ge 8 19 rfl
 refine st_take rfl rfl (y_assign (v := iv ((10 * n) + (((u.getD i 0) - 48 : Nat) : Int))) rfl a1) rfl ?_
 obtain ⟨bQ, ac⟩ : ∃ a', a' = aZ.put (some 3) (iv ((10 * n) + (((u.getD i 0) - 48 : Nat) : Int))) := ⟨_, rfl⟩
 have aj := pz ac ay
 have aA := pd ac bo
 have a3 := pn ac bO (by decide)
 have a4 := pn ac bP (by decide)
 have cH := pn ac a1 (by decide)
 have ap : bQ.eval (.tmp 3) = iv ((10 * n) + (((u.getD i 0) - 48 : Nat) : Int)) := by rw [ac]; exact put_same _ _ _ (by rw [ay]; decide)
 show stepsTo _ _ _ _ _ (aZ.put (some 3) (iv ((10 * n) + (((u.getD i 0) - 48 : Nat) : Int)))) _
 rw [← ac]
 refine st_nil (bn _ _ (wp_seq_k fun cI aB => ?_))
 rcases bc (decide (((10 * n) + (((u.getD i 0) - 48 : Nat) : Int)) ≤ 9007199254740991)) with af | af
 have aF := oT af
 refine wp_g0 [true, true] [] 23
   [ve (iv ((10 * n) + (((u.getD i 0) - 48 : Nat) : Int))), vF] aj (.eq (.eq (.nil))) ?_ ?_
 exact .m (fun k => k.fx 3 ap) <| .t (fun _ w hn k => ⟨_, v_bin rfl (k.eq1 0 20 rfl) rfl (fun _ => rfl) (r_gtrK af), rfl⟩) .nil
 refine aftI aj aA az fun cJ cK aC bp bq b8 ak => ?_
 have a5 := ak.fx 4 a3
 have bR := ak.fx 0 a4
 have bS := ak.fx 3 ap
 have bT := ak.ge 1 21 rfl
 refine st_nil (aB _ _ ?_)
 refine wp_cond_false bT ?_
 refine wp_skip ?_
 refine bm _ _ ?_
 refine wp_g0 [true, true, false] [(2, true)] 23
   [ve (iv (i : Int)), ve (iv ((i + 1 : Nat) : Int)), vt] aC (.eq (.eq (.tt (.nil)))) ?_ ?_
 exact .m (fun k => k.fx 4 a5) <| .t (fun _ w hn k => ⟨_, v_bin rfl (k.eq1 0 9 rfl) rfl (fun _ => rfl) (n_add (by omega) (IntWalk.i64_in _ (by omega))), rfl⟩) <| .off .nil
 refine aftI aC bp bq fun a6 cL aD br bs b9 al => ?_
 have cM := al.fx 4 a5
 have bU := al.fx 0 bR
 have bV := al.fx 3 bS
 have a7 := al.ge 1 10 rfl
 refine st_take rfl rfl (y_assign (v := iv ((i + 1 : Nat) : Int)) rfl a7) rfl ?_
 obtain ⟨bt, ab⟩ : ∃ a', a' = a6.put (some 4) (iv ((i + 1 : Nat) : Int)) := ⟨_, rfl⟩
 have aG := pz ab aD
 have aH := pd ab br
 have bu := pn ab bU (by decide)
 have bv := pn ab bV (by decide)
 have ca := pn ab a7 (by decide)
 have bw : bt.eval (.tmp 4) = iv ((i + 1 : Nat) : Int) := by rw [ab]; exact put_same _ _ _ (by rw [aD]; decide)
 show stepsTo _ _ _ _ _ (a6.put (some 4) (iv ((i + 1 : Nat) : Int))) _
 rw [← ab]
 refine st_nil ?_
 refine then_n ?_
 exact ⟨_, ⟨i + 1, 10 * n + (((u.getD i 0 : Nat) : Int) - 48), rfl, aG, aH, bs, (bv.trans (congrArg (Value.int .i64) (by omega))), (bw.trans (congrArg (Value.int .i64) (by omega))), bu, (by omega), (by omega), (hv.trans (by rw [drop_at (by omega), wholeR, if_pos (decide_eq_true (by omega))]))⟩, (by omega)⟩
 have aF := oF af
 refine wp_g0 [true, true] [] 23
   [ve (iv ((10 * n) + (((u.getD i 0) - 48 : Nat) : Int))), vT] aj (.eq (.eq (.nil))) ?_ ?_
 exact .m (fun k => k.fx 3 ap) <| .t (fun _ w hn k => ⟨_, v_bin rfl (k.eq1 0 20 rfl) rfl (fun _ => rfl) (r_gtrK af), rfl⟩) .nil
 refine aftI aj aA az fun cb cc aq aI aJ bW ad => ?_
 have cd := ad.fx 4 a3
 have ce := ad.fx 0 a4
 have cf := ad.fx 3 ap
 have bx := ad.ge 1 21 rfl
 refine st_nil (aB _ _ ?_)
 refine wp_cond_true bx ?_
 refine wp_seq_k fun ch aK => ?_
 refine wp_g0 [true] [] 23
   [ve (iv (-1))] aq (.eq (.nil)) ?_ ?_
 exact .t (fun _ w hn k => ⟨_, v_assign rfl rfl, rfl⟩) .nil
 refine aftI aq aI aJ fun ci cj bX aL aM bY aN => ?_
 have bz := aN.ge 0 2 rfl
 refine st_nil (aK _ _ ?_)
 refine wp_ret (ret_k aL (v := iv (-1)) (res_t rfl bz _) ?_)
 exact ⟨by rw [show wholeR u 0 = -1 from hv.trans (by rw [drop_at (by omega), wholeR, if_neg (show ¬ (decide (10 * n + (((u.getD i 0 : Nat) : Int) - 48) ≤ 9007199254740991) = true) by simp only [decide_eq_true_eq]; omega)])], aM⟩
 have aE := oF ae
 have aO := hB aY ae
 refine wp_cond_false aO ?_
 refine wp_exit ?_
 refine bb _ _ ?_
 refine wp_seq_k fun cl aP => ?_
 refine wp_g0 [true, true] [] 23
   [ve (iv n), ve (iv n)] ag (.eq (.eq (.nil))) ?_ ?_
 exact .m (fun k => k.fx 3 ax) <| .a (fun k => k.eq1 0 22 rfl) .nil
 refine aftI ag aw an fun cm cn bZ aQ aR b0 aS => ?_
 have bA := aS.ge 1 2 rfl
 refine st_nil (aP _ _ ?_)
 refine wp_ret (ret_k aQ (v := iv n) (res_t rfl bA _) ?_)
 exact ⟨by rw [show wholeR u 0 = n from hv.trans (by rw [List.drop_eq_nil_of_le (by omega)]; rfl)], aR⟩
theorem rnumeric_c (Au : Option Addr) (u : List Nat) (cu : Nat) (s : ByteArray) (w : World) (hru : SRow w .u16 Au u cu) (hu : U16s u) (hss : s.size ≤ 1000000) : Calls Try.prog 99 #[sv Au u cu, .string s] w (IsRet (.bool (numericN s u)) w) := by
 refine enter_abs Try.func99 rfl fun a0 bh gl hp => ?_
 have bh : a0.tmps.size = 61 := bh
 have gn : New w w := Upd.refl _ _
 have hp0 : a0.eval (.tmp 0) = sv Au u cu := hp 0 _ rfl
 have hp1 : a0.eval (.tmp 1) = .string s := hp 1 _ rfl
 have hmx := hru.max
 refine wp_seq_k fun K1 go => ?_
 refine wp_g0 [true] [] 61
   [vF] bh (.eq (.nil)) ?_ ?_
 exact .t (fun _ w hn k => ⟨_, v_assign rfl rfl, rfl⟩) .nil
 refine aftI bh gl gn fun a2 w3 dx gp dL il dy => ?_
 have h8 := dy.fx 0 hp0
 have h9 := dy.fx 1 hp1
 refine st_nil (go _ _ (wp_seq_k fun im dM => ?_))
 refine wp_g0 [true] [] 61
   [vF] dx (.eq (.nil)) ?_ ?_
 exact .t (fun _ w hn k => ⟨_, v_assign rfl rfl, rfl⟩) .nil
 refine aftI dx gp dL fun io ip bE dN dO g4 a9 => ?_
 have gq := a9.fx 0 h8
 have gr := a9.fx 1 h9
 have gs := a9.ge 0 5 rfl
 refine st_nil (dM _ _ (wp_seq_k fun iq dP => ?_))
 refine wp_seq_k fun ir dQ => ?_
 refine wp_g0 [true] [] 61
   [ve (iv 0)] bE (.eq (.nil)) ?_ ?_
 exact .t (fun _ w hn k => ⟨_, v_assign rfl rfl, rfl⟩) .nil
 refine aftI bE dN dO fun it iu dR dS dT g5 a1 => ?_
 have gt := a1.fx 0 gq
 have gu := a1.fx 1 gr
 have gv := a1.fx 5 gs
 have gw := a1.ge 0 6 rfl
 refine st_nil (dQ _ _ ?_)
 refine wp_block ?_
 refine wp_loopX (fun (mm : Nat) (aa : Act) (ww : World) => ∃ (i : Nat), mm = u.length - i ∧ aa.tmps.size = 61 ∧ aa.defers = [] ∧ New w ww ∧ aa.eval (.tmp 5) = .bool ((u.take i).any dgtN) ∧ aa.eval (.tmp 6) = iv (i : Int) ∧ aa.eval (.tmp 0) = sv Au u cu ∧ aa.eval (.tmp 1) = .string s ∧ (i ≤ u.length) ∧ ((u.take i).all (okS s) = true)) (fun mm => mm) ⟨_, ⟨0, rfl, dR, dS, dT, (gv.trans rfl), gw, gt, gu, (Nat.zero_le _), rfl⟩⟩ ?_
 rintro mm iw ix ⟨i, hmm, bF, dU, dV, gx, dz, dA, gy, hi, hall⟩
 refine wp_seq_k fun iy dW => ?_
 refine wp_seq_k fun iz dX => ?_
 refine wp_g0 [true, true, true, true] [] 61
   [ve (iv (i : Int)), ve (sv Au u cu), ve (iv (u.length : Int)), ve (.bool (decide ((i : Int) < (u.length : Int))))] bF (.eq (.eq (.eq (.eq (.nil))))) ?_ ?_
 exact .m (fun k => k.fx 6 dz) <| .m (fun k => k.fx 0 dA) <| .t (fun _ w hn k => ⟨_, v_lenR rfl elU (k.eq1 1 11 rfl), rfl⟩) <| .t (fun _ w hn k => ⟨_, v_bin rfl (k.eq1 0 10 rfl) (k.eq1 2 12 rfl) (fun _ => rfl) (r_lssK rfl), rfl⟩) .nil
 refine aftI bF dU dV fun iA iB a3 bG ba g6 aT => ?_
 have dB := aT.fx 5 gx
 have dC := aT.fx 6 dz
 have dD := aT.fx 0 dA
 have gz := aT.fx 1 gy
 have dE := aT.ge 3 13 rfl
 refine st_nil (dX _ _ ?_)
 rcases bc (decide ((i : Int) < (u.length : Int))) with aU | aU
 have cn := oT aU
 have dY := hB dE aU
 refine wp_cond_true dY ?_
 refine wp_skip ?_
 refine dW _ _ ?_
 refine wp_seq_k fun iC bH => ?_
 refine wp_block ?_
 refine wp_seq_k fun iD dZ => ?_
 have hb := hu.at16 i
 refine wp_g0 [true, true, true, true, true] [] 61
   [ve (sv Au u cu), ve (iv (i : Int)),
    (EP (.int .u16 ((u.getD i 0 : Nat) : Int))), ve (.int .u16 ((u.getD i 0 : Nat) : Int)), ve (.int .u16 ((u.getD i 0 : Nat) : Int))] a3 (.eq (.eq (.cons (fun _ _ _ n ⟨_, _, e, h⟩ => ⟨_, _, e, h.new_ n⟩) (.eq (.eq (.nil)))))) ?_ ?_
 refine .m (fun k => k.fx 0 dD) <| .m (fun k => k.fx 6 dC) ?_
 refine .o1 (tk rfl rfl fun _ w hn k => (by
       exact x_eaddr (k := .u16) rfl elU (k.eq1 0 16 rfl) (k.eq1 1 17 rfl) (hru.new_ (ba.transNew hn)) (by omega) fun b1 o2 hme => ⟨b1, o2, rfl, hme⟩)) ?_
 refine .o1 (tk rfl rfl fun _ w hn k => (by
       obtain ⟨b5, o6, e7, gA⟩ : (EP (.int .u16 ((u.getD i 0 : Nat) : Int))) _ _ := k.dep 2 18 (by kernel_rfl) (by kernel_rfl)
       exact ⟨_, v_load rfl e7 (l_one Try.isAgg66 gA.1), rfl⟩)) ?_
 exact .a (fun k => k.eq1 3 19 rfl) .nil
 refine aftI a3 bG ba fun iE iF ai aP aQ g7 aV => ?_
 have aW := aV.fx 5 dB
 have aX := aV.fx 6 dC
 have aY := aV.fx 0 dD
 have aZ := aV.fx 1 gz
 have ab := aV.ge 4 7 rfl
 refine st_nil (dZ _ _ ?_)
 refine wp_seq_j (fun (aa : Act) (ww : World) => aa.tmps.size = 61 ∧ aa.defers = [] ∧ New w ww ∧ aa.eval (.tmp 8) = .bool (okbN (u.getD i 0)) ∧ aa.eval (.tmp 0) = sv Au u cu ∧ aa.eval (.tmp 1) = .string s ∧ aa.eval (.tmp 5) = .bool ((u.take i).any dgtN) ∧ aa.eval (.tmp 6) = iv (i : Int) ∧ aa.eval (.tmp 7) = .int .u16 ((u.getD i 0 : Nat) : Int)) ?_ ?_
 rintro iG iH ⟨bI, d0, d1, gB, gC, gD, gE, gF, gG⟩
 refine wp_seq_j (fun (aa : Act) (ww : World) => aa.tmps.size = 61 ∧ aa.defers = [] ∧ New w ww ∧ aa.eval (.tmp 8) = .bool (okS s (u.getD i 0)) ∧ aa.eval (.tmp 0) = sv Au u cu ∧ aa.eval (.tmp 1) = .string s ∧ aa.eval (.tmp 5) = .bool ((u.take i).any dgtN) ∧ aa.eval (.tmp 6) = iv (i : Int) ∧ aa.eval (.tmp 7) = .int .u16 ((u.getD i 0 : Nat) : Int)) ?_ ?_
 rintro iI iJ ⟨a4, bJ, bK, dF, dG, dH, dI, dJ, dK⟩
 refine wp_seq_k fun iK d2 => ?_
 refine wp_seq_k fun iL bL => ?_
 rcases bc ((okS s (u.getD i 0))) with aR | aR
 have d3 := hB dF aR
 refine wp_g0 [true, true] [] 61
   [vT, vF] a4 (.eq (.eq (.nil))) ?_ ?_
 exact .m (fun k => k.fx 8 d3) <| .t (fun _ w hn k => ⟨_, v_not rfl (k.eq1 0 53 rfl), rfl⟩) .nil
 refine aftI a4 bJ bK fun g8 g9 aS bi bj gI ay => ?_
 have bM := ay.fx 0 dG
 have bN := ay.fx 1 dH
 have bO := ay.fx 5 dI
 have bP := ay.fx 6 dJ
 have d4 := ay.fx 7 dK
 have d5 := ay.ge 1 54 rfl
 refine st_nil (bL _ _ ?_)
 refine wp_cond_false d5 ?_
 refine wp_skip ?_
 refine d2 _ _ ?_
 rcases bc (((u.take i).any dgtN)) with aH | aH
 have bk := hB bO aH
 have hb := hu.at16 i
 refine wp_g0 [true, true, true, true, true, false] [(5, true)] 61
   [vT, vT, vU, vU, vT, vt] aS (.eq (.eq (.eq (.eq (.eq (.tt (.nil))))))) ?_ ?_
 exact .m (fun k => k.fx 5 bk) <| .m (fun k => k.eq1 0 55 rfl) <| .s (fun k => k.eq1 1 56 rfl) <| .s (fun k => k.eq1 1 56 rfl) <| .t (fun _ w hn k => ⟨_, v_pickT rfl (k.eq1 1 56 rfl) rfl, rfl⟩) <| .off .nil
 refine aftI aS bi bj fun bQ ha bl co cp gJ aI => ?_
 have d6 := aI.fx 0 bM
 have d7 := aI.fx 1 bN
 have hc := aI.fx 5 bk
 have d8 := aI.fx 6 bP
 have bR := aI.ge 4 59 rfl
 refine st_take rfl rfl (y_assign (v := .bool true) rfl bR) rfl ?_
 obtain ⟨d9, ak⟩ : ∃ a', a' = bQ.put (some 5) (.bool true) := ⟨_, rfl⟩
 have bm := pz ak bl
 have cq := pd ak co
 have ea := pn ak d6 (by decide)
 have eb := pn ak d7 (by decide)
 have bS := pn ak d8 (by decide)
 have hd := pn ak bR (by decide)
 have ec : d9.eval (.tmp 5) = .bool true := by rw [ak]; exact put_same _ _ _ (by rw [bl]; decide)
 show stepsTo _ _ _ _ _ (bQ.put (some 5) (.bool true)) _
 rw [← ak]
 refine st_nil (bH _ _ ?_)
 refine wp_g0 [true, true, false] [(2, true)] 61
   [ve (iv (i : Int)), ve (iv ((i + 1 : Nat) : Int)), vt] bm (.eq (.eq (.tt (.nil)))) ?_ ?_
 exact .m (fun k => k.fx 6 bS) <| .t (fun _ w hn k => ⟨_, v_bin rfl (k.eq1 0 14 rfl) rfl (fun _ => rfl) (n_add (by omega) (IntWalk.i64_in _ (by omega))), rfl⟩) <| .off .nil
 refine aftI bm cq cp fun bT hf bn cr cs gK aJ => ?_
 have ed := aJ.fx 0 ea
 have ee := aJ.fx 1 eb
 have hg := aJ.fx 6 bS
 have ef := aJ.fx 5 ec
 have bU := aJ.ge 1 15 rfl
 refine st_take rfl rfl (y_assign (v := iv ((i + 1 : Nat) : Int)) rfl bU) rfl ?_
 obtain ⟨eg, al⟩ : ∃ a', a' = bT.put (some 6) (iv ((i + 1 : Nat) : Int)) := ⟨_, rfl⟩
 have ct := pz al bn
 have cv := pd al cr
 have eh := pn al ed (by decide)
 have ei := pn al ee (by decide)
 have ej := pn al ef (by decide)
 have hh := pn al bU (by decide)
 have ek : eg.eval (.tmp 6) = iv ((i + 1 : Nat) : Int) := by rw [al]; exact put_same _ _ _ (by rw [bn]; decide)
 show stepsTo _ _ _ _ _ (bT.put (some 6) (iv ((i + 1 : Nat) : Int))) _
 rw [← al]
 refine st_nil ?_
 refine then_n ?_
 exact ⟨_, ⟨i + 1, rfl, ct, cv, cs, (ej.trans (congrArg Value.bool (by rw [any_up (by omega)]; simp only [aH, bsm]))), (ek.trans (congrArg (Value.int .i64) (by omega))), eh, ei, (by omega), (all_up (by omega) hall aR)⟩, (by omega)⟩
 have bo := hB bO aH
 have hb := hu.at16 i
 refine wp_g0 [true, true, true, true, true, false] [(5, true)] 61
   [vF, vF, ve (.int .u16 ((u.getD i 0 : Nat) : Int)), ve (.bool (dgtN (u.getD i 0))), ve (.bool (dgtN (u.getD i 0))), vt] aS (.eq (.eq (.eq (.eq (.eq (.tt (.nil))))))) ?_ ?_
 exact .m (fun k => k.fx 5 bo) <| .m (fun k => k.eq1 0 55 rfl) <| .gm (fun k => k.eq1 1 56 rfl) (fun k => k.fx 7 d4) <| .o1 (cg rfl rfl rfl (fun _ _ k => k.eq1 1 56 rfl) rfl (fun _ w hn k => ⟨#[.int .u16 ((u.getD i 0 : Nat) : Int)], args1 (k.eq1 2 57 rfl), fun _ => by kernel_rfl, rdigit_c (u.getD i 0) _ (by omega)⟩) fun _ => rfl) <| .t (fun _ w hn k => ⟨_, v_pickF rfl (k.eq1 1 56 rfl) (k.eq1 3 58 rfl), rfl⟩) <| .off .nil
 refine aftI aS bi bj fun bV hk bp cw cx gL aK => ?_
 have el := aK.fx 0 bM
 have em := aK.fx 1 bN
 have hl := aK.fx 5 bo
 have en := aK.fx 6 bP
 have bW := aK.ge 4 59 rfl
 refine st_take rfl rfl (y_assign (v := .bool (dgtN (u.getD i 0))) rfl bW) rfl ?_
 obtain ⟨eo, am⟩ : ∃ a', a' = bV.put (some 5) (.bool (dgtN (u.getD i 0))) := ⟨_, rfl⟩
 have bq := pz am bp
 have cy := pd am cw
 have ep := pn am el (by decide)
 have er := pn am em (by decide)
 have bX := pn am en (by decide)
 have hm := pn am bW (by decide)
 have es : eo.eval (.tmp 5) = .bool (dgtN (u.getD i 0)) := by rw [am]; exact put_same _ _ _ (by rw [bp]; decide)
 show stepsTo _ _ _ _ _ (bV.put (some 5) (.bool (dgtN (u.getD i 0)))) _
 rw [← am]
 refine st_nil (bH _ _ ?_)
 refine wp_g0 [true, true, false] [(2, true)] 61
   [ve (iv (i : Int)), ve (iv ((i + 1 : Nat) : Int)), vt] bq (.eq (.eq (.tt (.nil)))) ?_ ?_
 exact .m (fun k => k.fx 6 bX) <| .t (fun _ w hn k => ⟨_, v_bin rfl (k.eq1 0 14 rfl) rfl (fun _ => rfl) (n_add (by omega) (IntWalk.i64_in _ (by omega))), rfl⟩) <| .off .nil
 refine aftI bq cy cx fun bY ho br cz cA gM aL => ?_
 have et := aL.fx 0 ep
 have eu := aL.fx 1 er
 have hq := aL.fx 6 bX
 have ev := aL.fx 5 es
 have bZ := aL.ge 1 15 rfl
 refine st_take rfl rfl (y_assign (v := iv ((i + 1 : Nat) : Int)) rfl bZ) rfl ?_
 obtain ⟨ew, an⟩ : ∃ a', a' = bY.put (some 6) (iv ((i + 1 : Nat) : Int)) := ⟨_, rfl⟩
 have cB := pz an br
 have cC := pd an cz
 have ex := pn an et (by decide)
 have ey := pn an eu (by decide)
 have ez := pn an ev (by decide)
 have hr := pn an bZ (by decide)
 have eA : ew.eval (.tmp 6) = iv ((i + 1 : Nat) : Int) := by rw [an]; exact put_same _ _ _ (by rw [br]; decide)
 show stepsTo _ _ _ _ _ (bY.put (some 6) (iv ((i + 1 : Nat) : Int))) _
 rw [← an]
 refine st_nil ?_
 refine then_n ?_
 exact ⟨_, ⟨i + 1, rfl, cB, cC, cA, (ez.trans (congrArg Value.bool (by rw [any_up (by omega)]; simp only [aH, bsm]))), (eA.trans (congrArg (Value.int .i64) (by omega))), ex, ey, (by omega), (all_up (by omega) hall aR)⟩, (by omega)⟩
 have cD := hB dF aR
 refine wp_g0 [true, true] [] 61
   [vF, vT] a4 (.eq (.eq (.nil))) ?_ ?_
 exact .m (fun k => k.fx 8 cD) <| .t (fun _ w hn k => ⟨_, v_not rfl (k.eq1 0 53 rfl), rfl⟩) .nil
 refine aftI a4 bJ bK fun hs ht bs cE cF gN az => ?_
 have hv := az.fx 0 dG
 have hw := az.fx 1 dH
 have hx := az.fx 5 dI
 have hy := az.fx 6 dJ
 have hz := az.fx 7 dK
 have eB := az.ge 1 54 rfl
 refine st_nil (bL _ _ ?_)
 refine wp_cond_true eB ?_
 refine wp_seq_k fun hA cG => ?_
 refine wp_g0 [true] [] 61
   [vF] bs (.eq (.nil)) ?_ ?_
 exact .t (fun _ w hn k => ⟨_, v_assign rfl rfl, rfl⟩) .nil
 refine aftI bs cE cF fun hC hD gO cH cI gP cJ => ?_
 have eC := cJ.ge 0 4 rfl
 refine st_nil (cG _ _ ?_)
 refine wp_ret (ret_k cH (v := .bool false) (res_t rfl eC _) ?_)
 exact ⟨by rw [show numericN s u = false from by unfold numericN; rw [all_bad (i := i) (by omega) aR, Bool.false_and]], cI⟩
 intro hE cK
 refine wp_seq_k fun hF cL => ?_
 refine wp_g0 [true] [] 61
   [ve (iv 0)] bI (.eq (.nil)) ?_ ?_
 exact .t (fun _ w hn k => ⟨_, v_assign rfl rfl, rfl⟩) .nil
 refine aftI bI d0 d1 fun hG hH cM cN cO gQ av => ?_
 have eD := av.fx 8 gB
 have eE := av.fx 0 gC
 have eF := av.fx 1 gD
 have eG := av.fx 5 gE
 have eH := av.fx 6 gF
 have eI := av.fx 7 gG
 have eJ := av.ge 0 9 rfl
 refine st_nil (cL _ _ ?_)
 refine wp_block ?_
 refine wp_loopX (fun (mm : Nat) (aa : Act) (ww : World) => ∃ (jj : Nat), mm = s.size - jj ∧ aa.tmps.size = 61 ∧ aa.defers = [] ∧ New w ww ∧ aa.eval (.tmp 8) = .bool (okbN (u.getD i 0) || hasN s jj (u.getD i 0)) ∧ aa.eval (.tmp 9) = iv (jj : Int) ∧ aa.eval (.tmp 0) = sv Au u cu ∧ aa.eval (.tmp 1) = .string s ∧ aa.eval (.tmp 5) = .bool ((u.take i).any dgtN) ∧ aa.eval (.tmp 6) = iv (i : Int) ∧ aa.eval (.tmp 7) = .int .u16 ((u.getD i 0 : Nat) : Int) ∧ (jj ≤ s.size)) (fun mm => mm) ⟨_, ⟨0, rfl, cM, cN, cO, (eD.trans (congrArg Value.bool (by rw [has0, Bool.or_false]))), eJ, eE, eF, eG, eH, eI, (Nat.zero_le _)⟩⟩ ?_
 rintro mm hI hJ ⟨jj, hmm, bt, cP, cQ, eK, b0, eL, b2, eM, eN, eO, hj⟩
 refine wp_seq_k fun hK cR => ?_
 refine wp_seq_k fun hL cS => ?_
 refine wp_g0 [true, true, true, true] [] 61
   [ve (iv (jj : Int)), ve (.string s), ve (iv (s.size : Int)), ve (.bool (decide ((jj : Int) < (s.size : Int))))] bt (.eq (.eq (.eq (.eq (.nil))))) ?_ ?_
 exact .m (fun k => k.fx 9 b0) <| .m (fun k => k.fx 1 b2) <| .t (fun _ w hn k => ⟨_, v_lenS rfl (k.eq1 1 39 rfl) (by kernel_rfl), rfl⟩) <| .t (fun _ w hn k => ⟨_, v_bin rfl (k.eq1 0 38 rfl) (k.eq1 2 40 rfl) (fun _ => rfl) (r_lssK rfl), rfl⟩) .nil
 refine aftI bt cP cQ fun hM hN aM a5 a6 gR ao => ?_
 have bb := ao.fx 8 eK
 have bd := ao.fx 9 b0
 have be := ao.fx 0 eL
 have a7 := ao.fx 1 b2
 have bf := ao.fx 5 eM
 have bg := ao.fx 6 eN
 have a8 := ao.fx 7 eO
 have b4 := ao.ge 3 41 rfl
 refine st_nil (cS _ _ ?_)
 rcases bc (decide ((jj : Int) < (s.size : Int))) with aN | aN
 have b6 := oT aN
 have cT := hB b4 aN
 refine wp_cond_true cT ?_
 refine wp_skip ?_
 refine cR _ _ ?_
 refine wp_seq_k fun hO bu => ?_
 refine wp_block ?_
 rcases bc ((okbN (u.getD i 0) || hasN s jj (u.getD i 0))) with aO | aO
 have bv := hB bb aO
 have hb := hu.at16 i
 have gH := bAt_lt s jj
 refine wp_g0 [true, true, true, true, true, true, true, true, true, false] [(9, true)] 61
   [vT, vT, vU, vU, vU, vU, vU, vU, vT, vt] aM (.eq (.eq (.eq (.eq (.eq (.eq (.eq (.eq (.eq (.tt (.nil))))))))))) ?_ ?_
 exact .m (fun k => k.fx 8 bv) <| .m (fun k => k.eq1 0 44 rfl) <| .s (fun k => k.eq1 1 45 rfl) <| .s (fun k => k.eq1 1 45 rfl) <| .s (fun k => k.eq1 1 45 rfl) <| .s (fun k => k.eq1 1 45 rfl) <| .s (fun k => k.eq1 1 45 rfl) <| .s (fun k => k.eq1 1 45 rfl) <| .t (fun _ w hn k => ⟨_, v_pickT rfl (k.eq1 1 45 rfl) rfl, rfl⟩) <| .off .nil
 refine aftI aM a5 a6 fun b7 hP bw cU cV gS ap => ?_
 have hQ := ap.fx 8 bv
 have eP := ap.fx 9 bd
 have eQ := ap.fx 0 be
 have eR := ap.fx 1 a7
 have eS := ap.fx 5 bf
 have eT := ap.fx 6 bg
 have eU := ap.fx 7 a8
 have b8 := ap.ge 8 52 rfl
 refine st_take rfl rfl (y_assign (v := .bool true) rfl b8) rfl ?_
 obtain ⟨eV, ae⟩ : ∃ a', a' = b7.put (some 8) (.bool true) := ⟨_, rfl⟩
 have bx := pz ae bw
 have cW := pd ae cU
 have b9 := pn ae eP (by decide)
 have eW := pn ae eQ (by decide)
 have eX := pn ae eR (by decide)
 have eY := pn ae eS (by decide)
 have eZ := pn ae eT (by decide)
 have e0 := pn ae eU (by decide)
 have hR := pn ae b8 (by decide)
 have e1 : eV.eval (.tmp 8) = .bool true := by rw [ae]; exact put_same _ _ _ (by rw [bw]; decide)
 show stepsTo _ _ _ _ _ (b7.put (some 8) (.bool true)) _
 rw [← ae]
 refine st_nil (bu _ _ ?_)
 refine wp_g0 [true, true, false] [(2, true)] 61
   [ve (iv (jj : Int)), ve (iv ((jj + 1 : Nat) : Int)), vt] bx (.eq (.eq (.tt (.nil)))) ?_ ?_
 exact .m (fun k => k.fx 9 b9) <| .t (fun _ w hn k => ⟨_, v_bin rfl (k.eq1 0 42 rfl) rfl (fun _ => rfl) (n_add (by omega) (IntWalk.i64_in _ (by omega))), rfl⟩) <| .off .nil
 refine aftI bx cW cV fun ca hS bz cX cY gT aq => ?_
 have hT := aq.fx 9 b9
 have e2 := aq.fx 0 eW
 have e3 := aq.fx 1 eX
 have e4 := aq.fx 5 eY
 have e5 := aq.fx 6 eZ
 have e6 := aq.fx 7 e0
 have e8 := aq.fx 8 e1
 have cb := aq.ge 1 43 rfl
 refine st_take rfl rfl (y_assign (v := iv ((jj + 1 : Nat) : Int)) rfl cb) rfl ?_
 obtain ⟨e9, af⟩ : ∃ a', a' = ca.put (some 9) (iv ((jj + 1 : Nat) : Int)) := ⟨_, rfl⟩
 have cZ := pz af bz
 have c0 := pd af cX
 have fa := pn af e2 (by decide)
 have fb := pn af e3 (by decide)
 have fc := pn af e4 (by decide)
 have fd := pn af e5 (by decide)
 have fe := pn af e6 (by decide)
 have ff := pn af e8 (by decide)
 have hU := pn af cb (by decide)
 have fg : e9.eval (.tmp 9) = iv ((jj + 1 : Nat) : Int) := by rw [af]; exact put_same _ _ _ (by rw [bz]; decide)
 show stepsTo _ _ _ _ _ (ca.put (some 9) (iv ((jj + 1 : Nat) : Int))) _
 rw [← af]
 refine st_nil ?_
 refine then_n ?_
 exact ⟨_, ⟨jj + 1, rfl, cZ, c0, cY, (ff.trans (congrArg Value.bool (by rw [has_up (by omega), ← Bool.or_assoc]; simp only [aO, bsm]))), (fg.trans (congrArg (Value.int .i64) (by omega))), fa, fb, fc, fd, fe, (by omega)⟩, (by omega)⟩
 have bA := hB bb aO
 have hb := hu.at16 i
 have gH := bAt_lt s jj
 refine wp_g0 [true, true, true, true, true, true, true, true, true, false] [(9, true)] 61
   [vF, vF, ve (.int .u16 ((u.getD i 0 : Nat) : Int)), ve (.string s), ve (iv (jj : Int)), ve (.int .u8 ((bAt s jj : Nat) : Int)), ve (.int .u16 ((bAt s jj : Nat) : Int)), ve (.bool (decide (((u.getD i 0 : Nat) : Int) = ((bAt s jj : Nat) : Int)))), ve (.bool (decide (((u.getD i 0 : Nat) : Int) = ((bAt s jj : Nat) : Int)))), vt] aM (.eq (.eq (.eq (.eq (.eq (.eq (.eq (.eq (.eq (.tt (.nil))))))))))) ?_ ?_
 exact .m (fun k => k.fx 8 bA) <| .m (fun k => k.eq1 0 44 rfl) <| .gm (fun k => k.eq1 1 45 rfl) (fun k => k.fx 7 a8) <| .gm (fun k => k.eq1 1 45 rfl) (fun k => k.fx 1 a7) <| .gm (fun k => k.eq1 1 45 rfl) (fun k => k.fx 9 bd) <| .g (fun k => k.eq1 1 45 rfl) (fun _ w hn k => ⟨_, v_idxN rfl (k.eq1 3 47 rfl) (k.eq1 4 48 rfl) (by kernel_rfl) (by omega), rfl⟩) <| .g (fun k => k.eq1 1 45 rfl) (fun _ w hn k => ⟨_, v_conv rfl (k.eq1 5 49 rfl) (n_conv (by kernel_rfl) (by kernel_rfl) (by kernel_rfl) (IntWalk.u16_in _ (by omega))), rfl⟩) <| .g (fun k => k.eq1 1 45 rfl) (fun _ w hn k => ⟨_, v_bin rfl (k.eq1 2 46 rfl) (k.eq1 6 50 rfl) (fun _ => rfl) (r_eql rfl), rfl⟩) <| .t (fun _ w hn k => ⟨_, v_pickF rfl (k.eq1 1 45 rfl) (k.eq1 7 51 rfl), rfl⟩) <| .off .nil
 refine aftI aM a5 a6 fun cc hV bB c1 c2 gU ar => ?_
 have hW := ar.fx 8 bA
 have fh := ar.fx 9 bd
 have fi := ar.fx 0 be
 have fj := ar.fx 1 a7
 have fk := ar.fx 5 bf
 have fl := ar.fx 6 bg
 have fm := ar.fx 7 a8
 have cd := ar.ge 8 52 rfl
 refine st_take rfl rfl (y_assign (v := .bool (decide (((u.getD i 0 : Nat) : Int) = ((bAt s jj : Nat) : Int)))) rfl cd) rfl ?_
 obtain ⟨fn, ag⟩ : ∃ a', a' = cc.put (some 8) (.bool (decide (((u.getD i 0 : Nat) : Int) = ((bAt s jj : Nat) : Int)))) := ⟨_, rfl⟩
 have bC := pz ag bB
 have c3 := pd ag c1
 have ce := pn ag fh (by decide)
 have fo := pn ag fi (by decide)
 have fp := pn ag fj (by decide)
 have fq := pn ag fk (by decide)
 have fr := pn ag fl (by decide)
 have fs := pn ag fm (by decide)
 have hX := pn ag cd (by decide)
 have ft : fn.eval (.tmp 8) = .bool (decide (((u.getD i 0 : Nat) : Int) = ((bAt s jj : Nat) : Int))) := by rw [ag]; exact put_same _ _ _ (by rw [bB]; decide)
 show stepsTo _ _ _ _ _ (cc.put (some 8) (.bool (decide (((u.getD i 0 : Nat) : Int) = ((bAt s jj : Nat) : Int))))) _
 rw [← ag]
 refine st_nil (bu _ _ ?_)
 refine wp_g0 [true, true, false] [(2, true)] 61
   [ve (iv (jj : Int)), ve (iv ((jj + 1 : Nat) : Int)), vt] bC (.eq (.eq (.tt (.nil)))) ?_ ?_
 exact .m (fun k => k.fx 9 ce) <| .t (fun _ w hn k => ⟨_, v_bin rfl (k.eq1 0 42 rfl) rfl (fun _ => rfl) (n_add (by omega) (IntWalk.i64_in _ (by omega))), rfl⟩) <| .off .nil
 refine aftI bC c3 c2 fun cf hY bD c4 c5 gV au => ?_
 have hZ := au.fx 9 ce
 have fu := au.fx 0 fo
 have fv := au.fx 1 fp
 have fw := au.fx 5 fq
 have fy := au.fx 6 fr
 have fz := au.fx 7 fs
 have fA := au.fx 8 ft
 have ch := au.ge 1 43 rfl
 refine st_take rfl rfl (y_assign (v := iv ((jj + 1 : Nat) : Int)) rfl ch) rfl ?_
 obtain ⟨fB, ah⟩ : ∃ a', a' = cf.put (some 9) (iv ((jj + 1 : Nat) : Int)) := ⟨_, rfl⟩
 have c6 := pz ah bD
 have c7 := pd ah c4
 have fC := pn ah fu (by decide)
 have fD := pn ah fv (by decide)
 have fE := pn ah fw (by decide)
 have fF := pn ah fy (by decide)
 have fG := pn ah fz (by decide)
 have fH := pn ah fA (by decide)
 have h1 := pn ah ch (by decide)
 have fI : fB.eval (.tmp 9) = iv ((jj + 1 : Nat) : Int) := by rw [ah]; exact put_same _ _ _ (by rw [bD]; decide)
 show stepsTo _ _ _ _ _ (cf.put (some 9) (iv ((jj + 1 : Nat) : Int))) _
 rw [← ah]
 refine st_nil ?_
 refine then_n ?_
 exact ⟨_, ⟨jj + 1, rfl, c6, c7, c5, (fH.trans (congrArg Value.bool (by rw [has_up (by omega), ← Bool.or_assoc]; simp only [aO, bsm]))), (fI.trans (congrArg (Value.int .i64) (by omega))), fC, fD, fE, fF, fG, (by omega)⟩, (by omega)⟩
 have b6 := oF aN
 have c8 := hB b4 aN
 refine wp_cond_false c8 ?_
 refine wp_exit ?_
 exact cK _ _ ⟨aM, a5, a6, (bb.trans (congrArg Value.bool (has_end (by omega)))), be, a7, bf, bg, a8⟩
 intro h2 aA
 rcases bc (dgtN (u.getD i 0)) with ac | ac
 have hb := hu.at16 i
 refine wp_g0 (.replicate 19 true) [] 61
   [ve (.int .u16 ((u.getD i 0 : Nat) : Int)), vT, vT, vU, vU, vU, vU, vU, vU, vT, vT, vU, vU, vU, vU, vU, vU, vT, vT] ai (.eq (.eq (.eq (.eq (.eq (.eq (.eq (.eq (.eq (.eq (.eq (.eq (.eq (.eq (.eq (.eq (.eq (.eq (.eq (.nil)))))))))))))))))))) ?_ ?_
 exact .m (fun k => k.fx 7 ab) <| .o1 (ck rfl rfl rfl (fun _ w hn k => ⟨#[.int .u16 ((u.getD i 0 : Nat) : Int)], args1 (k.eq1 0 20 rfl), fun _ => by kernel_rfl, rdigit_c (u.getD i 0) _ (by omega)⟩) fun _ => congrArg Value.bool ac) <| .m (fun k => k.eq1 1 21 rfl) <| .s (fun k => k.eq1 2 22 rfl) <| .s (fun k => k.eq1 2 22 rfl) <| .s (fun k => k.eq1 2 22 rfl) <| .o1 (su rfl rfl rfl (fun _ _ _ k => k.eq1 5 25 rfl) (fun _ => rfl)) <| .o1 (su rfl rfl rfl (fun _ _ _ k => k.eq1 5 25 rfl) (fun _ => rfl)) <| .s (fun k => k.eq1 2 22 rfl) <| .t (fun _ w hn k => ⟨_, v_pickT rfl (k.eq1 2 22 rfl) rfl, rfl⟩) <| .m (fun k => k.eq1 9 29 rfl) <| .s (fun k => k.eq1 10 30 rfl) <| .s (fun k => k.eq1 10 30 rfl) <| .s (fun k => k.eq1 10 30 rfl) <| .o1 (su rfl rfl rfl (fun _ _ _ k => k.eq1 13 33 rfl) (fun _ => rfl)) <| .o1 (su rfl rfl rfl (fun _ _ _ k => k.eq1 13 33 rfl) (fun _ => rfl)) <| .s (fun k => k.eq1 10 30 rfl) <| .t (fun _ w hn k => ⟨_, v_pickT rfl (k.eq1 10 30 rfl) rfl, rfl⟩) <| .a (fun k => k.eq1 17 37 rfl) .nil
 refine aftI ai aP aQ fun h3 h4 c9 da db gW aB => ?_
 have fJ := aB.fx 5 aW
 have fK := aB.fx 6 aX
 have fL := aB.fx 0 aY
 have fM := aB.fx 1 aZ
 have fN := aB.fx 7 ab
 have fO := aB.ge 18 8 rfl
 refine st_nil ?_
 exact aA _ _ ⟨c9, da, db, (fO.trans (congrArg Value.bool (by unfold okbN; simp only [ac, bsm]))), fL, fM, fJ, fK, fN⟩
 rcases bc (decide (((u.getD i 0 : Nat) : Int) < 97)) with ad | ad
 have ci := oT ad
 rcases bc (decide (((u.getD i 0 : Nat) : Int) < 65)) with aw | aw
 have cj := oT aw
 have hb := hu.at16 i
 refine wp_g0 (.replicate 19 true) [] 61
   [ve (.int .u16 ((u.getD i 0 : Nat) : Int)), vF, vF, ve (.int .u16 ((u.getD i 0 : Nat) : Int)), vF, vF, vU, vU, vF, vF, vF, ve (.int .u16 ((u.getD i 0 : Nat) : Int)), vF, vF, vU, vU, vF, vF, vF] ai (.eq (.eq (.eq (.eq (.eq (.eq (.eq (.eq (.eq (.eq (.eq (.eq (.eq (.eq (.eq (.eq (.eq (.eq (.eq (.nil)))))))))))))))))))) ?_ ?_
 exact .m (fun k => k.fx 7 ab) <| .o1 (ck rfl rfl rfl (fun _ w hn k => ⟨#[.int .u16 ((u.getD i 0 : Nat) : Int)], args1 (k.eq1 0 20 rfl), fun _ => by kernel_rfl, rdigit_c (u.getD i 0) _ (by omega)⟩) fun _ => congrArg Value.bool ac) <| .m (fun k => k.eq1 1 21 rfl) <| .gm (fun k => k.eq1 2 22 rfl) (fun k => k.fx 7 ab) <| .g (fun k => k.eq1 2 22 rfl) (fun _ w hn k => ⟨_, v_bin rfl (k.eq1 3 23 rfl) rfl (fun _ => rfl) (r_geqK ad), rfl⟩) <| .gm (fun k => k.eq1 2 22 rfl) (fun k => k.eq1 4 24 rfl) <| .s (fun k => k.eq1 5 25 rfl) <| .s (fun k => k.eq1 5 25 rfl) <| .g (fun k => k.eq1 2 22 rfl) (fun _ w hn k => ⟨_, v_pickF rfl (k.eq1 5 25 rfl) rfl, rfl⟩) <| .t (fun _ w hn k => ⟨_, v_pickF rfl (k.eq1 2 22 rfl) (k.eq1 8 28 rfl), rfl⟩) <| .m (fun k => k.eq1 9 29 rfl) <| .gm (fun k => k.eq1 10 30 rfl) (fun k => k.fx 7 ab) <| .g (fun k => k.eq1 10 30 rfl) (fun _ w hn k => ⟨_, v_bin rfl (k.eq1 11 31 rfl) rfl (fun _ => rfl) (r_geqK aw), rfl⟩) <| .gm (fun k => k.eq1 10 30 rfl) (fun k => k.eq1 12 32 rfl) <| .s (fun k => k.eq1 13 33 rfl) <| .s (fun k => k.eq1 13 33 rfl) <| .g (fun k => k.eq1 10 30 rfl) (fun _ w hn k => ⟨_, v_pickF rfl (k.eq1 13 33 rfl) rfl, rfl⟩) <| .t (fun _ w hn k => ⟨_, v_pickF rfl (k.eq1 10 30 rfl) (k.eq1 16 36 rfl), rfl⟩) <| .a (fun k => k.eq1 17 37 rfl) .nil
 refine aftI ai aP aQ fun h5 h6 dc dd de gX aC => ?_
 have fP := aC.fx 5 aW
 have fQ := aC.fx 6 aX
 have fR := aC.fx 0 aY
 have fS := aC.fx 1 aZ
 have fT := aC.fx 7 ab
 have fU := aC.ge 18 8 rfl
 refine st_nil ?_
 exact aA _ _ ⟨dc, dd, de, (fU.trans (congrArg Value.bool (by unfold okbN; simp only [ac, ad, aw, bsm]))), fR, fS, fP, fQ, fT⟩
 have cj := oF aw
 have hb := hu.at16 i
 refine wp_g0 (.replicate 19 true) [] 61
   [ve (.int .u16 ((u.getD i 0 : Nat) : Int)), vF, vF, ve (.int .u16 ((u.getD i 0 : Nat) : Int)), vF, vF, vU, vU, vF, vF, vF, ve (.int .u16 ((u.getD i 0 : Nat) : Int)), vT, vT, ve (.int .u16 ((u.getD i 0 : Nat) : Int)), ve (.bool (decide (((u.getD i 0 : Nat) : Int) ≤ 70))), ve (.bool (decide (((u.getD i 0 : Nat) : Int) ≤ 70))), ve (.bool (decide (((u.getD i 0 : Nat) : Int) ≤ 70))), ve (.bool (decide (((u.getD i 0 : Nat) : Int) ≤ 70)))] ai (.eq (.eq (.eq (.eq (.eq (.eq (.eq (.eq (.eq (.eq (.eq (.eq (.eq (.eq (.eq (.eq (.eq (.eq (.eq (.nil)))))))))))))))))))) ?_ ?_
 exact .m (fun k => k.fx 7 ab) <| .o1 (ck rfl rfl rfl (fun _ w hn k => ⟨#[.int .u16 ((u.getD i 0 : Nat) : Int)], args1 (k.eq1 0 20 rfl), fun _ => by kernel_rfl, rdigit_c (u.getD i 0) _ (by omega)⟩) fun _ => congrArg Value.bool ac) <| .m (fun k => k.eq1 1 21 rfl) <| .gm (fun k => k.eq1 2 22 rfl) (fun k => k.fx 7 ab) <| .g (fun k => k.eq1 2 22 rfl) (fun _ w hn k => ⟨_, v_bin rfl (k.eq1 3 23 rfl) rfl (fun _ => rfl) (r_geqK ad), rfl⟩) <| .gm (fun k => k.eq1 2 22 rfl) (fun k => k.eq1 4 24 rfl) <| .s (fun k => k.eq1 5 25 rfl) <| .s (fun k => k.eq1 5 25 rfl) <| .g (fun k => k.eq1 2 22 rfl) (fun _ w hn k => ⟨_, v_pickF rfl (k.eq1 5 25 rfl) rfl, rfl⟩) <| .t (fun _ w hn k => ⟨_, v_pickF rfl (k.eq1 2 22 rfl) (k.eq1 8 28 rfl), rfl⟩) <| .m (fun k => k.eq1 9 29 rfl) <| .gm (fun k => k.eq1 10 30 rfl) (fun k => k.fx 7 ab) <| .g (fun k => k.eq1 10 30 rfl) (fun _ w hn k => ⟨_, v_bin rfl (k.eq1 11 31 rfl) rfl (fun _ => rfl) (r_geqK aw), rfl⟩) <| .gm (fun k => k.eq1 10 30 rfl) (fun k => k.eq1 12 32 rfl) <| .gm (fun k => k.eq1 13 33 rfl) (fun k => k.fx 7 ab) <| .g (fun k => k.eq1 13 33 rfl) (fun _ w hn k => ⟨_, v_bin rfl (k.eq1 14 34 rfl) rfl (fun _ => rfl) (r_leqK rfl), rfl⟩) <| .g (fun k => k.eq1 10 30 rfl) (fun _ w hn k => ⟨_, v_pickT rfl (k.eq1 13 33 rfl) (k.eq1 15 35 rfl), rfl⟩) <| .t (fun _ w hn k => ⟨_, v_pickF rfl (k.eq1 10 30 rfl) (k.eq1 16 36 rfl), rfl⟩) <| .a (fun k => k.eq1 17 37 rfl) .nil
 refine aftI ai aP aQ fun h7 ia df dg dh gY aD => ?_
 have fV := aD.fx 5 aW
 have fW := aD.fx 6 aX
 have fX := aD.fx 0 aY
 have fY := aD.fx 1 aZ
 have fZ := aD.fx 7 ab
 have f0 := aD.ge 18 8 rfl
 refine st_nil ?_
 exact aA _ _ ⟨df, dg, dh, (f0.trans (congrArg Value.bool (by unfold okbN; simp only [ac, ad, aw, bsm]))), fX, fY, fV, fW, fZ⟩
 have ci := oF ad
 rcases bc (decide (((u.getD i 0 : Nat) : Int) ≤ 102)) with aj | aj
 have cl := oT aj
 have hb := hu.at16 i
 refine wp_g0 (.replicate 19 true) [] 61
   [ve (.int .u16 ((u.getD i 0 : Nat) : Int)), vF, vF, ve (.int .u16 ((u.getD i 0 : Nat) : Int)), vT, vT, ve (.int .u16 ((u.getD i 0 : Nat) : Int)), vT, vT, vT, vT, vU, vU, vU, vU, vU, vU, vT, vT] ai (.eq (.eq (.eq (.eq (.eq (.eq (.eq (.eq (.eq (.eq (.eq (.eq (.eq (.eq (.eq (.eq (.eq (.eq (.eq (.nil)))))))))))))))))))) ?_ ?_
 exact .m (fun k => k.fx 7 ab) <| .o1 (ck rfl rfl rfl (fun _ w hn k => ⟨#[.int .u16 ((u.getD i 0 : Nat) : Int)], args1 (k.eq1 0 20 rfl), fun _ => by kernel_rfl, rdigit_c (u.getD i 0) _ (by omega)⟩) fun _ => congrArg Value.bool ac) <| .m (fun k => k.eq1 1 21 rfl) <| .gm (fun k => k.eq1 2 22 rfl) (fun k => k.fx 7 ab) <| .g (fun k => k.eq1 2 22 rfl) (fun _ w hn k => ⟨_, v_bin rfl (k.eq1 3 23 rfl) rfl (fun _ => rfl) (r_geqK ad), rfl⟩) <| .gm (fun k => k.eq1 2 22 rfl) (fun k => k.eq1 4 24 rfl) <| .gm (fun k => k.eq1 5 25 rfl) (fun k => k.fx 7 ab) <| .g (fun k => k.eq1 5 25 rfl) (fun _ w hn k => ⟨_, v_bin rfl (k.eq1 6 26 rfl) rfl (fun _ => rfl) (r_leqK aj), rfl⟩) <| .g (fun k => k.eq1 2 22 rfl) (fun _ w hn k => ⟨_, v_pickT rfl (k.eq1 5 25 rfl) (k.eq1 7 27 rfl), rfl⟩) <| .t (fun _ w hn k => ⟨_, v_pickF rfl (k.eq1 2 22 rfl) (k.eq1 8 28 rfl), rfl⟩) <| .m (fun k => k.eq1 9 29 rfl) <| .s (fun k => k.eq1 10 30 rfl) <| .s (fun k => k.eq1 10 30 rfl) <| .s (fun k => k.eq1 10 30 rfl) <| .o1 (su rfl rfl rfl (fun _ _ _ k => k.eq1 13 33 rfl) (fun _ => rfl)) <| .o1 (su rfl rfl rfl (fun _ _ _ k => k.eq1 13 33 rfl) (fun _ => rfl)) <| .s (fun k => k.eq1 10 30 rfl) <| .t (fun _ w hn k => ⟨_, v_pickT rfl (k.eq1 10 30 rfl) rfl, rfl⟩) <| .a (fun k => k.eq1 17 37 rfl) .nil
 refine aftI ai aP aQ fun ib ic di dj dk gZ aE => ?_
 have f1 := aE.fx 5 aW
 have f2 := aE.fx 6 aX
 have f3 := aE.fx 0 aY
 have f4 := aE.fx 1 aZ
 have f5 := aE.fx 7 ab
 have f6 := aE.ge 18 8 rfl
 refine st_nil ?_
 exact aA _ _ ⟨di, dj, dk, (f6.trans (congrArg Value.bool (by unfold okbN; simp only [ac, ad, aj, bsm]))), f3, f4, f1, f2, f5⟩
 have cl := oF aj
 rcases bc (decide (((u.getD i 0 : Nat) : Int) < 65)) with ax | ax
 have cm := oT ax
 have hb := hu.at16 i
 refine wp_g0 (.replicate 19 true) [] 61
   [ve (.int .u16 ((u.getD i 0 : Nat) : Int)), vF, vF, ve (.int .u16 ((u.getD i 0 : Nat) : Int)), vT, vT, ve (.int .u16 ((u.getD i 0 : Nat) : Int)), vF, vF, vF, vF, ve (.int .u16 ((u.getD i 0 : Nat) : Int)), vF, vF, vU, vU, vF, vF, vF] ai (.eq (.eq (.eq (.eq (.eq (.eq (.eq (.eq (.eq (.eq (.eq (.eq (.eq (.eq (.eq (.eq (.eq (.eq (.eq (.nil)))))))))))))))))))) ?_ ?_
 exact .m (fun k => k.fx 7 ab) <| .o1 (ck rfl rfl rfl (fun _ w hn k => ⟨#[.int .u16 ((u.getD i 0 : Nat) : Int)], args1 (k.eq1 0 20 rfl), fun _ => by kernel_rfl, rdigit_c (u.getD i 0) _ (by omega)⟩) fun _ => congrArg Value.bool ac) <| .m (fun k => k.eq1 1 21 rfl) <| .gm (fun k => k.eq1 2 22 rfl) (fun k => k.fx 7 ab) <| .g (fun k => k.eq1 2 22 rfl) (fun _ w hn k => ⟨_, v_bin rfl (k.eq1 3 23 rfl) rfl (fun _ => rfl) (r_geqK ad), rfl⟩) <| .gm (fun k => k.eq1 2 22 rfl) (fun k => k.eq1 4 24 rfl) <| .gm (fun k => k.eq1 5 25 rfl) (fun k => k.fx 7 ab) <| .g (fun k => k.eq1 5 25 rfl) (fun _ w hn k => ⟨_, v_bin rfl (k.eq1 6 26 rfl) rfl (fun _ => rfl) (r_leqK aj), rfl⟩) <| .g (fun k => k.eq1 2 22 rfl) (fun _ w hn k => ⟨_, v_pickT rfl (k.eq1 5 25 rfl) (k.eq1 7 27 rfl), rfl⟩) <| .t (fun _ w hn k => ⟨_, v_pickF rfl (k.eq1 2 22 rfl) (k.eq1 8 28 rfl), rfl⟩) <| .m (fun k => k.eq1 9 29 rfl) <| .gm (fun k => k.eq1 10 30 rfl) (fun k => k.fx 7 ab) <| .g (fun k => k.eq1 10 30 rfl) (fun _ w hn k => ⟨_, v_bin rfl (k.eq1 11 31 rfl) rfl (fun _ => rfl) (r_geqK ax), rfl⟩) <| .gm (fun k => k.eq1 10 30 rfl) (fun k => k.eq1 12 32 rfl) <| .s (fun k => k.eq1 13 33 rfl) <| .s (fun k => k.eq1 13 33 rfl) <| .g (fun k => k.eq1 10 30 rfl) (fun _ w hn k => ⟨_, v_pickF rfl (k.eq1 13 33 rfl) rfl, rfl⟩) <| .t (fun _ w hn k => ⟨_, v_pickF rfl (k.eq1 10 30 rfl) (k.eq1 16 36 rfl), rfl⟩) <| .a (fun k => k.eq1 17 37 rfl) .nil
 refine aftI ai aP aQ fun id ie dl dm dn g0 aF => ?_
 have f7 := aF.fx 5 aW
 have f8 := aF.fx 6 aX
 have f9 := aF.fx 0 aY
 have ga := aF.fx 1 aZ
 have gb := aF.fx 7 ab
 have gc := aF.ge 18 8 rfl
 refine st_nil ?_
 exact aA _ _ ⟨dl, dm, dn, (gc.trans (congrArg Value.bool (by unfold okbN; simp only [ac, ad, aj, ax, bsm]))), f9, ga, f7, f8, gb⟩
 have cm := oF ax
 have hb := hu.at16 i
 refine wp_g0 (.replicate 19 true) [] 61
   [ve (.int .u16 ((u.getD i 0 : Nat) : Int)), vF, vF, ve (.int .u16 ((u.getD i 0 : Nat) : Int)), vT, vT, ve (.int .u16 ((u.getD i 0 : Nat) : Int)), vF, vF, vF, vF, ve (.int .u16 ((u.getD i 0 : Nat) : Int)), vT, vT, ve (.int .u16 ((u.getD i 0 : Nat) : Int)), ve (.bool (decide (((u.getD i 0 : Nat) : Int) ≤ 70))), ve (.bool (decide (((u.getD i 0 : Nat) : Int) ≤ 70))), ve (.bool (decide (((u.getD i 0 : Nat) : Int) ≤ 70))), ve (.bool (decide (((u.getD i 0 : Nat) : Int) ≤ 70)))] ai (.eq (.eq (.eq (.eq (.eq (.eq (.eq (.eq (.eq (.eq (.eq (.eq (.eq (.eq (.eq (.eq (.eq (.eq (.eq (.nil)))))))))))))))))))) ?_ ?_
 exact .m (fun k => k.fx 7 ab) <| .o1 (ck rfl rfl rfl (fun _ w hn k => ⟨#[.int .u16 ((u.getD i 0 : Nat) : Int)], args1 (k.eq1 0 20 rfl), fun _ => by kernel_rfl, rdigit_c (u.getD i 0) _ (by omega)⟩) fun _ => congrArg Value.bool ac) <| .m (fun k => k.eq1 1 21 rfl) <| .gm (fun k => k.eq1 2 22 rfl) (fun k => k.fx 7 ab) <| .g (fun k => k.eq1 2 22 rfl) (fun _ w hn k => ⟨_, v_bin rfl (k.eq1 3 23 rfl) rfl (fun _ => rfl) (r_geqK ad), rfl⟩) <| .gm (fun k => k.eq1 2 22 rfl) (fun k => k.eq1 4 24 rfl) <| .gm (fun k => k.eq1 5 25 rfl) (fun k => k.fx 7 ab) <| .g (fun k => k.eq1 5 25 rfl) (fun _ w hn k => ⟨_, v_bin rfl (k.eq1 6 26 rfl) rfl (fun _ => rfl) (r_leqK aj), rfl⟩) <| .g (fun k => k.eq1 2 22 rfl) (fun _ w hn k => ⟨_, v_pickT rfl (k.eq1 5 25 rfl) (k.eq1 7 27 rfl), rfl⟩) <| .t (fun _ w hn k => ⟨_, v_pickF rfl (k.eq1 2 22 rfl) (k.eq1 8 28 rfl), rfl⟩) <| .m (fun k => k.eq1 9 29 rfl) <| .gm (fun k => k.eq1 10 30 rfl) (fun k => k.fx 7 ab) <| .g (fun k => k.eq1 10 30 rfl) (fun _ w hn k => ⟨_, v_bin rfl (k.eq1 11 31 rfl) rfl (fun _ => rfl) (r_geqK ax), rfl⟩) <| .gm (fun k => k.eq1 10 30 rfl) (fun k => k.eq1 12 32 rfl) <| .gm (fun k => k.eq1 13 33 rfl) (fun k => k.fx 7 ab) <| .g (fun k => k.eq1 13 33 rfl) (fun _ w hn k => ⟨_, v_bin rfl (k.eq1 14 34 rfl) rfl (fun _ => rfl) (r_leqK rfl), rfl⟩) <| .g (fun k => k.eq1 10 30 rfl) (fun _ w hn k => ⟨_, v_pickT rfl (k.eq1 13 33 rfl) (k.eq1 15 35 rfl), rfl⟩) <| .t (fun _ w hn k => ⟨_, v_pickF rfl (k.eq1 10 30 rfl) (k.eq1 16 36 rfl), rfl⟩) <| .a (fun k => k.eq1 17 37 rfl) .nil
 refine aftI ai aP aQ fun ig ih dp dq dr g1 aG => ?_
 have gd := aG.fx 5 aW
 have gf := aG.fx 6 aX
 have gg := aG.fx 0 aY
 have gh := aG.fx 1 aZ
 have gi := aG.fx 7 ab
 have gj := aG.ge 18 8 rfl
 refine st_nil ?_
 exact aA _ _ ⟨dp, dq, dr, (gj.trans (congrArg Value.bool (by unfold okbN; simp only [ac, ad, aj, ax, bsm]))), gg, gh, gd, gf, gi⟩
 have cn := oF aU
 have ds := hB dE aU
 refine wp_cond_false ds ?_
 refine wp_exit ?_
 refine dP _ _ ?_
 refine wp_seq_k fun ii dt => ?_
 refine wp_g0 [true, true] [] 61
   [ve (.bool ((u.take i).any dgtN)), ve (.bool ((u.take i).any dgtN))] a3 (.eq (.eq (.nil))) ?_ ?_
 exact .m (fun k => k.fx 5 dB) <| .a (fun k => k.eq1 0 60 rfl) .nil
 refine aftI a3 bG ba fun ij ik g2 du dv g3 dw => ?_
 have gk := dw.ge 1 4 rfl
 refine st_nil (dt _ _ ?_)
 refine wp_ret (ret_k du (v := .bool ((u.take i).any dgtN)) (res_t rfl gk _) ?_)
 exact ⟨by rw [show numericN s u = ((u.take i).any dgtN) from by unfold numericN; rw [List.take_of_length_le (by omega)] at hall; rw [hall, Bool.true_and, List.take_of_length_le (by omega)]], dv⟩
theorem rnumber3_c0 (Au : Option Addr) (u : List Nat) (cu : Nat) (w : World) (hru : SRow w .u16 Au u cu) (hu : U16s u) : Calls Try.prog 81 #[sv Au u cu] w (IsRet (.tuple #[nv ((numR u).1), .bool ((numR u).2)]) w) := by
 refine enter_abs Try.func81 rfl fun a0 bd im hp => ?_
 have bd : a0.tmps.size = 53 := bd
 have gq : New w w := Upd.refl _ _
 have hp0 : a0.eval (.tmp 0) = sv Au u cu := hp 0 _ rfl
 have hut := hu.trim
 have hb := hut.at16 0
 refine wp_seq_k fun K1 io => ?_
 refine wp_g [true, true] [] [] 53
   [IsNew w 23 [iv 0, iv 0], vF]
   [0] (newsCons (fun v w h => IsNew.old h) newsNil) bd (.nw (.eq (.nil))) ?_ (fun i h => by cases h) ?_
 exact .o2 (step_allocN (cs := [iv 0, iv 0]) (t := 23) rfl (noG rfl) (fun _ w hn k => rfl) (fun q _ hq hb => ⟨q, rfl, hq, hb⟩)) <| .t (fun _ w hn k => ⟨_, v_assign rfl rfl, rfl⟩) .nil
 refine aftI bd im gq fun a2 w3 gr ip cm kK gs => ?_
 have h8 := gs.fx 0 hp0
 obtain ⟨cn, h9, gD, gE⟩ : IsNew _ _ _ _ _ := gs.got 0 2 rfl (by kernel_rfl)
 have jn := Nat.le_trans gq.size gD
 refine st_nil (io _ _ (wp_seq_k fun kL gF => ?_))
 refine wp_g0 [true, true, true] [] 53
   [ve (sv Au u cu),
    (RP .u16 (trimN u)),
    (RP .u16 (trimN u))] gr (.eq (.cons (fun _ _ _ n ⟨_, _, e, h⟩ => ⟨_, _, e, h.new_ n⟩) (.cons (fun v W W' hn ⟨A9, iq, he, h0⟩ => ⟨A9, iq, he, h0.new_ hn⟩) (.nil)))) ?_ ?_
 refine .m (fun k => k.fx 0 h8) ?_
 refine .o1 (tkC rfl (noG rfl) rfl fun _ w hn k => (by
       refine ⟨#[sv Au u cu], _, args1 (k.eq1 0 9 rfl), fun w => by kernel_rfl, rtrim_c _ u _ _ (hru.new_ (cm.transNew hn)) hu, ?_⟩
       rintro e w' ⟨A1, c2, rfl, hmo0, hm⟩
       exact ⟨_, rfl, hm, ⟨A1, c2, rfl, hmo0⟩⟩)) ?_
 refine .o1 (tk rfl rfl fun _ w hn k => (by
       obtain ⟨A5, c6, e7, ir⟩ : (RP .u16 (trimN u)) _ _ := k.dep 1 10 (by kernel_rfl) (by kernel_rfl)
       exact ⟨_, v_assign rfl e7, ⟨A5, c6, rfl, ir⟩⟩)) ?_
 exact .nil
 refine aftI gr ip cm fun it kM co gG gH gI cp => ?_
 have iu := cp.fx 2 h9
 obtain ⟨ah, ad, be, gJ⟩ : (RP .u16 (trimN u)) _ _ := cp.got 2 4 rfl (by kernel_rfl)
 have be : it.eval (.tmp 4) = sv ah (trimN u) ad := be
 have gK := gE.new_ gI
 refine st_nil (gF _ _ (wp_seq_k fun kN gL => ?_))
 refine wp_seq_k fun kO gM => ?_
 refine wp_g0 [true, true, true] [] 53
   [ve (sv ah (trimN u) ad), ve (iv ((trimN u).length : Int)), ve (.bool (decide (((trimN u).length : Int) = 0)))] co (.eq (.eq (.eq (.nil)))) ?_ ?_
 exact .m (fun k => k.fx 4 be) <| .t (fun _ w hn k => ⟨_, v_lenR rfl elU (k.eq1 0 11 rfl), rfl⟩) <| .t (fun _ w hn k => ⟨_, v_bin rfl (k.eq1 1 12 rfl) rfl (fun _ => rfl) (r_eql rfl), rfl⟩) .nil
 refine aftI co gG gH fun kP kQ aN cq cr ct a4 => ?_
 have gt := a4.fx 2 iu
 have gu := a4.fx 4 be
 have gv := a4.ge 2 13 rfl
 have cv := gK.new_ ct
 have cw := gJ.new_ ct
 refine st_nil (gM _ _ ?_)
 rcases bc (decide (((trimN u).length : Int) = 0)) with ab | ab
 have dN := oT ab
 have gN := hB gv ab
 refine wp_cond_true gN ?_
 refine wp_seq_k fun kR gO => ?_
 refine wp_g0 [true, false, false] [(1, false), (2, true)] 53
   [ve (nv (Nm.mk 0 0)), vt, vt] aN (.eq (.tt (.tt (.nil)))) ?_ ?_
 exact .t (fun _ w hn k => ⟨_, v_build (ps := []) rfl parts0 (by kernel_rfl), rfl⟩) <| .off <| .off .nil
 refine aftI aN cq cr fun gw kS cx gP gQ gR cy => ?_
 have gx := cy.fx 2 gt
 have gy := cy.ge 0 14 rfl
 have gS := cv.new_ gR
 obtain ⟨kT, -, dO, gT, gU, jo⟩ := s_two (v0 := iv 0) (v1 := iv 0) Try.sizeOf23 rfl rfl rfl gS
 refine st_act rfl rfl fun kU gV => a_store' rfl gx gy dO (gV _ _ trivial ?_)
 have gW := gQ.trans gU (fun _ h b => by subst b; omega)
 refine st_take rfl rfl (y_assign (v := .bool true) rfl rfl) rfl ?_
 obtain ⟨iw, az⟩ : ∃ a', a' = gw.put (some 3) (.bool true) := ⟨_, rfl⟩
 have jp := pz az cx
 have gX := pd az gP
 have ix := pn az gx (by decide)
 have kV := pn az gy (by decide)
 have iy : iw.eval (.tmp 3) = .bool true := by rw [az]; exact put_same _ _ _ (by rw [cx]; decide)
 show stepsTo _ _ _ _ _ (gw.put (some 3) (.bool true)) _
 rw [← az]
 refine st_nil (gO _ _ ?_)
 refine wp_ret (ret_k gX (v := .tuple #[nv (Nm.mk 0 0), .bool true]) (res_ct rfl ix iy (l_two Try.isAgg23 Try.sizeOf23 gT)) ?_)
 refine ⟨?_, gW⟩
 show Ending.returned (.tuple #[nv (Nm.mk 0 0), .bool true]) = Ending.returned (.tuple #[nv ((numR u).1), .bool ((numR u).2)])
 first | rfl | (simp only [numR, bodyR, ab, bsm] <;> rfl) | (exfalso; omega)
 have dN := oF ab
 have gY := hB gv ab
 refine wp_cond_false gY ?_
 refine wp_skip ?_
 refine gL _ _ ?_
 refine wp_seq_k fun kW gZ => ?_
 refine wp_g0 [true, true, true, true, true] [] 53
   [ve (sv ah (trimN u) ad),
    (EP (.int .u16 (((trimN u).getD 0 0 : Nat) : Int))), ve (.int .u16 (((trimN u).getD 0 0 : Nat) : Int)), ve (.bool (decide ((((trimN u).getD 0 0 : Nat) : Int) = 45))), ve (.bool (decide ((((trimN u).getD 0 0 : Nat) : Int) = 45)))] aN (.eq (.cons (fun _ _ _ n ⟨_, _, e, h⟩ => ⟨_, _, e, h.new_ n⟩) (.eq (.eq (.eq (.nil)))))) ?_ ?_
 refine .m (fun k => k.fx 4 gu) ?_
 refine .o1 (tk rfl rfl fun _ w hn k => (by
       exact x_eaddr (k := .u16) rfl elU (k.eq1 0 15 rfl) rfl (cw.new_ hn) (by omega) fun iB iC hme => ⟨iB, iC, rfl, hme⟩)) ?_
 refine .o1 (tk rfl rfl fun _ w hn k => (by
       obtain ⟨kX, kY, iD, g0⟩ : (EP (.int .u16 (((trimN u).getD 0 0 : Nat) : Int))) _ _ := k.dep 1 16 (by kernel_rfl) (by kernel_rfl)
       exact ⟨_, v_load rfl iD (l_one Try.isAgg66 g0.1), rfl⟩)) ?_
 exact .t (fun _ w hn k => ⟨_, v_bin rfl (k.eq1 2 17 rfl) rfl (fun _ => rfl) (r_eql rfl), rfl⟩) <| .a (fun k => k.eq1 3 18 rfl) .nil
 refine aftI aN cq cr fun kZ k0 cz g1 g2 cA a5 => ?_
 have iE := a5.fx 2 gt
 have gz := a5.fx 4 gu
 have iF := a5.ge 4 5 rfl
 have g3 := cv.new_ cA
 have g4 := cw.new_ cA
 refine st_nil (gZ _ _ (wp_seq_k fun k1 g5 => ?_))
 refine wp_g0 [true, true] [] 53
   [ve (sv ah (trimN u) ad), ve (sv ah (trimN u) ad)] cz (.eq (.eq (.nil))) ?_ ?_
 exact .m (fun k => k.fx 4 gz) <| .a (fun k => k.eq1 0 19 rfl) .nil
 refine aftI cz g1 g2 fun k2 k3 aO cB cC cD aP => ?_
 have gA := aP.fx 2 iE
 have cE := aP.fx 4 gz
 have gB := aP.fx 5 iF
 have gC := aP.ge 1 6 rfl
 have cF := g3.new_ cD
 have a6 := g4.new_ cD
 refine st_nil (g5 _ _ ?_)
 refine wp_seq_j (fun (aa : Act) (ww : World) => ∃ (ng : Bool), ∃ (dd : List Nat), ∃ (A5 : Option Addr), ∃ (c5 : Nat), aa.tmps.size = 53 ∧ aa.defers = [] ∧ New w ww ∧ aa.eval (.tmp 5) = .bool ng ∧ aa.eval (.tmp 6) = sv A5 dd c5 ∧ aa.eval (.tmp 2) = pv cn ∧ aa.eval (.tmp 4) = sv ah (trimN u) ad ∧ Blk ww cn 23 [iv 0, iv 0] ∧ SRow ww .u16 A5 dd c5 ∧ SRow ww .u16 ah (trimN u) ad ∧ (numR u = bodyR (trimN u) dd ng) ∧ (U16s dd)) ?_ ?_
 rintro k4 g6 ⟨ng, dd, A5, c5, bf, dP, bg, g7, g8, g9, ha, bh, dQ, dR, hbody, hdd⟩
 refine wp_seq_k fun jq dS => ?_
 refine wp_g [true, true, false] [] [(2, false)] 53
   [ve (nv (Nm.mk 2 0)), IsNew g6 23 [iv 0, iv 0], vt]
   [1] (newsCons (fun v w h => IsNew.old h) newsNil) bf (.eq (.nw (.tt (.nil)))) ?_ (fun i h => by cases h) ?_
 exact .o1 (ck rfl rfl rfl (fun _ w hn k => ⟨#[], rfl, fun _ => by kernel_rfl, rNaN_c  _ ⟩) fun _ => rfl) <| .o2 (step_allocN (cs := [iv 0, iv 0]) (t := 23) rfl (noG rfl) (fun _ w hn k => rfl) (fun q _ hq hb => ⟨q, rfl, hq, hb⟩)) <| .off .nil
 refine aftI bf dP bg fun jr js bi dT dU aQ ak => ?_
 have hc := ak.fx 5 g7
 have cG := ak.fx 6 g8
 have hd := ak.fx 2 g9
 have hf := ak.fx 4 ha
 have hg := ak.ge 0 29 rfl
 obtain ⟨hh, cH, bj, aR⟩ : IsNew _ _ _ _ _ := ak.got 1 7 rfl (by kernel_rfl)
 have dV := bh.new_ aQ
 have hne128 : cn ≠ hh := by have h1 := bh.lt; have h2 := bj; omega
 have ja := Nat.le_trans bg.size bj
 have dW := dQ.new_ aQ
 have dX := dR.new_ aQ
 obtain ⟨cI, -, cJ, dY, aS, dZ⟩ := s_two (v0 := iv 2) (v1 := iv 0) Try.sizeOf23 rfl rfl rfl aR
 refine st_act rfl rfl fun jt d0 => a_store' rfl cH hg cJ (d0 _ _ trivial ?_)
 have bk := dW.far aR aS (by first | rfl | decide | simp [notK])
 have d1 := dX.far aR aS (by first | rfl | decide | simp [notK])
 have d2 := dZ _ _ _ (hne128) dV
 have d3 := dU.trans aS (fun _ h b => by subst b; omega)
 refine st_nil (dS _ _ (wp_seq_k fun ju bl => ?_))
 refine wp_block ?_
 refine wp_seq_k fun jv d4 => ?_
 refine wp_g0 [true, true, true, true] [] 53
   [ve (sv A5 dd c5),
    (OP cI.heap.size 66 .u16 (asc ⟨#[73, 110, 102, 105, 110, 105, 116, 121]⟩)), ve (.bool (decide (dd = (asc ⟨#[73, 110, 102, 105, 110, 105, 116, 121]⟩)))), ve (.bool (decide (dd = (asc ⟨#[73, 110, 102, 105, 110, 105, 116, 121]⟩))))] bi (.eq (.cons (fun _ _ _ n ⟨_, _, e, h⟩ => ⟨_, _, e, h.new_ n⟩) (.eq (.eq (.nil))))) ?_ ?_
 refine .m (fun k => k.fx 6 cG) ?_
 refine .o1 (tkC rfl (noG rfl) rfl fun _ w hn k => (by
       refine ⟨#[.string ⟨#[73, 110, 102, 105, 110, 105, 116, 121]⟩], _, args1 rfl, fun w => by kernel_rfl, rascii_c ⟨#[73, 110, 102, 105, 110, 105, 116, 121]⟩ _ (by first | omega | (show (_ : Nat) ≤ _; decide)), ?_⟩
       rintro e w' ⟨iI, iJ, rfl, hmo0, hm⟩
       exact ⟨_, rfl, hm, ⟨iI, iJ, rfl, (hmo0.more hn.size)⟩⟩)) ?_
 refine .o1 (tkC rfl (noG rfl) rfl fun _ w hn k => (by
       obtain ⟨iK, iL, iM, hi⟩ : (OP cI.heap.size 66 .u16 (asc ⟨#[73, 110, 102, 105, 110, 105, 116, 121]⟩)) _ _ := k.dep 1 36 (by kernel_rfl) (by kernel_rfl)
       refine ⟨#[sv A5 dd c5, sv iK (asc ⟨#[73, 110, 102, 105, 110, 105, 116, 121]⟩) iL], _, args2 (k.eq1 0 35 rfl) iM, fun w => by kernel_rfl, rlist16_c _ dd _ _ (asc ⟨#[73, 110, 102, 105, 110, 105, 116, 121]⟩) _ _ (bk.new_ hn) hi.row, ?_⟩
       rintro e w' ⟨rfl, hm⟩
       exact ⟨_, rfl, hm, rfl⟩)) ?_
 exact .a (fun k => k.eq1 2 37 rfl) .nil
 refine aftI bi dT d3 fun jw jx aA bm bn aB al => ?_
 have cK := al.fx 5 hc
 have cL := al.fx 6 cG
 have cM := al.fx 2 hd
 have hj := al.fx 4 hf
 have cN := al.fx 7 cH
 have cO := al.ge 3 34 rfl
 have bo := d2.new_ aB
 have bp := dY.new_ aB
 have bq := bk.new_ aB
 have d5 := d1.new_ aB
 refine st_nil (d4 _ _ ?_)
 rcases bc (decide (dd = (asc ⟨#[73, 110, 102, 105, 110, 105, 116, 121]⟩))) with ac | ac
 have cP := oT ac
 have d6 := hB cO ac
 refine wp_cond_true d6 ?_
 refine wp_g0 [true, false] [(1, false)] 53
   [ve (nv (Nm.mk 3 0)), vt] aA (.eq (.tt (.nil))) ?_ ?_
 exact .t (fun _ w hn k => ⟨_, v_build (ps := [(0, iv 3)]) rfl (parts1 rfl) (by kernel_rfl), rfl⟩) <| .off .nil
 refine aftI aA bm bn fun jy jz br d7 d8 bs aC => ?_
 have hl := aC.fx 5 cK
 have ho := aC.fx 2 cM
 have cQ := aC.fx 7 cN
 have hr := aC.ge 0 38 rfl
 have d9 := bo.new_ bs
 have ea := bp.new_ bs
 obtain ⟨jA, -, cR, eb, ec, ed⟩ := s_two (v0 := iv 3) (v1 := iv 0) Try.sizeOf23 rfl rfl rfl ea
 refine st_act rfl rfl fun jB ee => a_store' rfl cQ hr cR (ee _ _ trivial ?_)
 have ef := ed _ _ _ (hne128) d9
 have eg := d8.trans ec (fun _ h b => by subst b; omega)
 refine st_nil (bl _ _ (wp_seq_k fun jC bt => ?_))
 refine wp_seq_k fun jD eh => ?_
 refine wp_g0 [true] [] 53
   [ve (.bool ng)] br (.eq (.nil)) ?_ ?_
 exact .m (fun k => k.fx 5 hl) .nil
 refine aftI br d7 eg fun jE jF aD bu bv bw aT => ?_
 have cS := aT.fx 2 ho
 have a7 := aT.fx 7 cQ
 have cT := aT.ge 0 49 rfl
 have bx := ef.new_ bw
 have aU := eb.new_ bw
 refine st_nil (eh _ _ ?_)
 rcases bc (ng) with au | au
 have ei := hB cT au
 refine wp_cond_true ei ?_
 refine wp_g0 [true, true, false] [(2, false)] 53
   [ve (nv (Nm.mk 3 0)), ve (nv (negM (Nm.mk 3 0))), vt] aD (.eq (.eq (.tt (.nil)))) ?_ ?_
 exact .t (fun _ w hn k => ⟨_, v_load rfl (k.fx 7 a7) (l_two Try.isAgg23 Try.sizeOf23 (aU.new_ hn)), rfl⟩) <| .o1 (ck rfl rfl rfl (fun _ w hn k => ⟨#[nv (Nm.mk 3 0)], args1 (k.eq1 0 50 rfl), fun _ => by kernel_rfl, rneg_c (Nm.mk 3 0) _ ⟩) fun _ => rfl) <| .off .nil
 refine aftI aD bu bv fun jG jH bz ej ek bA aV => ?_
 have hs := aV.fx 2 cS
 have cU := aV.fx 7 a7
 have ht := aV.ge 1 51 rfl
 have el := bx.new_ bA
 have em := aU.new_ bA
 obtain ⟨jI, -, cV, en, eo, ep⟩ := s_two (v0 := iv ((negM (Nm.mk 3 0)).k)) (v1 := iv ((negM (Nm.mk 3 0)).n)) Try.sizeOf23 rfl rfl rfl em
 refine st_act rfl rfl fun jJ er => a_store' rfl cU ht cV (er _ _ trivial ?_)
 have es := ep _ _ _ (hne128) el
 have et := ek.trans eo (fun _ h b => by subst b; omega)
 refine st_nil (bt _ _ (wp_seq_k fun jK eu => ?_))
 refine wp_g0 [true, false, false] [(1, false), (2, true)] 53
   [ve (nv (negM (Nm.mk 3 0))), vt, vt] bz (.eq (.tt (.tt (.nil)))) ?_ ?_
 exact .t (fun _ w hn k => ⟨_, v_load rfl (k.fx 7 cU) (l_two Try.isAgg23 Try.sizeOf23 (en.new_ hn)), rfl⟩) <| .off <| .off .nil
 refine aftI bz ej et fun cW jL bB ev ew ex bC => ?_
 have cX := bC.fx 2 hs
 have cY := bC.ge 0 52 rfl
 have ey := es.new_ ex
 obtain ⟨jM, -, cZ, ez, eA, jb⟩ := s_two (v0 := iv ((negM (Nm.mk 3 0)).k)) (v1 := iv ((negM (Nm.mk 3 0)).n)) Try.sizeOf23 rfl rfl rfl ey
 refine st_act rfl rfl fun jN eB => a_store' rfl cX cY cZ (eB _ _ trivial ?_)
 have eC := ew.trans eA (fun _ h b => by subst b; omega)
 refine st_take rfl rfl (y_assign (v := .bool true) rfl rfl) rfl ?_
 obtain ⟨hv, am⟩ : ∃ a', a' = cW.put (some 3) (.bool true) := ⟨_, rfl⟩
 have jc := pz am bB
 have eD := pd am ev
 have hw := pn am cX (by decide)
 have jO := pn am cY (by decide)
 have hx : hv.eval (.tmp 3) = .bool true := by rw [am]; exact put_same _ _ _ (by rw [bB]; decide)
 show stepsTo _ _ _ _ _ (cW.put (some 3) (.bool true)) _
 rw [← am]
 refine st_nil (eu _ _ ?_)
 refine wp_ret (ret_k eD (v := .tuple #[nv (negM (Nm.mk 3 0)), .bool true]) (res_ct rfl hw hx (l_two Try.isAgg23 Try.sizeOf23 ez)) ?_)
 refine ⟨?_, eC⟩
 show Ending.returned (.tuple #[nv (negM (Nm.mk 3 0)), .bool true]) = Ending.returned (.tuple #[nv ((numR u).1), .bool ((numR u).2)])
 first | rfl | (simp only [hbody, bodyR, ab, ac, au, bsm] <;> rfl) | (exfalso; omega)
 have eE := hB cT au
 refine wp_cond_false eE ?_
 refine wp_skip ?_
 refine bt _ _ ?_
 refine wp_seq_k fun jP eF => ?_
 refine wp_g0 [true, false, false] [(1, false), (2, true)] 53
   [ve (nv (Nm.mk 3 0)), vt, vt] aD (.eq (.tt (.tt (.nil)))) ?_ ?_
 exact .t (fun _ w hn k => ⟨_, v_load rfl (k.fx 7 a7) (l_two Try.isAgg23 Try.sizeOf23 (aU.new_ hn)), rfl⟩) <| .off <| .off .nil
 refine aftI aD bu bv fun c0 jQ bD eG eH eI bE => ?_
 have c1 := bE.fx 2 cS
 have c3 := bE.ge 0 52 rfl
 have eJ := bx.new_ eI
 obtain ⟨jR, -, c7, eK, eL, jd⟩ := s_two (v0 := iv 3) (v1 := iv 0) Try.sizeOf23 rfl rfl rfl eJ
 refine st_act rfl rfl fun jS eM => a_store' rfl c1 c3 c7 (eM _ _ trivial ?_)
 have eN := eH.trans eL (fun _ h b => by subst b; omega)
 refine st_take rfl rfl (y_assign (v := .bool true) rfl rfl) rfl ?_
 obtain ⟨hy, an⟩ : ∃ a', a' = c0.put (some 3) (.bool true) := ⟨_, rfl⟩
 have je := pz an bD
 have eO := pd an eG
 have hz := pn an c1 (by decide)
 have jT := pn an c3 (by decide)
 have hA : hy.eval (.tmp 3) = .bool true := by rw [an]; exact put_same _ _ _ (by rw [bD]; decide)
 show stepsTo _ _ _ _ _ (c0.put (some 3) (.bool true)) _
 rw [← an]
 refine st_nil (eF _ _ ?_)
 refine wp_ret (ret_k eO (v := .tuple #[nv (Nm.mk 3 0), .bool true]) (res_ct rfl hz hA (l_two Try.isAgg23 Try.sizeOf23 eK)) ?_)
 refine ⟨?_, eN⟩
 show Ending.returned (.tuple #[nv (Nm.mk 3 0), .bool true]) = Ending.returned (.tuple #[nv ((numR u).1), .bool ((numR u).2)])
 first | rfl | (simp only [hbody, bodyR, ab, ac, au, bsm] <;> rfl) | (exfalso; omega)
 have cP := oF ac
 have eP := hB cO ac
 refine wp_cond_false eP ?_
 refine wp_seq_k fun jU eQ => ?_
 refine wp_g0 [true, true, true] [] 53
   [ve (sv A5 dd c5), ve (.bool (digitsT dd)), ve (.bool (digitsT dd))] aA (.eq (.eq (.eq (.nil)))) ?_ ?_
 exact .m (fun k => k.fx 6 cL) <| .o1 (ck rfl rfl rfl (fun _ w hn k => ⟨#[sv A5 dd c5], args1 (k.eq1 0 40 rfl), fun _ => by kernel_rfl, rdigits_c _ dd _ _ (bq.new_ hn) hdd⟩) fun _ => rfl) <| .a (fun k => k.eq1 1 41 rfl) .nil
 refine aftI aA bm bn fun jV jW aE bF bG aF ao => ?_
 have hC := ao.fx 5 cK
 have hD := ao.fx 6 cL
 have c8 := ao.fx 2 cM
 have hE := ao.fx 4 hj
 have c9 := ao.fx 7 cN
 have da := ao.ge 2 39 rfl
 have bH := bo.new_ aF
 have bI := bp.new_ aF
 have eR := bq.new_ aF
 have eS := d5.new_ aF
 refine st_nil (eQ _ _ ?_)
 rcases bc (digitsT dd) with ae | ae
 have eT := hB da ae
 refine wp_cond_true eT ?_
 refine wp_seq_k fun jX eU => ?_
 refine wp_g0 [true, true, true] [] 53
   [ve (sv A5 dd c5), ve (iv (wholeR dd 0)), ve (iv (wholeR dd 0))] aE (.eq (.eq (.eq (.nil)))) ?_ ?_
 exact .m (fun k => k.fx 6 hD) <| .o1 (ck rfl rfl rfl (fun _ w hn k => ⟨#[sv A5 dd c5], args1 (k.eq1 0 42 rfl), fun _ => by kernel_rfl, rwhole3_c _ dd _ _ (eR.new_ hn) hdd (digs_of2 ae)⟩) fun _ => rfl) <| .a (fun k => k.eq1 1 43 rfl) .nil
 refine aftI aE bF bG fun jY jZ bJ eV eW bK aG => ?_
 have hF := aG.fx 5 hC
 have hG := aG.fx 2 c8
 have hH := aG.fx 7 c9
 have db := aG.ge 2 8 rfl
 have eX := bH.new_ bK
 have eY := bI.new_ bK
 refine st_nil (eU _ _ (wp_seq_k fun j0 eZ => ?_))
 refine wp_seq_k fun j1 e0 => ?_
 refine wp_g0 [true, true] [] 53
   [ve (iv (wholeR dd 0)), ve (.bool (decide ((wholeR dd 0) < 0)))] bJ (.eq (.eq (.nil))) ?_ ?_
 exact .m (fun k => k.fx 8 db) <| .t (fun _ w hn k => ⟨_, v_bin rfl (k.eq1 0 44 rfl) rfl (fun _ => rfl) (r_lssK rfl), rfl⟩) .nil
 refine aftI bJ eV eW fun j2 j3 aH bL bM bN av => ?_
 have hI := av.fx 5 hF
 have dc := av.fx 2 hG
 have de := av.fx 7 hH
 have hJ := av.fx 8 db
 have df := av.ge 1 45 rfl
 have bO := eX.new_ bN
 have bP := eY.new_ bN
 refine st_nil (e0 _ _ ?_)
 rcases bc (decide ((wholeR dd 0) < 0)) with af | af
 have dg := oT af
 have e1 := hB df af
 refine wp_cond_true e1 ?_
 refine wp_seq_k fun j4 e2 => ?_
 refine wp_g0 [true, false, false] [(1, false), (2, true)] 53
   [ve (nv (Nm.mk 2 0)), vt, vt] aH (.eq (.tt (.tt (.nil)))) ?_ ?_
 exact .t (fun _ w hn k => ⟨_, v_load rfl (k.fx 7 de) (l_two Try.isAgg23 Try.sizeOf23 (bP.new_ hn)), rfl⟩) <| .off <| .off .nil
 refine aftI aH bL bM fun dh j5 bQ e3 e4 e5 bR => ?_
 have di := bR.fx 2 dc
 have dj := bR.ge 0 46 rfl
 have e6 := bO.new_ e5
 obtain ⟨j6, -, dk, e8, e9, jf⟩ := s_two (v0 := iv 2) (v1 := iv 0) Try.sizeOf23 rfl rfl rfl e6
 refine st_act rfl rfl fun j7 fa => a_store' rfl di dj dk (fa _ _ trivial ?_)
 have fb := e4.trans e9 (fun _ h b => by subst b; omega)
 refine st_take rfl rfl (y_assign (v := .bool false) rfl rfl) rfl ?_
 obtain ⟨hK, ap⟩ : ∃ a', a' = dh.put (some 3) (.bool false) := ⟨_, rfl⟩
 have jg := pz ap bQ
 have fc := pd ap e3
 have hL := pn ap di (by decide)
 have j8 := pn ap dj (by decide)
 have hM : hK.eval (.tmp 3) = .bool false := by rw [ap]; exact put_same _ _ _ (by rw [bQ]; decide)
 show stepsTo _ _ _ _ _ (dh.put (some 3) (.bool false)) _
 rw [← ap]
 refine st_nil (e2 _ _ ?_)
 refine wp_ret (ret_k fc (v := .tuple #[nv (Nm.mk 2 0), .bool false]) (res_ct rfl hL hM (l_two Try.isAgg23 Try.sizeOf23 e8)) ?_)
 refine ⟨?_, fb⟩
 show Ending.returned (.tuple #[nv (Nm.mk 2 0), .bool false]) = Ending.returned (.tuple #[nv ((numR u).1), .bool ((numR u).2)])
 first | rfl | (simp only [hbody, bodyR, ab, ac, ae, af, bsm] <;> rfl) | (exfalso; omega)
 have dg := oF af
 have fd := hB df af
 refine wp_cond_false fd ?_
 refine wp_skip ?_
 refine eZ _ _ ?_
 refine wp_g0 [true, true, false] [(2, false)] 53
   [ve (iv (wholeR dd 0)), ve (nv (Nm.mk 0 (wholeR dd 0))), vt] aH (.eq (.eq (.tt (.nil)))) ?_ ?_
 exact .m (fun k => k.fx 8 hJ) <| .t (fun _ w hn k => ⟨_, v_build (ps := [(1, iv (wholeR dd 0))]) rfl (parts1 (k.eq1 0 47 rfl)) (by kernel_rfl), rfl⟩) <| .off .nil
 refine aftI aH bL bM fun j9 ka bS fe ff bT aI => ?_
 have hN := aI.fx 5 hI
 have hO := aI.fx 2 dc
 have dl := aI.fx 7 de
 have hP := aI.ge 1 48 rfl
 have fg := bO.new_ bT
 have fh := bP.new_ bT
 obtain ⟨kb, -, dm, fi, fj, fk⟩ := s_two (v0 := iv 0) (v1 := iv (wholeR dd 0)) Try.sizeOf23 rfl rfl rfl fh
 refine st_act rfl rfl fun kc fl => a_store' rfl dl hP dm (fl _ _ trivial ?_)
 have fm := fk _ _ _ (hne128) fg
 have fn := ff.trans fj (fun _ h b => by subst b; omega)
 refine st_nil (bl _ _ (wp_seq_k fun kd bU => ?_))
 refine wp_seq_k fun ke fo => ?_
 refine wp_g0 [true] [] 53
   [ve (.bool ng)] bS (.eq (.nil)) ?_ ?_
 exact .m (fun k => k.fx 5 hN) .nil
 refine aftI bS fe fn fun kf kg aJ bV bW bX aW => ?_
 have dn := aW.fx 2 hO
 have a8 := aW.fx 7 dl
 have dp := aW.ge 0 49 rfl
 have bY := fm.new_ bX
 have aX := fi.new_ bX
 refine st_nil (fo _ _ ?_)
 rcases bc (ng) with aw | aw
 have fp := hB dp aw
 refine wp_cond_true fp ?_
 refine wp_g0 [true, true, false] [(2, false)] 53
   [ve (nv (Nm.mk 0 (wholeR dd 0))), ve (nv (negM (Nm.mk 0 (wholeR dd 0)))), vt] aJ (.eq (.eq (.tt (.nil)))) ?_ ?_
 exact .t (fun _ w hn k => ⟨_, v_load rfl (k.fx 7 a8) (l_two Try.isAgg23 Try.sizeOf23 (aX.new_ hn)), rfl⟩) <| .o1 (ck rfl rfl rfl (fun _ w hn k => ⟨#[nv (Nm.mk 0 (wholeR dd 0))], args1 (k.eq1 0 50 rfl), fun _ => by kernel_rfl, rneg_c (Nm.mk 0 (wholeR dd 0)) _ ⟩) fun _ => rfl) <| .off .nil
 refine aftI aJ bV bW fun kh ki bZ fq fr b0 aY => ?_
 have hQ := aY.fx 2 dn
 have dq := aY.fx 7 a8
 have hR := aY.ge 1 51 rfl
 have fs := bY.new_ b0
 have ft := aX.new_ b0
 obtain ⟨kj, -, dr, fu, fv, fw⟩ := s_two (v0 := iv ((negM (Nm.mk 0 (wholeR dd 0))).k)) (v1 := iv ((negM (Nm.mk 0 (wholeR dd 0))).n)) Try.sizeOf23 rfl rfl rfl ft
 refine st_act rfl rfl fun kk fy => a_store' rfl dq hR dr (fy _ _ trivial ?_)
 have fz := fw _ _ _ (hne128) fs
 have fA := fr.trans fv (fun _ h b => by subst b; omega)
 refine st_nil (bU _ _ (wp_seq_k fun kl fB => ?_))
 refine wp_g0 [true, false, false] [(1, false), (2, true)] 53
   [ve (nv (negM (Nm.mk 0 (wholeR dd 0)))), vt, vt] bZ (.eq (.tt (.tt (.nil)))) ?_ ?_
 exact .t (fun _ w hn k => ⟨_, v_load rfl (k.fx 7 dq) (l_two Try.isAgg23 Try.sizeOf23 (fu.new_ hn)), rfl⟩) <| .off <| .off .nil
 refine aftI bZ fq fA fun ds km b1 fC fD fE b2 => ?_
 have dt := b2.fx 2 hQ
 have du := b2.ge 0 52 rfl
 have fF := fz.new_ fE
 obtain ⟨kn, -, dv, fG, fH, jh⟩ := s_two (v0 := iv ((negM (Nm.mk 0 (wholeR dd 0))).k)) (v1 := iv ((negM (Nm.mk 0 (wholeR dd 0))).n)) Try.sizeOf23 rfl rfl rfl fF
 refine st_act rfl rfl fun ko fI => a_store' rfl dt du dv (fI _ _ trivial ?_)
 have fJ := fD.trans fH (fun _ h b => by subst b; omega)
 refine st_take rfl rfl (y_assign (v := .bool true) rfl rfl) rfl ?_
 obtain ⟨hS, aq⟩ : ∃ a', a' = ds.put (some 3) (.bool true) := ⟨_, rfl⟩
 have ji := pz aq b1
 have fK := pd aq fC
 have hT := pn aq dt (by decide)
 have kp := pn aq du (by decide)
 have hU : hS.eval (.tmp 3) = .bool true := by rw [aq]; exact put_same _ _ _ (by rw [b1]; decide)
 show stepsTo _ _ _ _ _ (ds.put (some 3) (.bool true)) _
 rw [← aq]
 refine st_nil (fB _ _ ?_)
 refine wp_ret (ret_k fK (v := .tuple #[nv (negM (Nm.mk 0 (wholeR dd 0))), .bool true]) (res_ct rfl hT hU (l_two Try.isAgg23 Try.sizeOf23 fG)) ?_)
 refine ⟨?_, fJ⟩
 show Ending.returned (.tuple #[nv (negM (Nm.mk 0 (wholeR dd 0))), .bool true]) = Ending.returned (.tuple #[nv ((numR u).1), .bool ((numR u).2)])
 first | rfl | (simp only [hbody, bodyR, ab, ac, ae, af, aw, bsm] <;> rfl) | (exfalso; omega)
 have fL := hB dp aw
 refine wp_cond_false fL ?_
 refine wp_skip ?_
 refine bU _ _ ?_
 refine wp_seq_k fun kq fM => ?_
 refine wp_g0 [true, false, false] [(1, false), (2, true)] 53
   [ve (nv (Nm.mk 0 (wholeR dd 0))), vt, vt] aJ (.eq (.tt (.tt (.nil)))) ?_ ?_
 exact .t (fun _ w hn k => ⟨_, v_load rfl (k.fx 7 a8) (l_two Try.isAgg23 Try.sizeOf23 (aX.new_ hn)), rfl⟩) <| .off <| .off .nil
 refine aftI aJ bV bW fun dw kr b3 fN fO fP b4 => ?_
 have dx := b4.fx 2 dn
 have dy := b4.ge 0 52 rfl
 have fQ := bY.new_ fP
 obtain ⟨ks, -, dz, fR, fS, jj⟩ := s_two (v0 := iv 0) (v1 := iv (wholeR dd 0)) Try.sizeOf23 rfl rfl rfl fQ
 refine st_act rfl rfl fun kt fT => a_store' rfl dx dy dz (fT _ _ trivial ?_)
 have fU := fO.trans fS (fun _ h b => by subst b; omega)
 refine st_take rfl rfl (y_assign (v := .bool true) rfl rfl) rfl ?_
 obtain ⟨hV, ar⟩ : ∃ a', a' = dw.put (some 3) (.bool true) := ⟨_, rfl⟩
 have jk := pz ar b3
 have fV := pd ar fN
 have hW := pn ar dx (by decide)
 have ku := pn ar dy (by decide)
 have hX : hV.eval (.tmp 3) = .bool true := by rw [ar]; exact put_same _ _ _ (by rw [b3]; decide)
 show stepsTo _ _ _ _ _ (dw.put (some 3) (.bool true)) _
 rw [← ar]
 refine st_nil (fM _ _ ?_)
 refine wp_ret (ret_k fV (v := .tuple #[nv (Nm.mk 0 (wholeR dd 0)), .bool true]) (res_ct rfl hW hX (l_two Try.isAgg23 Try.sizeOf23 fR)) ?_)
 refine ⟨?_, fU⟩
 show Ending.returned (.tuple #[nv (Nm.mk 0 (wholeR dd 0)), .bool true]) = Ending.returned (.tuple #[nv ((numR u).1), .bool ((numR u).2)])
 first | rfl | (simp only [hbody, bodyR, ab, ac, ae, af, aw, bsm] <;> rfl) | (exfalso; omega)
 have fW := hB da ae
 refine wp_cond_false fW ?_
 refine wp_seq_k fun kv fX => ?_
 refine wp_g [true, true, true, true, false, false] [3] [(4, false), (5, true)] 53
   [ve (nv (Nm.mk 2 0)), ve (sv ah (trimN u) ad), ve (.bool (numericN ⟨#[120, 88, 111, 79, 46, 43, 45, 95]⟩ (trimN u))), ve (.bool (!(numericN ⟨#[120, 88, 111, 79, 46, 43, 45, 95]⟩ (trimN u)))), vt, vt]
   [] newsNil aE (.eq (.eq (.eq (.eq (.tt (.tt (.nil))))))) ?_ ?_ ?_
 refine .t (fun _ w hn k => ⟨_, v_load rfl (k.fx 7 c9) (l_two Try.isAgg23 Try.sizeOf23 (bI.new_ hn)), rfl⟩) <| .m (fun k => k.fx 4 hE) <| .o1 (ck rfl rfl rfl (fun _ w hn k => ⟨#[sv ah (trimN u) ad, .string ⟨#[120, 88, 111, 79, 46, 43, 45, 95]⟩], args2 (k.eq1 1 31 rfl) rfl, fun _ => by kernel_rfl, rnumeric_c _ (trimN u) _ ⟨#[120, 88, 111, 79, 46, 43, 45, 95]⟩ _ (eS.new_ hn) hut (by first | omega | (show (_ : Nat) ≤ _; decide))⟩) fun _ => rfl) ?_
 refine .o3 ?_
 exact .off <| .off .nil
 intro i h
 simp only [List.contains_eq_mem, List.mem_cons, List.not_mem_nil, or_false, decide_eq_true_eq] at h
 subst h
 exact eager_take rfl rfl fun _ w hn k => ⟨.bool (!(numericN ⟨#[120, 88, 111, 79, 46, 43, 45, 95]⟩ (trimN u))), fun w => v_not rfl (k.eq1 2 32 rfl), rfl⟩
 refine aftI aE bF bG fun dA kw b5 fY fZ f0 aZ => ?_
 have dB := aZ.fx 2 c8
 have dC := aZ.ge 0 30 rfl
 have dD := aZ.ge 3 33 rfl
 have f1 := bH.new_ f0
 obtain ⟨kx, -, dE, f2, f3, jl⟩ := s_two (v0 := iv 2) (v1 := iv 0) Try.sizeOf23 rfl rfl rfl f1
 refine st_act rfl rfl fun ky f4 => a_store' rfl dB dC dE (f4 _ _ trivial ?_)
 have f5 := fZ.trans f3 (fun _ h b => by subst b; omega)
 refine st_take rfl rfl (y_assign (v := .bool (!(numericN ⟨#[120, 88, 111, 79, 46, 43, 45, 95]⟩ (trimN u)))) rfl dD) rfl ?_
 obtain ⟨hY, ai⟩ : ∃ a', a' = dA.put (some 3) (.bool (!(numericN ⟨#[120, 88, 111, 79, 46, 43, 45, 95]⟩ (trimN u)))) := ⟨_, rfl⟩
 have jm := pz ai b5
 have f6 := pd ai fY
 have hZ := pn ai dB (by decide)
 have kz := pn ai dC (by decide)
 have kA := pn ai dD (by decide)
 have h3 : hY.eval (.tmp 3) = .bool (!(numericN ⟨#[120, 88, 111, 79, 46, 43, 45, 95]⟩ (trimN u))) := by rw [ai]; exact put_same _ _ _ (by rw [b5]; decide)
 show stepsTo _ _ _ _ _ (dA.put (some 3) (.bool (!(numericN ⟨#[120, 88, 111, 79, 46, 43, 45, 95]⟩ (trimN u))))) _
 rw [← ai]
 refine st_nil (fX _ _ ?_)
 refine wp_ret (ret_k f6 (v := .tuple #[nv (Nm.mk 2 0), .bool (!(numericN ⟨#[120, 88, 111, 79, 46, 43, 45, 95]⟩ (trimN u)))]) (res_ct rfl hZ h3 (l_two Try.isAgg23 Try.sizeOf23 f2)) ?_)
 refine ⟨?_, f5⟩
 show Ending.returned (.tuple #[nv (Nm.mk 2 0), .bool (!(numericN ⟨#[120, 88, 111, 79, 46, 43, 45, 95]⟩ (trimN u)))]) = Ending.returned (.tuple #[nv ((numR u).1), .bool ((numR u).2)])
 first | rfl | (simp only [hbody, bodyR, ab, ac, ae, bsm] <;> rfl) | (exfalso; omega)
 intro kB a1
 refine wp_seq_k fun kC b6 => ?_
 rcases bc (decide ((((trimN u).getD 0 0 : Nat) : Int) = 45)) with ag | ag
 have dF := oT ag
 have b7 := hB gB ag
 refine wp_g0 [true, true, true, true, true, true, true] [] 53
   [vT, vT, vU, vU, vU, vU, vT] aO (.eq (.eq (.eq (.eq (.eq (.eq (.eq (.nil)))))))) ?_ ?_
 exact .m (fun k => k.fx 5 b7) <| .m (fun k => k.eq1 0 20 rfl) <| .s (fun k => k.eq1 1 21 rfl) <| .s (fun k => k.eq1 1 21 rfl) <| .s (fun k => k.eq1 1 21 rfl) <| .s (fun k => k.eq1 1 21 rfl) <| .t (fun _ w hn k => ⟨_, v_pickT rfl (k.eq1 1 21 rfl) rfl, rfl⟩) .nil
 refine aftI aO cB cC fun kD kE b8 f7 f8 b9 ax => ?_
 have h4 := ax.fx 2 gA
 have dG := ax.fx 4 cE
 have h5 := ax.fx 5 b7
 have kF := ax.fx 6 gC
 have h6 := ax.ge 6 26 rfl
 have f9 := cF.new_ b9
 have ca := a6.new_ b9
 refine st_nil (b6 _ _ ?_)
 refine wp_cond_true h6 ?_
 refine wp_g0 [true, true, true] [] 53
   [ve (sv ah (trimN u) ad),
    (RP .u16 ((trimN u).drop 1)),
    (RP .u16 ((trimN u).drop 1))] b8 (.eq (.cons (fun _ _ _ n ⟨_, _, e, h⟩ => ⟨_, _, e, h.new_ n⟩) (.cons (fun v W W' hn ⟨iP, iQ, he, h0⟩ => ⟨iP, iQ, he, h0.new_ hn⟩) (.nil)))) ?_ ?_
 refine .m (fun k => k.fx 4 dG) ?_
 refine .o1 (tk rfl rfl fun _ w hn k => (by
       exact x_cutL (k := .u16) rfl elU (k.eq1 0 27 rfl) rfl (ca.new_ hn) (by omega) fun iR iS hmr => ⟨iR, iS, rfl, hmr⟩)) ?_
 refine .o1 (tk rfl rfl fun _ w hn k => (by
       obtain ⟨iT, iU, iV, h7⟩ : (RP .u16 ((trimN u).drop 1)) _ _ := k.dep 1 28 (by kernel_rfl) (by kernel_rfl)
       exact ⟨_, v_assign rfl iV, ⟨iT, iU, rfl, h7⟩⟩)) ?_
 exact .nil
 refine aftI b8 f7 f8 fun ia kG ga gb gc cb aK => ?_
 have ib := aK.fx 2 h4
 have ic := aK.fx 4 dG
 have id := aK.fx 5 h5
 obtain ⟨dH, cc, a9, gd⟩ : (RP .u16 ((trimN u).drop 1)) _ _ := aK.got 2 6 rfl (by kernel_rfl)
 have a9 : ia.eval (.tmp 6) = sv dH ((trimN u).drop 1) cc := a9
 have gf := f9.new_ cb
 have gg := ca.new_ cb
 refine st_nil ?_
 exact a1 _ _ ⟨true, ((trimN u).drop 1), dH, cc, ga, gb, gc, id, a9, ib, ic, gf, gd, gg, (by unfold numR; simp only [ab, ag, bsm]), (hut.drop 1)⟩
 have dF := oF ag
 have cd := hB gB ag
 refine wp_g0 [true, true, true, true, true, true, true] [] 53
   [vF, vF, ve (sv ah (trimN u) ad),
    (EP (.int .u16 (((trimN u).getD 0 0 : Nat) : Int))), ve (.int .u16 (((trimN u).getD 0 0 : Nat) : Int)), ve (.bool (decide ((((trimN u).getD 0 0 : Nat) : Int) = 43))), ve (.bool (decide ((((trimN u).getD 0 0 : Nat) : Int) = 43)))] aO (.eq (.eq (.eq (.cons (fun _ _ _ n ⟨_, _, e, h⟩ => ⟨_, _, e, h.new_ n⟩) (.eq (.eq (.eq (.nil)))))))) ?_ ?_
 refine .m (fun k => k.fx 5 cd) <| .m (fun k => k.eq1 0 20 rfl) <| .gm (fun k => k.eq1 1 21 rfl) (fun k => k.fx 4 cE) ?_
 refine .o1 (tg rfl rfl rfl (fun _ _ k => k.eq1 1 21 rfl) fun _ w hn k => (by
       exact x_eaddr (k := .u16) rfl elU (k.eq1 2 22 rfl) rfl (a6.new_ hn) (by omega) fun iY iZ hme => ⟨iY, iZ, rfl, hme⟩)) ?_
 refine .o1 (tg rfl rfl rfl (fun _ _ k => k.eq1 1 21 rfl) fun _ w hn k => (by
       obtain ⟨k5, k6, i0, ie⟩ : (EP (.int .u16 (((trimN u).getD 0 0 : Nat) : Int))) _ _ := k.dep 3 23 (by kernel_rfl) (by kernel_rfl)
       exact ⟨_, v_load rfl i0 (l_one Try.isAgg66 ie.1), rfl⟩)) ?_
 exact .g (fun k => k.eq1 1 21 rfl) (fun _ w hn k => ⟨_, v_bin rfl (k.eq1 4 24 rfl) rfl (fun _ => rfl) (r_eql rfl), rfl⟩) <| .t (fun _ w hn k => ⟨_, v_pickF rfl (k.eq1 1 21 rfl) (k.eq1 5 25 rfl), rfl⟩) .nil
 refine aftI aO cB cC fun kH kI a3 ce cf ch ay => ?_
 have dI := ay.fx 2 gA
 have ba := ay.fx 4 cE
 have dJ := ay.fx 5 cd
 have ig := ay.fx 6 gC
 have dK := ay.ge 6 26 rfl
 have ci := cF.new_ ch
 have aL := a6.new_ ch
 refine st_nil (b6 _ _ ?_)
 rcases bc (decide ((((trimN u).getD 0 0 : Nat) : Int) = 43)) with aj | aj
 have dL := oT aj
 have gh := hB dK aj
 refine wp_cond_true gh ?_
 refine wp_g0 [true, true, true] [] 53
   [ve (sv ah (trimN u) ad),
    (RP .u16 ((trimN u).drop 1)),
    (RP .u16 ((trimN u).drop 1))] a3 (.eq (.cons (fun _ _ _ n ⟨_, _, e, h⟩ => ⟨_, _, e, h.new_ n⟩) (.cons (fun v W W' hn ⟨i3, i4, he, h0⟩ => ⟨i3, i4, he, h0.new_ hn⟩) (.nil)))) ?_ ?_
 refine .m (fun k => k.fx 4 ba) ?_
 refine .o1 (tk rfl rfl fun _ w hn k => (by
       exact x_cutL (k := .u16) rfl elU (k.eq1 0 27 rfl) rfl (aL.new_ hn) (by omega) fun i5 i6 hmr => ⟨i5, i6, rfl, hmr⟩)) ?_
 refine .o1 (tk rfl rfl fun _ w hn k => (by
       obtain ⟨i7, i8, i9, ih⟩ : (RP .u16 ((trimN u).drop 1)) _ _ := k.dep 1 28 (by kernel_rfl) (by kernel_rfl)
       exact ⟨_, v_assign rfl i9, ⟨i7, i8, rfl, ih⟩⟩)) ?_
 exact .nil
 refine aftI a3 ce cf fun ii kJ gi gj gk cj aM => ?_
 have ij := aM.fx 2 dI
 have ik := aM.fx 4 ba
 have il := aM.fx 5 dJ
 obtain ⟨dM, cl, bb, gl⟩ : (RP .u16 ((trimN u).drop 1)) _ _ := aM.got 2 6 rfl (by kernel_rfl)
 have bb : ii.eval (.tmp 6) = sv dM ((trimN u).drop 1) cl := bb
 have gn := ci.new_ cj
 have go := aL.new_ cj
 refine st_nil ?_
 exact a1 _ _ ⟨false, ((trimN u).drop 1), dM, cl, gi, gj, gk, il, bb, ij, ik, gn, gl, go, (by unfold numR; simp only [ab, ag, aj, bsm]), (hut.drop 1)⟩
 have dL := oF aj
 have gp := hB dK aj
 refine wp_cond_false gp ?_
 refine wp_skip ?_
 exact a1 _ _ ⟨false, (trimN u), ah, ad, a3, ce, cf, dJ, ig, dI, ba, ci, aL, aL, (by unfold numR; simp only [ab, ag, aj, bsm]), hut⟩
theorem rnumber3_c (Au : Option Addr) (u : List Nat) (cu : Nat) (w : World) (hru : SRow w .u16 Au u cu) (hu : U16s u) : Calls Try.prog 81 #[sv Au u cu] w (IsRet (.tuple #[nv ((numT u).1), .bool ((numT u).2)]) w) := by
  have h := rnumber3_c0 Au u cu w hru hu
  rw [numR_eq] at h
  exact h

theorem ordB_bd (b : Bool) (m : List Nat) (a : Nm) : -1 ≤ ordB b m a ∧ ordB b m a ≤ 2 := by
  unfold ordB cmpZ
  repeat' split
  all_goals decide
end Go.Proofs.Ytecgdgjlmlpcnaa
