import Derived.Test.YtjakfchffigkkaaGreatDoorObd
namespace Go.Proofs.YtjakfchffigkkaaGreatDoor
open Go.RowKit
set_option linter.unusedSimpArgs false
set_option linter.unusedVariables false
set_option maxHeartbeats 16000000
set_option maxRecDepth 100000
theorem first_c  (w : World) (HT : ItoaOk w) : Calls Tryz.prog 10 #[] w (IsRet (.bool true) w) := by
 refine enter_abs Tryz.func10 rfl fun a0 bi e9 hp => ?_
 have bi : a0.tmps.size = 99 := bi
 have fa : New w w := Upd.refl _ _
 refine wp_seq_k fun K1 fb => ?_
 refine wp_g0 [true] [] 99
   [vF] bi (.eq (.nil)) ?_ ?_
 exact .t (fun _ w hn k => ⟨_, v_assign rfl rfl, rfl⟩) .nil
 refine aftI bi e9 fa fun a2 w3 dm fc bG gU gV => ?_
 refine st_nil (fb _ _ (wp_seq_k fun K9 fd => ?_))
 refine wp_gS (fun W => True) (fun W W' hn h => trivial) trivial [true, true, true, true, true, true, true, false, false] [5] [(7, false), (8, true)] 99
   [(fun (v_ : Value) (W : World) => ∃ (A3 : Option Addr) (c4 : Nat), v_ = vv (Vl.mk 5 0 0 false [] (asc ⟨#[97]⟩) 0) none 0 A3 c4 ∧ SRow W .u16 A3 (asc ⟨#[97]⟩) c4), ve (vv (Vl.mk 3 0 1 false [] [] 0) none 0 none 0), (fun (v_ : Value) (W : World) => ∃ (az : Option Addr) (aA : Nat) (aB : Option Addr) (aC : Nat), v_ = .tuple #[vv (joinV (cleanV (Vl.mk 5 0 0 false [] (asc ⟨#[97]⟩) 0)) (cleanV (Vl.mk 3 0 1 false [] [] 0))).1 az aA aB aC, iv ((joinV (cleanV (Vl.mk 5 0 0 false [] (asc ⟨#[97]⟩) 0)) (cleanV (Vl.mk 3 0 1 false [] [] 0))).2)] ∧ SRow W .u32 az ((joinV (cleanV (Vl.mk 5 0 0 false [] (asc ⟨#[97]⟩) 0)) (cleanV (Vl.mk 3 0 1 false [] [] 0))).1.mag) aA ∧ SRow W .u16 aB ((joinV (cleanV (Vl.mk 5 0 0 false [] (asc ⟨#[97]⟩) 0)) (cleanV (Vl.mk 3 0 1 false [] [] 0))).1.s) aC), (fun (v_ : Value) (W : World) => ∃ (ai : Option Addr) (aj : Nat) (ak : Option Addr) (al : Nat), v_ = .tuple #[vv (joinV (cleanV (Vl.mk 5 0 0 false [] (asc ⟨#[97]⟩) 0)) (cleanV (Vl.mk 3 0 1 false [] [] 0))).1 ai aj ak al, iv ((joinV (cleanV (Vl.mk 5 0 0 false [] (asc ⟨#[97]⟩) 0)) (cleanV (Vl.mk 3 0 1 false [] [] 0))).2)] ∧ SRow W .u32 ai ((joinV (cleanV (Vl.mk 5 0 0 false [] (asc ⟨#[97]⟩) 0)) (cleanV (Vl.mk 3 0 1 false [] [] 0))).1.mag) aj ∧ SRow W .u16 ak ((joinV (cleanV (Vl.mk 5 0 0 false [] (asc ⟨#[97]⟩) 0)) (cleanV (Vl.mk 3 0 1 false [] [] 0))).1.s) al), (fun (v_ : Value) (W : World) => ∃ (aD : Option Addr) (aE : Nat) (aF : Option Addr) (aG : Nat), v_ = vv (joinV (cleanV (Vl.mk 5 0 0 false [] (asc ⟨#[97]⟩) 0)) (cleanV (Vl.mk 3 0 1 false [] [] 0))).1 aD aE aF aG ∧ SRow W .u32 aD ((joinV (cleanV (Vl.mk 5 0 0 false [] (asc ⟨#[97]⟩) 0)) (cleanV (Vl.mk 3 0 1 false [] [] 0))).1.mag) aE ∧ SRow W .u16 aF ((joinV (cleanV (Vl.mk 5 0 0 false [] (asc ⟨#[97]⟩) 0)) (cleanV (Vl.mk 3 0 1 false [] [] 0))).1.s) aG), ve (iv ((joinV (cleanV (Vl.mk 5 0 0 false [] (asc ⟨#[97]⟩) 0)) (cleanV (Vl.mk 3 0 1 false [] [] 0))).2)), IsNew w3 29 [iv 0, iv 0, iv 0, .bool false, sv none ([]) 0, sv none ([]) 0, iv 0], vt, vt]
   [6] (newsCons (fun v w h => IsNew.old h) newsNil) dm (.cons (fun _ _ _ n ⟨_, _, e, h⟩ => ⟨_, _, e, h.new_ n⟩) (.eq (.cons (fun v W W' hn ⟨az, aA, aB, aC, he, h0, h1⟩ => ⟨az, aA, aB, aC, he, h0.new_ hn, h1.new_ hn⟩) (.cons (fun v W W' hn ⟨ai, aj, ak, al, he, h0, h1⟩ => ⟨ai, aj, ak, al, he, h0.new_ hn, h1.new_ hn⟩) (.cons (fun v W W' hn ⟨aD, aE, aF, aG, he, h0, h1⟩ => ⟨aD, aE, aF, aG, he, h0.new_ hn, h1.new_ hn⟩) (.eq (.nw (.tt (.tt (.nil)))))))))) ?_ ?_ ?_
 refine .o1 (tkC rfl (noG rfl) rfl fun _ w hn k => (by
       refine ⟨#[.string ⟨#[97]⟩], _, args1 rfl, fun w => by kernel_rfl, ostr_c ⟨#[97]⟩ _ (by first | omega | (show (_ : Nat) ≤ _; decide)), ?_⟩
       rintro e w' ⟨A1, c2, rfl, hmo0, hm⟩
       exact ⟨_, rfl, hm, ⟨A1, c2, rfl, hmo0⟩⟩)) ?_
 refine .o1 (ck rfl rfl rfl (fun _ w hn k => ⟨#[iv 1], args1 rfl, fun _ => by kernel_rfl, owhole_c 1 _ ⟩) fun _ => rfl) ?_
 refine .o1 (tkC rfl (noG rfl) rfl fun _ w hn k => (by
       obtain ⟨A5, c6, e7, fe⟩ : (fun (v_ : Value) (W : World) => ∃ (A3 : Option Addr) (c4 : Nat), v_ = vv (Vl.mk 5 0 0 false [] (asc ⟨#[97]⟩) 0) none 0 A3 c4 ∧ SRow W .u16 A3 (asc ⟨#[97]⟩) c4) _ _ := k.dep 0 14 (by kernel_rfl) (by kernel_rfl)
       refine ⟨#[.string ⟨#[43]⟩, vv (Vl.mk 5 0 0 false [] (asc ⟨#[97]⟩) 0) none 0 A5 c6, vv (Vl.mk 3 0 1 false [] [] 0) none 0 none 0], _, args3 rfl e7 (k.eq1 1 15 rfl), fun w => by kernel_rfl, binT_c (Vl.mk 5 0 0 false [] (asc ⟨#[97]⟩) 0) _ _ _ _ (Vl.mk 3 0 1 false [] [] 0) _ _ _ _ _ (SRow.nil _ _) fe (SRow.nil _ _) (SRow.nil _ _) (VOk.str ⟨#[97]⟩ (by first | omega | decide)) (VOk.whole (by omega) (by omega)) (by first | assumption | (rw [str_clean]; rfl) | decide +kernel) (HT.up (bG.transNew hn)), ?_⟩
       rintro e w' ⟨A9, ff, fg, fh, rfl, hmo0, hmo1, hm⟩
       exact ⟨_, rfl, hm, ⟨A9, ff, fg, fh, rfl, hmo0, hmo1⟩⟩)) ?_
 refine .o1 (tk rfl rfl fun _ w hn k => (by
       obtain ⟨aH, fi, fj, fk, fl, dx, dy⟩ : (fun (v_ : Value) (W : World) => ∃ (az : Option Addr) (aA : Nat) (aB : Option Addr) (aC : Nat), v_ = .tuple #[vv (joinV (cleanV (Vl.mk 5 0 0 false [] (asc ⟨#[97]⟩) 0)) (cleanV (Vl.mk 3 0 1 false [] [] 0))).1 az aA aB aC, iv ((joinV (cleanV (Vl.mk 5 0 0 false [] (asc ⟨#[97]⟩) 0)) (cleanV (Vl.mk 3 0 1 false [] [] 0))).2)] ∧ SRow W .u32 az ((joinV (cleanV (Vl.mk 5 0 0 false [] (asc ⟨#[97]⟩) 0)) (cleanV (Vl.mk 3 0 1 false [] [] 0))).1.mag) aA ∧ SRow W .u16 aB ((joinV (cleanV (Vl.mk 5 0 0 false [] (asc ⟨#[97]⟩) 0)) (cleanV (Vl.mk 3 0 1 false [] [] 0))).1.s) aC) _ _ := k.dep 2 16 (by kernel_rfl) (by kernel_rfl)
       exact ⟨_, v_move rfl fl, ⟨aH, fi, fj, fk, rfl, dx, dy⟩⟩)) ?_
 refine .o1 (tk rfl rfl fun _ w hn k => (by
       obtain ⟨fm, fn, fo, fp, fq, dz, dA⟩ : (fun (v_ : Value) (W : World) => ∃ (ai : Option Addr) (aj : Nat) (ak : Option Addr) (al : Nat), v_ = .tuple #[vv (joinV (cleanV (Vl.mk 5 0 0 false [] (asc ⟨#[97]⟩) 0)) (cleanV (Vl.mk 3 0 1 false [] [] 0))).1 ai aj ak al, iv ((joinV (cleanV (Vl.mk 5 0 0 false [] (asc ⟨#[97]⟩) 0)) (cleanV (Vl.mk 3 0 1 false [] [] 0))).2)] ∧ SRow W .u32 ai ((joinV (cleanV (Vl.mk 5 0 0 false [] (asc ⟨#[97]⟩) 0)) (cleanV (Vl.mk 3 0 1 false [] [] 0))).1.mag) aj ∧ SRow W .u16 ak ((joinV (cleanV (Vl.mk 5 0 0 false [] (asc ⟨#[97]⟩) 0)) (cleanV (Vl.mk 3 0 1 false [] [] 0))).1.s) al) _ _ := k.dep 3 13 (by kernel_rfl) (by kernel_rfl)
       exact ⟨_, v_extract rfl fq rfl, ⟨fm, fn, fo, fp, rfl, dz, dA⟩⟩)) ?_
 refine .o3 ?_
 exact .o2 (step_allocN (cs := [iv 0, iv 0, iv 0, .bool false, sv none ([]) 0, sv none ([]) 0, iv 0]) (t := 29) rfl (noG rfl) (fun _ w hn k => rfl) (fun q _ hq hb => ⟨q, rfl, hq, hb⟩)) <| .off <| .off .nil
 intro i h
 simp only [List.contains_eq_mem, List.mem_cons, List.not_mem_nil, or_false, decide_eq_true_eq] at h
 subst h
 exact eager_takeG rfl (noG rfl) fun _ w hn k => (by
     obtain ⟨gW, gX, gY, gZ, fr, gr, gs⟩ : (fun (v_ : Value) (W : World) => ∃ (ai : Option Addr) (aj : Nat) (ak : Option Addr) (al : Nat), v_ = .tuple #[vv (joinV (cleanV (Vl.mk 5 0 0 false [] (asc ⟨#[97]⟩) 0)) (cleanV (Vl.mk 3 0 1 false [] [] 0))).1 ai aj ak al, iv ((joinV (cleanV (Vl.mk 5 0 0 false [] (asc ⟨#[97]⟩) 0)) (cleanV (Vl.mk 3 0 1 false [] [] 0))).2)] ∧ SRow W .u32 ai ((joinV (cleanV (Vl.mk 5 0 0 false [] (asc ⟨#[97]⟩) 0)) (cleanV (Vl.mk 3 0 1 false [] [] 0))).1.mag) aj ∧ SRow W .u16 ak ((joinV (cleanV (Vl.mk 5 0 0 false [] (asc ⟨#[97]⟩) 0)) (cleanV (Vl.mk 3 0 1 false [] [] 0))).1.s) al) _ _ := k.dep 3 13 (by kernel_rfl) (by kernel_rfl)
     exact ⟨_, fun w hS => v_extract rfl fr rfl, rfl⟩)
 intro bH g0 _ dB aU
 obtain ⟨bI, dC, dD⟩ := aft aU dm fc bG dB
 obtain ⟨aH, aI, ba, aJ, bj, dE, dF⟩ : (fun (v_ : Value) (W : World) => ∃ (aD : Option Addr) (aE : Nat) (aF : Option Addr) (aG : Nat), v_ = vv (joinV (cleanV (Vl.mk 5 0 0 false [] (asc ⟨#[97]⟩) 0)) (cleanV (Vl.mk 3 0 1 false [] [] 0))).1 aD aE aF aG ∧ SRow W .u32 aD ((joinV (cleanV (Vl.mk 5 0 0 false [] (asc ⟨#[97]⟩) 0)) (cleanV (Vl.mk 3 0 1 false [] [] 0))).1.mag) aE ∧ SRow W .u16 aF ((joinV (cleanV (Vl.mk 5 0 0 false [] (asc ⟨#[97]⟩) 0)) (cleanV (Vl.mk 3 0 1 false [] [] 0))).1.s) aG) _ _ := aU.got 4 17 rfl (by kernel_rfl)
 have bj : bH.eval (.tmp 17) = vv (joinV (cleanV (Vl.mk 5 0 0 false [] (asc ⟨#[97]⟩) 0)) (cleanV (Vl.mk 3 0 1 false [] [] 0))).1 aH aI ba aJ := bj
 have dn := aU.ge 5 18 rfl
 obtain ⟨aT, dp, dG, bb⟩ : IsNew _ _ _ _ _ := aU.got 6 1 rfl (by kernel_rfl)
 have gt := Nat.le_trans bG.size dG
 obtain ⟨bk, cl, cm, bd, gu⟩ := s_many (P := Tryz.prog) (t := 29) (i := 0) [iv ((joinV (cleanV (Vl.mk 5 0 0 false [] (asc ⟨#[97]⟩) 0)) (cleanV (Vl.mk 3 0 1 false [] [] 0))).1.k), iv ((joinV (cleanV (Vl.mk 5 0 0 false [] (asc ⟨#[97]⟩) 0)) (cleanV (Vl.mk 3 0 1 false [] [] 0))).1.nk), iv ((joinV (cleanV (Vl.mk 5 0 0 false [] (asc ⟨#[97]⟩) 0)) (cleanV (Vl.mk 3 0 1 false [] [] 0))).1.nn), .bool ((joinV (cleanV (Vl.mk 5 0 0 false [] (asc ⟨#[97]⟩) 0)) (cleanV (Vl.mk 3 0 1 false [] [] 0))).1.neg), sv aH ((joinV (cleanV (Vl.mk 5 0 0 false [] (asc ⟨#[97]⟩) 0)) (cleanV (Vl.mk 3 0 1 false [] [] 0))).1.mag) aI, sv ba ((joinV (cleanV (Vl.mk 5 0 0 false [] (asc ⟨#[97]⟩) 0)) (cleanV (Vl.mk 3 0 1 false [] [] 0))).1.s) aJ, iv ((joinV (cleanV (Vl.mk 5 0 0 false [] (asc ⟨#[97]⟩) 0)) (cleanV (Vl.mk 3 0 1 false [] [] 0))).1.ref)] Tryz.sizeOf29 rfl rfl rfl bb lb
 have bJ : Blk bk aT 29 [iv ((joinV (cleanV (Vl.mk 5 0 0 false [] (asc ⟨#[97]⟩) 0)) (cleanV (Vl.mk 3 0 1 false [] [] 0))).1.k), iv ((joinV (cleanV (Vl.mk 5 0 0 false [] (asc ⟨#[97]⟩) 0)) (cleanV (Vl.mk 3 0 1 false [] [] 0))).1.nk), iv ((joinV (cleanV (Vl.mk 5 0 0 false [] (asc ⟨#[97]⟩) 0)) (cleanV (Vl.mk 3 0 1 false [] [] 0))).1.nn), .bool ((joinV (cleanV (Vl.mk 5 0 0 false [] (asc ⟨#[97]⟩) 0)) (cleanV (Vl.mk 3 0 1 false [] [] 0))).1.neg), sv aH ((joinV (cleanV (Vl.mk 5 0 0 false [] (asc ⟨#[97]⟩) 0)) (cleanV (Vl.mk 3 0 1 false [] [] 0))).1.mag) aI, sv ba ((joinV (cleanV (Vl.mk 5 0 0 false [] (asc ⟨#[97]⟩) 0)) (cleanV (Vl.mk 3 0 1 false [] [] 0))).1.s) aJ, iv ((joinV (cleanV (Vl.mk 5 0 0 false [] (asc ⟨#[97]⟩) 0)) (cleanV (Vl.mk 3 0 1 false [] [] 0))).1.ref)] := cm
 refine st_act rfl rfl fun g1 dH => a_store' rfl dp bj cl (dH _ _ trivial ?_)
 have dI := dE.far bb bd (by first | rfl | decide | simp [notK])
 have dJ := dF.far bb bd (by first | rfl | decide | simp [notK])
 have bK := dD.trans bd (fun _ h b => by subst b; omega)
 refine st_take rfl rfl (y_assign (v := iv ((joinV (cleanV (Vl.mk 5 0 0 false [] (asc ⟨#[97]⟩) 0)) (cleanV (Vl.mk 3 0 1 false [] [] 0))).2)) rfl dn) rfl ?_
 obtain ⟨fs, am⟩ : ∃ a', a' = bH.put (some 2) (iv ((joinV (cleanV (Vl.mk 5 0 0 false [] (asc ⟨#[97]⟩) 0)) (cleanV (Vl.mk 3 0 1 false [] [] 0))).2)) := ⟨_, rfl⟩
 have bL := pz am bI
 have dK := pd am dC
 have g2 := pn am bj (by decide)
 have g3 := pn am dn (by decide)
 have ft := pn am dp (by decide)
 have fu : fs.eval (.tmp 2) = iv ((joinV (cleanV (Vl.mk 5 0 0 false [] (asc ⟨#[97]⟩) 0)) (cleanV (Vl.mk 3 0 1 false [] [] 0))).2) := by rw [am]; exact put_same _ _ _ (by rw [bI]; decide)
 show stepsTo _ _ _ _ _ (bH.put (some 2) (iv ((joinV (cleanV (Vl.mk 5 0 0 false [] (asc ⟨#[97]⟩) 0)) (cleanV (Vl.mk 3 0 1 false [] [] 0))).2))) _
 rw [← am]
 refine st_nil (fd _ _ (wp_seq_k fun g4 dL => ?_))
 refine wp_g [true, true, true, true, true, true, true, true, false, false] [6] [(8, false), (9, true)] 99
   [(OP bk.heap.size 56 .u32 ([1])), (fun (v_ : Value) (W : World) => ∃ (aK : Option Addr) (aL : Nat), v_ = vv (Vl.mk 4 0 0 false [1] [] 0) aK aL none 0 ∧ SRow W .u32 aK ([1]) aL), ve (vv (Vl.mk 3 0 1 false [] [] 0) none 0 none 0), ve (.tuple #[vv (Vl.mk 0 0 0 false [] [] 0) none 0 none 0, iv 1]), ve (.tuple #[vv (Vl.mk 0 0 0 false [] [] 0) none 0 none 0, iv 1]), ve (vv (Vl.mk 0 0 0 false [] [] 0) none 0 none 0), ve (iv 1), IsNew bk 29 [iv 0, iv 0, iv 0, .bool false, sv none ([]) 0, sv none ([]) 0, iv 0], vt, vt]
   [7] (newsCons (fun v w h => IsNew.old h) newsNil) bL (.cons (fun _ _ _ n ⟨_, _, e, h⟩ => ⟨_, _, e, h.new_ n⟩) (.cons (fun v W W' hn ⟨aK, aL, he, h0⟩ => ⟨aK, aL, he, h0.new_ hn⟩) (.eq (.eq (.eq (.eq (.eq (.nw (.tt (.tt (.nil))))))))))) ?_ ?_ ?_
 refine .o1 (tkA rfl (noG rfl) fun _ w hn k => (by
       exact x_bslice (k := .u32) (ps := [(0, .int .u32 1)]) [1] rfl (parts1 rfl) elW rfl (by omega) (by omega) (by first | kernel_rfl | (simp only [enc, List.map_cons, List.map_nil, Int.toNat_natCast, Int.toNat_of_nonneg (by omega : (0 : Int) ≤ _)]; kernel_rfl)) fun fy fz W' hmo => ⟨fy, fz, rfl, (hmo.more hn.size)⟩)) ?_
 refine .o1 (tkC rfl (noG rfl) rfl fun _ w hn k => (by
       obtain ⟨fA, fB, fC, dM⟩ : (OP bk.heap.size 56 .u32 ([1])) _ _ := k.dep 0 20 (by kernel_rfl) (by kernel_rfl)
       refine ⟨#[sv fA ([1]) fB], _, args1 fC, fun w => by kernel_rfl, obig_c _ ([1]) _ _ dM.row, ?_⟩
       rintro e w' ⟨fD, fE, rfl, hmo0, hm⟩
       exact ⟨_, rfl, hm, ⟨fD, fE, rfl, hmo0⟩⟩)) ?_
 refine .o1 (ck rfl rfl rfl (fun _ w hn k => ⟨#[iv 1], args1 rfl, fun _ => by kernel_rfl, owhole_c 1 _ ⟩) fun _ => rfl) ?_
 refine .o1 (tkC rfl (noG rfl) rfl fun _ w hn k => (by
       obtain ⟨fF, fG, fH, dN⟩ : (fun (v_ : Value) (W : World) => ∃ (aK : Option Addr) (aL : Nat), v_ = vv (Vl.mk 4 0 0 false [1] [] 0) aK aL none 0 ∧ SRow W .u32 aK ([1]) aL) _ _ := k.dep 1 21 (by kernel_rfl) (by kernel_rfl)
       refine ⟨#[.string ⟨#[43]⟩, vv (Vl.mk 4 0 0 false [1] [] 0) fF fG none 0, vv (Vl.mk 3 0 1 false [] [] 0) none 0 none 0], _, args3 rfl fH (k.eq1 2 22 rfl), fun w => by kernel_rfl, f_m _ _ _ _ _ _ _ _ _ dN (SRow.nil _ _) (SRow.nil _ _) (SRow.nil _ _), ?_⟩
       rintro e w' ⟨rfl, hm⟩
       exact ⟨_, rfl, hm, rfl⟩)) ?_
 refine .m (fun k => k.eq1 3 23 rfl) <| .t (fun _ w hn k => ⟨_, v_extract rfl (k.eq1 4 19 rfl) rfl, rfl⟩) ?_
 refine .o3 ?_
 exact .o2 (step_allocN (cs := [iv 0, iv 0, iv 0, .bool false, sv none ([]) 0, sv none ([]) 0, iv 0]) (t := 29) rfl (noG rfl) (fun _ w hn k => rfl) (fun q _ hq hb => ⟨q, rfl, hq, hb⟩)) <| .off <| .off .nil
 intro i h
 simp only [List.contains_eq_mem, List.mem_cons, List.not_mem_nil, or_false, decide_eq_true_eq] at h
 subst h
 exact eager_take rfl rfl fun _ w hn k => ⟨iv 1, fun w => v_extract rfl (k.eq1 4 19 rfl) rfl, rfl⟩
 refine aftI bL dK bK fun dq g5 bM dO dP be aM => ?_
 have fI := aM.fx 1 ft
 have fJ := aM.fx 2 fu
 have dr := aM.ge 5 24 rfl
 have ds := aM.ge 6 25 rfl
 obtain ⟨dt, du, bN, bf⟩ : IsNew _ _ _ _ _ := aM.got 7 3 rfl (by kernel_rfl)
 have dQ := bJ.new_ be
 have hne64 : aT ≠ dt := by have h1 := bJ.lt; have h2 := bN; omega
 have gv := Nat.le_trans bK.size bN
 have dR := dI.new_ be
 have dS := dJ.new_ be
 obtain ⟨dv, cn, co, bg, dT⟩ := s_many (P := Tryz.prog) (t := 29) (i := 0) [iv 0, iv 0, iv 0, .bool false, sv none ([]) 0, sv none ([]) 0, iv 0] Tryz.sizeOf29 rfl rfl rfl bf lb
 have gw : Blk dv dt 29 [iv 0, iv 0, iv 0, .bool false, sv none ([]) 0, sv none ([]) 0, iv 0] := co
 refine st_act rfl rfl fun g6 dU => a_store' rfl du dr cn (dU _ _ trivial ?_)
 have dV := dR.far bf bg (by first | rfl | decide | simp [notK])
 have dW := dS.far bf bg (by first | rfl | decide | simp [notK])
 have bO := dT _ _ _ (hne64) dQ
 have bP := dP.trans bg (fun _ h b => by subst b; omega)
 refine st_take rfl rfl (y_assign (v := iv 1) rfl ds) rfl ?_
 obtain ⟨fK, ag⟩ : ∃ a', a' = dq.put (some 4) (iv 1) := ⟨_, rfl⟩
 have bQ := pz ag bM
 have dX := pd ag dO
 have fL := pn ag fI (by decide)
 have fM := pn ag fJ (by decide)
 have g7 := pn ag dr (by decide)
 have g8 := pn ag ds (by decide)
 have g9 := pn ag du (by decide)
 have fN : fK.eval (.tmp 4) = iv 1 := by rw [ag]; exact put_same _ _ _ (by rw [bM]; decide)
 show stepsTo _ _ _ _ _ (dq.put (some 4) (iv 1)) _
 rw [← ag]
 refine st_nil (dL _ _ (wp_seq_k fun ha dY => ?_))
 refine wp_g [true, true, true, true, true, true, true, false, false] [5] [(7, false), (8, true)] 99
   [ve (vv (Vl.mk 3 0 1 false [] [] 0) none 0 none 0), ve (vv (Vl.mk 3 0 2 false [] [] 0) none 0 none 0), ve (.tuple #[vv (Vl.mk 0 0 0 false [] [] 0) none 0 none 0, iv 3]), ve (.tuple #[vv (Vl.mk 0 0 0 false [] [] 0) none 0 none 0, iv 3]), ve (vv (Vl.mk 0 0 0 false [] [] 0) none 0 none 0), ve (iv 3), IsNew dv 29 [iv 0, iv 0, iv 0, .bool false, sv none ([]) 0, sv none ([]) 0, iv 0], vt, vt]
   [6] (newsCons (fun v w h => IsNew.old h) newsNil) bQ (.eq (.eq (.eq (.eq (.eq (.eq (.nw (.tt (.tt (.nil)))))))))) ?_ ?_ ?_
 refine .o1 (ck rfl rfl rfl (fun _ w hn k => ⟨#[iv 1], args1 rfl, fun _ => by kernel_rfl, owhole_c 1 _ ⟩) fun _ => rfl) <| .o1 (ck rfl rfl rfl (fun _ w hn k => ⟨#[iv 2], args1 rfl, fun _ => by kernel_rfl, owhole_c 2 _ ⟩) fun _ => rfl) <| .o1 (ck rfl rfl rfl (fun _ w hn k => ⟨#[.string ⟨#[47]⟩, vv (Vl.mk 3 0 1 false [] [] 0) none 0 none 0, vv (Vl.mk 3 0 2 false [] [] 0) none 0 none 0], args3 rfl (k.eq1 0 27 rfl) (k.eq1 1 28 rfl), fun _ => by kernel_rfl, f_d _ _ _ _ _ _ _ _ _ (SRow.nil _ _) (SRow.nil _ _) (SRow.nil _ _) (SRow.nil _ _)⟩) fun _ => rfl) <| .m (fun k => k.eq1 2 29 rfl) <| .t (fun _ w hn k => ⟨_, v_extract rfl (k.eq1 3 26 rfl) rfl, rfl⟩) ?_
 refine .o3 ?_
 exact .o2 (step_allocN (cs := [iv 0, iv 0, iv 0, .bool false, sv none ([]) 0, sv none ([]) 0, iv 0]) (t := 29) rfl (noG rfl) (fun _ w hn k => rfl) (fun q _ hq hb => ⟨q, rfl, hq, hb⟩)) <| .off <| .off .nil
 intro i h
 simp only [List.contains_eq_mem, List.mem_cons, List.not_mem_nil, or_false, decide_eq_true_eq] at h
 subst h
 exact eager_take rfl rfl fun _ w hn k => ⟨iv 3, fun w => v_extract rfl (k.eq1 3 26 rfl) rfl, rfl⟩
 refine aftI bQ dX bP fun dw hc bR dZ cp bh ax => ?_
 have fO := ax.fx 1 fL
 have fP := ax.fx 2 fM
 have fQ := ax.fx 4 fN
 have bS := ax.ge 4 30 rfl
 have bT := ax.ge 5 31 rfl
 obtain ⟨bU, bV, bl, aV⟩ : IsNew _ _ _ _ _ := ax.got 6 5 rfl (by kernel_rfl)
 have cq := bO.new_ bh
 have hne107 : aT ≠ bU := by have h1 := bO.lt; have h2 := bl; omega
 have gi := Nat.le_trans bP.size bl
 have cr := dV.new_ bh
 have ct := dW.new_ bh
 obtain ⟨aW, bW, bX, aX, cu⟩ := s_many (P := Tryz.prog) (t := 29) (i := 0) [iv 0, iv 0, iv 0, .bool false, sv none ([]) 0, sv none ([]) 0, iv 0] Tryz.sizeOf29 rfl rfl rfl aV lb
 have gj : Blk aW bU 29 [iv 0, iv 0, iv 0, .bool false, sv none ([]) 0, sv none ([]) 0, iv 0] := bX
 refine st_act rfl rfl fun gx cv => a_store' rfl bV bS bW (cv _ _ trivial ?_)
 have cw := cr.far aV aX (by first | rfl | decide | simp [notK])
 have cx := ct.far aV aX (by first | rfl | decide | simp [notK])
 have bm := cu _ _ _ (hne107) cq
 have bn := cp.trans aX (fun _ h b => by subst b; omega)
 refine st_take rfl rfl (y_assign (v := iv 3) rfl bT) rfl ?_
 obtain ⟨d0, ad⟩ : ∃ a', a' = dw.put (some 6) (iv 3) := ⟨_, rfl⟩
 have bo := pz ad bR
 have cy := pd ad dZ
 have d1 := pn ad fO (by decide)
 have d2 := pn ad fP (by decide)
 have d3 := pn ad fQ (by decide)
 have gy := pn ad bS (by decide)
 have gz := pn ad bT (by decide)
 have gA := pn ad bV (by decide)
 have d4 : d0.eval (.tmp 6) = iv 3 := by rw [ad]; exact put_same _ _ _ (by rw [bR]; decide)
 show stepsTo _ _ _ _ _ (dw.put (some 6) (iv 3)) _
 rw [← ad]
 refine st_nil (dY _ _ (wp_seq_k fun gB cz => ?_))
 refine wp_g [true, true, true, true, true, true, true, true, false, false] [6] [(8, false), (9, true)] 99
   [(OP aW.heap.size 56 .u32 ([1])), (fun (v_ : Value) (W : World) => ∃ (aN : Option Addr) (aO : Nat), v_ = vv (Vl.mk 4 0 0 false [1] [] 0) aN aO none 0 ∧ SRow W .u32 aN ([1]) aO), (fun (v_ : Value) (W : World) => ∃ (aP : Option Addr) (aQ : Nat), v_ = vv (Vl.mk 4 0 0 false [] [] 0) aP aQ none 0 ∧ SRow W .u32 aP ([]) aQ), ve (.tuple #[vv (Vl.mk 0 0 0 false [] [] 0) none 0 none 0, iv 2]), ve (.tuple #[vv (Vl.mk 0 0 0 false [] [] 0) none 0 none 0, iv 2]), ve (vv (Vl.mk 0 0 0 false [] [] 0) none 0 none 0), ve (iv 2), IsNew aW 29 [iv 0, iv 0, iv 0, .bool false, sv none ([]) 0, sv none ([]) 0, iv 0], vt, vt]
   [7] (newsCons (fun v w h => IsNew.old h) newsNil) bo (.cons (fun _ _ _ n ⟨_, _, e, h⟩ => ⟨_, _, e, h.new_ n⟩) (.cons (fun v W W' hn ⟨aN, aO, he, h0⟩ => ⟨aN, aO, he, h0.new_ hn⟩) (.cons (fun _ _ _ n ⟨_, _, e, h⟩ => ⟨_, _, e, h.new_ n⟩) (.eq (.eq (.eq (.eq (.nw (.tt (.tt (.nil))))))))))) ?_ ?_ ?_
 refine .o1 (tkA rfl (noG rfl) fun _ w hn k => (by
       exact x_bslice (k := .u32) (ps := [(0, .int .u32 1)]) [1] rfl (parts1 rfl) elW rfl (by omega) (by omega) (by first | kernel_rfl | (simp only [enc, List.map_cons, List.map_nil, Int.toNat_natCast, Int.toNat_of_nonneg (by omega : (0 : Int) ≤ _)]; kernel_rfl)) fun fT fU W' hmo => ⟨fT, fU, rfl, (hmo.more hn.size)⟩)) ?_
 refine .o1 (tkC rfl (noG rfl) rfl fun _ w hn k => (by
       obtain ⟨fV, fW, fX, d5⟩ : (OP aW.heap.size 56 .u32 ([1])) _ _ := k.dep 0 33 (by kernel_rfl) (by kernel_rfl)
       refine ⟨#[sv fV ([1]) fW], _, args1 fX, fun w => by kernel_rfl, obig_c _ ([1]) _ _ d5.row, ?_⟩
       rintro e w' ⟨fY, fZ, rfl, hmo0, hm⟩
       exact ⟨_, rfl, hm, ⟨fY, fZ, rfl, hmo0⟩⟩)) ?_
 refine .o1 (tkC rfl (noG rfl) rfl fun _ w hn k => (by
       refine ⟨#[sv none ([]) 0], _, args1 rfl, fun w => by kernel_rfl, obig_c _ ([]) _ _ (SRow.nil _ _), ?_⟩
       rintro e w' ⟨f0, f1, rfl, hmo0, hm⟩
       exact ⟨_, rfl, hm, ⟨f0, f1, rfl, hmo0⟩⟩)) ?_
 refine .o1 (tkC rfl (noG rfl) rfl fun _ w hn k => (by
       obtain ⟨f2, f3, f4, d6⟩ : (fun (v_ : Value) (W : World) => ∃ (aN : Option Addr) (aO : Nat), v_ = vv (Vl.mk 4 0 0 false [1] [] 0) aN aO none 0 ∧ SRow W .u32 aN ([1]) aO) _ _ := k.dep 1 34 (by kernel_rfl) (by kernel_rfl)
       obtain ⟨f5, f6, f7, d7⟩ : (fun (v_ : Value) (W : World) => ∃ (aP : Option Addr) (aQ : Nat), v_ = vv (Vl.mk 4 0 0 false [] [] 0) aP aQ none 0 ∧ SRow W .u32 aP ([]) aQ) _ _ := k.dep 2 35 (by kernel_rfl) (by kernel_rfl)
       refine ⟨#[.string ⟨#[47]⟩, vv (Vl.mk 4 0 0 false [1] [] 0) f2 f3 none 0, vv (Vl.mk 4 0 0 false [] [] 0) f5 f6 none 0], _, args3 rfl f4 f7, fun w => by kernel_rfl, f_b _ _ _ _ _ _ _ _ _ d6 (SRow.nil _ _) d7 (SRow.nil _ _), ?_⟩
       rintro e w' ⟨rfl, hm⟩
       exact ⟨_, rfl, hm, rfl⟩)) ?_
 refine .m (fun k => k.eq1 3 36 rfl) <| .t (fun _ w hn k => ⟨_, v_extract rfl (k.eq1 4 32 rfl) rfl, rfl⟩) ?_
 refine .o3 ?_
 exact .o2 (step_allocN (cs := [iv 0, iv 0, iv 0, .bool false, sv none ([]) 0, sv none ([]) 0, iv 0]) (t := 29) rfl (noG rfl) (fun _ w hn k => rfl) (fun q _ hq hb => ⟨q, rfl, hq, hb⟩)) <| .off <| .off .nil
 intro i h
 simp only [List.contains_eq_mem, List.mem_cons, List.not_mem_nil, or_false, decide_eq_true_eq] at h
 subst h
 exact eager_take rfl rfl fun _ w hn k => ⟨iv 2, fun w => v_extract rfl (k.eq1 4 32 rfl) rfl, rfl⟩
 refine aftI bo cy bn fun bY gC bp cA cB aY ah => ?_
 have d8 := ah.fx 1 d1
 have d9 := ah.fx 2 d2
 have ea := ah.fx 4 d3
 have eb := ah.fx 6 d4
 have bZ := ah.ge 5 37 rfl
 have b0 := ah.ge 6 38 rfl
 obtain ⟨b1, b2, bq, aZ⟩ : IsNew _ _ _ _ _ := ah.got 7 7 rfl (by kernel_rfl)
 have cC := bm.new_ aY
 have hne152 : aT ≠ b1 := by have h1 := bm.lt; have h2 := bq; omega
 have gk := Nat.le_trans bn.size bq
 have cD := cw.new_ aY
 have cE := cx.new_ aY
 obtain ⟨a1, b3, b4, a3, cF⟩ := s_many (P := Tryz.prog) (t := 29) (i := 0) [iv 0, iv 0, iv 0, .bool false, sv none ([]) 0, sv none ([]) 0, iv 0] Tryz.sizeOf29 rfl rfl rfl aZ lb
 have gl : Blk a1 b1 29 [iv 0, iv 0, iv 0, .bool false, sv none ([]) 0, sv none ([]) 0, iv 0] := b4
 refine st_act rfl rfl fun gD cG => a_store' rfl b2 bZ b3 (cG _ _ trivial ?_)
 have cH := cD.far aZ a3 (by first | rfl | decide | simp [notK])
 have cI := cE.far aZ a3 (by first | rfl | decide | simp [notK])
 have br := cF _ _ _ (hne152) cC
 have bs := cB.trans a3 (fun _ h b => by subst b; omega)
 refine st_take rfl rfl (y_assign (v := iv 2) rfl b0) rfl ?_
 obtain ⟨ec, ac⟩ : ∃ a', a' = bY.put (some 8) (iv 2) := ⟨_, rfl⟩
 have bt := pz ac bp
 have cJ := pd ac cA
 have ed := pn ac d8 (by decide)
 have ee := pn ac d9 (by decide)
 have ef := pn ac ea (by decide)
 have eg := pn ac eb (by decide)
 have gE := pn ac bZ (by decide)
 have gF := pn ac b0 (by decide)
 have gG := pn ac b2 (by decide)
 have eh : ec.eval (.tmp 8) = iv 2 := by rw [ac]; exact put_same _ _ _ (by rw [bp]; decide)
 show stepsTo _ _ _ _ _ (bY.put (some 8) (iv 2)) _
 rw [← ac]
 refine st_nil (cz _ _ (wp_seq_k fun gH cK => ?_))
 refine wp_g [true, true, true, true, true, true, true, true, false, false] [6] [(8, false), (9, true)] 99
   [(OP a1.heap.size 56 .u32 ([1])), (fun (v_ : Value) (W : World) => ∃ (an : Option Addr) (ao : Nat), v_ = vv (Vl.mk 4 0 0 false [1] [] 0) an ao none 0 ∧ SRow W .u32 an ([1]) ao), ve (vv (Vl.mk 3 0 2 false [] [] 0) none 0 none 0), ve (.tuple #[vv (Vl.mk 2 0 0 false [] [] 1) none 0 none 0, iv 0]), ve (.tuple #[vv (Vl.mk 2 0 0 false [] [] 1) none 0 none 0, iv 0]), ve (vv (Vl.mk 2 0 0 false [] [] 1) none 0 none 0), ve (iv 0), IsNew a1 29 [iv 0, iv 0, iv 0, .bool false, sv none ([]) 0, sv none ([]) 0, iv 0], vt, vt]
   [7] (newsCons (fun v w h => IsNew.old h) newsNil) bt (.cons (fun _ _ _ n ⟨_, _, e, h⟩ => ⟨_, _, e, h.new_ n⟩) (.cons (fun v W W' hn ⟨an, ao, he, h0⟩ => ⟨an, ao, he, h0.new_ hn⟩) (.eq (.eq (.eq (.eq (.eq (.nw (.tt (.tt (.nil))))))))))) ?_ ?_ ?_
 refine .o1 (tkA rfl (noG rfl) fun _ w hn k => (by
       exact x_bslice (k := .u32) (ps := [(0, .int .u32 1)]) [1] rfl (parts1 rfl) elW rfl (by omega) (by omega) (by first | kernel_rfl | (simp only [enc, List.map_cons, List.map_nil, Int.toNat_natCast, Int.toNat_of_nonneg (by omega : (0 : Int) ≤ _)]; kernel_rfl)) fun ga gb W' hmo => ⟨ga, gb, rfl, (hmo.more hn.size)⟩)) ?_
 refine .o1 (tkC rfl (noG rfl) rfl fun _ w hn k => (by
       obtain ⟨gc, gd, gg, cL⟩ : (OP a1.heap.size 56 .u32 ([1])) _ _ := k.dep 0 40 (by kernel_rfl) (by kernel_rfl)
       refine ⟨#[sv gc ([1]) gd], _, args1 gg, fun w => by kernel_rfl, obig_c _ ([1]) _ _ cL.row, ?_⟩
       rintro e w' ⟨ei, ej, rfl, hmo0, hm⟩
       exact ⟨_, rfl, hm, ⟨ei, ej, rfl, hmo0⟩⟩)) ?_
 refine .o1 (ck rfl rfl rfl (fun _ w hn k => ⟨#[iv 2], args1 rfl, fun _ => by kernel_rfl, owhole_c 2 _ ⟩) fun _ => rfl) ?_
 refine .o1 (tkC rfl (noG rfl) rfl fun _ w hn k => (by
       obtain ⟨ek, el, em, cM⟩ : (fun (v_ : Value) (W : World) => ∃ (an : Option Addr) (ao : Nat), v_ = vv (Vl.mk 4 0 0 false [1] [] 0) an ao none 0 ∧ SRow W .u32 an ([1]) ao) _ _ := k.dep 1 41 (by kernel_rfl) (by kernel_rfl)
       refine ⟨#[.string ⟨#[60]⟩, vv (Vl.mk 4 0 0 false [1] [] 0) ek el none 0, vv (Vl.mk 3 0 2 false [] [] 0) none 0 none 0], _, args3 rfl em (k.eq1 2 42 rfl), fun w => by kernel_rfl, f_l _ _ _ _ _ _ _ _ _ cM (SRow.nil _ _) (SRow.nil _ _) (SRow.nil _ _), ?_⟩
       rintro e w' ⟨rfl, hm⟩
       exact ⟨_, rfl, hm, rfl⟩)) ?_
 refine .m (fun k => k.eq1 3 43 rfl) <| .t (fun _ w hn k => ⟨_, v_extract rfl (k.eq1 4 39 rfl) rfl, rfl⟩) ?_
 refine .o3 ?_
 exact .o2 (step_allocN (cs := [iv 0, iv 0, iv 0, .bool false, sv none ([]) 0, sv none ([]) 0, iv 0]) (t := 29) rfl (noG rfl) (fun _ w hn k => rfl) (fun q _ hq hb => ⟨q, rfl, hq, hb⟩)) <| .off <| .off .nil
 intro i h
 simp only [List.contains_eq_mem, List.mem_cons, List.not_mem_nil, or_false, decide_eq_true_eq] at h
 subst h
 exact eager_take rfl rfl fun _ w hn k => ⟨iv 0, fun w => v_extract rfl (k.eq1 4 39 rfl) rfl, rfl⟩
 refine aftI bt cJ bs fun b5 gI bu cN cO a4 af => ?_
 have en := af.fx 1 ed
 have eo := af.fx 2 ee
 have ep := af.fx 4 ef
 have er := af.fx 6 eg
 have es := af.fx 8 eh
 have b6 := af.ge 5 44 rfl
 have b7 := af.ge 6 45 rfl
 obtain ⟨aR, b8, bv, a5⟩ : IsNew _ _ _ _ _ := af.got 7 9 rfl (by kernel_rfl)
 have cP := br.new_ a4
 have hne199 : aT ≠ aR := by have h1 := br.lt; have h2 := bv; omega
 have gn := Nat.le_trans bs.size bv
 have cQ := cH.new_ a4
 have cR := cI.new_ a4
 obtain ⟨b9, ca, cb, a6, cS⟩ := s_many (P := Tryz.prog) (t := 29) (i := 0) [iv 2, iv 0, iv 0, .bool false, sv none ([]) 0, sv none ([]) 0, iv 1] Tryz.sizeOf29 rfl rfl rfl a5 lb
 have bw : Blk b9 aR 29 [iv 2, iv 0, iv 0, .bool false, sv none ([]) 0, sv none ([]) 0, iv 1] := cb
 refine st_act rfl rfl fun gJ cT => a_store' rfl b8 b6 ca (cT _ _ trivial ?_)
 have cU := cQ.far a5 a6 (by first | rfl | decide | simp [notK])
 have cV := cR.far a5 a6 (by first | rfl | decide | simp [notK])
 have bx := cS _ _ _ (hne199) cP
 have bz := cO.trans a6 (fun _ h b => by subst b; omega)
 refine st_take rfl rfl (y_assign (v := iv 0) rfl b7) rfl ?_
 obtain ⟨et, ab⟩ : ∃ a', a' = b5.put (some 10) (iv 0) := ⟨_, rfl⟩
 have bA := pz ab bu
 have cW := pd ab cN
 have eu := pn ab en (by decide)
 have ev := pn ab eo (by decide)
 have ew := pn ab ep (by decide)
 have ex := pn ab er (by decide)
 have ey := pn ab es (by decide)
 have gK := pn ab b6 (by decide)
 have gL := pn ab b7 (by decide)
 have ez := pn ab b8 (by decide)
 have eA : et.eval (.tmp 10) = iv 0 := by rw [ab]; exact put_same _ _ _ (by rw [bu]; decide)
 show stepsTo _ _ _ _ _ (b5.put (some 10) (iv 0)) _
 rw [← ab]
 refine st_nil (cK _ _ (wp_seq_k fun gM cX => ?_))
 refine wp_g [true, true, true, true, true, true, false, false] [4] [(6, false), (7, true)] 99
   [ve (vv (Vl.mk 3 0 0 false [] [] 0) none 0 none 0), ve (.tuple #[vv (Vl.mk 3 1 0 false [] [] 0) none 0 none 0, iv 0]), ve (.tuple #[vv (Vl.mk 3 1 0 false [] [] 0) none 0 none 0, iv 0]), ve (vv (Vl.mk 3 1 0 false [] [] 0) none 0 none 0), ve (iv 0), IsNew b9 29 [iv 0, iv 0, iv 0, .bool false, sv none ([]) 0, sv none ([]) 0, iv 0], vt, vt]
   [5] (newsCons (fun v w h => IsNew.old h) newsNil) bA (.eq (.eq (.eq (.eq (.eq (.nw (.tt (.tt (.nil))))))))) ?_ ?_ ?_
 refine .o1 (ck rfl rfl rfl (fun _ w hn k => ⟨#[iv 0], args1 rfl, fun _ => by kernel_rfl, owhole_c 0 _ ⟩) fun _ => rfl) <| .o1 (ck rfl rfl rfl (fun _ w hn k => ⟨#[.string ⟨#[45]⟩, vv (Vl.mk 3 0 0 false [] [] 0) none 0 none 0], args2 rfl (k.eq1 0 47 rfl), fun _ => by kernel_rfl, f_n _ _ _ _ _ (SRow.nil _ _) (SRow.nil _ _)⟩) fun _ => rfl) <| .m (fun k => k.eq1 1 48 rfl) <| .t (fun _ w hn k => ⟨_, v_extract rfl (k.eq1 2 46 rfl) rfl, rfl⟩) ?_
 refine .o3 ?_
 exact .o2 (step_allocN (cs := [iv 0, iv 0, iv 0, .bool false, sv none ([]) 0, sv none ([]) 0, iv 0]) (t := 29) rfl (noG rfl) (fun _ w hn k => rfl) (fun q _ hq hb => ⟨q, rfl, hq, hb⟩)) <| .off <| .off .nil
 intro i h
 simp only [List.contains_eq_mem, List.mem_cons, List.not_mem_nil, or_false, decide_eq_true_eq] at h
 subst h
 exact eager_take rfl rfl fun _ w hn k => ⟨iv 0, fun w => v_extract rfl (k.eq1 2 46 rfl) rfl, rfl⟩
 refine aftI bA cW bz fun cc gN bB cY cZ ay ae => ?_
 have eB := ae.fx 1 eu
 have eC := ae.fx 2 ev
 have eD := ae.fx 4 ew
 have eE := ae.fx 6 ex
 have eF := ae.fx 8 ey
 have eG := ae.fx 9 ez
 have eH := ae.fx 10 eA
 have cd := ae.ge 3 49 rfl
 have ce := ae.ge 4 50 rfl
 obtain ⟨aS, cf, a7, a8⟩ : IsNew _ _ _ _ _ := ae.got 5 11 rfl (by kernel_rfl)
 have c0 := bx.new_ ay
 have c1 := bw.new_ ay
 have hne250 : aT ≠ aS := by have h1 := bx.lt; have h2 := a7; omega
 have hne251 : aR ≠ aS := by have h1 := bw.lt; have h2 := a7; omega
 have go := Nat.le_trans bz.size a7
 have c3 := cU.new_ ay
 have c5 := cV.new_ ay
 obtain ⟨eI, ch, ci, a9, bC⟩ := s_many (P := Tryz.prog) (t := 29) (i := 0) [iv 3, iv 1, iv 0, .bool false, sv none ([]) 0, sv none ([]) 0, iv 0] Tryz.sizeOf29 rfl rfl rfl a8 lb
 have c7 : Blk eI aS 29 [iv 3, iv 1, iv 0, .bool false, sv none ([]) 0, sv none ([]) 0, iv 0] := ci
 refine st_act rfl rfl fun gO c8 => a_store' rfl cf cd ch (c8 _ _ trivial ?_)
 have c9 := c3.far a8 a9 (by first | rfl | decide | simp [notK])
 have da := c5.far a8 a9 (by first | rfl | decide | simp [notK])
 have db := bC _ _ _ (hne250) c0
 have bD := bC _ _ _ (hne251) c1
 have dc := cZ.trans a9 (fun _ h b => by subst b; omega)
 refine st_take rfl rfl (y_assign (v := iv 0) rfl ce) rfl ?_
 obtain ⟨eJ, aa⟩ : ∃ a', a' = cc.put (some 12) (iv 0) := ⟨_, rfl⟩
 have bE := pz aa bB
 have dd := pd aa cY
 have eK := pn aa eB (by decide)
 have eL := pn aa eC (by decide)
 have eM := pn aa eD (by decide)
 have eN := pn aa eE (by decide)
 have eO := pn aa eF (by decide)
 have cj := pn aa eG (by decide)
 have eP := pn aa eH (by decide)
 have gP := pn aa cd (by decide)
 have gQ := pn aa ce (by decide)
 have eQ := pn aa cf (by decide)
 have eR : eJ.eval (.tmp 12) = iv 0 := by rw [aa]; exact put_same _ _ _ (by rw [bB]; decide)
 show stepsTo _ _ _ _ _ (cc.put (some 12) (iv 0)) _
 rw [← aa]
 refine st_nil (cX _ _ (wp_seq_k fun gR de => ?_))
 have bF : (decide (((joinV (cleanV (Vl.mk 5 0 0 false [] (asc ⟨#[97]⟩) 0)) (cleanV (Vl.mk 3 0 1 false [] [] 0))).2) = 0)) = true := by rw [join_a1]; rfl
 have gh := oT bF
 have df : (sameV ((joinV (cleanV (Vl.mk 5 0 0 false [] (asc ⟨#[97]⟩) 0)) (cleanV (Vl.mk 3 0 1 false [] [] 0))).1) (Vl.mk 5 0 0 false [] (asc ⟨#[97, 49]⟩) 0)) = true := by rw [join_a1]; decide +kernel
 refine wp_g0 (.replicate 49 true) [] 99
   [ve (iv ((joinV (cleanV (Vl.mk 5 0 0 false [] (asc ⟨#[97]⟩) 0)) (cleanV (Vl.mk 3 0 1 false [] [] 0))).2)), vT, vT, ve (vv (joinV (cleanV (Vl.mk 5 0 0 false [] (asc ⟨#[97]⟩) 0)) (cleanV (Vl.mk 3 0 1 false [] [] 0))).1 aH aI ba aJ), (fun (v_ : Value) (W : World) => ∃ (ap : Option Addr) (aq : Nat), v_ = vv (Vl.mk 5 0 0 false [] (asc ⟨#[97, 49]⟩) 0) none 0 ap aq ∧ SRow W .u16 ap (asc ⟨#[97, 49]⟩) aq), vT, vT, vT, ve (iv 1), vT, vT, vT, ve (iv 3), vT, vT, vT, ve (iv 2), vT, vT, vT, ve (iv 0), vT, vT, vT, ve (pv aR), ve (iv 2), vT, vT, vT, ve (.pointer (some ⟨aR, 6, none⟩)), ve (iv 1), vT, vT, vT, ve (iv 0), vT, vT, vT, ve (.pointer (some ⟨aS, 1, none⟩)), ve (.pointer (some ⟨aS, 1, none⟩)), ve (iv 1), vT, vT, vT, (fun (v_ : Value) (W : World) => ∃ (ar : Option Addr) (au : Nat), v_ = svT ar ([⟨#[43]⟩, ⟨#[45]⟩, ⟨#[42]⟩, ⟨#[47]⟩, ⟨#[37]⟩, ⟨#[38]⟩, ⟨#[124]⟩, ⟨#[94]⟩, ⟨#[60, 60]⟩, ⟨#[62, 62]⟩, ⟨#[62, 62, 62]⟩, ⟨#[60]⟩, ⟨#[62]⟩, ⟨#[60, 61]⟩, ⟨#[62, 61]⟩, ⟨#[61, 61]⟩, ⟨#[33, 61]⟩, ⟨#[61, 61, 61]⟩, ⟨#[33, 61, 61]⟩]) au ∧ TRow W ar ([⟨#[43]⟩, ⟨#[45]⟩, ⟨#[42]⟩, ⟨#[47]⟩, ⟨#[37]⟩, ⟨#[38]⟩, ⟨#[124]⟩, ⟨#[94]⟩, ⟨#[60, 60]⟩, ⟨#[62, 62]⟩, ⟨#[62, 62, 62]⟩, ⟨#[60]⟩, ⟨#[62]⟩, ⟨#[60, 61]⟩, ⟨#[62, 61]⟩, ⟨#[61, 61]⟩, ⟨#[33, 61]⟩, ⟨#[61, 61, 61]⟩, ⟨#[33, 61, 61]⟩]) au), (fun (v_ : Value) (W : World) => ∃ (av : Option Addr) (aw : Nat), v_ = svT av ([⟨#[43]⟩, ⟨#[45]⟩, ⟨#[42]⟩, ⟨#[47]⟩, ⟨#[37]⟩, ⟨#[38]⟩, ⟨#[124]⟩, ⟨#[94]⟩, ⟨#[60, 60]⟩, ⟨#[62, 62]⟩, ⟨#[62, 62, 62]⟩, ⟨#[60]⟩, ⟨#[62]⟩, ⟨#[60, 61]⟩, ⟨#[62, 61]⟩, ⟨#[61, 61]⟩, ⟨#[33, 61]⟩, ⟨#[61, 61, 61]⟩, ⟨#[33, 61, 61]⟩]) aw ∧ TRow W av ([⟨#[43]⟩, ⟨#[45]⟩, ⟨#[42]⟩, ⟨#[47]⟩, ⟨#[37]⟩, ⟨#[38]⟩, ⟨#[124]⟩, ⟨#[94]⟩, ⟨#[60, 60]⟩, ⟨#[62, 62]⟩, ⟨#[62, 62, 62]⟩, ⟨#[60]⟩, ⟨#[62]⟩, ⟨#[60, 61]⟩, ⟨#[62, 61]⟩, ⟨#[61, 61]⟩, ⟨#[33, 61]⟩, ⟨#[61, 61, 61]⟩, ⟨#[33, 61, 61]⟩]) aw), vT, vT, vT] bE (.eq (.eq (.eq (.eq (.cons (fun _ _ _ n ⟨_, _, e, h⟩ => ⟨_, _, e, h.new_ n⟩) (.eq (.eq (.eq (.eq (.eq (.eq (.eq (.eq (.eq (.eq (.eq (.eq (.eq (.eq (.eq (.eq (.eq (.eq (.eq (.eq (.eq (.eq (.eq (.eq (.eq (.eq (.eq (.eq (.eq (.eq (.eq (.eq (.eq (.eq (.eq (.eq (.eq (.eq (.eq (.cons (fun _ _ _ n ⟨_, _, e, h⟩ => ⟨_, _, e, h.new_ n⟩) (.cons (fun v W W' hn ⟨av, aw, he, h0⟩ => ⟨av, aw, he, h0.new_ hn⟩) (.eq (.eq (.eq (.nil)))))))))))))))))))))))))))))))))))))))))))))))))) ?_ ?_
 refine .m (fun k => k.fx 2 eL) <| .t (fun _ w hn k => ⟨_, v_bin rfl (k.eq1 0 51 rfl) rfl (fun _ => rfl) (r_eql bF), rfl⟩) <| .m (fun k => k.eq1 1 52 rfl) <| .g (fun k => k.eq1 2 53 rfl) (fun _ w hn k => ⟨_, v_load rfl (k.fx 1 eK) (l_agg Tryz.isAgg29 Tryz.sizeOf29 (db.new_ hn) rfl), rfl⟩) ?_
 refine .o1 (tkC rfl (onG rfl rfl fun _ _ k => k.eq1 2 53 rfl) rfl fun _ w hn k => (by
       refine ⟨#[.string ⟨#[97, 49]⟩], _, args1 rfl, fun w => by kernel_rfl, ostr_c ⟨#[97, 49]⟩ _ (by first | omega | (show (_ : Nat) ≤ _; decide)), ?_⟩
       rintro e w' ⟨eS, eT, rfl, hmo0, hm⟩
       exact ⟨_, rfl, hm, ⟨eS, eT, rfl, hmo0⟩⟩)) ?_
 refine .o1 (tkC rfl (onG rfl rfl fun _ _ k => k.eq1 2 53 rfl) rfl fun _ w hn k => (by
       obtain ⟨eU, eV, eW, dg⟩ : (fun (v_ : Value) (W : World) => ∃ (ap : Option Addr) (aq : Nat), v_ = vv (Vl.mk 5 0 0 false [] (asc ⟨#[97, 49]⟩) 0) none 0 ap aq ∧ SRow W .u16 ap (asc ⟨#[97, 49]⟩) aq) _ _ := k.dep 4 55 (by kernel_rfl) (by kernel_rfl)
       refine ⟨#[vv (joinV (cleanV (Vl.mk 5 0 0 false [] (asc ⟨#[97]⟩) 0)) (cleanV (Vl.mk 3 0 1 false [] [] 0))).1 aH aI ba aJ, vv (Vl.mk 5 0 0 false [] (asc ⟨#[97, 49]⟩) 0) none 0 eU eV], _, args2 (k.eq1 3 54 rfl) eW, fun w => by kernel_rfl, vsame_c ((joinV (cleanV (Vl.mk 5 0 0 false [] (asc ⟨#[97]⟩) 0)) (cleanV (Vl.mk 3 0 1 false [] [] 0))).1) _ _ _ _ (Vl.mk 5 0 0 false [] (asc ⟨#[97, 49]⟩) 0) _ _ _ _ _ (c9.new_ hn) (da.new_ hn) (SRow.nil _ _) dg, ?_⟩
       rintro e w' ⟨rfl, hm⟩
       exact ⟨_, rfl, hm, congrArg Value.bool df⟩)) ?_
 refine .t (fun _ w hn k => ⟨_, v_pickT rfl (k.eq1 2 53 rfl) (k.eq1 5 56 rfl), rfl⟩) <| .m (fun k => k.eq1 6 57 rfl) <| .gm (fun k => k.eq1 7 58 rfl) (fun k => k.fx 4 eM) <| .g (fun k => k.eq1 7 58 rfl) (fun _ w hn k => ⟨_, v_bin rfl (k.eq1 8 59 rfl) rfl (fun _ => rfl) (fun w => by kernel_rfl), rfl⟩) <| .t (fun _ w hn k => ⟨_, v_pickT rfl (k.eq1 7 58 rfl) (k.eq1 9 60 rfl), rfl⟩) <| .m (fun k => k.eq1 10 61 rfl) <| .gm (fun k => k.eq1 11 62 rfl) (fun k => k.fx 6 eN) <| .g (fun k => k.eq1 11 62 rfl) (fun _ w hn k => ⟨_, v_bin rfl (k.eq1 12 63 rfl) rfl (fun _ => rfl) (fun w => by kernel_rfl), rfl⟩) <| .t (fun _ w hn k => ⟨_, v_pickT rfl (k.eq1 11 62 rfl) (k.eq1 13 64 rfl), rfl⟩) <| .m (fun k => k.eq1 14 65 rfl) <| .gm (fun k => k.eq1 15 66 rfl) (fun k => k.fx 8 eO) <| .g (fun k => k.eq1 15 66 rfl) (fun _ w hn k => ⟨_, v_bin rfl (k.eq1 16 67 rfl) rfl (fun _ => rfl) (fun w => by kernel_rfl), rfl⟩) <| .t (fun _ w hn k => ⟨_, v_pickT rfl (k.eq1 15 66 rfl) (k.eq1 17 68 rfl), rfl⟩) <| .m (fun k => k.eq1 18 69 rfl) <| .gm (fun k => k.eq1 19 70 rfl) (fun k => k.fx 10 eP) <| .g (fun k => k.eq1 19 70 rfl) (fun _ w hn k => ⟨_, v_bin rfl (k.eq1 20 71 rfl) rfl (fun _ => rfl) (fun w => by kernel_rfl), rfl⟩) <| .t (fun _ w hn k => ⟨_, v_pickT rfl (k.eq1 19 70 rfl) (k.eq1 21 72 rfl), rfl⟩) <| .m (fun k => k.eq1 22 73 rfl) <| .gf (fun k => k.eq1 23 74 rfl) (fun k => k.fx 9 cj) <| .g (fun k => k.eq1 23 74 rfl) (fun _ w hn k => ⟨_, v_load rfl (k.eq1 24 75 rfl) (l_one Tryz.isAgg3 ((bD.new_ hn).cell 0)), rfl⟩) <| .g (fun k => k.eq1 23 74 rfl) (fun _ w hn k => ⟨_, v_bin rfl (k.eq1 25 76 rfl) rfl (fun _ => rfl) (fun w => by kernel_rfl), rfl⟩) <| .t (fun _ w hn k => ⟨_, v_pickT rfl (k.eq1 23 74 rfl) (k.eq1 26 77 rfl), rfl⟩) <| .m (fun k => k.eq1 27 78 rfl) <| .gf (fun k => k.eq1 28 79 rfl) (fun k => k.fx 9 cj) <| .g (fun k => k.eq1 28 79 rfl) (fun _ w hn k => ⟨_, v_load rfl (k.eq1 29 80 rfl) (l_one Tryz.isAgg3 ((bD.new_ hn).cell 6)), rfl⟩) <| .g (fun k => k.eq1 28 79 rfl) (fun _ w hn k => ⟨_, v_bin rfl (k.eq1 30 81 rfl) rfl (fun _ => rfl) (fun w => by kernel_rfl), rfl⟩) <| .t (fun _ w hn k => ⟨_, v_pickT rfl (k.eq1 28 79 rfl) (k.eq1 31 82 rfl), rfl⟩) <| .m (fun k => k.eq1 32 83 rfl) <| .gm (fun k => k.eq1 33 84 rfl) (fun k => k.fx 12 eR) <| .g (fun k => k.eq1 33 84 rfl) (fun _ w hn k => ⟨_, v_bin rfl (k.eq1 34 85 rfl) rfl (fun _ => rfl) (fun w => by kernel_rfl), rfl⟩) <| .t (fun _ w hn k => ⟨_, v_pickT rfl (k.eq1 33 84 rfl) (k.eq1 35 86 rfl), rfl⟩) <| .m (fun k => k.eq1 36 87 rfl) <| .gf (fun k => k.eq1 37 88 rfl) (fun k => k.fx 11 eQ) <| .gf (fun k => k.eq1 37 88 rfl) (fun k => k.eq1 38 89 rfl) <| .g (fun k => k.eq1 37 88 rfl) (fun _ w hn k => ⟨_, v_load rfl (k.eq1 39 90 rfl) (l_one Tryz.isAgg3 ((c7.new_ hn).cell 1)), rfl⟩) <| .g (fun k => k.eq1 37 88 rfl) (fun _ w hn k => ⟨_, v_bin rfl (k.eq1 40 91 rfl) rfl (fun _ => rfl) (fun w => by kernel_rfl), rfl⟩) <| .t (fun _ w hn k => ⟨_, v_pickT rfl (k.eq1 37 88 rfl) (k.eq1 41 92 rfl), rfl⟩) <| .m (fun k => k.eq1 42 93 rfl) ?_
 refine .o1 (tkC rfl (onG rfl rfl fun _ _ k => k.eq1 43 94 rfl) rfl fun _ w hn k => (by
       refine ⟨#[], _, rfl, fun w => by kernel_rfl, ops_c  _ , ?_⟩
       rintro e w' ⟨eX, eY, rfl, hmo0, hm⟩
       exact ⟨_, rfl, hm, ⟨eX, eY, rfl, hmo0⟩⟩)) ?_
 refine .o1 (tkC rfl (onG rfl rfl fun _ _ k => k.eq1 43 94 rfl) rfl fun _ w hn k => (by
       refine ⟨#[], _, rfl, fun w => by kernel_rfl, rops_c  _ , ?_⟩
       rintro e w' ⟨eZ, e0, rfl, hmo0, hm⟩
       exact ⟨_, rfl, hm, ⟨eZ, e0, rfl, hmo0⟩⟩)) ?_
 refine .o1 (tkC rfl (onG rfl rfl fun _ _ k => k.eq1 43 94 rfl) rfl fun _ w hn k => (by
       obtain ⟨e1, e2, e3, dh⟩ : (fun (v_ : Value) (W : World) => ∃ (ar : Option Addr) (au : Nat), v_ = svT ar ([⟨#[43]⟩, ⟨#[45]⟩, ⟨#[42]⟩, ⟨#[47]⟩, ⟨#[37]⟩, ⟨#[38]⟩, ⟨#[124]⟩, ⟨#[94]⟩, ⟨#[60, 60]⟩, ⟨#[62, 62]⟩, ⟨#[62, 62, 62]⟩, ⟨#[60]⟩, ⟨#[62]⟩, ⟨#[60, 61]⟩, ⟨#[62, 61]⟩, ⟨#[61, 61]⟩, ⟨#[33, 61]⟩, ⟨#[61, 61, 61]⟩, ⟨#[33, 61, 61]⟩]) au ∧ TRow W ar ([⟨#[43]⟩, ⟨#[45]⟩, ⟨#[42]⟩, ⟨#[47]⟩, ⟨#[37]⟩, ⟨#[38]⟩, ⟨#[124]⟩, ⟨#[94]⟩, ⟨#[60, 60]⟩, ⟨#[62, 62]⟩, ⟨#[62, 62, 62]⟩, ⟨#[60]⟩, ⟨#[62]⟩, ⟨#[60, 61]⟩, ⟨#[62, 61]⟩, ⟨#[61, 61]⟩, ⟨#[33, 61]⟩, ⟨#[61, 61, 61]⟩, ⟨#[33, 61, 61]⟩]) au) _ _ := k.dep 44 95 (by kernel_rfl) (by kernel_rfl)
       obtain ⟨e4, e5, e6, di⟩ : (fun (v_ : Value) (W : World) => ∃ (av : Option Addr) (aw : Nat), v_ = svT av ([⟨#[43]⟩, ⟨#[45]⟩, ⟨#[42]⟩, ⟨#[47]⟩, ⟨#[37]⟩, ⟨#[38]⟩, ⟨#[124]⟩, ⟨#[94]⟩, ⟨#[60, 60]⟩, ⟨#[62, 62]⟩, ⟨#[62, 62, 62]⟩, ⟨#[60]⟩, ⟨#[62]⟩, ⟨#[60, 61]⟩, ⟨#[62, 61]⟩, ⟨#[61, 61]⟩, ⟨#[33, 61]⟩, ⟨#[61, 61, 61]⟩, ⟨#[33, 61, 61]⟩]) aw ∧ TRow W av ([⟨#[43]⟩, ⟨#[45]⟩, ⟨#[42]⟩, ⟨#[47]⟩, ⟨#[37]⟩, ⟨#[38]⟩, ⟨#[124]⟩, ⟨#[94]⟩, ⟨#[60, 60]⟩, ⟨#[62, 62]⟩, ⟨#[62, 62, 62]⟩, ⟨#[60]⟩, ⟨#[62]⟩, ⟨#[60, 61]⟩, ⟨#[62, 61]⟩, ⟨#[61, 61]⟩, ⟨#[33, 61]⟩, ⟨#[61, 61, 61]⟩, ⟨#[33, 61, 61]⟩]) aw) _ _ := k.dep 45 96 (by kernel_rfl) (by kernel_rfl)
       refine ⟨#[svT e1 ([⟨#[43]⟩, ⟨#[45]⟩, ⟨#[42]⟩, ⟨#[47]⟩, ⟨#[37]⟩, ⟨#[38]⟩, ⟨#[124]⟩, ⟨#[94]⟩, ⟨#[60, 60]⟩, ⟨#[62, 62]⟩, ⟨#[62, 62, 62]⟩, ⟨#[60]⟩, ⟨#[62]⟩, ⟨#[60, 61]⟩, ⟨#[62, 61]⟩, ⟨#[61, 61]⟩, ⟨#[33, 61]⟩, ⟨#[61, 61, 61]⟩, ⟨#[33, 61, 61]⟩]) e2, svT e4 ([⟨#[43]⟩, ⟨#[45]⟩, ⟨#[42]⟩, ⟨#[47]⟩, ⟨#[37]⟩, ⟨#[38]⟩, ⟨#[124]⟩, ⟨#[94]⟩, ⟨#[60, 60]⟩, ⟨#[62, 62]⟩, ⟨#[62, 62, 62]⟩, ⟨#[60]⟩, ⟨#[62]⟩, ⟨#[60, 61]⟩, ⟨#[62, 61]⟩, ⟨#[61, 61]⟩, ⟨#[33, 61]⟩, ⟨#[61, 61, 61]⟩, ⟨#[33, 61, 61]⟩]) e5], _, args2 e3 e6, fun w => by kernel_rfl, texts_c _ ([⟨#[43]⟩, ⟨#[45]⟩, ⟨#[42]⟩, ⟨#[47]⟩, ⟨#[37]⟩, ⟨#[38]⟩, ⟨#[124]⟩, ⟨#[94]⟩, ⟨#[60, 60]⟩, ⟨#[62, 62]⟩, ⟨#[62, 62, 62]⟩, ⟨#[60]⟩, ⟨#[62]⟩, ⟨#[60, 61]⟩, ⟨#[62, 61]⟩, ⟨#[61, 61]⟩, ⟨#[33, 61]⟩, ⟨#[61, 61, 61]⟩, ⟨#[33, 61, 61]⟩]) _ _ ([⟨#[43]⟩, ⟨#[45]⟩, ⟨#[42]⟩, ⟨#[47]⟩, ⟨#[37]⟩, ⟨#[38]⟩, ⟨#[124]⟩, ⟨#[94]⟩, ⟨#[60, 60]⟩, ⟨#[62, 62]⟩, ⟨#[62, 62, 62]⟩, ⟨#[60]⟩, ⟨#[62]⟩, ⟨#[60, 61]⟩, ⟨#[62, 61]⟩, ⟨#[61, 61]⟩, ⟨#[33, 61]⟩, ⟨#[61, 61, 61]⟩, ⟨#[33, 61, 61]⟩]) _ _ dh di rfl, ?_⟩
       rintro e w' ⟨rfl, hm⟩
       exact ⟨_, rfl, hm, rfl⟩)) ?_
 exact .t (fun _ w hn k => ⟨_, v_pickT rfl (k.eq1 43 94 rfl) (k.eq1 46 97 rfl), rfl⟩) <| .a (fun k => k.eq1 47 98 rfl) .nil
 refine aftI bE dd dc fun gS gT gp dj dk gq dl => ?_
 have e8 := dl.ge 48 0 rfl
 refine st_nil (de _ _ ?_)
 refine wp_ret (ret_k dj (v := .bool true) (res_t rfl e8 _) ?_)
 exact ⟨rfl, dk⟩
theorem not_may (n : Nm) : nmayB ⟨0, -1 - i32M n⟩ = true := by
  have := i32M_in n
  unfold nmayB; simp; omega
theorem or_l (n : Nm) (A0 : Option Addr) (c0 : Nat) (B0 : Option Addr) (d0 : Nat) (A1 : Option Addr) (c1 : Nat) (B1 : Option Addr) (d1 : Nat) (w : World) (hm0 : SRow w .u32 A0 [] c0) (hs0 : SRow w .u16 B0 [] d0) (hm1 : SRow w .u32 A1 [] c1) (hs1 : SRow w .u16 B1 [] d1) (hn : nmayB n = true) : Calls Tryz.prog 12 #[.string ⟨#[124]⟩, vv (numVl n) A0 c0 B0 d0, vv (numVl ⟨0, 0⟩) A1 c1 B1 d1] w (IsRet (.tuple #[vv (numVl ⟨0, i32M n⟩) none 0 none 0, iv 0]) w) := by
  have h := bin2_c (numVl n) A0 c0 B0 d0 (numVl ⟨0, 0⟩) A1 c1 B1 d1 w hm0 hs0 hm1 hs1 (VOk.numv hn) (VOk.numv (by decide))
  rw [bits_num 2 hn (by decide), (bits_law n).1] at h
  exact h
theorem xor_l (n : Nm) (A0 : Option Addr) (c0 : Nat) (B0 : Option Addr) (d0 : Nat) (A1 : Option Addr) (c1 : Nat) (B1 : Option Addr) (d1 : Nat) (w : World) (hm0 : SRow w .u32 A0 [] c0) (hs0 : SRow w .u16 B0 [] d0) (hm1 : SRow w .u32 A1 [] c1) (hs1 : SRow w .u16 B1 [] d1) (hn : nmayB n = true) : Calls Tryz.prog 12 #[.string ⟨#[94]⟩, vv (numVl n) A0 c0 B0 d0, vv (numVl n) A1 c1 B1 d1] w (IsRet (.tuple #[vv (numVl ⟨0, 0⟩) none 0 none 0, iv 0]) w) := by
  have h := bin3_c (numVl n) A0 c0 B0 d0 (numVl n) A1 c1 B1 d1 w hm0 hs0 hm1 hs1 (VOk.numv hn) (VOk.numv hn)
  rw [bits_num 3 hn hn, (bits_law n).2.2.2.1] at h
  exact h
theorem and_l (n : Nm) (A0 : Option Addr) (c0 : Nat) (B0 : Option Addr) (d0 : Nat) (A1 : Option Addr) (c1 : Nat) (B1 : Option Addr) (d1 : Nat) (w : World) (hm0 : SRow w .u32 A0 [] c0) (hs0 : SRow w .u16 B0 [] d0) (hm1 : SRow w .u32 A1 [] c1) (hs1 : SRow w .u16 B1 [] d1) (hn : nmayB n = true) : Calls Tryz.prog 12 #[.string ⟨#[38]⟩, vv (numVl n) A0 c0 B0 d0, vv (numVl n) A1 c1 B1 d1] w (IsRet (.tuple #[vv (numVl ⟨0, i32M n⟩) none 0 none 0, iv 0]) w) := by
  have h := bin1_c (numVl n) A0 c0 B0 d0 (numVl n) A1 c1 B1 d1 w hm0 hs0 hm1 hs1 (VOk.numv hn) (VOk.numv hn)
  rw [bits_num 1 hn hn, (bits_law n).2.2.2.2] at h
  exact h
theorem not_l (n : Nm) (A0 : Option Addr) (c0 : Nat) (B0 : Option Addr) (d0 : Nat) (w : World) (hm0 : SRow w .u32 A0 [] c0) (hs0 : SRow w .u16 B0 [] d0) (hn : nmayB n = true) : Calls Tryz.prog 13 #[.string ⟨#[126]⟩, vv (numVl n) A0 c0 B0 d0] w (IsRet (.tuple #[vv (numVl ⟨0, -1 - i32M n⟩) none 0 none 0, iv 0]) w) := by
  have h := tilde_c (numVl n) A0 c0 B0 d0 w hm0 hs0 (VOk.numv hn)
  rw [tilde_num hn, (bits_law n).2.1] at h
  exact h
theorem not2_l (n : Nm) (A0 : Option Addr) (c0 : Nat) (B0 : Option Addr) (d0 : Nat) (w : World) (hm0 : SRow w .u32 A0 [] c0) (hs0 : SRow w .u16 B0 [] d0) : Calls Tryz.prog 13 #[.string ⟨#[126]⟩, vv (numVl ⟨0, -1 - i32M n⟩) A0 c0 B0 d0] w (IsRet (.tuple #[vv (numVl ⟨0, i32M n⟩) none 0 none 0, iv 0]) w) := by
  have h := tilde_c (numVl ⟨0, -1 - i32M n⟩) A0 c0 B0 d0 w hm0 hs0 (VOk.numv (not_may n))
  rw [tilde_num (not_may n), (bits_law n).2.2.1] at h
  exact h
theorem obits_w (v : Vl) (Av : Option Addr) (cv : Nat) (Bv : Option Addr) (dv : Nat) (w : World) (hmv : SRow w .u32 Av v.mag cv) (hsv : SRow w .u16 Bv v.s dv) (hlv : Limbs v.mag) (huv : U16s v.s) (hbv : -9223372036854775808 ≤ v.nn ∧ v.nn ≤ 9223372036854775807 ∧ -9223372036854775808 ≤ v.ref ∧ v.ref ≤ 9223372036854775807) (HT : ItoaOk w) : Calls Tryz.prog 6 #[vv v Av cv Bv dv] w (IsRet (.bool true) w) := by
 refine enter_abs Tryz.func6 rfl fun a0 aR fm hp => ?_
 have aR : a0.tmps.size = 124 := aR
 have dH : New w w := Upd.refl _ _
 have hp0 : a0.eval (.tmp 0) = vv v Av cv Bv dv := hp 0 _ rfl
 refine wp_seq_k fun K1 fn => ?_
 refine wp_g [true, true] [] [] 124
   [IsNew w 29 [iv v.k, iv v.nk, iv v.nn, .bool v.neg, sv Av v.mag cv, sv Bv v.s dv, iv v.ref], vF]
   [0] (newsCons (fun v w h => IsNew.old h) newsNil) aR (.nw (.eq (.nil))) ?_ (fun i h => by cases h) ?_
 exact .o2 (step_allocN (cs := [iv v.k, iv v.nk, iv v.nn, .bool v.neg, sv Av v.mag cv, sv Bv v.s dv, iv v.ref]) (t := 29) rfl (noG rfl) (fun _ w hn k => v_box rfl (k.fx 0 hp0) (fun w => rfl)) (fun q _ hq hb => ⟨q, rfl, hq, hb⟩)) <| .t (fun _ w hn k => ⟨_, v_assign rfl rfl, rfl⟩) .nil
 refine aftI aR fm dH fun a2 w3 dI fo bu gz fp => ?_
 obtain ⟨q9, h8, dT, dU⟩ : IsNew _ _ _ _ _ := fp.got 0 1 rfl (by kernel_rfl)
 have fO := Nat.le_trans dH.size dT
 refine st_nil (fn _ _ (wp_seq_k fun gA dV => ?_))
 refine wp_seq_k fun gB dW => ?_
 refine wp_g0 [true, true] [] 124
   [vT, vF] dI (.eq (.eq (.nil))) ?_ ?_
 exact .o1 (ck rfl rfl rfl (fun _ w hn k => ⟨#[], rfl, fun _ => by kernel_rfl, first_c _ (HT.up (bu.transNew hn))⟩) fun _ => rfl) <| .t (fun _ w hn k => ⟨_, v_not rfl (k.eq1 0 16 rfl), rfl⟩) .nil
 refine aftI dI fo bu fun gC gD bv dX aO dY bw => ?_
 have dJ := bw.fx 1 h8
 have fq := bw.ge 1 17 rfl
 have bx := dU.new_ dY
 refine st_nil (dW _ _ ?_)
 refine wp_cond_false fq ?_
 refine wp_skip ?_
 refine dV _ _ ?_
 refine wp_seq_k fun gE dZ => ?_
 refine wp_seq_k fun gF d0 => ?_
 refine wp_g0 [true, true, true] [] 124
   [ve (vv v Av cv Bv dv), ve (.bool (decide ((v.s.length : Int) ≤ 20000) && decide ((v.mag.length : Int) ≤ 40))), ve (.bool (!(decide ((v.s.length : Int) ≤ 20000) && decide ((v.mag.length : Int) ≤ 40))))] bv (.eq (.eq (.eq (.nil)))) ?_ ?_
 exact .t (fun _ w hn k => ⟨_, v_load rfl (k.fx 1 dJ) (l_agg Tryz.isAgg29 Tryz.sizeOf29 (bx.new_ hn) rfl), rfl⟩) <| .o1 (ck rfl rfl rfl (fun _ w hn k => ⟨#[vv v Av cv Bv dv], args1 (k.eq1 0 18 rfl), fun _ => by kernel_rfl, few_c v _ _ _ _ _ (hmv.new_ (aO.transNew hn)) (hsv.new_ (aO.transNew hn))⟩) fun _ => rfl) <| .t (fun _ w hn k => ⟨_, v_not rfl (k.eq1 1 19 rfl), rfl⟩) .nil
 refine aftI bv dX aO fun dK fr aF bz ap d1 bA => ?_
 have fs := bA.fx 1 dJ
 have dL := bA.ge 2 20 rfl
 have d2 := bx.new_ d1
 refine st_nil (d0 _ _ ?_)
 rcases bc (decide ((v.s.length : Int) ≤ 20000) && decide ((v.mag.length : Int) ≤ 40)) with aD | aD
 have d3 : dK.eval (.tmp 20) = .bool false := dL.trans (congrArg Value.bool (by rw [aD]; rfl))
 refine wp_cond_false d3 ?_
 refine wp_skip ?_
 refine dZ _ _ ?_
 refine wp_seq_k fun gG d4 => ?_
 have hvv : VOk v := few_ok (v := v) (by first | exact aD | simpa using aD) hlv huv hbv.1 hbv.2.1 hbv.2.2.1 hbv.2.2.2
 refine wp_g [true, true, true, true, true, true, false, false] [4] [(6, false), (7, true)] 124
   [ve (vv v Av cv Bv dv), ve (.tuple #[nv ((numberV v).1), iv ((numberV v).2)]), ve (.tuple #[nv ((numberV v).1), iv ((numberV v).2)]), ve (nv ((numberV v).1)), ve (iv ((numberV v).2)), IsNew fr 23 [iv 0, iv 0], vt, vt]
   [5] (newsCons (fun v w h => IsNew.old h) newsNil) aF (.eq (.eq (.eq (.eq (.eq (.nw (.tt (.tt (.nil))))))))) ?_ ?_ ?_
 refine .t (fun _ w hn k => ⟨_, v_load rfl (k.fx 1 fs) (l_agg Tryz.isAgg29 Tryz.sizeOf29 (d2.new_ hn) rfl), rfl⟩) <| .o1 (ck rfl rfl rfl (fun _ w hn k => ⟨#[vv v Av cv Bv dv], args1 (k.eq1 0 23 rfl), fun _ => by kernel_rfl, cnumber_c v _ _ _ _ _ (hmv.new_ (ap.transNew hn)) (hsv.new_ (ap.transNew hn)) hvv⟩) fun _ => rfl) <| .m (fun k => k.eq1 1 24 rfl) <| .t (fun _ w hn k => ⟨_, v_extract rfl (k.eq1 2 22 rfl) rfl, rfl⟩) ?_
 refine .o3 ?_
 exact .o2 (step_allocN (cs := [iv 0, iv 0]) (t := 23) rfl (noG rfl) (fun _ w hn k => rfl) (fun q _ hq hb => ⟨q, rfl, hq, hb⟩)) <| .off <| .off .nil
 intro i h
 simp only [List.contains_eq_mem, List.mem_cons, List.not_mem_nil, or_false, decide_eq_true_eq] at h
 subst h
 exact eager_take rfl rfl fun _ w hn k => ⟨iv ((numberV v).2), fun w => v_extract rfl (k.eq1 2 22 rfl) rfl, rfl⟩
 refine aftI aF bz ap fun dM gH bB d5 d6 fP aP => ?_
 have dN := aP.ge 3 25 rfl
 have dO := aP.ge 4 26 rfl
 obtain ⟨gI, dP, d7, d8⟩ : IsNew _ _ _ _ _ := aP.got 5 3 rfl (by kernel_rfl)
 have fQ := Nat.le_trans ap.size d7
 obtain ⟨gJ, -, cq, bC, d9, fR⟩ := s_two (v0 := iv ((numberV v).1.k)) (v1 := iv ((numberV v).1.n)) Tryz.sizeOf23 rfl rfl rfl d8
 refine st_act rfl rfl fun gK ea => a_store' rfl dP dN cq (ea _ _ trivial ?_)
 have bD := d6.trans d9 (fun _ h b => by subst b; omega)
 refine st_take rfl rfl (y_assign (v := iv ((numberV v).2)) rfl dO) rfl ?_
 obtain ⟨ft, am⟩ : ∃ a', a' = dM.put (some 4) (iv ((numberV v).2)) := ⟨_, rfl⟩
 have aG := pz am bB
 have bE := pd am d5
 have gL := pn am dN (by decide)
 have gM := pn am dO (by decide)
 have dQ := pn am dP (by decide)
 have dR : ft.eval (.tmp 4) = iv ((numberV v).2) := by rw [am]; exact put_same _ _ _ (by rw [bB]; decide)
 show stepsTo _ _ _ _ _ (dM.put (some 4) (iv ((numberV v).2))) _
 rw [← am]
 refine st_nil (d4 _ _ (wp_seq_k fun gN eb => ?_))
 refine wp_seq_k fun gO bF => ?_
 rcases bc (decide (((numberV v).2) = 0)) with aq | aq
 have cr := oT aq
 refine wp_g0 [true, true] [] 124
   [ve (iv ((numberV v).2)), vF] aG (.eq (.eq (.nil))) ?_ ?_
 exact .m (fun k => k.fx 4 dR) <| .t (fun _ w hn k => ⟨_, v_bin rfl (k.eq1 0 27 rfl) rfl (fun _ => rfl) (r_neq aq), rfl⟩) .nil
 refine aftI aG bE bD fun gP fu bG ec bH ed bI => ?_
 have fv := bI.fx 3 dQ
 have fw := bI.ge 1 28 rfl
 have ee := bC.new_ ed
 refine st_nil (bF _ _ ?_)
 refine wp_cond_false fw ?_
 refine wp_skip ?_
 refine eb _ _ ?_
 refine wp_seq_k fun gQ ef => ?_
 have hnm := number_may v (oT aq)
 have hi32 := i32M_in (numberV v).1
 refine wp_g [true, true, true, false] [] [(3, false)] 124
   [ve (nv ((numberV v).1)), ve (vv (Vl.mk 3 ((numberV v).1).k ((numberV v).1).n false [] [] 0) none 0 none 0), IsNew fu 29 [iv 0, iv 0, iv 0, .bool false, sv none ([]) 0, sv none ([]) 0, iv 0], vt]
   [2] (newsCons (fun v w h => IsNew.old h) newsNil) bG (.eq (.eq (.nw (.tt (.nil))))) ?_ (fun i h => by cases h) ?_
 exact .t (fun _ w hn k => ⟨_, v_load rfl (k.fx 3 fv) (l_two Tryz.isAgg23 Tryz.sizeOf23 (ee.new_ hn)), rfl⟩) <| .o1 (ck rfl rfl rfl (fun _ w hn k => ⟨#[nv ((numberV v).1)], args1 (k.eq1 0 30 rfl), fun _ => by kernel_rfl, cnum_c ((numberV v).1) _ ⟩) fun _ => rfl) <| .o2 (step_allocN (cs := [iv 0, iv 0, iv 0, .bool false, sv none ([]) 0, sv none ([]) 0, iv 0]) (t := 29) rfl (noG rfl) (fun _ w hn k => rfl) (fun q _ hq hb => ⟨q, rfl, hq, hb⟩)) <| .off .nil
 refine aftI bG ec bH fun gR gS bJ eg eh fS bK => ?_
 have fy := bK.ge 1 31 rfl
 obtain ⟨aN, bL, ei, ej⟩ : IsNew _ _ _ _ _ := bK.got 2 5 rfl (by kernel_rfl)
 have fT := Nat.le_trans bH.size ei
 obtain ⟨dS, ct, bM, cu, fB⟩ := s_many (P := Tryz.prog) (t := 29) (i := 0) [iv 3, iv (((numberV v).1).k), iv (((numberV v).1).n), .bool false, sv none ([]) 0, sv none ([]) 0, iv 0] Tryz.sizeOf29 rfl rfl rfl ej lb
 have aH : Blk dS aN 29 [iv 3, iv (((numberV v).1).k), iv (((numberV v).1).n), .bool false, sv none ([]) 0, sv none ([]) 0, iv 0] := bM
 refine st_act rfl rfl fun fU cw => a_store' rfl bL fy ct (cw _ _ trivial ?_)
 have aS := eh.trans cu (fun _ h b => by subst b; omega)
 refine st_nil (ef _ _ (wp_seq_k fun fV cx => ?_))
 refine wp_g [true, true, true, true, true, true, true, false, false] [5] [(7, false), (8, true)] 124
   [ve (vv (Vl.mk 3 ((numberV v).1).k ((numberV v).1).n false [] [] 0) none 0 none 0), ve (vv (Vl.mk 3 0 0 false [] [] 0) none 0 none 0), ve (.tuple #[vv (Vl.mk 3 0 (i32M ((numberV v).1)) false [] [] 0) none 0 none 0, iv 0]), ve (.tuple #[vv (Vl.mk 3 0 (i32M ((numberV v).1)) false [] [] 0) none 0 none 0, iv 0]), ve (vv (Vl.mk 3 0 (i32M ((numberV v).1)) false [] [] 0) none 0 none 0), ve (iv 0), IsNew dS 29 [iv 0, iv 0, iv 0, .bool false, sv none ([]) 0, sv none ([]) 0, iv 0], vt, vt]
   [6] (newsCons (fun v w h => IsNew.old h) newsNil) bJ (.eq (.eq (.eq (.eq (.eq (.eq (.nw (.tt (.tt (.nil)))))))))) ?_ ?_ ?_
 refine .t (fun _ w hn k => ⟨_, v_load rfl (k.fx 5 bL) (l_agg Tryz.isAgg29 Tryz.sizeOf29 (aH.new_ hn) rfl), rfl⟩) <| .o1 (ck rfl rfl rfl (fun _ w hn k => ⟨#[iv 0], args1 rfl, fun _ => by kernel_rfl, owhole_c 0 _ ⟩) fun _ => rfl) <| .o1 (ck rfl rfl rfl (fun _ w hn k => ⟨#[.string ⟨#[124]⟩, vv (Vl.mk 3 ((numberV v).1).k ((numberV v).1).n false [] [] 0) none 0 none 0, vv (Vl.mk 3 0 0 false [] [] 0) none 0 none 0], args3 rfl (k.eq1 0 33 rfl) (k.eq1 1 34 rfl), fun _ => by kernel_rfl, or_l ((numberV v).1) _ _ _ _ _ _ _ _ _ (SRow.nil _ _) (SRow.nil _ _) (SRow.nil _ _) (SRow.nil _ _) hnm⟩) fun _ => rfl) <| .m (fun k => k.eq1 2 35 rfl) <| .t (fun _ w hn k => ⟨_, v_extract rfl (k.eq1 3 32 rfl) rfl, rfl⟩) ?_
 refine .o3 ?_
 exact .o2 (step_allocN (cs := [iv 0, iv 0, iv 0, .bool false, sv none ([]) 0, sv none ([]) 0, iv 0]) (t := 29) rfl (noG rfl) (fun _ w hn k => rfl) (fun q _ hq hb => ⟨q, rfl, hq, hb⟩)) <| .off <| .off .nil
 intro i h
 simp only [List.contains_eq_mem, List.mem_cons, List.not_mem_nil, or_false, decide_eq_true_eq] at h
 subst h
 exact eager_take rfl rfl fun _ w hn k => ⟨iv 0, fun w => v_extract rfl (k.eq1 3 32 rfl) rfl, rfl⟩
 refine aftI bJ eg aS fun bN fW aT cy cz cA aw => ?_
 have ek := aw.fx 5 bL
 have bO := aw.ge 4 36 rfl
 have bP := aw.ge 5 37 rfl
 obtain ⟨ad, bQ, aU, cB⟩ : IsNew _ _ _ _ _ := aw.got 6 6 rfl (by kernel_rfl)
 have cC := aH.new_ cA
 have hne121 : aN ≠ ad := by have h1 := aH.lt; have h2 := aU; omega
 have fC := Nat.le_trans aS.size aU
 obtain ⟨bR, bS, bT, cD, cE⟩ := s_many (P := Tryz.prog) (t := 29) (i := 0) [iv 3, iv 0, iv (i32M ((numberV v).1)), .bool false, sv none ([]) 0, sv none ([]) 0, iv 0] Tryz.sizeOf29 rfl rfl rfl cB lb
 have aV : Blk bR ad 29 [iv 3, iv 0, iv (i32M ((numberV v).1)), .bool false, sv none ([]) 0, sv none ([]) 0, iv 0] := bT
 refine st_act rfl rfl fun fX cF => a_store' rfl bQ bO bS (cF _ _ trivial ?_)
 have aI := cE _ _ _ (hne121) cC
 have aW := cz.trans cD (fun _ h b => by subst b; omega)
 refine st_take rfl rfl (y_assign (v := iv 0) rfl bP) rfl ?_
 obtain ⟨el, ah⟩ : ∃ a', a' = bN.put (some 7) (iv 0) := ⟨_, rfl⟩
 have aX := pz ah aT
 have cG := pd ah cy
 have bU := pn ah ek (by decide)
 have fY := pn ah bO (by decide)
 have fZ := pn ah bP (by decide)
 have em := pn ah bQ (by decide)
 have en : el.eval (.tmp 7) = iv 0 := by rw [ah]; exact put_same _ _ _ (by rw [aT]; decide)
 show stepsTo _ _ _ _ _ (bN.put (some 7) (iv 0)) _
 rw [← ah]
 refine st_nil (cx _ _ (wp_seq_k fun f0 cH => ?_))
 refine wp_g [true, true, true, true, true, true, false, false] [4] [(6, false), (7, true)] 124
   [ve (vv (Vl.mk 3 ((numberV v).1).k ((numberV v).1).n false [] [] 0) none 0 none 0), ve (.tuple #[vv (Vl.mk 3 0 (-1 - i32M ((numberV v).1)) false [] [] 0) none 0 none 0, iv 0]), ve (.tuple #[vv (Vl.mk 3 0 (-1 - i32M ((numberV v).1)) false [] [] 0) none 0 none 0, iv 0]), ve (vv (Vl.mk 3 0 (-1 - i32M ((numberV v).1)) false [] [] 0) none 0 none 0), ve (iv 0), IsNew bR 29 [iv 0, iv 0, iv 0, .bool false, sv none ([]) 0, sv none ([]) 0, iv 0], vt, vt]
   [5] (newsCons (fun v w h => IsNew.old h) newsNil) aX (.eq (.eq (.eq (.eq (.eq (.nw (.tt (.tt (.nil))))))))) ?_ ?_ ?_
 refine .t (fun _ w hn k => ⟨_, v_load rfl (k.fx 5 bU) (l_agg Tryz.isAgg29 Tryz.sizeOf29 (aI.new_ hn) rfl), rfl⟩) <| .o1 (ck rfl rfl rfl (fun _ w hn k => ⟨#[.string ⟨#[126]⟩, vv (Vl.mk 3 ((numberV v).1).k ((numberV v).1).n false [] [] 0) none 0 none 0], args2 rfl (k.eq1 0 39 rfl), fun _ => by kernel_rfl, not_l ((numberV v).1) _ _ _ _ _ (SRow.nil _ _) (SRow.nil _ _) hnm⟩) fun _ => rfl) <| .m (fun k => k.eq1 1 40 rfl) <| .t (fun _ w hn k => ⟨_, v_extract rfl (k.eq1 2 38 rfl) rfl, rfl⟩) ?_
 refine .o3 ?_
 exact .o2 (step_allocN (cs := [iv 0, iv 0, iv 0, .bool false, sv none ([]) 0, sv none ([]) 0, iv 0]) (t := 29) rfl (noG rfl) (fun _ w hn k => rfl) (fun q _ hq hb => ⟨q, rfl, hq, hb⟩)) <| .off <| .off .nil
 intro i h
 simp only [List.contains_eq_mem, List.mem_cons, List.not_mem_nil, or_false, decide_eq_true_eq] at h
 subst h
 exact eager_take rfl rfl fun _ w hn k => ⟨iv 0, fun w => v_extract rfl (k.eq1 2 38 rfl) rfl, rfl⟩
 refine aftI aX cG aW fun bV f1 aY cI cJ aZ ak => ?_
 have eo := ak.fx 5 bU
 have ep := ak.fx 6 em
 have er := ak.fx 7 en
 have bW := ak.ge 3 41 rfl
 have bX := ak.ge 4 42 rfl
 obtain ⟨aj, bY, aJ, cK⟩ : IsNew _ _ _ _ _ := ak.got 5 8 rfl (by kernel_rfl)
 have cL := aI.new_ aZ
 have cM := aV.new_ aZ
 have hne160 : aN ≠ aj := by have h1 := aI.lt; have h2 := aJ; omega
 have hne161 : ad ≠ aj := by have h1 := aV.lt; have h2 := aJ; omega
 have fD := Nat.le_trans aW.size aJ
 obtain ⟨bZ, b0, b1, cN, a1⟩ := s_many (P := Tryz.prog) (t := 29) (i := 0) [iv 3, iv 0, iv (-1 - i32M ((numberV v).1)), .bool false, sv none ([]) 0, sv none ([]) 0, iv 0] Tryz.sizeOf29 rfl rfl rfl cK lb
 have aK : Blk bZ aj 29 [iv 3, iv 0, iv (-1 - i32M ((numberV v).1)), .bool false, sv none ([]) 0, sv none ([]) 0, iv 0] := b1
 refine st_act rfl rfl fun f2 cO => a_store' rfl bY bW b0 (cO _ _ trivial ?_)
 have a3 := a1 _ _ _ (hne160) cL
 have a4 := a1 _ _ _ (hne161) cM
 have a5 := cJ.trans cN (fun _ h b => by subst b; omega)
 refine st_take rfl rfl (y_assign (v := iv 0) rfl bX) rfl ?_
 obtain ⟨es, af⟩ : ∃ a', a' = bV.put (some 9) (iv 0) := ⟨_, rfl⟩
 have a6 := pz af aY
 have cP := pd af cI
 have et := pn af eo (by decide)
 have eu := pn af ep (by decide)
 have ev := pn af er (by decide)
 have f3 := pn af bW (by decide)
 have f4 := pn af bX (by decide)
 have b2 := pn af bY (by decide)
 have ew : es.eval (.tmp 9) = iv 0 := by rw [af]; exact put_same _ _ _ (by rw [aY]; decide)
 show stepsTo _ _ _ _ _ (bV.put (some 9) (iv 0)) _
 rw [← af]
 refine st_nil (cH _ _ (wp_seq_k fun f5 cQ => ?_))
 refine wp_g [true, true, true, true, true, true, false, false] [4] [(6, false), (7, true)] 124
   [ve (vv (Vl.mk 3 0 (-1 - i32M ((numberV v).1)) false [] [] 0) none 0 none 0), ve (.tuple #[vv (Vl.mk 3 0 (i32M ((numberV v).1)) false [] [] 0) none 0 none 0, iv 0]), ve (.tuple #[vv (Vl.mk 3 0 (i32M ((numberV v).1)) false [] [] 0) none 0 none 0, iv 0]), ve (vv (Vl.mk 3 0 (i32M ((numberV v).1)) false [] [] 0) none 0 none 0), ve (iv 0), IsNew bZ 29 [iv 0, iv 0, iv 0, .bool false, sv none ([]) 0, sv none ([]) 0, iv 0], vt, vt]
   [5] (newsCons (fun v w h => IsNew.old h) newsNil) a6 (.eq (.eq (.eq (.eq (.eq (.nw (.tt (.tt (.nil))))))))) ?_ ?_ ?_
 refine .t (fun _ w hn k => ⟨_, v_load rfl (k.fx 8 b2) (l_agg Tryz.isAgg29 Tryz.sizeOf29 (aK.new_ hn) rfl), rfl⟩) <| .o1 (ck rfl rfl rfl (fun _ w hn k => ⟨#[.string ⟨#[126]⟩, vv (Vl.mk 3 0 (-1 - i32M ((numberV v).1)) false [] [] 0) none 0 none 0], args2 rfl (k.eq1 0 44 rfl), fun _ => by kernel_rfl, not2_l ((numberV v).1) _ _ _ _ _ (SRow.nil _ _) (SRow.nil _ _)⟩) fun _ => rfl) <| .m (fun k => k.eq1 1 45 rfl) <| .t (fun _ w hn k => ⟨_, v_extract rfl (k.eq1 2 43 rfl) rfl, rfl⟩) ?_
 refine .o3 ?_
 exact .o2 (step_allocN (cs := [iv 0, iv 0, iv 0, .bool false, sv none ([]) 0, sv none ([]) 0, iv 0]) (t := 29) rfl (noG rfl) (fun _ w hn k => rfl) (fun q _ hq hb => ⟨q, rfl, hq, hb⟩)) <| .off <| .off .nil
 intro i h
 simp only [List.contains_eq_mem, List.mem_cons, List.not_mem_nil, or_false, decide_eq_true_eq] at h
 subst h
 exact eager_take rfl rfl fun _ w hn k => ⟨iv 0, fun w => v_extract rfl (k.eq1 2 43 rfl) rfl, rfl⟩
 refine aftI a6 cP a5 fun b3 f6 a7 cR cS aL ai => ?_
 have ex := ai.fx 5 et
 have ey := ai.fx 6 eu
 have ez := ai.fx 7 ev
 have eA := ai.fx 8 b2
 have eB := ai.fx 9 ew
 have b4 := ai.ge 3 46 rfl
 have b5 := ai.ge 4 47 rfl
 obtain ⟨ar, b6, ax, cT⟩ : IsNew _ _ _ _ _ := ai.got 5 10 rfl (by kernel_rfl)
 have cU := a3.new_ aL
 have cV := a4.new_ aL
 have cW := aK.new_ aL
 have hne206 : aN ≠ ar := by have h1 := a3.lt; have h2 := ax; omega
 have hne207 : ad ≠ ar := by have h1 := a4.lt; have h2 := ax; omega
 have hne208 : aj ≠ ar := by have h1 := aK.lt; have h2 := ax; omega
 have fE := Nat.le_trans a5.size ax
 obtain ⟨b7, b8, b9, cX, aM⟩ := s_many (P := Tryz.prog) (t := 29) (i := 0) [iv 3, iv 0, iv (i32M ((numberV v).1)), .bool false, sv none ([]) 0, sv none ([]) 0, iv 0] Tryz.sizeOf29 rfl rfl rfl cT lb
 have a8 : Blk b7 ar 29 [iv 3, iv 0, iv (i32M ((numberV v).1)), .bool false, sv none ([]) 0, sv none ([]) 0, iv 0] := b9
 refine st_act rfl rfl fun f7 cY => a_store' rfl b6 b4 b8 (cY _ _ trivial ?_)
 have ay := aM _ _ _ (hne206) cU
 have a9 := aM _ _ _ (hne207) cV
 have ba := aM _ _ _ (hne208) cW
 have bb := cS.trans cX (fun _ h b => by subst b; omega)
 refine st_take rfl rfl (y_assign (v := iv 0) rfl b5) rfl ?_
 obtain ⟨eC, ac⟩ : ∃ a', a' = b3.put (some 11) (iv 0) := ⟨_, rfl⟩
 have bd := pz ac a7
 have cZ := pd ac cR
 have aQ := pn ac ex (by decide)
 have eD := pn ac ey (by decide)
 have eE := pn ac ez (by decide)
 have eF := pn ac eA (by decide)
 have eG := pn ac eB (by decide)
 have f8 := pn ac b4 (by decide)
 have f9 := pn ac b5 (by decide)
 have eH := pn ac b6 (by decide)
 have eI : eC.eval (.tmp 11) = iv 0 := by rw [ac]; exact put_same _ _ _ (by rw [a7]; decide)
 show stepsTo _ _ _ _ _ (b3.put (some 11) (iv 0)) _
 rw [← ac]
 refine st_nil (cQ _ _ (wp_seq_k fun ga c0 => ?_))
 refine wp_g [true, true, true, true, true, true, true, false, false] [5] [(7, false), (8, true)] 124
   [ve (vv (Vl.mk 3 ((numberV v).1).k ((numberV v).1).n false [] [] 0) none 0 none 0), ve (vv (Vl.mk 3 ((numberV v).1).k ((numberV v).1).n false [] [] 0) none 0 none 0), ve (.tuple #[vv (Vl.mk 3 0 0 false [] [] 0) none 0 none 0, iv 0]), ve (.tuple #[vv (Vl.mk 3 0 0 false [] [] 0) none 0 none 0, iv 0]), ve (vv (Vl.mk 3 0 0 false [] [] 0) none 0 none 0), ve (iv 0), IsNew b7 29 [iv 0, iv 0, iv 0, .bool false, sv none ([]) 0, sv none ([]) 0, iv 0], vt, vt]
   [6] (newsCons (fun v w h => IsNew.old h) newsNil) bd (.eq (.eq (.eq (.eq (.eq (.eq (.nw (.tt (.tt (.nil)))))))))) ?_ ?_ ?_
 refine .t (fun _ w hn k => ⟨_, v_load rfl (k.fx 5 aQ) (l_agg Tryz.isAgg29 Tryz.sizeOf29 (ay.new_ hn) rfl), rfl⟩) <| .t (fun _ w hn k => ⟨_, v_load rfl (k.fx 5 aQ) (l_agg Tryz.isAgg29 Tryz.sizeOf29 (ay.new_ hn) rfl), rfl⟩) <| .o1 (ck rfl rfl rfl (fun _ w hn k => ⟨#[.string ⟨#[94]⟩, vv (Vl.mk 3 ((numberV v).1).k ((numberV v).1).n false [] [] 0) none 0 none 0, vv (Vl.mk 3 ((numberV v).1).k ((numberV v).1).n false [] [] 0) none 0 none 0], args3 rfl (k.eq1 0 49 rfl) (k.eq1 1 50 rfl), fun _ => by kernel_rfl, xor_l ((numberV v).1) _ _ _ _ _ _ _ _ _ (SRow.nil _ _) (SRow.nil _ _) (SRow.nil _ _) (SRow.nil _ _) hnm⟩) fun _ => rfl) <| .m (fun k => k.eq1 2 51 rfl) <| .t (fun _ w hn k => ⟨_, v_extract rfl (k.eq1 3 48 rfl) rfl, rfl⟩) ?_
 refine .o3 ?_
 exact .o2 (step_allocN (cs := [iv 0, iv 0, iv 0, .bool false, sv none ([]) 0, sv none ([]) 0, iv 0]) (t := 29) rfl (noG rfl) (fun _ w hn k => rfl) (fun q _ hq hb => ⟨q, rfl, hq, hb⟩)) <| .off <| .off .nil
 intro i h
 simp only [List.contains_eq_mem, List.mem_cons, List.not_mem_nil, or_false, decide_eq_true_eq] at h
 subst h
 exact eager_take rfl rfl fun _ w hn k => ⟨iv 0, fun w => v_extract rfl (k.eq1 3 48 rfl) rfl, rfl⟩
 refine aftI bd cZ bb fun ca gb be c1 c2 az ag => ?_
 have eJ := ag.fx 5 aQ
 have eK := ag.fx 6 eD
 have eL := ag.fx 7 eE
 have eM := ag.fx 8 eF
 have eN := ag.fx 9 eG
 have eO := ag.fx 10 eH
 have eP := ag.fx 11 eI
 have cb := ag.ge 4 52 rfl
 have cc := ag.ge 5 53 rfl
 obtain ⟨au, cd, an, c3⟩ : IsNew _ _ _ _ _ := ag.got 6 12 rfl (by kernel_rfl)
 have c4 := ay.new_ az
 have c5 := a9.new_ az
 have c6 := ba.new_ az
 have c7 := a8.new_ az
 have hne259 : aN ≠ au := by have h1 := ay.lt; have h2 := an; omega
 have hne260 : ad ≠ au := by have h1 := a9.lt; have h2 := an; omega
 have hne261 : aj ≠ au := by have h1 := ba.lt; have h2 := an; omega
 have hne262 : ar ≠ au := by have h1 := a8.lt; have h2 := an; omega
 have fF := Nat.le_trans bb.size an
 obtain ⟨ce, cf, ch, c8, aA⟩ := s_many (P := Tryz.prog) (t := 29) (i := 0) [iv 3, iv 0, iv 0, .bool false, sv none ([]) 0, sv none ([]) 0, iv 0] Tryz.sizeOf29 rfl rfl rfl c3 lb
 have bf : Blk ce au 29 [iv 3, iv 0, iv 0, .bool false, sv none ([]) 0, sv none ([]) 0, iv 0] := ch
 refine st_act rfl rfl fun gc c9 => a_store' rfl cd cb cf (c9 _ _ trivial ?_)
 have bg := aA _ _ _ (hne259) c4
 have bh := aA _ _ _ (hne260) c5
 have bi := aA _ _ _ (hne261) c6
 have bj := aA _ _ _ (hne262) c7
 have bk := c2.trans c8 (fun _ h b => by subst b; omega)
 refine st_take rfl rfl (y_assign (v := iv 0) rfl cc) rfl ?_
 obtain ⟨eQ, ab⟩ : ∃ a', a' = ca.put (some 13) (iv 0) := ⟨_, rfl⟩
 have bl := pz ab be
 have da := pd ab c1
 have ci := pn ab eJ (by decide)
 have eR := pn ab eK (by decide)
 have eS := pn ab eL (by decide)
 have eT := pn ab eM (by decide)
 have eU := pn ab eN (by decide)
 have eV := pn ab eO (by decide)
 have eW := pn ab eP (by decide)
 have gd := pn ab cb (by decide)
 have gg := pn ab cc (by decide)
 have eX := pn ab cd (by decide)
 have eY : eQ.eval (.tmp 13) = iv 0 := by rw [ab]; exact put_same _ _ _ (by rw [be]; decide)
 show stepsTo _ _ _ _ _ (ca.put (some 13) (iv 0)) _
 rw [← ab]
 refine st_nil (c0 _ _ (wp_seq_k fun gh db => ?_))
 refine wp_g [true, true, true, true, true, true, true, false, false] [5] [(7, false), (8, true)] 124
   [ve (vv (Vl.mk 3 ((numberV v).1).k ((numberV v).1).n false [] [] 0) none 0 none 0), ve (vv (Vl.mk 3 ((numberV v).1).k ((numberV v).1).n false [] [] 0) none 0 none 0), ve (.tuple #[vv (Vl.mk 3 0 (i32M ((numberV v).1)) false [] [] 0) none 0 none 0, iv 0]), ve (.tuple #[vv (Vl.mk 3 0 (i32M ((numberV v).1)) false [] [] 0) none 0 none 0, iv 0]), ve (vv (Vl.mk 3 0 (i32M ((numberV v).1)) false [] [] 0) none 0 none 0), ve (iv 0), IsNew ce 29 [iv 0, iv 0, iv 0, .bool false, sv none ([]) 0, sv none ([]) 0, iv 0], vt, vt]
   [6] (newsCons (fun v w h => IsNew.old h) newsNil) bl (.eq (.eq (.eq (.eq (.eq (.eq (.nw (.tt (.tt (.nil)))))))))) ?_ ?_ ?_
 refine .t (fun _ w hn k => ⟨_, v_load rfl (k.fx 5 ci) (l_agg Tryz.isAgg29 Tryz.sizeOf29 (bg.new_ hn) rfl), rfl⟩) <| .t (fun _ w hn k => ⟨_, v_load rfl (k.fx 5 ci) (l_agg Tryz.isAgg29 Tryz.sizeOf29 (bg.new_ hn) rfl), rfl⟩) <| .o1 (ck rfl rfl rfl (fun _ w hn k => ⟨#[.string ⟨#[38]⟩, vv (Vl.mk 3 ((numberV v).1).k ((numberV v).1).n false [] [] 0) none 0 none 0, vv (Vl.mk 3 ((numberV v).1).k ((numberV v).1).n false [] [] 0) none 0 none 0], args3 rfl (k.eq1 0 55 rfl) (k.eq1 1 56 rfl), fun _ => by kernel_rfl, and_l ((numberV v).1) _ _ _ _ _ _ _ _ _ (SRow.nil _ _) (SRow.nil _ _) (SRow.nil _ _) (SRow.nil _ _) hnm⟩) fun _ => rfl) <| .m (fun k => k.eq1 2 57 rfl) <| .t (fun _ w hn k => ⟨_, v_extract rfl (k.eq1 3 54 rfl) rfl, rfl⟩) ?_
 refine .o3 ?_
 exact .o2 (step_allocN (cs := [iv 0, iv 0, iv 0, .bool false, sv none ([]) 0, sv none ([]) 0, iv 0]) (t := 29) rfl (noG rfl) (fun _ w hn k => rfl) (fun q _ hq hb => ⟨q, rfl, hq, hb⟩)) <| .off <| .off .nil
 intro i h
 simp only [List.contains_eq_mem, List.mem_cons, List.not_mem_nil, or_false, decide_eq_true_eq] at h
 subst h
 exact eager_take rfl rfl fun _ w hn k => ⟨iv 0, fun w => v_extract rfl (k.eq1 3 54 rfl) rfl, rfl⟩
 refine aftI bl da bk fun cj gi bm dc dd aB ae => ?_
 have eZ := ae.fx 6 eR
 have e0 := ae.fx 7 eS
 have e1 := ae.fx 8 eT
 have e2 := ae.fx 9 eU
 have e3 := ae.fx 10 eV
 have e4 := ae.fx 11 eW
 have e5 := ae.fx 12 eX
 have e6 := ae.fx 13 eY
 have cl := ae.ge 4 58 rfl
 have cm := ae.ge 5 59 rfl
 obtain ⟨aE, cn, ao, de⟩ : IsNew _ _ _ _ _ := ae.got 6 14 rfl (by kernel_rfl)
 have df := bh.new_ aB
 have dg := bi.new_ aB
 have dh := bj.new_ aB
 have di := bf.new_ aB
 have hne317 : ad ≠ aE := by have h1 := bh.lt; have h2 := ao; omega
 have hne318 : aj ≠ aE := by have h1 := bi.lt; have h2 := ao; omega
 have hne319 : ar ≠ aE := by have h1 := bj.lt; have h2 := ao; omega
 have hne320 : au ≠ aE := by have h1 := bf.lt; have h2 := ao; omega
 have fG := Nat.le_trans bk.size ao
 obtain ⟨e7, co, cp, dj, aC⟩ := s_many (P := Tryz.prog) (t := 29) (i := 0) [iv 3, iv 0, iv (i32M ((numberV v).1)), .bool false, sv none ([]) 0, sv none ([]) 0, iv 0] Tryz.sizeOf29 rfl rfl rfl de lb
 have dk : Blk e7 aE 29 [iv 3, iv 0, iv (i32M ((numberV v).1)), .bool false, sv none ([]) 0, sv none ([]) 0, iv 0] := cp
 refine st_act rfl rfl fun gj dl => a_store' rfl cn cl co (dl _ _ trivial ?_)
 have al := aC _ _ _ (hne317) df
 have dm := aC _ _ _ (hne318) dg
 have dn := aC _ _ _ (hne319) dh
 have dp := aC _ _ _ (hne320) di
 have bn := dd.trans dj (fun _ h b => by subst b; omega)
 refine st_take rfl rfl (y_assign (v := iv 0) rfl cm) rfl ?_
 obtain ⟨e8, aa⟩ : ∃ a', a' = cj.put (some 15) (iv 0) := ⟨_, rfl⟩
 have bo := pz aa bm
 have dq := pd aa dc
 have av := pn aa eZ (by decide)
 have e9 := pn aa e0 (by decide)
 have fa := pn aa e1 (by decide)
 have fb := pn aa e2 (by decide)
 have fc := pn aa e3 (by decide)
 have fd := pn aa e4 (by decide)
 have fe := pn aa e5 (by decide)
 have ff := pn aa e6 (by decide)
 have gk := pn aa cl (by decide)
 have gl := pn aa cm (by decide)
 have fg := pn aa cn (by decide)
 have fh : e8.eval (.tmp 15) = iv 0 := by rw [aa]; exact put_same _ _ _ (by rw [bm]; decide)
 show stepsTo _ _ _ _ _ (cj.put (some 15) (iv 0)) _
 rw [← aa]
 refine st_nil (db _ _ (wp_seq_k fun gn dr => ?_))
 have bp : (decide ((i32M ((numberV v).1)) < -2147483648)) = false := decide_eq_false (by omega)
 have fz := oF bp
 have bq : (decide ((i32M ((numberV v).1)) < 2147483648)) = true := decide_eq_true (by omega)
 have fA := oT bq
 refine wp_g0 (.replicate 65 true) [] 124
   [vT, vT, ve (iv 0), vT, vT, vT, ve (iv 0), vT, vT, vT, ve (iv 0), vT, vT, vT, ve (iv 0), vT, vT, vT, ve (iv 0), vT, vT, vT, ve (vv (Vl.mk 3 0 (i32M ((numberV v).1)) false [] [] 0) none 0 none 0), ve (vv (Vl.mk 3 0 (i32M ((numberV v).1)) false [] [] 0) none 0 none 0), vT, vT, vT, ve (vv (Vl.mk 3 0 (i32M ((numberV v).1)) false [] [] 0) none 0 none 0), ve (vv (Vl.mk 3 0 (i32M ((numberV v).1)) false [] [] 0) none 0 none 0), vT, vT, vT, ve (vv (Vl.mk 3 0 0 false [] [] 0) none 0 none 0), ve (vv (Vl.mk 3 0 0 false [] [] 0) none 0 none 0), vT, vT, vT, ve (.pointer (some ⟨ad, 1, none⟩)), ve (.pointer (some ⟨ad, 1, none⟩)), ve (iv 0), vT, vT, vT, ve (.pointer (some ⟨ad, 1, none⟩)), ve (.pointer (some ⟨ad, 2, none⟩)), ve (iv (i32M ((numberV v).1))), vT, vT, vT, ve (.pointer (some ⟨ad, 1, none⟩)), ve (.pointer (some ⟨ad, 2, none⟩)), ve (iv (i32M ((numberV v).1))), vT, vT, vT, ve (.pointer (some ⟨aj, 1, none⟩)), ve (.pointer (some ⟨aj, 2, none⟩)), ve (iv (-1 - i32M ((numberV v).1))), ve (.pointer (some ⟨ad, 1, none⟩)), ve (.pointer (some ⟨ad, 2, none⟩)), ve (iv (i32M ((numberV v).1))), ve (iv ((-1) - (i32M ((numberV v).1)))), ve (.bool (decide ((-1 - i32M ((numberV v).1)) = ((-1) - (i32M ((numberV v).1)))))), ve (.bool (decide ((-1 - i32M ((numberV v).1)) = ((-1) - (i32M ((numberV v).1)))))), ve (.bool (decide ((-1 - i32M ((numberV v).1)) = ((-1) - (i32M ((numberV v).1))))))] bo (.eq (.eq (.eq (.eq (.eq (.eq (.eq (.eq (.eq (.eq (.eq (.eq (.eq (.eq (.eq (.eq (.eq (.eq (.eq (.eq (.eq (.eq (.eq (.eq (.eq (.eq (.eq (.eq (.eq (.eq (.eq (.eq (.eq (.eq (.eq (.eq (.eq (.eq (.eq (.eq (.eq (.eq (.eq (.eq (.eq (.eq (.eq (.eq (.eq (.eq (.eq (.eq (.eq (.eq (.eq (.eq (.eq (.eq (.eq (.eq (.eq (.eq (.eq (.eq (.eq (.nil)))))))))))))))))))))))))))))))))))))))))))))))))))))))))))))))))) ?_ ?_
 exact .o1 (ck rfl rfl rfl (fun _ w hn k => ⟨#[], rfl, fun _ => by kernel_rfl, first_c _ (HT.up (bn.transNew hn))⟩) fun _ => rfl) <| .m (fun k => k.eq1 0 60 rfl) <| .gm (fun k => k.eq1 1 61 rfl) (fun k => k.fx 7 e9) <| .g (fun k => k.eq1 1 61 rfl) (fun _ w hn k => ⟨_, v_bin rfl (k.eq1 2 62 rfl) rfl (fun _ => rfl) (fun w => by kernel_rfl), rfl⟩) <| .t (fun _ w hn k => ⟨_, v_pickT rfl (k.eq1 1 61 rfl) (k.eq1 3 63 rfl), rfl⟩) <| .m (fun k => k.eq1 4 64 rfl) <| .gm (fun k => k.eq1 5 65 rfl) (fun k => k.fx 9 fb) <| .g (fun k => k.eq1 5 65 rfl) (fun _ w hn k => ⟨_, v_bin rfl (k.eq1 6 66 rfl) rfl (fun _ => rfl) (fun w => by kernel_rfl), rfl⟩) <| .t (fun _ w hn k => ⟨_, v_pickT rfl (k.eq1 5 65 rfl) (k.eq1 7 67 rfl), rfl⟩) <| .m (fun k => k.eq1 8 68 rfl) <| .gm (fun k => k.eq1 9 69 rfl) (fun k => k.fx 11 fd) <| .g (fun k => k.eq1 9 69 rfl) (fun _ w hn k => ⟨_, v_bin rfl (k.eq1 10 70 rfl) rfl (fun _ => rfl) (fun w => by kernel_rfl), rfl⟩) <| .t (fun _ w hn k => ⟨_, v_pickT rfl (k.eq1 9 69 rfl) (k.eq1 11 71 rfl), rfl⟩) <| .m (fun k => k.eq1 12 72 rfl) <| .gm (fun k => k.eq1 13 73 rfl) (fun k => k.fx 13 ff) <| .g (fun k => k.eq1 13 73 rfl) (fun _ w hn k => ⟨_, v_bin rfl (k.eq1 14 74 rfl) rfl (fun _ => rfl) (fun w => by kernel_rfl), rfl⟩) <| .t (fun _ w hn k => ⟨_, v_pickT rfl (k.eq1 13 73 rfl) (k.eq1 15 75 rfl), rfl⟩) <| .m (fun k => k.eq1 16 76 rfl) <| .gm (fun k => k.eq1 17 77 rfl) (fun k => k.fx 15 fh) <| .g (fun k => k.eq1 17 77 rfl) (fun _ w hn k => ⟨_, v_bin rfl (k.eq1 18 78 rfl) rfl (fun _ => rfl) (fun w => by kernel_rfl), rfl⟩) <| .t (fun _ w hn k => ⟨_, v_pickT rfl (k.eq1 17 77 rfl) (k.eq1 19 79 rfl), rfl⟩) <| .m (fun k => k.eq1 20 80 rfl) <| .g (fun k => k.eq1 21 81 rfl) (fun _ w hn k => ⟨_, v_load rfl (k.fx 6 av) (l_agg Tryz.isAgg29 Tryz.sizeOf29 (al.new_ hn) rfl), rfl⟩) <| .g (fun k => k.eq1 21 81 rfl) (fun _ w hn k => ⟨_, v_load rfl (k.fx 10 fc) (l_agg Tryz.isAgg29 Tryz.sizeOf29 (dn.new_ hn) rfl), rfl⟩) <| .o1 (cg rfl rfl rfl (fun _ _ k => k.eq1 21 81 rfl) rfl (fun _ w hn k => ⟨#[vv (Vl.mk 3 0 (i32M ((numberV v).1)) false [] [] 0) none 0 none 0, vv (Vl.mk 3 0 (i32M ((numberV v).1)) false [] [] 0) none 0 none 0], args2 (k.eq1 22 82 rfl) (k.eq1 23 83 rfl), fun _ => by kernel_rfl, vsame_c (Vl.mk 3 0 (i32M ((numberV v).1)) false [] [] 0) _ _ _ _ (Vl.mk 3 0 (i32M ((numberV v).1)) false [] [] 0) _ _ _ _ _ (SRow.nil _ _) (SRow.nil _ _) (SRow.nil _ _) (SRow.nil _ _)⟩) fun _ => congrArg Value.bool (sameV_self _)) <| .t (fun _ w hn k => ⟨_, v_pickT rfl (k.eq1 21 81 rfl) (k.eq1 24 84 rfl), rfl⟩) <| .m (fun k => k.eq1 25 85 rfl) <| .g (fun k => k.eq1 26 86 rfl) (fun _ w hn k => ⟨_, v_load rfl (k.fx 6 av) (l_agg Tryz.isAgg29 Tryz.sizeOf29 (al.new_ hn) rfl), rfl⟩) <| .g (fun k => k.eq1 26 86 rfl) (fun _ w hn k => ⟨_, v_load rfl (k.fx 14 fg) (l_agg Tryz.isAgg29 Tryz.sizeOf29 (dk.new_ hn) rfl), rfl⟩) <| .o1 (cg rfl rfl rfl (fun _ _ k => k.eq1 26 86 rfl) rfl (fun _ w hn k => ⟨#[vv (Vl.mk 3 0 (i32M ((numberV v).1)) false [] [] 0) none 0 none 0, vv (Vl.mk 3 0 (i32M ((numberV v).1)) false [] [] 0) none 0 none 0], args2 (k.eq1 27 87 rfl) (k.eq1 28 88 rfl), fun _ => by kernel_rfl, vsame_c (Vl.mk 3 0 (i32M ((numberV v).1)) false [] [] 0) _ _ _ _ (Vl.mk 3 0 (i32M ((numberV v).1)) false [] [] 0) _ _ _ _ _ (SRow.nil _ _) (SRow.nil _ _) (SRow.nil _ _) (SRow.nil _ _)⟩) fun _ => congrArg Value.bool (sameV_self _)) <| .t (fun _ w hn k => ⟨_, v_pickT rfl (k.eq1 26 86 rfl) (k.eq1 29 89 rfl), rfl⟩) <| .m (fun k => k.eq1 30 90 rfl) <| .g (fun k => k.eq1 31 91 rfl) (fun _ w hn k => ⟨_, v_load rfl (k.fx 12 fe) (l_agg Tryz.isAgg29 Tryz.sizeOf29 (dp.new_ hn) rfl), rfl⟩) <| .o1 (cg rfl rfl rfl (fun _ _ k => k.eq1 31 91 rfl) rfl (fun _ w hn k => ⟨#[iv 0], args1 rfl, fun _ => by kernel_rfl, owhole_c 0 _ ⟩) fun _ => rfl) <| .o1 (cg rfl rfl rfl (fun _ _ k => k.eq1 31 91 rfl) rfl (fun _ w hn k => ⟨#[vv (Vl.mk 3 0 0 false [] [] 0) none 0 none 0, vv (Vl.mk 3 0 0 false [] [] 0) none 0 none 0], args2 (k.eq1 32 92 rfl) (k.eq1 33 93 rfl), fun _ => by kernel_rfl, vsame_c (Vl.mk 3 0 0 false [] [] 0) _ _ _ _ (Vl.mk 3 0 0 false [] [] 0) _ _ _ _ _ (SRow.nil _ _) (SRow.nil _ _) (SRow.nil _ _) (SRow.nil _ _)⟩) fun _ => congrArg Value.bool (sameV_self _)) <| .t (fun _ w hn k => ⟨_, v_pickT rfl (k.eq1 31 91 rfl) (k.eq1 34 94 rfl), rfl⟩) <| .m (fun k => k.eq1 35 95 rfl) <| .gf (fun k => k.eq1 36 96 rfl) (fun k => k.fx 6 av) <| .gf (fun k => k.eq1 36 96 rfl) (fun k => k.eq1 37 97 rfl) <| .g (fun k => k.eq1 36 96 rfl) (fun _ w hn k => ⟨_, v_load rfl (k.eq1 38 98 rfl) (l_one Tryz.isAgg3 ((al.new_ hn).cell 1)), rfl⟩) <| .g (fun k => k.eq1 36 96 rfl) (fun _ w hn k => ⟨_, v_bin rfl (k.eq1 39 99 rfl) rfl (fun _ => rfl) (fun w => by kernel_rfl), rfl⟩) <| .t (fun _ w hn k => ⟨_, v_pickT rfl (k.eq1 36 96 rfl) (k.eq1 40 100 rfl), rfl⟩) <| .m (fun k => k.eq1 41 101 rfl) <| .gf (fun k => k.eq1 42 102 rfl) (fun k => k.fx 6 av) <| .gf (fun k => k.eq1 42 102 rfl) (fun k => k.eq1 43 103 rfl) <| .g (fun k => k.eq1 42 102 rfl) (fun _ w hn k => ⟨_, v_load rfl (k.eq1 44 104 rfl) (l_one Tryz.isAgg3 ((al.new_ hn).cell 2)), rfl⟩) <| .g (fun k => k.eq1 42 102 rfl) (fun _ w hn k => ⟨_, v_bin rfl (k.eq1 45 105 rfl) rfl (fun _ => rfl) (r_geqK bp), rfl⟩) <| .t (fun _ w hn k => ⟨_, v_pickT rfl (k.eq1 42 102 rfl) (k.eq1 46 106 rfl), rfl⟩) <| .m (fun k => k.eq1 47 107 rfl) <| .gf (fun k => k.eq1 48 108 rfl) (fun k => k.fx 6 av) <| .gf (fun k => k.eq1 48 108 rfl) (fun k => k.eq1 49 109 rfl) <| .g (fun k => k.eq1 48 108 rfl) (fun _ w hn k => ⟨_, v_load rfl (k.eq1 50 110 rfl) (l_one Tryz.isAgg3 ((al.new_ hn).cell 2)), rfl⟩) <| .g (fun k => k.eq1 48 108 rfl) (fun _ w hn k => ⟨_, v_bin rfl (k.eq1 51 111 rfl) rfl (fun _ => rfl) (r_lssK bq), rfl⟩) <| .t (fun _ w hn k => ⟨_, v_pickT rfl (k.eq1 48 108 rfl) (k.eq1 52 112 rfl), rfl⟩) <| .m (fun k => k.eq1 53 113 rfl) <| .gf (fun k => k.eq1 54 114 rfl) (fun k => k.fx 8 fa) <| .gf (fun k => k.eq1 54 114 rfl) (fun k => k.eq1 55 115 rfl) <| .g (fun k => k.eq1 54 114 rfl) (fun _ w hn k => ⟨_, v_load rfl (k.eq1 56 116 rfl) (l_one Tryz.isAgg3 ((dm.new_ hn).cell 2)), rfl⟩) <| .gf (fun k => k.eq1 54 114 rfl) (fun k => k.fx 6 av) <| .gf (fun k => k.eq1 54 114 rfl) (fun k => k.eq1 58 118 rfl) <| .g (fun k => k.eq1 54 114 rfl) (fun _ w hn k => ⟨_, v_load rfl (k.eq1 59 119 rfl) (l_one Tryz.isAgg3 ((al.new_ hn).cell 2)), rfl⟩) <| .g (fun k => k.eq1 54 114 rfl) (fun _ w hn k => ⟨_, v_bin rfl rfl (k.eq1 60 120 rfl) (fun _ => rfl) (r_sub rfl (by omega)), rfl⟩) <| .g (fun k => k.eq1 54 114 rfl) (fun _ w hn k => ⟨_, v_bin rfl (k.eq1 57 117 rfl) (k.eq1 61 121 rfl) (fun _ => rfl) (r_eql rfl), rfl⟩) <| .t (fun _ w hn k => ⟨_, v_pickT rfl (k.eq1 54 114 rfl) (k.eq1 62 122 rfl), rfl⟩) <| .a (fun k => k.eq1 63 123 rfl) .nil
 refine aftI bo dq bn fun go gp fH ds dt fI du => ?_
 have fi := du.ge 64 2 rfl
 refine st_nil (dr _ _ ?_)
 refine wp_ret (ret_k ds (v := .bool (decide ((-1 - i32M ((numberV v).1)) = ((-1) - (i32M ((numberV v).1)))))) (res_t rfl fi _) ?_)
 exact ⟨congrArg (fun b => Ending.returned (.bool b)) (show (decide ((-1 - i32M ((numberV v).1)) = ((-1) - (i32M ((numberV v).1))))) = true from decide_eq_true (by omega)), dt⟩
 have cr := oF aq
 refine wp_g0 [true, true] [] 124
   [ve (iv ((numberV v).2)), vT] aG (.eq (.eq (.nil))) ?_ ?_
 exact .m (fun k => k.fx 4 dR) <| .t (fun _ w hn k => ⟨_, v_bin rfl (k.eq1 0 27 rfl) rfl (fun _ => rfl) (r_neq aq), rfl⟩) .nil
 refine aftI aG bE bD fun gq gr br dw bs dx bt => ?_
 have gs := bt.fx 3 dQ
 have fj := bt.ge 1 28 rfl
 have fJ := bC.new_ dx
 refine st_nil (bF _ _ ?_)
 refine wp_cond_true fj ?_
 refine wp_seq_k fun gt dy => ?_
 refine wp_g0 [true, true] [] 124
   [vT, vT] br (.eq (.eq (.nil))) ?_ ?_
 exact .o1 (ck rfl rfl rfl (fun _ w hn k => ⟨#[], rfl, fun _ => by kernel_rfl, first_c _ (HT.up (bs.transNew hn))⟩) fun _ => rfl) <| .a (fun k => k.eq1 0 29 rfl) .nil
 refine aftI br dw bs fun gu gv fK dz dA fL dB => ?_
 have fk := dB.ge 1 2 rfl
 refine st_nil (dy _ _ ?_)
 refine wp_ret (ret_k dz (v := .bool true) (res_t rfl fk _) ?_)
 exact ⟨rfl, dA⟩
 have dC : dK.eval (.tmp 20) = .bool true := dL.trans (congrArg Value.bool (by rw [aD]; rfl))
 refine wp_cond_true dC ?_
 refine wp_seq_k fun gw dD => ?_
 refine wp_g0 [true, true] [] 124
   [vT, vT] aF (.eq (.eq (.nil))) ?_ ?_
 exact .o1 (ck rfl rfl rfl (fun _ w hn k => ⟨#[], rfl, fun _ => by kernel_rfl, first_c _ (HT.up (ap.transNew hn))⟩) fun _ => rfl) <| .a (fun k => k.eq1 0 21 rfl) .nil
 refine aftI aF bz ap fun gx gy fM dE dF fN dG => ?_
 have fl := dG.ge 1 2 rfl
 refine st_nil (dD _ _ ?_)
 refine wp_ret (ret_k dE (v := .bool true) (res_t rfl fl _) ?_)
 exact ⟨rfl, dF⟩
end Go.Proofs.YtjakfchffigkkaaGreatDoor
