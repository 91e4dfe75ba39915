import Derived.Test.YtjakfchffigkkaaGreatDoorOqa
import Derived.Test.YtjakfchffigkkaaGreatDoorCvShelfO
namespace Go.Proofs.YtjakfchffigkkaaGreatDoor
open Go.RowKit
set_option linter.unusedSimpArgs false
set_option linter.unusedVariables false
set_option maxHeartbeats 16000000
set_option maxRecDepth 100000
theorem run_conv {P:Program} {s d:TypeId} {k kd:IntKind} {n m:Int} {w:World} (hs:(P.underlying s).isSome=true) (hd:P.underlying d=some (.int (P.intKind d))) (hk:P.intKind d=kd) (hr:kd.wrap n=m):(convert s d (.int k n)).run P w=.ok (.int kd m) w:=by
  rw [run_convert_int (src:=s) (dst:=d) (k:=k) (n:=n) (hs:=hs) (hd:=hd),hk,hr]
theorem r_remU {P:Program} {t:TypeId} {x y r:Int} (h:x.tmod y=r) (hy:y ≠ 0):∀ w,(binOp .rem t (.int .u64 x) (.int .u64 y)).run P w=.ok (.int .u64 r) w:=by
  intro w; simp [binOp,Op.intDiv,h,hy]
abbrev numVl (a:Nm):Vl:=⟨3,a.k,a.n,false,[],[],0⟩
def numericsV (v u:Vl):Vl × Vl × Int :=
  if decide ((numericV v).2=0) then (if decide ((numericV u).2=0) then
    (if decide ((numericV v).1.k=(numericV u).1.k) then ((numericV v).1,(numericV u).1,0) else (Vl.z,Vl.z,1))
    else (Vl.z,Vl.z,(numericV u).2))
  else (Vl.z,Vl.z,(numericV v).2)
def joinV (v u:Vl):Vl × Int :=
  if decide ((textV v).2=0) then (if decide ((textV u).2=0) then
    (if decide ((((textV v).1.length + (textV u).1.length:Nat):Int)≤4096) then (strV ((textV v).1 ++ (textV u).1),0) else (Vl.z,3))
    else (Vl.z,(textV u).2))
  else (Vl.z,(textV v).2)
theorem num_mayV {n:Nm} (h:nmayB n=true):mayV (numVl n)=true:=by
  unfold mayV
  simp [zeroV,Vl.num,h]
theorem num_clean {n:Nm} (h:nmayB n=true):cleanV (numVl n)=numVl n:=by unfold cleanV; rw [if_pos (num_mayV h)]
theorem num_numeric {n:Nm} (h:nmayB n=true):numericV (numVl n)=(numVl n,0):=by
  unfold numericV numberV
  simp only [num_clean h]
  rfl
theorem str_clean (u:List Nat):cleanV (strV u)=strV u:=by
  have h:(u.take 4096).length≤4096:=by rw [List.length_take]; omega
  exact clean_of (may_str (u:=u.take 4096) (by omega))
theorem str_text (u:List Nat):textV (strV u)=(u.take 4096,0):=by
  unfold textV
  rw [str_clean]; rfl
theorem num_text {n:Nm} (h:nmayB n=true):textV (numVl n)=(asc (textM n),0):=by
  unfold textV
  rw [num_clean h]; rfl
theorem join_num {a:List Nat} {n:Nm} (ha:a.length≤4000) (h:nmayB n=true):joinV (cleanV (strV a)) (cleanV (numVl n))=(strV (a ++ asc (textM n)),0):=by
  have h1:=textM_size n
  have h2:=asc_len (textM n)
  unfold joinV
  rw [str_clean,num_clean h,str_text,num_text h,List.take_of_length_le (by omega)]
  simp only [decide_true,if_true]
  rw [if_pos (decide_eq_true (by omega))]
theorem whole_mayB {n:Int} (h1:-9007199254740991≤n) (h2:n≤9007199254740991):nmayB ⟨0,n⟩=true:=by unfold nmayB; simp; omega
theorem whole_text {n:Int} (h1:-9007199254740991≤n) (h2:n≤9007199254740991):textM ⟨0,n⟩=strOfNums (textI n):=by
  rw [textI_itoa]
  unfold textM asM
  rw [if_pos (whole_mayB h1 h2)]; rfl
theorem nan_c  (w:World):Calls Tryz.prog 94 #[] w (IsRet (nv (Nm.mk 2 0)) w):=by
 refine enter_abs Tryz.func94 rfl fun a0 aa au hp=>?_
 have aa:a0.tmps.size=2:=aa
 have ad:New w w:=Upd.refl _ _
 refine wp_seq_k fun K1 av=>?_
 refine wp_g [true] [] [] 2
   [IsNew w 23 [iv 0,iv 0]]
   [0] (newsCons (fun v w h=>IsNew.old h) newsNil) aa (.nw (.nil)) ?_ (fun i h=>by cases h) ?_
 exact .o2 (step_allocN (cs:=[iv 0,iv 0]) (t:=23) rfl (noG rfl) (fun _ w hn k=>rfl) (fun q _ hq hb=>⟨q,rfl,hq,hb⟩)) .nil
 refine aftI aa au ad fun a2 w3 ae aw ag aC ax=>?_
 obtain⟨q9,h8,ah,ai⟩:=ax.G 0 0
 have az:=Nat.le_trans ad.size ah
 refine st_nil (av _ _ (wp_seq_k fun aD aj=>?_))
 refine wp_g0 [true,false] [(1,false)] 2
   [ve (nv (Nm.mk 2 0)),vt] ae (.eq (.tt (.nil))) ?_ ?_
 exact .t (fun _ w hn k=>⟨_,v_build (ps:=[(0,iv 2)]) rfl (parts1 rfl) (by kernel_rfl),rfl⟩)<| .off .nil
 refine aftI ae aw ag fun aE aF aA ak al am ab=>?_
 have af:=ab.fx 0 h8
 have ay:=ab.ge 0 1 rfl
 have an:=ai.new_ am
 obtain⟨aG,-,ac,ao,ap,aB⟩:=s_two (v0:=iv 2) (v1:=iv 0) Tryz.sizeOf23 rfl rfl rfl an
 refine st_act rfl rfl fun aH aq=>a_store' rfl af ay ac (aq _ _ trivial ?_)
 have ar:=al.trans ap (fun _ h b=>by subst b; omega)
 refine st_nil (aj _ _ ?_)
 refine wp_ret (ret_k ak (v:=nv (Nm.mk 2 0)) (res_c rfl af (l_two Tryz.isAgg23 Tryz.sizeOf23 ao)) ?_)
 exact⟨rfl,ar⟩
theorem may_c (a:Nm) (w:World):Calls Tryz.prog 47 #[nv a] w (IsRet (.bool (nmayB a)) w):=by
 refine enter_abs Tryz.func47 rfl fun a0 aq b3 hp=>?_
 have aq:a0.tmps.size=23:=aq
 have bh:New w w:=Upd.refl _ _
 have hp0:a0.eval (.tmp 0)=nv a:=hp 0 _ rfl
 refine wp_seq_k fun K1 b4=>?_
 refine wp_g [true,true] [] [] 23
   [IsNew w 23 [iv a.k,iv a.n],vF]
   [0] (newsCons (fun v w h=>IsNew.old h) newsNil) aq (.nw (.eq (.nil))) ?_ (fun i h=>by cases h) ?_
 exact .o2 (step_allocN (cs:=[iv a.k,iv a.n]) (t:=23) rfl (noG rfl) (fun _ w hn k=>v_box rfl (k.fx 0 hp0) (fun w=>rfl)) (fun q _ hq hb=>⟨q,rfl,hq,hb⟩))<| .t (fun _ w hn k=>⟨_,v_assign rfl rfl,rfl⟩) .nil
 refine aftI aq b3 bh fun a2 w3 bi b5 bs cE b6=>?_
 obtain⟨q9,h8,bt,aA⟩:=b6.G 0 1
 have ci:=Nat.le_trans bh.size bt
 refine st_nil (b4 _ _ (wp_seq_k fun cF bu=>?_))
 refine wp_seq_k fun cG bv=>?_
 refine wp_g0 [true,true] [] 23
   [ve (pv q9),ve (iv a.k)] bi (.eq (.eq (.nil))) ?_ ?_
 exact .f (fun k=>k.fx 1 h8)<| .t (fun _ w hn k=>⟨_,v_load rfl (k.eq1 0 3 rfl) (l_one Tryz.isAgg3 ((aA.new_ hn).cell 0)),rfl⟩) .nil
 refine aftI bi b5 bs fun cH cI aB bw bx bz aC=>?_
 have b7:=aC.fx 1 h8
 have bj:=aC.ge 1 4 rfl
 have bA:=aA.new_ bz
 refine st_nil (bv _ _ ?_)
 refine wp_block ?_
 refine wp_seq_k fun cJ bB=>?_
 refine wp_g0 [true,true] [] 23
   [ve (.bool (decide (a.k=0))),ve (.bool (decide (a.k=0)))] aB (.eq (.eq (.nil))) ?_ ?_
 exact .t (fun _ w hn k=>⟨_,v_bin rfl (k.fx 4 bj) rfl (fun _=>rfl) (r_eql rfl),rfl⟩)<| .a (fun k=>k.eq1 0 6 rfl) .nil
 refine aftI aB bw bx fun cK cL ah aD aE bC am=>?_
 have aF:=am.fx 1 b7
 have bk:=am.fx 4 bj
 have bl:=am.ge 1 5 rfl
 have an:=bA.new_ bC
 refine st_nil (bB _ _ ?_)
 rcases bc (decide (a.k=0)) with aa|aa
 have aT:=oT aa
 have bD:=hB bl aa
 refine wp_cond_true bD ?_
 refine wp_seq_k fun cM bE=>?_
 refine wp_g0 (.replicate 9 true) [] 23
   [ve (.pointer (some ⟨q9,1,none⟩)),ve (iv a.n),ve (.bool (!decide (a.n < -9007199254740991))),ve (.bool (!decide (a.n < -9007199254740991))),ve (gq (!decide (a.n < -9007199254740991)) (.pointer (some ⟨q9,1,none⟩))),ve (gq (!decide (a.n < -9007199254740991)) (iv a.n)),ve (gq (!decide (a.n < -9007199254740991)) (.bool (decide (a.n≤9007199254740991)))),ve (.bool ((!decide (a.n < -9007199254740991)) && (decide (a.n≤9007199254740991)))),ve (.bool ((!decide (a.n < -9007199254740991)) && (decide (a.n≤9007199254740991))))] ah (.eq (.eq (.eq (.eq (.eq (.eq (.eq (.eq (.eq (.nil)))))))))) ?_ ?_
 exact .f (fun k=>k.fx 1 aF)<| .t (fun _ w hn k=>⟨_,v_load rfl (k.eq1 0 7 rfl) (l_one Tryz.isAgg3 ((an.new_ hn).cell 1)),rfl⟩)<| .t (fun _ w hn k=>⟨_,v_bin rfl (k.eq1 1 8 rfl) rfl (fun _=>rfl) (r_geqK rfl),rfl⟩)<| .m (fun k=>k.eq1 2 9 rfl)<| .o1 (sc (G:=(!decide (a.n < -9007199254740991))) rfl rfl rfl (fun _ _ k=>g0 (k.eq1 3 10 rfl)) (fun hG _ w hn k=>v_field rfl (k.fx 1 aF) (fun w=>rfl)))<| .o1 (sc (G:=(!decide (a.n < -9007199254740991))) rfl rfl rfl (fun _ _ k=>g0 (k.eq1 3 10 rfl)) (fun hG _ w hn k=>v_load rfl (cT hG (k.eq1 4 11 rfl)) (l_one Tryz.isAgg3 ((an.new_ hn).cell 1))))<| .o1 (sc (G:=(!decide (a.n < -9007199254740991))) rfl rfl rfl (fun _ _ k=>g0 (k.eq1 3 10 rfl)) (fun hG _ w hn k=>v_bin rfl (cT hG (k.eq1 5 12 rfl)) rfl (fun _=>rfl) (r_leqK rfl)))<| .t (fun _ w hn k=>⟨_,v_and rfl (k.eq1 3 10 rfl) (fun hg=>(cT hg (k.eq1 6 13 rfl))) rfl,rfl⟩)<| .a (fun k=>k.eq1 7 14 rfl) .nil
 refine aftI ah aD aE fun cN cO cj bF bG cl bH=>?_
 have b8:=bH.ge 8 2 rfl
 refine st_nil (bE _ _ ?_)
 refine wp_ret (ret_k bF (v:=.bool ((!decide (a.n < -9007199254740991)) && (decide (a.n≤9007199254740991)))) (res_t rfl b8 _) ?_)
 refine ⟨?_,bG⟩
 show Ending.returned (.bool ((!decide (a.n < -9007199254740991)) && (decide (a.n≤9007199254740991))))=Ending.returned (.bool (nmayB a))
 first|rfl|(simp only [nmayB,aa,bsm] <;> rfl)|(exfalso; omega)
 have aT:=oF aa
 have bI:=hB bl aa
 refine wp_cond_false bI ?_
 refine wp_seq_k fun cP ai=>?_
 refine wp_seq_k fun cQ bJ=>?_
 refine wp_g0 [true,true] [] 23
   [ve (.bool (decide (a.k=1))),ve (.bool (decide (a.k=1)))] ah (.eq (.eq (.nil))) ?_ ?_
 exact .t (fun _ w hn k=>⟨_,v_bin rfl (k.fx 4 bk) rfl (fun _=>rfl) (r_eql rfl),rfl⟩)<| .a (fun k=>k.eq1 0 16 rfl) .nil
 refine aftI ah aD aE fun cR cS aj aG aH bK ao=>?_
 have bm:=ao.fx 1 aF
 have bn:=ao.fx 4 bk
 have bo:=ao.ge 1 15 rfl
 have aI:=an.new_ bK
 refine st_nil (bJ _ _ ?_)
 rcases bc (decide (a.k=1)) with ac|ac
 have aU:=oT ac
 have aJ:=hB bo ac
 refine wp_cond_true aJ ?_
 refine wp_skip ?_
 refine ai _ _ ?_
 refine wp_cond_true aJ ?_
 refine wp_seq_k fun cU bL=>?_
 refine wp_g0 [true,true,true,true] [] 23
   [ve (.pointer (some ⟨q9,1,none⟩)),ve (iv a.n),ve (.bool (decide (a.n=0))),ve (.bool (decide (a.n=0)))] aj (.eq (.eq (.eq (.eq (.nil))))) ?_ ?_
 exact .f (fun k=>k.fx 1 bm)<| .t (fun _ w hn k=>⟨_,v_load rfl (k.eq1 0 20 rfl) (l_one Tryz.isAgg3 ((aI.new_ hn).cell 1)),rfl⟩)<| .t (fun _ w hn k=>⟨_,v_bin rfl (k.eq1 1 21 rfl) rfl (fun _=>rfl) (r_eql rfl),rfl⟩)<| .a (fun k=>k.eq1 2 22 rfl) .nil
 refine aftI aj aG aH fun cV cW cm bM bN cn bO=>?_
 have b9:=bO.ge 3 2 rfl
 refine st_nil (bL _ _ ?_)
 refine wp_ret (ret_k bM (v:=.bool (decide (a.n=0))) (res_t rfl b9 _) ?_)
 refine ⟨?_,bN⟩
 show Ending.returned (.bool (decide (a.n=0)))=Ending.returned (.bool (nmayB a))
 first|rfl|(simp only [nmayB,aa,ac,bsm] <;> rfl)|(exfalso; omega)
 have aU:=oF ac
 have bP:=hB bo ac
 refine wp_cond_false bP ?_
 refine wp_seq_k fun cX bQ=>?_
 refine wp_g0 [true,true] [] 23
   [ve (.bool (decide (a.k=2))),ve (.bool (decide (a.k=2)))] aj (.eq (.eq (.nil))) ?_ ?_
 exact .t (fun _ w hn k=>⟨_,v_bin rfl (k.fx 4 bn) rfl (fun _=>rfl) (r_eql rfl),rfl⟩)<| .a (fun k=>k.eq1 0 17 rfl) .nil
 refine aftI aj aG aH fun cY cZ ak aK aL bR ap=>?_
 have bp:=ap.fx 1 bm
 have bq:=ap.fx 4 bn
 have br:=ap.ge 1 15 rfl
 have aM:=aI.new_ bR
 refine st_nil (bQ _ _ ?_)
 rcases bc (decide (a.k=2)) with ad|ad
 have aV:=oT ad
 have aN:=hB br ad
 refine wp_cond_true aN ?_
 refine wp_skip ?_
 refine ai _ _ ?_
 refine wp_cond_true aN ?_
 refine wp_seq_k fun c0 bS=>?_
 refine wp_g0 [true,true,true,true] [] 23
   [ve (.pointer (some ⟨q9,1,none⟩)),ve (iv a.n),ve (.bool (decide (a.n=0))),ve (.bool (decide (a.n=0)))] ak (.eq (.eq (.eq (.eq (.nil))))) ?_ ?_
 exact .f (fun k=>k.fx 1 bp)<| .t (fun _ w hn k=>⟨_,v_load rfl (k.eq1 0 20 rfl) (l_one Tryz.isAgg3 ((aM.new_ hn).cell 1)),rfl⟩)<| .t (fun _ w hn k=>⟨_,v_bin rfl (k.eq1 1 21 rfl) rfl (fun _=>rfl) (r_eql rfl),rfl⟩)<| .a (fun k=>k.eq1 2 22 rfl) .nil
 refine aftI ak aK aL fun c1 c2 co bT bU cp bV=>?_
 have ca:=bV.ge 3 2 rfl
 refine st_nil (bS _ _ ?_)
 refine wp_ret (ret_k bT (v:=.bool (decide (a.n=0))) (res_t rfl ca _) ?_)
 refine ⟨?_,bU⟩
 show Ending.returned (.bool (decide (a.n=0)))=Ending.returned (.bool (nmayB a))
 first|rfl|(simp only [nmayB,aa,ac,ad,bsm] <;> rfl)|(exfalso; omega)
 have aV:=oF ad
 have bW:=hB br ad
 refine wp_cond_false bW ?_
 refine wp_seq_k fun c3 bX=>?_
 refine wp_g0 [true,true] [] 23
   [ve (.bool (decide (a.k=3))),ve (.bool (decide (a.k=3)))] ak (.eq (.eq (.nil))) ?_ ?_
 exact .t (fun _ w hn k=>⟨_,v_bin rfl (k.fx 4 bq) rfl (fun _=>rfl) (r_eql rfl),rfl⟩)<| .a (fun k=>k.eq1 0 18 rfl) .nil
 refine aftI ak aK aL fun cq cr af ar au aW al=>?_
 have aO:=al.fx 1 bp
 have bY:=al.fx 4 bq
 have aP:=al.ge 1 15 rfl
 have av:=aM.new_ aW
 refine st_nil (bX _ _ ?_)
 rcases bc (decide (a.k=3)) with ab|ab
 have aQ:=oT ab
 have aw:=hB aP ab
 refine wp_cond_true aw ?_
 refine wp_skip ?_
 refine ai _ _ ?_
 refine wp_cond_true aw ?_
 refine wp_seq_k fun ct aX=>?_
 refine wp_g0 [true,true,true,true] [] 23
   [ve (.pointer (some ⟨q9,1,none⟩)),ve (iv a.n),ve (.bool (decide (a.n=0))),ve (.bool (decide (a.n=0)))] af (.eq (.eq (.eq (.eq (.nil))))) ?_ ?_
 exact .f (fun k=>k.fx 1 aO)<| .t (fun _ w hn k=>⟨_,v_load rfl (k.eq1 0 20 rfl) (l_one Tryz.isAgg3 ((av.new_ hn).cell 1)),rfl⟩)<| .t (fun _ w hn k=>⟨_,v_bin rfl (k.eq1 1 21 rfl) rfl (fun _=>rfl) (r_eql rfl),rfl⟩)<| .a (fun k=>k.eq1 2 22 rfl) .nil
 refine aftI af ar au fun cu cv cb aY aZ cc a1=>?_
 have bZ:=a1.ge 3 2 rfl
 refine st_nil (aX _ _ ?_)
 refine wp_ret (ret_k aY (v:=.bool (decide (a.n=0))) (res_t rfl bZ _) ?_)
 refine ⟨?_,aZ⟩
 show Ending.returned (.bool (decide (a.n=0)))=Ending.returned (.bool (nmayB a))
 first|rfl|(simp only [nmayB,aa,ac,ad,ab,bsm] <;> rfl)|(exfalso; omega)
 have aQ:=oF ab
 have a3:=hB aP ab
 refine wp_cond_false a3 ?_
 refine wp_g0 [true,true] [] 23
   [ve (.bool (decide (a.k=4))),ve (.bool (decide (a.k=4)))] af (.eq (.eq (.nil))) ?_ ?_
 exact .t (fun _ w hn k=>⟨_,v_bin rfl (k.fx 4 bY) rfl (fun _=>rfl) (r_eql rfl),rfl⟩)<| .a (fun k=>k.eq1 0 19 rfl) .nil
 refine aftI af ar au fun cw cx ag ax ay a4 az=>?_
 have b0:=az.fx 1 aO
 have aR:=az.ge 1 15 rfl
 have a5:=av.new_ a4
 refine st_nil (ai _ _ ?_)
 rcases bc (decide (a.k=4)) with ae|ae
 have aS:=oT ae
 have a6:=hB aR ae
 refine wp_cond_true a6 ?_
 refine wp_seq_k fun cy a7=>?_
 refine wp_g0 [true,true,true,true] [] 23
   [ve (.pointer (some ⟨q9,1,none⟩)),ve (iv a.n),ve (.bool (decide (a.n=0))),ve (.bool (decide (a.n=0)))] ag (.eq (.eq (.eq (.eq (.nil))))) ?_ ?_
 exact .f (fun k=>k.fx 1 b0)<| .t (fun _ w hn k=>⟨_,v_load rfl (k.eq1 0 20 rfl) (l_one Tryz.isAgg3 ((a5.new_ hn).cell 1)),rfl⟩)<| .t (fun _ w hn k=>⟨_,v_bin rfl (k.eq1 1 21 rfl) rfl (fun _=>rfl) (r_eql rfl),rfl⟩)<| .a (fun k=>k.eq1 2 22 rfl) .nil
 refine aftI ag ax ay fun cz cA cd a8 a9 ce ba=>?_
 have b1:=ba.ge 3 2 rfl
 refine st_nil (a7 _ _ ?_)
 refine wp_ret (ret_k a8 (v:=.bool (decide (a.n=0))) (res_t rfl b1 _) ?_)
 refine ⟨?_,a9⟩
 show Ending.returned (.bool (decide (a.n=0)))=Ending.returned (.bool (nmayB a))
 first|rfl|(simp only [nmayB,aa,ac,ad,ab,ae,bsm] <;> rfl)|(exfalso; omega)
 have aS:=oF ae
 have bb:=hB aR ae
 refine wp_cond_false bb ?_
 refine wp_skip ?_
 refine bu _ _ ?_
 refine wp_seq_k fun cB bd=>?_
 refine wp_g0 [true] [] 23
   [vF] ag (.eq (.nil)) ?_ ?_
 exact .t (fun _ w hn k=>⟨_,v_assign rfl rfl,rfl⟩) .nil
 refine aftI ag ax ay fun cC cD cf be bf ch bg=>?_
 have b2:=bg.ge 0 2 rfl
 refine st_nil (bd _ _ ?_)
 refine wp_ret (ret_k be (v:=.bool false) (res_t rfl b2 _) ?_)
 refine ⟨?_,bf⟩
 show Ending.returned (.bool false)=Ending.returned (.bool (nmayB a))
 first|rfl|(simp only [nmayB,aa,ac,ad,ab,ae,bsm] <;> rfl)|(exfalso; omega)
theorem bmay_c (a:Bool) (Aa:Option Addr) (ma:List Nat) (ca:Nat) (w:World) (hra:SRow w .u32 Aa ma ca):Calls Tryz.prog 48 #[.agg #[.bool a,sv Aa ma ca]] w (IsRet (.bool (mayB a ma)) w):=by
 refine enter_abs Tryz.func48 rfl fun a0 aq a9 hp=>?_
 have aq:a0.tmps.size=31:=aq
 have az:New w w:=Upd.refl _ _
 have hp0:a0.eval (.tmp 0)=.agg #[.bool a,sv Aa ma ca]:=hp 0 _ rfl
 have hmx:=hra.max
 refine wp_seq_k fun K1 ba=>?_
 refine wp_g [true,true] [] [] 31
   [IsNew w 26 [.bool a,sv Aa ma ca],vF]
   [0] (newsCons (fun v w h=>IsNew.old h) newsNil) aq (.nw (.eq (.nil))) ?_ (fun i h=>by cases h) ?_
 exact .o2 (step_allocN (cs:=[.bool a,sv Aa ma ca]) (t:=26) rfl (noG rfl) (fun _ w hn k=>v_box rfl (k.fx 0 hp0) (fun w=>rfl)) (fun q _ hq hb=>⟨q,rfl,hq,hb⟩))<| .t (fun _ w hn k=>⟨_,v_assign rfl rfl,rfl⟩) .nil
 refine aftI aq a9 az fun a2 w3 aA bb aB bX bd=>?_
 obtain⟨q9,h8,aC,ar⟩:=bd.G 0 1
 have bG:=Nat.le_trans az.size aC
 refine st_nil (ba _ _ (wp_seq_k fun bY aD=>?_))
 refine wp_g0 [true,true,true,true] [] 31
   [ve (.pointer (some ⟨q9,1,none⟩)),ve (sv Aa ma ca),ve (iv (ma.length:Int)),ve (iv (ma.length:Int))] aA (.eq (.eq (.eq (.eq (.nil))))) ?_ ?_
 exact .f (fun k=>k.fx 1 h8)<| .t (fun _ w hn k=>⟨_,v_load rfl (k.eq1 0 4 rfl) (l_one Tryz.isAgg24 ((ar.new_ hn).cell 1)),rfl⟩)<| .t (fun _ w hn k=>⟨_,v_lenR rfl elW (k.eq1 1 5 rfl),rfl⟩)<| .a (fun k=>k.eq1 2 6 rfl) .nil
 refine aftI aA bb aB fun bZ b0 ab ag ac aE au=>?_
 have al:=au.fx 1 h8
 have aa:=au.ge 3 3 rfl
 have ah:=ar.new_ aE
 refine st_nil (aD _ _ (wp_seq_k fun b1 ai=>?_))
 rcases bc (decide ((ma.length:Int)≤8)) with ad|ad
 have av:=oT ad
 rcases bc (decide ((ma.length:Int)=0)) with ae|ae
 have aw:=oT ae
 rcases bc (a) with af|af
 rcases bc (decide ((ma.length:Int)≤0)) with aj|aj
 have ax:=oT aj
 refine wp_g0 (.replicate 25 true) [] 31
   [ve (iv (ma.length:Int)),vT,vT,ve (iv (ma.length:Int)),vT,vT,ve (pv q9),vT,vF,vF,vF,ve (iv (ma.length:Int)),vF,vF,vU,vU,vU,vU,vU,vU,vU,vF,vF,vF,vF] ab (.eq (.eq (.eq (.eq (.eq (.eq (.eq (.eq (.eq (.eq (.eq (.eq (.eq (.eq (.eq (.eq (.eq (.eq (.eq (.eq (.eq (.eq (.eq (.eq (.eq (.nil)))))))))))))))))))))))))) ?_ ?_
 exact .m (fun k=>k.fx 3 aa)<| .t (fun _ w hn k=>⟨_,v_bin rfl (k.eq1 0 7 rfl) rfl (fun _=>rfl) (r_leqK ad),rfl⟩)<| .m (fun k=>k.eq1 1 8 rfl)<| .gm (fun k=>k.eq1 2 9 rfl) (fun k=>k.fx 3 aa)<| .g (fun k=>k.eq1 2 9 rfl) (fun _ w hn k=>⟨_,v_bin rfl (k.eq1 3 10 rfl) rfl (fun _=>rfl) (r_eql ae),rfl⟩)<| .gm (fun k=>k.eq1 2 9 rfl) (fun k=>k.eq1 4 11 rfl)<| .gf (fun k=>k.eq1 5 12 rfl) (fun k=>k.fx 1 al)<| .o1 (tg rfl rfl rfl (fun _ _ k=>k.eq1 5 12 rfl) fun _ w hn k=>⟨_,v_load rfl (k.eq1 6 13 rfl) (l_one Tryz.isAgg4 ((ah.new_ hn).cell 0)),congrArg Value.bool af⟩)<| .g (fun k=>k.eq1 5 12 rfl) (fun _ w hn k=>⟨_,v_not rfl (k.eq1 7 14 rfl),rfl⟩)<| .g (fun k=>k.eq1 2 9 rfl) (fun _ w hn k=>⟨_,v_pickT rfl (k.eq1 5 12 rfl) (k.eq1 8 15 rfl),rfl⟩)<| .gm (fun k=>k.eq1 2 9 rfl) (fun k=>k.eq1 9 16 rfl)<| .gm (fun k=>k.eq1 10 17 rfl) (fun k=>k.fx 3 aa)<| .g (fun k=>k.eq1 10 17 rfl) (fun _ w hn k=>⟨_,v_bin rfl (k.eq1 11 18 rfl) rfl (fun _=>rfl) (r_gtrK aj),rfl⟩)<| .gm (fun k=>k.eq1 10 17 rfl) (fun k=>k.eq1 12 19 rfl)<| .s (fun k=>k.eq1 13 20 rfl)<| .s (fun k=>k.eq1 13 20 rfl)<| .s (fun k=>k.eq1 13 20 rfl)<| .s (fun k=>k.eq1 13 20 rfl)<| .s (fun k=>k.eq1 13 20 rfl)<| .s (fun k=>k.eq1 13 20 rfl)<| .s (fun k=>k.eq1 13 20 rfl)<| .g (fun k=>k.eq1 10 17 rfl) (fun _ w hn k=>⟨_,v_pickF rfl (k.eq1 13 20 rfl) rfl,rfl⟩)<| .g (fun k=>k.eq1 2 9 rfl) (fun _ w hn k=>⟨_,v_pickF rfl (k.eq1 10 17 rfl) (k.eq1 21 28 rfl),rfl⟩)<| .t (fun _ w hn k=>⟨_,v_pickT rfl (k.eq1 2 9 rfl) (k.eq1 22 29 rfl),rfl⟩)<| .a (fun k=>k.eq1 23 30 rfl) .nil
 refine aftI ab ag ac fun b2 b3 bH aF aG bI aH=>?_
 have be:=aH.ge 24 2 rfl
 refine st_nil (ai _ _ ?_)
 refine wp_ret (ret_k aF (v:=.bool false) (res_t rfl be _) ?_)
 have hix:((ma.length:Int) - 1).toNat=ma.length - 1:=by omega
 have q8:decide (ma.length≤8)=true:=decide_eq_true (by omega)
 have q0:decide (ma.length=0)=true:=decide_eq_true (by omega)
 have q1:decide (0 < ma.length)=false:=decide_eq_false (by omega)
 refine ⟨?_,aG⟩
 rw [show mayB a ma=false from by unfold mayB; simp only [q8,q0,q1,af]; first|rfl|(exfalso; omega)]
 have ax:=oF aj
 rcases bc (decide (((ma.getD (((ma.length:Int) - 1:Int).toNat) 0:Nat):Int)=0)) with am|am
 have ao:=oT am
 refine wp_g0 (.replicate 25 true) [] 31
   [ve (iv (ma.length:Int)),vT,vT,ve (iv (ma.length:Int)),vT,vT,ve (pv q9),vT,vF,vF,vF,ve (iv (ma.length:Int)),vT,vT,ve (.pointer (some ⟨q9,1,none⟩)),ve (sv Aa ma ca),ve (iv (ma.length:Int)),ve (iv ((ma.length:Int) - 1)),
    (EP (.int .u32 ((ma.getD (((ma.length:Int) - 1:Int).toNat) 0:Nat):Int))),ve (.int .u32 ((ma.getD (((ma.length:Int) - 1:Int).toNat) 0:Nat):Int)),vF,vF,vF,vF,vF] ab (.eq (.eq (.eq (.eq (.eq (.eq (.eq (.eq (.eq (.eq (.eq (.eq (.eq (.eq (.eq (.eq (.eq (.eq (.cons (fun _ _ _ n ⟨_,_,e,h⟩=>⟨_,_,e,h.new_ n⟩) (.eq (.eq (.eq (.eq (.eq (.eq (.nil)))))))))))))))))))))))))) ?_ ?_
 refine .m (fun k=>k.fx 3 aa)<| .t (fun _ w hn k=>⟨_,v_bin rfl (k.eq1 0 7 rfl) rfl (fun _=>rfl) (r_leqK ad),rfl⟩)<| .m (fun k=>k.eq1 1 8 rfl)<| .gm (fun k=>k.eq1 2 9 rfl) (fun k=>k.fx 3 aa)<| .g (fun k=>k.eq1 2 9 rfl) (fun _ w hn k=>⟨_,v_bin rfl (k.eq1 3 10 rfl) rfl (fun _=>rfl) (r_eql ae),rfl⟩)<| .gm (fun k=>k.eq1 2 9 rfl) (fun k=>k.eq1 4 11 rfl)<| .gf (fun k=>k.eq1 5 12 rfl) (fun k=>k.fx 1 al)<| .o1 (tg rfl rfl rfl (fun _ _ k=>k.eq1 5 12 rfl) fun _ w hn k=>⟨_,v_load rfl (k.eq1 6 13 rfl) (l_one Tryz.isAgg4 ((ah.new_ hn).cell 0)),congrArg Value.bool af⟩)<| .g (fun k=>k.eq1 5 12 rfl) (fun _ w hn k=>⟨_,v_not rfl (k.eq1 7 14 rfl),rfl⟩)<| .g (fun k=>k.eq1 2 9 rfl) (fun _ w hn k=>⟨_,v_pickT rfl (k.eq1 5 12 rfl) (k.eq1 8 15 rfl),rfl⟩)<| .gm (fun k=>k.eq1 2 9 rfl) (fun k=>k.eq1 9 16 rfl)<| .gm (fun k=>k.eq1 10 17 rfl) (fun k=>k.fx 3 aa)<| .g (fun k=>k.eq1 10 17 rfl) (fun _ w hn k=>⟨_,v_bin rfl (k.eq1 11 18 rfl) rfl (fun _=>rfl) (r_gtrK aj),rfl⟩)<| .gm (fun k=>k.eq1 10 17 rfl) (fun k=>k.eq1 12 19 rfl)<| .gf (fun k=>k.eq1 13 20 rfl) (fun k=>k.fx 1 al)<| .g (fun k=>k.eq1 13 20 rfl) (fun _ w hn k=>⟨_,v_load rfl (k.eq1 14 21 rfl) (l_one Tryz.isAgg24 ((ah.new_ hn).cell 1)),rfl⟩)<| .gm (fun k=>k.eq1 13 20 rfl) (fun k=>k.fx 3 aa)<| .g (fun k=>k.eq1 13 20 rfl) (fun _ w hn k=>⟨_,v_bin rfl (k.eq1 16 23 rfl) rfl (fun _=>rfl) (r_sub rfl (by omega)),rfl⟩) ?_
 refine .o1 (tg rfl rfl rfl (fun _ _ k=>k.eq1 13 20 rfl) fun _ w hn k=>(by
       exact x_eaddr (k:=.u32) rfl elW (k.eq1 15 22 rfl) (k.eq1 17 24 rfl) (hra.new_ (ac.transNew hn)) (by omega) fun b9 bh hme=>⟨b9,bh,rfl,hme⟩)) ?_
 refine .o1 (tg rfl rfl rfl (fun _ _ k=>k.eq1 13 20 rfl) fun _ w hn k=>(by
       obtain⟨b4,b5,bi,aI⟩:(EP (.int .u32 ((ma.getD (((ma.length:Int) - 1:Int).toNat) 0:Nat):Int))) _ _:=k.dep 18 25 (by kernel_rfl) (by kernel_rfl)
       exact⟨_,v_load rfl bi (l_one Tryz.isAgg56 aI.1),rfl⟩)) ?_
 exact .g (fun k=>k.eq1 13 20 rfl) (fun _ w hn k=>⟨_,v_bin rfl (k.eq1 19 26 rfl) rfl (fun _=>rfl) (r_neq am),rfl⟩)<| .g (fun k=>k.eq1 10 17 rfl) (fun _ w hn k=>⟨_,v_pickT rfl (k.eq1 13 20 rfl) (k.eq1 20 27 rfl),rfl⟩)<| .g (fun k=>k.eq1 2 9 rfl) (fun _ w hn k=>⟨_,v_pickF rfl (k.eq1 10 17 rfl) (k.eq1 21 28 rfl),rfl⟩)<| .t (fun _ w hn k=>⟨_,v_pickT rfl (k.eq1 2 9 rfl) (k.eq1 22 29 rfl),rfl⟩)<| .a (fun k=>k.eq1 23 30 rfl) .nil
 refine aftI ab ag ac fun b6 b7 bJ aJ aK bK aL=>?_
 have bj:=aL.ge 24 2 rfl
 refine st_nil (ai _ _ ?_)
 refine wp_ret (ret_k aJ (v:=.bool false) (res_t rfl bj _) ?_)
 have hix:((ma.length:Int) - 1).toNat=ma.length - 1:=by omega
 have q8:decide (ma.length≤8)=true:=decide_eq_true (by omega)
 have q0:decide (ma.length=0)=true:=decide_eq_true (by omega)
 have q1:decide (0 < ma.length)=false:=decide_eq_false (by omega)
 rw [hix] at ao
 have q2:decide (ma.getD (ma.length - 1) 0 ≠ 0)=false:=decide_eq_false (by omega)
 refine ⟨?_,aK⟩
 rw [show mayB a ma=false from by unfold mayB; simp only [q8,q0,q1,af,q2]; first|rfl|(exfalso; omega)]
 have ao:=oF am
 refine wp_g0 (.replicate 25 true) [] 31
   [ve (iv (ma.length:Int)),vT,vT,ve (iv (ma.length:Int)),vT,vT,ve (pv q9),vT,vF,vF,vF,ve (iv (ma.length:Int)),vT,vT,ve (.pointer (some ⟨q9,1,none⟩)),ve (sv Aa ma ca),ve (iv (ma.length:Int)),ve (iv ((ma.length:Int) - 1)),
    (EP (.int .u32 ((ma.getD (((ma.length:Int) - 1:Int).toNat) 0:Nat):Int))),ve (.int .u32 ((ma.getD (((ma.length:Int) - 1:Int).toNat) 0:Nat):Int)),vT,vT,vT,vT,vT] ab (.eq (.eq (.eq (.eq (.eq (.eq (.eq (.eq (.eq (.eq (.eq (.eq (.eq (.eq (.eq (.eq (.eq (.eq (.cons (fun _ _ _ n ⟨_,_,e,h⟩=>⟨_,_,e,h.new_ n⟩) (.eq (.eq (.eq (.eq (.eq (.eq (.nil)))))))))))))))))))))))))) ?_ ?_
 refine .m (fun k=>k.fx 3 aa)<| .t (fun _ w hn k=>⟨_,v_bin rfl (k.eq1 0 7 rfl) rfl (fun _=>rfl) (r_leqK ad),rfl⟩)<| .m (fun k=>k.eq1 1 8 rfl)<| .gm (fun k=>k.eq1 2 9 rfl) (fun k=>k.fx 3 aa)<| .g (fun k=>k.eq1 2 9 rfl) (fun _ w hn k=>⟨_,v_bin rfl (k.eq1 3 10 rfl) rfl (fun _=>rfl) (r_eql ae),rfl⟩)<| .gm (fun k=>k.eq1 2 9 rfl) (fun k=>k.eq1 4 11 rfl)<| .gf (fun k=>k.eq1 5 12 rfl) (fun k=>k.fx 1 al)<| .o1 (tg rfl rfl rfl (fun _ _ k=>k.eq1 5 12 rfl) fun _ w hn k=>⟨_,v_load rfl (k.eq1 6 13 rfl) (l_one Tryz.isAgg4 ((ah.new_ hn).cell 0)),congrArg Value.bool af⟩)<| .g (fun k=>k.eq1 5 12 rfl) (fun _ w hn k=>⟨_,v_not rfl (k.eq1 7 14 rfl),rfl⟩)<| .g (fun k=>k.eq1 2 9 rfl) (fun _ w hn k=>⟨_,v_pickT rfl (k.eq1 5 12 rfl) (k.eq1 8 15 rfl),rfl⟩)<| .gm (fun k=>k.eq1 2 9 rfl) (fun k=>k.eq1 9 16 rfl)<| .gm (fun k=>k.eq1 10 17 rfl) (fun k=>k.fx 3 aa)<| .g (fun k=>k.eq1 10 17 rfl) (fun _ w hn k=>⟨_,v_bin rfl (k.eq1 11 18 rfl) rfl (fun _=>rfl) (r_gtrK aj),rfl⟩)<| .gm (fun k=>k.eq1 10 17 rfl) (fun k=>k.eq1 12 19 rfl)<| .gf (fun k=>k.eq1 13 20 rfl) (fun k=>k.fx 1 al)<| .g (fun k=>k.eq1 13 20 rfl) (fun _ w hn k=>⟨_,v_load rfl (k.eq1 14 21 rfl) (l_one Tryz.isAgg24 ((ah.new_ hn).cell 1)),rfl⟩)<| .gm (fun k=>k.eq1 13 20 rfl) (fun k=>k.fx 3 aa)<| .g (fun k=>k.eq1 13 20 rfl) (fun _ w hn k=>⟨_,v_bin rfl (k.eq1 16 23 rfl) rfl (fun _=>rfl) (r_sub rfl (by omega)),rfl⟩) ?_
 refine .o1 (tg rfl rfl rfl (fun _ _ k=>k.eq1 13 20 rfl) fun _ w hn k=>(by
       exact x_eaddr (k:=.u32) rfl elW (k.eq1 15 22 rfl) (k.eq1 17 24 rfl) (hra.new_ (ac.transNew hn)) (by omega) fun bm bn hme=>⟨bm,bn,rfl,hme⟩)) ?_
 refine .o1 (tg rfl rfl rfl (fun _ _ k=>k.eq1 13 20 rfl) fun _ w hn k=>(by
       obtain⟨b8,cb,bo,aM⟩:(EP (.int .u32 ((ma.getD (((ma.length:Int) - 1:Int).toNat) 0:Nat):Int))) _ _:=k.dep 18 25 (by kernel_rfl) (by kernel_rfl)
       exact⟨_,v_load rfl bo (l_one Tryz.isAgg56 aM.1),rfl⟩)) ?_
 exact .g (fun k=>k.eq1 13 20 rfl) (fun _ w hn k=>⟨_,v_bin rfl (k.eq1 19 26 rfl) rfl (fun _=>rfl) (r_neq am),rfl⟩)<| .g (fun k=>k.eq1 10 17 rfl) (fun _ w hn k=>⟨_,v_pickT rfl (k.eq1 13 20 rfl) (k.eq1 20 27 rfl),rfl⟩)<| .g (fun k=>k.eq1 2 9 rfl) (fun _ w hn k=>⟨_,v_pickF rfl (k.eq1 10 17 rfl) (k.eq1 21 28 rfl),rfl⟩)<| .t (fun _ w hn k=>⟨_,v_pickT rfl (k.eq1 2 9 rfl) (k.eq1 22 29 rfl),rfl⟩)<| .a (fun k=>k.eq1 23 30 rfl) .nil
 refine aftI ab ag ac fun cc cd bL aN aO bM aP=>?_
 have bp:=aP.ge 24 2 rfl
 refine st_nil (ai _ _ ?_)
 refine wp_ret (ret_k aN (v:=.bool true) (res_t rfl bp _) ?_)
 have hix:((ma.length:Int) - 1).toNat=ma.length - 1:=by omega
 have q8:decide (ma.length≤8)=true:=decide_eq_true (by omega)
 have q0:decide (ma.length=0)=true:=decide_eq_true (by omega)
 have q1:decide (0 < ma.length)=false:=decide_eq_false (by omega)
 rw [hix] at ao
 have q2:decide (ma.getD (ma.length - 1) 0 ≠ 0)=true:=decide_eq_true (by omega)
 refine ⟨?_,aO⟩
 rw [show mayB a ma=true from by unfold mayB; simp only [q8,q0,q1,af,q2]; first|rfl|(exfalso; omega)]
 refine wp_g0 (.replicate 25 true) [] 31
   [ve (iv (ma.length:Int)),vT,vT,ve (iv (ma.length:Int)),vT,vT,ve (pv q9),vF,vT,vT,vT,vU,vU,vU,vU,vU,vU,vU,vU,vU,vU,vU,vT,vT,vT] ab (.eq (.eq (.eq (.eq (.eq (.eq (.eq (.eq (.eq (.eq (.eq (.eq (.eq (.eq (.eq (.eq (.eq (.eq (.eq (.eq (.eq (.eq (.eq (.eq (.eq (.nil)))))))))))))))))))))))))) ?_ ?_
 exact .m (fun k=>k.fx 3 aa)<| .t (fun _ w hn k=>⟨_,v_bin rfl (k.eq1 0 7 rfl) rfl (fun _=>rfl) (r_leqK ad),rfl⟩)<| .m (fun k=>k.eq1 1 8 rfl)<| .gm (fun k=>k.eq1 2 9 rfl) (fun k=>k.fx 3 aa)<| .g (fun k=>k.eq1 2 9 rfl) (fun _ w hn k=>⟨_,v_bin rfl (k.eq1 3 10 rfl) rfl (fun _=>rfl) (r_eql ae),rfl⟩)<| .gm (fun k=>k.eq1 2 9 rfl) (fun k=>k.eq1 4 11 rfl)<| .gf (fun k=>k.eq1 5 12 rfl) (fun k=>k.fx 1 al)<| .o1 (tg rfl rfl rfl (fun _ _ k=>k.eq1 5 12 rfl) fun _ w hn k=>⟨_,v_load rfl (k.eq1 6 13 rfl) (l_one Tryz.isAgg4 ((ah.new_ hn).cell 0)),congrArg Value.bool af⟩)<| .g (fun k=>k.eq1 5 12 rfl) (fun _ w hn k=>⟨_,v_not rfl (k.eq1 7 14 rfl),rfl⟩)<| .g (fun k=>k.eq1 2 9 rfl) (fun _ w hn k=>⟨_,v_pickT rfl (k.eq1 5 12 rfl) (k.eq1 8 15 rfl),rfl⟩)<| .gm (fun k=>k.eq1 2 9 rfl) (fun k=>k.eq1 9 16 rfl)<| .s (fun k=>k.eq1 10 17 rfl)<| .s (fun k=>k.eq1 10 17 rfl)<| .s (fun k=>k.eq1 10 17 rfl)<| .o1 (su rfl rfl rfl (fun _ _ _ k=>k.eq1 13 20 rfl) (fun _=>rfl))<| .o1 (su rfl rfl rfl (fun _ _ _ k=>k.eq1 13 20 rfl) (fun _=>rfl))<| .o1 (su rfl rfl rfl (fun _ _ _ k=>k.eq1 13 20 rfl) (fun _=>rfl))<| .o1 (su rfl rfl rfl (fun _ _ _ k=>k.eq1 13 20 rfl) (fun _=>rfl))<| .o1 (su rfl rfl rfl (fun _ _ _ k=>k.eq1 13 20 rfl) (fun _=>rfl))<| .o1 (su rfl rfl rfl (fun _ _ _ k=>k.eq1 13 20 rfl) (fun _=>rfl))<| .o1 (su rfl rfl rfl (fun _ _ _ k=>k.eq1 13 20 rfl) (fun _=>rfl))<| .s (fun k=>k.eq1 10 17 rfl)<| .g (fun k=>k.eq1 2 9 rfl) (fun _ w hn k=>⟨_,v_pickT rfl (k.eq1 10 17 rfl) rfl,rfl⟩)<| .t (fun _ w hn k=>⟨_,v_pickT rfl (k.eq1 2 9 rfl) (k.eq1 22 29 rfl),rfl⟩)<| .a (fun k=>k.eq1 23 30 rfl) .nil
 refine aftI ab ag ac fun ce cf bN aQ aR bO aS=>?_
 have bq:=aS.ge 24 2 rfl
 refine st_nil (ai _ _ ?_)
 refine wp_ret (ret_k aQ (v:=.bool true) (res_t rfl bq _) ?_)
 have hix:((ma.length:Int) - 1).toNat=ma.length - 1:=by omega
 have q8:decide (ma.length≤8)=true:=decide_eq_true (by omega)
 have q0:decide (ma.length=0)=true:=decide_eq_true (by omega)
 have q1:decide (0 < ma.length)=false:=decide_eq_false (by omega)
 refine ⟨?_,aR⟩
 rw [show mayB a ma=true from by unfold mayB; simp only [q8,q0,q1,af]; first|rfl|(exfalso; omega)]
 have aw:=oF ae
 rcases bc (decide ((ma.length:Int)≤0)) with ak|ak
 have ay:=oT ak
 refine wp_g0 (.replicate 25 true) [] 31
   [ve (iv (ma.length:Int)),vT,vT,ve (iv (ma.length:Int)),vF,vF,vU,vU,vU,vF,vF,ve (iv (ma.length:Int)),vF,vF,vU,vU,vU,vU,vU,vU,vU,vF,vF,vF,vF] ab (.eq (.eq (.eq (.eq (.eq (.eq (.eq (.eq (.eq (.eq (.eq (.eq (.eq (.eq (.eq (.eq (.eq (.eq (.eq (.eq (.eq (.eq (.eq (.eq (.eq (.nil)))))))))))))))))))))))))) ?_ ?_
 exact .m (fun k=>k.fx 3 aa)<| .t (fun _ w hn k=>⟨_,v_bin rfl (k.eq1 0 7 rfl) rfl (fun _=>rfl) (r_leqK ad),rfl⟩)<| .m (fun k=>k.eq1 1 8 rfl)<| .gm (fun k=>k.eq1 2 9 rfl) (fun k=>k.fx 3 aa)<| .g (fun k=>k.eq1 2 9 rfl) (fun _ w hn k=>⟨_,v_bin rfl (k.eq1 3 10 rfl) rfl (fun _=>rfl) (r_eql ae),rfl⟩)<| .gm (fun k=>k.eq1 2 9 rfl) (fun k=>k.eq1 4 11 rfl)<| .s (fun k=>k.eq1 5 12 rfl)<| .s (fun k=>k.eq1 5 12 rfl)<| .s (fun k=>k.eq1 5 12 rfl)<| .g (fun k=>k.eq1 2 9 rfl) (fun _ w hn k=>⟨_,v_pickF rfl (k.eq1 5 12 rfl) rfl,rfl⟩)<| .gm (fun k=>k.eq1 2 9 rfl) (fun k=>k.eq1 9 16 rfl)<| .gm (fun k=>k.eq1 10 17 rfl) (fun k=>k.fx 3 aa)<| .g (fun k=>k.eq1 10 17 rfl) (fun _ w hn k=>⟨_,v_bin rfl (k.eq1 11 18 rfl) rfl (fun _=>rfl) (r_gtrK ak),rfl⟩)<| .gm (fun k=>k.eq1 10 17 rfl) (fun k=>k.eq1 12 19 rfl)<| .s (fun k=>k.eq1 13 20 rfl)<| .s (fun k=>k.eq1 13 20 rfl)<| .s (fun k=>k.eq1 13 20 rfl)<| .s (fun k=>k.eq1 13 20 rfl)<| .s (fun k=>k.eq1 13 20 rfl)<| .s (fun k=>k.eq1 13 20 rfl)<| .s (fun k=>k.eq1 13 20 rfl)<| .g (fun k=>k.eq1 10 17 rfl) (fun _ w hn k=>⟨_,v_pickF rfl (k.eq1 13 20 rfl) rfl,rfl⟩)<| .g (fun k=>k.eq1 2 9 rfl) (fun _ w hn k=>⟨_,v_pickF rfl (k.eq1 10 17 rfl) (k.eq1 21 28 rfl),rfl⟩)<| .t (fun _ w hn k=>⟨_,v_pickT rfl (k.eq1 2 9 rfl) (k.eq1 22 29 rfl),rfl⟩)<| .a (fun k=>k.eq1 23 30 rfl) .nil
 refine aftI ab ag ac fun ch ci bP aT aU bQ aV=>?_
 have br:=aV.ge 24 2 rfl
 refine st_nil (ai _ _ ?_)
 refine wp_ret (ret_k aT (v:=.bool false) (res_t rfl br _) ?_)
 have hix:((ma.length:Int) - 1).toNat=ma.length - 1:=by omega
 have q8:decide (ma.length≤8)=true:=decide_eq_true (by omega)
 have q0:decide (ma.length=0)=false:=decide_eq_false (by omega)
 have q1:decide (0 < ma.length)=true:=decide_eq_true (by omega)
 refine ⟨?_,aU⟩
 rw [show mayB a ma=false from by unfold mayB; simp only [q8,q0,q1]; first|rfl|(exfalso; omega)]
 have ay:=oF ak
 rcases bc (decide (((ma.getD (((ma.length:Int) - 1:Int).toNat) 0:Nat):Int)=0)) with an|an
 have ap:=oT an
 refine wp_g0 (.replicate 25 true) [] 31
   [ve (iv (ma.length:Int)),vT,vT,ve (iv (ma.length:Int)),vF,vF,vU,vU,vU,vF,vF,ve (iv (ma.length:Int)),vT,vT,ve (.pointer (some ⟨q9,1,none⟩)),ve (sv Aa ma ca),ve (iv (ma.length:Int)),ve (iv ((ma.length:Int) - 1)),
    (EP (.int .u32 ((ma.getD (((ma.length:Int) - 1:Int).toNat) 0:Nat):Int))),ve (.int .u32 ((ma.getD (((ma.length:Int) - 1:Int).toNat) 0:Nat):Int)),vF,vF,vF,vF,vF] ab (.eq (.eq (.eq (.eq (.eq (.eq (.eq (.eq (.eq (.eq (.eq (.eq (.eq (.eq (.eq (.eq (.eq (.eq (.cons (fun _ _ _ n ⟨_,_,e,h⟩=>⟨_,_,e,h.new_ n⟩) (.eq (.eq (.eq (.eq (.eq (.eq (.nil)))))))))))))))))))))))))) ?_ ?_
 refine .m (fun k=>k.fx 3 aa)<| .t (fun _ w hn k=>⟨_,v_bin rfl (k.eq1 0 7 rfl) rfl (fun _=>rfl) (r_leqK ad),rfl⟩)<| .m (fun k=>k.eq1 1 8 rfl)<| .gm (fun k=>k.eq1 2 9 rfl) (fun k=>k.fx 3 aa)<| .g (fun k=>k.eq1 2 9 rfl) (fun _ w hn k=>⟨_,v_bin rfl (k.eq1 3 10 rfl) rfl (fun _=>rfl) (r_eql ae),rfl⟩)<| .gm (fun k=>k.eq1 2 9 rfl) (fun k=>k.eq1 4 11 rfl)<| .s (fun k=>k.eq1 5 12 rfl)<| .s (fun k=>k.eq1 5 12 rfl)<| .s (fun k=>k.eq1 5 12 rfl)<| .g (fun k=>k.eq1 2 9 rfl) (fun _ w hn k=>⟨_,v_pickF rfl (k.eq1 5 12 rfl) rfl,rfl⟩)<| .gm (fun k=>k.eq1 2 9 rfl) (fun k=>k.eq1 9 16 rfl)<| .gm (fun k=>k.eq1 10 17 rfl) (fun k=>k.fx 3 aa)<| .g (fun k=>k.eq1 10 17 rfl) (fun _ w hn k=>⟨_,v_bin rfl (k.eq1 11 18 rfl) rfl (fun _=>rfl) (r_gtrK ak),rfl⟩)<| .gm (fun k=>k.eq1 10 17 rfl) (fun k=>k.eq1 12 19 rfl)<| .gf (fun k=>k.eq1 13 20 rfl) (fun k=>k.fx 1 al)<| .g (fun k=>k.eq1 13 20 rfl) (fun _ w hn k=>⟨_,v_load rfl (k.eq1 14 21 rfl) (l_one Tryz.isAgg24 ((ah.new_ hn).cell 1)),rfl⟩)<| .gm (fun k=>k.eq1 13 20 rfl) (fun k=>k.fx 3 aa)<| .g (fun k=>k.eq1 13 20 rfl) (fun _ w hn k=>⟨_,v_bin rfl (k.eq1 16 23 rfl) rfl (fun _=>rfl) (r_sub rfl (by omega)),rfl⟩) ?_
 refine .o1 (tg rfl rfl rfl (fun _ _ k=>k.eq1 13 20 rfl) fun _ w hn k=>(by
       exact x_eaddr (k:=.u32) rfl elW (k.eq1 15 22 rfl) (k.eq1 17 24 rfl) (hra.new_ (ac.transNew hn)) (by omega) fun bu bv hme=>⟨bu,bv,rfl,hme⟩)) ?_
 refine .o1 (tg rfl rfl rfl (fun _ _ k=>k.eq1 13 20 rfl) fun _ w hn k=>(by
       obtain⟨cj,cl,bw,aW⟩:(EP (.int .u32 ((ma.getD (((ma.length:Int) - 1:Int).toNat) 0:Nat):Int))) _ _:=k.dep 18 25 (by kernel_rfl) (by kernel_rfl)
       exact⟨_,v_load rfl bw (l_one Tryz.isAgg56 aW.1),rfl⟩)) ?_
 exact .g (fun k=>k.eq1 13 20 rfl) (fun _ w hn k=>⟨_,v_bin rfl (k.eq1 19 26 rfl) rfl (fun _=>rfl) (r_neq an),rfl⟩)<| .g (fun k=>k.eq1 10 17 rfl) (fun _ w hn k=>⟨_,v_pickT rfl (k.eq1 13 20 rfl) (k.eq1 20 27 rfl),rfl⟩)<| .g (fun k=>k.eq1 2 9 rfl) (fun _ w hn k=>⟨_,v_pickF rfl (k.eq1 10 17 rfl) (k.eq1 21 28 rfl),rfl⟩)<| .t (fun _ w hn k=>⟨_,v_pickT rfl (k.eq1 2 9 rfl) (k.eq1 22 29 rfl),rfl⟩)<| .a (fun k=>k.eq1 23 30 rfl) .nil
 refine aftI ab ag ac fun cm cn bR aX aY bS aZ=>?_
 have bx:=aZ.ge 24 2 rfl
 refine st_nil (ai _ _ ?_)
 refine wp_ret (ret_k aX (v:=.bool false) (res_t rfl bx _) ?_)
 have hix:((ma.length:Int) - 1).toNat=ma.length - 1:=by omega
 have q8:decide (ma.length≤8)=true:=decide_eq_true (by omega)
 have q0:decide (ma.length=0)=false:=decide_eq_false (by omega)
 have q1:decide (0 < ma.length)=true:=decide_eq_true (by omega)
 rw [hix] at ap
 have q2:decide (ma.getD (ma.length - 1) 0 ≠ 0)=false:=decide_eq_false (by omega)
 refine ⟨?_,aY⟩
 rw [show mayB a ma=false from by unfold mayB; simp only [q8,q0,q1,q2]; first|rfl|(exfalso; omega)]
 have ap:=oF an
 refine wp_g0 (.replicate 25 true) [] 31
   [ve (iv (ma.length:Int)),vT,vT,ve (iv (ma.length:Int)),vF,vF,vU,vU,vU,vF,vF,ve (iv (ma.length:Int)),vT,vT,ve (.pointer (some ⟨q9,1,none⟩)),ve (sv Aa ma ca),ve (iv (ma.length:Int)),ve (iv ((ma.length:Int) - 1)),
    (EP (.int .u32 ((ma.getD (((ma.length:Int) - 1:Int).toNat) 0:Nat):Int))),ve (.int .u32 ((ma.getD (((ma.length:Int) - 1:Int).toNat) 0:Nat):Int)),vT,vT,vT,vT,vT] ab (.eq (.eq (.eq (.eq (.eq (.eq (.eq (.eq (.eq (.eq (.eq (.eq (.eq (.eq (.eq (.eq (.eq (.eq (.cons (fun _ _ _ n ⟨_,_,e,h⟩=>⟨_,_,e,h.new_ n⟩) (.eq (.eq (.eq (.eq (.eq (.eq (.nil)))))))))))))))))))))))))) ?_ ?_
 refine .m (fun k=>k.fx 3 aa)<| .t (fun _ w hn k=>⟨_,v_bin rfl (k.eq1 0 7 rfl) rfl (fun _=>rfl) (r_leqK ad),rfl⟩)<| .m (fun k=>k.eq1 1 8 rfl)<| .gm (fun k=>k.eq1 2 9 rfl) (fun k=>k.fx 3 aa)<| .g (fun k=>k.eq1 2 9 rfl) (fun _ w hn k=>⟨_,v_bin rfl (k.eq1 3 10 rfl) rfl (fun _=>rfl) (r_eql ae),rfl⟩)<| .gm (fun k=>k.eq1 2 9 rfl) (fun k=>k.eq1 4 11 rfl)<| .s (fun k=>k.eq1 5 12 rfl)<| .s (fun k=>k.eq1 5 12 rfl)<| .s (fun k=>k.eq1 5 12 rfl)<| .g (fun k=>k.eq1 2 9 rfl) (fun _ w hn k=>⟨_,v_pickF rfl (k.eq1 5 12 rfl) rfl,rfl⟩)<| .gm (fun k=>k.eq1 2 9 rfl) (fun k=>k.eq1 9 16 rfl)<| .gm (fun k=>k.eq1 10 17 rfl) (fun k=>k.fx 3 aa)<| .g (fun k=>k.eq1 10 17 rfl) (fun _ w hn k=>⟨_,v_bin rfl (k.eq1 11 18 rfl) rfl (fun _=>rfl) (r_gtrK ak),rfl⟩)<| .gm (fun k=>k.eq1 10 17 rfl) (fun k=>k.eq1 12 19 rfl)<| .gf (fun k=>k.eq1 13 20 rfl) (fun k=>k.fx 1 al)<| .g (fun k=>k.eq1 13 20 rfl) (fun _ w hn k=>⟨_,v_load rfl (k.eq1 14 21 rfl) (l_one Tryz.isAgg24 ((ah.new_ hn).cell 1)),rfl⟩)<| .gm (fun k=>k.eq1 13 20 rfl) (fun k=>k.fx 3 aa)<| .g (fun k=>k.eq1 13 20 rfl) (fun _ w hn k=>⟨_,v_bin rfl (k.eq1 16 23 rfl) rfl (fun _=>rfl) (r_sub rfl (by omega)),rfl⟩) ?_
 refine .o1 (tg rfl rfl rfl (fun _ _ k=>k.eq1 13 20 rfl) fun _ w hn k=>(by
       exact x_eaddr (k:=.u32) rfl elW (k.eq1 15 22 rfl) (k.eq1 17 24 rfl) (hra.new_ (ac.transNew hn)) (by omega) fun bB bC hme=>⟨bB,bC,rfl,hme⟩)) ?_
 refine .o1 (tg rfl rfl rfl (fun _ _ k=>k.eq1 13 20 rfl) fun _ w hn k=>(by
       obtain⟨co,cp,bD,a1⟩:(EP (.int .u32 ((ma.getD (((ma.length:Int) - 1:Int).toNat) 0:Nat):Int))) _ _:=k.dep 18 25 (by kernel_rfl) (by kernel_rfl)
       exact⟨_,v_load rfl bD (l_one Tryz.isAgg56 a1.1),rfl⟩)) ?_
 exact .g (fun k=>k.eq1 13 20 rfl) (fun _ w hn k=>⟨_,v_bin rfl (k.eq1 19 26 rfl) rfl (fun _=>rfl) (r_neq an),rfl⟩)<| .g (fun k=>k.eq1 10 17 rfl) (fun _ w hn k=>⟨_,v_pickT rfl (k.eq1 13 20 rfl) (k.eq1 20 27 rfl),rfl⟩)<| .g (fun k=>k.eq1 2 9 rfl) (fun _ w hn k=>⟨_,v_pickF rfl (k.eq1 10 17 rfl) (k.eq1 21 28 rfl),rfl⟩)<| .t (fun _ w hn k=>⟨_,v_pickT rfl (k.eq1 2 9 rfl) (k.eq1 22 29 rfl),rfl⟩)<| .a (fun k=>k.eq1 23 30 rfl) .nil
 refine aftI ab ag ac fun cq cr bT a3 a4 bU a5=>?_
 have bE:=a5.ge 24 2 rfl
 refine st_nil (ai _ _ ?_)
 refine wp_ret (ret_k a3 (v:=.bool true) (res_t rfl bE _) ?_)
 have hix:((ma.length:Int) - 1).toNat=ma.length - 1:=by omega
 have q8:decide (ma.length≤8)=true:=decide_eq_true (by omega)
 have q0:decide (ma.length=0)=false:=decide_eq_false (by omega)
 have q1:decide (0 < ma.length)=true:=decide_eq_true (by omega)
 rw [hix] at ap
 have q2:decide (ma.getD (ma.length - 1) 0 ≠ 0)=true:=decide_eq_true (by omega)
 refine ⟨?_,a4⟩
 rw [show mayB a ma=true from by unfold mayB; simp only [q8,q0,q1,q2]; first|rfl|(exfalso; omega)]
 have av:=oF ad
 refine wp_g0 (.replicate 25 true) [] 31
   [ve (iv (ma.length:Int)),vF,vF,vU,vU,vU,vU,vU,vU,vU,vU,vU,vU,vU,vU,vU,vU,vU,vU,vU,vU,vU,vU,vF,vF] ab (.eq (.eq (.eq (.eq (.eq (.eq (.eq (.eq (.eq (.eq (.eq (.eq (.eq (.eq (.eq (.eq (.eq (.eq (.eq (.eq (.eq (.eq (.eq (.eq (.eq (.nil)))))))))))))))))))))))))) ?_ ?_
 exact .m (fun k=>k.fx 3 aa)<| .t (fun _ w hn k=>⟨_,v_bin rfl (k.eq1 0 7 rfl) rfl (fun _=>rfl) (r_leqK ad),rfl⟩)<| .m (fun k=>k.eq1 1 8 rfl)<| .s (fun k=>k.eq1 2 9 rfl)<| .s (fun k=>k.eq1 2 9 rfl)<| .s (fun k=>k.eq1 2 9 rfl)<| .o1 (su rfl rfl rfl (fun _ _ _ k=>k.eq1 5 12 rfl) (fun _=>rfl))<| .o1 (su rfl rfl rfl (fun _ _ _ k=>k.eq1 5 12 rfl) (fun _=>rfl))<| .o1 (su rfl rfl rfl (fun _ _ _ k=>k.eq1 5 12 rfl) (fun _=>rfl))<| .s (fun k=>k.eq1 2 9 rfl)<| .s (fun k=>k.eq1 2 9 rfl)<| .o1 (su rfl rfl rfl (fun _ _ _ k=>k.eq1 10 17 rfl) (fun _=>rfl))<| .o1 (su rfl rfl rfl (fun _ _ _ k=>k.eq1 10 17 rfl) (fun _=>rfl))<| .o1 (su rfl rfl rfl (fun _ _ _ k=>k.eq1 10 17 rfl) (fun _=>rfl))<| .o1 (su rfl rfl rfl (fun _ _ _ k=>k.eq1 13 20 rfl) (fun _=>rfl))<| .o1 (su rfl rfl rfl (fun _ _ _ k=>k.eq1 13 20 rfl) (fun _=>rfl))<| .o1 (su rfl rfl rfl (fun _ _ _ k=>k.eq1 13 20 rfl) (fun _=>rfl))<| .o1 (su rfl rfl rfl (fun _ _ _ k=>k.eq1 13 20 rfl) (fun _=>rfl))<| .o1 (su rfl rfl rfl (fun _ _ _ k=>k.eq1 13 20 rfl) (fun _=>rfl))<| .o1 (su rfl rfl rfl (fun _ _ _ k=>k.eq1 13 20 rfl) (fun _=>rfl))<| .o1 (su rfl rfl rfl (fun _ _ _ k=>k.eq1 13 20 rfl) (fun _=>rfl))<| .o1 (su rfl rfl rfl (fun _ _ _ k=>k.eq1 10 17 rfl) (fun _=>rfl))<| .s (fun k=>k.eq1 2 9 rfl)<| .t (fun _ w hn k=>⟨_,v_pickF rfl (k.eq1 2 9 rfl) rfl,rfl⟩)<| .a (fun k=>k.eq1 23 30 rfl) .nil
 refine aftI ab ag ac fun ct cu bV a6 a7 bW a8=>?_
 have bF:=a8.ge 24 2 rfl
 refine st_nil (ai _ _ ?_)
 refine wp_ret (ret_k a6 (v:=.bool false) (res_t rfl bF _) ?_)
 have hix:((ma.length:Int) - 1).toNat=ma.length - 1:=by omega
 have q8:decide (ma.length≤8)=false:=decide_eq_false (by omega)
 refine ⟨?_,a7⟩
 rw [show mayB a ma=false from by unfold mayB; simp only [q8]; first|rfl|(exfalso; omega)]
theorem zero_c (v:Vl) (Av:Option Addr) (cv:Nat) (Bv:Option Addr) (dv:Nat) (w:World) (hmv:SRow w .u32 Av v.mag cv) (hsv:SRow w .u16 Bv v.s dv):Calls Tryz.prog 46 #[vv v Av cv Bv dv] w (IsRet (.bool (zeroV v)) w):=by
 refine enter_abs Tryz.func46 rfl fun a0 ab ak hp=>?_
 have ab:a0.tmps.size=31:=ab
 have ac:New w w:=Upd.refl _ _
 have hp0:a0.eval (.tmp 0)=vv v Av cv Bv dv:=hp 0 _ rfl
 refine wp_seq_k fun K1 al=>?_
 refine wp_g [true,true] [] [] 31
   [IsNew w 29 (c7 v Av cv Bv dv),vF]
   [0] (newsCons (fun v w h=>IsNew.old h) newsNil) ab (.nw (.eq (.nil))) ?_ (fun i h=>by cases h) ?_
 exact .o2 (step_allocN (cs:=(c7 v Av cv Bv dv)) (t:=29) rfl (noG rfl) (fun _ w hn k=>v_box rfl (k.fx 0 hp0) (fun w=>rfl)) (fun q _ hq hb=>⟨q,rfl,hq,hb⟩))<| .t (fun _ w hn k=>⟨_,v_assign rfl rfl,rfl⟩) .nil
 refine aftI ab ak ac fun a2 w3 ad am ae au an=>?_
 obtain⟨q9,h8,af,aa⟩:=an.G 0 1
 have ap:=Nat.le_trans ac.size af
 refine st_nil (al _ _ (wp_seq_k fun av ag=>?_))
 refine wp_g0 (.replicate 29 true) [] 31
   [ve (.pointer (some ⟨q9,1,none⟩)),ve (nv (Nm.mk v.nk v.nn)),ve (nv (Nm.mk 0 0)),ve (.bool (decide (v.nk=0) && decide (v.nn=0))),ve (.bool (decide (v.nk=0) && decide (v.nn=0))),ve (gq (decide (v.nk=0) && decide (v.nn=0)) (.pointer (some ⟨q9,3,none⟩))),ve (gq (decide (v.nk=0) && decide (v.nn=0)) (.pointer (some ⟨q9,3,none⟩))),ve (gq (decide (v.nk=0) && decide (v.nn=0)) (.bool v.neg)),ve (gq (decide (v.nk=0) && decide (v.nn=0)) (.bool (!v.neg))),ve (.bool ((decide (v.nk=0) && decide (v.nn=0)) && (!v.neg))),ve (.bool ((decide (v.nk=0) && decide (v.nn=0)) && (!v.neg))),ve (gq ((decide (v.nk=0) && decide (v.nn=0)) && (!v.neg)) (.pointer (some ⟨q9,3,none⟩))),ve (gq ((decide (v.nk=0) && decide (v.nn=0)) && (!v.neg)) (.pointer (some ⟨q9,4,none⟩))),ve (gq ((decide (v.nk=0) && decide (v.nn=0)) && (!v.neg)) (sv Av v.mag cv)),ve (gq ((decide (v.nk=0) && decide (v.nn=0)) && (!v.neg)) (iv (v.mag.length:Int))),ve (gq ((decide (v.nk=0) && decide (v.nn=0)) && (!v.neg)) (.bool (decide ((v.mag.length:Int)=0)))),ve (.bool (((decide (v.nk=0) && decide (v.nn=0)) && (!v.neg)) && (decide ((v.mag.length:Int)=0)))),ve (.bool (((decide (v.nk=0) && decide (v.nn=0)) && (!v.neg)) && (decide ((v.mag.length:Int)=0)))),ve (gq (((decide (v.nk=0) && decide (v.nn=0)) && (!v.neg)) && (decide ((v.mag.length:Int)=0))) (.pointer (some ⟨q9,5,none⟩))),ve (gq (((decide (v.nk=0) && decide (v.nn=0)) && (!v.neg)) && (decide ((v.mag.length:Int)=0))) (sv Bv v.s dv)),ve (gq (((decide (v.nk=0) && decide (v.nn=0)) && (!v.neg)) && (decide ((v.mag.length:Int)=0))) (iv (v.s.length:Int))),ve (gq (((decide (v.nk=0) && decide (v.nn=0)) && (!v.neg)) && (decide ((v.mag.length:Int)=0))) (.bool (decide ((v.s.length:Int)=0)))),ve (.bool ((((decide (v.nk=0) && decide (v.nn=0)) && (!v.neg)) && (decide ((v.mag.length:Int)=0))) && (decide ((v.s.length:Int)=0)))),ve (.bool ((((decide (v.nk=0) && decide (v.nn=0)) && (!v.neg)) && (decide ((v.mag.length:Int)=0))) && (decide ((v.s.length:Int)=0)))),ve (gq ((((decide (v.nk=0) && decide (v.nn=0)) && (!v.neg)) && (decide ((v.mag.length:Int)=0))) && (decide ((v.s.length:Int)=0))) (.pointer (some ⟨q9,6,none⟩))),ve (gq ((((decide (v.nk=0) && decide (v.nn=0)) && (!v.neg)) && (decide ((v.mag.length:Int)=0))) && (decide ((v.s.length:Int)=0))) (iv v.ref)),ve (gq ((((decide (v.nk=0) && decide (v.nn=0)) && (!v.neg)) && (decide ((v.mag.length:Int)=0))) && (decide ((v.s.length:Int)=0))) (.bool (decide (v.ref=0)))),ve (.bool (((((decide (v.nk=0) && decide (v.nn=0)) && (!v.neg)) && (decide ((v.mag.length:Int)=0))) && (decide ((v.s.length:Int)=0))) && (decide (v.ref=0)))),ve (.bool (((((decide (v.nk=0) && decide (v.nn=0)) && (!v.neg)) && (decide ((v.mag.length:Int)=0))) && (decide ((v.s.length:Int)=0))) && (decide (v.ref=0))))] ad (.eq (.eq (.eq (.eq (.eq (.eq (.eq (.eq (.eq (.eq (.eq (.eq (.eq (.eq (.eq (.eq (.eq (.eq (.eq (.eq (.eq (.eq (.eq (.eq (.eq (.eq (.eq (.eq (.eq (.nil)))))))))))))))))))))))))))))) ?_ ?_
 exact .f (fun k=>k.fx 1 h8)<| .t (fun _ w hn k=>⟨_,v_load rfl (k.eq1 0 3 rfl) (l_part Tryz.isAgg23 Tryz.sizeOf23 (aa.new_ hn) lb),rfl⟩)<| .t (fun _ w hn k=>⟨_,v_build (ps:=[]) rfl parts0 (by kernel_rfl),rfl⟩)<| .t (fun _ w hn k=>⟨_,v_bin rfl (k.eq1 1 4 rfl) (k.eq1 2 5 rfl) (gNum _ _ _ _) (eqlNum _ _ _ _ rfl),rfl⟩)<| .m (fun k=>k.eq1 3 6 rfl)<| .o1 (sc (G:=(decide (v.nk=0) && decide (v.nn=0))) rfl rfl rfl (fun _ _ k=>g0 (k.eq1 4 7 rfl)) (fun hG _ w hn k=>v_field rfl (k.fx 1 h8) (fun w=>rfl)))<| .o1 (sc (G:=(decide (v.nk=0) && decide (v.nn=0))) rfl rfl rfl (fun _ _ k=>g0 (k.eq1 4 7 rfl)) (fun hG _ w hn k=>v_field rfl (cT hG (k.eq1 5 8 rfl)) (fun w=>rfl)))<| .o1 (sc (G:=(decide (v.nk=0) && decide (v.nn=0))) rfl rfl rfl (fun _ _ k=>g0 (k.eq1 4 7 rfl)) (fun hG _ w hn k=>v_load rfl (cT hG (k.eq1 6 9 rfl)) (l_one Tryz.isAgg4 ((aa.new_ hn).cell 3))))<| .o1 (sc (G:=(decide (v.nk=0) && decide (v.nn=0))) rfl rfl rfl (fun _ _ k=>g0 (k.eq1 4 7 rfl)) (fun hG _ w hn k=>v_not rfl (cT hG (k.eq1 7 10 rfl))))<| .t (fun _ w hn k=>⟨_,v_and rfl (k.eq1 4 7 rfl) (fun hg=>(cT hg (k.eq1 8 11 rfl))) rfl,rfl⟩)<| .m (fun k=>k.eq1 9 12 rfl)<| .o1 (sc (G:=((decide (v.nk=0) && decide (v.nn=0)) && (!v.neg))) rfl rfl rfl (fun _ _ k=>g0 (k.eq1 10 13 rfl)) (fun hG _ w hn k=>v_field rfl (k.fx 1 h8) (fun w=>rfl)))<| .o1 (sc (G:=((decide (v.nk=0) && decide (v.nn=0)) && (!v.neg))) rfl rfl rfl (fun _ _ k=>g0 (k.eq1 10 13 rfl)) (fun hG _ w hn k=>v_field rfl (cT hG (k.eq1 11 14 rfl)) (fun w=>rfl)))<| .o1 (sc (G:=((decide (v.nk=0) && decide (v.nn=0)) && (!v.neg))) rfl rfl rfl (fun _ _ k=>g0 (k.eq1 10 13 rfl)) (fun hG _ w hn k=>v_load rfl (cT hG (k.eq1 12 15 rfl)) (l_one Tryz.isAgg24 ((aa.new_ hn).cell 4))))<| .o1 (sc (G:=((decide (v.nk=0) && decide (v.nn=0)) && (!v.neg))) rfl rfl rfl (fun _ _ k=>g0 (k.eq1 10 13 rfl)) (fun hG _ w hn k=>v_lenR rfl elW (cT hG (k.eq1 13 16 rfl))))<| .o1 (sc (G:=((decide (v.nk=0) && decide (v.nn=0)) && (!v.neg))) rfl rfl rfl (fun _ _ k=>g0 (k.eq1 10 13 rfl)) (fun hG _ w hn k=>v_bin rfl (cT hG (k.eq1 14 17 rfl)) rfl (fun _=>rfl) (r_eql rfl)))<| .t (fun _ w hn k=>⟨_,v_and rfl (k.eq1 10 13 rfl) (fun hg=>(cT hg (k.eq1 15 18 rfl))) rfl,rfl⟩)<| .m (fun k=>k.eq1 16 19 rfl)<| .o1 (sc (G:=(((decide (v.nk=0) && decide (v.nn=0)) && (!v.neg)) && (decide ((v.mag.length:Int)=0)))) rfl rfl rfl (fun _ _ k=>g0 (k.eq1 17 20 rfl)) (fun hG _ w hn k=>v_field rfl (k.fx 1 h8) (fun w=>rfl)))<| .o1 (sc (G:=(((decide (v.nk=0) && decide (v.nn=0)) && (!v.neg)) && (decide ((v.mag.length:Int)=0)))) rfl rfl rfl (fun _ _ k=>g0 (k.eq1 17 20 rfl)) (fun hG _ w hn k=>v_load rfl (cT hG (k.eq1 18 21 rfl)) (l_one Tryz.isAgg27 ((aa.new_ hn).cell 5))))<| .o1 (sc (G:=(((decide (v.nk=0) && decide (v.nn=0)) && (!v.neg)) && (decide ((v.mag.length:Int)=0)))) rfl rfl rfl (fun _ _ k=>g0 (k.eq1 17 20 rfl)) (fun hG _ w hn k=>v_lenR rfl elU (cT hG (k.eq1 19 22 rfl))))<| .o1 (sc (G:=(((decide (v.nk=0) && decide (v.nn=0)) && (!v.neg)) && (decide ((v.mag.length:Int)=0)))) rfl rfl rfl (fun _ _ k=>g0 (k.eq1 17 20 rfl)) (fun hG _ w hn k=>v_bin rfl (cT hG (k.eq1 20 23 rfl)) rfl (fun _=>rfl) (r_eql rfl)))<| .t (fun _ w hn k=>⟨_,v_and rfl (k.eq1 17 20 rfl) (fun hg=>(cT hg (k.eq1 21 24 rfl))) rfl,rfl⟩)<| .m (fun k=>k.eq1 22 25 rfl)<| .o1 (sc (G:=((((decide (v.nk=0) && decide (v.nn=0)) && (!v.neg)) && (decide ((v.mag.length:Int)=0))) && (decide ((v.s.length:Int)=0)))) rfl rfl rfl (fun _ _ k=>g0 (k.eq1 23 26 rfl)) (fun hG _ w hn k=>v_field rfl (k.fx 1 h8) (fun w=>rfl)))<| .o1 (sc (G:=((((decide (v.nk=0) && decide (v.nn=0)) && (!v.neg)) && (decide ((v.mag.length:Int)=0))) && (decide ((v.s.length:Int)=0)))) rfl rfl rfl (fun _ _ k=>g0 (k.eq1 23 26 rfl)) (fun hG _ w hn k=>v_load rfl (cT hG (k.eq1 24 27 rfl)) (l_one Tryz.isAgg3 ((aa.new_ hn).cell 6))))<| .o1 (sc (G:=((((decide (v.nk=0) && decide (v.nn=0)) && (!v.neg)) && (decide ((v.mag.length:Int)=0))) && (decide ((v.s.length:Int)=0)))) rfl rfl rfl (fun _ _ k=>g0 (k.eq1 23 26 rfl)) (fun hG _ w hn k=>v_bin rfl (cT hG (k.eq1 25 28 rfl)) rfl (fun _=>rfl) (r_eql rfl)))<| .t (fun _ w hn k=>⟨_,v_and rfl (k.eq1 23 26 rfl) (fun hg=>(cT hg (k.eq1 26 29 rfl))) rfl,rfl⟩)<| .a (fun k=>k.eq1 27 30 rfl) .nil
 refine aftI ad am ae fun aw ax aq ah ai ar aj=>?_
 have ao:=aj.ge 28 2 rfl
 refine st_nil (ag _ _ ?_)
 refine wp_ret (ret_k ah (v:=.bool (((((decide (v.nk=0) && decide (v.nn=0)) && (!v.neg)) && (decide ((v.mag.length:Int)=0))) && (decide ((v.s.length:Int)=0))) && (decide (v.ref=0)))) (res_t rfl ao _) ?_)
 refine ⟨?_,ai⟩
 show Ending.returned (.bool (((((decide (v.nk=0) && decide (v.nn=0)) && (!v.neg)) && (decide ((v.mag.length:Int)=0))) && (decide ((v.s.length:Int)=0))) && (decide (v.ref=0))))=Ending.returned (.bool (zeroV v))
 first|rfl|(simp only [zeroV,bsm] <;> rfl)|(exfalso; omega)
theorem vmay_c (v:Vl) (Av:Option Addr) (cv:Nat) (Bv:Option Addr) (dv:Nat) (w:World) (hmv:SRow w .u32 Av v.mag cv) (hsv:SRow w .u16 Bv v.s dv):Calls Tryz.prog 14 #[vv v Av cv Bv dv] w (IsRet (.bool (mayV v)) w):=by
 refine enter_abs Tryz.func14 rfl fun a0 aS eV hp=>?_
 have aS:a0.tmps.size=70:=aS
 have dQ:New w w:=Upd.refl _ _
 have hp0:a0.eval (.tmp 0)=vv v Av cv Bv dv:=hp 0 _ rfl
 refine wp_seq_k fun K1 eW=>?_
 refine wp_g [true,true] [] [] 70
   [IsNew w 29 (c7 v Av cv Bv dv),vF]
   [0] (newsCons (fun v w h=>IsNew.old h) newsNil) aS (.nw (.eq (.nil))) ?_ (fun i h=>by cases h) ?_
 exact .o2 (step_allocN (cs:=(c7 v Av cv Bv dv)) (t:=29) rfl (noG rfl) (fun _ w hn k=>v_box rfl (k.fx 0 hp0) (fun w=>rfl)) (fun q _ hq hb=>⟨q,rfl,hq,hb⟩))<| .t (fun _ w hn k=>⟨_,v_assign rfl rfl,rfl⟩) .nil
 refine aftI aS eV dQ fun a2 w3 dR eX bv gl eY=>?_
 obtain⟨q9,h8,d1,aL⟩:=eY.G 0 1
 have fj:=Nat.le_trans dQ.size d1
 refine st_nil (eW _ _ (wp_seq_k fun gm d2=>?_))
 refine wp_g [true,true,false] [] [(2,false)] 70
   [ve (vv v Av cv Bv dv),IsNew w3 29 z7,vt]
   [1] (newsCons (fun v w h=>IsNew.old h) newsNil) dR (.eq (.nw (.tt (.nil)))) ?_ (fun i h=>by cases h) ?_
 exact .t (fun _ w hn k=>⟨_,v_load rfl (k.fx 1 h8) (l_agg Tryz.isAgg29 Tryz.sizeOf29 (aL.new_ hn) rfl),rfl⟩)<| .o2 (step_allocN (cs:=z7) (t:=29) rfl (noG rfl) (fun _ w hn k=>rfl) (fun q _ hq hb=>⟨q,rfl,hq,hb⟩))<| .off .nil
 refine aftI dR eX bv fun gn go bw d3 d4 d5 aM=>?_
 have dS:=aM.fx 1 h8
 have eZ:=aM.ge 0 4 rfl
 obtain⟨ah,dT,bx,d6⟩:=aM.G 1 3
 have d7:=aL.new_ d5
 have hne28:q9 ≠ ah:=by have h1:=aL.lt; have h2:=bx; omega
 have fk:=Nat.le_trans bv.size bx
 obtain⟨e0,ca,aw,d8,d9⟩:=s_many (P:=Tryz.prog) (t:=29) (i:=0) (c7 v Av cv Bv dv) Tryz.sizeOf29 rfl rfl rfl d6 lb
 have ea:Blk e0 ah 29 (c7 v Av cv Bv dv):=aw
 refine st_act rfl rfl fun gp eb=>a_store' rfl dT eZ ca (eb _ _ trivial ?_)
 have bz:=d9 _ _ _ (hne28) d7
 have ec:=d4.trans d8 (fun _ h b=>by subst b; omega)
 refine st_nil (d2 _ _ (wp_seq_k fun gr ed=>?_))
 refine wp_seq_k fun gs ee=>?_
 refine wp_g0 [true,true] [] 70
   [ve (pv q9),ve (iv v.k)] bw (.eq (.eq (.nil))) ?_ ?_
 exact .f (fun k=>k.fx 1 dS)<| .t (fun _ w hn k=>⟨_,v_load rfl (k.eq1 0 5 rfl) (l_one Tryz.isAgg3 ((bz.new_ hn).cell 0)),rfl⟩) .nil
 refine aftI bw d3 ec fun gt gu bA ef eg bB aN=>?_
 have e1:=aN.fx 1 dS
 have e2:=aN.fx 3 dT
 have dU:=aN.ge 1 6 rfl
 have eh:=bz.new_ bB
 have ei:=ea.new_ bB
 refine st_nil (ee _ _ ?_)
 refine wp_block ?_
 refine wp_seq_k fun gv bC=>?_
 refine wp_seq_k fun gw ej=>?_
 refine wp_g0 [true,true] [] 70
   [ve (.bool (decide (v.k=0))),ve (.bool (decide (v.k=0)))] bA (.eq (.eq (.nil))) ?_ ?_
 exact .t (fun _ w hn k=>⟨_,v_bin rfl (k.fx 6 dU) rfl (fun _=>rfl) (r_eql rfl),rfl⟩)<| .a (fun k=>k.eq1 0 8 rfl) .nil
 refine aftI bA ef eg fun gx gy ax bD ay bE az=>?_
 have dV:=az.fx 1 e1
 have e3:=az.fx 3 e2
 have dW:=az.fx 6 dU
 have dX:=az.ge 1 7 rfl
 have bF:=eh.new_ bE
 have ek:=ei.new_ bE
 refine st_nil (ej _ _ ?_)
 rcases bc (decide (v.k=0)) with ab|ab
 have cb:=oT ab
 have bG:=hB dX ab
 refine wp_cond_true bG ?_
 refine wp_skip ?_
 refine bC _ _ ?_
 refine wp_cond_true bG ?_
 refine wp_seq_k fun gz el=>?_
 refine wp_g0 [true,true,true] [] 70
   [ve (vv v Av cv Bv dv),ve (.bool (zeroV v)),ve (.bool (zeroV v))] ax (.eq (.eq (.eq (.nil)))) ?_ ?_
 exact .t (fun _ w hn k=>⟨_,v_load rfl (k.fx 1 dV) (l_agg Tryz.isAgg29 Tryz.sizeOf29 (bF.new_ hn) rfl),rfl⟩)<| .o1 (ck rfl rfl rfl (fun _ w hn k=>⟨#[vv v Av cv Bv dv],args1 (k.eq1 0 10 rfl),fun _=>by kernel_rfl,zero_c v _ _ _ _ _ (hmv.new_ (ay.transNew hn)) (hsv.new_ (ay.transNew hn))⟩) fun _=>rfl)<| .a (fun k=>k.eq1 1 11 rfl) .nil
 refine aftI ax bD ay fun gA gB fl em en fm eo=>?_
 have e4:=eo.ge 2 2 rfl
 refine st_nil (el _ _ ?_)
 refine wp_ret (ret_k em (v:=.bool (zeroV v)) (res_t rfl e4 _) ?_)
 refine ⟨?_,en⟩
 show Ending.returned (.bool (zeroV v))=Ending.returned (.bool (mayV v))
 first|rfl|(simp only [mayV,ab,bsm] <;> rfl)|(exfalso; omega)
 have cb:=oF ab
 have ep:=hB dX ab
 refine wp_cond_false ep ?_
 refine wp_g0 [true,true] [] 70
   [ve (.bool (decide (v.k=1))),ve (.bool (decide (v.k=1)))] ax (.eq (.eq (.nil))) ?_ ?_
 exact .t (fun _ w hn k=>⟨_,v_bin rfl (k.fx 6 dW) rfl (fun _=>rfl) (r_eql rfl),rfl⟩)<| .a (fun k=>k.eq1 0 9 rfl) .nil
 refine aftI ax bD ay fun gC gD aA bH aB bI aC=>?_
 have dY:=aC.fx 1 dV
 have e5:=aC.fx 3 e3
 have dZ:=aC.fx 6 dW
 have d0:=aC.ge 1 7 rfl
 have bJ:=bF.new_ bI
 have er:=ek.new_ bI
 refine st_nil (bC _ _ ?_)
 rcases bc (decide (v.k=1)) with ad|ad
 have cc:=oT ad
 have es:=hB d0 ad
 refine wp_cond_true es ?_
 refine wp_seq_k fun gE et=>?_
 refine wp_g0 [true,true,true] [] 70
   [ve (vv v Av cv Bv dv),ve (.bool (zeroV v)),ve (.bool (zeroV v))] aA (.eq (.eq (.eq (.nil)))) ?_ ?_
 exact .t (fun _ w hn k=>⟨_,v_load rfl (k.fx 1 dY) (l_agg Tryz.isAgg29 Tryz.sizeOf29 (bJ.new_ hn) rfl),rfl⟩)<| .o1 (ck rfl rfl rfl (fun _ w hn k=>⟨#[vv v Av cv Bv dv],args1 (k.eq1 0 10 rfl),fun _=>by kernel_rfl,zero_c v _ _ _ _ _ (hmv.new_ (aB.transNew hn)) (hsv.new_ (aB.transNew hn))⟩) fun _=>rfl)<| .a (fun k=>k.eq1 1 11 rfl) .nil
 refine aftI aA bH aB fun gF gG e6 cd ce fn cf=>?_
 have eu:=cf.ge 2 2 rfl
 refine st_nil (et _ _ ?_)
 refine wp_ret (ret_k cd (v:=.bool (zeroV v)) (res_t rfl eu _) ?_)
 refine ⟨?_,ce⟩
 show Ending.returned (.bool (zeroV v))=Ending.returned (.bool (mayV v))
 first|rfl|(simp only [mayV,ab,ad,bsm] <;> rfl)|(exfalso; omega)
 have cc:=oF ad
 have ch:=hB d0 ad
 refine wp_cond_false ch ?_
 refine wp_seq_k fun fo ci=>?_
 refine wp_g0 [true,true] [] 70
   [ve (.bool (decide (v.k=2))),ve (.bool (decide (v.k=2)))] aA (.eq (.eq (.nil))) ?_ ?_
 exact .t (fun _ w hn k=>⟨_,v_bin rfl (k.fx 6 dZ) rfl (fun _=>rfl) (r_eql rfl),rfl⟩)<| .a (fun k=>k.eq1 0 13 rfl) .nil
 refine aftI aA bH aB fun fp fq ai aT aU aV ak=>?_
 have bK:=ak.fx 1 dY
 have aO:=ak.fx 3 e5
 have bL:=ak.fx 6 dZ
 have bM:=ak.ge 1 12 rfl
 have aW:=bJ.new_ aV
 have aX:=er.new_ aV
 refine st_nil (ci _ _ ?_)
 rcases bc (decide (v.k=2)) with aa|aa
 have bN:=oT aa
 have cj:=hB bM aa
 refine wp_cond_true cj ?_
 refine wp_seq_k fun fs cl=>?_
 refine wp_g0 [true,false] [(1,false)] 70
   [ve (.pointer (some ⟨ah,6,none⟩)),vt] ai (.eq (.tt (.nil))) ?_ ?_
 exact .f (fun k=>k.fx 3 aO)<| .off .nil
 refine aftI ai aT aU fun ft fu aY cm cn aZ aD=>?_
 have bO:=aD.fx 1 bK
 have ev:=aD.fx 3 aO
 have ew:=aD.ge 0 14 rfl
 have co:=aW.new_ aZ
 have cp:=aX.new_ aZ
 obtain⟨fv,-,bP,cq,cr,ct⟩:=s_one (v:=iv 0) (i:=6) Tryz.sizeOf3 rfl rfl cp lb
 refine st_act rfl rfl fun fw cu=>a_store' rfl ew rfl bP (cu _ _ trivial ?_)
 have a1:=ct _ _ _ (hne28) co
 have aE:=cn.trans cr (fun _ h b=>by subst b; omega)
 refine st_nil (cl _ _ (wp_seq_k fun fy cw=>?_))
 refine wp_g0 (.replicate 13 true) [] 70
   [ve (vv (Vl.mk v.k v.nk v.nn v.neg v.mag v.s 0) Av cv Bv dv),ve (.bool (zeroV (Vl.mk v.k v.nk v.nn v.neg v.mag v.s 0))),ve (.bool (zeroV (Vl.mk v.k v.nk v.nn v.neg v.mag v.s 0))),ve (gq (zeroV (Vl.mk v.k v.nk v.nn v.neg v.mag v.s 0)) (.pointer (some ⟨q9,6,none⟩))),ve (gq (zeroV (Vl.mk v.k v.nk v.nn v.neg v.mag v.s 0)) (iv v.ref)),ve (gq (zeroV (Vl.mk v.k v.nk v.nn v.neg v.mag v.s 0)) (.bool (decide (v.ref=0)))),ve (gq (zeroV (Vl.mk v.k v.nk v.nn v.neg v.mag v.s 0)) (.bool (decide (v.ref=0)))),ve (gq ((zeroV (Vl.mk v.k v.nk v.nn v.neg v.mag v.s 0)) && (!(decide (v.ref=0)))) (.pointer (some ⟨q9,6,none⟩))),ve (gq ((zeroV (Vl.mk v.k v.nk v.nn v.neg v.mag v.s 0)) && (!(decide (v.ref=0)))) (iv v.ref)),ve (gq ((zeroV (Vl.mk v.k v.nk v.nn v.neg v.mag v.s 0)) && (!(decide (v.ref=0)))) (.bool (decide (v.ref=1)))),ve (gq (zeroV (Vl.mk v.k v.nk v.nn v.neg v.mag v.s 0)) (.bool ((decide (v.ref=0)) || (decide (v.ref=1))))),ve (.bool ((zeroV (Vl.mk v.k v.nk v.nn v.neg v.mag v.s 0)) && ((decide (v.ref=0)) || (decide (v.ref=1))))),ve (.bool ((zeroV (Vl.mk v.k v.nk v.nn v.neg v.mag v.s 0)) && ((decide (v.ref=0)) || (decide (v.ref=1)))))] aY (.eq (.eq (.eq (.eq (.eq (.eq (.eq (.eq (.eq (.eq (.eq (.eq (.eq (.nil)))))))))))))) ?_ ?_
 exact .t (fun _ w hn k=>⟨_,v_load rfl (k.fx 3 ev) (l_agg Tryz.isAgg29 Tryz.sizeOf29 (cq.new_ hn) rfl),rfl⟩)<| .o1 (ck rfl rfl rfl (fun _ w hn k=>⟨#[vv (Vl.mk v.k v.nk v.nn v.neg v.mag v.s 0) Av cv Bv dv],args1 (k.eq1 0 15 rfl),fun _=>by kernel_rfl,zero_c (Vl.mk v.k v.nk v.nn v.neg v.mag v.s 0) _ _ _ _ _ (hmv.new_ (aE.transNew hn)) (hsv.new_ (aE.transNew hn))⟩) fun _=>rfl)<| .m (fun k=>k.eq1 1 16 rfl)<| .o1 (sc (G:=(zeroV (Vl.mk v.k v.nk v.nn v.neg v.mag v.s 0))) rfl rfl rfl (fun _ _ k=>g0 (k.eq1 2 17 rfl)) (fun hG _ w hn k=>v_field rfl (k.fx 1 bO) (fun w=>rfl)))<| .o1 (sc (G:=(zeroV (Vl.mk v.k v.nk v.nn v.neg v.mag v.s 0))) rfl rfl rfl (fun _ _ k=>g0 (k.eq1 2 17 rfl)) (fun hG _ w hn k=>v_load rfl (cT hG (k.eq1 3 18 rfl)) (l_one Tryz.isAgg3 ((a1.new_ hn).cell 6))))<| .o1 (sc (G:=(zeroV (Vl.mk v.k v.nk v.nn v.neg v.mag v.s 0))) rfl rfl rfl (fun _ _ k=>g0 (k.eq1 2 17 rfl)) (fun hG _ w hn k=>v_bin rfl (cT hG (k.eq1 4 19 rfl)) rfl (fun _=>rfl) (r_eql rfl)))<| .o1 (sc (G:=(zeroV (Vl.mk v.k v.nk v.nn v.neg v.mag v.s 0))) rfl rfl rfl (fun _ _ k=>g0 (k.eq1 2 17 rfl)) (fun hG _ w hn k=>v_move rfl (cT hG (k.eq1 5 20 rfl))))<| .o1 (sc (G:=((zeroV (Vl.mk v.k v.nk v.nn v.neg v.mag v.s 0)) && (!(decide (v.ref=0))))) rfl rfl rfl (fun _ _ k=>g1' (k.eq1 6 21 rfl)) (fun hG _ w hn k=>v_field rfl (k.fx 1 bO) (fun w=>rfl)))<| .o1 (sc (G:=((zeroV (Vl.mk v.k v.nk v.nn v.neg v.mag v.s 0)) && (!(decide (v.ref=0))))) rfl rfl rfl (fun _ _ k=>g1' (k.eq1 6 21 rfl)) (fun hG _ w hn k=>v_load rfl (cT hG (k.eq1 7 22 rfl)) (l_one Tryz.isAgg3 ((a1.new_ hn).cell 6))))<| .o1 (sc (G:=((zeroV (Vl.mk v.k v.nk v.nn v.neg v.mag v.s 0)) && (!(decide (v.ref=0))))) rfl rfl rfl (fun _ _ k=>g1' (k.eq1 6 21 rfl)) (fun hG _ w hn k=>v_bin rfl (cT hG (k.eq1 8 23 rfl)) rfl (fun _=>rfl) (r_eql rfl)))<| .o1 (sc (G:=(zeroV (Vl.mk v.k v.nk v.nn v.neg v.mag v.s 0))) rfl rfl rfl (fun _ _ k=>g0 (k.eq1 2 17 rfl)) (fun hG _ w hn k=>v_or rfl (cT hG (k.eq1 6 21 rfl)) rfl (fun hg=>(cT (aj hG (nt hg)) (k.eq1 9 24 rfl)))))<| .t (fun _ w hn k=>⟨_,v_and rfl (k.eq1 2 17 rfl) (fun hg=>(cT hg (k.eq1 10 25 rfl))) rfl,rfl⟩)<| .a (fun k=>k.eq1 11 26 rfl) .nil
 refine aftI aY cm aE fun fz fA e7 cx cy e8 cz=>?_
 have ex:=cz.ge 12 2 rfl
 refine st_nil (cw _ _ ?_)
 refine wp_ret (ret_k cx (v:=.bool ((zeroV (Vl.mk v.k v.nk v.nn v.neg v.mag v.s 0)) && ((decide (v.ref=0)) || (decide (v.ref=1))))) (res_t rfl ex _) ?_)
 refine ⟨?_,cy⟩
 show Ending.returned (.bool ((zeroV (Vl.mk v.k v.nk v.nn v.neg v.mag v.s 0)) && ((decide (v.ref=0)) || (decide (v.ref=1)))))=Ending.returned (.bool (mayV v))
 first|rfl|(simp only [mayV,ab,ad,aa,bsm] <;> rfl)|(exfalso; omega)
 have bN:=oF aa
 have cA:=hB bM aa
 refine wp_cond_false cA ?_
 refine wp_seq_k fun fB cB=>?_
 refine wp_g0 [true,true] [] 70
   [ve (.bool (decide (v.k=3))),ve (.bool (decide (v.k=3)))] ai (.eq (.eq (.nil))) ?_ ?_
 exact .t (fun _ w hn k=>⟨_,v_bin rfl (k.fx 6 bL) rfl (fun _=>rfl) (r_eql rfl),rfl⟩)<| .a (fun k=>k.eq1 0 28 rfl) .nil
 refine aftI ai aT aU fun fC fD al a3 a4 a5 am=>?_
 have bQ:=am.fx 1 bK
 have aP:=am.fx 3 aO
 have bR:=am.fx 6 bL
 have bS:=am.ge 1 27 rfl
 have a6:=aW.new_ a5
 have a7:=aX.new_ a5
 refine st_nil (cB _ _ ?_)
 rcases bc (decide (v.k=3)) with ac|ac
 have bT:=oT ac
 have cC:=hB bS ac
 refine wp_cond_true cC ?_
 refine wp_seq_k fun fE cD=>?_
 refine wp_g0 [true,true,false] [(2,false)] 70
   [ve (nv (Nm.mk 0 0)),ve (.pointer (some ⟨ah,1,none⟩)),vt] al (.eq (.eq (.tt (.nil)))) ?_ ?_
 exact .t (fun _ w hn k=>⟨_,v_build (ps:=[]) rfl parts0 (by kernel_rfl),rfl⟩)<| .f (fun k=>k.fx 3 aP)<| .off .nil
 refine aftI al a3 a4 fun fF fG a8 cE cF a9 an=>?_
 have ey:=an.fx 1 bQ
 have ez:=an.fx 3 aP
 have eA:=an.ge 0 29 rfl
 have eB:=an.ge 1 30 rfl
 have cG:=a6.new_ a9
 have cH:=a7.new_ a9
 obtain⟨eC,bU,bV,cI,cJ⟩:=s_many (P:=Tryz.prog) (t:=23) (i:=1) [iv 0,iv 0] Tryz.sizeOf23 rfl rfl rfl cH lb
 have cK:Blk eC ah 29 [iv v.k,iv 0,iv 0,.bool v.neg,sv Av v.mag cv,sv Bv v.s dv,iv v.ref]:=bV
 refine st_act rfl rfl fun fH cL=>a_store' rfl eB eA bU (cL _ _ trivial ?_)
 have cM:=cJ _ _ _ (hne28) cG
 have aF:=cF.trans cI (fun _ h b=>by subst b; omega)
 refine st_nil (cD _ _ (wp_seq_k fun fI cN=>?_))
 refine wp_g0 (.replicate 8 true) [] 70
   [ve (vv (Vl.mk v.k 0 0 v.neg v.mag v.s v.ref) Av cv Bv dv),ve (.bool (zeroV (Vl.mk v.k 0 0 v.neg v.mag v.s v.ref))),ve (.bool (zeroV (Vl.mk v.k 0 0 v.neg v.mag v.s v.ref))),ve (gq (zeroV (Vl.mk v.k 0 0 v.neg v.mag v.s v.ref)) (.pointer (some ⟨q9,1,none⟩))),ve (gq (zeroV (Vl.mk v.k 0 0 v.neg v.mag v.s v.ref)) (nv (Nm.mk v.nk v.nn))),ve (gq (zeroV (Vl.mk v.k 0 0 v.neg v.mag v.s v.ref)) (.bool (nmayB (Nm.mk v.nk v.nn)))),ve (.bool ((zeroV (Vl.mk v.k 0 0 v.neg v.mag v.s v.ref)) && (nmayB (Nm.mk v.nk v.nn)))),ve (.bool ((zeroV (Vl.mk v.k 0 0 v.neg v.mag v.s v.ref)) && (nmayB (Nm.mk v.nk v.nn))))] a8 (.eq (.eq (.eq (.eq (.eq (.eq (.eq (.eq (.nil))))))))) ?_ ?_
 exact .t (fun _ w hn k=>⟨_,v_load rfl (k.fx 3 ez) (l_agg Tryz.isAgg29 Tryz.sizeOf29 (cK.new_ hn) rfl),rfl⟩)<| .o1 (ck rfl rfl rfl (fun _ w hn k=>⟨#[vv (Vl.mk v.k 0 0 v.neg v.mag v.s v.ref) Av cv Bv dv],args1 (k.eq1 0 31 rfl),fun _=>by kernel_rfl,zero_c (Vl.mk v.k 0 0 v.neg v.mag v.s v.ref) _ _ _ _ _ (hmv.new_ (aF.transNew hn)) (hsv.new_ (aF.transNew hn))⟩) fun _=>rfl)<| .m (fun k=>k.eq1 1 32 rfl)<| .o1 (sc (G:=(zeroV (Vl.mk v.k 0 0 v.neg v.mag v.s v.ref))) rfl rfl rfl (fun _ _ k=>g0 (k.eq1 2 33 rfl)) (fun hG _ w hn k=>v_field rfl (k.fx 1 ey) (fun w=>rfl)))<| .o1 (sc (G:=(zeroV (Vl.mk v.k 0 0 v.neg v.mag v.s v.ref))) rfl rfl rfl (fun _ _ k=>g0 (k.eq1 2 33 rfl)) (fun hG _ w hn k=>v_load rfl (cT hG (k.eq1 3 34 rfl)) (l_part Tryz.isAgg23 Tryz.sizeOf23 (cM.new_ hn) lb)))<| .o1 (scC (G:=(zeroV (Vl.mk v.k 0 0 v.neg v.mag v.s v.ref))) rfl rfl rfl (fun _ _ k=>g0 (k.eq1 2 33 rfl)) rfl (fun hG _ w hn k=>⟨#[nv (Nm.mk v.nk v.nn)],args1 (cT hG (k.eq1 4 35 rfl)),fun _=>by kernel_rfl,may_c (Nm.mk v.nk v.nn) _ ⟩))<| .t (fun _ w hn k=>⟨_,v_and rfl (k.eq1 2 33 rfl) (fun hg=>(cT hg (k.eq1 5 36 rfl))) rfl,rfl⟩)<| .a (fun k=>k.eq1 6 37 rfl) .nil
 refine aftI a8 cE aF fun fJ fK e9 cO cP fa cQ=>?_
 have eD:=cQ.ge 7 2 rfl
 refine st_nil (cN _ _ ?_)
 refine wp_ret (ret_k cO (v:=.bool ((zeroV (Vl.mk v.k 0 0 v.neg v.mag v.s v.ref)) && (nmayB (Nm.mk v.nk v.nn)))) (res_t rfl eD _) ?_)
 refine ⟨?_,cP⟩
 show Ending.returned (.bool ((zeroV (Vl.mk v.k 0 0 v.neg v.mag v.s v.ref)) && (nmayB (Nm.mk v.nk v.nn))))=Ending.returned (.bool (mayV v))
 first|rfl|(simp only [mayV,ab,ad,aa,ac,bsm] <;> rfl)|(exfalso; omega)
 have bT:=oF ac
 have cR:=hB bS ac
 refine wp_cond_false cR ?_
 refine wp_seq_k fun fL cS=>?_
 refine wp_g0 [true,true] [] 70
   [ve (.bool (decide (v.k=4))),ve (.bool (decide (v.k=4)))] al (.eq (.eq (.nil))) ?_ ?_
 exact .t (fun _ w hn k=>⟨_,v_bin rfl (k.fx 6 bR) rfl (fun _=>rfl) (r_eql rfl),rfl⟩)<| .a (fun k=>k.eq1 0 39 rfl) .nil
 refine aftI al a3 a4 fun fM fN ao ba bb bd ap=>?_
 have bW:=ap.fx 1 bQ
 have aQ:=ap.fx 3 aP
 have bX:=ap.fx 6 bR
 have bY:=ap.ge 1 38 rfl
 have be:=a6.new_ bd
 have bf:=a7.new_ bd
 refine st_nil (cS _ _ ?_)
 rcases bc (decide (v.k=4)) with ae|ae
 have bZ:=oT ae
 have cU:=hB bY ae
 refine wp_cond_true cU ?_
 refine wp_seq_k fun fO cV=>?_
 refine wp_g0 [true,true,false] [(2,false)] 70
   [ve (.agg #[.bool false,sv none ([]) 0]),ve (.pointer (some ⟨ah,3,none⟩)),vt] ao (.eq (.eq (.tt (.nil)))) ?_ ?_
 exact .t (fun _ w hn k=>⟨_,v_build (ps:=[]) rfl parts0 (by kernel_rfl),rfl⟩)<| .f (fun k=>k.fx 3 aQ)<| .off .nil
 refine aftI ao ba bb fun fP fQ bg cW cX bh aq=>?_
 have eE:=aq.fx 1 bW
 have eF:=aq.fx 3 aQ
 have eG:=aq.ge 0 40 rfl
 have eH:=aq.ge 1 41 rfl
 have cY:=be.new_ bh
 have cZ:=bf.new_ bh
 obtain⟨eI,b0,b1,c0,c1⟩:=s_many (P:=Tryz.prog) (t:=26) (i:=3) [.bool false,sv none ([]) 0] Tryz.sizeOf26 rfl rfl rfl cZ lb
 have c2:Blk eI ah 29 [iv v.k,iv v.nk,iv v.nn,.bool false,sv none ([]) 0,sv Bv v.s dv,iv v.ref]:=b1
 refine st_act rfl rfl fun fR c3=>a_store' rfl eH eG b0 (c3 _ _ trivial ?_)
 have c4:=c1 _ _ _ (hne28) cY
 have aG:=cX.trans c0 (fun _ h b=>by subst b; omega)
 refine st_nil (cV _ _ (wp_seq_k fun fS c5=>?_))
 refine wp_g0 (.replicate 8 true) [] 70
   [ve (vv (Vl.mk v.k v.nk v.nn false [] v.s v.ref) none 0 Bv dv),ve (.bool (zeroV (Vl.mk v.k v.nk v.nn false [] v.s v.ref))),ve (.bool (zeroV (Vl.mk v.k v.nk v.nn false [] v.s v.ref))),ve (gq (zeroV (Vl.mk v.k v.nk v.nn false [] v.s v.ref)) (.pointer (some ⟨q9,3,none⟩))),ve (gq (zeroV (Vl.mk v.k v.nk v.nn false [] v.s v.ref)) (.agg #[.bool v.neg,sv Av v.mag cv])),ve (gq (zeroV (Vl.mk v.k v.nk v.nn false [] v.s v.ref)) (.bool (mayB v.neg v.mag))),ve (.bool ((zeroV (Vl.mk v.k v.nk v.nn false [] v.s v.ref)) && (mayB v.neg v.mag))),ve (.bool ((zeroV (Vl.mk v.k v.nk v.nn false [] v.s v.ref)) && (mayB v.neg v.mag)))] bg (.eq (.eq (.eq (.eq (.eq (.eq (.eq (.eq (.nil))))))))) ?_ ?_
 exact .t (fun _ w hn k=>⟨_,v_load rfl (k.fx 3 eF) (l_agg Tryz.isAgg29 Tryz.sizeOf29 (c2.new_ hn) rfl),rfl⟩)<| .o1 (ck rfl rfl rfl (fun _ w hn k=>⟨#[vv (Vl.mk v.k v.nk v.nn false [] v.s v.ref) none 0 Bv dv],args1 (k.eq1 0 42 rfl),fun _=>by kernel_rfl,zero_c (Vl.mk v.k v.nk v.nn false [] v.s v.ref) _ _ _ _ _ (SRow.nil _ _) (hsv.new_ (aG.transNew hn))⟩) fun _=>rfl)<| .m (fun k=>k.eq1 1 43 rfl)<| .o1 (sc (G:=(zeroV (Vl.mk v.k v.nk v.nn false [] v.s v.ref))) rfl rfl rfl (fun _ _ k=>g0 (k.eq1 2 44 rfl)) (fun hG _ w hn k=>v_field rfl (k.fx 1 eE) (fun w=>rfl)))<| .o1 (sc (G:=(zeroV (Vl.mk v.k v.nk v.nn false [] v.s v.ref))) rfl rfl rfl (fun _ _ k=>g0 (k.eq1 2 44 rfl)) (fun hG _ w hn k=>v_load rfl (cT hG (k.eq1 3 45 rfl)) (l_part Tryz.isAgg26 Tryz.sizeOf26 (c4.new_ hn) lb)))<| .o1 (scC (G:=(zeroV (Vl.mk v.k v.nk v.nn false [] v.s v.ref))) rfl rfl rfl (fun _ _ k=>g0 (k.eq1 2 44 rfl)) rfl (fun hG _ w hn k=>⟨#[.agg #[.bool v.neg,sv Av v.mag cv]],args1 (cT hG (k.eq1 4 46 rfl)),fun _=>by kernel_rfl,bmay_c v.neg _ v.mag _ _ (hmv.new_ (aG.transNew hn))⟩))<| .t (fun _ w hn k=>⟨_,v_and rfl (k.eq1 2 44 rfl) (fun hg=>(cT hg (k.eq1 5 47 rfl))) rfl,rfl⟩)<| .a (fun k=>k.eq1 6 48 rfl) .nil
 refine aftI bg cW aG fun fT fU fb c6 c8 fc c9=>?_
 have eJ:=c9.ge 7 2 rfl
 refine st_nil (c5 _ _ ?_)
 refine wp_ret (ret_k c6 (v:=.bool ((zeroV (Vl.mk v.k v.nk v.nn false [] v.s v.ref)) && (mayB v.neg v.mag))) (res_t rfl eJ _) ?_)
 refine ⟨?_,c8⟩
 show Ending.returned (.bool ((zeroV (Vl.mk v.k v.nk v.nn false [] v.s v.ref)) && (mayB v.neg v.mag)))=Ending.returned (.bool (mayV v))
 first|rfl|(simp only [mayV,ab,ad,aa,ac,ae,bsm] <;> rfl)|(exfalso; omega)
 have bZ:=oF ae
 have da:=hB bY ae
 refine wp_cond_false da ?_
 refine wp_seq_k fun fV db=>?_
 refine wp_g0 [true,true] [] 70
   [ve (.bool (decide (v.k=5))),ve (.bool (decide (v.k=5)))] ao (.eq (.eq (.nil))) ?_ ?_
 exact .t (fun _ w hn k=>⟨_,v_bin rfl (k.fx 6 bX) rfl (fun _=>rfl) (r_eql rfl),rfl⟩)<| .a (fun k=>k.eq1 0 50 rfl) .nil
 refine aftI ao ba bb fun fW fX ar bi bj bk au=>?_
 have b2:=au.fx 1 bW
 have aR:=au.fx 3 aQ
 have eK:=au.fx 6 bX
 have b3:=au.ge 1 49 rfl
 have bl:=be.new_ bk
 have bm:=bf.new_ bk
 refine st_nil (db _ _ ?_)
 rcases bc (decide (v.k=5)) with af|af
 have b4:=oT af
 have dc:=hB b3 af
 refine wp_cond_true dc ?_
 refine wp_seq_k fun fY dd=>?_
 refine wp_g0 [true,false] [(1,false)] 70
   [ve (.pointer (some ⟨ah,5,none⟩)),vt] ar (.eq (.tt (.nil))) ?_ ?_
 exact .f (fun k=>k.fx 3 aR)<| .off .nil
 refine aftI ar bi bj fun fZ f0 bn de df bo aH=>?_
 have eL:=aH.fx 1 b2
 have eM:=aH.fx 3 aR
 have eN:=aH.ge 0 51 rfl
 have dg:=bl.new_ bo
 have dh:=bm.new_ bo
 obtain⟨f1,-,b5,di,dj,dk⟩:=s_one (v:=sv none ([]) 0) (i:=5) Tryz.sizeOf27 rfl rfl dh lb
 refine st_act rfl rfl fun f2 dl=>a_store' rfl eN rfl b5 (dl _ _ trivial ?_)
 have dm:=dk _ _ _ (hne28) dg
 have bp:=df.trans dj (fun _ h b=>by subst b; omega)
 refine st_nil (dd _ _ (wp_seq_k fun f3 dn=>?_))
 refine wp_g0 (.replicate 9 true) [] 70
   [ve (vv (Vl.mk v.k v.nk v.nn v.neg v.mag [] v.ref) Av cv none 0),ve (.bool (zeroV (Vl.mk v.k v.nk v.nn v.neg v.mag [] v.ref))),ve (.bool (zeroV (Vl.mk v.k v.nk v.nn v.neg v.mag [] v.ref))),ve (gq (zeroV (Vl.mk v.k v.nk v.nn v.neg v.mag [] v.ref)) (.pointer (some ⟨q9,5,none⟩))),ve (gq (zeroV (Vl.mk v.k v.nk v.nn v.neg v.mag [] v.ref)) (sv Bv v.s dv)),ve (gq (zeroV (Vl.mk v.k v.nk v.nn v.neg v.mag [] v.ref)) (iv (v.s.length:Int))),ve (gq (zeroV (Vl.mk v.k v.nk v.nn v.neg v.mag [] v.ref)) (.bool (decide ((v.s.length:Int)≤4096)))),ve (.bool ((zeroV (Vl.mk v.k v.nk v.nn v.neg v.mag [] v.ref)) && (decide ((v.s.length:Int)≤4096)))),ve (.bool ((zeroV (Vl.mk v.k v.nk v.nn v.neg v.mag [] v.ref)) && (decide ((v.s.length:Int)≤4096))))] bn (.eq (.eq (.eq (.eq (.eq (.eq (.eq (.eq (.eq (.nil)))))))))) ?_ ?_
 exact .t (fun _ w hn k=>⟨_,v_load rfl (k.fx 3 eM) (l_agg Tryz.isAgg29 Tryz.sizeOf29 (di.new_ hn) rfl),rfl⟩)<| .o1 (ck rfl rfl rfl (fun _ w hn k=>⟨#[vv (Vl.mk v.k v.nk v.nn v.neg v.mag [] v.ref) Av cv none 0],args1 (k.eq1 0 52 rfl),fun _=>by kernel_rfl,zero_c (Vl.mk v.k v.nk v.nn v.neg v.mag [] v.ref) _ _ _ _ _ (hmv.new_ (bp.transNew hn)) (SRow.nil _ _)⟩) fun _=>rfl)<| .m (fun k=>k.eq1 1 53 rfl)<| .o1 (sc (G:=(zeroV (Vl.mk v.k v.nk v.nn v.neg v.mag [] v.ref))) rfl rfl rfl (fun _ _ k=>g0 (k.eq1 2 54 rfl)) (fun hG _ w hn k=>v_field rfl (k.fx 1 eL) (fun w=>rfl)))<| .o1 (sc (G:=(zeroV (Vl.mk v.k v.nk v.nn v.neg v.mag [] v.ref))) rfl rfl rfl (fun _ _ k=>g0 (k.eq1 2 54 rfl)) (fun hG _ w hn k=>v_load rfl (cT hG (k.eq1 3 55 rfl)) (l_one Tryz.isAgg27 ((dm.new_ hn).cell 5))))<| .o1 (sc (G:=(zeroV (Vl.mk v.k v.nk v.nn v.neg v.mag [] v.ref))) rfl rfl rfl (fun _ _ k=>g0 (k.eq1 2 54 rfl)) (fun hG _ w hn k=>v_lenR rfl elU (cT hG (k.eq1 4 56 rfl))))<| .o1 (sc (G:=(zeroV (Vl.mk v.k v.nk v.nn v.neg v.mag [] v.ref))) rfl rfl rfl (fun _ _ k=>g0 (k.eq1 2 54 rfl)) (fun hG _ w hn k=>v_bin rfl (cT hG (k.eq1 5 57 rfl)) rfl (fun _=>rfl) (r_leqK rfl)))<| .t (fun _ w hn k=>⟨_,v_and rfl (k.eq1 2 54 rfl) (fun hg=>(cT hg (k.eq1 6 58 rfl))) rfl,rfl⟩)<| .a (fun k=>k.eq1 7 59 rfl) .nil
 refine aftI bn de bp fun f4 f5 fd dp dq fe dr=>?_
 have eO:=dr.ge 8 2 rfl
 refine st_nil (dn _ _ ?_)
 refine wp_ret (ret_k dp (v:=.bool ((zeroV (Vl.mk v.k v.nk v.nn v.neg v.mag [] v.ref)) && (decide ((v.s.length:Int)≤4096)))) (res_t rfl eO _) ?_)
 refine ⟨?_,dq⟩
 show Ending.returned (.bool ((zeroV (Vl.mk v.k v.nk v.nn v.neg v.mag [] v.ref)) && (decide ((v.s.length:Int)≤4096))))=Ending.returned (.bool (mayV v))
 first|rfl|(simp only [mayV,ab,ad,aa,ac,ae,af,bsm] <;> rfl)|(exfalso; omega)
 have b4:=oF af
 have ds:=hB b3 af
 refine wp_cond_false ds ?_
 refine wp_seq_k fun f6 dt=>?_
 refine wp_g0 [true,true] [] 70
   [ve (.bool (decide (v.k=6))),ve (.bool (decide (v.k=6)))] ar (.eq (.eq (.nil))) ?_ ?_
 exact .t (fun _ w hn k=>⟨_,v_bin rfl (k.fx 6 eK) rfl (fun _=>rfl) (r_eql rfl),rfl⟩)<| .a (fun k=>k.eq1 0 61 rfl) .nil
 refine aftI ar bi bj fun f7 f8 av bq br bs aI=>?_
 have eP:=aI.fx 1 b2
 have b6:=aI.fx 3 aR
 have b7:=aI.ge 1 60 rfl
 have du:=bl.new_ bs
 have dw:=bm.new_ bs
 refine st_nil (dt _ _ ?_)
 rcases bc (decide (v.k=6)) with ag|ag
 have b8:=oT ag
 have dx:=hB b7 ag
 refine wp_cond_true dx ?_
 refine wp_seq_k fun f9 dy=>?_
 refine wp_g0 [true,false] [(1,false)] 70
   [ve (.pointer (some ⟨ah,6,none⟩)),vt] av (.eq (.tt (.nil))) ?_ ?_
 exact .f (fun k=>k.fx 3 b6)<| .off .nil
 refine aftI av bq br fun ga gb bt dz dA bu aJ=>?_
 have eQ:=aJ.fx 1 eP
 have eR:=aJ.fx 3 b6
 have eS:=aJ.ge 0 62 rfl
 have dB:=du.new_ bu
 have dC:=dw.new_ bu
 obtain⟨gc,-,b9,aw,dD,dE⟩:=s_one (v:=iv 0) (i:=6) Tryz.sizeOf3 rfl rfl dC lb
 refine st_act rfl rfl fun gd dF=>a_store' rfl eS rfl b9 (dF _ _ trivial ?_)
 have dG:=dE _ _ _ (hne28) dB
 have aK:=dA.trans dD (fun _ h b=>by subst b; omega)
 refine st_nil (dy _ _ (wp_seq_k fun gf dH=>?_))
 refine wp_g0 (.replicate 8 true) [] 70
   [ve (vv (Vl.mk v.k v.nk v.nn v.neg v.mag v.s 0) Av cv Bv dv),ve (.bool (zeroV (Vl.mk v.k v.nk v.nn v.neg v.mag v.s 0))),ve (.bool (zeroV (Vl.mk v.k v.nk v.nn v.neg v.mag v.s 0))),ve (gq (zeroV (Vl.mk v.k v.nk v.nn v.neg v.mag v.s 0)) (.pointer (some ⟨q9,6,none⟩))),ve (gq (zeroV (Vl.mk v.k v.nk v.nn v.neg v.mag v.s 0)) (iv v.ref)),ve (gq (zeroV (Vl.mk v.k v.nk v.nn v.neg v.mag v.s 0)) (.bool (!decide (v.ref < 0)))),ve (.bool ((zeroV (Vl.mk v.k v.nk v.nn v.neg v.mag v.s 0)) && (!decide (v.ref < 0)))),ve (.bool ((zeroV (Vl.mk v.k v.nk v.nn v.neg v.mag v.s 0)) && (!decide (v.ref < 0))))] bt (.eq (.eq (.eq (.eq (.eq (.eq (.eq (.eq (.nil))))))))) ?_ ?_
 exact .t (fun _ w hn k=>⟨_,v_load rfl (k.fx 3 eR) (l_agg Tryz.isAgg29 Tryz.sizeOf29 (aw.new_ hn) rfl),rfl⟩)<| .o1 (ck rfl rfl rfl (fun _ w hn k=>⟨#[vv (Vl.mk v.k v.nk v.nn v.neg v.mag v.s 0) Av cv Bv dv],args1 (k.eq1 0 63 rfl),fun _=>by kernel_rfl,zero_c (Vl.mk v.k v.nk v.nn v.neg v.mag v.s 0) _ _ _ _ _ (hmv.new_ (aK.transNew hn)) (hsv.new_ (aK.transNew hn))⟩) fun _=>rfl)<| .m (fun k=>k.eq1 1 64 rfl)<| .o1 (sc (G:=(zeroV (Vl.mk v.k v.nk v.nn v.neg v.mag v.s 0))) rfl rfl rfl (fun _ _ k=>g0 (k.eq1 2 65 rfl)) (fun hG _ w hn k=>v_field rfl (k.fx 1 eQ) (fun w=>rfl)))<| .o1 (sc (G:=(zeroV (Vl.mk v.k v.nk v.nn v.neg v.mag v.s 0))) rfl rfl rfl (fun _ _ k=>g0 (k.eq1 2 65 rfl)) (fun hG _ w hn k=>v_load rfl (cT hG (k.eq1 3 66 rfl)) (l_one Tryz.isAgg3 ((dG.new_ hn).cell 6))))<| .o1 (sc (G:=(zeroV (Vl.mk v.k v.nk v.nn v.neg v.mag v.s 0))) rfl rfl rfl (fun _ _ k=>g0 (k.eq1 2 65 rfl)) (fun hG _ w hn k=>v_bin rfl (cT hG (k.eq1 4 67 rfl)) rfl (fun _=>rfl) (r_geqK rfl)))<| .t (fun _ w hn k=>⟨_,v_and rfl (k.eq1 2 65 rfl) (fun hg=>(cT hg (k.eq1 5 68 rfl))) rfl,rfl⟩)<| .a (fun k=>k.eq1 6 69 rfl) .nil
 refine aftI bt dz aK fun gg gh ff dI dJ fg dK=>?_
 have eT:=dK.ge 7 2 rfl
 refine st_nil (dH _ _ ?_)
 refine wp_ret (ret_k dI (v:=.bool ((zeroV (Vl.mk v.k v.nk v.nn v.neg v.mag v.s 0)) && (!decide (v.ref < 0)))) (res_t rfl eT _) ?_)
 refine ⟨?_,dJ⟩
 show Ending.returned (.bool ((zeroV (Vl.mk v.k v.nk v.nn v.neg v.mag v.s 0)) && (!decide (v.ref < 0))))=Ending.returned (.bool (mayV v))
 first|rfl|(simp only [mayV,ab,ad,aa,ac,ae,af,ag,bsm] <;> rfl)|(exfalso; omega)
 have b8:=oF ag
 have dL:=hB b7 ag
 refine wp_cond_false dL ?_
 refine wp_skip ?_
 refine ed _ _ ?_
 refine wp_seq_k fun gi dM=>?_
 refine wp_g0 [true] [] 70
   [vF] av (.eq (.nil)) ?_ ?_
 exact .t (fun _ w hn k=>⟨_,v_assign rfl rfl,rfl⟩) .nil
 refine aftI av bq br fun gj gk fh dN dO fi dP=>?_
 have eU:=dP.ge 0 2 rfl
 refine st_nil (dM _ _ ?_)
 refine wp_ret (ret_k dN (v:=.bool false) (res_t rfl eU _) ?_)
 refine ⟨?_,dO⟩
 show Ending.returned (.bool false)=Ending.returned (.bool (mayV v))
 first|rfl|(simp only [mayV,ab,ad,aa,ac,ae,af,ag,bsm] <;> rfl)|(exfalso; omega)
def clean_c_P (v:Vl) (Av:Option Addr) (cv:Nat) (Bv:Option Addr) (dv:Nat) (w:World) (en:Ending) (w':World):Prop:=∃ (Ar0:Option Addr) (cr0:Nat) (Ar1:Option Addr) (cr1:Nat),en=.returned (vv (cleanV v) Ar0 cr0 Ar1 cr1)∧SRow w' .u32 Ar0 ((cleanV v).mag) cr0∧SRow w' .u16 Ar1 ((cleanV v).s) cr1∧New w w'
theorem clean_c (v:Vl) (Av:Option Addr) (cv:Nat) (Bv:Option Addr) (dv:Nat) (w:World) (hmv:SRow w .u32 Av v.mag cv) (hsv:SRow w .u16 Bv v.s dv):Calls Tryz.prog 34 #[vv v Av cv Bv dv] w (clean_c_P v Av cv Bv dv w):=by
 refine enter_abs Tryz.func34 rfl fun a0 ai a8 hp=>?_
 have ai:a0.tmps.size=8:=ai
 have ak:New w w:=Upd.refl _ _
 have hp0:a0.eval (.tmp 0)=vv v Av cv Bv dv:=hp 0 _ rfl
 refine wp_seq_k fun K1 a9=>?_
 refine wp_g [true,true] [] [] 8
   [IsNew w 29 (c7 v Av cv Bv dv),IsNew w 29 z7]
   [0,1] (newsCons (fun v w h=>IsNew.old h) (newsCons (fun v w h=>IsNew.old h) newsNil)) ai (.nw (.nw (.nil))) ?_ (fun i h=>by cases h) ?_
 exact .o2 (step_allocN (cs:=(c7 v Av cv Bv dv)) (t:=29) rfl (noG rfl) (fun _ w hn k=>v_box rfl (k.fx 0 hp0) (fun w=>rfl)) (fun q _ hq hb=>⟨q,rfl,hq,hb⟩))<| .o2 (step_allocN (cs:=z7) (t:=29) rfl (noG rfl) (fun _ w hn k=>rfl) (fun q _ hq hb=>⟨q,rfl,hq,hb⟩)) .nil
 refine aftI ai a8 ak fun a2 w3 aj aC ab br al=>?_
 obtain⟨q9,h8,aF,ac⟩:=al.G 0 1
 obtain⟨am,an,aG,ao⟩:=al.G 1 2
 have hne16:q9 ≠ am:=al.ne 0 1 1 2 h8 an
 have bk:=Nat.le_trans ak.size aF
 have bl:=Nat.le_trans ak.size aG
 refine st_nil (a9 _ _ (wp_seq_k fun bs aH=>?_))
 refine wp_seq_k fun bt ap=>?_
 rcases bc (mayV v) with aa|aa
 refine wp_g0 [true,true,true] [] 8
   [ve (vv v Av cv Bv dv),vT,vF] aj (.eq (.eq (.eq (.nil)))) ?_ ?_
 exact .t (fun _ w hn k=>⟨_,v_load rfl (k.fx 1 h8) (l_agg Tryz.isAgg29 Tryz.sizeOf29 (ac.new_ hn) rfl),rfl⟩)<| .o1 (ck rfl rfl rfl (fun _ w hn k=>⟨#[vv v Av cv Bv dv],args1 (k.eq1 0 3 rfl),fun _=>by kernel_rfl,vmay_c v _ _ _ _ _ (hmv.new_ (ab.transNew hn)) (hsv.new_ (ab.transNew hn))⟩) fun _=>congrArg Value.bool aa)<| .t (fun _ w hn k=>⟨_,v_not rfl (k.eq1 1 4 rfl),rfl⟩) .nil
 refine aftI aj aC ab fun bu bv aq aI aJ ar af=>?_
 have ba:=af.fx 1 h8
 have bb:=af.fx 2 an
 have bd:=af.ge 2 5 rfl
 have aK:=ac.new_ ar
 have aL:=ao.new_ ar
 refine st_nil (ap _ _ ?_)
 refine wp_cond_false bd ?_
 refine wp_skip ?_
 refine aH _ _ ?_
 refine wp_seq_k fun bw aM=>?_
 refine wp_g0 [true,false] [(1,false)] 8
   [ve (vv v Av cv Bv dv),vt] aq (.eq (.tt (.nil))) ?_ ?_
 exact .t (fun _ w hn k=>⟨_,v_load rfl (k.fx 1 ba) (l_agg Tryz.isAgg29 Tryz.sizeOf29 (aK.new_ hn) rfl),rfl⟩)<| .off .nil
 refine aftI aq aI aJ fun bx bz bm aN aO aP au=>?_
 have aD:=au.fx 2 bb
 have be:=au.ge 0 7 rfl
 have aQ:=aL.new_ aP
 obtain⟨bf,ay,az,aR,bn⟩:=s_many (P:=Tryz.prog) (t:=29) (i:=0) (c7 v Av cv Bv dv) Tryz.sizeOf29 rfl rfl rfl aQ lb
 have aS:Blk bf am 29 (c7 v Av cv Bv dv):=az
 refine st_act rfl rfl fun bA aT=>a_store' rfl aD be ay (aT _ _ trivial ?_)
 have ag:=aO.trans aR (fun _ h b=>by subst b; omega)
 refine st_nil (aM _ _ ?_)
 refine wp_ret (ret_k aN (v:=vv v Av cv Bv dv) (res_c rfl aD (l_agg Tryz.isAgg29 Tryz.sizeOf29 aS rfl)) ?_)
 have ad:(cleanV v).mag=v.mag:=by first|rfl|(simp only [cleanV,Vl.z,aa,bsm] <;> rfl)|(exfalso; omega)
 have ae:(cleanV v).s=v.s:=by first|rfl|(simp only [cleanV,Vl.z,aa,bsm] <;> rfl)|(exfalso; omega)
 exact⟨Av,cv,Bv,dv,(by show Ending.returned (vv v Av cv Bv dv)=Ending.returned (vv (cleanV v) Av cv Bv dv); (first|rfl|(simp only [cleanV,Vl.z,aa,ad,ae,bsm] <;> rfl)|(exfalso; omega))),(by rw [ad]; exact (hmv.new_ ag)),(by rw [ae]; exact (hsv.new_ ag)),ag⟩
 refine wp_g0 [true,true,true] [] 8
   [ve (vv v Av cv Bv dv),vF,vT] aj (.eq (.eq (.eq (.nil)))) ?_ ?_
 exact .t (fun _ w hn k=>⟨_,v_load rfl (k.fx 1 h8) (l_agg Tryz.isAgg29 Tryz.sizeOf29 (ac.new_ hn) rfl),rfl⟩)<| .o1 (ck rfl rfl rfl (fun _ w hn k=>⟨#[vv v Av cv Bv dv],args1 (k.eq1 0 3 rfl),fun _=>by kernel_rfl,vmay_c v _ _ _ _ _ (hmv.new_ (ab.transNew hn)) (hsv.new_ (ab.transNew hn))⟩) fun _=>congrArg Value.bool aa)<| .t (fun _ w hn k=>⟨_,v_not rfl (k.eq1 1 4 rfl),rfl⟩) .nil
 refine aftI aj aC ab fun bB bC av aU aV aw ah=>?_
 have bD:=ah.fx 1 h8
 have bg:=ah.fx 2 an
 have bh:=ah.ge 2 5 rfl
 have bo:=ac.new_ aw
 have aW:=ao.new_ aw
 refine st_nil (ap _ _ ?_)
 refine wp_cond_true bh ?_
 refine wp_seq_k fun bE aX=>?_
 refine wp_g0 [true,false] [(1,false)] 8
   [ve (vv (Vl.mk 0 0 0 false [] [] 0) none 0 none 0),vt] av (.eq (.tt (.nil))) ?_ ?_
 exact .t (fun _ w hn k=>⟨_,v_build (ps:=[]) rfl parts0 (by kernel_rfl),rfl⟩)<| .off .nil
 refine aftI av aU aV fun bF bG bp aY aZ a1 ax=>?_
 have aE:=ax.fx 2 bg
 have bi:=ax.ge 0 6 rfl
 have a3:=aW.new_ a1
 obtain⟨bj,aA,aB,a4,bq⟩:=s_many (P:=Tryz.prog) (t:=29) (i:=0) z7 Tryz.sizeOf29 rfl rfl rfl a3 lb
 have a5:Blk bj am 29 z7:=aB
 refine st_act rfl rfl fun bH a6=>a_store' rfl aE bi aA (a6 _ _ trivial ?_)
 have a7:=aZ.trans a4 (fun _ h b=>by subst b; omega)
 refine st_nil (aX _ _ ?_)
 refine wp_ret (ret_k aY (v:=vv (Vl.mk 0 0 0 false [] [] 0) none 0 none 0) (res_c rfl aE (l_agg Tryz.isAgg29 Tryz.sizeOf29 a5 rfl)) ?_)
 have ad:(cleanV v).mag=[]:=by first|rfl|(simp only [cleanV,Vl.z,aa,bsm] <;> rfl)|(exfalso; omega)
 have ae:(cleanV v).s=[]:=by first|rfl|(simp only [cleanV,Vl.z,aa,bsm] <;> rfl)|(exfalso; omega)
 exact⟨none,0,none,0,(by show Ending.returned (vv (Vl.mk 0 0 0 false [] [] 0) none 0 none 0)=Ending.returned (vv (cleanV v) none 0 none 0); (first|rfl|(simp only [cleanV,Vl.z,aa,ad,ae,bsm] <;> rfl)|(exfalso; omega))),(by rw [ad]; exact (SRow.nil _ _)),(by rw [ae]; exact (SRow.nil _ _)),a7⟩
theorem whole_c (n:Int) (w:World):Calls Tryz.prog 90 #[iv n] w (IsRet (nv (Nm.mk 0 n)) w):=by
 refine enter_abs Tryz.func90 rfl fun a0 aa av hp=>?_
 have aa:a0.tmps.size=5:=aa
 have ad:New w w:=Upd.refl _ _
 have hp0:a0.eval (.tmp 0)=iv n:=hp 0 _ rfl
 refine wp_seq_k fun K1 aw=>?_
 refine wp_g [true] [] [] 5
   [IsNew w 23 [iv 0,iv 0]]
   [0] (newsCons (fun v w h=>IsNew.old h) newsNil) aa (.nw (.nil)) ?_ (fun i h=>by cases h) ?_
 exact .o2 (step_allocN (cs:=[iv 0,iv 0]) (t:=23) rfl (noG rfl) (fun _ w hn k=>rfl) (fun q _ hq hb=>⟨q,rfl,hq,hb⟩)) .nil
 refine aftI aa av ad fun a2 w3 ae ax ah aC af=>?_
 have h8:=af.fx 0 hp0
 obtain⟨aD,h9,ai,aj⟩:=af.G 0 2
 have az:=Nat.le_trans ad.size ai
 refine st_nil (aw _ _ (wp_seq_k fun aE ak=>?_))
 refine wp_g0 [true,true,false] [(2,false)] 5
   [ve (iv n),ve (nv (Nm.mk 0 n)),vt] ae (.eq (.eq (.tt (.nil)))) ?_ ?_
 exact .m (fun k=>k.fx 0 h8)<| .t (fun _ w hn k=>⟨_,v_build (ps:=[(0,iv 0),(1,iv n)]) rfl (parts2 rfl (k.eq1 0 3 rfl)) (by kernel_rfl),rfl⟩)<| .off .nil
 refine aftI ae ax ah fun aF aG aA al am an ab=>?_
 have ag:=ab.fx 2 h9
 have ay:=ab.ge 1 4 rfl
 have ao:=aj.new_ an
 obtain⟨aH,-,ac,ap,aq,aB⟩:=s_two (v0:=iv 0) (v1:=iv n) Tryz.sizeOf23 rfl rfl rfl ao
 refine st_act rfl rfl fun aI ar=>a_store' rfl ag ay ac (ar _ _ trivial ?_)
 have au:=am.trans aq (fun _ h b=>by subst b; omega)
 refine st_nil (ak _ _ ?_)
 refine wp_ret (ret_k al (v:=nv (Nm.mk 0 n)) (res_c rfl ag (l_two Tryz.isAgg23 Tryz.sizeOf23 ap)) ?_)
 exact⟨rfl,au⟩
theorem nought_c (d:Bool) (w:World):Calls Tryz.prog 91 #[.bool d] w (IsRet (nv (noughtM d)) w):=by
 refine enter_abs Tryz.func91 rfl fun a0 ac aU hp=>?_
 have ac:a0.tmps.size=6:=ac
 have al:New w w:=Upd.refl _ _
 have hp0:a0.eval (.tmp 0)=.bool d:=hp 0 _ rfl
 refine wp_seq_k fun K1 aV=>?_
 refine wp_g [true] [] [] 6
   [IsNew w 23 [iv 0,iv 0]]
   [0] (newsCons (fun v w h=>IsNew.old h) newsNil) ac (.nw (.nil)) ?_ (fun i h=>by cases h) ?_
 exact .o2 (step_allocN (cs:=[iv 0,iv 0]) (t:=23) rfl (noG rfl) (fun _ w hn k=>rfl) (fun q _ hq hb=>⟨q,rfl,hq,hb⟩)) .nil
 refine aftI ac aU al fun a2 w3 am aW au a6 an=>?_
 have h8:=an.fx 0 hp0
 obtain⟨a7,h9,av,aw⟩:=an.G 0 2
 have aZ:=Nat.le_trans al.size av
 refine st_nil (aV _ _ (wp_seq_k fun a8 ax=>?_))
 refine wp_seq_k fun a9 ay=>?_
 refine wp_g0 [true] [] 6
   [ve (.bool d)] am (.eq (.nil)) ?_ ?_
 exact .m (fun k=>k.fx 0 h8) .nil
 refine aftI am aW au fun ba bb ab ad ae az af=>?_
 have ao:=af.fx 2 h9
 have ap:=af.ge 0 3 rfl
 have ag:=aw.new_ az
 refine st_nil (ay _ _ ?_)
 rcases bc (d) with aa|aa
 have aA:=hB ap aa
 refine wp_cond_true aA ?_
 refine wp_seq_k fun bd aB=>?_
 refine wp_g0 [true,false] [(1,false)] 6
   [ve (nv (Nm.mk 1 0)),vt] ab (.eq (.tt (.nil))) ?_ ?_
 exact .t (fun _ w hn k=>⟨_,v_build (ps:=[(0,iv 1)]) rfl (parts1 rfl) (by kernel_rfl),rfl⟩)<| .off .nil
 refine aftI ab ad ae fun be bf a1 aC aD aE ah=>?_
 have aq:=ah.fx 2 ao
 have aX:=ah.ge 0 4 rfl
 have aF:=ag.new_ aE
 obtain⟨bg,-,aj,aG,aH,a3⟩:=s_two (v0:=iv 1) (v1:=iv 0) Tryz.sizeOf23 rfl rfl rfl aF
 refine st_act rfl rfl fun bh aI=>a_store' rfl aq aX aj (aI _ _ trivial ?_)
 have aJ:=aD.trans aH (fun _ h b=>by subst b; omega)
 refine st_nil (aB _ _ ?_)
 refine wp_ret (ret_k aC (v:=nv (Nm.mk 1 0)) (res_c rfl aq (l_two Tryz.isAgg23 Tryz.sizeOf23 aG)) ?_)
 refine ⟨?_,aJ⟩
 show Ending.returned (nv (Nm.mk 1 0))=Ending.returned (nv (noughtM d))
 first|rfl|(simp only [noughtM,aa,bsm] <;> rfl)|(exfalso; omega)
 have aK:=hB ap aa
 refine wp_cond_false aK ?_
 refine wp_skip ?_
 refine ax _ _ ?_
 refine wp_seq_k fun bi aL=>?_
 refine wp_g0 [true,false] [(1,false)] 6
   [ve (nv (Nm.mk 0 0)),vt] ab (.eq (.tt (.nil))) ?_ ?_
 exact .o1 (ck rfl rfl rfl (fun _ w hn k=>⟨#[iv 0],args1 rfl,fun _=>by kernel_rfl,whole_c 0 _ ⟩) fun _=>rfl)<| .off .nil
 refine aftI ab ad ae fun bj bk a4 aM aN aO ai=>?_
 have ar:=ai.fx 2 ao
 have aY:=ai.ge 0 5 rfl
 have aP:=ag.new_ aO
 obtain⟨bl,-,ak,aQ,aR,a5⟩:=s_two (v0:=iv 0) (v1:=iv 0) Tryz.sizeOf23 rfl rfl rfl aP
 refine st_act rfl rfl fun bm aS=>a_store' rfl ar aY ak (aS _ _ trivial ?_)
 have aT:=aN.trans aR (fun _ h b=>by subst b; omega)
 refine st_nil (aL _ _ ?_)
 refine wp_ret (ret_k aM (v:=nv (Nm.mk 0 0)) (res_c rfl ar (l_two Tryz.isAgg23 Tryz.sizeOf23 aQ)) ?_)
 refine ⟨?_,aT⟩
 show Ending.returned (nv (Nm.mk 0 0))=Ending.returned (nv (noughtM d))
 first|rfl|(simp only [noughtM,aa,bsm] <;> rfl)|(exfalso; omega)
theorem inf_c (d:Bool) (w:World):Calls Tryz.prog 89 #[.bool d] w (IsRet (nv (infM d)) w):=by
 refine enter_abs Tryz.func89 rfl fun a0 ac aU hp=>?_
 have ac:a0.tmps.size=6:=ac
 have al:New w w:=Upd.refl _ _
 have hp0:a0.eval (.tmp 0)=.bool d:=hp 0 _ rfl
 refine wp_seq_k fun K1 aV=>?_
 refine wp_g [true] [] [] 6
   [IsNew w 23 [iv 0,iv 0]]
   [0] (newsCons (fun v w h=>IsNew.old h) newsNil) ac (.nw (.nil)) ?_ (fun i h=>by cases h) ?_
 exact .o2 (step_allocN (cs:=[iv 0,iv 0]) (t:=23) rfl (noG rfl) (fun _ w hn k=>rfl) (fun q _ hq hb=>⟨q,rfl,hq,hb⟩)) .nil
 refine aftI ac aU al fun a2 w3 am aW au a6 an=>?_
 have h8:=an.fx 0 hp0
 obtain⟨a7,h9,av,aw⟩:=an.G 0 2
 have aZ:=Nat.le_trans al.size av
 refine st_nil (aV _ _ (wp_seq_k fun a8 ax=>?_))
 refine wp_seq_k fun a9 ay=>?_
 refine wp_g0 [true] [] 6
   [ve (.bool d)] am (.eq (.nil)) ?_ ?_
 exact .m (fun k=>k.fx 0 h8) .nil
 refine aftI am aW au fun ba bb ab ad ae az af=>?_
 have ao:=af.fx 2 h9
 have ap:=af.ge 0 3 rfl
 have ag:=aw.new_ az
 refine st_nil (ay _ _ ?_)
 rcases bc (d) with aa|aa
 have aA:=hB ap aa
 refine wp_cond_true aA ?_
 refine wp_seq_k fun bd aB=>?_
 refine wp_g0 [true,false] [(1,false)] 6
   [ve (nv (Nm.mk 4 0)),vt] ab (.eq (.tt (.nil))) ?_ ?_
 exact .t (fun _ w hn k=>⟨_,v_build (ps:=[(0,iv 4)]) rfl (parts1 rfl) (by kernel_rfl),rfl⟩)<| .off .nil
 refine aftI ab ad ae fun be bf a1 aC aD aE ah=>?_
 have aq:=ah.fx 2 ao
 have aX:=ah.ge 0 4 rfl
 have aF:=ag.new_ aE
 obtain⟨bg,-,aj,aG,aH,a3⟩:=s_two (v0:=iv 4) (v1:=iv 0) Tryz.sizeOf23 rfl rfl rfl aF
 refine st_act rfl rfl fun bh aI=>a_store' rfl aq aX aj (aI _ _ trivial ?_)
 have aJ:=aD.trans aH (fun _ h b=>by subst b; omega)
 refine st_nil (aB _ _ ?_)
 refine wp_ret (ret_k aC (v:=nv (Nm.mk 4 0)) (res_c rfl aq (l_two Tryz.isAgg23 Tryz.sizeOf23 aG)) ?_)
 refine ⟨?_,aJ⟩
 show Ending.returned (nv (Nm.mk 4 0))=Ending.returned (nv (infM d))
 first|rfl|(simp only [infM,aa,bsm] <;> rfl)|(exfalso; omega)
 have aK:=hB ap aa
 refine wp_cond_false aK ?_
 refine wp_skip ?_
 refine ax _ _ ?_
 refine wp_seq_k fun bi aL=>?_
 refine wp_g0 [true,false] [(1,false)] 6
   [ve (nv (Nm.mk 3 0)),vt] ab (.eq (.tt (.nil))) ?_ ?_
 exact .t (fun _ w hn k=>⟨_,v_build (ps:=[(0,iv 3)]) rfl (parts1 rfl) (by kernel_rfl),rfl⟩)<| .off .nil
 refine aftI ab ad ae fun bj bk a4 aM aN aO ai=>?_
 have ar:=ai.fx 2 ao
 have aY:=ai.ge 0 5 rfl
 have aP:=ag.new_ aO
 obtain⟨bl,-,ak,aQ,aR,a5⟩:=s_two (v0:=iv 3) (v1:=iv 0) Tryz.sizeOf23 rfl rfl rfl aP
 refine st_act rfl rfl fun bm aS=>a_store' rfl ar aY ak (aS _ _ trivial ?_)
 have aT:=aN.trans aR (fun _ h b=>by subst b; omega)
 refine st_nil (aL _ _ ?_)
 refine wp_ret (ret_k aM (v:=nv (Nm.mk 3 0)) (res_c rfl ar (l_two Tryz.isAgg23 Tryz.sizeOf23 aQ)) ?_)
 refine ⟨?_,aT⟩
 show Ending.returned (nv (Nm.mk 3 0))=Ending.returned (nv (infM d))
 first|rfl|(simp only [infM,aa,bsm] <;> rfl)|(exfalso; omega)
theorem as_c (a:Nm) (w:World):Calls Tryz.prog 88 #[nv a] w (IsRet (nv (asM a)) w):=by
 refine enter_abs Tryz.func88 rfl fun a0 ad a1 hp=>?_
 have ad:a0.tmps.size=8:=ad
 have ae:New w w:=Upd.refl _ _
 have hp0:a0.eval (.tmp 0)=nv a:=hp 0 _ rfl
 refine wp_seq_k fun K1 a3=>?_
 refine wp_g [true,true] [] [] 8
   [IsNew w 23 [iv a.k,iv a.n],IsNew w 23 [iv 0,iv 0]]
   [0,1] (newsCons (fun v w h=>IsNew.old h) (newsCons (fun v w h=>IsNew.old h) newsNil)) ad (.nw (.nw (.nil))) ?_ (fun i h=>by cases h) ?_
 exact .o2 (step_allocN (cs:=[iv a.k,iv a.n]) (t:=23) rfl (noG rfl) (fun _ w hn k=>v_box rfl (k.fx 0 hp0) (fun w=>rfl)) (fun q _ hq hb=>⟨q,rfl,hq,hb⟩))<| .o2 (step_allocN (cs:=[iv 0,iv 0]) (t:=23) rfl (noG rfl) (fun _ w hn k=>rfl) (fun q _ hq hb=>⟨q,rfl,hq,hb⟩)) .nil
 refine aftI ad a1 ae fun a2 w3 ar a4 az bg af=>?_
 obtain⟨q9,h8,aA,ag⟩:=af.G 0 1
 obtain⟨a5,au,aB,aC⟩:=af.G 1 2
 have hne16:q9 ≠ a5:=af.ne 0 1 1 2 h8 au
 have a9:=Nat.le_trans ae.size aA
 have ba:=Nat.le_trans ae.size aB
 refine st_nil (a3 _ _ (wp_seq_k fun bh aD=>?_))
 refine wp_seq_k fun bi aE=>?_
 refine wp_g0 [true,true,true] [] 8
   [ve (nv a),ve (.bool (nmayB a)),ve (.bool (!(nmayB a)))] ar (.eq (.eq (.eq (.nil)))) ?_ ?_
 exact .t (fun _ w hn k=>⟨_,v_load rfl (k.fx 1 h8) (l_two Tryz.isAgg23 Tryz.sizeOf23 (ag.new_ hn)),rfl⟩)<| .o1 (ck rfl rfl rfl (fun _ w hn k=>⟨#[nv a],args1 (k.eq1 0 3 rfl),fun _=>by kernel_rfl,may_c a _ ⟩) fun _=>rfl)<| .t (fun _ w hn k=>⟨_,v_not rfl (k.eq1 1 4 rfl),rfl⟩) .nil
 refine aftI ar a4 az fun bj bk ab ah ai aj ac=>?_
 have a6:=ac.fx 1 h8
 have av:=ac.fx 2 au
 have aw:=ac.ge 2 5 rfl
 have aF:=ag.new_ aj
 have ak:=aC.new_ aj
 refine st_nil (aE _ _ ?_)
 rcases bc ((!(nmayB a))) with aa|aa
 have aG:=hB aw aa
 have al:(nmayB a)=false:=nF aa
 refine wp_cond_true aG ?_
 refine wp_seq_k fun bl aH=>?_
 refine wp_g0 [true,false] [(1,false)] 8
   [ve (nv (Nm.mk 2 0)),vt] ab (.eq (.tt (.nil))) ?_ ?_
 exact .o1 (ck rfl rfl rfl (fun _ w hn k=>⟨#[],rfl,fun _=>by kernel_rfl,nan_c  _ ⟩) fun _=>rfl)<| .off .nil
 refine aftI ab ah ai fun bm bn bb aI aJ aK am=>?_
 have ax:=am.fx 2 av
 have a7:=am.ge 0 6 rfl
 have aL:=ak.new_ aK
 obtain⟨bo,-,ap,aM,aN,bd⟩:=s_two (v0:=iv 2) (v1:=iv 0) Tryz.sizeOf23 rfl rfl rfl aL
 refine st_act rfl rfl fun bp aO=>a_store' rfl ax a7 ap (aO _ _ trivial ?_)
 have aP:=aJ.trans aN (fun _ h b=>by subst b; omega)
 refine st_nil (aH _ _ ?_)
 refine wp_ret (ret_k aI (v:=nv (Nm.mk 2 0)) (res_c rfl ax (l_two Tryz.isAgg23 Tryz.sizeOf23 aM)) ?_)
 refine ⟨?_,aP⟩
 show Ending.returned (nv (Nm.mk 2 0))=Ending.returned (nv (asM a))
 first|rfl|(simp only [asM,aa,al,al,bsm] <;> rfl)|(exfalso; omega)
 have aQ:=hB aw aa
 have an:(nmayB a)=true:=nT aa
 refine wp_cond_false aQ ?_
 refine wp_skip ?_
 refine aD _ _ ?_
 refine wp_seq_k fun bq aR=>?_
 refine wp_g0 [true,false] [(1,false)] 8
   [ve (nv a),vt] ab (.eq (.tt (.nil))) ?_ ?_
 exact .t (fun _ w hn k=>⟨_,v_load rfl (k.fx 1 a6) (l_two Tryz.isAgg23 Tryz.sizeOf23 (aF.new_ hn)),rfl⟩)<| .off .nil
 refine aftI ab ah ai fun br bs be aS aT aU ao=>?_
 have ay:=ao.fx 2 av
 have a8:=ao.ge 0 7 rfl
 have aV:=ak.new_ aU
 obtain⟨bt,-,aq,aW,aX,bf⟩:=s_two (v0:=iv a.k) (v1:=iv a.n) Tryz.sizeOf23 rfl rfl rfl aV
 refine st_act rfl rfl fun bu aY=>a_store' rfl ay a8 aq (aY _ _ trivial ?_)
 have aZ:=aT.trans aX (fun _ h b=>by subst b; omega)
 refine st_nil (aR _ _ ?_)
 refine wp_ret (ret_k aS (v:=nv a) (res_c rfl ay (l_two Tryz.isAgg23 Tryz.sizeOf23 aW)) ?_)
 refine ⟨?_,aZ⟩
 show Ending.returned (nv a)=Ending.returned (nv (asM a))
 first|rfl|(simp only [asM,aa,an,an,bsm] <;> rfl)|(exfalso; omega)
theorem isNaN_c (a:Nm) (w:World):Calls Tryz.prog 122 #[nv a] w (IsRet (.bool (decide (a.k=2))) w):=by
 refine enter_abs Tryz.func122 rfl fun a0 aa ak hp=>?_
 have aa:a0.tmps.size=6:=aa
 have ab:New w w:=Upd.refl _ _
 have hp0:a0.eval (.tmp 0)=nv a:=hp 0 _ rfl
 refine wp_seq_k fun K1 al=>?_
 refine wp_g [true,true] [] [] 6
   [IsNew w 23 [iv a.k,iv a.n],vF]
   [0] (newsCons (fun v w h=>IsNew.old h) newsNil) aa (.nw (.eq (.nil))) ?_ (fun i h=>by cases h) ?_
 exact .o2 (step_allocN (cs:=[iv a.k,iv a.n]) (t:=23) rfl (noG rfl) (fun _ w hn k=>v_box rfl (k.fx 0 hp0) (fun w=>rfl)) (fun q _ hq hb=>⟨q,rfl,hq,hb⟩))<| .t (fun _ w hn k=>⟨_,v_assign rfl rfl,rfl⟩) .nil
 refine aftI aa ak ab fun a2 w3 ac am ad au an=>?_
 obtain⟨q9,h8,ae,af⟩:=an.G 0 1
 have ap:=Nat.le_trans ab.size ae
 refine st_nil (al _ _ (wp_seq_k fun av ag=>?_))
 refine wp_g0 [true,true,true,true] [] 6
   [ve (pv q9),ve (iv a.k),ve (.bool (decide (a.k=2))),ve (.bool (decide (a.k=2)))] ac (.eq (.eq (.eq (.eq (.nil))))) ?_ ?_
 exact .f (fun k=>k.fx 1 h8)<| .t (fun _ w hn k=>⟨_,v_load rfl (k.eq1 0 3 rfl) (l_one Tryz.isAgg3 ((af.new_ hn).cell 0)),rfl⟩)<| .t (fun _ w hn k=>⟨_,v_bin rfl (k.eq1 1 4 rfl) rfl (fun _=>rfl) (r_eql rfl),rfl⟩)<| .a (fun k=>k.eq1 2 5 rfl) .nil
 refine aftI ac am ad fun aw ax aq ah ai ar aj=>?_
 have ao:=aj.ge 3 2 rfl
 refine st_nil (ag _ _ ?_)
 refine wp_ret (ret_k ah (v:=.bool (decide (a.k=2))) (res_t rfl ao _) ?_)
 exact⟨rfl,ai⟩
theorem rank_c (a:Nm) (w:World):Calls Tryz.prog 138 #[nv a] w (IsRet (iv (rankM a)) w):=by
 refine enter_abs Tryz.func138 rfl fun a0 af a3 hp=>?_
 have af:a0.tmps.size=11:=af
 have aq:New w w:=Upd.refl _ _
 have hp0:a0.eval (.tmp 0)=nv a:=hp 0 _ rfl
 refine wp_seq_k fun K1 a4=>?_
 refine wp_g [true,true] [] [] 11
   [IsNew w 23 [iv a.k,iv a.n],ve (iv 0)]
   [0] (newsCons (fun v w h=>IsNew.old h) newsNil) af (.nw (.eq (.nil))) ?_ (fun i h=>by cases h) ?_
 exact .o2 (step_allocN (cs:=[iv a.k,iv a.n]) (t:=23) rfl (noG rfl) (fun _ w hn k=>v_box rfl (k.fx 0 hp0) (fun w=>rfl)) (fun q _ hq hb=>⟨q,rfl,hq,hb⟩))<| .t (fun _ w hn k=>⟨_,v_assign rfl rfl,rfl⟩) .nil
 refine aftI af a3 aq fun a2 w3 ar a5 ax bm a6=>?_
 obtain⟨q9,h8,ay,ag⟩:=a6.G 0 1
 have bf:=Nat.le_trans aq.size ay
 refine st_nil (a4 _ _ (wp_seq_k fun bn az=>?_))
 refine wp_seq_k fun bo aA=>?_
 refine wp_g0 [true,true] [] 11
   [ve (pv q9),ve (iv a.k)] ar (.eq (.eq (.nil))) ?_ ?_
 exact .f (fun k=>k.fx 1 h8)<| .t (fun _ w hn k=>⟨_,v_load rfl (k.eq1 0 3 rfl) (l_one Tryz.isAgg3 ((ag.new_ hn).cell 0)),rfl⟩) .nil
 refine aftI ar a5 ax fun bp bq ah aB aC aD ai=>?_
 have a7:=ai.fx 1 h8
 have au:=ai.ge 1 4 rfl
 have aE:=ag.new_ aD
 refine st_nil (aA _ _ ?_)
 refine wp_block ?_
 refine wp_seq_k fun br aF=>?_
 refine wp_g0 [true,true] [] 11
   [ve (.bool (decide (a.k=3))),ve (.bool (decide (a.k=3)))] ah (.eq (.eq (.nil))) ?_ ?_
 exact .t (fun _ w hn k=>⟨_,v_bin rfl (k.fx 4 au) rfl (fun _=>rfl) (r_eql rfl),rfl⟩)<| .a (fun k=>k.eq1 0 6 rfl) .nil
 refine aftI ah aB aC fun bs bt ac aj ak aG ae=>?_
 have a8:=ae.fx 1 a7
 have a9:=ae.fx 4 au
 have av:=ae.ge 1 5 rfl
 have aH:=aE.new_ aG
 refine st_nil (aF _ _ ?_)
 rcases bc (decide (a.k=3)) with aa|aa
 have ao:=oT aa
 have aI:=hB av aa
 refine wp_cond_true aI ?_
 refine wp_seq_k fun bu aJ=>?_
 refine wp_g0 [true] [] 11
   [ve (iv 9007199254740992)] ac (.eq (.nil)) ?_ ?_
 exact .t (fun _ w hn k=>⟨_,v_assign rfl rfl,rfl⟩) .nil
 refine aftI ac aj ak fun bv bw bg aK aL bh aM=>?_
 have ba:=aM.ge 0 2 rfl
 refine st_nil (aJ _ _ ?_)
 refine wp_ret (ret_k aK (v:=iv 9007199254740992) (res_t rfl ba _) ?_)
 refine ⟨?_,aL⟩
 show Ending.returned (iv 9007199254740992)=Ending.returned (iv (rankM a))
 first|rfl|(simp only [rankM,aa,bsm] <;> rfl)|(exfalso; omega)
 have ao:=oF aa
 have aN:=hB av aa
 refine wp_cond_false aN ?_
 refine wp_seq_k fun bx aO=>?_
 refine wp_g0 [true,true] [] 11
   [ve (.bool (decide (a.k=4))),ve (.bool (decide (a.k=4)))] ac (.eq (.eq (.nil))) ?_ ?_
 exact .t (fun _ w hn k=>⟨_,v_bin rfl (k.fx 4 a9) rfl (fun _=>rfl) (r_eql rfl),rfl⟩)<| .a (fun k=>k.eq1 0 8 rfl) .nil
 refine aftI ac aj ak fun bz bA ad al am aP an=>?_
 have bb:=an.fx 1 a8
 have aw:=an.ge 1 7 rfl
 have aQ:=aH.new_ aP
 refine st_nil (aO _ _ ?_)
 rcases bc (decide (a.k=4)) with ab|ab
 have ap:=oT ab
 have aR:=hB aw ab
 refine wp_cond_true aR ?_
 refine wp_seq_k fun bB aS=>?_
 refine wp_g0 [true] [] 11
   [ve (iv (-9007199254740992))] ad (.eq (.nil)) ?_ ?_
 exact .t (fun _ w hn k=>⟨_,v_assign rfl rfl,rfl⟩) .nil
 refine aftI ad al am fun bC bD bi aT aU bj aV=>?_
 have bd:=aV.ge 0 2 rfl
 refine st_nil (aS _ _ ?_)
 refine wp_ret (ret_k aT (v:=iv (-9007199254740992)) (res_t rfl bd _) ?_)
 refine ⟨?_,aU⟩
 show Ending.returned (iv (-9007199254740992))=Ending.returned (iv (rankM a))
 first|rfl|(simp only [rankM,aa,ab,bsm] <;> rfl)|(exfalso; omega)
 have ap:=oF ab
 have aW:=hB aw ab
 refine wp_cond_false aW ?_
 refine wp_skip ?_
 refine az _ _ ?_
 refine wp_seq_k fun bE aX=>?_
 refine wp_g0 [true,true,true] [] 11
   [ve (.pointer (some ⟨q9,1,none⟩)),ve (iv a.n),ve (iv a.n)] ad (.eq (.eq (.eq (.nil)))) ?_ ?_
 exact .f (fun k=>k.fx 1 bb)<| .t (fun _ w hn k=>⟨_,v_load rfl (k.eq1 0 9 rfl) (l_one Tryz.isAgg3 ((aQ.new_ hn).cell 1)),rfl⟩)<| .a (fun k=>k.eq1 1 10 rfl) .nil
 refine aftI ad al am fun bF bG bk aY aZ bl a1=>?_
 have be:=a1.ge 2 2 rfl
 refine st_nil (aX _ _ ?_)
 refine wp_ret (ret_k aY (v:=iv a.n) (res_t rfl be _) ?_)
 refine ⟨?_,aZ⟩
 show Ending.returned (iv a.n)=Ending.returned (iv (rankM a))
 first|rfl|(simp only [rankM,aa,ab,bsm] <;> rfl)|(exfalso; omega)
theorem equal_c (a:Nm) (b:Nm) (w:World):Calls Tryz.prog 71 #[nv a,nv b] w (IsRet (.bool (equalM a b)) w):=by
 refine enter_abs Tryz.func71 rfl fun a0 ab aO hp=>?_
 have ab:a0.tmps.size=24:=ab
 have ac:New w w:=Upd.refl _ _
 have hp0:a0.eval (.tmp 0)=nv a:=hp 0 _ rfl
 have hp1:a0.eval (.tmp 1)=nv b:=hp 1 _ rfl
 refine wp_seq_k fun K1 aP=>?_
 refine wp_g [true,true,true] [] [] 24
   [IsNew w 23 [iv a.k,iv a.n],IsNew w 23 [iv b.k,iv b.n],vF]
   [0,1] (newsCons (fun v w h=>IsNew.old h) (newsCons (fun v w h=>IsNew.old h) newsNil)) ab (.nw (.nw (.eq (.nil)))) ?_ (fun i h=>by cases h) ?_
 exact .o2 (step_allocN (cs:=[iv a.k,iv a.n]) (t:=23) rfl (noG rfl) (fun _ w hn k=>v_box rfl (k.fx 0 hp0) (fun w=>rfl)) (fun q _ hq hb=>⟨q,rfl,hq,hb⟩))<| .o2 (step_allocN (cs:=[iv b.k,iv b.n]) (t:=23) rfl (noG rfl) (fun _ w hn k=>v_box rfl (k.fx 1 hp1) (fun w=>rfl)) (fun q _ hq hb=>⟨q,rfl,hq,hb⟩))<| .t (fun _ w hn k=>⟨_,v_assign rfl rfl,rfl⟩) .nil
 refine aftI ab aO ac fun a2 w3 ap aQ aq aZ ad=>?_
 obtain⟨q9,h8,ar,ae⟩:=ad.G 0 2
 obtain⟨aR,af,au,ag⟩:=ad.G 1 3
 have hne16:q9 ≠ aR:=ad.ne 0 1 2 3 h8 af
 have aV:=Nat.le_trans ac.size ar
 have aW:=Nat.le_trans ac.size au
 refine st_nil (aP _ _ (wp_seq_k fun a1 av=>?_))
 refine wp_g0 [true,true,true,true,false,false] [(4,false),(5,false)] 24
   [ve (nv a),ve (nv (asM a)),ve (nv b),ve (nv (asM b)),vt,vt] ap (.eq (.eq (.eq (.eq (.tt (.tt (.nil))))))) ?_ ?_
 exact .t (fun _ w hn k=>⟨_,v_load rfl (k.fx 2 h8) (l_two Tryz.isAgg23 Tryz.sizeOf23 (ae.new_ hn)),rfl⟩)<| .o1 (ck rfl rfl rfl (fun _ w hn k=>⟨#[nv a],args1 (k.eq1 0 5 rfl),fun _=>by kernel_rfl,as_c a _ ⟩) fun _=>rfl)<| .t (fun _ w hn k=>⟨_,v_load rfl (k.fx 3 af) (l_two Tryz.isAgg23 Tryz.sizeOf23 (ag.new_ hn)),rfl⟩)<| .o1 (ck rfl rfl rfl (fun _ w hn k=>⟨#[nv b],args1 (k.eq1 2 7 rfl),fun _=>by kernel_rfl,as_c b _ ⟩) fun _=>rfl)<| .off<| .off .nil
 refine aftI ap aQ aq fun a3 a4 ah aw ax ai aa=>?_
 have aj:=aa.fx 2 h8
 have ak:=aa.fx 3 af
 have aS:=aa.ge 1 6 rfl
 have aT:=aa.ge 3 8 rfl
 have ay:=ae.new_ ai
 have az:=ag.new_ ai
 have hbd_a:=as_bd a
 have hbd_b:=as_bd b
 obtain⟨a5,-,an,aA,aB,aC⟩:=s_two (v0:=iv ((asM a).k)) (v1:=iv ((asM a).n)) Tryz.sizeOf23 rfl rfl rfl ay
 refine st_act rfl rfl fun a6 aD=>a_store' rfl aj aS an (aD _ _ trivial ?_)
 have aE:=aC _ _ _ (fun h=>hne16 h.symm) az
 have aF:=ax.trans aB (fun _ h b=>by subst b; omega)
 obtain⟨a7,-,ao,al,aG,aH⟩:=s_two (v0:=iv ((asM b).k)) (v1:=iv ((asM b).n)) Tryz.sizeOf23 rfl rfl rfl aE
 refine st_act rfl rfl fun a8 aI=>a_store' rfl ak aT ao (aI _ _ trivial ?_)
 have am:=aH _ _ _ (hne16) aA
 have aJ:=aF.trans aG (fun _ h b=>by subst b; omega)
 refine st_nil (av _ _ (wp_seq_k fun a9 aK=>?_))
 refine wp_g0 (.replicate 16 true) [] 24
   [ve (nv (asM a)),ve (.bool (decide ((asM a).k=2))),ve (.bool (!(decide ((asM a).k=2)))),ve (.bool (!(decide ((asM a).k=2)))),ve (gq (!(decide ((asM a).k=2))) (nv (asM b))),ve (gq (!(decide ((asM a).k=2))) (.bool (decide ((asM b).k=2)))),ve (gq (!(decide ((asM a).k=2))) (.bool (!(decide ((asM b).k=2))))),ve (.bool ((!(decide ((asM a).k=2))) && (!(decide ((asM b).k=2))))),ve (.bool ((!(decide ((asM a).k=2))) && (!(decide ((asM b).k=2))))),ve (gq ((!(decide ((asM a).k=2))) && (!(decide ((asM b).k=2)))) (nv (asM a))),ve (gq ((!(decide ((asM a).k=2))) && (!(decide ((asM b).k=2)))) (iv (rankM (asM a)))),ve (gq ((!(decide ((asM a).k=2))) && (!(decide ((asM b).k=2)))) (nv (asM b))),ve (gq ((!(decide ((asM a).k=2))) && (!(decide ((asM b).k=2)))) (iv (rankM (asM b)))),ve (gq ((!(decide ((asM a).k=2))) && (!(decide ((asM b).k=2)))) (.bool (decide ((rankM (asM a))=(rankM (asM b)))))),ve (.bool (((!(decide ((asM a).k=2))) && (!(decide ((asM b).k=2)))) && (decide ((rankM (asM a))=(rankM (asM b)))))),ve (.bool (((!(decide ((asM a).k=2))) && (!(decide ((asM b).k=2)))) && (decide ((rankM (asM a))=(rankM (asM b))))))] ah (.eq (.eq (.eq (.eq (.eq (.eq (.eq (.eq (.eq (.eq (.eq (.eq (.eq (.eq (.eq (.eq (.nil))))))))))))))))) ?_ ?_
 exact .t (fun _ w hn k=>⟨_,v_load rfl (k.fx 2 aj) (l_two Tryz.isAgg23 Tryz.sizeOf23 (am.new_ hn)),rfl⟩)<| .o1 (ck rfl rfl rfl (fun _ w hn k=>⟨#[nv (asM a)],args1 (k.eq1 0 9 rfl),fun _=>by kernel_rfl,isNaN_c (asM a) _ ⟩) fun _=>rfl)<| .t (fun _ w hn k=>⟨_,v_not rfl (k.eq1 1 10 rfl),rfl⟩)<| .m (fun k=>k.eq1 2 11 rfl)<| .o1 (sc (G:=(!(decide ((asM a).k=2)))) rfl rfl rfl (fun _ _ k=>g0 (k.eq1 3 12 rfl)) (fun hG _ w hn k=>v_load rfl (k.fx 3 ak) (l_two Tryz.isAgg23 Tryz.sizeOf23 (al.new_ hn))))<| .o1 (scC (G:=(!(decide ((asM a).k=2)))) rfl rfl rfl (fun _ _ k=>g0 (k.eq1 3 12 rfl)) rfl (fun hG _ w hn k=>⟨#[nv (asM b)],args1 (cT hG (k.eq1 4 13 rfl)),fun _=>by kernel_rfl,isNaN_c (asM b) _ ⟩))<| .o1 (sc (G:=(!(decide ((asM a).k=2)))) rfl rfl rfl (fun _ _ k=>g0 (k.eq1 3 12 rfl)) (fun hG _ w hn k=>v_not rfl (cT hG (k.eq1 5 14 rfl))))<| .t (fun _ w hn k=>⟨_,v_and rfl (k.eq1 3 12 rfl) (fun hg=>(cT hg (k.eq1 6 15 rfl))) rfl,rfl⟩)<| .m (fun k=>k.eq1 7 16 rfl)<| .o1 (sc (G:=((!(decide ((asM a).k=2))) && (!(decide ((asM b).k=2))))) rfl rfl rfl (fun _ _ k=>g0 (k.eq1 8 17 rfl)) (fun hG _ w hn k=>v_load rfl (k.fx 2 aj) (l_two Tryz.isAgg23 Tryz.sizeOf23 (am.new_ hn))))<| .o1 (scC (G:=((!(decide ((asM a).k=2))) && (!(decide ((asM b).k=2))))) rfl rfl rfl (fun _ _ k=>g0 (k.eq1 8 17 rfl)) rfl (fun hG _ w hn k=>⟨#[nv (asM a)],args1 (cT hG (k.eq1 9 18 rfl)),fun _=>by kernel_rfl,rank_c (asM a) _ ⟩))<| .o1 (sc (G:=((!(decide ((asM a).k=2))) && (!(decide ((asM b).k=2))))) rfl rfl rfl (fun _ _ k=>g0 (k.eq1 8 17 rfl)) (fun hG _ w hn k=>v_load rfl (k.fx 3 ak) (l_two Tryz.isAgg23 Tryz.sizeOf23 (al.new_ hn))))<| .o1 (scC (G:=((!(decide ((asM a).k=2))) && (!(decide ((asM b).k=2))))) rfl rfl rfl (fun _ _ k=>g0 (k.eq1 8 17 rfl)) rfl (fun hG _ w hn k=>⟨#[nv (asM b)],args1 (cT hG (k.eq1 11 20 rfl)),fun _=>by kernel_rfl,rank_c (asM b) _ ⟩))<| .o1 (sc (G:=((!(decide ((asM a).k=2))) && (!(decide ((asM b).k=2))))) rfl rfl rfl (fun _ _ k=>g0 (k.eq1 8 17 rfl)) (fun hG _ w hn k=>v_bin rfl (cT hG (k.eq1 10 19 rfl)) (cT hG (k.eq1 12 21 rfl)) (fun _=>rfl) (r_eql rfl)))<| .t (fun _ w hn k=>⟨_,v_and rfl (k.eq1 8 17 rfl) (fun hg=>(cT hg (k.eq1 13 22 rfl))) rfl,rfl⟩)<| .a (fun k=>k.eq1 14 23 rfl) .nil
 refine aftI ah aw aJ fun ba bb aX aL aM aY aN=>?_
 have aU:=aN.ge 15 4 rfl
 refine st_nil (aK _ _ ?_)
 refine wp_ret (ret_k aL (v:=.bool (((!(decide ((asM a).k=2))) && (!(decide ((asM b).k=2)))) && (decide ((rankM (asM a))=(rankM (asM b)))))) (res_t rfl aU _) ?_)
 refine ⟨?_,aM⟩
 show Ending.returned (.bool (((!(decide ((asM a).k=2))) && (!(decide ((asM b).k=2)))) && (decide ((rankM (asM a))=(rankM (asM b))))))=Ending.returned (.bool (equalM a b))
 first|rfl|(simp only [equalM,equalA,bsm] <;> rfl)|(exfalso; omega)
theorem nneg_c (a:Nm) (w:World):Calls Tryz.prog 44 #[nv a] w (IsRet (nv (negM a)) w):=by
 refine enter_abs Tryz.func44 rfl fun a0 ar dr hp=>?_
 have ar:a0.tmps.size=28:=ar
 have aR:New w w:=Upd.refl _ _
 have hp0:a0.eval (.tmp 0)=nv a:=hp 0 _ rfl
 refine wp_seq_k fun K1 ds=>?_
 refine wp_g [true,true] [] [] 28
   [IsNew w 23 [iv a.k,iv a.n],IsNew w 23 [iv 0,iv 0]]
   [0,1] (newsCons (fun v w h=>IsNew.old h) (newsCons (fun v w h=>IsNew.old h) newsNil)) ar (.nw (.nw (.nil))) ?_ (fun i h=>by cases h) ?_
 exact .o2 (step_allocN (cs:=[iv a.k,iv a.n]) (t:=23) rfl (noG rfl) (fun _ w hn k=>v_box rfl (k.fx 0 hp0) (fun w=>rfl)) (fun q _ hq hb=>⟨q,rfl,hq,hb⟩))<| .o2 (step_allocN (cs:=[iv 0,iv 0]) (t:=23) rfl (noG rfl) (fun _ w hn k=>rfl) (fun q _ hq hb=>⟨q,rfl,hq,hb⟩)) .nil
 refine aftI ar dr aR fun a2 w3 cD dt cL em aS=>?_
 obtain⟨q9,h8,cM,aT⟩:=aS.G 0 1
 obtain⟨du,cE,cN,cO⟩:=aS.G 1 2
 have hne16:q9 ≠ du:=aS.ne 0 1 1 2 h8 cE
 have dK:=Nat.le_trans aR.size cM
 have dL:=Nat.le_trans aR.size cN
 refine st_nil (ds _ _ (wp_seq_k fun en cP=>?_))
 refine wp_g0 [true,true,false] [(2,false)] 28
   [ve (nv a),ve (nv (asM a)),vt] cD (.eq (.eq (.tt (.nil)))) ?_ ?_
 exact .t (fun _ w hn k=>⟨_,v_load rfl (k.fx 1 h8) (l_two Tryz.isAgg23 Tryz.sizeOf23 (aT.new_ hn)),rfl⟩)<| .o1 (ck rfl rfl rfl (fun _ w hn k=>⟨#[nv a],args1 (k.eq1 0 3 rfl),fun _=>by kernel_rfl,as_c a _ ⟩) fun _=>rfl)<| .off .nil
 refine aftI cD dt cL fun eo ep aU cQ cR aV ap=>?_
 have aW:=ap.fx 1 h8
 have dv:=ap.fx 2 cE
 have dw:=ap.ge 1 4 rfl
 have cS:=aT.new_ aV
 have cT:=cO.new_ aV
 have hbd_a:=as_bd a
 obtain⟨er,-,bD,aX,cU,cV⟩:=s_two (v0:=iv ((asM a).k)) (v1:=iv ((asM a).n)) Tryz.sizeOf23 rfl rfl rfl cS
 refine st_act rfl rfl fun es cW=>a_store' rfl aW dw bD (cW _ _ trivial ?_)
 have cX:=cV _ _ _ (fun h=>hne16 h.symm) cT
 have cY:=cR.trans cU (fun _ h b=>by subst b; omega)
 refine st_nil (cP _ _ (wp_seq_k fun et cZ=>?_))
 refine wp_seq_k fun eu c0=>?_
 refine wp_g0 [true,true] [] 28
   [ve (pv q9),ve (iv ((asM a).k))] aU (.eq (.eq (.nil))) ?_ ?_
 exact .f (fun k=>k.fx 1 aW)<| .t (fun _ w hn k=>⟨_,v_load rfl (k.eq1 0 5 rfl) (l_one Tryz.isAgg3 ((aX.new_ hn).cell 0)),rfl⟩) .nil
 refine aftI aU cQ cY fun ev ew aY c1 c2 aZ aq=>?_
 have dx:=aq.fx 1 aW
 have dy:=aq.fx 2 dv
 have cF:=aq.ge 1 6 rfl
 have c3:=aX.new_ aZ
 have c4:=cX.new_ aZ
 refine st_nil (c0 _ _ ?_)
 refine wp_block ?_
 refine wp_seq_k fun ex c5=>?_
 refine wp_g0 [true,true] [] 28
   [ve (.bool (decide (((asM a).k)=2))),ve (.bool (decide (((asM a).k)=2)))] aY (.eq (.eq (.nil))) ?_ ?_
 exact .t (fun _ w hn k=>⟨_,v_bin rfl (k.fx 6 cF) rfl (fun _=>rfl) (r_eql rfl),rfl⟩)<| .a (fun k=>k.eq1 0 8 rfl) .nil
 refine aftI aY c1 c2 fun ey ez aj a1 a3 a4 ak=>?_
 have cG:=ak.fx 1 dx
 have cH:=ak.fx 2 dy
 have cI:=ak.fx 6 cF
 have cJ:=ak.ge 1 7 rfl
 have a5:=c3.new_ a4
 have a6:=c4.new_ a4
 refine st_nil (c5 _ _ ?_)
 rcases bc (decide (((asM a).k)=2)) with ac|ac
 have bE:=oT ac
 have c6:=hB cJ ac
 refine wp_cond_true c6 ?_
 refine wp_seq_k fun eA c8=>?_
 refine wp_g0 [true,false] [(1,false)] 28
   [ve (nv (asM a)),vt] aj (.eq (.tt (.nil))) ?_ ?_
 exact .t (fun _ w hn k=>⟨_,v_load rfl (k.fx 1 cG) (l_two Tryz.isAgg23 Tryz.sizeOf23 (a5.new_ hn)),rfl⟩)<| .off .nil
 refine aftI aj a1 a3 fun eB eC dM c9 da db a7=>?_
 have cK:=a7.fx 2 cH
 have dz:=a7.ge 0 9 rfl
 have dc:=a6.new_ db
 obtain⟨eD,-,bF,dd,de,dN⟩:=s_two (v0:=iv ((asM a).k)) (v1:=iv ((asM a).n)) Tryz.sizeOf23 rfl rfl rfl dc
 refine st_act rfl rfl fun eE df=>a_store' rfl cK dz bF (df _ _ trivial ?_)
 have dg:=da.trans de (fun _ h b=>by subst b; omega)
 refine st_nil (c8 _ _ ?_)
 refine wp_ret (ret_k c9 (v:=nv (asM a)) (res_c rfl cK (l_two Tryz.isAgg23 Tryz.sizeOf23 dd)) ?_)
 refine ⟨?_,dg⟩
 show Ending.returned (nv (asM a))=Ending.returned (nv (negM a))
 first|rfl|(simp only [negM,negA,infM,ac,bsm] <;> rfl)|(exfalso; omega)
 have bE:=oF ac
 have dh:=hB cJ ac
 refine wp_cond_false dh ?_
 refine wp_seq_k fun eF a8=>?_
 refine wp_seq_k fun eG di=>?_
 refine wp_g0 [true,true] [] 28
   [ve (.bool (decide (((asM a).k)=3))),ve (.bool (decide (((asM a).k)=3)))] aj (.eq (.eq (.nil))) ?_ ?_
 exact .t (fun _ w hn k=>⟨_,v_bin rfl (k.fx 6 cI) rfl (fun _=>rfl) (r_eql rfl),rfl⟩)<| .a (fun k=>k.eq1 0 11 rfl) .nil
 refine aftI aj a1 a3 fun eH eI al a9 au ba am=>?_
 have bb:=am.fx 1 cG
 have bd:=am.fx 2 cH
 have be:=am.fx 6 cI
 have bf:=am.ge 1 10 rfl
 have av:=a5.new_ ba
 have aw:=a6.new_ ba
 refine st_nil (di _ _ ?_)
 rcases bc (decide (((asM a).k)=3)) with aa|aa
 have bg:=oT aa
 have ax:=hB bf aa
 refine wp_cond_true ax ?_
 refine wp_skip ?_
 refine a8 _ _ ?_
 refine wp_cond_true ax ?_
 refine wp_seq_k fun dO bG=>?_
 refine wp_g0 [true,true,true,true,false] [(4,false)] 28
   [ve (pv q9),ve (iv ((asM a).k)),vT,ve (nv (infM true)),vt] al (.eq (.eq (.eq (.eq (.tt (.nil)))))) ?_ ?_
 exact .f (fun k=>k.fx 1 bb)<| .t (fun _ w hn k=>⟨_,v_load rfl (k.eq1 0 13 rfl) (l_one Tryz.isAgg3 ((av.new_ hn).cell 0)),rfl⟩)<| .t (fun _ w hn k=>⟨_,v_bin rfl (k.eq1 1 14 rfl) rfl (fun _=>rfl) (r_eql aa),rfl⟩)<| .o1 (ck rfl rfl rfl (fun _ w hn k=>⟨#[.bool true],args1 (k.eq1 2 15 rfl),fun _=>by kernel_rfl,inf_c true _ ⟩) fun _=>rfl)<| .off .nil
 refine aftI al a9 au fun dP dQ dA bH bI bJ ay=>?_
 have bh:=ay.fx 2 bd
 have dj:=ay.ge 3 16 rfl
 have bK:=aw.new_ bJ
 obtain⟨dR,-,bi,bL,bM,dB⟩:=s_two (v0:=iv ((infM true).k)) (v1:=iv ((infM true).n)) Tryz.sizeOf23 rfl rfl rfl bK
 refine st_act rfl rfl fun dS bN=>a_store' rfl bh dj bi (bN _ _ trivial ?_)
 have bO:=bI.trans bM (fun _ h b=>by subst b; omega)
 refine st_nil (bG _ _ ?_)
 refine wp_ret (ret_k bH (v:=nv (infM true)) (res_c rfl bh (l_two Tryz.isAgg23 Tryz.sizeOf23 bL)) ?_)
 refine ⟨?_,bO⟩
 show Ending.returned (nv (infM true))=Ending.returned (nv (negM a))
 first|rfl|(simp only [negM,negA,infM,ac,aa,bsm] <;> rfl)|(exfalso; omega)
 have bg:=oF aa
 have bP:=hB bf aa
 refine wp_cond_false bP ?_
 refine wp_g0 [true,true] [] 28
   [ve (.bool (decide (((asM a).k)=4))),ve (.bool (decide (((asM a).k)=4)))] al (.eq (.eq (.nil))) ?_ ?_
 exact .t (fun _ w hn k=>⟨_,v_bin rfl (k.fx 6 be) rfl (fun _=>rfl) (r_eql rfl),rfl⟩)<| .a (fun k=>k.eq1 0 12 rfl) .nil
 refine aftI al a9 au fun dT dU af az aA aB ag=>?_
 have bj:=ag.fx 1 bb
 have bk:=ag.fx 2 bd
 have dk:=ag.fx 6 be
 have bl:=ag.ge 1 10 rfl
 have aC:=av.new_ aB
 have aD:=aw.new_ aB
 refine st_nil (a8 _ _ ?_)
 rcases bc (decide (((asM a).k)=4)) with ab|ab
 have bm:=oT ab
 have bQ:=hB bl ab
 refine wp_cond_true bQ ?_
 refine wp_seq_k fun dV bR=>?_
 refine wp_g0 [true,true,true,true,false] [(4,false)] 28
   [ve (pv q9),ve (iv ((asM a).k)),vF,ve (nv (infM false)),vt] af (.eq (.eq (.eq (.eq (.tt (.nil)))))) ?_ ?_
 exact .f (fun k=>k.fx 1 bj)<| .t (fun _ w hn k=>⟨_,v_load rfl (k.eq1 0 13 rfl) (l_one Tryz.isAgg3 ((aC.new_ hn).cell 0)),rfl⟩)<| .t (fun _ w hn k=>⟨_,v_bin rfl (k.eq1 1 14 rfl) rfl (fun _=>rfl) (r_eql aa),rfl⟩)<| .o1 (ck rfl rfl rfl (fun _ w hn k=>⟨#[.bool false],args1 (k.eq1 2 15 rfl),fun _=>by kernel_rfl,inf_c false _ ⟩) fun _=>rfl)<| .off .nil
 refine aftI af az aA fun dW dX dC bS bT bU aE=>?_
 have bn:=aE.fx 2 bk
 have dl:=aE.ge 3 16 rfl
 have bV:=aD.new_ bU
 obtain⟨dY,-,bo,bW,bX,dD⟩:=s_two (v0:=iv ((infM false).k)) (v1:=iv ((infM false).n)) Tryz.sizeOf23 rfl rfl rfl bV
 refine st_act rfl rfl fun dZ bY=>a_store' rfl bn dl bo (bY _ _ trivial ?_)
 have bZ:=bT.trans bX (fun _ h b=>by subst b; omega)
 refine st_nil (bR _ _ ?_)
 refine wp_ret (ret_k bS (v:=nv (infM false)) (res_c rfl bn (l_two Tryz.isAgg23 Tryz.sizeOf23 bW)) ?_)
 refine ⟨?_,bZ⟩
 show Ending.returned (nv (infM false))=Ending.returned (nv (negM a))
 first|rfl|(simp only [negM,negA,infM,ac,aa,ab,bsm] <;> rfl)|(exfalso; omega)
 have bm:=oF ab
 have b0:=hB bl ab
 refine wp_cond_false b0 ?_
 refine wp_seq_k fun d0 b1=>?_
 refine wp_g0 [true,true] [] 28
   [ve (.bool (decide (((asM a).k)=1))),ve (.bool (decide (((asM a).k)=1)))] af (.eq (.eq (.nil))) ?_ ?_
 exact .t (fun _ w hn k=>⟨_,v_bin rfl (k.fx 6 dk) rfl (fun _=>rfl) (r_eql rfl),rfl⟩)<| .a (fun k=>k.eq1 0 18 rfl) .nil
 refine aftI af az aA fun d1 d2 ah aF aG aH an=>?_
 have bp:=an.fx 1 bj
 have bq:=an.fx 2 bk
 have br:=an.ge 1 17 rfl
 have aI:=aC.new_ aH
 have aJ:=aD.new_ aH
 refine st_nil (b1 _ _ ?_)
 rcases bc (decide (((asM a).k)=1)) with ad|ad
 have bs:=oT ad
 have b2:=hB br ad
 refine wp_cond_true b2 ?_
 refine wp_seq_k fun d3 b3=>?_
 refine wp_g0 [true,false] [(1,false)] 28
   [ve (nv (Nm.mk 0 0)),vt] ah (.eq (.tt (.nil))) ?_ ?_
 exact .o1 (ck rfl rfl rfl (fun _ w hn k=>⟨#[iv 0],args1 rfl,fun _=>by kernel_rfl,whole_c 0 _ ⟩) fun _=>rfl)<| .off .nil
 refine aftI ah aF aG fun d4 d5 dE b4 b5 b6 aK=>?_
 have bt:=aK.fx 2 bq
 have dm:=aK.ge 0 19 rfl
 have b7:=aJ.new_ b6
 obtain⟨d6,-,bu,b8,b9,dF⟩:=s_two (v0:=iv 0) (v1:=iv 0) Tryz.sizeOf23 rfl rfl rfl b7
 refine st_act rfl rfl fun d7 ca=>a_store' rfl bt dm bu (ca _ _ trivial ?_)
 have cb:=b5.trans b9 (fun _ h b=>by subst b; omega)
 refine st_nil (b3 _ _ ?_)
 refine wp_ret (ret_k b4 (v:=nv (Nm.mk 0 0)) (res_c rfl bt (l_two Tryz.isAgg23 Tryz.sizeOf23 b8)) ?_)
 refine ⟨?_,cb⟩
 show Ending.returned (nv (Nm.mk 0 0))=Ending.returned (nv (negM a))
 first|rfl|(simp only [negM,negA,infM,ac,aa,ab,ad,bsm] <;> rfl)|(exfalso; omega)
 have bs:=oF ad
 have cc:=hB br ad
 refine wp_cond_false cc ?_
 refine wp_skip ?_
 refine cZ _ _ ?_
 refine wp_seq_k fun d8 cd=>?_
 refine wp_seq_k fun d9 ce=>?_
 refine wp_g0 [true,true,true] [] 28
   [ve (.pointer (some ⟨q9,1,none⟩)),ve (iv ((asM a).n)),ve (.bool (decide (((asM a).n)=0)))] ah (.eq (.eq (.eq (.nil)))) ?_ ?_
 exact .f (fun k=>k.fx 1 bp)<| .t (fun _ w hn k=>⟨_,v_load rfl (k.eq1 0 20 rfl) (l_one Tryz.isAgg3 ((aI.new_ hn).cell 1)),rfl⟩)<| .t (fun _ w hn k=>⟨_,v_bin rfl (k.eq1 1 21 rfl) rfl (fun _=>rfl) (r_eql rfl),rfl⟩) .nil
 refine aftI ah aF aG fun ea eb ai aL aM aN ao=>?_
 have dn:=ao.fx 1 bp
 have bv:=ao.fx 2 bq
 have bw:=ao.ge 2 22 rfl
 have cf:=aI.new_ aN
 have aO:=aJ.new_ aN
 refine st_nil (ce _ _ ?_)
 rcases bc (decide (((asM a).n)=0)) with ae|ae
 have bx:=oT ae
 have ch:=hB bw ae
 refine wp_cond_true ch ?_
 refine wp_seq_k fun ec ci=>?_
 refine wp_g0 [true,false] [(1,false)] 28
   [ve (nv (noughtM true)),vt] ai (.eq (.tt (.nil))) ?_ ?_
 exact .o1 (ck rfl rfl rfl (fun _ w hn k=>⟨#[.bool true],args1 rfl,fun _=>by kernel_rfl,nought_c true _ ⟩) fun _=>rfl)<| .off .nil
 refine aftI ai aL aM fun ed ee dG cj cl cm aP=>?_
 have bz:=aP.fx 2 bv
 have dp:=aP.ge 0 23 rfl
 have cn:=aO.new_ cm
 obtain⟨ef,-,bA,co,cp,dH⟩:=s_two (v0:=iv ((noughtM true).k)) (v1:=iv ((noughtM true).n)) Tryz.sizeOf23 rfl rfl rfl cn
 refine st_act rfl rfl fun eg cq=>a_store' rfl bz dp bA (cq _ _ trivial ?_)
 have cr:=cl.trans cp (fun _ h b=>by subst b; omega)
 refine st_nil (ci _ _ ?_)
 refine wp_ret (ret_k cj (v:=nv (noughtM true)) (res_c rfl bz (l_two Tryz.isAgg23 Tryz.sizeOf23 co)) ?_)
 refine ⟨?_,cr⟩
 show Ending.returned (nv (noughtM true))=Ending.returned (nv (negM a))
 first|rfl|(simp only [negM,negA,infM,ac,aa,ab,ad,ae,bsm] <;> rfl)|(exfalso; omega)
 have bx:=oF ae
 have ct:=hB bw ae
 refine wp_cond_false ct ?_
 refine wp_skip ?_
 refine cd _ _ ?_
 refine wp_seq_k fun eh cu=>?_
 refine wp_g0 [true,true,true,true,false] [(4,false)] 28
   [ve (.pointer (some ⟨q9,1,none⟩)),ve (iv ((asM a).n)),ve (iv (-((asM a).n))),ve (nv (Nm.mk 0 (-((asM a).n)))),vt] ai (.eq (.eq (.eq (.eq (.tt (.nil)))))) ?_ ?_
 exact .f (fun k=>k.fx 1 dn)<| .t (fun _ w hn k=>⟨_,v_load rfl (k.eq1 0 24 rfl) (l_one Tryz.isAgg3 ((cf.new_ hn).cell 1)),rfl⟩)<| .t (fun _ w hn k=>⟨_,v_neg rfl (k.eq1 1 25 rfl) (by omega),rfl⟩)<| .o1 (ck rfl rfl rfl (fun _ w hn k=>⟨#[iv (-((asM a).n))],args1 (k.eq1 2 26 rfl),fun _=>by kernel_rfl,whole_c (-((asM a).n)) _ ⟩) fun _=>rfl)<| .off .nil
 refine aftI ai aL aM fun ei ej dI cv cw cx aQ=>?_
 have bB:=aQ.fx 2 bv
 have dq:=aQ.ge 3 27 rfl
 have cy:=aO.new_ cx
 obtain⟨ek,-,bC,cz,cA,dJ⟩:=s_two (v0:=iv 0) (v1:=iv (-((asM a).n))) Tryz.sizeOf23 rfl rfl rfl cy
 refine st_act rfl rfl fun el cB=>a_store' rfl bB dq bC (cB _ _ trivial ?_)
 have cC:=cw.trans cA (fun _ h b=>by subst b; omega)
 refine st_nil (cu _ _ ?_)
 refine wp_ret (ret_k cv (v:=nv (Nm.mk 0 (-((asM a).n)))) (res_c rfl bB (l_two Tryz.isAgg23 Tryz.sizeOf23 cz)) ?_)
 refine ⟨?_,cC⟩
 show Ending.returned (nv (Nm.mk 0 (-((asM a).n))))=Ending.returned (nv (negM a))
 first|rfl|(simp only [negM,negA,infM,ac,aa,ab,ad,ae,bsm] <;> rfl)|(exfalso; omega)
def btrim_c_P (Am:Option Addr) (m:List Nat) (cm:Nat) (w:World) (en:Ending) (w':World):Prop:=∃ (Ar0:Option Addr) (cr0:Nat),en=.returned (sv Ar0 (canon (val m)) cr0)∧SRow w' .u32 Ar0 (canon (val m)) cr0∧New w w'
theorem btrim_c (Am:Option Addr) (m:List Nat) (cm:Nat) (w:World) (hrm:SRow w .u32 Am m cm) (hl:Limbs m):Calls Tryz.prog 156 #[sv Am m cm] w (btrim_c_P Am m cm w):=by
 refine enter_abs Tryz.func156 rfl fun a0 al a9 hp=>?_
 have al:a0.tmps.size=21:=al
 have ba:New w w:=Upd.refl _ _
 have hp0:a0.eval (.tmp 0)=sv Am m cm:=hp 0 _ rfl
 have hmx:=hrm.max
 refine wp_seq_k fun K1 bb=>?_
 refine wp_g0 [true] [] 21
   [ve (sv none ([]) 0)] al (.eq (.nil)) ?_ ?_
 exact .t (fun _ w hn k=>⟨_,v_assign rfl rfl,rfl⟩) .nil
 refine aftI al a9 ba fun a2 w3 bd be aF bs bf=>?_
 have h8:=bf.fx 0 hp0
 refine st_nil (bb _ _ (wp_seq_k fun bt ao=>?_))
 refine wp_block ?_
 refine wp_loopX (fun (mm:Nat) (aa:Act) (ww:World)=>∃ (kk:Nat) (A1:Option Addr) (c1:Nat),mm=kk∧aa.tmps.size=21∧aa.defers=[]∧New w ww∧aa.eval (.tmp 0)=sv A1 (m.take kk) c1∧SRow ww .u32 A1 (m.take kk) c1∧(kk≤m.length)∧(val (m.take kk)=val m)) (fun mm=>mm) ⟨_,⟨m.length,Am,cm,rfl,bd,be,aF,(h8.trans (by rw [List.take_length])),(by rw [List.take_length]; exact hrm.new_ aF),(Nat.le_refl _),(by rw [List.take_length])⟩⟩ ?_
 rintro mm bu bv ⟨kk,A1,c1,hmm,ah,ap,aq,af,aj,hk,hv⟩
 refine wp_seq_k fun bw aI=>?_
 refine wp_seq_k fun bx ar=>?_
 have htl:(m.take kk).length=kk:=by rw [List.length_take]; omega
 rcases bc (decide (((m.take kk).length:Int)≤0)) with ad|ad
 have aD:=oT ad
 refine wp_g0 (.replicate 12 true) [] 21
   [ve (sv A1 (m.take kk) c1),ve (iv ((m.take kk).length:Int)),vF,vF,vU,vU,vU,vU,vU,vU,vU,vF] ah (.eq (.eq (.eq (.eq (.eq (.eq (.eq (.eq (.eq (.eq (.eq (.eq (.nil))))))))))))) ?_ ?_
 exact .m (fun k=>k.fx 0 af)<| .t (fun _ w hn k=>⟨_,v_lenR rfl elW (k.eq1 0 3 rfl),rfl⟩)<| .t (fun _ w hn k=>⟨_,v_bin rfl (k.eq1 1 4 rfl) rfl (fun _=>rfl) (r_gtrK ad),rfl⟩)<| .m (fun k=>k.eq1 2 5 rfl)<| .s (fun k=>k.eq1 3 6 rfl)<| .s (fun k=>k.eq1 3 6 rfl)<| .s (fun k=>k.eq1 3 6 rfl)<| .s (fun k=>k.eq1 3 6 rfl)<| .s (fun k=>k.eq1 3 6 rfl)<| .s (fun k=>k.eq1 3 6 rfl)<| .s (fun k=>k.eq1 3 6 rfl)<| .t (fun _ w hn k=>⟨_,v_pickF rfl (k.eq1 3 6 rfl) rfl,rfl⟩) .nil
 refine aftI ah ap aq fun bz bA au aJ aK aL av=>?_
 have bg:=av.fx 0 af
 have bh:=av.ge 11 14 rfl
 have aM:=aj.new_ aL
 refine st_nil (ar _ _ ?_)
 refine wp_cond_false bh ?_
 refine wp_exit ?_
 refine ao _ _ ?_
 refine wp_seq_k fun bB aN=>?_
 refine wp_g0 [true,true] [] 21
   [ve (sv A1 (m.take kk) c1),ve (sv A1 (m.take kk) c1)] au (.eq (.eq (.nil))) ?_ ?_
 exact .m (fun k=>k.fx 0 bg)<| .a (fun k=>k.eq1 0 20 rfl) .nil
 refine aftI au aJ aK fun bC bD bp aO aP aQ aR=>?_
 have bi:=aR.ge 1 2 rfl
 have aS:=aM.new_ aQ
 refine st_nil (aN _ _ ?_)
 refine wp_ret (ret_k aO (v:=sv A1 (m.take kk) c1) (res_t rfl bi _) ?_)
 have hsp:m.take kk=canon (val m):=trim_end' hl hk hv (Or.inl (by omega))
 exact⟨A1,c1,by rw [← hsp],by rw [← hsp]; exact aS,aP⟩
 have aD:=oF ad
 refine wp_g0 (.replicate 12 true) [] 21
   [ve (sv A1 (m.take kk) c1),ve (iv ((m.take kk).length:Int)),vT,vT,ve (sv A1 (m.take kk) c1),ve (sv A1 (m.take kk) c1),ve (iv ((m.take kk).length:Int)),ve (iv (((m.take kk).length:Int) - 1)),
    (EP (.int .u32 (((m.take kk).getD ((((m.take kk).length:Int) - 1:Int).toNat) 0:Nat):Int))),ve (.int .u32 (((m.take kk).getD ((((m.take kk).length:Int) - 1:Int).toNat) 0:Nat):Int)),ve (.bool (decide ((((m.take kk).getD ((((m.take kk).length:Int) - 1:Int).toNat) 0:Nat):Int)=0))),ve (.bool (decide ((((m.take kk).getD ((((m.take kk).length:Int) - 1:Int).toNat) 0:Nat):Int)=0)))] ah (.eq (.eq (.eq (.eq (.eq (.eq (.eq (.eq (.cons (fun _ _ _ n ⟨_,_,e,h⟩=>⟨_,_,e,h.new_ n⟩) (.eq (.eq (.eq (.nil))))))))))))) ?_ ?_
 refine .m (fun k=>k.fx 0 af)<| .t (fun _ w hn k=>⟨_,v_lenR rfl elW (k.eq1 0 3 rfl),rfl⟩)<| .t (fun _ w hn k=>⟨_,v_bin rfl (k.eq1 1 4 rfl) rfl (fun _=>rfl) (r_gtrK ad),rfl⟩)<| .m (fun k=>k.eq1 2 5 rfl)<| .gm (fun k=>k.eq1 3 6 rfl) (fun k=>k.fx 0 af)<| .gm (fun k=>k.eq1 3 6 rfl) (fun k=>k.fx 0 af)<| .g (fun k=>k.eq1 3 6 rfl) (fun _ w hn k=>⟨_,v_lenR rfl elW (k.eq1 5 8 rfl),rfl⟩)<| .g (fun k=>k.eq1 3 6 rfl) (fun _ w hn k=>⟨_,v_bin rfl (k.eq1 6 9 rfl) rfl (fun _=>rfl) (r_sub rfl (by omega)),rfl⟩) ?_
 refine .o1 (tg rfl rfl rfl (fun _ _ k=>k.eq1 3 6 rfl) fun _ w hn k=>(by
       exact x_eaddr (k:=.u32) rfl elW (k.eq1 4 7 rfl) (k.eq1 7 10 rfl) (aj.new_ hn) (by omega) fun b1 o2 hme=>⟨b1,o2,rfl,hme⟩)) ?_
 refine .o1 (tg rfl rfl rfl (fun _ _ k=>k.eq1 3 6 rfl) fun _ w hn k=>(by
       obtain⟨b5,o6,e7,bj⟩:(EP (.int .u32 (((m.take kk).getD ((((m.take kk).length:Int) - 1:Int).toNat) 0:Nat):Int))) _ _:=k.dep 8 11 (by kernel_rfl) (by kernel_rfl)
       exact⟨_,v_load rfl e7 (l_one Tryz.isAgg56 bj.1),rfl⟩)) ?_
 exact .g (fun k=>k.eq1 3 6 rfl) (fun _ w hn k=>⟨_,v_bin rfl (k.eq1 9 12 rfl) rfl (fun _=>rfl) (r_eql rfl),rfl⟩)<| .t (fun _ w hn k=>⟨_,v_pickT rfl (k.eq1 3 6 rfl) (k.eq1 10 13 rfl),rfl⟩) .nil
 refine aftI ah ap aq fun bE bF ai aw ax aT ay=>?_
 have am:=ay.fx 0 af
 have aG:=ay.ge 11 14 rfl
 have ak:=aj.new_ aT
 refine st_nil (ar _ _ ?_)
 rcases bc (decide ((((m.take kk).getD ((((m.take kk).length:Int) - 1:Int).toNat) 0:Nat):Int)=0)) with ab|ab
 have aE:=oT ab
 have aU:=hB aG ab
 refine wp_cond_true aU ?_
 refine wp_skip ?_
 refine aI _ _ ?_
 refine wp_block ?_
 refine wp_g0 [true,true,true,true,true,false] [(5,true)] 21
   [ve (sv A1 (m.take kk) c1),ve (sv A1 (m.take kk) c1),ve (iv ((m.take kk).length:Int)),ve (iv (((m.take kk).length:Int) - 1)),
    (RP .u32 ((m.take kk).take ((((m.take kk).length:Int) - 1:Int).toNat))),vt] ai (.eq (.eq (.eq (.eq (.cons (fun _ _ _ n ⟨_,_,e,h⟩=>⟨_,_,e,h.new_ n⟩) (.tt (.nil))))))) ?_ ?_
 refine .m (fun k=>k.fx 0 am)<| .m (fun k=>k.fx 0 am)<| .t (fun _ w hn k=>⟨_,v_lenR rfl elW (k.eq1 1 16 rfl),rfl⟩)<| .t (fun _ w hn k=>⟨_,v_bin rfl (k.eq1 2 17 rfl) rfl (fun _=>rfl) (r_sub rfl (by omega)),rfl⟩) ?_
 refine .o1 (tk rfl rfl fun _ w hn k=>(by
       exact x_cutH (k:=.u32) rfl elW (k.eq1 0 15 rfl) (k.eq1 3 18 rfl) (ak.new_ hn) (by omega) fun A9 bm hmr=>⟨A9,bm,rfl,hmr⟩)) ?_
 exact .off .nil
 refine aftI ai aw ax fun az bG aA aV aW aX aB=>?_
 have bH:=aB.fx 0 am
 obtain⟨ag,ac,an,aC⟩:=aB.G 4 19
 have an:az.eval (.tmp 19)=sv ag ((m.take kk).take ((((m.take kk).length:Int) - 1:Int).toNat)) ac:=an
 have bq:=ak.new_ aX
 refine st_take rfl rfl (y_assign (v:=sv ag ((m.take kk).take ((((m.take kk).length:Int) - 1:Int).toNat)) ac) rfl an) rfl ?_
 obtain⟨bn,ae⟩:∃ a',a'=az.put (some 0) (sv ag ((m.take kk).take ((((m.take kk).length:Int) - 1:Int).toNat)) ac):=⟨_,rfl⟩
 have aY:=pz ae aA
 have aZ:=pd ae aV
 have bI:=pn ae an (by decide)
 have aH:bn.eval (.tmp 0)=sv ag ((m.take kk).take ((((m.take kk).length:Int) - 1:Int).toNat)) ac:=by rw [ae]; exact put_same _ _ _ (by rw [aA]; decide)
 show stepsTo _ _ _ _ _ (az.put (some 0) (sv ag ((m.take kk).take ((((m.take kk).length:Int) - 1:Int).toNat)) ac)) _
 rw [← ae]
 refine st_nil ?_
 have he72:((m.take kk).take ((((m.take kk).length:Int) - 1:Int).toNat))=(m.take (kk - 1)):=by rw [List.take_take]; congr 1; rw [htl]; omega
 rw [he72] at aH
 rw [he72] at aC
 refine blk_n ?_
 refine then_n ?_
 exact⟨_,⟨kk - 1,ag,ac,rfl,aY,aZ,aW,aH,aC,(by omega),(trim_dn' (by omega) hk ab hv)⟩,(by omega)⟩
 have aE:=oF ab
 have a1:=hB aG ab
 refine wp_cond_false a1 ?_
 refine wp_exit ?_
 refine ao _ _ ?_
 refine wp_seq_k fun bJ a3=>?_
 refine wp_g0 [true,true] [] 21
   [ve (sv A1 (m.take kk) c1),ve (sv A1 (m.take kk) c1)] ai (.eq (.eq (.nil))) ?_ ?_
 exact .m (fun k=>k.fx 0 am)<| .a (fun k=>k.eq1 0 20 rfl) .nil
 refine aftI ai aw ax fun bK bL br a4 a5 a6 a7=>?_
 have bo:=a7.ge 1 2 rfl
 have a8:=ak.new_ a6
 refine st_nil (a3 _ _ ?_)
 refine wp_ret (ret_k a4 (v:=sv A1 (m.take kk) c1) (res_t rfl bo _) ?_)
 have hsp:m.take kk=canon (val m):=trim_end' hl hk hv (Or.inr (trim_nz' (by omega) hk ab))
 exact⟨A1,c1,by rw [← hsp],by rw [← hsp]; exact a8,a5⟩
theorem bsign_c (n:Int) (w:World):Calls Tryz.prog 170 #[iv n] w (IsRet (iv (cmpI1 n)) w):=by
 refine enter_abs Tryz.func170 rfl fun a0 aa ag hp=>?_
 have aa:a0.tmps.size=6:=aa
 have ah:New w w:=Upd.refl _ _
 have hp0:a0.eval (.tmp 0)=iv n:=hp 0 _ rfl
 refine wp_seq_k fun K1 ai=>?_
 refine wp_g0 [true] [] 6
   [ve (iv 0)] aa (.eq (.nil)) ?_ ?_
 exact .t (fun _ w hn k=>⟨_,v_assign rfl rfl,rfl⟩) .nil
 refine aftI aa ag ah fun a2 w3 ab aj ak ap al=>?_
 have h8:=al.fx 0 hp0
 refine st_nil (ai _ _ (wp_seq_k fun aq ac=>?_))
 refine wp_g0 [true,true,true,true] [] 6
   [ve (iv n),ve (iv (max n (-1))),ve (iv (min (max n (-1)) 1)),ve (iv (min (max n (-1)) 1))] ab (.eq (.eq (.eq (.eq (.nil))))) ?_ ?_
 exact .m (fun k=>k.fx 0 h8)<| .t (fun _ w hn k=>⟨_,v_max rfl (k.eq1 0 3 rfl) rfl,rfl⟩)<| .t (fun _ w hn k=>⟨_,v_min rfl (k.eq1 1 4 rfl) rfl,rfl⟩)<| .a (fun k=>k.eq1 2 5 rfl) .nil
 refine aftI ab aj ak fun ar au an ad ae ao af=>?_
 have am:=af.ge 3 2 rfl
 refine st_nil (ac _ _ ?_)
 refine wp_ret (ret_k ad (v:=iv (min (max n (-1)) 1)) (res_t rfl am _) ?_)
 exact⟨congrArg (fun z=>Ending.returned (iv z)) (sign_eq n),ae⟩
theorem bneg_c (a:Bool) (Aa:Option Addr) (ma:List Nat) (ca:Nat) (w:World) (hra:SRow w .u32 Aa ma ca):Calls Tryz.prog 87 #[.agg #[.bool a,sv Aa ma ca]] w (IsRet (.bool (mayB a ma && a)) w):=by
 refine enter_abs Tryz.func87 rfl fun a0 ad ap hp=>?_
 have ad:a0.tmps.size=9:=ad
 have ag:New w w:=Upd.refl _ _
 have hp0:a0.eval (.tmp 0)=.agg #[.bool a,sv Aa ma ca]:=hp 0 _ rfl
 refine wp_seq_k fun K1 aq=>?_
 refine wp_g [true,true] [] [] 9
   [IsNew w 26 [.bool a,sv Aa ma ca],vF]
   [0] (newsCons (fun v w h=>IsNew.old h) newsNil) ad (.nw (.eq (.nil))) ?_ (fun i h=>by cases h) ?_
 exact .o2 (step_allocN (cs:=[.bool a,sv Aa ma ca]) (t:=26) rfl (noG rfl) (fun _ w hn k=>v_box rfl (k.fx 0 hp0) (fun w=>rfl)) (fun q _ hq hb=>⟨q,rfl,hq,hb⟩))<| .t (fun _ w hn k=>⟨_,v_assign rfl rfl,rfl⟩) .nil
 refine aftI ad ap ag fun a2 w3 ae ah ab aB ar=>?_
 obtain⟨q9,h8,ai,ac⟩:=ar.G 0 1
 have aw:=Nat.le_trans ag.size ai
 refine st_nil (aq _ _ (wp_seq_k fun aC af=>?_))
 rcases bc (mayB a ma) with aa|aa
 refine wp_g0 [true,true,true,true,true,true,true] [] 9
   [ve (.agg #[.bool a,sv Aa ma ca]),vT,vT,ve (pv q9),ve (.bool a),ve (.bool a),ve (.bool a)] ae (.eq (.eq (.eq (.eq (.eq (.eq (.eq (.nil)))))))) ?_ ?_
 exact .t (fun _ w hn k=>⟨_,v_load rfl (k.fx 1 h8) (l_two Tryz.isAgg26 Tryz.sizeOf26 (ac.new_ hn)),rfl⟩)<| .o1 (ck rfl rfl rfl (fun _ w hn k=>⟨#[.agg #[.bool a,sv Aa ma ca]],args1 (k.eq1 0 3 rfl),fun _=>by kernel_rfl,bmay_c a _ ma _ _ (hra.new_ (ab.transNew hn))⟩) fun _=>congrArg Value.bool aa)<| .m (fun k=>k.eq1 1 4 rfl)<| .gf (fun k=>k.eq1 2 5 rfl) (fun k=>k.fx 1 h8)<| .g (fun k=>k.eq1 2 5 rfl) (fun _ w hn k=>⟨_,v_load rfl (k.eq1 3 6 rfl) (l_one Tryz.isAgg4 ((ac.new_ hn).cell 0)),rfl⟩)<| .t (fun _ w hn k=>⟨_,v_pickT rfl (k.eq1 2 5 rfl) (k.eq1 4 7 rfl),rfl⟩)<| .a (fun k=>k.eq1 5 8 rfl) .nil
 refine aftI ae ah ab fun aD aE ax aj ak ay al=>?_
 have au:=al.ge 6 2 rfl
 refine st_nil (af _ _ ?_)
 refine wp_ret (ret_k aj (v:=.bool a) (res_t rfl au _) ?_)
 refine ⟨?_,ak⟩
 show Ending.returned (.bool a)=Ending.returned (.bool (mayB a ma && a))
 first|rfl|(simp only [aa,bsm] <;> rfl)|(exfalso; omega)
 refine wp_g0 [true,true,true,true,true,true,true] [] 9
   [ve (.agg #[.bool a,sv Aa ma ca]),vF,vF,vU,vU,vF,vF] ae (.eq (.eq (.eq (.eq (.eq (.eq (.eq (.nil)))))))) ?_ ?_
 exact .t (fun _ w hn k=>⟨_,v_load rfl (k.fx 1 h8) (l_two Tryz.isAgg26 Tryz.sizeOf26 (ac.new_ hn)),rfl⟩)<| .o1 (ck rfl rfl rfl (fun _ w hn k=>⟨#[.agg #[.bool a,sv Aa ma ca]],args1 (k.eq1 0 3 rfl),fun _=>by kernel_rfl,bmay_c a _ ma _ _ (hra.new_ (ab.transNew hn))⟩) fun _=>congrArg Value.bool aa)<| .m (fun k=>k.eq1 1 4 rfl)<| .s (fun k=>k.eq1 2 5 rfl)<| .s (fun k=>k.eq1 2 5 rfl)<| .t (fun _ w hn k=>⟨_,v_pickF rfl (k.eq1 2 5 rfl) rfl,rfl⟩)<| .a (fun k=>k.eq1 5 8 rfl) .nil
 refine aftI ae ah ab fun aF aG az am an aA ao=>?_
 have av:=ao.ge 6 2 rfl
 refine st_nil (af _ _ ?_)
 refine wp_ret (ret_k am (v:=.bool false) (res_t rfl av _) ?_)
 refine ⟨?_,an⟩
 show Ending.returned (.bool false)=Ending.returned (.bool (mayB a ma && a))
 first|rfl|(simp only [aa,bsm] <;> rfl)|(exfalso; omega)
def clone32_c_P (Au:Option Addr) (u:List Nat) (cu:Nat) (w:World) (en:Ending) (w':World):Prop:=∃ (Ar0:Option Addr) (cr0:Nat),en=.returned (sv Ar0 u cr0)∧SOwn w' w.heap.size 56 .u32 Ar0 u cr0∧New w w'
theorem clone32_c (Au:Option Addr) (u:List Nat) (cu:Nat) (w:World) (hru:SRow w .u32 Au u cu) (hs:u.length≤1000000):Calls Tryz.prog 139 #[sv Au u cu] w (clone32_c_P Au u cu w):=by
 refine enter_abs Tryz.func139 rfl fun a0 ai aR hp=>?_
 have ai:a0.tmps.size=8:=ai
 have aS:New w w:=Upd.refl _ _
 have hp0:a0.eval (.tmp 0)=sv Au u cu:=hp 0 _ rfl
 refine wp_seq_k fun K1 aT=>?_
 refine wp_g0 [true] [] 8
   [ve (sv none ([]) 0)] ai (.eq (.nil)) ?_ ?_
 exact .t (fun _ w hn k=>⟨_,v_assign rfl rfl,rfl⟩) .nil
 refine aftI ai aR aS fun a2 w3 au aU aV ba aW=>?_
 have h8:=aW.fx 0 hp0
 refine st_nil (aT _ _ (wp_seq_k fun bb aA=>?_))
 refine wp_seq_k fun bd aB=>?_
 refine wp_g0 [true,true] [] 8
   [ve (sv Au u cu),ve (.bool Au.isNone)] au (.eq (.eq (.nil))) ?_ ?_
 exact .m (fun k=>k.fx 0 h8)<| .t (fun _ w hn k=>⟨_,v_bin rfl (k.eq1 0 3 rfl) rfl (fun _=>rfl) (fun W=>Lib.run_eql_slice_nil W _ _ _ _ _ _ _ Tryz.underlying24),rfl⟩) .nil
 refine aftI au aU aV fun be av ae aj ag a5 ak=>?_
 have aX:=ak.fx 0 h8
 have aw:=ak.ge 1 4 rfl
 refine st_nil (aB _ _ ?_)
 rcases bc (Au.isNone) with af|af
 have aC:=hB aw af
 refine wp_cond_true aC ?_
 refine wp_seq_k fun bf aD=>?_
 refine wp_g0 [true] [] 8
   [ve (sv none ([]) 0)] ae (.eq (.nil)) ?_ ?_
 exact .t (fun _ w hn k=>⟨_,v_assign rfl rfl,rfl⟩) .nil
 refine aftI ae aj ag fun bg bh a6 aE aF a7 aG=>?_
 have aY:=aG.ge 0 2 rfl
 refine st_nil (aD _ _ ?_)
 refine wp_ret (ret_k aE (v:=sv none ([]) 0) (res_t rfl aY _) ?_)
 have ax:=row_none hru af
 exact⟨none,0,by rw [ax],by rw [ax]; exact SOwn.nil _ _ _ _,aF⟩
 have aH:=hB aw af
 refine wp_cond_false aH ?_
 refine wp_skip ?_
 refine aA _ _ ?_
 refine wp_seq_k fun bi aI=>?_
 refine wp_g0 [true,true,false,false] [(2,false),(3,true)] 8
   [(OP av.heap.size 56 .u32 ([])),ve (sv Au u cu),vt,vt] ae (.cons (fun _ _ _ n ⟨_,_,e,h⟩=>⟨_,_,e,h.new_ n⟩) (.eq (.tt (.tt (.nil))))) ?_ ?_
 refine .o1 (tkA rfl (noG rfl) fun _ w hn k=>(by
       exact x_bslice0 .u32 rfl parts0 elW fun A1 c2 W' hmo=>⟨A1,c2,rfl,(hmo.more hn.size)⟩)) ?_
 exact .m (fun k=>k.fx 0 aX)<| .off<| .off .nil
 refine aftI ae aj ag fun al bj am aJ ah a8 an=>?_
 obtain⟨aZ,aK,ao,aL⟩:=an.G 0 5
 have ao:al.eval (.tmp 5)=sv aZ ([]) aK:=ao
 have ay:=an.ge 1 6 rfl
 have ap:=aL.more ag.size
 have hw55:=ah.size
 refine st_act rfl rfl fun bk aM=>a_append (k:=.u32) (b:=w.heap.size) rfl elW ao ap ay (hru.new_ ah) (by first|omega|(simp only [List.length_nil,List.length_cons,List.length_append,List.length_take,List.length_drop,List.length_replicate,List.length_set]; omega)) (by first|omega|(simp only [List.length_nil,List.length_cons,List.length_append,List.length_take,List.length_drop,List.length_replicate,List.length_set]; omega)) hw55 fun ab aa bl aN hg51=>aM _ _ trivial ?_
 have aO:=ah.ownGrown ap hg51
 obtain⟨aq,ad⟩:∃ a',a'=al.put (some 7) (sv ab ([] ++ u) aa):=⟨_,rfl⟩
 have ar:=pz ad am
 have aP:=pd ad aJ
 have a1:=pn ad ay (by decide)
 have az:aq.eval (.tmp 7)=sv ab ([] ++ u) aa:=by rw [ad]; exact put_same _ _ _ (by rw [am]; decide)
 show stepsTo _ _ _ _ _ (al.put (some 7) (sv ab ([] ++ u) aa)) _
 rw [← ad]
 refine st_take rfl rfl (y_assign (v:=sv ab ([] ++ u) aa) rfl az) rfl ?_
 obtain⟨a3,ac⟩:∃ a',a'=aq.put (some 2) (sv ab ([] ++ u) aa):=⟨_,rfl⟩
 have a9:=pz ac ar
 have aQ:=pd ac aP
 have bm:=pn ac a1 (by decide)
 have bn:=pn ac az (by decide)
 have a4:a3.eval (.tmp 2)=sv ab ([] ++ u) aa:=by rw [ac]; exact put_same _ _ _ (by rw [ar]; decide)
 show stepsTo _ _ _ _ _ (aq.put (some 2) (sv ab ([] ++ u) aa)) _
 rw [← ac]
 refine st_nil (aI _ _ ?_)
 refine wp_ret (ret_k aQ (v:=sv ab ([] ++ u) aa) (res_t rfl a4 _) ?_)
 exact⟨ab,aa,by rw [List.nil_append],by have h:=aN; rw [List.nil_append] at h; exact h,aO⟩
def clone16_c_P (Au:Option Addr) (u:List Nat) (cu:Nat) (w:World) (en:Ending) (w':World):Prop:=∃ (Ar0:Option Addr) (cr0:Nat),en=.returned (sv Ar0 u cr0)∧SOwn w' w.heap.size 74 .u16 Ar0 u cr0∧New w w'
theorem clone16_c (Au:Option Addr) (u:List Nat) (cu:Nat) (w:World) (hru:SRow w .u16 Au u cu) (hs:u.length≤1000000):Calls Tryz.prog 51 #[sv Au u cu] w (clone16_c_P Au u cu w):=by
 refine enter_abs Tryz.func51 rfl fun a0 ai aR hp=>?_
 have ai:a0.tmps.size=8:=ai
 have aS:New w w:=Upd.refl _ _
 have hp0:a0.eval (.tmp 0)=sv Au u cu:=hp 0 _ rfl
 refine wp_seq_k fun K1 aT=>?_
 refine wp_g0 [true] [] 8
   [ve (sv none ([]) 0)] ai (.eq (.nil)) ?_ ?_
 exact .t (fun _ w hn k=>⟨_,v_assign rfl rfl,rfl⟩) .nil
 refine aftI ai aR aS fun a2 w3 au aU aV ba aW=>?_
 have h8:=aW.fx 0 hp0
 refine st_nil (aT _ _ (wp_seq_k fun bb aA=>?_))
 refine wp_seq_k fun bd aB=>?_
 refine wp_g0 [true,true] [] 8
   [ve (sv Au u cu),ve (.bool Au.isNone)] au (.eq (.eq (.nil))) ?_ ?_
 exact .m (fun k=>k.fx 0 h8)<| .t (fun _ w hn k=>⟨_,v_bin rfl (k.eq1 0 3 rfl) rfl (fun _=>rfl) (fun W=>Lib.run_eql_slice_nil W _ _ _ _ _ _ _ Tryz.underlying27),rfl⟩) .nil
 refine aftI au aU aV fun be av ae aj ag a5 ak=>?_
 have aX:=ak.fx 0 h8
 have aw:=ak.ge 1 4 rfl
 refine st_nil (aB _ _ ?_)
 rcases bc (Au.isNone) with af|af
 have aC:=hB aw af
 refine wp_cond_true aC ?_
 refine wp_seq_k fun bf aD=>?_
 refine wp_g0 [true] [] 8
   [ve (sv none ([]) 0)] ae (.eq (.nil)) ?_ ?_
 exact .t (fun _ w hn k=>⟨_,v_assign rfl rfl,rfl⟩) .nil
 refine aftI ae aj ag fun bg bh a6 aE aF a7 aG=>?_
 have aY:=aG.ge 0 2 rfl
 refine st_nil (aD _ _ ?_)
 refine wp_ret (ret_k aE (v:=sv none ([]) 0) (res_t rfl aY _) ?_)
 have ax:=row_none hru af
 exact⟨none,0,by rw [ax],by rw [ax]; exact SOwn.nil _ _ _ _,aF⟩
 have aH:=hB aw af
 refine wp_cond_false aH ?_
 refine wp_skip ?_
 refine aA _ _ ?_
 refine wp_seq_k fun bi aI=>?_
 refine wp_g0 [true,true,false,false] [(2,false),(3,true)] 8
   [(OP av.heap.size 74 .u16 ([])),ve (sv Au u cu),vt,vt] ae (.cons (fun _ _ _ n ⟨_,_,e,h⟩=>⟨_,_,e,h.new_ n⟩) (.eq (.tt (.tt (.nil))))) ?_ ?_
 refine .o1 (tkA rfl (noG rfl) fun _ w hn k=>(by
       exact x_bslice0 .u16 rfl parts0 elU fun A1 c2 W' hmo=>⟨A1,c2,rfl,(hmo.more hn.size)⟩)) ?_
 exact .m (fun k=>k.fx 0 aX)<| .off<| .off .nil
 refine aftI ae aj ag fun al bj am aJ ah a8 an=>?_
 obtain⟨aZ,aK,ao,aL⟩:=an.G 0 5
 have ao:al.eval (.tmp 5)=sv aZ ([]) aK:=ao
 have ay:=an.ge 1 6 rfl
 have ap:=aL.more ag.size
 have hw55:=ah.size
 refine st_act rfl rfl fun bk aM=>a_append (k:=.u16) (b:=w.heap.size) rfl elU ao ap ay (hru.new_ ah) (by first|omega|(simp only [List.length_nil,List.length_cons,List.length_append,List.length_take,List.length_drop,List.length_replicate,List.length_set]; omega)) (by first|omega|(simp only [List.length_nil,List.length_cons,List.length_append,List.length_take,List.length_drop,List.length_replicate,List.length_set]; omega)) hw55 fun ab aa bl aN hg51=>aM _ _ trivial ?_
 have aO:=ah.ownGrown ap hg51
 obtain⟨aq,ad⟩:∃ a',a'=al.put (some 7) (sv ab ([] ++ u) aa):=⟨_,rfl⟩
 have ar:=pz ad am
 have aP:=pd ad aJ
 have a1:=pn ad ay (by decide)
 have az:aq.eval (.tmp 7)=sv ab ([] ++ u) aa:=by rw [ad]; exact put_same _ _ _ (by rw [am]; decide)
 show stepsTo _ _ _ _ _ (al.put (some 7) (sv ab ([] ++ u) aa)) _
 rw [← ad]
 refine st_take rfl rfl (y_assign (v:=sv ab ([] ++ u) aa) rfl az) rfl ?_
 obtain⟨a3,ac⟩:∃ a',a'=aq.put (some 2) (sv ab ([] ++ u) aa):=⟨_,rfl⟩
 have a9:=pz ac ar
 have aQ:=pd ac aP
 have bm:=pn ac a1 (by decide)
 have bn:=pn ac az (by decide)
 have a4:a3.eval (.tmp 2)=sv ab ([] ++ u) aa:=by rw [ac]; exact put_same _ _ _ (by rw [ar]; decide)
 show stepsTo _ _ _ _ _ (aq.put (some 2) (sv ab ([] ++ u) aa)) _
 rw [← ac]
 refine st_nil (aI _ _ ?_)
 refine wp_ret (ret_k aQ (v:=sv ab ([] ++ u) aa) (res_t rfl a4 _) ?_)
 exact⟨ab,aa,by rw [List.nil_append],by have h:=aN; rw [List.nil_append] at h; exact h,aO⟩
def bmag_c_P (a:Bool) (Aa:Option Addr) (ma:List Nat) (ca:Nat) (w:World) (en:Ending) (w':World):Prop:=∃ (Ar0:Option Addr) (cr0:Nat),en=.returned (sv Ar0 (canon (goodI a ma).natAbs) cr0)∧SOwn w' w.heap.size 56 .u32 Ar0 (canon (goodI a ma).natAbs) cr0∧New w w'
theorem bmag_c (a:Bool) (Aa:Option Addr) (ma:List Nat) (ca:Nat) (w:World) (hra:SRow w .u32 Aa ma ca) (ha:Limbs ma) (hs:ma.length≤1000000):Calls Tryz.prog 86 #[.agg #[.bool a,sv Aa ma ca]] w (bmag_c_P a Aa ma ca w):=by
 refine enter_abs Tryz.func86 rfl fun a0 af aL hp=>?_
 have af:a0.tmps.size=9:=af
 have ap:New w w:=Upd.refl _ _
 have hp0:a0.eval (.tmp 0)=.agg #[.bool a,sv Aa ma ca]:=hp 0 _ rfl
 refine wp_seq_k fun K1 aM=>?_
 refine wp_g [true,true] [] [] 9
   [IsNew w 26 [.bool a,sv Aa ma ca],ve (sv none ([]) 0)]
   [0] (newsCons (fun v w h=>IsNew.old h) newsNil) af (.nw (.eq (.nil))) ?_ (fun i h=>by cases h) ?_
 exact .o2 (step_allocN (cs:=[.bool a,sv Aa ma ca]) (t:=26) rfl (noG rfl) (fun _ w hn k=>v_box rfl (k.fx 0 hp0) (fun w=>rfl)) (fun q _ hq hb=>⟨q,rfl,hq,hb⟩))<| .t (fun _ w hn k=>⟨_,v_assign rfl rfl,rfl⟩) .nil
 refine aftI af aL ap fun a2 w3 ag aq ab a3 aN=>?_
 obtain⟨q9,h8,ar,ac⟩:=aN.G 0 1
 have aV:=Nat.le_trans ap.size ar
 refine st_nil (aM _ _ (wp_seq_k fun a4 au=>?_))
 refine wp_seq_k fun a5 aj=>?_
 rcases bc (mayB a ma) with aa|aa
 refine wp_g0 [true,true,true] [] 9
   [ve (.agg #[.bool a,sv Aa ma ca]),vT,vF] ag (.eq (.eq (.eq (.nil)))) ?_ ?_
 exact .t (fun _ w hn k=>⟨_,v_load rfl (k.fx 1 h8) (l_two Tryz.isAgg26 Tryz.sizeOf26 (ac.new_ hn)),rfl⟩)<| .o1 (ck rfl rfl rfl (fun _ w hn k=>⟨#[.agg #[.bool a,sv Aa ma ca]],args1 (k.eq1 0 3 rfl),fun _=>by kernel_rfl,bmay_c a _ ma _ _ (hra.new_ (ab.transNew hn))⟩) fun _=>congrArg Value.bool aa)<| .t (fun _ w hn k=>⟨_,v_not rfl (k.eq1 1 4 rfl),rfl⟩) .nil
 refine aftI ag aq ab fun a6 ah ak av ae aw al=>?_
 have aO:=al.fx 1 h8
 have aP:=al.ge 2 5 rfl
 have ax:=ac.new_ aw
 refine st_nil (aj _ _ ?_)
 refine wp_cond_false aP ?_
 refine wp_skip ?_
 refine au _ _ ?_
 refine wp_seq_k fun a7 ay=>?_
 refine wp_g0 [true,true,true,true] [] 9
   [ve (.pointer (some ⟨q9,1,none⟩)),ve (sv Aa ma ca),
    (OP ah.heap.size 56 .u32 ma),
    (OP ah.heap.size 56 .u32 ma)] ak (.eq (.eq (.cons (fun _ _ _ n ⟨_,_,e,h⟩=>⟨_,_,e,h.new_ n⟩) (.cons (fun _ _ _ n ⟨_,_,e,h⟩=>⟨_,_,e,h.new_ n⟩) (.nil))))) ?_ ?_
 refine .f (fun k=>k.fx 1 aO)<| .t (fun _ w hn k=>⟨_,v_load rfl (k.eq1 0 6 rfl) (l_one Tryz.isAgg24 ((ax.new_ hn).cell 1)),rfl⟩) ?_
 refine .o1 (tkC rfl (noG rfl) rfl fun _ w hn k=>(by
       refine ⟨#[sv Aa ma ca],_,args1 (k.eq1 1 7 rfl),fun w=>by kernel_rfl,clone32_c _ ma _ _ (hra.new_ (ae.transNew hn)) (by first|omega|(simp only [List.length_nil,List.length_take,List.length_drop]; omega)|(simp only [List.length_cons,List.length_nil]; omega)),?_⟩
       rintro e w' ⟨A1,c2,rfl,hmo0,hm⟩
       exact⟨_,rfl,hm,⟨A1,c2,rfl,(hmo0.more hn.size)⟩⟩)) ?_
 refine .o1 (tk rfl rfl fun _ w hn k=>(by
       obtain⟨A5,c6,e7,aR⟩:(OP ah.heap.size 56 .u32 ma) _ _:=k.dep 2 8 (by kernel_rfl) (by kernel_rfl)
       exact⟨_,v_assign rfl e7,⟨A5,c6,rfl,aR⟩⟩)) ?_
 exact .nil
 refine aftI ak av ae fun aS a8 aW az aA aX aB=>?_
 obtain⟨ai,ad,am,aC⟩:=aB.G 3 2
 have am:aS.eval (.tmp 2)=sv ai ma ad:=am
 have aD:=aC.more ae.size
 refine st_nil (ay _ _ ?_)
 refine wp_ret (ret_k az (v:=sv ai ma ad) (res_t rfl am _) ?_)
 have hg:=canon_good (b:=a) ha
 rw [aa] at hg
 exact⟨ai,ad,congrArg (fun l=>Ending.returned (sv ai l ad)) hg.symm,by rw [hg]; exact aD,aA⟩
 refine wp_g0 [true,true,true] [] 9
   [ve (.agg #[.bool a,sv Aa ma ca]),vF,vT] ag (.eq (.eq (.eq (.nil)))) ?_ ?_
 exact .t (fun _ w hn k=>⟨_,v_load rfl (k.fx 1 h8) (l_two Tryz.isAgg26 Tryz.sizeOf26 (ac.new_ hn)),rfl⟩)<| .o1 (ck rfl rfl rfl (fun _ w hn k=>⟨#[.agg #[.bool a,sv Aa ma ca]],args1 (k.eq1 0 3 rfl),fun _=>by kernel_rfl,bmay_c a _ ma _ _ (hra.new_ (ab.transNew hn))⟩) fun _=>congrArg Value.bool aa)<| .t (fun _ w hn k=>⟨_,v_not rfl (k.eq1 1 4 rfl),rfl⟩) .nil
 refine aftI ag aq ab fun a9 ba an aE aF aG ao=>?_
 have bb:=ao.fx 1 h8
 have aT:=ao.ge 2 5 rfl
 have aY:=ac.new_ aG
 refine st_nil (aj _ _ ?_)
 refine wp_cond_true aT ?_
 refine wp_seq_k fun bd aH=>?_
 refine wp_g0 [true] [] 9
   [ve (sv none ([]) 0)] an (.eq (.nil)) ?_ ?_
 exact .t (fun _ w hn k=>⟨_,v_assign rfl rfl,rfl⟩) .nil
 refine aftI an aE aF fun be bf aZ aI aJ a1 aK=>?_
 have aU:=aK.ge 0 2 rfl
 refine st_nil (aH _ _ ?_)
 refine wp_ret (ret_k aI (v:=sv none ([]) 0) (res_t rfl aU _) ?_)
 have hg:=canon_good (b:=a) ha
 rw [aa] at hg
 exact⟨none,0,congrArg (fun l=>Ending.returned (sv none l 0)) hg.symm,by rw [hg]; exact (SOwn.nil _ _ _ _),aJ⟩
def bmade_c_P (Am:Option Addr) (m:List Nat) (cm:Nat) (d:Bool) (w:World) (en:Ending) (w':World):Prop:=∃ (Ar0:Option Addr) (cr0:Nat),en=.returned (.agg #[.bool (decide (sgn d (val m) < 0)),sv Ar0 (canon (sgn d (val m)).natAbs) cr0])∧SRow w' .u32 Ar0 (canon (sgn d (val m)).natAbs) cr0∧New w w'
theorem bmade_c (Am:Option Addr) (m:List Nat) (cm:Nat) (d:Bool) (w:World) (hrm:SRow w .u32 Am m cm) (hl:Limbs m):Calls Tryz.prog 85 #[sv Am m cm,.bool d] w (bmade_c_P Am m cm d w):=by
 refine enter_abs Tryz.func85 rfl fun a0 ah bh hp=>?_
 have ah:a0.tmps.size=14:=ah
 have aC:New w w:=Upd.refl _ _
 have hp0:a0.eval (.tmp 0)=sv Am m cm:=hp 0 _ rfl
 have hp1:a0.eval (.tmp 1)=.bool d:=hp 1 _ rfl
 refine wp_seq_k fun K1 bi=>?_
 refine wp_g [true] [] [] 14
   [IsNew w 26 [.bool false,sv none ([]) 0]]
   [0] (newsCons (fun v w h=>IsNew.old h) newsNil) ah (.nw (.nil)) ?_ (fun i h=>by cases h) ?_
 exact .o2 (step_allocN (cs:=[.bool false,sv none ([]) 0]) (t:=26) rfl (noG rfl) (fun _ w hn k=>rfl) (fun q _ hq hb=>⟨q,rfl,hq,hb⟩)) .nil
 refine aftI ah bh aC fun a2 w3 aD bj aj bA ak=>?_
 have h8:=ak.fx 0 hp0
 have h9:=ak.fx 1 hp1
 obtain⟨bB,bk,aJ,aK⟩:=ak.G 0 4
 have bu:=Nat.le_trans aC.size aJ
 refine st_nil (bi _ _ (wp_seq_k fun bC aL=>?_))
 refine wp_g0 [true,true,false] [(2,true)] 14
   [ve (sv Am m cm),
    (RP .u32 (canon (val m))),vt] aD (.eq (.cons (fun _ _ _ n ⟨_,_,e,h⟩=>⟨_,_,e,h.new_ n⟩) (.tt (.nil)))) ?_ ?_
 refine .m (fun k=>k.fx 0 h8) ?_
 refine .o1 (tkC rfl (noG rfl) rfl fun _ w hn k=>(by
       refine ⟨#[sv Am m cm],_,args1 (k.eq1 0 5 rfl),fun w=>by kernel_rfl,btrim_c _ m _ _ (hrm.new_ (aj.transNew hn)) hl,?_⟩
       rintro e w' ⟨A1,c2,rfl,hmo0,hm⟩
       exact⟨_,rfl,hm,⟨A1,c2,rfl,hmo0⟩⟩)) ?_
 exact .off .nil
 refine aftI aD bj aj fun al bD am aM aN aO ae=>?_
 have bE:=ae.fx 0 h8
 have bl:=ae.fx 1 h9
 have bm:=ae.fx 4 bk
 obtain⟨ab,aa,ai,aP⟩:=ae.G 1 6
 have ai:al.eval (.tmp 6)=sv ab (canon (val m)) aa:=ai
 have aQ:=aK.new_ aO
 refine st_take rfl rfl (y_assign (v:=sv ab (canon (val m)) aa) rfl ai) rfl ?_
 obtain⟨bn,ad⟩:∃ a',a'=al.put (some 0) (sv ab (canon (val m)) aa):=⟨_,rfl⟩
 have an:=pz ad am
 have aR:=pd ad aM
 have bo:=pn ad bl (by decide)
 have bp:=pn ad bm (by decide)
 have bF:=pn ad ai (by decide)
 have aE:bn.eval (.tmp 0)=sv ab (canon (val m)) aa:=by rw [ad]; exact put_same _ _ _ (by rw [am]; decide)
 show stepsTo _ _ _ _ _ (al.put (some 0) (sv ab (canon (val m)) aa)) _
 rw [← ad]
 refine st_nil (aL _ _ (wp_seq_k fun bG aS=>?_))
 refine wp_seq_k fun bH aT=>?_
 refine wp_g0 [true,true,true] [] 14
   [ve (sv ab (canon (val m)) aa),ve (iv ((canon (val m)).length:Int)),ve (.bool (decide (((canon (val m)).length:Int)=0)))] an (.eq (.eq (.eq (.nil)))) ?_ ?_
 exact .m (fun k=>k.fx 0 aE)<| .t (fun _ w hn k=>⟨_,v_lenR rfl elW (k.eq1 0 7 rfl),rfl⟩)<| .t (fun _ w hn k=>⟨_,v_bin rfl (k.eq1 1 8 rfl) rfl (fun _=>rfl) (r_eql rfl),rfl⟩) .nil
 refine aftI an aR aN fun bI bJ af ao ap aq ag=>?_
 have bq:=ag.fx 1 bo
 have aF:=ag.fx 4 bp
 have br:=ag.fx 0 aE
 have aG:=ag.ge 2 9 rfl
 have ar:=aQ.new_ aq
 have aU:=aP.new_ aq
 refine st_nil (aT _ _ ?_)
 rcases bc (decide (((canon (val m)).length:Int)=0)) with ac|ac
 have az:=oT ac
 have aV:=hB aG ac
 refine wp_cond_true aV ?_
 refine wp_seq_k fun bK aW=>?_
 refine wp_g0 [true,false] [(1,false)] 14
   [ve (.agg #[.bool false,sv none ([]) 0]),vt] af (.eq (.tt (.nil))) ?_ ?_
 exact .t (fun _ w hn k=>⟨_,v_build (ps:=[]) rfl parts0 (by kernel_rfl),rfl⟩)<| .off .nil
 refine aftI af ao ap fun bL bM bv aX aY aZ au=>?_
 have aH:=au.fx 4 aF
 have bs:=au.ge 0 10 rfl
 have a1:=ar.new_ aZ
 obtain⟨bN,-,aA,a3,a4,bw⟩:=s_two (v0:=.bool false) (v1:=sv none ([]) 0) Tryz.sizeOf26 rfl rfl rfl a1
 refine st_act rfl rfl fun bO a5=>a_store' rfl aH bs aA (a5 _ _ trivial ?_)
 have a6:=aY.trans a4 (fun _ h b=>by subst b; omega)
 refine st_nil (aW _ _ ?_)
 refine wp_ret (ret_k aX (v:=.agg #[.bool false,sv none ([]) 0]) (res_c rfl aH (l_two Tryz.isAgg26 Tryz.sizeOf26 a3)) ?_)
 have hz1:(decide (sgn d (val m) < 0))=false:=by rw [made_zero ac]; rfl
 have hz2:canon (sgn d (val m)).natAbs=[]:=by rw [made_zero ac]; exact canon_zero
 exact⟨none,0,by rw [hz1,hz2],by rw [hz2]; exact (SRow.nil _ _),a6⟩
 have az:=oF ac
 have a7:=hB aG ac
 refine wp_cond_false a7 ?_
 refine wp_skip ?_
 refine aS _ _ ?_
 refine wp_seq_k fun bP a8=>?_
 refine wp_g0 [true,true,true,false] [(3,false)] 14
   [ve (.bool d),ve (sv ab (canon (val m)) aa),ve (.agg #[.bool d,sv ab (canon (val m)) aa]),vt] af (.eq (.eq (.eq (.tt (.nil))))) ?_ ?_
 exact .m (fun k=>k.fx 1 bq)<| .m (fun k=>k.fx 0 br)<| .t (fun _ w hn k=>⟨_,v_build (ps:=[(0,.bool d),(1,sv ab (canon (val m)) aa)]) rfl (parts2 (k.eq1 0 11 rfl) (k.eq1 1 12 rfl)) (by kernel_rfl),rfl⟩)<| .off .nil
 refine aftI af ao ap fun bQ bR bx a9 ba av aw=>?_
 have aI:=aw.fx 4 aF
 have bt:=aw.ge 2 13 rfl
 have ax:=ar.new_ av
 have bb:=aU.new_ av
 obtain⟨bS,-,aB,bd,ay,bz⟩:=s_two (v0:=.bool d) (v1:=sv ab (canon (val m)) aa) Tryz.sizeOf26 rfl rfl rfl ax
 refine st_act rfl rfl fun bT be=>a_store' rfl aI bt aB (be _ _ trivial ?_)
 have bf:=bb.fr ax ay
 have bg:=ba.trans ay (fun _ h b=>by subst b; omega)
 refine st_nil (a8 _ _ ?_)
 refine wp_ret (ret_k a9 (v:=.agg #[.bool d,sv ab (canon (val m)) aa]) (res_c rfl aI (l_two Tryz.isAgg26 Tryz.sizeOf26 bd)) ?_)
 have hz1:(decide (sgn d (val m) < 0))=d:=made_nz ac
 have hz2:canon (sgn d (val m)).natAbs=(canon (val m)):=by rw [natAbs_sgn]
 exact⟨ab,aa,by rw [hz1,hz2],by rw [hz2]; exact bf,bg⟩
theorem bcmp_c (Aa:Option Addr) (a:List Nat) (ca:Nat) (Ab:Option Addr) (b:List Nat) (cb:Nat) (w:World) (hra:SRow w .u32 Aa a ca) (hrb:SRow w .u32 Ab b cb) (ha:Limbs a) (hb:Limbs b) (hta:Trim a) (htb:Trim b):Calls Tryz.prog 120 #[sv Aa a ca,sv Ab b cb] w (IsRet (iv (cmpI (val a) (val b))) w):=by
 refine enter_abs Tryz.func120 rfl fun a0 au bS hp=>?_
 have au:a0.tmps.size=45:=au
 have bT:New w w:=Upd.refl _ _
 have hp0:a0.eval (.tmp 0)=sv Aa a ca:=hp 0 _ rfl
 have hp1:a0.eval (.tmp 1)=sv Ab b cb:=hp 1 _ rfl
 have hmx:=hra.max
 have hmy:=hrb.max
 refine wp_seq_k fun K1 bU=>?_
 refine wp_g0 [true] [] 45
   [ve (iv 0)] au (.eq (.nil)) ?_ ?_
 exact .t (fun _ w hn k=>⟨_,v_assign rfl rfl,rfl⟩) .nil
 refine aftI au bS bT fun a2 w3 av a7 aB c4 a8=>?_
 have h8:=a8.fx 0 hp0
 have h9:=a8.fx 1 hp1
 refine st_nil (bU _ _ (wp_seq_k fun c5 bf=>?_))
 refine wp_seq_k fun c6 aC=>?_
 rcases bc (decide ((a.length:Int)=(b.length:Int))) with af|af
 have aO:=oT af
 refine wp_g0 [true,true,true,true,true] [] 45
   [ve (sv Aa a ca),ve (iv (a.length:Int)),ve (sv Ab b cb),ve (iv (b.length:Int)),vF] av (.eq (.eq (.eq (.eq (.eq (.nil)))))) ?_ ?_
 exact .m (fun k=>k.fx 0 h8)<| .t (fun _ w hn k=>⟨_,v_lenR rfl elW (k.eq1 0 6 rfl),rfl⟩)<| .m (fun k=>k.fx 1 h9)<| .t (fun _ w hn k=>⟨_,v_lenR rfl elW (k.eq1 2 8 rfl),rfl⟩)<| .t (fun _ w hn k=>⟨_,v_bin rfl (k.eq1 1 7 rfl) (k.eq1 3 9 rfl) (fun _=>rfl) (r_neq af),rfl⟩) .nil
 refine aftI av a7 aB fun c8 c9 aD bg bh cL aq=>?_
 have a9:=aq.fx 0 h8
 have bV:=aq.fx 1 h9
 have bW:=aq.ge 4 10 rfl
 refine st_nil (aC _ _ ?_)
 refine wp_cond_false bW ?_
 refine wp_skip ?_
 refine bf _ _ ?_
 refine wp_seq_k fun da bi=>?_
 refine wp_seq_k fun db bj=>?_
 refine wp_g0 [true,true,true,true] [] 45
   [ve (sv Aa a ca),ve (iv (a.length:Int)),ve (iv ((a.length:Int) - 1)),ve (iv ((a.length:Int) - 1))] aD (.eq (.eq (.eq (.eq (.nil))))) ?_ ?_
 exact .m (fun k=>k.fx 0 a9)<| .t (fun _ w hn k=>⟨_,v_lenR rfl elW (k.eq1 0 17 rfl),rfl⟩)<| .t (fun _ w hn k=>⟨_,v_bin rfl (k.eq1 1 18 rfl) rfl (fun _=>rfl) (r_sub rfl (by omega)),rfl⟩)<| .a (fun k=>k.eq1 2 19 rfl) .nil
 refine aftI aD bg bh fun dc dd bk bl bm cM ar=>?_
 have bX:=ar.fx 0 a9
 have bY:=ar.fx 1 bV
 have bZ:=ar.ge 3 5 rfl
 refine st_nil (bj _ _ ?_)
 refine wp_block ?_
 refine wp_loopX (fun (mm:Nat) (aa:Act) (ww:World)=>∃ (n:Nat),mm=n∧aa.tmps.size=45∧aa.defers=[]∧New w ww∧aa.eval (.tmp 5)=iv ((n:Int) - 1)∧aa.eval (.tmp 0)=sv Aa a ca∧aa.eval (.tmp 1)=sv Ab b cb∧(n≤a.length)∧(Above a b n)) (fun mm=>mm) ⟨_,⟨a.length,rfl,bk,bl,bm,bZ,bX,bY,(Nat.le_refl _),(above_of_eqlen (by omega))⟩⟩ ?_
 rintro mm de df ⟨n,hmm,ai,aE,aF,aw,ba,bb,hn,hab⟩
 refine wp_seq_k fun dg bn=>?_
 refine wp_seq_k fun dh aG=>?_
 rcases bc (decide (((n:Int) - 1) < 0)) with ag|ag
 have aP:=oT ag
 refine wp_g0 [true,true] [] 45
   [ve (iv ((n:Int) - 1)),vF] ai (.eq (.eq (.nil))) ?_ ?_
 exact .m (fun k=>k.fx 5 aw)<| .t (fun _ w hn k=>⟨_,v_bin rfl (k.eq1 0 20 rfl) rfl (fun _=>rfl) (r_geqK ag),rfl⟩) .nil
 refine aftI ai aE aF fun di dj aH bo bp cN aj=>?_
 have dk:=aj.fx 5 aw
 have dl:=aj.fx 0 ba
 have dm:=aj.fx 1 bb
 have b0:=aj.ge 1 21 rfl
 refine st_nil (aG _ _ ?_)
 refine wp_cond_false b0 ?_
 refine wp_exit ?_
 refine bi _ _ ?_
 refine wp_seq_k fun dn bq=>?_
 refine wp_g0 [true] [] 45
   [ve (iv 0)] aH (.eq (.nil)) ?_ ?_
 exact .t (fun _ w hn k=>⟨_,v_assign rfl rfl,rfl⟩) .nil
 refine aftI aH bo bp fun dp dq cO br bs cP bt=>?_
 have b1:=bt.ge 0 4 rfl
 refine st_nil (bq _ _ ?_)
 refine wp_ret (ret_k br (v:=iv 0) (res_t rfl b1 _) ?_)
 exact⟨by rw [cmp_same hab (by omega)],bs⟩
 have aP:=oF ag
 refine wp_g0 [true,true] [] 45
   [ve (iv ((n:Int) - 1)),vT] ai (.eq (.eq (.nil))) ?_ ?_
 exact .m (fun k=>k.fx 5 aw)<| .t (fun _ w hn k=>⟨_,v_bin rfl (k.eq1 0 20 rfl) rfl (fun _=>rfl) (r_geqK ag),rfl⟩) .nil
 refine aftI ai aE aF fun dr ds ak aI ad cQ al=>?_
 have ah:=al.fx 5 aw
 have ax:=al.fx 0 ba
 have ay:=al.fx 1 bb
 have b2:=al.ge 1 21 rfl
 refine st_nil (aG _ _ ?_)
 refine wp_cond_true b2 ?_
 refine wp_skip ?_
 refine bn _ _ ?_
 refine wp_seq_k fun dt bu=>?_
 refine wp_block ?_
 refine wp_seq_k fun du aJ=>?_
 rcases bc (decide (((a.getD (((n:Int) - 1:Int).toNat) 0:Nat):Int)=((b.getD (((n:Int) - 1:Int).toNat) 0:Nat):Int))) with ac|ac
 have aQ:=oT ac
 have hai:=ha.at ((n:Int) - 1).toNat
 have hbi:=hb.at ((n:Int) - 1).toNat
 refine wp_g0 (.replicate 9 true) [] 45
   [ve (sv Aa a ca),ve (iv ((n:Int) - 1)),
    (EP (.int .u32 ((a.getD (((n:Int) - 1:Int).toNat) 0:Nat):Int))),ve (.int .u32 ((a.getD (((n:Int) - 1:Int).toNat) 0:Nat):Int)),ve (sv Ab b cb),ve (iv ((n:Int) - 1)),
    (EP (.int .u32 ((b.getD (((n:Int) - 1:Int).toNat) 0:Nat):Int))),ve (.int .u32 ((b.getD (((n:Int) - 1:Int).toNat) 0:Nat):Int)),vF] ak (.eq (.eq (.cons (fun _ _ _ n ⟨_,_,e,h⟩=>⟨_,_,e,h.new_ n⟩) (.eq (.eq (.eq (.cons (fun _ _ _ n ⟨_,_,e,h⟩=>⟨_,_,e,h.new_ n⟩) (.eq (.eq (.nil)))))))))) ?_ ?_
 refine .m (fun k=>k.fx 0 ax)<| .m (fun k=>k.fx 5 ah) ?_
 refine .o1 (tk rfl rfl fun _ w hn k=>(by
       exact x_eaddr (k:=.u32) rfl elW (k.eq1 0 24 rfl) (k.eq1 1 25 rfl) (hra.new_ (ad.transNew hn)) (by omega) fun b7 b8 hme=>⟨b7,b8,rfl,hme⟩)) ?_
 refine .o1 (tk rfl rfl fun _ w hn k=>(by
       obtain⟨dv,dw,b9,bv⟩:(EP (.int .u32 ((a.getD (((n:Int) - 1:Int).toNat) 0:Nat):Int))) _ _:=k.dep 2 26 (by kernel_rfl) (by kernel_rfl)
       exact⟨_,v_load rfl b9 (l_one Tryz.isAgg56 bv.1),rfl⟩)) ?_
 refine .m (fun k=>k.fx 1 ay)<| .m (fun k=>k.fx 5 ah) ?_
 refine .o1 (tk rfl rfl fun _ w hn k=>(by
       exact x_eaddr (k:=.u32) rfl elW (k.eq1 4 28 rfl) (k.eq1 5 29 rfl) (hrb.new_ (ad.transNew hn)) (by omega) fun cc cd hme=>⟨cc,cd,rfl,hme⟩)) ?_
 refine .o1 (tk rfl rfl fun _ w hn k=>(by
       obtain⟨dx,dy,ce,bw⟩:(EP (.int .u32 ((b.getD (((n:Int) - 1:Int).toNat) 0:Nat):Int))) _ _:=k.dep 6 30 (by kernel_rfl) (by kernel_rfl)
       exact⟨_,v_load rfl ce (l_one Tryz.isAgg56 bw.1),rfl⟩)) ?_
 exact .t (fun _ w hn k=>⟨_,v_bin rfl (k.eq1 3 27 rfl) (k.eq1 7 31 rfl) (fun _=>rfl) (r_neq ac),rfl⟩) .nil
 refine aftI ak aI ad fun dz dA aK bx bz cR am=>?_
 have bd:=am.fx 5 ah
 have cf:=am.fx 0 ax
 have ch:=am.fx 1 ay
 have ci:=am.ge 8 32 rfl
 refine st_nil (aJ _ _ ?_)
 refine wp_cond_false ci ?_
 refine wp_skip ?_
 refine bu _ _ ?_
 refine wp_g0 [true,true,false] [(2,true)] 45
   [ve (iv ((n:Int) - 1)),ve (iv (((n:Int) - 1) - 1)),vt] aK (.eq (.eq (.tt (.nil)))) ?_ ?_
 exact .m (fun k=>k.fx 5 bd)<| .t (fun _ w hn k=>⟨_,v_bin rfl (k.eq1 0 22 rfl) rfl (fun _=>rfl) (r_sub rfl (by omega)),rfl⟩)<| .off .nil
 refine aftI aK bx bz fun be dB aL bA aR cS an=>?_
 have dC:=an.fx 5 bd
 have cj:=an.fx 0 cf
 have bB:=an.fx 1 ch
 have aM:=an.ge 1 23 rfl
 refine st_take rfl rfl (y_assign (v:=iv (((n:Int) - 1) - 1)) rfl aM) rfl ?_
 obtain⟨bC,ab⟩:∃ a',a'=be.put (some 5) (iv (((n:Int) - 1) - 1)):=⟨_,rfl⟩
 have aS:=pz ab aL
 have aT:=pd ab bA
 have bD:=pn ab cj (by decide)
 have bE:=pn ab bB (by decide)
 have cT:=pn ab aM (by decide)
 have bF:bC.eval (.tmp 5)=iv (((n:Int) - 1) - 1):=by rw [ab]; exact put_same _ _ _ (by rw [aL]; decide)
 show stepsTo _ _ _ _ _ (be.put (some 5) (iv (((n:Int) - 1) - 1))) _
 rw [← ab]
 refine st_nil ?_
 refine then_n ?_
 exact⟨_,⟨n - 1,rfl,aS,aT,aR,(bF.trans (congrArg (Value.int .i64) (by omega))),bD,bE,(by omega),(above_dn1 hab (by omega) ac)⟩,(by omega)⟩
 have aQ:=oF ac
 have hai:=ha.at ((n:Int) - 1).toNat
 have hbi:=hb.at ((n:Int) - 1).toNat
 refine wp_g0 (.replicate 9 true) [] 45
   [ve (sv Aa a ca),ve (iv ((n:Int) - 1)),
    (EP (.int .u32 ((a.getD (((n:Int) - 1:Int).toNat) 0:Nat):Int))),ve (.int .u32 ((a.getD (((n:Int) - 1:Int).toNat) 0:Nat):Int)),ve (sv Ab b cb),ve (iv ((n:Int) - 1)),
    (EP (.int .u32 ((b.getD (((n:Int) - 1:Int).toNat) 0:Nat):Int))),ve (.int .u32 ((b.getD (((n:Int) - 1:Int).toNat) 0:Nat):Int)),vT] ak (.eq (.eq (.cons (fun _ _ _ n ⟨_,_,e,h⟩=>⟨_,_,e,h.new_ n⟩) (.eq (.eq (.eq (.cons (fun _ _ _ n ⟨_,_,e,h⟩=>⟨_,_,e,h.new_ n⟩) (.eq (.eq (.nil)))))))))) ?_ ?_
 refine .m (fun k=>k.fx 0 ax)<| .m (fun k=>k.fx 5 ah) ?_
 refine .o1 (tk rfl rfl fun _ w hn k=>(by
       exact x_eaddr (k:=.u32) rfl elW (k.eq1 0 24 rfl) (k.eq1 1 25 rfl) (hra.new_ (ad.transNew hn)) (by omega) fun cp cq hme=>⟨cp,cq,rfl,hme⟩)) ?_
 refine .o1 (tk rfl rfl fun _ w hn k=>(by
       obtain⟨dD,dE,cr,bG⟩:(EP (.int .u32 ((a.getD (((n:Int) - 1:Int).toNat) 0:Nat):Int))) _ _:=k.dep 2 26 (by kernel_rfl) (by kernel_rfl)
       exact⟨_,v_load rfl cr (l_one Tryz.isAgg56 bG.1),rfl⟩)) ?_
 refine .m (fun k=>k.fx 1 ay)<| .m (fun k=>k.fx 5 ah) ?_
 refine .o1 (tk rfl rfl fun _ w hn k=>(by
       exact x_eaddr (k:=.u32) rfl elW (k.eq1 4 28 rfl) (k.eq1 5 29 rfl) (hrb.new_ (ad.transNew hn)) (by omega) fun cs ct hme=>⟨cs,ct,rfl,hme⟩)) ?_
 refine .o1 (tk rfl rfl fun _ w hn k=>(by
       obtain⟨dF,dG,cu,bH⟩:(EP (.int .u32 ((b.getD (((n:Int) - 1:Int).toNat) 0:Nat):Int))) _ _:=k.dep 6 30 (by kernel_rfl) (by kernel_rfl)
       exact⟨_,v_load rfl cu (l_one Tryz.isAgg56 bH.1),rfl⟩)) ?_
 exact .t (fun _ w hn k=>⟨_,v_bin rfl (k.eq1 3 27 rfl) (k.eq1 7 31 rfl) (fun _=>rfl) (r_neq ac),rfl⟩) .nil
 refine aftI ak aI ad fun cU cV az aU ao cF ae=>?_
 have aN:=ae.fx 5 ah
 have bI:=ae.fx 0 ax
 have bJ:=ae.fx 1 ay
 have bK:=ae.ge 8 32 rfl
 refine st_nil (aJ _ _ ?_)
 refine wp_cond_true bK ?_
 refine wp_seq_k fun cW aV=>?_
 have hai:=ha.at ((n:Int) - 1).toNat
 have hbi:=hb.at ((n:Int) - 1).toNat
 refine wp_g0 (.replicate 13 true) [] 45
   [ve (sv Aa a ca),ve (iv ((n:Int) - 1)),
    (EP (.int .u32 ((a.getD (((n:Int) - 1:Int).toNat) 0:Nat):Int))),ve (.int .u32 ((a.getD (((n:Int) - 1:Int).toNat) 0:Nat):Int)),ve (iv ((a.getD (((n:Int) - 1:Int).toNat) 0:Nat):Int)),ve (sv Ab b cb),ve (iv ((n:Int) - 1)),
    (EP (.int .u32 ((b.getD (((n:Int) - 1:Int).toNat) 0:Nat):Int))),ve (.int .u32 ((b.getD (((n:Int) - 1:Int).toNat) 0:Nat):Int)),ve (iv ((b.getD (((n:Int) - 1:Int).toNat) 0:Nat):Int)),ve (iv (((a.getD (((n:Int) - 1:Int).toNat) 0:Nat):Int) - ((b.getD (((n:Int) - 1:Int).toNat) 0:Nat):Int))),ve (iv (cmpI1 (((a.getD (((n:Int) - 1:Int).toNat) 0:Nat):Int) - ((b.getD (((n:Int) - 1:Int).toNat) 0:Nat):Int)))),ve (iv (cmpI1 (((a.getD (((n:Int) - 1:Int).toNat) 0:Nat):Int) - ((b.getD (((n:Int) - 1:Int).toNat) 0:Nat):Int))))] az (.eq (.eq (.cons (fun _ _ _ n ⟨_,_,e,h⟩=>⟨_,_,e,h.new_ n⟩) (.eq (.eq (.eq (.eq (.cons (fun _ _ _ n ⟨_,_,e,h⟩=>⟨_,_,e,h.new_ n⟩) (.eq (.eq (.eq (.eq (.eq (.nil)))))))))))))) ?_ ?_
 refine .m (fun k=>k.fx 0 bI)<| .m (fun k=>k.fx 5 aN) ?_
 refine .o1 (tk rfl rfl fun _ w hn k=>(by
       exact x_eaddr (k:=.u32) rfl elW (k.eq1 0 33 rfl) (k.eq1 1 34 rfl) (hra.new_ (ao.transNew hn)) (by omega) fun cz cA hme=>⟨cz,cA,rfl,hme⟩)) ?_
 refine .o1 (tk rfl rfl fun _ w hn k=>(by
       obtain⟨dH,dI,cB,bL⟩:(EP (.int .u32 ((a.getD (((n:Int) - 1:Int).toNat) 0:Nat):Int))) _ _:=k.dep 2 35 (by kernel_rfl) (by kernel_rfl)
       exact⟨_,v_load rfl cB (l_one Tryz.isAgg56 bL.1),rfl⟩)) ?_
 refine .t (fun _ w hn k=>⟨_,v_conv rfl (k.eq1 3 36 rfl) (n_conv (by kernel_rfl) (by kernel_rfl) (by kernel_rfl) (IntWalk.i64_in _ (by omega))),rfl⟩)<| .m (fun k=>k.fx 1 bJ)<| .m (fun k=>k.fx 5 aN) ?_
 refine .o1 (tk rfl rfl fun _ w hn k=>(by
       exact x_eaddr (k:=.u32) rfl elW (k.eq1 5 38 rfl) (k.eq1 6 39 rfl) (hrb.new_ (ao.transNew hn)) (by omega) fun cC cD hme=>⟨cC,cD,rfl,hme⟩)) ?_
 refine .o1 (tk rfl rfl fun _ w hn k=>(by
       obtain⟨dJ,dK,cE,bM⟩:(EP (.int .u32 ((b.getD (((n:Int) - 1:Int).toNat) 0:Nat):Int))) _ _:=k.dep 7 40 (by kernel_rfl) (by kernel_rfl)
       exact⟨_,v_load rfl cE (l_one Tryz.isAgg56 bM.1),rfl⟩)) ?_
 exact .t (fun _ w hn k=>⟨_,v_conv rfl (k.eq1 8 41 rfl) (n_conv (by kernel_rfl) (by kernel_rfl) (by kernel_rfl) (IntWalk.i64_in _ (by omega))),rfl⟩)<| .t (fun _ w hn k=>⟨_,v_bin rfl (k.eq1 4 37 rfl) (k.eq1 9 42 rfl) (fun _=>rfl) (r_sub rfl (by omega)),rfl⟩)<| .o1 (ck rfl rfl rfl (fun _ w hn k=>⟨#[iv (((a.getD (((n:Int) - 1:Int).toNat) 0:Nat):Int) - ((b.getD (((n:Int) - 1:Int).toNat) 0:Nat):Int))],args1 (k.eq1 10 43 rfl),fun _=>by kernel_rfl,bsign_c (((a.getD (((n:Int) - 1:Int).toNat) 0:Nat):Int) - ((b.getD (((n:Int) - 1:Int).toNat) 0:Nat):Int)) _ ⟩) fun _=>rfl)<| .a (fun k=>k.eq1 11 44 rfl) .nil
 refine aftI az aU ao fun cX cY cG aW aX cH aY=>?_
 have bN:=aY.ge 12 4 rfl
 refine st_nil (aV _ _ ?_)
 refine wp_ret (ret_k aW (v:=iv (cmpI1 (((a.getD (((n:Int) - 1:Int).toNat) 0:Nat):Int) - ((b.getD (((n:Int) - 1:Int).toNat) 0:Nat):Int)))) (res_t rfl bN _) ?_)
 exact⟨congrArg (fun z=>Ending.returned (iv z)) (cmp_at ha hb hab (by omega) ac),aX⟩
 have aO:=oF af
 refine wp_g0 [true,true,true,true,true] [] 45
   [ve (sv Aa a ca),ve (iv (a.length:Int)),ve (sv Ab b cb),ve (iv (b.length:Int)),vT] av (.eq (.eq (.eq (.eq (.eq (.nil)))))) ?_ ?_
 exact .m (fun k=>k.fx 0 h8)<| .t (fun _ w hn k=>⟨_,v_lenR rfl elW (k.eq1 0 6 rfl),rfl⟩)<| .m (fun k=>k.fx 1 h9)<| .t (fun _ w hn k=>⟨_,v_lenR rfl elW (k.eq1 2 8 rfl),rfl⟩)<| .t (fun _ w hn k=>⟨_,v_bin rfl (k.eq1 1 7 rfl) (k.eq1 3 9 rfl) (fun _=>rfl) (r_neq af),rfl⟩) .nil
 refine aftI av a7 aB fun cZ c0 aA aZ a1 cI ap=>?_
 have bO:=ap.fx 0 h8
 have bP:=ap.fx 1 h9
 have bQ:=ap.ge 4 10 rfl
 refine st_nil (aC _ _ ?_)
 refine wp_cond_true bQ ?_
 refine wp_seq_k fun c1 a3=>?_
 refine wp_g0 [true,true,true,true,true,true,true] [] 45
   [ve (sv Aa a ca),ve (iv (a.length:Int)),ve (sv Ab b cb),ve (iv (b.length:Int)),ve (iv ((a.length:Int) - (b.length:Int))),ve (iv (cmpI1 ((a.length:Int) - (b.length:Int)))),ve (iv (cmpI1 ((a.length:Int) - (b.length:Int))))] aA (.eq (.eq (.eq (.eq (.eq (.eq (.eq (.nil)))))))) ?_ ?_
 exact .m (fun k=>k.fx 0 bO)<| .t (fun _ w hn k=>⟨_,v_lenR rfl elW (k.eq1 0 11 rfl),rfl⟩)<| .m (fun k=>k.fx 1 bP)<| .t (fun _ w hn k=>⟨_,v_lenR rfl elW (k.eq1 2 13 rfl),rfl⟩)<| .t (fun _ w hn k=>⟨_,v_bin rfl (k.eq1 1 12 rfl) (k.eq1 3 14 rfl) (fun _=>rfl) (r_sub rfl (by omega)),rfl⟩)<| .o1 (ck rfl rfl rfl (fun _ w hn k=>⟨#[iv ((a.length:Int) - (b.length:Int))],args1 (k.eq1 4 15 rfl),fun _=>by kernel_rfl,bsign_c ((a.length:Int) - (b.length:Int)) _ ⟩) fun _=>rfl)<| .a (fun k=>k.eq1 5 16 rfl) .nil
 refine aftI aA aZ a1 fun c2 c3 cJ a4 a5 cK a6=>?_
 have bR:=a6.ge 6 4 rfl
 refine st_nil (a3 _ _ ?_)
 refine wp_ret (ret_k a4 (v:=iv (cmpI1 ((a.length:Int) - (b.length:Int)))) (res_t rfl bR _) ?_)
 exact⟨congrArg (fun z=>Ending.returned (iv z)) (cmp_len ha hb hta htb (by omega)),a5⟩
theorem bCmp_c (a:Bool) (Aa:Option Addr) (ma:List Nat) (ca:Nat) (b:Bool) (Ab:Option Addr) (mb:List Nat) (cb:Nat) (w:World) (hra:SRow w .u32 Aa ma ca) (hrb:SRow w .u32 Ab mb cb) (ha:Limbs ma) (hb:Limbs mb) (hsa:ma.length≤1000000) (hsb:mb.length≤1000000):Calls Tryz.prog 152 #[.agg #[.bool a,sv Aa ma ca],.agg #[.bool b,sv Ab mb cb]] w (IsRet (iv (cmpZ (goodI a ma) (goodI b mb))) w):=by
 refine enter_abs Tryz.func152 rfl fun a0 aB cp hp=>?_
 have aB:a0.tmps.size=35:=aB
 have aQ:New w w:=Upd.refl _ _
 have hp0:a0.eval (.tmp 0)=.agg #[.bool a,sv Aa ma ca]:=hp 0 _ rfl
 have hp1:a0.eval (.tmp 1)=.agg #[.bool b,sv Ab mb cb]:=hp 1 _ rfl
 refine wp_seq_k fun K1 cq=>?_
 refine wp_g [true,true,true] [] [] 35
   [IsNew w 26 [.bool a,sv Aa ma ca],IsNew w 26 [.bool b,sv Ab mb cb],ve (iv 0)]
   [0,1] (newsCons (fun v w h=>IsNew.old h) (newsCons (fun v w h=>IsNew.old h) newsNil)) aB (.nw (.nw (.eq (.nil)))) ?_ (fun i h=>by cases h) ?_
 exact .o2 (step_allocN (cs:=[.bool a,sv Aa ma ca]) (t:=26) rfl (noG rfl) (fun _ w hn k=>v_box rfl (k.fx 0 hp0) (fun w=>rfl)) (fun q _ hq hb=>⟨q,rfl,hq,hb⟩))<| .o2 (step_allocN (cs:=[.bool b,sv Ab mb cb]) (t:=26) rfl (noG rfl) (fun _ w hn k=>v_box rfl (k.fx 1 hp1) (fun w=>rfl)) (fun q _ hq hb=>⟨q,rfl,hq,hb⟩))<| .t (fun _ w hn k=>⟨_,v_assign rfl rfl,rfl⟩) .nil
 refine aftI aB cp aQ fun a2 w3 bD cr aq dD bE=>?_
 obtain⟨q9,h8,bI,aR⟩:=bE.G 0 2
 obtain⟨dE,bF,bJ,aS⟩:=bE.G 1 3
 have dd:=Nat.le_trans aQ.size bI
 have de:=Nat.le_trans aQ.size bJ
 refine st_nil (cq _ _ (wp_seq_k fun dF bK=>?_))
 refine wp_g0 [true,true,true,true,true,true] [] 35
   [ve (.agg #[.bool a,sv Aa ma ca]),ve (.bool (mayB a ma && a)),ve (.agg #[.bool b,sv Ab mb cb]),ve (.bool (mayB b mb && b)),ve (.bool (mayB a ma && a)),ve (.bool (mayB b mb && b))] bD (.eq (.eq (.eq (.eq (.eq (.eq (.nil))))))) ?_ ?_
 exact .t (fun _ w hn k=>⟨_,v_load rfl (k.fx 2 h8) (l_two Tryz.isAgg26 Tryz.sizeOf26 (aR.new_ hn)),rfl⟩)<| .o1 (ck rfl rfl rfl (fun _ w hn k=>⟨#[.agg #[.bool a,sv Aa ma ca]],args1 (k.eq1 0 7 rfl),fun _=>by kernel_rfl,bneg_c a _ ma _ _ (hra.new_ (aq.transNew hn))⟩) fun _=>rfl)<| .t (fun _ w hn k=>⟨_,v_load rfl (k.fx 3 bF) (l_two Tryz.isAgg26 Tryz.sizeOf26 (aS.new_ hn)),rfl⟩)<| .o1 (ck rfl rfl rfl (fun _ w hn k=>⟨#[.agg #[.bool b,sv Ab mb cb]],args1 (k.eq1 2 9 rfl),fun _=>by kernel_rfl,bneg_c b _ mb _ _ (hrb.new_ (aq.transNew hn))⟩) fun _=>rfl)<| .a (fun k=>k.eq1 1 8 rfl)<| .a (fun k=>k.eq1 3 10 rfl) .nil
 refine aftI bD cr aq fun dG dH ae ar au aT ak=>?_
 have aU:=ak.fx 2 h8
 have aV:=ak.fx 3 bF
 have bG:=ak.ge 4 5 rfl
 have aW:=ak.ge 5 6 rfl
 have av:=aR.new_ aT
 have aw:=aS.new_ aT
 refine st_nil (bK _ _ (wp_seq_k fun dI bL=>?_))
 refine wp_block ?_
 refine wp_seq_k fun dJ ax=>?_
 rcases bc ((mayB a ma && a)) with aa|aa
 have al:=hB bG aa
 rcases bc ((mayB b mb && b)) with ac|ac
 have aX:=hB aW ac
 refine wp_g0 [true,true,true,true,true,true] [] 35
   [vT,vT,vT,vF,vF,vF] ae (.eq (.eq (.eq (.eq (.eq (.eq (.nil))))))) ?_ ?_
 exact .m (fun k=>k.fx 5 al)<| .m (fun k=>k.eq1 0 12 rfl)<| .gm (fun k=>k.eq1 1 13 rfl) (fun k=>k.fx 6 aX)<| .g (fun k=>k.eq1 1 13 rfl) (fun _ w hn k=>⟨_,v_not rfl (k.eq1 2 14 rfl),rfl⟩)<| .t (fun _ w hn k=>⟨_,v_pickT rfl (k.eq1 1 13 rfl) (k.eq1 3 15 rfl),rfl⟩)<| .a (fun k=>k.eq1 4 16 rfl) .nil
 refine aftI ae ar au fun dK dL aY bM bN aZ ai=>?_
 have ct:=ai.fx 2 aU
 have cu:=ai.fx 3 aV
 have bH:=ai.fx 5 al
 have cv:=ai.fx 6 aX
 have cw:=ai.ge 5 11 rfl
 have bO:=av.new_ aZ
 have bP:=aw.new_ aZ
 refine st_nil (ax _ _ ?_)
 refine wp_cond_false cw ?_
 refine wp_seq_k fun dM bQ=>?_
 refine wp_g0 [true,true,true,true,true,true] [] 35
   [vT,vT,vT,vF,vF,vF] aY (.eq (.eq (.eq (.eq (.eq (.eq (.nil))))))) ?_ ?_
 exact .m (fun k=>k.fx 6 cv)<| .m (fun k=>k.eq1 0 18 rfl)<| .gm (fun k=>k.eq1 1 19 rfl) (fun k=>k.fx 5 bH)<| .g (fun k=>k.eq1 1 19 rfl) (fun _ w hn k=>⟨_,v_not rfl (k.eq1 2 20 rfl),rfl⟩)<| .t (fun _ w hn k=>⟨_,v_pickT rfl (k.eq1 1 19 rfl) (k.eq1 3 21 rfl),rfl⟩)<| .a (fun k=>k.eq1 4 22 rfl) .nil
 refine aftI aY bM bN fun dN dO a1 bR bS a3 am=>?_
 have cx:=am.fx 2 ct
 have cy:=am.fx 3 cu
 have cz:=am.fx 5 bH
 have cA:=am.ge 5 17 rfl
 have bT:=bO.new_ a3
 have bU:=bP.new_ a3
 refine st_nil (bQ _ _ ?_)
 refine wp_cond_false cA ?_
 refine wp_seq_k fun dP bV=>?_
 refine wp_g0 [true,true] [] 35
   [vT,vT] a1 (.eq (.eq (.nil))) ?_ ?_
 exact .m (fun k=>k.fx 5 cz)<| .a (fun k=>k.eq1 0 24 rfl) .nil
 refine aftI a1 bR bS fun dQ aC a4 bW ay a5 az=>?_
 have cB:=az.fx 2 cx
 have cC:=az.fx 3 cy
 have cD:=az.ge 1 23 rfl
 have bX:=bT.new_ a5
 have bY:=bU.new_ a5
 refine st_nil (bV _ _ ?_)
 refine wp_cond_true cD ?_
 refine wp_seq_k fun dR bZ=>?_
 refine wp_g0 [true,true,true,true,true,true] [] 35
   [ve (.agg #[.bool b,sv Ab mb cb]),
    (OP aC.heap.size 56 .u32 (canon (goodI b mb).natAbs)),ve (.agg #[.bool a,sv Aa ma ca]),
    (OP aC.heap.size 56 .u32 (canon (goodI a ma).natAbs)),ve (iv (cmpI (val (canon (goodI b mb).natAbs)) (val (canon (goodI a ma).natAbs)))),ve (iv (cmpI (val (canon (goodI b mb).natAbs)) (val (canon (goodI a ma).natAbs))))] a4 (.eq (.cons (fun _ _ _ n ⟨_,_,e,h⟩=>⟨_,_,e,h.new_ n⟩) (.eq (.cons (fun _ _ _ n ⟨_,_,e,h⟩=>⟨_,_,e,h.new_ n⟩) (.eq (.eq (.nil))))))) ?_ ?_
 refine .t (fun _ w hn k=>⟨_,v_load rfl (k.fx 3 cC) (l_two Tryz.isAgg26 Tryz.sizeOf26 (bY.new_ hn)),rfl⟩) ?_
 refine .o1 (tkC rfl (noG rfl) rfl fun _ w hn k=>(by
       refine ⟨#[.agg #[.bool b,sv Ab mb cb]],_,args1 (k.eq1 0 25 rfl),fun w=>by kernel_rfl,bmag_c b _ mb _ _ (hrb.new_ (ay.transNew hn)) hb (by first|omega|(simp only [List.length_nil,List.length_take,List.length_drop]; omega)|(simp only [List.length_cons,List.length_nil]; omega)),?_⟩
       rintro e w' ⟨A1,c2,rfl,hmo0,hm⟩
       exact⟨_,rfl,hm,⟨A1,c2,rfl,(hmo0.more hn.size)⟩⟩)) ?_
 refine .t (fun _ w hn k=>⟨_,v_load rfl (k.fx 2 cB) (l_two Tryz.isAgg26 Tryz.sizeOf26 (bX.new_ hn)),rfl⟩) ?_
 refine .o1 (tkC rfl (noG rfl) rfl fun _ w hn k=>(by
       refine ⟨#[.agg #[.bool a,sv Aa ma ca]],_,args1 (k.eq1 2 27 rfl),fun w=>by kernel_rfl,bmag_c a _ ma _ _ (hra.new_ (ay.transNew hn)) ha (by first|omega|(simp only [List.length_nil,List.length_take,List.length_drop]; omega)|(simp only [List.length_cons,List.length_nil]; omega)),?_⟩
       rintro e w' ⟨A5,c6,rfl,hmo0,hm⟩
       exact⟨_,rfl,hm,⟨A5,c6,rfl,(hmo0.more hn.size)⟩⟩)) ?_
 refine .o1 (tkC rfl (noG rfl) rfl fun _ w hn k=>(by
       obtain⟨A9,cE,cF,b0⟩:(OP aC.heap.size 56 .u32 (canon (goodI b mb).natAbs)) _ _:=k.dep 1 26 (by kernel_rfl) (by kernel_rfl)
       obtain⟨cG,cH,cI,b1⟩:(OP aC.heap.size 56 .u32 (canon (goodI a ma).natAbs)) _ _:=k.dep 3 28 (by kernel_rfl) (by kernel_rfl)
       refine ⟨#[sv A9 (canon (goodI b mb).natAbs) cE,sv cG (canon (goodI a ma).natAbs) cH],_,args2 cF cI,fun w=>by kernel_rfl,bcmp_c _ (canon (goodI b mb).natAbs) _ _ (canon (goodI a ma).natAbs) _ _ b0.row b1.row (limbs_canon _) (limbs_canon _) (trim_canon _) (trim_canon _),?_⟩
       rintro e w' ⟨rfl,hm⟩
       exact⟨_,rfl,hm,rfl⟩)) ?_
 exact .a (fun k=>k.eq1 4 29 rfl) .nil
 refine aftI a4 bW ay fun dS dT df b2 b3 dg b4=>?_
 have cJ:=b4.ge 5 4 rfl
 refine st_nil (bZ _ _ ?_)
 refine wp_ret (ret_k b2 (v:=iv (cmpI (val (canon (goodI b mb).natAbs)) (val (canon (goodI a ma).natAbs)))) (res_t rfl cJ _) ?_)
 rw [← neg_good ha] at aa
 rw [← neg_good hb] at ac
 exact⟨congrArg (fun z=>Ending.returned (iv z)) (by rw [val_canon,val_canon]; exact cmpZ_nn (oT aa) (oT ac)),b3⟩
 have a6:=hB aW ac
 refine wp_g0 [true,true,true,true,true,true] [] 35
   [vT,vT,vF,vT,vT,vT] ae (.eq (.eq (.eq (.eq (.eq (.eq (.nil))))))) ?_ ?_
 exact .m (fun k=>k.fx 5 al)<| .m (fun k=>k.eq1 0 12 rfl)<| .gm (fun k=>k.eq1 1 13 rfl) (fun k=>k.fx 6 a6)<| .g (fun k=>k.eq1 1 13 rfl) (fun _ w hn k=>⟨_,v_not rfl (k.eq1 2 14 rfl),rfl⟩)<| .t (fun _ w hn k=>⟨_,v_pickT rfl (k.eq1 1 13 rfl) (k.eq1 3 15 rfl),rfl⟩)<| .a (fun k=>k.eq1 4 16 rfl) .nil
 refine aftI ae ar au fun dU dV a7 b5 bd a8 aj=>?_
 have dW:=aj.fx 2 aU
 have dX:=aj.fx 3 aV
 have dY:=aj.fx 5 al
 have dZ:=aj.fx 6 a6
 have b6:=aj.ge 5 11 rfl
 have cY:=av.new_ a8
 have cZ:=aw.new_ a8
 refine st_nil (ax _ _ ?_)
 refine wp_cond_true b6 ?_
 refine wp_seq_k fun dh be=>?_
 refine wp_g0 [true] [] 35
   [ve (iv (-1))] a7 (.eq (.nil)) ?_ ?_
 exact .t (fun _ w hn k=>⟨_,v_assign rfl rfl,rfl⟩) .nil
 refine aftI a7 b5 bd fun di dj c0 bf bg c1 bh=>?_
 have b7:=bh.ge 0 4 rfl
 refine st_nil (be _ _ ?_)
 refine wp_ret (ret_k bf (v:=iv (-1)) (res_t rfl b7 _) ?_)
 rw [← neg_good ha] at aa
 rw [← neg_good hb] at ac
 exact⟨by rw [show cmpZ (goodI a ma) (goodI b mb) = -1 from cmpZ_np (oT aa) (oF ac)],bg⟩
 have aD:=hB bG aa
 refine wp_g0 [true,true,true,true,true,true] [] 35
   [vF,vF,vU,vU,vF,vF] ae (.eq (.eq (.eq (.eq (.eq (.eq (.nil))))))) ?_ ?_
 exact .m (fun k=>k.fx 5 aD)<| .m (fun k=>k.eq1 0 12 rfl)<| .s (fun k=>k.eq1 1 13 rfl)<| .s (fun k=>k.eq1 1 13 rfl)<| .t (fun _ w hn k=>⟨_,v_pickF rfl (k.eq1 1 13 rfl) rfl,rfl⟩)<| .a (fun k=>k.eq1 4 16 rfl) .nil
 refine aftI ae ar au fun dk dl af aE aF aG ad=>?_
 have a9:=ad.fx 2 aU
 have ba:=ad.fx 3 aV
 have aA:=ad.fx 5 aD
 have bb:=ad.fx 6 aW
 have b8:=ad.ge 5 11 rfl
 have aH:=av.new_ aG
 have aI:=aw.new_ aG
 refine st_nil (ax _ _ ?_)
 refine wp_cond_false b8 ?_
 refine wp_seq_k fun dm aJ=>?_
 rcases bc ((mayB b mb && b)) with ab|ab
 have bi:=hB bb ab
 refine wp_g0 [true,true,true,true,true,true] [] 35
   [vT,vT,vF,vT,vT,vT] af (.eq (.eq (.eq (.eq (.eq (.eq (.nil))))))) ?_ ?_
 exact .m (fun k=>k.fx 6 bi)<| .m (fun k=>k.eq1 0 18 rfl)<| .gm (fun k=>k.eq1 1 19 rfl) (fun k=>k.fx 5 aA)<| .g (fun k=>k.eq1 1 19 rfl) (fun _ w hn k=>⟨_,v_not rfl (k.eq1 2 20 rfl),rfl⟩)<| .t (fun _ w hn k=>⟨_,v_pickT rfl (k.eq1 1 19 rfl) (k.eq1 3 21 rfl),rfl⟩)<| .a (fun k=>k.eq1 4 22 rfl) .nil
 refine aftI af aE aF fun dn dp aK bj bk aL ag=>?_
 have dq:=ag.fx 2 a9
 have dr:=ag.fx 3 ba
 have ds:=ag.fx 5 aA
 have b9:=ag.ge 5 17 rfl
 have c3:=aH.new_ aL
 have c5:=aI.new_ aL
 refine st_nil (aJ _ _ ?_)
 refine wp_cond_true b9 ?_
 refine wp_seq_k fun dt bl=>?_
 refine wp_g0 [true] [] 35
   [ve (iv 1)] aK (.eq (.nil)) ?_ ?_
 exact .t (fun _ w hn k=>⟨_,v_assign rfl rfl,rfl⟩) .nil
 refine aftI aK bj bk fun du dv c9 bm bn da bo=>?_
 have cc:=bo.ge 0 4 rfl
 refine st_nil (bl _ _ ?_)
 refine wp_ret (ret_k bm (v:=iv 1) (res_t rfl cc _) ?_)
 rw [← neg_good ha] at aa
 rw [← neg_good hb] at ab
 exact⟨by rw [show cmpZ (goodI a ma) (goodI b mb)=1 from cmpZ_pn (oF aa) (oT ab)],bn⟩
 have bp:=hB bb ab
 refine wp_g0 [true,true,true,true,true,true] [] 35
   [vF,vF,vU,vU,vF,vF] af (.eq (.eq (.eq (.eq (.eq (.eq (.nil))))))) ?_ ?_
 exact .m (fun k=>k.fx 6 bp)<| .m (fun k=>k.eq1 0 18 rfl)<| .s (fun k=>k.eq1 1 19 rfl)<| .s (fun k=>k.eq1 1 19 rfl)<| .t (fun _ w hn k=>⟨_,v_pickF rfl (k.eq1 1 19 rfl) rfl,rfl⟩)<| .a (fun k=>k.eq1 4 22 rfl) .nil
 refine aftI af aE aF fun dw dx aM bq br aN ah=>?_
 have cd:=ah.fx 2 a9
 have ce:=ah.fx 3 ba
 have cf:=ah.fx 5 aA
 have ch:=ah.ge 5 17 rfl
 have bs:=aH.new_ aN
 have bt:=aI.new_ aN
 refine st_nil (aJ _ _ ?_)
 refine wp_cond_false ch ?_
 refine wp_seq_k fun dy bu=>?_
 refine wp_g0 [true,true] [] 35
   [vF,vF] aM (.eq (.eq (.nil))) ?_ ?_
 exact .m (fun k=>k.fx 5 cf)<| .a (fun k=>k.eq1 0 24 rfl) .nil
 refine aftI aM bq br fun dz an aO bv ao aP ap=>?_
 have ci:=ap.fx 2 cd
 have cj:=ap.fx 3 ce
 have cl:=ap.ge 1 23 rfl
 have bw:=bs.new_ aP
 have bx:=bt.new_ aP
 refine st_nil (bu _ _ ?_)
 refine wp_cond_false cl ?_
 refine wp_skip ?_
 refine bL _ _ ?_
 refine wp_seq_k fun dA bz=>?_
 refine wp_g0 [true,true,true,true,true,true] [] 35
   [ve (.agg #[.bool a,sv Aa ma ca]),
    (OP an.heap.size 56 .u32 (canon (goodI a ma).natAbs)),ve (.agg #[.bool b,sv Ab mb cb]),
    (OP an.heap.size 56 .u32 (canon (goodI b mb).natAbs)),ve (iv (cmpI (val (canon (goodI a ma).natAbs)) (val (canon (goodI b mb).natAbs)))),ve (iv (cmpI (val (canon (goodI a ma).natAbs)) (val (canon (goodI b mb).natAbs))))] aO (.eq (.cons (fun _ _ _ n ⟨_,_,e,h⟩=>⟨_,_,e,h.new_ n⟩) (.eq (.cons (fun _ _ _ n ⟨_,_,e,h⟩=>⟨_,_,e,h.new_ n⟩) (.eq (.eq (.nil))))))) ?_ ?_
 refine .t (fun _ w hn k=>⟨_,v_load rfl (k.fx 2 ci) (l_two Tryz.isAgg26 Tryz.sizeOf26 (bw.new_ hn)),rfl⟩) ?_
 refine .o1 (tkC rfl (noG rfl) rfl fun _ w hn k=>(by
       refine ⟨#[.agg #[.bool a,sv Aa ma ca]],_,args1 (k.eq1 0 30 rfl),fun w=>by kernel_rfl,bmag_c a _ ma _ _ (hra.new_ (ao.transNew hn)) ha (by first|omega|(simp only [List.length_nil,List.length_take,List.length_drop]; omega)|(simp only [List.length_cons,List.length_nil]; omega)),?_⟩
       rintro e w' ⟨cO,cP,rfl,hmo0,hm⟩
       exact⟨_,rfl,hm,⟨cO,cP,rfl,(hmo0.more hn.size)⟩⟩)) ?_
 refine .t (fun _ w hn k=>⟨_,v_load rfl (k.fx 3 cj) (l_two Tryz.isAgg26 Tryz.sizeOf26 (bx.new_ hn)),rfl⟩) ?_
 refine .o1 (tkC rfl (noG rfl) rfl fun _ w hn k=>(by
       refine ⟨#[.agg #[.bool b,sv Ab mb cb]],_,args1 (k.eq1 2 32 rfl),fun w=>by kernel_rfl,bmag_c b _ mb _ _ (hrb.new_ (ao.transNew hn)) hb (by first|omega|(simp only [List.length_nil,List.length_take,List.length_drop]; omega)|(simp only [List.length_cons,List.length_nil]; omega)),?_⟩
       rintro e w' ⟨cQ,cR,rfl,hmo0,hm⟩
       exact⟨_,rfl,hm,⟨cQ,cR,rfl,(hmo0.more hn.size)⟩⟩)) ?_
 refine .o1 (tkC rfl (noG rfl) rfl fun _ w hn k=>(by
       obtain⟨cS,cT,cU,cm⟩:(OP an.heap.size 56 .u32 (canon (goodI a ma).natAbs)) _ _:=k.dep 1 31 (by kernel_rfl) (by kernel_rfl)
       obtain⟨cV,cW,cX,cn⟩:(OP an.heap.size 56 .u32 (canon (goodI b mb).natAbs)) _ _:=k.dep 3 33 (by kernel_rfl) (by kernel_rfl)
       refine ⟨#[sv cS (canon (goodI a ma).natAbs) cT,sv cV (canon (goodI b mb).natAbs) cW],_,args2 cU cX,fun w=>by kernel_rfl,bcmp_c _ (canon (goodI a ma).natAbs) _ _ (canon (goodI b mb).natAbs) _ _ cm.row cn.row (limbs_canon _) (limbs_canon _) (trim_canon _) (trim_canon _),?_⟩
       rintro e w' ⟨rfl,hm⟩
       exact⟨_,rfl,hm,rfl⟩)) ?_
 exact .a (fun k=>k.eq1 4 34 rfl) .nil
 refine aftI aO bv ao fun dB dC db bA bB dc bC=>?_
 have co:=bC.ge 5 4 rfl
 refine st_nil (bz _ _ ?_)
 refine wp_ret (ret_k bA (v:=iv (cmpI (val (canon (goodI a ma).natAbs)) (val (canon (goodI b mb).natAbs)))) (res_t rfl co _) ?_)
 rw [← neg_good ha] at aa
 rw [← neg_good hb] at ab
 exact⟨congrArg (fun z=>Ending.returned (iv z)) (by rw [val_canon,val_canon]; exact cmpZ_pp (oF aa) (oF ab)),bB⟩
def bOf_c_P (n:Int) (w:World) (en:Ending) (w':World):Prop:=∃ (Ar0:Option Addr) (cr0:Nat),en=.returned (.agg #[.bool (decide (n < 0)),sv Ar0 (canon (n).natAbs) cr0])∧SRow w' .u32 Ar0 (canon (n).natAbs) cr0∧New w w'
theorem bOf_c (n:Int) (w:World) (hlo:-9223372036854775808≤n) (hhi:n≤9223372036854775807):Calls Tryz.prog 64 #[iv n] w (bOf_c_P n w):=by
 refine enter_abs Tryz.func64 rfl fun a0 ao bC hp=>?_
 have ao:a0.tmps.size=19:=ao
 have aP:New w w:=Upd.refl _ _
 have hp0:a0.eval (.tmp 0)=iv n:=hp 0 _ rfl
 have hmd:0≤n % 18446744073709551616∧n % 18446744073709551616 < 18446744073709551616:=by omega
 refine wp_seq_k fun K1 bD=>?_
 refine wp_g [true] [] [] 19
   [IsNew w 26 [.bool false,sv none ([]) 0]]
   [0] (newsCons (fun v w h=>IsNew.old h) newsNil) ao (.nw (.nil)) ?_ (fun i h=>by cases h) ?_
 exact .o2 (step_allocN (cs:=[.bool false,sv none ([]) 0]) (t:=26) rfl (noG rfl) (fun _ w hn k=>rfl) (fun q _ hq hb=>⟨q,rfl,hq,hb⟩)) .nil
 refine aftI ao bC aP fun a2 w3 aQ bE a5 b6 aR=>?_
 have h8:=aR.fx 0 hp0
 obtain⟨b7,h9,a6,a7⟩:=aR.G 0 2
 have b0:=Nat.le_trans aP.size a6
 refine st_nil (bD _ _ (wp_seq_k fun b8 a8=>?_))
 refine wp_g0 [true,true,true] [] 19
   [ve (iv n),ve (.int .u64 (((n % 18446744073709551616).toNat:Nat):Int)),ve (.int .u64 (((n % 18446744073709551616).toNat:Nat):Int))] aQ (.eq (.eq (.eq (.nil)))) ?_ ?_
 exact .m (fun k=>k.fx 0 h8)<| .t (fun _ w hn k=>⟨_,v_conv rfl (k.eq1 0 4 rfl) (n_conv (by kernel_rfl) (by kernel_rfl) (by kernel_rfl) (of_conv n)),rfl⟩)<| .a (fun k=>k.eq1 1 5 rfl) .nil
 refine aftI aQ bE a5 fun b9 ca ar a9 ba bb an=>?_
 have aS:=an.fx 0 h8
 have bF:=an.fx 2 h9
 have bG:=an.ge 2 3 rfl
 have bd:=a7.new_ bb
 refine st_nil (a8 _ _ (wp_seq_k fun cb au=>?_))
 refine wp_seq_k fun cc be=>?_
 refine wp_g0 [true,true] [] 19
   [ve (iv n),ve (.bool (decide (n < 0)))] ar (.eq (.eq (.nil))) ?_ ?_
 exact .m (fun k=>k.fx 0 aS)<| .t (fun _ w hn k=>⟨_,v_bin rfl (k.eq1 0 6 rfl) rfl (fun _=>rfl) (r_lssK rfl),rfl⟩) .nil
 refine aftI ar a9 ba fun cd aT ak av aw bf al=>?_
 have aU:=al.fx 0 aS
 have aV:=al.fx 2 bF
 have ap:=al.fx 3 bG
 have aW:=al.ge 1 7 rfl
 have ax:=bd.new_ bf
 refine st_nil (be _ _ ?_)
 rcases bc (decide (n < 0)) with aa|aa
 have aI:=oT aa
 have bg:=hB aW aa
 refine wp_cond_true bg ?_
 refine wp_g0 [true,true,false] [(2,true)] 19
   [ve (.int .u64 (((n % 18446744073709551616).toNat:Nat):Int)),ve (.int .u64 (((-n).toNat:Nat):Int)),vt] ak (.eq (.eq (.tt (.nil)))) ?_ ?_
 exact .m (fun k=>k.fx 3 ap)<| .t (fun _ w hn k=>⟨_,v_negU rfl (k.eq1 0 8 rfl) (of_neg hlo (oT aa)),rfl⟩)<| .off .nil
 refine aftI ak av aw fun aX aY ay bh bi bj am=>?_
 have bH:=am.fx 0 aU
 have bI:=am.fx 2 aV
 have ce:=am.fx 3 ap
 have aZ:=am.ge 1 9 rfl
 have bk:=ax.new_ bj
 refine st_take rfl rfl (y_assign (v:=.int .u64 (((-n).toNat:Nat):Int)) rfl aZ) rfl ?_
 obtain⟨bJ,ab⟩:∃ a',a'=aX.put (some 3) (.int .u64 (((-n).toNat:Nat):Int)):=⟨_,rfl⟩
 have az:=pz ab ay
 have bl:=pd ab bh
 have bK:=pn ab bH (by decide)
 have bL:=pn ab bI (by decide)
 have cf:=pn ab aZ (by decide)
 have a1:bJ.eval (.tmp 3)=.int .u64 (((-n).toNat:Nat):Int):=by rw [ab]; exact put_same _ _ _ (by rw [ay]; decide)
 show stepsTo _ _ _ _ _ (aX.put (some 3) (.int .u64 (((-n).toNat:Nat):Int))) _
 rw [← ab]
 refine st_nil (au _ _ (wp_seq_k fun ch bm=>?_))
 refine wp_g0 [true,true,true,true,true,true,true,true,true,false] [(9,false)] 19
   [ve (.int .u64 (((-n).toNat:Nat):Int)),ve (.int .u32 ((((-n).toNat) % 4294967296:Nat):Int)),ve (.int .u64 (((-n).toNat:Nat):Int)),ve (.int .u64 ((((-n).toNat) / 4294967296:Nat):Int)),ve (.int .u32 (((((-n).toNat) / 4294967296) % 4294967296:Nat):Int)),
    (OP aY.heap.size 56 .u32 ([(((-n).toNat) % 4294967296),((((-n).toNat) / 4294967296) % 4294967296)])),ve (iv n),vT,(fun (v_:Value) (W:World)=>∃ (ae:Option Addr) (af:Nat),v_=.agg #[.bool (decide (sgn true (val ([(((-n).toNat) % 4294967296),((((-n).toNat) / 4294967296) % 4294967296)])) < 0)),sv ae (canon (sgn true (val ([(((-n).toNat) % 4294967296),((((-n).toNat) / 4294967296) % 4294967296)]))).natAbs) af]∧SRow W .u32 ae (canon (sgn true (val ([(((-n).toNat) % 4294967296),((((-n).toNat) / 4294967296) % 4294967296)]))).natAbs) af),vt] az (.eq (.eq (.eq (.eq (.eq (.cons (fun _ _ _ n ⟨_,_,e,h⟩=>⟨_,_,e,h.new_ n⟩) (.eq (.eq (.cons (fun _ _ _ n ⟨_,_,e,h⟩=>⟨_,_,e,h.new_ n⟩) (.tt (.nil))))))))))) ?_ ?_
 refine .m (fun k=>k.fx 3 a1)<| .t (fun _ w hn k=>⟨_,v_conv rfl (k.eq1 0 10 rfl) (n_conv (by kernel_rfl) (by kernel_rfl) (by kernel_rfl) (n_wrap32 _)),rfl⟩)<| .m (fun k=>k.fx 3 a1)<| .t (fun _ w hn k=>⟨_,v_bin rfl (k.eq1 2 12 rfl) rfl (fun _=>rfl) (n_shr ((-n).toNat) 32 (by decide)),rfl⟩)<| .t (fun _ w hn k=>⟨_,v_conv rfl (k.eq1 3 13 rfl) (n_conv (by kernel_rfl) (by kernel_rfl) (by kernel_rfl) (n_wrap32 _)),rfl⟩) ?_
 refine .o1 (tkA rfl (noG rfl) fun _ w hn k=>(by
       exact x_bslice (k:=.u32) (ps:=[(0,.int .u32 ((((-n).toNat) % 4294967296:Nat):Int)),(1,.int .u32 (((((-n).toNat) / 4294967296) % 4294967296:Nat):Int))]) [(((-n).toNat) % 4294967296),((((-n).toNat) / 4294967296) % 4294967296)] rfl (parts2 (k.eq1 1 11 rfl) (k.eq1 4 14 rfl)) elW rfl (by omega) (by omega) (by first|kernel_rfl|(simp only [enc,List.map_cons,List.map_nil,Int.toNat_natCast,Int.toNat_of_nonneg (by omega:(0:Int)≤_)]; kernel_rfl)) fun A1 c2 W' hmo=>⟨A1,c2,rfl,(hmo.more hn.size)⟩)) ?_
 refine .m (fun k=>k.fx 0 bK)<| .t (fun _ w hn k=>⟨_,v_bin rfl (k.eq1 6 16 rfl) rfl (fun _=>rfl) (r_lssK aa),rfl⟩) ?_
 refine .o1 (tkC rfl (noG rfl) rfl fun _ w hn k=>(by
       obtain⟨A5,c6,e7,bM⟩:(OP aY.heap.size 56 .u32 ([(((-n).toNat) % 4294967296),((((-n).toNat) / 4294967296) % 4294967296)])) _ _:=k.dep 5 15 (by kernel_rfl) (by kernel_rfl)
       refine ⟨#[sv A5 ([(((-n).toNat) % 4294967296),((((-n).toNat) / 4294967296) % 4294967296)]) c6,.bool true],_,args2 e7 (k.eq1 7 17 rfl),fun w=>by kernel_rfl,bmade_c _ ([(((-n).toNat) % 4294967296),((((-n).toNat) / 4294967296) % 4294967296)]) _ true _ bM.row (two_limbs_m _),?_⟩
       rintro e w' ⟨A9,bN,rfl,hmo0,hm⟩
       exact⟨_,rfl,hm,⟨A9,bN,rfl,hmo0⟩⟩)) ?_
 exact .off .nil
 refine aftI az bl bi fun bO ci b1 bn bo bp aA=>?_
 have a3:=aA.fx 2 bL
 obtain⟨ai,ac,aB,bq⟩:=aA.G 8 18
 have aB:bO.eval (.tmp 18)=.agg #[.bool (decide (sgn true (val ([(((-n).toNat) % 4294967296),((((-n).toNat) / 4294967296) % 4294967296)])) < 0)),sv ai (canon (sgn true (val ([(((-n).toNat) % 4294967296),((((-n).toNat) / 4294967296) % 4294967296)]))).natAbs) ac]:=aB
 have aC:=bk.new_ bp
 obtain⟨cj,-,aJ,br,aD,b2⟩:=s_two (v0:=.bool (decide (sgn true (val ([(((-n).toNat) % 4294967296),((((-n).toNat) / 4294967296) % 4294967296)])) < 0))) (v1:=sv ai (canon (sgn true (val ([(((-n).toNat) % 4294967296),((((-n).toNat) / 4294967296) % 4294967296)]))).natAbs) ac) Tryz.sizeOf26 rfl rfl rfl aC
 refine st_act rfl rfl fun cl bs=>a_store' rfl a3 aB aJ (bs _ _ trivial ?_)
 have bt:=bq.fr aC aD
 have bu:=bo.trans aD (fun _ h b=>by subst b; omega)
 refine st_nil (bm _ _ ?_)
 refine wp_ret (ret_k bn (v:=.agg #[.bool (decide (sgn true (val ([(((-n).toNat) % 4294967296),((((-n).toNat) / 4294967296) % 4294967296)])) < 0)),sv ai (canon (sgn true (val ([(((-n).toNat) % 4294967296),((((-n).toNat) / 4294967296) % 4294967296)]))).natAbs) ac]) (res_c rfl a3 (l_two Tryz.isAgg26 Tryz.sizeOf26 br)) ?_)
 have hz1:sgn true (val ([(((-n).toNat) % 4294967296),((((-n).toNat) / 4294967296) % 4294967296)]))=n:=of_yes hlo aa
 exact⟨ai,ac,congrArg (fun z:Int=>Ending.returned (Value.agg #[.bool (decide (z < 0)),sv ai (canon z.natAbs) ac])) hz1,Eq.mp (congrArg (fun z:Int=>SRow _ .u32 ai (canon z.natAbs) ac) hz1) bt,bu⟩
 have aI:=oF aa
 have bv:=hB aW aa
 refine wp_cond_false bv ?_
 refine wp_skip ?_
 refine au _ _ ?_
 refine wp_seq_k fun cm bw=>?_
 refine wp_g0 [true,true,true,true,true,true,true,true,true,false] [(9,false)] 19
   [ve (.int .u64 (((n % 18446744073709551616).toNat:Nat):Int)),ve (.int .u32 ((((n % 18446744073709551616).toNat) % 4294967296:Nat):Int)),ve (.int .u64 (((n % 18446744073709551616).toNat:Nat):Int)),ve (.int .u64 ((((n % 18446744073709551616).toNat) / 4294967296:Nat):Int)),ve (.int .u32 (((((n % 18446744073709551616).toNat) / 4294967296) % 4294967296:Nat):Int)),
    (OP aT.heap.size 56 .u32 ([(((n % 18446744073709551616).toNat) % 4294967296),((((n % 18446744073709551616).toNat) / 4294967296) % 4294967296)])),ve (iv n),vF,(fun (v_:Value) (W:World)=>∃ (ag:Option Addr) (ah:Nat),v_=.agg #[.bool (decide (sgn false (val ([(((n % 18446744073709551616).toNat) % 4294967296),((((n % 18446744073709551616).toNat) / 4294967296) % 4294967296)])) < 0)),sv ag (canon (sgn false (val ([(((n % 18446744073709551616).toNat) % 4294967296),((((n % 18446744073709551616).toNat) / 4294967296) % 4294967296)]))).natAbs) ah]∧SRow W .u32 ag (canon (sgn false (val ([(((n % 18446744073709551616).toNat) % 4294967296),((((n % 18446744073709551616).toNat) / 4294967296) % 4294967296)]))).natAbs) ah),vt] ak (.eq (.eq (.eq (.eq (.eq (.cons (fun _ _ _ n ⟨_,_,e,h⟩=>⟨_,_,e,h.new_ n⟩) (.eq (.eq (.cons (fun _ _ _ n ⟨_,_,e,h⟩=>⟨_,_,e,h.new_ n⟩) (.tt (.nil))))))))))) ?_ ?_
 refine .m (fun k=>k.fx 3 ap)<| .t (fun _ w hn k=>⟨_,v_conv rfl (k.eq1 0 10 rfl) (n_conv (by kernel_rfl) (by kernel_rfl) (by kernel_rfl) (n_wrap32 _)),rfl⟩)<| .m (fun k=>k.fx 3 ap)<| .t (fun _ w hn k=>⟨_,v_bin rfl (k.eq1 2 12 rfl) rfl (fun _=>rfl) (n_shr ((n % 18446744073709551616).toNat) 32 (by decide)),rfl⟩)<| .t (fun _ w hn k=>⟨_,v_conv rfl (k.eq1 3 13 rfl) (n_conv (by kernel_rfl) (by kernel_rfl) (by kernel_rfl) (n_wrap32 _)),rfl⟩) ?_
 refine .o1 (tkA rfl (noG rfl) fun _ w hn k=>(by
       exact x_bslice (k:=.u32) (ps:=[(0,.int .u32 ((((n % 18446744073709551616).toNat) % 4294967296:Nat):Int)),(1,.int .u32 (((((n % 18446744073709551616).toNat) / 4294967296) % 4294967296:Nat):Int))]) [(((n % 18446744073709551616).toNat) % 4294967296),((((n % 18446744073709551616).toNat) / 4294967296) % 4294967296)] rfl (parts2 (k.eq1 1 11 rfl) (k.eq1 4 14 rfl)) elW rfl (by omega) (by omega) (by first|kernel_rfl|(simp only [enc,List.map_cons,List.map_nil,Int.toNat_natCast,Int.toNat_of_nonneg (by omega:(0:Int)≤_)]; kernel_rfl)) fun bR bS W' hmo=>⟨bR,bS,rfl,(hmo.more hn.size)⟩)) ?_
 refine .m (fun k=>k.fx 0 aU)<| .t (fun _ w hn k=>⟨_,v_bin rfl (k.eq1 6 16 rfl) rfl (fun _=>rfl) (r_lssK aa),rfl⟩) ?_
 refine .o1 (tkC rfl (noG rfl) rfl fun _ w hn k=>(by
       obtain⟨bT,bU,bV,bx⟩:(OP aT.heap.size 56 .u32 ([(((n % 18446744073709551616).toNat) % 4294967296),((((n % 18446744073709551616).toNat) / 4294967296) % 4294967296)])) _ _:=k.dep 5 15 (by kernel_rfl) (by kernel_rfl)
       refine ⟨#[sv bT ([(((n % 18446744073709551616).toNat) % 4294967296),((((n % 18446744073709551616).toNat) / 4294967296) % 4294967296)]) bU,.bool false],_,args2 bV (k.eq1 7 17 rfl),fun w=>by kernel_rfl,bmade_c _ ([(((n % 18446744073709551616).toNat) % 4294967296),((((n % 18446744073709551616).toNat) / 4294967296) % 4294967296)]) _ false _ bx.row (two_limbs_m _),?_⟩
       rintro e w' ⟨bW,bX,rfl,hmo0,hm⟩
       exact⟨_,rfl,hm,⟨bW,bX,rfl,hmo0⟩⟩)) ?_
 exact .off .nil
 refine aftI ak av aw fun bY cn b3 bz aK bA aE=>?_
 have a4:=aE.fx 2 aV
 obtain⟨aj,ad,aF,bB⟩:=aE.G 8 18
 have aF:bY.eval (.tmp 18)=.agg #[.bool (decide (sgn false (val ([(((n % 18446744073709551616).toNat) % 4294967296),((((n % 18446744073709551616).toNat) / 4294967296) % 4294967296)])) < 0)),sv aj (canon (sgn false (val ([(((n % 18446744073709551616).toNat) % 4294967296),((((n % 18446744073709551616).toNat) / 4294967296) % 4294967296)]))).natAbs) ad]:=aF
 have aG:=ax.new_ bA
 obtain⟨b4,-,aH,aL,aq,bZ⟩:=s_two (v0:=.bool (decide (sgn false (val ([(((n % 18446744073709551616).toNat) % 4294967296),((((n % 18446744073709551616).toNat) / 4294967296) % 4294967296)])) < 0))) (v1:=sv aj (canon (sgn false (val ([(((n % 18446744073709551616).toNat) % 4294967296),((((n % 18446744073709551616).toNat) / 4294967296) % 4294967296)]))).natAbs) ad) Tryz.sizeOf26 rfl rfl rfl aG
 refine st_act rfl rfl fun b5 aM=>a_store' rfl a4 aF aH (aM _ _ trivial ?_)
 have aN:=bB.fr aG aq
 have aO:=aK.trans aq (fun _ h b=>by subst b; omega)
 refine st_nil (bw _ _ ?_)
 refine wp_ret (ret_k bz (v:=.agg #[.bool (decide (sgn false (val ([(((n % 18446744073709551616).toNat) % 4294967296),((((n % 18446744073709551616).toNat) / 4294967296) % 4294967296)])) < 0)),sv aj (canon (sgn false (val ([(((n % 18446744073709551616).toNat) % 4294967296),((((n % 18446744073709551616).toNat) / 4294967296) % 4294967296)]))).natAbs) ad]) (res_c rfl a4 (l_two Tryz.isAgg26 Tryz.sizeOf26 aL)) ?_)
 have hz1:sgn false (val ([(((n % 18446744073709551616).toNat) % 4294967296),((((n % 18446744073709551616).toNat) / 4294967296) % 4294967296)]))=n:=of_no hhi aa
 exact⟨aj,ad,congrArg (fun z:Int=>Ending.returned (Value.agg #[.bool (decide (z < 0)),sv aj (canon z.natAbs) ad])) hz1,Eq.mp (congrArg (fun z:Int=>SRow _ .u32 aj (canon z.natAbs) ad) hz1) aN,aO⟩
theorem sequal32_c (Aa:Option Addr) (a:List Nat) (ca:Nat) (Ab:Option Addr) (b:List Nat) (cb:Nat) (w:World) (hra:SRow w .u32 Aa a ca) (hrb:SRow w .u32 Ab b cb):Calls Tryz.prog 49 #[sv Aa a ca,sv Ab b cb] w (IsRet (.bool (decide (a=b))) w):=by
 refine enter_abs Tryz.func49 rfl fun a0 au bS hp=>?_
 have au:a0.tmps.size=26:=au
 have bT:New w w:=Upd.refl _ _
 have hp0:a0.eval (.tmp 0)=sv Aa a ca:=hp 0 _ rfl
 have hp1:a0.eval (.tmp 1)=sv Ab b cb:=hp 1 _ rfl
 have hmx:=hra.max
 have hmy:=hrb.max
 refine wp_seq_k fun K1 bU=>?_
 refine wp_g0 [true] [] 26
   [vF] au (.eq (.nil)) ?_ ?_
 exact .t (fun _ w hn k=>⟨_,v_assign rfl rfl,rfl⟩) .nil
 refine aftI au bS bT fun a2 w3 av a9 aB da ba=>?_
 have h8:=ba.fx 0 hp0
 have h9:=ba.fx 1 hp1
 refine st_nil (bU _ _ (wp_seq_k fun db bl=>?_))
 refine wp_seq_k fun dc aC=>?_
 rcases bc (decide ((a.length:Int)=(b.length:Int))) with af|af
 have al:=oT af
 refine wp_g0 [true,true,true,true,true] [] 26
   [ve (sv Aa a ca),ve (iv (a.length:Int)),ve (sv Ab b cb),ve (iv (b.length:Int)),vF] av (.eq (.eq (.eq (.eq (.eq (.nil)))))) ?_ ?_
 exact .m (fun k=>k.fx 0 h8)<| .t (fun _ w hn k=>⟨_,v_lenR rfl elW (k.eq1 0 6 rfl),rfl⟩)<| .m (fun k=>k.fx 1 h9)<| .t (fun _ w hn k=>⟨_,v_lenR rfl elW (k.eq1 2 8 rfl),rfl⟩)<| .t (fun _ w hn k=>⟨_,v_bin rfl (k.eq1 1 7 rfl) (k.eq1 3 9 rfl) (fun _=>rfl) (r_neq af),rfl⟩) .nil
 refine aftI av a9 aB fun dd de aD bm bn cJ ar=>?_
 have bb:=ar.fx 0 h8
 have bV:=ar.fx 1 h9
 have bW:=ar.ge 4 10 rfl
 refine st_nil (aC _ _ ?_)
 refine wp_cond_false bW ?_
 refine wp_skip ?_
 refine bl _ _ ?_
 refine wp_seq_k fun df bo=>?_
 refine wp_seq_k fun dg bp=>?_
 refine wp_g0 [true,true,true] [] 26
   [ve (sv Aa a ca),ve (iv (a.length:Int)),ve (iv 0)] aD (.eq (.eq (.eq (.nil)))) ?_ ?_
 exact .m (fun k=>k.fx 0 bb)<| .t (fun _ w hn k=>⟨_,v_lenR rfl elW (k.eq1 0 11 rfl),rfl⟩)<| .t (fun _ w hn k=>⟨_,v_move rfl rfl,rfl⟩) .nil
 refine aftI aD bm bn fun dh di bq br bs cK am=>?_
 have bX:=am.fx 0 bb
 have bY:=am.fx 1 bV
 have bZ:=am.ge 1 12 rfl
 have b0:=am.ge 2 13 rfl
 refine st_nil (bp _ _ ?_)
 refine wp_block ?_
 refine wp_loopX (fun (mm:Nat) (aa:Act) (ww:World)=>∃ (i:Nat),mm=a.length - i∧aa.tmps.size=26∧aa.defers=[]∧New w ww∧aa.eval (.tmp 13)=iv (i:Int)∧aa.eval (.tmp 0)=sv Aa a ca∧aa.eval (.tmp 1)=sv Ab b cb∧aa.eval (.tmp 12)=iv (a.length:Int)∧(i≤a.length)∧(∀ j,j < i→a.getD j 0=b.getD j 0)) (fun mm=>mm) ⟨_,⟨0,rfl,bq,br,bs,b0,bX,bY,bZ,(Nat.zero_le _),(fun j h=>absurd h (Nat.not_lt_zero _))⟩⟩ ?_
 rintro mm dj dk ⟨i,hmm,aE,bt,bu,bd,b1,b2,be,hi,heq⟩
 refine wp_seq_k fun dl bv=>?_
 refine wp_g0 [true] [] 26
   [ve (.bool (decide ((i:Int) < (a.length:Int))))] aE (.eq (.nil)) ?_ ?_
 exact .t (fun _ w hn k=>⟨_,v_bin rfl (k.fx 13 bd) (k.fx 12 be) (fun _=>rfl) (r_lssK rfl),rfl⟩) .nil
 refine aftI aE bt bu fun dm dn an aF aG cL ag=>?_
 have bf:=ag.fx 13 bd
 have b3:=ag.fx 0 b1
 have b4:=ag.fx 1 b2
 have b5:=ag.fx 12 be
 have bg:=ag.ge 0 14 rfl
 refine st_nil (bv _ _ (wp_seq_k fun dp bw=>?_))
 rcases bc (decide ((i:Int) < (a.length:Int))) with ah|ah
 have aM:=oT ah
 have bx:=hB bg ah
 refine wp_cond_true bx ?_
 refine wp_skip ?_
 refine bw _ _ ?_
 refine wp_seq_k fun dq bz=>?_
 refine wp_block ?_
 refine wp_seq_k fun dr bA=>?_
 refine wp_g0 [true,true] [] 26
   [ve (iv (i:Int)),ve (iv (i:Int))] an (.eq (.eq (.nil))) ?_ ?_
 exact .m (fun k=>k.fx 13 bf)<| .a (fun k=>k.eq1 0 15 rfl) .nil
 refine aftI an aF aG fun ds dt ao aH ad cM ai=>?_
 have bh:=ai.fx 13 bf
 have aw:=ai.fx 0 b3
 have ax:=ai.fx 1 b4
 have bi:=ai.fx 12 b5
 have ay:=ai.ge 1 5 rfl
 refine st_nil (bA _ _ (wp_seq_k fun du aI=>?_))
 rcases bc (decide (((a.getD i 0:Nat):Int)=((b.getD i 0:Nat):Int))) with ae|ae
 have ap:=oT ae
 refine wp_g0 (.replicate 9 true) [] 26
   [ve (sv Aa a ca),ve (iv (i:Int)),
    (EP (.int .u32 ((a.getD i 0:Nat):Int))),ve (.int .u32 ((a.getD i 0:Nat):Int)),ve (sv Ab b cb),ve (iv (i:Int)),
    (EP (.int .u32 ((b.getD i 0:Nat):Int))),ve (.int .u32 ((b.getD i 0:Nat):Int)),vF] ao (.eq (.eq (.cons (fun _ _ _ n ⟨_,_,e,h⟩=>⟨_,_,e,h.new_ n⟩) (.eq (.eq (.eq (.cons (fun _ _ _ n ⟨_,_,e,h⟩=>⟨_,_,e,h.new_ n⟩) (.eq (.eq (.nil)))))))))) ?_ ?_
 refine .m (fun k=>k.fx 0 aw)<| .m (fun k=>k.fx 5 ay) ?_
 refine .o1 (tk rfl rfl fun _ w hn k=>(by
       exact x_eaddr (k:=.u32) rfl elW (k.eq1 0 16 rfl) (k.eq1 1 17 rfl) (hra.new_ (ad.transNew hn)) (by omega) fun cc cd hme=>⟨cc,cd,rfl,hme⟩)) ?_
 refine .o1 (tk rfl rfl fun _ w hn k=>(by
       obtain⟨dv,dw,ce,bB⟩:(EP (.int .u32 ((a.getD i 0:Nat):Int))) _ _:=k.dep 2 18 (by kernel_rfl) (by kernel_rfl)
       exact⟨_,v_load rfl ce (l_one Tryz.isAgg56 bB.1),rfl⟩)) ?_
 refine .m (fun k=>k.fx 1 ax)<| .m (fun k=>k.fx 5 ay) ?_
 refine .o1 (tk rfl rfl fun _ w hn k=>(by
       exact x_eaddr (k:=.u32) rfl elW (k.eq1 4 20 rfl) (k.eq1 5 21 rfl) (hrb.new_ (ad.transNew hn)) (by omega) fun cf ch hme=>⟨cf,ch,rfl,hme⟩)) ?_
 refine .o1 (tk rfl rfl fun _ w hn k=>(by
       obtain⟨dx,dy,ci,bC⟩:(EP (.int .u32 ((b.getD i 0:Nat):Int))) _ _:=k.dep 6 22 (by kernel_rfl) (by kernel_rfl)
       exact⟨_,v_load rfl ci (l_one Tryz.isAgg56 bC.1),rfl⟩)) ?_
 exact .t (fun _ w hn k=>⟨_,v_bin rfl (k.eq1 3 19 rfl) (k.eq1 7 23 rfl) (fun _=>rfl) (r_neq ae),rfl⟩) .nil
 refine aftI ao aH ad fun dz dA aJ bD bE cN aj=>?_
 have bj:=aj.fx 13 bh
 have cj:=aj.fx 0 aw
 have cl:=aj.fx 1 ax
 have cm:=aj.fx 12 bi
 have cn:=aj.ge 8 24 rfl
 refine st_nil (aI _ _ ?_)
 refine wp_cond_false cn ?_
 refine wp_skip ?_
 refine bz _ _ ?_
 refine wp_g0 [true,false] [(1,true)] 26
   [ve (iv ((i + 1:Nat):Int)),vt] aJ (.eq (.tt (.nil))) ?_ ?_
 exact .t (fun _ w hn k=>⟨_,v_bin rfl (k.fx 13 bj) rfl (fun _=>rfl) (n_add (by omega) (IntWalk.i64_in _ (by omega))),rfl⟩)<| .off .nil
 refine aftI aJ bD bE fun bk dB aK bF aN cO ak=>?_
 have dC:=ak.fx 13 bj
 have co:=ak.fx 0 cj
 have cp:=ak.fx 1 cl
 have cq:=ak.fx 12 cm
 have aL:=ak.ge 0 25 rfl
 refine st_take rfl rfl (y_move (v:=iv ((i + 1:Nat):Int)) rfl aL) rfl ?_
 obtain⟨bG,ab⟩:∃ a',a'=bk.put (some 13) (iv ((i + 1:Nat):Int)):=⟨_,rfl⟩
 have aO:=pz ab aK
 have aP:=pd ab bF
 have bH:=pn ab co (by decide)
 have bI:=pn ab cp (by decide)
 have bJ:=pn ab cq (by decide)
 have cP:=pn ab aL (by decide)
 have bK:bG.eval (.tmp 13)=iv ((i + 1:Nat):Int):=by rw [ab]; exact put_same _ _ _ (by rw [aK]; decide)
 show stepsTo _ _ _ _ _ (bk.put (some 13) (iv ((i + 1:Nat):Int))) _
 rw [← ab]
 refine st_nil ?_
 refine then_n ?_
 exact⟨_,⟨i + 1,rfl,aO,aP,aN,(bK.trans (congrArg (Value.int .i64) (by omega))),bH,bI,bJ,(by omega),(eq_up heq (by omega) ae)⟩,(by omega)⟩
 have ap:=oF ae
 refine wp_g0 (.replicate 9 true) [] 26
   [ve (sv Aa a ca),ve (iv (i:Int)),
    (EP (.int .u32 ((a.getD i 0:Nat):Int))),ve (.int .u32 ((a.getD i 0:Nat):Int)),ve (sv Ab b cb),ve (iv (i:Int)),
    (EP (.int .u32 ((b.getD i 0:Nat):Int))),ve (.int .u32 ((b.getD i 0:Nat):Int)),vT] ao (.eq (.eq (.cons (fun _ _ _ n ⟨_,_,e,h⟩=>⟨_,_,e,h.new_ n⟩) (.eq (.eq (.eq (.cons (fun _ _ _ n ⟨_,_,e,h⟩=>⟨_,_,e,h.new_ n⟩) (.eq (.eq (.nil)))))))))) ?_ ?_
 refine .m (fun k=>k.fx 0 aw)<| .m (fun k=>k.fx 5 ay) ?_
 refine .o1 (tk rfl rfl fun _ w hn k=>(by
       exact x_eaddr (k:=.u32) rfl elW (k.eq1 0 16 rfl) (k.eq1 1 17 rfl) (hra.new_ (ad.transNew hn)) (by omega) fun cv cw hme=>⟨cv,cw,rfl,hme⟩)) ?_
 refine .o1 (tk rfl rfl fun _ w hn k=>(by
       obtain⟨dD,dE,cx,bL⟩:(EP (.int .u32 ((a.getD i 0:Nat):Int))) _ _:=k.dep 2 18 (by kernel_rfl) (by kernel_rfl)
       exact⟨_,v_load rfl cx (l_one Tryz.isAgg56 bL.1),rfl⟩)) ?_
 refine .m (fun k=>k.fx 1 ax)<| .m (fun k=>k.fx 5 ay) ?_
 refine .o1 (tk rfl rfl fun _ w hn k=>(by
       exact x_eaddr (k:=.u32) rfl elW (k.eq1 4 20 rfl) (k.eq1 5 21 rfl) (hrb.new_ (ad.transNew hn)) (by omega) fun cy cz hme=>⟨cy,cz,rfl,hme⟩)) ?_
 refine .o1 (tk rfl rfl fun _ w hn k=>(by
       obtain⟨dF,dG,cA,bM⟩:(EP (.int .u32 ((b.getD i 0:Nat):Int))) _ _:=k.dep 6 22 (by kernel_rfl) (by kernel_rfl)
       exact⟨_,v_load rfl cA (l_one Tryz.isAgg56 bM.1),rfl⟩)) ?_
 exact .t (fun _ w hn k=>⟨_,v_bin rfl (k.eq1 3 19 rfl) (k.eq1 7 23 rfl) (fun _=>rfl) (r_neq ae),rfl⟩) .nil
 refine aftI ao aH ad fun cQ cR az aQ aR cB ac=>?_
 have cS:=ac.fx 13 bh
 have cT:=ac.fx 0 aw
 have cU:=ac.fx 1 ax
 have cV:=ac.fx 12 bi
 have bN:=ac.ge 8 24 rfl
 refine st_nil (aI _ _ ?_)
 refine wp_cond_true bN ?_
 refine wp_seq_k fun cW aS=>?_
 refine wp_g0 [true] [] 26
   [vF] az (.eq (.nil)) ?_ ?_
 exact .t (fun _ w hn k=>⟨_,v_assign rfl rfl,rfl⟩) .nil
 refine aftI az aQ aR fun cX cY cC aT aU cD aV=>?_
 have bO:=aV.ge 0 4 rfl
 refine st_nil (aS _ _ ?_)
 refine wp_ret (ret_k aT (v:=.bool false) (res_t rfl bO _) ?_)
 exact⟨by rw [decide_eq_false (fun e=>by rw [e] at ap; exact ap rfl)],aU⟩
 have aM:=oF ah
 have aW:=hB bg ah
 refine wp_cond_false aW ?_
 refine wp_exit ?_
 refine bo _ _ ?_
 refine wp_seq_k fun cZ aX=>?_
 refine wp_g0 [true] [] 26
   [vT] an (.eq (.nil)) ?_ ?_
 exact .t (fun _ w hn k=>⟨_,v_assign rfl rfl,rfl⟩) .nil
 refine aftI an aF aG fun c0 c1 cE aY aZ cF a1=>?_
 have bP:=a1.ge 0 4 rfl
 refine st_nil (aX _ _ ?_)
 refine wp_ret (ret_k aY (v:=.bool true) (res_t rfl bP _) ?_)
 exact⟨by rw [decide_eq_true (eq_all (by omega) (by omega:i=a.length) heq)],aZ⟩
 have al:=oF af
 refine wp_g0 [true,true,true,true,true] [] 26
   [ve (sv Aa a ca),ve (iv (a.length:Int)),ve (sv Ab b cb),ve (iv (b.length:Int)),vT] av (.eq (.eq (.eq (.eq (.eq (.nil)))))) ?_ ?_
 exact .m (fun k=>k.fx 0 h8)<| .t (fun _ w hn k=>⟨_,v_lenR rfl elW (k.eq1 0 6 rfl),rfl⟩)<| .m (fun k=>k.fx 1 h9)<| .t (fun _ w hn k=>⟨_,v_lenR rfl elW (k.eq1 2 8 rfl),rfl⟩)<| .t (fun _ w hn k=>⟨_,v_bin rfl (k.eq1 1 7 rfl) (k.eq1 3 9 rfl) (fun _=>rfl) (r_neq af),rfl⟩) .nil
 refine aftI av a9 aB fun c2 c3 aA a3 a4 cG aq=>?_
 have c4:=aq.fx 0 h8
 have c5:=aq.fx 1 h9
 have bQ:=aq.ge 4 10 rfl
 refine st_nil (aC _ _ ?_)
 refine wp_cond_true bQ ?_
 refine wp_seq_k fun c6 a5=>?_
 refine wp_g0 [true] [] 26
   [vF] aA (.eq (.nil)) ?_ ?_
 exact .t (fun _ w hn k=>⟨_,v_assign rfl rfl,rfl⟩) .nil
 refine aftI aA a3 a4 fun c8 c9 cH a6 a7 cI a8=>?_
 have bR:=a8.ge 0 4 rfl
 refine st_nil (a5 _ _ ?_)
 refine wp_ret (ret_k a6 (v:=.bool false) (res_t rfl bR _) ?_)
 exact⟨by rw [decide_eq_false (fun e=>by rw [e] at al; exact al rfl)],a7⟩
theorem sequal16_c (Aa:Option Addr) (a:List Nat) (ca:Nat) (Ab:Option Addr) (b:List Nat) (cb:Nat) (w:World) (hra:SRow w .u16 Aa a ca) (hrb:SRow w .u16 Ab b cb):Calls Tryz.prog 50 #[sv Aa a ca,sv Ab b cb] w (IsRet (.bool (decide (a=b))) w):=by
 refine enter_abs Tryz.func50 rfl fun a0 au bS hp=>?_
 have au:a0.tmps.size=26:=au
 have bT:New w w:=Upd.refl _ _
 have hp0:a0.eval (.tmp 0)=sv Aa a ca:=hp 0 _ rfl
 have hp1:a0.eval (.tmp 1)=sv Ab b cb:=hp 1 _ rfl
 have hmx:=hra.max
 have hmy:=hrb.max
 refine wp_seq_k fun K1 bU=>?_
 refine wp_g0 [true] [] 26
   [vF] au (.eq (.nil)) ?_ ?_
 exact .t (fun _ w hn k=>⟨_,v_assign rfl rfl,rfl⟩) .nil
 refine aftI au bS bT fun a2 w3 av a9 aB da ba=>?_
 have h8:=ba.fx 0 hp0
 have h9:=ba.fx 1 hp1
 refine st_nil (bU _ _ (wp_seq_k fun db bl=>?_))
 refine wp_seq_k fun dc aC=>?_
 rcases bc (decide ((a.length:Int)=(b.length:Int))) with af|af
 have al:=oT af
 refine wp_g0 [true,true,true,true,true] [] 26
   [ve (sv Aa a ca),ve (iv (a.length:Int)),ve (sv Ab b cb),ve (iv (b.length:Int)),vF] av (.eq (.eq (.eq (.eq (.eq (.nil)))))) ?_ ?_
 exact .m (fun k=>k.fx 0 h8)<| .t (fun _ w hn k=>⟨_,v_lenR rfl elU (k.eq1 0 6 rfl),rfl⟩)<| .m (fun k=>k.fx 1 h9)<| .t (fun _ w hn k=>⟨_,v_lenR rfl elU (k.eq1 2 8 rfl),rfl⟩)<| .t (fun _ w hn k=>⟨_,v_bin rfl (k.eq1 1 7 rfl) (k.eq1 3 9 rfl) (fun _=>rfl) (r_neq af),rfl⟩) .nil
 refine aftI av a9 aB fun dd de aD bm bn cJ ar=>?_
 have bb:=ar.fx 0 h8
 have bV:=ar.fx 1 h9
 have bW:=ar.ge 4 10 rfl
 refine st_nil (aC _ _ ?_)
 refine wp_cond_false bW ?_
 refine wp_skip ?_
 refine bl _ _ ?_
 refine wp_seq_k fun df bo=>?_
 refine wp_seq_k fun dg bp=>?_
 refine wp_g0 [true,true,true] [] 26
   [ve (sv Aa a ca),ve (iv (a.length:Int)),ve (iv 0)] aD (.eq (.eq (.eq (.nil)))) ?_ ?_
 exact .m (fun k=>k.fx 0 bb)<| .t (fun _ w hn k=>⟨_,v_lenR rfl elU (k.eq1 0 11 rfl),rfl⟩)<| .t (fun _ w hn k=>⟨_,v_move rfl rfl,rfl⟩) .nil
 refine aftI aD bm bn fun dh di bq br bs cK am=>?_
 have bX:=am.fx 0 bb
 have bY:=am.fx 1 bV
 have bZ:=am.ge 1 12 rfl
 have b0:=am.ge 2 13 rfl
 refine st_nil (bp _ _ ?_)
 refine wp_block ?_
 refine wp_loopX (fun (mm:Nat) (aa:Act) (ww:World)=>∃ (i:Nat),mm=a.length - i∧aa.tmps.size=26∧aa.defers=[]∧New w ww∧aa.eval (.tmp 13)=iv (i:Int)∧aa.eval (.tmp 0)=sv Aa a ca∧aa.eval (.tmp 1)=sv Ab b cb∧aa.eval (.tmp 12)=iv (a.length:Int)∧(i≤a.length)∧(∀ j,j < i→a.getD j 0=b.getD j 0)) (fun mm=>mm) ⟨_,⟨0,rfl,bq,br,bs,b0,bX,bY,bZ,(Nat.zero_le _),(fun j h=>absurd h (Nat.not_lt_zero _))⟩⟩ ?_
 rintro mm dj dk ⟨i,hmm,aE,bt,bu,bd,b1,b2,be,hi,heq⟩
 refine wp_seq_k fun dl bv=>?_
 refine wp_g0 [true] [] 26
   [ve (.bool (decide ((i:Int) < (a.length:Int))))] aE (.eq (.nil)) ?_ ?_
 exact .t (fun _ w hn k=>⟨_,v_bin rfl (k.fx 13 bd) (k.fx 12 be) (fun _=>rfl) (r_lssK rfl),rfl⟩) .nil
 refine aftI aE bt bu fun dm dn an aF aG cL ag=>?_
 have bf:=ag.fx 13 bd
 have b3:=ag.fx 0 b1
 have b4:=ag.fx 1 b2
 have b5:=ag.fx 12 be
 have bg:=ag.ge 0 14 rfl
 refine st_nil (bv _ _ (wp_seq_k fun dp bw=>?_))
 rcases bc (decide ((i:Int) < (a.length:Int))) with ah|ah
 have aM:=oT ah
 have bx:=hB bg ah
 refine wp_cond_true bx ?_
 refine wp_skip ?_
 refine bw _ _ ?_
 refine wp_seq_k fun dq bz=>?_
 refine wp_block ?_
 refine wp_seq_k fun dr bA=>?_
 refine wp_g0 [true,true] [] 26
   [ve (iv (i:Int)),ve (iv (i:Int))] an (.eq (.eq (.nil))) ?_ ?_
 exact .m (fun k=>k.fx 13 bf)<| .a (fun k=>k.eq1 0 15 rfl) .nil
 refine aftI an aF aG fun ds dt ao aH ad cM ai=>?_
 have bh:=ai.fx 13 bf
 have aw:=ai.fx 0 b3
 have ax:=ai.fx 1 b4
 have bi:=ai.fx 12 b5
 have ay:=ai.ge 1 5 rfl
 refine st_nil (bA _ _ (wp_seq_k fun du aI=>?_))
 rcases bc (decide (((a.getD i 0:Nat):Int)=((b.getD i 0:Nat):Int))) with ae|ae
 have ap:=oT ae
 refine wp_g0 (.replicate 9 true) [] 26
   [ve (sv Aa a ca),ve (iv (i:Int)),
    (EP (.int .u16 ((a.getD i 0:Nat):Int))),ve (.int .u16 ((a.getD i 0:Nat):Int)),ve (sv Ab b cb),ve (iv (i:Int)),
    (EP (.int .u16 ((b.getD i 0:Nat):Int))),ve (.int .u16 ((b.getD i 0:Nat):Int)),vF] ao (.eq (.eq (.cons (fun _ _ _ n ⟨_,_,e,h⟩=>⟨_,_,e,h.new_ n⟩) (.eq (.eq (.eq (.cons (fun _ _ _ n ⟨_,_,e,h⟩=>⟨_,_,e,h.new_ n⟩) (.eq (.eq (.nil)))))))))) ?_ ?_
 refine .m (fun k=>k.fx 0 aw)<| .m (fun k=>k.fx 5 ay) ?_
 refine .o1 (tk rfl rfl fun _ w hn k=>(by
       exact x_eaddr (k:=.u16) rfl elU (k.eq1 0 16 rfl) (k.eq1 1 17 rfl) (hra.new_ (ad.transNew hn)) (by omega) fun cc cd hme=>⟨cc,cd,rfl,hme⟩)) ?_
 refine .o1 (tk rfl rfl fun _ w hn k=>(by
       obtain⟨dv,dw,ce,bB⟩:(EP (.int .u16 ((a.getD i 0:Nat):Int))) _ _:=k.dep 2 18 (by kernel_rfl) (by kernel_rfl)
       exact⟨_,v_load rfl ce (l_one Tryz.isAgg74 bB.1),rfl⟩)) ?_
 refine .m (fun k=>k.fx 1 ax)<| .m (fun k=>k.fx 5 ay) ?_
 refine .o1 (tk rfl rfl fun _ w hn k=>(by
       exact x_eaddr (k:=.u16) rfl elU (k.eq1 4 20 rfl) (k.eq1 5 21 rfl) (hrb.new_ (ad.transNew hn)) (by omega) fun cf ch hme=>⟨cf,ch,rfl,hme⟩)) ?_
 refine .o1 (tk rfl rfl fun _ w hn k=>(by
       obtain⟨dx,dy,ci,bC⟩:(EP (.int .u16 ((b.getD i 0:Nat):Int))) _ _:=k.dep 6 22 (by kernel_rfl) (by kernel_rfl)
       exact⟨_,v_load rfl ci (l_one Tryz.isAgg74 bC.1),rfl⟩)) ?_
 exact .t (fun _ w hn k=>⟨_,v_bin rfl (k.eq1 3 19 rfl) (k.eq1 7 23 rfl) (fun _=>rfl) (r_neq ae),rfl⟩) .nil
 refine aftI ao aH ad fun dz dA aJ bD bE cN aj=>?_
 have bj:=aj.fx 13 bh
 have cj:=aj.fx 0 aw
 have cl:=aj.fx 1 ax
 have cm:=aj.fx 12 bi
 have cn:=aj.ge 8 24 rfl
 refine st_nil (aI _ _ ?_)
 refine wp_cond_false cn ?_
 refine wp_skip ?_
 refine bz _ _ ?_
 refine wp_g0 [true,false] [(1,true)] 26
   [ve (iv ((i + 1:Nat):Int)),vt] aJ (.eq (.tt (.nil))) ?_ ?_
 exact .t (fun _ w hn k=>⟨_,v_bin rfl (k.fx 13 bj) rfl (fun _=>rfl) (n_add (by omega) (IntWalk.i64_in _ (by omega))),rfl⟩)<| .off .nil
 refine aftI aJ bD bE fun bk dB aK bF aN cO ak=>?_
 have dC:=ak.fx 13 bj
 have co:=ak.fx 0 cj
 have cp:=ak.fx 1 cl
 have cq:=ak.fx 12 cm
 have aL:=ak.ge 0 25 rfl
 refine st_take rfl rfl (y_move (v:=iv ((i + 1:Nat):Int)) rfl aL) rfl ?_
 obtain⟨bG,ab⟩:∃ a',a'=bk.put (some 13) (iv ((i + 1:Nat):Int)):=⟨_,rfl⟩
 have aO:=pz ab aK
 have aP:=pd ab bF
 have bH:=pn ab co (by decide)
 have bI:=pn ab cp (by decide)
 have bJ:=pn ab cq (by decide)
 have cP:=pn ab aL (by decide)
 have bK:bG.eval (.tmp 13)=iv ((i + 1:Nat):Int):=by rw [ab]; exact put_same _ _ _ (by rw [aK]; decide)
 show stepsTo _ _ _ _ _ (bk.put (some 13) (iv ((i + 1:Nat):Int))) _
 rw [← ab]
 refine st_nil ?_
 refine then_n ?_
 exact⟨_,⟨i + 1,rfl,aO,aP,aN,(bK.trans (congrArg (Value.int .i64) (by omega))),bH,bI,bJ,(by omega),(eq_up heq (by omega) ae)⟩,(by omega)⟩
 have ap:=oF ae
 refine wp_g0 (.replicate 9 true) [] 26
   [ve (sv Aa a ca),ve (iv (i:Int)),
    (EP (.int .u16 ((a.getD i 0:Nat):Int))),ve (.int .u16 ((a.getD i 0:Nat):Int)),ve (sv Ab b cb),ve (iv (i:Int)),
    (EP (.int .u16 ((b.getD i 0:Nat):Int))),ve (.int .u16 ((b.getD i 0:Nat):Int)),vT] ao (.eq (.eq (.cons (fun _ _ _ n ⟨_,_,e,h⟩=>⟨_,_,e,h.new_ n⟩) (.eq (.eq (.eq (.cons (fun _ _ _ n ⟨_,_,e,h⟩=>⟨_,_,e,h.new_ n⟩) (.eq (.eq (.nil)))))))))) ?_ ?_
 refine .m (fun k=>k.fx 0 aw)<| .m (fun k=>k.fx 5 ay) ?_
 refine .o1 (tk rfl rfl fun _ w hn k=>(by
       exact x_eaddr (k:=.u16) rfl elU (k.eq1 0 16 rfl) (k.eq1 1 17 rfl) (hra.new_ (ad.transNew hn)) (by omega) fun cv cw hme=>⟨cv,cw,rfl,hme⟩)) ?_
 refine .o1 (tk rfl rfl fun _ w hn k=>(by
       obtain⟨dD,dE,cx,bL⟩:(EP (.int .u16 ((a.getD i 0:Nat):Int))) _ _:=k.dep 2 18 (by kernel_rfl) (by kernel_rfl)
       exact⟨_,v_load rfl cx (l_one Tryz.isAgg74 bL.1),rfl⟩)) ?_
 refine .m (fun k=>k.fx 1 ax)<| .m (fun k=>k.fx 5 ay) ?_
 refine .o1 (tk rfl rfl fun _ w hn k=>(by
       exact x_eaddr (k:=.u16) rfl elU (k.eq1 4 20 rfl) (k.eq1 5 21 rfl) (hrb.new_ (ad.transNew hn)) (by omega) fun cy cz hme=>⟨cy,cz,rfl,hme⟩)) ?_
 refine .o1 (tk rfl rfl fun _ w hn k=>(by
       obtain⟨dF,dG,cA,bM⟩:(EP (.int .u16 ((b.getD i 0:Nat):Int))) _ _:=k.dep 6 22 (by kernel_rfl) (by kernel_rfl)
       exact⟨_,v_load rfl cA (l_one Tryz.isAgg74 bM.1),rfl⟩)) ?_
 exact .t (fun _ w hn k=>⟨_,v_bin rfl (k.eq1 3 19 rfl) (k.eq1 7 23 rfl) (fun _=>rfl) (r_neq ae),rfl⟩) .nil
 refine aftI ao aH ad fun cQ cR az aQ aR cB ac=>?_
 have cS:=ac.fx 13 bh
 have cT:=ac.fx 0 aw
 have cU:=ac.fx 1 ax
 have cV:=ac.fx 12 bi
 have bN:=ac.ge 8 24 rfl
 refine st_nil (aI _ _ ?_)
 refine wp_cond_true bN ?_
 refine wp_seq_k fun cW aS=>?_
 refine wp_g0 [true] [] 26
   [vF] az (.eq (.nil)) ?_ ?_
 exact .t (fun _ w hn k=>⟨_,v_assign rfl rfl,rfl⟩) .nil
 refine aftI az aQ aR fun cX cY cC aT aU cD aV=>?_
 have bO:=aV.ge 0 4 rfl
 refine st_nil (aS _ _ ?_)
 refine wp_ret (ret_k aT (v:=.bool false) (res_t rfl bO _) ?_)
 exact⟨by rw [decide_eq_false (fun e=>by rw [e] at ap; exact ap rfl)],aU⟩
 have aM:=oF ah
 have aW:=hB bg ah
 refine wp_cond_false aW ?_
 refine wp_exit ?_
 refine bo _ _ ?_
 refine wp_seq_k fun cZ aX=>?_
 refine wp_g0 [true] [] 26
   [vT] an (.eq (.nil)) ?_ ?_
 exact .t (fun _ w hn k=>⟨_,v_assign rfl rfl,rfl⟩) .nil
 refine aftI an aF aG fun c0 c1 cE aY aZ cF a1=>?_
 have bP:=a1.ge 0 4 rfl
 refine st_nil (aX _ _ ?_)
 refine wp_ret (ret_k aY (v:=.bool true) (res_t rfl bP _) ?_)
 exact⟨by rw [decide_eq_true (eq_all (by omega) (by omega:i=a.length) heq)],aZ⟩
 have al:=oF af
 refine wp_g0 [true,true,true,true,true] [] 26
   [ve (sv Aa a ca),ve (iv (a.length:Int)),ve (sv Ab b cb),ve (iv (b.length:Int)),vT] av (.eq (.eq (.eq (.eq (.eq (.nil)))))) ?_ ?_
 exact .m (fun k=>k.fx 0 h8)<| .t (fun _ w hn k=>⟨_,v_lenR rfl elU (k.eq1 0 6 rfl),rfl⟩)<| .m (fun k=>k.fx 1 h9)<| .t (fun _ w hn k=>⟨_,v_lenR rfl elU (k.eq1 2 8 rfl),rfl⟩)<| .t (fun _ w hn k=>⟨_,v_bin rfl (k.eq1 1 7 rfl) (k.eq1 3 9 rfl) (fun _=>rfl) (r_neq af),rfl⟩) .nil
 refine aftI av a9 aB fun c2 c3 aA a3 a4 cG aq=>?_
 have c4:=aq.fx 0 h8
 have c5:=aq.fx 1 h9
 have bQ:=aq.ge 4 10 rfl
 refine st_nil (aC _ _ ?_)
 refine wp_cond_true bQ ?_
 refine wp_seq_k fun c6 a5=>?_
 refine wp_g0 [true] [] 26
   [vF] aA (.eq (.nil)) ?_ ?_
 exact .t (fun _ w hn k=>⟨_,v_assign rfl rfl,rfl⟩) .nil
 refine aftI aA a3 a4 fun c8 c9 cH a6 a7 cI a8=>?_
 have bR:=a8.ge 0 4 rfl
 refine st_nil (a5 _ _ ?_)
 refine wp_ret (ret_k a6 (v:=.bool false) (res_t rfl bR _) ?_)
 exact⟨by rw [decide_eq_false (fun e=>by rw [e] at al; exact al rfl)],a7⟩
theorem vsame_c (v:Vl) (Av:Option Addr) (cv:Nat) (Bv:Option Addr) (dv:Nat) (u:Vl) (Au:Option Addr) (cu:Nat) (Bu:Option Addr) (du:Nat) (w:World) (hmv:SRow w .u32 Av v.mag cv) (hsv:SRow w .u16 Bv v.s dv) (hmu:SRow w .u32 Au u.mag cu) (hsu:SRow w .u16 Bu u.s du):Calls Tryz.prog 15 #[vv v Av cv Bv dv,vv u Au cu Bu du] w (IsRet (.bool (sameV v u)) w):=by
 refine enter_abs Tryz.func15 rfl fun a0 af ap hp=>?_
 have af:a0.tmps.size=49:=af
 have ag:New w w:=Upd.refl _ _
 have hp0:a0.eval (.tmp 0)=vv v Av cv Bv dv:=hp 0 _ rfl
 have hp1:a0.eval (.tmp 1)=vv u Au cu Bu du:=hp 1 _ rfl
 refine wp_seq_k fun K1 aq=>?_
 refine wp_g [true,true,true] [] [] 49
   [IsNew w 29 (c7 v Av cv Bv dv),IsNew w 29 (c7 u Au cu Bu du),vF]
   [0,1] (newsCons (fun v w h=>IsNew.old h) (newsCons (fun v w h=>IsNew.old h) newsNil)) af (.nw (.nw (.eq (.nil)))) ?_ (fun i h=>by cases h) ?_
 exact .o2 (step_allocN (cs:=(c7 v Av cv Bv dv)) (t:=29) rfl (noG rfl) (fun _ w hn k=>v_box rfl (k.fx 0 hp0) (fun w=>rfl)) (fun q _ hq hb=>⟨q,rfl,hq,hb⟩))<| .o2 (step_allocN (cs:=(c7 u Au cu Bu du)) (t:=29) rfl (noG rfl) (fun _ w hn k=>v_box rfl (k.fx 1 hp1) (fun w=>rfl)) (fun q _ hq hb=>⟨q,rfl,hq,hb⟩))<| .t (fun _ w hn k=>⟨_,v_assign rfl rfl,rfl⟩) .nil
 refine aftI af ap ag fun a2 w3 ah ar ad az ai=>?_
 obtain⟨q9,h8,aj,aa⟩:=ai.G 0 2
 obtain⟨ac,ae,ak,ab⟩:=ai.G 1 3
 have av:=Nat.le_trans ag.size aj
 have aw:=Nat.le_trans ag.size ak
 refine st_nil (aq _ _ (wp_seq_k fun aA al=>?_))
 refine wp_g0 (.replicate 45 true) [] 49
   [ve (pv q9),ve (iv v.k),ve (pv ac),ve (iv u.k),ve (.bool (decide (v.k=u.k))),ve (.bool (decide (v.k=u.k))),ve (gq (decide (v.k=u.k)) (.pointer (some ⟨q9,1,none⟩))),ve (gq (decide (v.k=u.k)) (nv (Nm.mk v.nk v.nn))),ve (gq (decide (v.k=u.k)) (.pointer (some ⟨ac,1,none⟩))),ve (gq (decide (v.k=u.k)) (nv (Nm.mk u.nk u.nn))),ve (gq (decide (v.k=u.k)) (.bool (decide (v.nk=u.nk) && decide (v.nn=u.nn)))),ve (.bool ((decide (v.k=u.k)) && (decide (v.nk=u.nk) && decide (v.nn=u.nn)))),ve (.bool ((decide (v.k=u.k)) && (decide (v.nk=u.nk) && decide (v.nn=u.nn)))),ve (gq ((decide (v.k=u.k)) && (decide (v.nk=u.nk) && decide (v.nn=u.nn))) (.pointer (some ⟨q9,3,none⟩))),ve (gq ((decide (v.k=u.k)) && (decide (v.nk=u.nk) && decide (v.nn=u.nn))) (.pointer (some ⟨q9,3,none⟩))),ve (gq ((decide (v.k=u.k)) && (decide (v.nk=u.nk) && decide (v.nn=u.nn))) (.bool v.neg)),ve (gq ((decide (v.k=u.k)) && (decide (v.nk=u.nk) && decide (v.nn=u.nn))) (.pointer (some ⟨ac,3,none⟩))),ve (gq ((decide (v.k=u.k)) && (decide (v.nk=u.nk) && decide (v.nn=u.nn))) (.pointer (some ⟨ac,3,none⟩))),ve (gq ((decide (v.k=u.k)) && (decide (v.nk=u.nk) && decide (v.nn=u.nn))) (.bool u.neg)),ve (gq ((decide (v.k=u.k)) && (decide (v.nk=u.nk) && decide (v.nn=u.nn))) (.bool (v.neg == u.neg))),ve (.bool (((decide (v.k=u.k)) && (decide (v.nk=u.nk) && decide (v.nn=u.nn))) && (v.neg == u.neg))),ve (.bool (((decide (v.k=u.k)) && (decide (v.nk=u.nk) && decide (v.nn=u.nn))) && (v.neg == u.neg))),ve (gq (((decide (v.k=u.k)) && (decide (v.nk=u.nk) && decide (v.nn=u.nn))) && (v.neg == u.neg)) (.pointer (some ⟨q9,3,none⟩))),ve (gq (((decide (v.k=u.k)) && (decide (v.nk=u.nk) && decide (v.nn=u.nn))) && (v.neg == u.neg)) (.pointer (some ⟨q9,4,none⟩))),ve (gq (((decide (v.k=u.k)) && (decide (v.nk=u.nk) && decide (v.nn=u.nn))) && (v.neg == u.neg)) (sv Av v.mag cv)),ve (gq (((decide (v.k=u.k)) && (decide (v.nk=u.nk) && decide (v.nn=u.nn))) && (v.neg == u.neg)) (.pointer (some ⟨ac,3,none⟩))),ve (gq (((decide (v.k=u.k)) && (decide (v.nk=u.nk) && decide (v.nn=u.nn))) && (v.neg == u.neg)) (.pointer (some ⟨ac,4,none⟩))),ve (gq (((decide (v.k=u.k)) && (decide (v.nk=u.nk) && decide (v.nn=u.nn))) && (v.neg == u.neg)) (sv Au u.mag cu)),ve (gq (((decide (v.k=u.k)) && (decide (v.nk=u.nk) && decide (v.nn=u.nn))) && (v.neg == u.neg)) (.bool (decide (v.mag=u.mag)))),ve (.bool ((((decide (v.k=u.k)) && (decide (v.nk=u.nk) && decide (v.nn=u.nn))) && (v.neg == u.neg)) && (decide (v.mag=u.mag)))),ve (.bool ((((decide (v.k=u.k)) && (decide (v.nk=u.nk) && decide (v.nn=u.nn))) && (v.neg == u.neg)) && (decide (v.mag=u.mag)))),ve (gq ((((decide (v.k=u.k)) && (decide (v.nk=u.nk) && decide (v.nn=u.nn))) && (v.neg == u.neg)) && (decide (v.mag=u.mag))) (.pointer (some ⟨q9,5,none⟩))),ve (gq ((((decide (v.k=u.k)) && (decide (v.nk=u.nk) && decide (v.nn=u.nn))) && (v.neg == u.neg)) && (decide (v.mag=u.mag))) (sv Bv v.s dv)),ve (gq ((((decide (v.k=u.k)) && (decide (v.nk=u.nk) && decide (v.nn=u.nn))) && (v.neg == u.neg)) && (decide (v.mag=u.mag))) (.pointer (some ⟨ac,5,none⟩))),ve (gq ((((decide (v.k=u.k)) && (decide (v.nk=u.nk) && decide (v.nn=u.nn))) && (v.neg == u.neg)) && (decide (v.mag=u.mag))) (sv Bu u.s du)),ve (gq ((((decide (v.k=u.k)) && (decide (v.nk=u.nk) && decide (v.nn=u.nn))) && (v.neg == u.neg)) && (decide (v.mag=u.mag))) (.bool (decide (v.s=u.s)))),ve (.bool (((((decide (v.k=u.k)) && (decide (v.nk=u.nk) && decide (v.nn=u.nn))) && (v.neg == u.neg)) && (decide (v.mag=u.mag))) && (decide (v.s=u.s)))),ve (.bool (((((decide (v.k=u.k)) && (decide (v.nk=u.nk) && decide (v.nn=u.nn))) && (v.neg == u.neg)) && (decide (v.mag=u.mag))) && (decide (v.s=u.s)))),ve (gq (((((decide (v.k=u.k)) && (decide (v.nk=u.nk) && decide (v.nn=u.nn))) && (v.neg == u.neg)) && (decide (v.mag=u.mag))) && (decide (v.s=u.s))) (.pointer (some ⟨q9,6,none⟩))),ve (gq (((((decide (v.k=u.k)) && (decide (v.nk=u.nk) && decide (v.nn=u.nn))) && (v.neg == u.neg)) && (decide (v.mag=u.mag))) && (decide (v.s=u.s))) (iv v.ref)),ve (gq (((((decide (v.k=u.k)) && (decide (v.nk=u.nk) && decide (v.nn=u.nn))) && (v.neg == u.neg)) && (decide (v.mag=u.mag))) && (decide (v.s=u.s))) (.pointer (some ⟨ac,6,none⟩))),ve (gq (((((decide (v.k=u.k)) && (decide (v.nk=u.nk) && decide (v.nn=u.nn))) && (v.neg == u.neg)) && (decide (v.mag=u.mag))) && (decide (v.s=u.s))) (iv u.ref)),ve (gq (((((decide (v.k=u.k)) && (decide (v.nk=u.nk) && decide (v.nn=u.nn))) && (v.neg == u.neg)) && (decide (v.mag=u.mag))) && (decide (v.s=u.s))) (.bool (decide (v.ref=u.ref)))),ve (.bool ((((((decide (v.k=u.k)) && (decide (v.nk=u.nk) && decide (v.nn=u.nn))) && (v.neg == u.neg)) && (decide (v.mag=u.mag))) && (decide (v.s=u.s))) && (decide (v.ref=u.ref)))),ve (.bool ((((((decide (v.k=u.k)) && (decide (v.nk=u.nk) && decide (v.nn=u.nn))) && (v.neg == u.neg)) && (decide (v.mag=u.mag))) && (decide (v.s=u.s))) && (decide (v.ref=u.ref))))] ah (.eq (.eq (.eq (.eq (.eq (.eq (.eq (.eq (.eq (.eq (.eq (.eq (.eq (.eq (.eq (.eq (.eq (.eq (.eq (.eq (.eq (.eq (.eq (.eq (.eq (.eq (.eq (.eq (.eq (.eq (.eq (.eq (.eq (.eq (.eq (.eq (.eq (.eq (.eq (.eq (.eq (.eq (.eq (.eq (.eq (.nil)))))))))))))))))))))))))))))))))))))))))))))) ?_ ?_
 exact .f (fun k=>k.fx 2 h8)<| .t (fun _ w hn k=>⟨_,v_load rfl (k.eq1 0 5 rfl) (l_one Tryz.isAgg3 ((aa.new_ hn).cell 0)),rfl⟩)<| .f (fun k=>k.fx 3 ae)<| .t (fun _ w hn k=>⟨_,v_load rfl (k.eq1 2 7 rfl) (l_one Tryz.isAgg3 ((ab.new_ hn).cell 0)),rfl⟩)<| .t (fun _ w hn k=>⟨_,v_bin rfl (k.eq1 1 6 rfl) (k.eq1 3 8 rfl) (fun _=>rfl) (r_eql rfl),rfl⟩)<| .m (fun k=>k.eq1 4 9 rfl)<| .o1 (sc (G:=(decide (v.k=u.k))) rfl rfl rfl (fun _ _ k=>g0 (k.eq1 5 10 rfl)) (fun hG _ w hn k=>v_field rfl (k.fx 2 h8) (fun w=>rfl)))<| .o1 (sc (G:=(decide (v.k=u.k))) rfl rfl rfl (fun _ _ k=>g0 (k.eq1 5 10 rfl)) (fun hG _ w hn k=>v_load rfl (cT hG (k.eq1 6 11 rfl)) (l_part Tryz.isAgg23 Tryz.sizeOf23 (aa.new_ hn) lb)))<| .o1 (sc (G:=(decide (v.k=u.k))) rfl rfl rfl (fun _ _ k=>g0 (k.eq1 5 10 rfl)) (fun hG _ w hn k=>v_field rfl (k.fx 3 ae) (fun w=>rfl)))<| .o1 (sc (G:=(decide (v.k=u.k))) rfl rfl rfl (fun _ _ k=>g0 (k.eq1 5 10 rfl)) (fun hG _ w hn k=>v_load rfl (cT hG (k.eq1 8 13 rfl)) (l_part Tryz.isAgg23 Tryz.sizeOf23 (ab.new_ hn) lb)))<| .o1 (sc (G:=(decide (v.k=u.k))) rfl rfl rfl (fun _ _ k=>g0 (k.eq1 5 10 rfl)) (fun hG _ w hn k=>v_bin rfl (cT hG (k.eq1 7 12 rfl)) (cT hG (k.eq1 9 14 rfl)) (gNum _ _ _ _) (eqlNum _ _ _ _ rfl)))<| .t (fun _ w hn k=>⟨_,v_and rfl (k.eq1 5 10 rfl) (fun hg=>(cT hg (k.eq1 10 15 rfl))) rfl,rfl⟩)<| .m (fun k=>k.eq1 11 16 rfl)<| .o1 (sc (G:=((decide (v.k=u.k)) && (decide (v.nk=u.nk) && decide (v.nn=u.nn)))) rfl rfl rfl (fun _ _ k=>g0 (k.eq1 12 17 rfl)) (fun hG _ w hn k=>v_field rfl (k.fx 2 h8) (fun w=>rfl)))<| .o1 (sc (G:=((decide (v.k=u.k)) && (decide (v.nk=u.nk) && decide (v.nn=u.nn)))) rfl rfl rfl (fun _ _ k=>g0 (k.eq1 12 17 rfl)) (fun hG _ w hn k=>v_field rfl (cT hG (k.eq1 13 18 rfl)) (fun w=>rfl)))<| .o1 (sc (G:=((decide (v.k=u.k)) && (decide (v.nk=u.nk) && decide (v.nn=u.nn)))) rfl rfl rfl (fun _ _ k=>g0 (k.eq1 12 17 rfl)) (fun hG _ w hn k=>v_load rfl (cT hG (k.eq1 14 19 rfl)) (l_one Tryz.isAgg4 ((aa.new_ hn).cell 3))))<| .o1 (sc (G:=((decide (v.k=u.k)) && (decide (v.nk=u.nk) && decide (v.nn=u.nn)))) rfl rfl rfl (fun _ _ k=>g0 (k.eq1 12 17 rfl)) (fun hG _ w hn k=>v_field rfl (k.fx 3 ae) (fun w=>rfl)))<| .o1 (sc (G:=((decide (v.k=u.k)) && (decide (v.nk=u.nk) && decide (v.nn=u.nn)))) rfl rfl rfl (fun _ _ k=>g0 (k.eq1 12 17 rfl)) (fun hG _ w hn k=>v_field rfl (cT hG (k.eq1 16 21 rfl)) (fun w=>rfl)))<| .o1 (sc (G:=((decide (v.k=u.k)) && (decide (v.nk=u.nk) && decide (v.nn=u.nn)))) rfl rfl rfl (fun _ _ k=>g0 (k.eq1 12 17 rfl)) (fun hG _ w hn k=>v_load rfl (cT hG (k.eq1 17 22 rfl)) (l_one Tryz.isAgg4 ((ab.new_ hn).cell 3))))<| .o1 (sc (G:=((decide (v.k=u.k)) && (decide (v.nk=u.nk) && decide (v.nn=u.nn)))) rfl rfl rfl (fun _ _ k=>g0 (k.eq1 12 17 rfl)) (fun hG _ w hn k=>v_bin rfl (cT hG (k.eq1 15 20 rfl)) (cT hG (k.eq1 18 23 rfl)) (fun _=>rfl) (r_eqlB _ _)))<| .t (fun _ w hn k=>⟨_,v_and rfl (k.eq1 12 17 rfl) (fun hg=>(cT hg (k.eq1 19 24 rfl))) rfl,rfl⟩)<| .m (fun k=>k.eq1 20 25 rfl)<| .o1 (sc (G:=(((decide (v.k=u.k)) && (decide (v.nk=u.nk) && decide (v.nn=u.nn))) && (v.neg == u.neg))) rfl rfl rfl (fun _ _ k=>g0 (k.eq1 21 26 rfl)) (fun hG _ w hn k=>v_field rfl (k.fx 2 h8) (fun w=>rfl)))<| .o1 (sc (G:=(((decide (v.k=u.k)) && (decide (v.nk=u.nk) && decide (v.nn=u.nn))) && (v.neg == u.neg))) rfl rfl rfl (fun _ _ k=>g0 (k.eq1 21 26 rfl)) (fun hG _ w hn k=>v_field rfl (cT hG (k.eq1 22 27 rfl)) (fun w=>rfl)))<| .o1 (sc (G:=(((decide (v.k=u.k)) && (decide (v.nk=u.nk) && decide (v.nn=u.nn))) && (v.neg == u.neg))) rfl rfl rfl (fun _ _ k=>g0 (k.eq1 21 26 rfl)) (fun hG _ w hn k=>v_load rfl (cT hG (k.eq1 23 28 rfl)) (l_one Tryz.isAgg24 ((aa.new_ hn).cell 4))))<| .o1 (sc (G:=(((decide (v.k=u.k)) && (decide (v.nk=u.nk) && decide (v.nn=u.nn))) && (v.neg == u.neg))) rfl rfl rfl (fun _ _ k=>g0 (k.eq1 21 26 rfl)) (fun hG _ w hn k=>v_field rfl (k.fx 3 ae) (fun w=>rfl)))<| .o1 (sc (G:=(((decide (v.k=u.k)) && (decide (v.nk=u.nk) && decide (v.nn=u.nn))) && (v.neg == u.neg))) rfl rfl rfl (fun _ _ k=>g0 (k.eq1 21 26 rfl)) (fun hG _ w hn k=>v_field rfl (cT hG (k.eq1 25 30 rfl)) (fun w=>rfl)))<| .o1 (sc (G:=(((decide (v.k=u.k)) && (decide (v.nk=u.nk) && decide (v.nn=u.nn))) && (v.neg == u.neg))) rfl rfl rfl (fun _ _ k=>g0 (k.eq1 21 26 rfl)) (fun hG _ w hn k=>v_load rfl (cT hG (k.eq1 26 31 rfl)) (l_one Tryz.isAgg24 ((ab.new_ hn).cell 4))))<| .o1 (scC (G:=(((decide (v.k=u.k)) && (decide (v.nk=u.nk) && decide (v.nn=u.nn))) && (v.neg == u.neg))) rfl rfl rfl (fun _ _ k=>g0 (k.eq1 21 26 rfl)) rfl (fun hG _ w hn k=>⟨#[sv Av v.mag cv,sv Au u.mag cu],args2 (cT hG (k.eq1 24 29 rfl)) (cT hG (k.eq1 27 32 rfl)),fun _=>by kernel_rfl,sequal32_c _ v.mag _ _ u.mag _ _ (hmv.new_ (ad.transNew hn)) (hmu.new_ (ad.transNew hn))⟩))<| .t (fun _ w hn k=>⟨_,v_and rfl (k.eq1 21 26 rfl) (fun hg=>(cT hg (k.eq1 28 33 rfl))) rfl,rfl⟩)<| .m (fun k=>k.eq1 29 34 rfl)<| .o1 (sc (G:=((((decide (v.k=u.k)) && (decide (v.nk=u.nk) && decide (v.nn=u.nn))) && (v.neg == u.neg)) && (decide (v.mag=u.mag)))) rfl rfl rfl (fun _ _ k=>g0 (k.eq1 30 35 rfl)) (fun hG _ w hn k=>v_field rfl (k.fx 2 h8) (fun w=>rfl)))<| .o1 (sc (G:=((((decide (v.k=u.k)) && (decide (v.nk=u.nk) && decide (v.nn=u.nn))) && (v.neg == u.neg)) && (decide (v.mag=u.mag)))) rfl rfl rfl (fun _ _ k=>g0 (k.eq1 30 35 rfl)) (fun hG _ w hn k=>v_load rfl (cT hG (k.eq1 31 36 rfl)) (l_one Tryz.isAgg27 ((aa.new_ hn).cell 5))))<| .o1 (sc (G:=((((decide (v.k=u.k)) && (decide (v.nk=u.nk) && decide (v.nn=u.nn))) && (v.neg == u.neg)) && (decide (v.mag=u.mag)))) rfl rfl rfl (fun _ _ k=>g0 (k.eq1 30 35 rfl)) (fun hG _ w hn k=>v_field rfl (k.fx 3 ae) (fun w=>rfl)))<| .o1 (sc (G:=((((decide (v.k=u.k)) && (decide (v.nk=u.nk) && decide (v.nn=u.nn))) && (v.neg == u.neg)) && (decide (v.mag=u.mag)))) rfl rfl rfl (fun _ _ k=>g0 (k.eq1 30 35 rfl)) (fun hG _ w hn k=>v_load rfl (cT hG (k.eq1 33 38 rfl)) (l_one Tryz.isAgg27 ((ab.new_ hn).cell 5))))<| .o1 (scC (G:=((((decide (v.k=u.k)) && (decide (v.nk=u.nk) && decide (v.nn=u.nn))) && (v.neg == u.neg)) && (decide (v.mag=u.mag)))) rfl rfl rfl (fun _ _ k=>g0 (k.eq1 30 35 rfl)) rfl (fun hG _ w hn k=>⟨#[sv Bv v.s dv,sv Bu u.s du],args2 (cT hG (k.eq1 32 37 rfl)) (cT hG (k.eq1 34 39 rfl)),fun _=>by kernel_rfl,sequal16_c _ v.s _ _ u.s _ _ (hsv.new_ (ad.transNew hn)) (hsu.new_ (ad.transNew hn))⟩))<| .t (fun _ w hn k=>⟨_,v_and rfl (k.eq1 30 35 rfl) (fun hg=>(cT hg (k.eq1 35 40 rfl))) rfl,rfl⟩)<| .m (fun k=>k.eq1 36 41 rfl)<| .o1 (sc (G:=(((((decide (v.k=u.k)) && (decide (v.nk=u.nk) && decide (v.nn=u.nn))) && (v.neg == u.neg)) && (decide (v.mag=u.mag))) && (decide (v.s=u.s)))) rfl rfl rfl (fun _ _ k=>g0 (k.eq1 37 42 rfl)) (fun hG _ w hn k=>v_field rfl (k.fx 2 h8) (fun w=>rfl)))<| .o1 (sc (G:=(((((decide (v.k=u.k)) && (decide (v.nk=u.nk) && decide (v.nn=u.nn))) && (v.neg == u.neg)) && (decide (v.mag=u.mag))) && (decide (v.s=u.s)))) rfl rfl rfl (fun _ _ k=>g0 (k.eq1 37 42 rfl)) (fun hG _ w hn k=>v_load rfl (cT hG (k.eq1 38 43 rfl)) (l_one Tryz.isAgg3 ((aa.new_ hn).cell 6))))<| .o1 (sc (G:=(((((decide (v.k=u.k)) && (decide (v.nk=u.nk) && decide (v.nn=u.nn))) && (v.neg == u.neg)) && (decide (v.mag=u.mag))) && (decide (v.s=u.s)))) rfl rfl rfl (fun _ _ k=>g0 (k.eq1 37 42 rfl)) (fun hG _ w hn k=>v_field rfl (k.fx 3 ae) (fun w=>rfl)))<| .o1 (sc (G:=(((((decide (v.k=u.k)) && (decide (v.nk=u.nk) && decide (v.nn=u.nn))) && (v.neg == u.neg)) && (decide (v.mag=u.mag))) && (decide (v.s=u.s)))) rfl rfl rfl (fun _ _ k=>g0 (k.eq1 37 42 rfl)) (fun hG _ w hn k=>v_load rfl (cT hG (k.eq1 40 45 rfl)) (l_one Tryz.isAgg3 ((ab.new_ hn).cell 6))))<| .o1 (sc (G:=(((((decide (v.k=u.k)) && (decide (v.nk=u.nk) && decide (v.nn=u.nn))) && (v.neg == u.neg)) && (decide (v.mag=u.mag))) && (decide (v.s=u.s)))) rfl rfl rfl (fun _ _ k=>g0 (k.eq1 37 42 rfl)) (fun hG _ w hn k=>v_bin rfl (cT hG (k.eq1 39 44 rfl)) (cT hG (k.eq1 41 46 rfl)) (fun _=>rfl) (r_eql rfl)))<| .t (fun _ w hn k=>⟨_,v_and rfl (k.eq1 37 42 rfl) (fun hg=>(cT hg (k.eq1 42 47 rfl))) rfl,rfl⟩)<| .a (fun k=>k.eq1 43 48 rfl) .nil
 refine aftI ah ar ad fun aB aC ax am an ay ao=>?_
 have au:=ao.ge 44 4 rfl
 refine st_nil (al _ _ ?_)
 refine wp_ret (ret_k am (v:=.bool ((((((decide (v.k=u.k)) && (decide (v.nk=u.nk) && decide (v.nn=u.nn))) && (v.neg == u.neg)) && (decide (v.mag=u.mag))) && (decide (v.s=u.s))) && (decide (v.ref=u.ref)))) (res_t rfl au _) ?_)
 refine ⟨?_,an⟩
 show Ending.returned (.bool ((((((decide (v.k=u.k)) && (decide (v.nk=u.nk) && decide (v.nn=u.nn))) && (v.neg == u.neg)) && (decide (v.mag=u.mag))) && (decide (v.s=u.s))) && (decide (v.ref=u.ref))))=Ending.returned (.bool (sameV v u))
 first|rfl|(simp only [sameV,bsm] <;> rfl)|(exfalso; omega)
theorem cnum_c (a:Nm) (w:World):Calls Tryz.prog 22 #[nv a] w (IsRet (vv (Vl.mk 3 a.k a.n false [] [] 0) none 0 none 0) w):=by
 refine enter_abs Tryz.func22 rfl fun a0 aa aA hp=>?_
 have aa:a0.tmps.size=5:=aa
 have ab:New w w:=Upd.refl _ _
 have hp0:a0.eval (.tmp 0)=nv a:=hp 0 _ rfl
 refine wp_seq_k fun K1 aB=>?_
 refine wp_g [true,true] [] [] 5
   [IsNew w 23 [iv a.k,iv a.n],IsNew w 29 z7]
   [0,1] (newsCons (fun v w h=>IsNew.old h) (newsCons (fun v w h=>IsNew.old h) newsNil)) aa (.nw (.nw (.nil))) ?_ (fun i h=>by cases h) ?_
 exact .o2 (step_allocN (cs:=[iv a.k,iv a.n]) (t:=23) rfl (noG rfl) (fun _ w hn k=>v_box rfl (k.fx 0 hp0) (fun w=>rfl)) (fun q _ hq hb=>⟨q,rfl,hq,hb⟩))<| .o2 (step_allocN (cs:=z7) (t:=29) rfl (noG rfl) (fun _ w hn k=>rfl) (fun q _ hq hb=>⟨q,rfl,hq,hb⟩)) .nil
 refine aftI aa aA ab fun a2 w3 ag aC ak aJ ac=>?_
 obtain⟨q9,h8,al,am⟩:=ac.G 0 1
 obtain⟨ah,ai,an,ao⟩:=ac.G 1 2
 have hne16:q9 ≠ ah:=ac.ne 0 1 1 2 h8 ai
 have aF:=Nat.le_trans ab.size al
 have aG:=Nat.le_trans ab.size an
 refine st_nil (aB _ _ (wp_seq_k fun aK ap=>?_))
 refine wp_g0 [true,true,false] [(2,false)] 5
   [ve (nv a),ve (vv (Vl.mk 3 a.k a.n false [] [] 0) none 0 none 0),vt] ag (.eq (.eq (.tt (.nil)))) ?_ ?_
 exact .t (fun _ w hn k=>⟨_,v_load rfl (k.fx 1 h8) (l_two Tryz.isAgg23 Tryz.sizeOf23 (am.new_ hn)),rfl⟩)<| .t (fun _ w hn k=>⟨_,v_build (ps:=[(0,iv 3),(1,nv a)]) rfl (parts2 rfl (k.eq1 0 3 rfl)) (by kernel_rfl),rfl⟩)<| .off .nil
 refine aftI ag aC ak fun aL aM aH aq ar au ad=>?_
 have aj:=ad.fx 2 ai
 have aD:=ad.ge 1 4 rfl
 have av:=ao.new_ au
 obtain⟨aE,ae,af,aw,aI⟩:=s_many (P:=Tryz.prog) (t:=29) (i:=0) [iv 3,iv a.k,iv a.n,.bool false,sv none ([]) 0,sv none ([]) 0,iv 0] Tryz.sizeOf29 rfl rfl rfl av lb
 have ax:Blk aE ah 29 [iv 3,iv a.k,iv a.n,.bool false,sv none ([]) 0,sv none ([]) 0,iv 0]:=af
 refine st_act rfl rfl fun aN ay=>a_store' rfl aj aD ae (ay _ _ trivial ?_)
 have az:=ar.trans aw (fun _ h b=>by subst b; omega)
 refine st_nil (ap _ _ ?_)
 refine wp_ret (ret_k aq (v:=vv (Vl.mk 3 a.k a.n false [] [] 0) none 0 none 0) (res_c rfl aj (l_agg Tryz.isAgg29 Tryz.sizeOf29 ax rfl)) ?_)
 exact⟨rfl,az⟩
theorem blank_c (x:Nat) (w:World) (hx:x < 65536):Calls Tryz.prog 95 #[.int .u16 (x:Int)] w (IsRet (.bool (blankN x)) w):=by
 refine enter_abs Tryz.func95 rfl fun a0 aa ag hp=>?_
 have aa:a0.tmps.size=17:=aa
 have ah:New w w:=Upd.refl _ _
 have hp0:a0.eval (.tmp 0)=.int .u16 (x:Int):=hp 0 _ rfl
 refine wp_seq_k fun K1 ai=>?_
 refine wp_g0 [true] [] 17
   [vF] aa (.eq (.nil)) ?_ ?_
 exact .t (fun _ w hn k=>⟨_,v_assign rfl rfl,rfl⟩) .nil
 refine aftI aa ag ah fun a2 w3 ab aj ak ap al=>?_
 have h8:=al.fx 0 hp0
 refine st_nil (ai _ _ (wp_seq_k fun aq ac=>?_))
 refine wp_g0 (.replicate 15 true) [] 17
   [ve (.int .u16 (x:Int)),ve (.bool (decide ((x:Int)=32))),ve (.bool (decide ((x:Int)=32))),ve (gq (!(decide ((x:Int)=32))) (.int .u16 (x:Int))),ve (gq (!(decide ((x:Int)=32))) (.bool (decide ((x:Int)=9)))),ve (.bool ((decide ((x:Int)=32)) || (decide ((x:Int)=9)))),ve (.bool ((decide ((x:Int)=32)) || (decide ((x:Int)=9)))),ve (gq (!((decide ((x:Int)=32)) || (decide ((x:Int)=9)))) (.int .u16 (x:Int))),ve (gq (!((decide ((x:Int)=32)) || (decide ((x:Int)=9)))) (.bool (decide ((x:Int)=10)))),ve (.bool (((decide ((x:Int)=32)) || (decide ((x:Int)=9))) || (decide ((x:Int)=10)))),ve (.bool (((decide ((x:Int)=32)) || (decide ((x:Int)=9))) || (decide ((x:Int)=10)))),ve (gq (!(((decide ((x:Int)=32)) || (decide ((x:Int)=9))) || (decide ((x:Int)=10)))) (.int .u16 (x:Int))),ve (gq (!(((decide ((x:Int)=32)) || (decide ((x:Int)=9))) || (decide ((x:Int)=10)))) (.bool (decide ((x:Int)=13)))),ve (.bool ((((decide ((x:Int)=32)) || (decide ((x:Int)=9))) || (decide ((x:Int)=10))) || (decide ((x:Int)=13)))),ve (.bool ((((decide ((x:Int)=32)) || (decide ((x:Int)=9))) || (decide ((x:Int)=10))) || (decide ((x:Int)=13))))] ab (.eq (.eq (.eq (.eq (.eq (.eq (.eq (.eq (.eq (.eq (.eq (.eq (.eq (.eq (.eq (.nil)))))))))))))))) ?_ ?_
 exact .m (fun k=>k.fx 0 h8)<| .t (fun _ w hn k=>⟨_,v_bin rfl (k.eq1 0 3 rfl) rfl (fun _=>rfl) (r_eql rfl),rfl⟩)<| .m (fun k=>k.eq1 1 4 rfl)<| .o1 (sc (G:=(!(decide ((x:Int)=32)))) rfl rfl rfl (fun _ _ k=>g0' (k.eq1 2 5 rfl)) (fun hG _ w hn k=>v_move rfl (k.fx 0 h8)))<| .o1 (sc (G:=(!(decide ((x:Int)=32)))) rfl rfl rfl (fun _ _ k=>g0' (k.eq1 2 5 rfl)) (fun hG _ w hn k=>v_bin rfl (cT hG (k.eq1 3 6 rfl)) rfl (fun _=>rfl) (r_eql rfl)))<| .t (fun _ w hn k=>⟨_,v_or rfl (k.eq1 2 5 rfl) rfl (fun hg=>(cT (nt hg) (k.eq1 4 7 rfl))),rfl⟩)<| .m (fun k=>k.eq1 5 8 rfl)<| .o1 (sc (G:=(!((decide ((x:Int)=32)) || (decide ((x:Int)=9))))) rfl rfl rfl (fun _ _ k=>g0' (k.eq1 6 9 rfl)) (fun hG _ w hn k=>v_move rfl (k.fx 0 h8)))<| .o1 (sc (G:=(!((decide ((x:Int)=32)) || (decide ((x:Int)=9))))) rfl rfl rfl (fun _ _ k=>g0' (k.eq1 6 9 rfl)) (fun hG _ w hn k=>v_bin rfl (cT hG (k.eq1 7 10 rfl)) rfl (fun _=>rfl) (r_eql rfl)))<| .t (fun _ w hn k=>⟨_,v_or rfl (k.eq1 6 9 rfl) rfl (fun hg=>(cT (nt hg) (k.eq1 8 11 rfl))),rfl⟩)<| .m (fun k=>k.eq1 9 12 rfl)<| .o1 (sc (G:=(!(((decide ((x:Int)=32)) || (decide ((x:Int)=9))) || (decide ((x:Int)=10))))) rfl rfl rfl (fun _ _ k=>g0' (k.eq1 10 13 rfl)) (fun hG _ w hn k=>v_move rfl (k.fx 0 h8)))<| .o1 (sc (G:=(!(((decide ((x:Int)=32)) || (decide ((x:Int)=9))) || (decide ((x:Int)=10))))) rfl rfl rfl (fun _ _ k=>g0' (k.eq1 10 13 rfl)) (fun hG _ w hn k=>v_bin rfl (cT hG (k.eq1 11 14 rfl)) rfl (fun _=>rfl) (r_eql rfl)))<| .t (fun _ w hn k=>⟨_,v_or rfl (k.eq1 10 13 rfl) rfl (fun hg=>(cT (nt hg) (k.eq1 12 15 rfl))),rfl⟩)<| .a (fun k=>k.eq1 13 16 rfl) .nil
 refine aftI ab aj ak fun ar au an ad ae ao af=>?_
 have am:=af.ge 14 2 rfl
 refine st_nil (ac _ _ ?_)
 refine wp_ret (ret_k ad (v:=.bool ((((decide ((x:Int)=32)) || (decide ((x:Int)=9))) || (decide ((x:Int)=10))) || (decide ((x:Int)=13)))) (res_t rfl am _) ?_)
 refine ⟨?_,ae⟩
 show Ending.returned (.bool ((((decide ((x:Int)=32)) || (decide ((x:Int)=9))) || (decide ((x:Int)=10))) || (decide ((x:Int)=13))))=Ending.returned (.bool (blankN x))
 first|rfl|(simp only [blankN,bsm] <;> rfl)|(exfalso; omega)
theorem digit_c (x:Nat) (w:World) (hx:x < 65536):Calls Tryz.prog 101 #[.int .u16 (x:Int)] w (IsRet (.bool (dgtN x)) w):=by
 refine enter_abs Tryz.func101 rfl fun a0 aa ag hp=>?_
 have aa:a0.tmps.size=9:=aa
 have ah:New w w:=Upd.refl _ _
 have hp0:a0.eval (.tmp 0)=.int .u16 (x:Int):=hp 0 _ rfl
 refine wp_seq_k fun K1 ai=>?_
 refine wp_g0 [true] [] 9
   [vF] aa (.eq (.nil)) ?_ ?_
 exact .t (fun _ w hn k=>⟨_,v_assign rfl rfl,rfl⟩) .nil
 refine aftI aa ag ah fun a2 w3 ab aj ak ap al=>?_
 have h8:=al.fx 0 hp0
 refine st_nil (ai _ _ (wp_seq_k fun aq ac=>?_))
 refine wp_g0 [true,true,true,true,true,true,true] [] 9
   [ve (.int .u16 (x:Int)),ve (.bool (!decide ((x:Int) < 48))),ve (.bool (!decide ((x:Int) < 48))),ve (gq (!decide ((x:Int) < 48)) (.int .u16 (x:Int))),ve (gq (!decide ((x:Int) < 48)) (.bool (decide ((x:Int)≤57)))),ve (.bool ((!decide ((x:Int) < 48)) && (decide ((x:Int)≤57)))),ve (.bool ((!decide ((x:Int) < 48)) && (decide ((x:Int)≤57))))] ab (.eq (.eq (.eq (.eq (.eq (.eq (.eq (.nil)))))))) ?_ ?_
 exact .m (fun k=>k.fx 0 h8)<| .t (fun _ w hn k=>⟨_,v_bin rfl (k.eq1 0 3 rfl) rfl (fun _=>rfl) (r_geqK rfl),rfl⟩)<| .m (fun k=>k.eq1 1 4 rfl)<| .o1 (sc (G:=(!decide ((x:Int) < 48))) rfl rfl rfl (fun _ _ k=>g0 (k.eq1 2 5 rfl)) (fun hG _ w hn k=>v_move rfl (k.fx 0 h8)))<| .o1 (sc (G:=(!decide ((x:Int) < 48))) rfl rfl rfl (fun _ _ k=>g0 (k.eq1 2 5 rfl)) (fun hG _ w hn k=>v_bin rfl (cT hG (k.eq1 3 6 rfl)) rfl (fun _=>rfl) (r_leqK rfl)))<| .t (fun _ w hn k=>⟨_,v_and rfl (k.eq1 2 5 rfl) (fun hg=>(cT hg (k.eq1 4 7 rfl))) rfl,rfl⟩)<| .a (fun k=>k.eq1 5 8 rfl) .nil
 refine aftI ab aj ak fun ar au an ad ae ao af=>?_
 have am:=af.ge 6 2 rfl
 refine st_nil (ac _ _ ?_)
 refine wp_ret (ret_k ad (v:=.bool ((!decide ((x:Int) < 48)) && (decide ((x:Int)≤57)))) (res_t rfl am _) ?_)
 refine ⟨?_,ae⟩
 show Ending.returned (.bool ((!decide ((x:Int) < 48)) && (decide ((x:Int)≤57))))=Ending.returned (.bool (dgtN x))
 first|rfl|(simp only [dgtN,bsm] <;> rfl)|(exfalso; omega)
def ascii_c_P (s:ByteArray) (w:World) (en:Ending) (w':World):Prop:=∃ (Ar0:Option Addr) (cr0:Nat),en=.returned (sv Ar0 (asc s) cr0)∧SOwn w' w.heap.size 74 .u16 Ar0 (asc s) cr0∧New w w'
theorem ascii_c (s:ByteArray) (w:World) (hs:s.size≤1000000):Calls Tryz.prog 98 #[.string s] w (ascii_c_P s w):=by
 refine enter_abs Tryz.func98 rfl fun a0 ao bX hp=>?_
 have ao:a0.tmps.size=19:=ao
 have bY:New w w:=Upd.refl _ _
 have hp0:a0.eval (.tmp 0)=.string s:=hp 0 _ rfl
 refine wp_seq_k fun K1 bZ=>?_
 refine wp_g0 [true] [] 19
   [ve (sv none ([]) 0)] ao (.eq (.nil)) ?_ ?_
 exact .t (fun _ w hn k=>⟨_,v_assign rfl rfl,rfl⟩) .nil
 refine aftI ao bX bY fun a2 w3 a6 b0 b1 cw b2=>?_
 have h8:=b2.fx 0 hp0
 refine st_nil (bZ _ _ (wp_seq_k fun cx bh=>?_))
 refine wp_g0 [true] [] 19
   [ve (sv none ([]) 0)] a6 (.eq (.nil)) ?_ ?_
 exact .t (fun _ w hn k=>⟨_,v_assign rfl rfl,rfl⟩) .nil
 refine aftI a6 b0 b1 fun cy cz au bi bj cn av=>?_
 have a7:=av.fx 0 h8
 have b3:=av.ge 0 3 rfl
 refine st_nil (bh _ _ (wp_seq_k fun cA bk=>?_))
 refine wp_seq_k fun cB bl=>?_
 refine wp_g0 [true,true,true] [] 19
   [ve (.string s),ve (iv (s.size:Int)),ve (iv 0)] au (.eq (.eq (.eq (.nil)))) ?_ ?_
 exact .m (fun k=>k.fx 0 a7)<| .t (fun _ w hn k=>⟨_,v_lenS rfl (k.eq1 0 5 rfl) (by kernel_rfl),rfl⟩)<| .t (fun _ w hn k=>⟨_,v_move rfl rfl,rfl⟩) .nil
 refine aftI au bi bj fun cC cD bm bn bo co al=>?_
 have b4:=al.fx 0 a7
 have b5:=al.fx 3 b3
 have b6:=al.ge 1 6 rfl
 have b7:=al.ge 2 7 rfl
 refine st_nil (bl _ _ ?_)
 refine wp_block ?_
 refine wp_loopX (fun (mm:Nat) (aa:Act) (ww:World)=>∃ (i:Nat) (A1:Option Addr) (c1:Nat),mm=s.size - i∧aa.tmps.size=19∧aa.defers=[]∧New w ww∧aa.eval (.tmp 3)=sv A1 (ascT s i) c1∧aa.eval (.tmp 7)=iv (i:Int)∧aa.eval (.tmp 0)=.string s∧aa.eval (.tmp 6)=iv (s.size:Int)∧SOwn ww w.heap.size 74 .u16 A1 (ascT s i) c1∧(i≤s.size)) (fun mm=>mm) ⟨_,⟨0,none,0,rfl,bm,bn,bo,(b5.trans (by rw [asc0])),b7,b4,b6,(by rw [asc0]; exact SOwn.nil _ _ _ _),(Nat.zero_le _)⟩⟩ ?_
 rintro mm cE cF ⟨i,A1,c1,hmm,aw,bp,bq,b8,a8,b9,a9,br,hi⟩
 refine wp_seq_k fun cG bs=>?_
 refine wp_g0 [true] [] 19
   [ve (.bool (decide ((i:Int) < (s.size:Int))))] aw (.eq (.nil)) ?_ ?_
 exact .t (fun _ w hn k=>⟨_,v_bin rfl (k.fx 7 a8) (k.fx 6 a9) (fun _=>rfl) (r_lssK rfl),rfl⟩) .nil
 refine aftI aw bp bq fun cH cI am ax ay bt ai=>?_
 have ba:=ai.fx 3 b8
 have bb:=ai.fx 7 a8
 have ca:=ai.fx 0 b9
 have cb:=ai.fx 6 a9
 have bd:=ai.ge 0 8 rfl
 have az:=br.new_ bt
 refine st_nil (bs _ _ (wp_seq_k fun cJ bu=>?_))
 rcases bc (decide ((i:Int) < (s.size:Int))) with aj|aj
 have aN:=oT aj
 have bv:=hB bd aj
 refine wp_cond_true bv ?_
 refine wp_skip ?_
 refine bu _ _ ?_
 refine wp_seq_k fun cK bw=>?_
 refine wp_block ?_
 refine wp_seq_k fun cL bx=>?_
 refine wp_g0 [true,true] [] 19
   [ve (iv (i:Int)),ve (iv (i:Int))] am (.eq (.eq (.nil))) ?_ ?_
 exact .m (fun k=>k.fx 7 bb)<| .a (fun k=>k.eq1 0 9 rfl) .nil
 refine aftI am ax ay fun cM be aA bz aB bA ak=>?_
 have bf:=ak.fx 3 ba
 have cc:=ak.fx 7 bb
 have bg:=ak.fx 0 ca
 have cd:=ak.fx 6 cb
 have ce:=ak.ge 1 4 rfl
 have bB:=az.new_ bA
 refine st_nil (bx _ _ ?_)
 have hal:=@ascT_len s i
 have hbl:=bAt_lt s i
 refine wp_g0 [true,true,true,true,true,true,false,false] [(6,false),(7,true)] 19
   [ve (sv A1 (ascT s i) c1),ve (.string s),ve (iv (i:Int)),ve (.int .u8 ((bAt s i:Nat):Int)),ve (.int .u16 ((bAt s i:Nat):Int)),
    (OP be.heap.size 74 .u16 ([(bAt s i)])),vt,vt] aA (.eq (.eq (.eq (.eq (.eq (.cons (fun _ _ _ n ⟨_,_,e,h⟩=>⟨_,_,e,h.new_ n⟩) (.tt (.tt (.nil))))))))) ?_ ?_
 refine .m (fun k=>k.fx 3 bf)<| .m (fun k=>k.fx 0 bg)<| .m (fun k=>k.fx 4 ce)<| .t (fun _ w hn k=>⟨_,v_idxN rfl (k.eq1 1 11 rfl) (k.eq1 2 12 rfl) (by kernel_rfl) (by omega),rfl⟩)<| .t (fun _ w hn k=>⟨_,v_conv rfl (k.eq1 3 13 rfl) (n_conv (by kernel_rfl) (by kernel_rfl) (by kernel_rfl) (IntWalk.u16_in _ (by omega))),rfl⟩) ?_
 refine .o1 (tkA rfl (noG rfl) fun _ w hn k=>(by
       exact x_bslice (k:=.u16) (ps:=[(0,.int .u16 ((bAt s i:Nat):Int))]) [(bAt s i)] rfl (parts1 (k.eq1 4 14 rfl)) elU rfl (by omega) (by omega) (by first|kernel_rfl|(simp only [enc,List.map_cons,List.map_nil,Int.toNat_natCast,Int.toNat_of_nonneg (by omega:(0:Int)≤_)]; kernel_rfl)) fun A1 c2 W' hmo=>⟨A1,c2,rfl,(hmo.more hn.size)⟩)) ?_
 exact .off<| .off .nil
 refine aftI aA bz aB fun aC cN aD bC aE bD ag=>?_
 have cO:=ag.fx 3 bf
 have cf:=ag.fx 7 cc
 have ch:=ag.fx 0 bg
 have ci:=ag.fx 6 cd
 have cj:=ag.ge 0 10 rfl
 obtain⟨cl,bE,aF,bF⟩:=ag.G 5 15
 have aF:aC.eval (.tmp 15)=sv cl ([(bAt s i)]) bE:=aF
 have aG:=bB.new_ bD
 have bG:=bF.more aB.size
 have hw101:=aE.size
 refine st_act rfl rfl fun cP aO=>a_append (k:=.u16) (b:=w.heap.size) rfl elU cj aG aF bG.row (by first|omega|(simp only [List.length_nil,List.length_cons,List.length_append,List.length_take,List.length_drop,List.length_replicate,List.length_set]; omega)) (by first|omega|(simp only [List.length_nil,List.length_cons,List.length_append,List.length_take,List.length_drop,List.length_replicate,List.length_set]; omega)) hw101 fun ah ae cQ aH hg97=>aO _ _ trivial ?_
 have bH:=aE.ownGrown aG hg97
 obtain⟨an,ad⟩:∃ a',a'=aC.put (some 16) (sv ah ((ascT s i) ++ [(bAt s i)]) ae):=⟨_,rfl⟩
 have ap:=pz ad aD
 have aP:=pd ad bC
 have bI:=pn ad cf (by decide)
 have bJ:=pn ad ch (by decide)
 have bK:=pn ad ci (by decide)
 have aI:an.eval (.tmp 16)=sv ah ((ascT s i) ++ [(bAt s i)]) ae:=by rw [ad]; exact put_same _ _ _ (by rw [aD]; decide)
 show stepsTo _ _ _ _ _ (aC.put (some 16) (sv ah ((ascT s i) ++ [(bAt s i)]) ae)) _
 rw [← ad]
 refine st_take rfl rfl (y_assign (v:=sv ah ((ascT s i) ++ [(bAt s i)]) ae) rfl aI) rfl ?_
 obtain⟨bL,ab⟩:∃ a',a'=an.put (some 3) (sv ah ((ascT s i) ++ [(bAt s i)]) ae):=⟨_,rfl⟩
 have aq:=pz ab ap
 have aQ:=pd ab aP
 have aJ:=pn ab bI (by decide)
 have bM:=pn ab bJ (by decide)
 have bN:=pn ab bK (by decide)
 have cp:=pn ab aI (by decide)
 have aK:bL.eval (.tmp 3)=sv ah ((ascT s i) ++ [(bAt s i)]) ae:=by rw [ab]; exact put_same _ _ _ (by rw [ap]; decide)
 show stepsTo _ _ _ _ _ (an.put (some 3) (sv ah ((ascT s i) ++ [(bAt s i)]) ae)) _
 rw [← ab]
 refine st_nil ?_
 have he119:((ascT s i) ++ [(bAt s i)])=(ascT s (i + 1)):=asc_up (by omega)
 rw [he119] at aK
 rw [he119] at aH
 refine bw _ _ ?_
 refine wp_g0 [true,false] [(1,true)] 19
   [ve (iv ((i + 1:Nat):Int)),vt] aq (.eq (.tt (.nil))) ?_ ?_
 exact .t (fun _ w hn k=>⟨_,v_bin rfl (k.fx 7 aJ) rfl (fun _=>rfl) (n_add (by omega) (IntWalk.i64_in _ (by omega))),rfl⟩)<| .off .nil
 refine aftI aq aQ bH fun aL cq ar aR aS aT af=>?_
 have cr:=af.fx 7 aJ
 have bO:=af.fx 0 bM
 have bP:=af.fx 6 bN
 have bQ:=af.fx 3 aK
 have aM:=af.ge 0 17 rfl
 have aU:=aH.new_ aT
 refine st_take rfl rfl (y_move (v:=iv ((i + 1:Nat):Int)) rfl aM) rfl ?_
 obtain⟨bR,ac⟩:∃ a',a'=aL.put (some 7) (iv ((i + 1:Nat):Int)):=⟨_,rfl⟩
 have aV:=pz ac ar
 have aW:=pd ac aR
 have bS:=pn ac bO (by decide)
 have bT:=pn ac bP (by decide)
 have bU:=pn ac bQ (by decide)
 have cs:=pn ac aM (by decide)
 have bV:bR.eval (.tmp 7)=iv ((i + 1:Nat):Int):=by rw [ac]; exact put_same _ _ _ (by rw [ar]; decide)
 show stepsTo _ _ _ _ _ (aL.put (some 7) (iv ((i + 1:Nat):Int))) _
 rw [← ac]
 refine st_nil ?_
 refine then_n ?_
 exact⟨_,⟨i + 1,ah,ae,rfl,aV,aW,aS,bU,(bV.trans (congrArg (Value.int .i64) (by omega))),bS,bT,aU,(by omega)⟩,(by omega)⟩
 have aN:=oF aj
 have aX:=hB bd aj
 refine wp_cond_false aX ?_
 refine wp_exit ?_
 refine bk _ _ ?_
 refine wp_seq_k fun ct aY=>?_
 refine wp_g0 [true,true] [] 19
   [ve (sv A1 (ascT s i) c1),ve (sv A1 (ascT s i) c1)] am (.eq (.eq (.nil))) ?_ ?_
 exact .m (fun k=>k.fx 3 ba)<| .a (fun k=>k.eq1 0 18 rfl) .nil
 refine aftI am ax ay fun cu cv cm aZ a1 a3 a4=>?_
 have bW:=a4.ge 1 2 rfl
 have a5:=az.new_ a3
 refine st_nil (aY _ _ ?_)
 refine wp_ret (ret_k aZ (v:=sv A1 (ascT s i) c1) (res_t rfl bW _) ?_)
 have hsp:ascT s i=asc s:=asc_end (by omega)
 exact⟨A1,c1,by rw [← hsp],by rw [← hsp]; exact a5,a1⟩
def rascii_c_P (s:ByteArray) (w:World) (en:Ending) (w':World):Prop:=∃ (Ar0:Option Addr) (cr0:Nat),en=.returned (sv Ar0 (asc s) cr0)∧SOwn w' w.heap.size 74 .u16 Ar0 (asc s) cr0∧New w w'
theorem rascii_c (s:ByteArray) (w:World) (hs:s.size≤1000000):Calls Tryz.prog 52 #[.string s] w (rascii_c_P s w):=by
 refine enter_abs Tryz.func52 rfl fun a0 an bG hp=>?_
 have an:a0.tmps.size=19:=an
 have bH:New w w:=Upd.refl _ _
 have hp0:a0.eval (.tmp 0)=.string s:=hp 0 _ rfl
 refine wp_seq_k fun K1 bI=>?_
 refine wp_g0 [true] [] 19
   [ve (sv none ([]) 0)] an (.eq (.nil)) ?_ ?_
 exact .t (fun _ w hn k=>⟨_,v_assign rfl rfl,rfl⟩) .nil
 refine aftI an bG bH fun a2 w3 aW bJ bK b9 bL=>?_
 have h8:=bL.fx 0 hp0
 refine st_nil (bI _ _ (wp_seq_k fun ca a8=>?_))
 refine wp_g0 [true] [] 19
   [ve (sv none ([]) 0)] aW (.eq (.nil)) ?_ ?_
 exact .t (fun _ w hn k=>⟨_,v_assign rfl rfl,rfl⟩) .nil
 refine aftI aW bJ bK fun cb cc ap a9 ba b1 aq=>?_
 have bM:=aq.fx 0 h8
 have bN:=aq.ge 0 3 rfl
 refine st_nil (a8 _ _ (wp_seq_k fun cd bb=>?_))
 refine wp_seq_k fun ce bd=>?_
 refine wp_g0 [true] [] 19
   [ve (iv 0)] ap (.eq (.nil)) ?_ ?_
 exact .t (fun _ w hn k=>⟨_,v_assign rfl rfl,rfl⟩) .nil
 refine aftI ap a9 ba fun cf ch be bf bg b2 al=>?_
 have bO:=al.fx 0 bM
 have bP:=al.fx 3 bN
 have bQ:=al.ge 0 4 rfl
 refine st_nil (bd _ _ ?_)
 refine wp_block ?_
 refine wp_loopX (fun (mm:Nat) (aa:Act) (ww:World)=>∃ (i:Nat) (A1:Option Addr) (c1:Nat),mm=s.size - i∧aa.tmps.size=19∧aa.defers=[]∧New w ww∧aa.eval (.tmp 3)=sv A1 (ascT s i) c1∧aa.eval (.tmp 4)=iv (i:Int)∧aa.eval (.tmp 0)=.string s∧SOwn ww w.heap.size 74 .u16 A1 (ascT s i) c1∧(i≤s.size)) (fun mm=>mm) ⟨_,⟨0,none,0,rfl,be,bf,bg,(bP.trans (by rw [asc0])),bQ,bO,(by rw [asc0]; exact SOwn.nil _ _ _ _),(Nat.zero_le _)⟩⟩ ?_
 rintro mm ci cj ⟨i,A1,c1,hmm,ar,bh,bi,bR,aX,aY,bj,hi⟩
 refine wp_seq_k fun cl bk=>?_
 refine wp_seq_k fun cm bl=>?_
 refine wp_g0 [true,true,true,true] [] 19
   [ve (iv (i:Int)),ve (.string s),ve (iv (s.size:Int)),ve (.bool (decide ((i:Int) < (s.size:Int))))] ar (.eq (.eq (.eq (.eq (.nil))))) ?_ ?_
 exact .m (fun k=>k.fx 4 aX)<| .m (fun k=>k.fx 0 aY)<| .t (fun _ w hn k=>⟨_,v_lenS rfl (k.eq1 1 6 rfl) (by kernel_rfl),rfl⟩)<| .t (fun _ w hn k=>⟨_,v_bin rfl (k.eq1 0 5 rfl) (k.eq1 2 7 rfl) (fun _=>rfl) (r_lssK rfl),rfl⟩) .nil
 refine aftI ar bh bi fun cn aZ aj au am bm ak=>?_
 have av:=ak.fx 3 bR
 have a1:=ak.fx 4 aX
 have a3:=ak.fx 0 aY
 have a4:=ak.ge 3 8 rfl
 have aw:=bj.new_ bm
 refine st_nil (bl _ _ ?_)
 rcases bc (decide ((i:Int) < (s.size:Int))) with ah|ah
 have aI:=oT ah
 have bn:=hB a4 ah
 refine wp_cond_true bn ?_
 refine wp_skip ?_
 refine bk _ _ ?_
 refine wp_seq_k fun co bo=>?_
 refine wp_block ?_
 have hal:=@ascT_len s i
 have hbl:=bAt_lt s i
 refine wp_g0 [true,true,true,true,true,true,false,false] [(6,false),(7,true)] 19
   [ve (sv A1 (ascT s i) c1),ve (.string s),ve (iv (i:Int)),ve (.int .u8 ((bAt s i:Nat):Int)),ve (.int .u16 ((bAt s i:Nat):Int)),
    (OP aZ.heap.size 74 .u16 ([(bAt s i)])),vt,vt] aj (.eq (.eq (.eq (.eq (.eq (.cons (fun _ _ _ n ⟨_,_,e,h⟩=>⟨_,_,e,h.new_ n⟩) (.tt (.tt (.nil))))))))) ?_ ?_
 refine .m (fun k=>k.fx 3 av)<| .m (fun k=>k.fx 0 a3)<| .m (fun k=>k.fx 4 a1)<| .t (fun _ w hn k=>⟨_,v_idxN rfl (k.eq1 1 12 rfl) (k.eq1 2 13 rfl) (by kernel_rfl) (by omega),rfl⟩)<| .t (fun _ w hn k=>⟨_,v_conv rfl (k.eq1 3 14 rfl) (n_conv (by kernel_rfl) (by kernel_rfl) (by kernel_rfl) (IntWalk.u16_in _ (by omega))),rfl⟩) ?_
 refine .o1 (tkA rfl (noG rfl) fun _ w hn k=>(by
       exact x_bslice (k:=.u16) (ps:=[(0,.int .u16 ((bAt s i:Nat):Int))]) [(bAt s i)] rfl (parts1 (k.eq1 4 15 rfl)) elU rfl (by omega) (by omega) (by first|kernel_rfl|(simp only [enc,List.map_cons,List.map_nil,Int.toNat_natCast,Int.toNat_of_nonneg (by omega:(0:Int)≤_)]; kernel_rfl)) fun A1 c2 W' hmo=>⟨A1,c2,rfl,(hmo.more hn.size)⟩)) ?_
 exact .off<| .off .nil
 refine aftI aj au am fun ax cp ay bp az bq ai=>?_
 have cq:=ai.fx 3 av
 have bS:=ai.fx 4 a1
 have bT:=ai.fx 0 a3
 have bU:=ai.ge 0 11 rfl
 obtain⟨bV,br,aA,bs⟩:=ai.G 5 16
 have aA:ax.eval (.tmp 16)=sv bV ([(bAt s i)]) br:=aA
 have aB:=aw.new_ bq
 have bt:=bs.more am.size
 have hw83:=az.size
 refine st_act rfl rfl fun cr bu=>a_append (k:=.u16) (b:=w.heap.size) rfl elU bU aB aA bt.row (by first|omega|(simp only [List.length_nil,List.length_cons,List.length_append,List.length_take,List.length_drop,List.length_replicate,List.length_set]; omega)) (by first|omega|(simp only [List.length_nil,List.length_cons,List.length_append,List.length_take,List.length_drop,List.length_replicate,List.length_set]; omega)) hw83 fun af ac cs aC hg79=>bu _ _ trivial ?_
 have bv:=az.ownGrown aB hg79
 obtain⟨aD,ae⟩:∃ a',a'=ax.put (some 17) (sv af ((ascT s i) ++ [(bAt s i)]) ac):=⟨_,rfl⟩
 have aE:=pz ae ay
 have bw:=pd ae bp
 have bW:=pn ae bS (by decide)
 have bX:=pn ae bT (by decide)
 have a5:aD.eval (.tmp 17)=sv af ((ascT s i) ++ [(bAt s i)]) ac:=by rw [ae]; exact put_same _ _ _ (by rw [ay]; decide)
 show stepsTo _ _ _ _ _ (ax.put (some 17) (sv af ((ascT s i) ++ [(bAt s i)]) ac)) _
 rw [← ae]
 refine st_take rfl rfl (y_assign (v:=sv af ((ascT s i) ++ [(bAt s i)]) ac) rfl a5) rfl ?_
 obtain⟨bY,ad⟩:∃ a',a'=aD.put (some 3) (sv af ((ascT s i) ++ [(bAt s i)]) ac):=⟨_,rfl⟩
 have aF:=pz ad aE
 have bx:=pd ad bw
 have a6:=pn ad bW (by decide)
 have bZ:=pn ad bX (by decide)
 have ct:=pn ad a5 (by decide)
 have a7:bY.eval (.tmp 3)=sv af ((ascT s i) ++ [(bAt s i)]) ac:=by rw [ad]; exact put_same _ _ _ (by rw [aE]; decide)
 show stepsTo _ _ _ _ _ (aD.put (some 3) (sv af ((ascT s i) ++ [(bAt s i)]) ac)) _
 rw [← ad]
 refine st_nil ?_
 have he99:((ascT s i) ++ [(bAt s i)])=(ascT s (i + 1)):=asc_up (by omega)
 rw [he99] at a7
 rw [he99] at aC
 refine bo _ _ ?_
 refine wp_g0 [true,true,false] [(2,true)] 19
   [ve (iv (i:Int)),ve (iv ((i + 1:Nat):Int)),vt] aF (.eq (.eq (.tt (.nil)))) ?_ ?_
 exact .m (fun k=>k.fx 4 a6)<| .t (fun _ w hn k=>⟨_,v_bin rfl (k.eq1 0 9 rfl) rfl (fun _=>rfl) (n_add (by omega) (IntWalk.i64_in _ (by omega))),rfl⟩)<| .off .nil
 refine aftI aF bx bv fun aG b3 ao aJ aK aL ag=>?_
 have b4:=ag.fx 4 a6
 have bz:=ag.fx 0 bZ
 have bA:=ag.fx 3 a7
 have aH:=ag.ge 1 10 rfl
 have aM:=aC.new_ aL
 refine st_take rfl rfl (y_assign (v:=iv ((i + 1:Nat):Int)) rfl aH) rfl ?_
 obtain⟨bB,ab⟩:∃ a',a'=aG.put (some 4) (iv ((i + 1:Nat):Int)):=⟨_,rfl⟩
 have aN:=pz ab ao
 have aO:=pd ab aJ
 have bC:=pn ab bz (by decide)
 have bD:=pn ab bA (by decide)
 have b5:=pn ab aH (by decide)
 have bE:bB.eval (.tmp 4)=iv ((i + 1:Nat):Int):=by rw [ab]; exact put_same _ _ _ (by rw [ao]; decide)
 show stepsTo _ _ _ _ _ (aG.put (some 4) (iv ((i + 1:Nat):Int))) _
 rw [← ab]
 refine st_nil ?_
 refine then_n ?_
 exact⟨_,⟨i + 1,af,ac,rfl,aN,aO,aK,bD,(bE.trans (congrArg (Value.int .i64) (by omega))),bC,aM,(by omega)⟩,(by omega)⟩
 have aI:=oF ah
 have aP:=hB a4 ah
 refine wp_cond_false aP ?_
 refine wp_exit ?_
 refine bb _ _ ?_
 refine wp_seq_k fun b6 aQ=>?_
 refine wp_g0 [true,true] [] 19
   [ve (sv A1 (ascT s i) c1),ve (sv A1 (ascT s i) c1)] aj (.eq (.eq (.nil))) ?_ ?_
 exact .m (fun k=>k.fx 3 av)<| .a (fun k=>k.eq1 0 18 rfl) .nil
 refine aftI aj au am fun b7 b8 b0 aR aS aT aU=>?_
 have bF:=aU.ge 1 2 rfl
 have aV:=aw.new_ aT
 refine st_nil (aQ _ _ ?_)
 refine wp_ret (ret_k aR (v:=sv A1 (ascT s i) c1) (res_t rfl bF _) ?_)
 have hsp:ascT s i=asc s:=asc_end (by omega)
 exact⟨A1,c1,by rw [← hsp],by rw [← hsp]; exact aV,aS⟩
theorem tsame_c (Aa:Option Addr) (a:List Nat) (ca:Nat) (Ab:Option Addr) (b:List Nat) (cb:Nat) (w:World) (hra:SRow w .u16 Aa a ca) (hrb:SRow w .u16 Ab b cb):Calls Tryz.prog 97 #[sv Aa a ca,sv Ab b cb] w (IsRet (.bool (decide (a=b))) w):=by
 refine enter_abs Tryz.func97 rfl fun a0 ab ai hp=>?_
 have ab:a0.tmps.size=8:=ab
 have aj:New w w:=Upd.refl _ _
 have hp0:a0.eval (.tmp 0)=sv Aa a ca:=hp 0 _ rfl
 have hp1:a0.eval (.tmp 1)=sv Ab b cb:=hp 1 _ rfl
 refine wp_seq_k fun K1 ak=>?_
 refine wp_g0 [true] [] 8
   [vF] ab (.eq (.nil)) ?_ ?_
 exact .t (fun _ w hn k=>⟨_,v_assign rfl rfl,rfl⟩) .nil
 refine aftI ab ai aj fun a2 w3 ac al aa ap ad=>?_
 have h8:=ad.fx 0 hp0
 have h9:=ad.fx 1 hp1
 refine st_nil (ak _ _ (wp_seq_k fun aq ae=>?_))
 refine wp_g0 [true,true,true,true] [] 8
   [ve (sv Aa a ca),ve (sv Ab b cb),ve (.bool (decide (a=b))),ve (.bool (decide (a=b)))] ac (.eq (.eq (.eq (.eq (.nil))))) ?_ ?_
 exact .m (fun k=>k.fx 0 h8)<| .m (fun k=>k.fx 1 h9)<| .o1 (ck rfl rfl rfl (fun _ w hn k=>⟨#[sv Aa a ca,sv Ab b cb],args2 (k.eq1 0 5 rfl) (k.eq1 1 6 rfl),fun _=>by kernel_rfl,sequal16_c _ a _ _ b _ _ (hra.new_ (aa.transNew hn)) (hrb.new_ (aa.transNew hn))⟩) fun _=>rfl)<| .a (fun k=>k.eq1 2 7 rfl) .nil
 refine aftI ac al aa fun ar au an af ag ao ah=>?_
 have am:=ah.ge 3 4 rfl
 refine st_nil (ae _ _ ?_)
 refine wp_ret (ret_k af (v:=.bool (decide (a=b))) (res_t rfl am _) ?_)
 exact⟨rfl,ag⟩
theorem index16_c (Au:Option Addr) (u:List Nat) (cu:Nat) (x:Nat) (w:World) (hru:SRow w .u16 Au u cu) (hx:x < 65536):Calls Tryz.prog 183 #[sv Au u cu,.int .u16 (x:Int)] w (IsRet (iv (idxF (fun y:Nat=>decide ((x:Int)=(y:Int))) u)) w):=by
 refine enter_abs Tryz.func183 rfl fun a0 al bo hp=>?_
 have al:a0.tmps.size=19:=al
 have bp:New w w:=Upd.refl _ _
 have hp0:a0.eval (.tmp 0)=sv Au u cu:=hp 0 _ rfl
 have hp1:a0.eval (.tmp 1)=.int .u16 (x:Int):=hp 1 _ rfl
 have hmx:=hru.max
 refine wp_seq_k fun K1 bq=>?_
 refine wp_g0 [true] [] 19
   [ve (iv 0)] al (.eq (.nil)) ?_ ?_
 exact .t (fun _ w hn k=>⟨_,v_assign rfl rfl,rfl⟩) .nil
 refine aftI al bo bp fun a2 w3 aG br aT b0 aH=>?_
 have h8:=aH.fx 0 hp0
 have h9:=aH.fx 1 hp1
 refine st_nil (bq _ _ (wp_seq_k fun b2 aU=>?_))
 refine wp_seq_k fun b4 aV=>?_
 refine wp_g0 [true,true,true] [] 19
   [ve (sv Au u cu),ve (iv (u.length:Int)),ve (iv 0)] aG (.eq (.eq (.eq (.nil)))) ?_ ?_
 exact .m (fun k=>k.fx 0 h8)<| .t (fun _ w hn k=>⟨_,v_lenR rfl elU (k.eq1 0 6 rfl),rfl⟩)<| .t (fun _ w hn k=>⟨_,v_move rfl rfl,rfl⟩) .nil
 refine aftI aG br aT fun b6 b7 aW aX aY bP ai=>?_
 have bs:=ai.fx 0 h8
 have bt:=ai.fx 1 h9
 have bu:=ai.ge 1 7 rfl
 have bv:=ai.ge 2 8 rfl
 refine st_nil (aV _ _ ?_)
 refine wp_block ?_
 refine wp_loopX (fun (mm:Nat) (aa:Act) (ww:World)=>∃ (i:Nat),mm=u.length - i∧aa.tmps.size=19∧aa.defers=[]∧New w ww∧aa.eval (.tmp 8)=iv (i:Int)∧aa.eval (.tmp 0)=sv Au u cu∧aa.eval (.tmp 1)=.int .u16 (x:Int)∧aa.eval (.tmp 7)=iv (u.length:Int)∧(i≤u.length)∧(∀ j,j < i→(fun y:Nat=>decide ((x:Int)=(y:Int))) (u.getD j 0)=false)) (fun mm=>mm) ⟨_,⟨0,rfl,aW,aX,aY,bv,bs,bt,bu,(Nat.zero_le _),(fun j h=>absurd h (Nat.not_lt_zero _))⟩⟩ ?_
 rintro mm b8 b9 ⟨i,hmm,am,aZ,a1,aI,bw,bx,aJ,hi,hno⟩
 refine wp_seq_k fun ca a3=>?_
 refine wp_g0 [true] [] 19
   [ve (.bool (decide ((i:Int) < (u.length:Int))))] am (.eq (.nil)) ?_ ?_
 exact .t (fun _ w hn k=>⟨_,v_bin rfl (k.fx 8 aI) (k.fx 7 aJ) (fun _=>rfl) (r_lssK rfl),rfl⟩) .nil
 refine aftI am aZ a1 fun cb cc aj an ao bQ ae=>?_
 have aK:=ae.fx 8 aI
 have bz:=ae.fx 0 bw
 have bA:=ae.fx 1 bx
 have bB:=ae.fx 7 aJ
 have aL:=ae.ge 0 9 rfl
 refine st_nil (a3 _ _ (wp_seq_k fun cd a4=>?_))
 rcases bc (decide ((i:Int) < (u.length:Int))) with af|af
 have aw:=oT af
 have a5:=hB aL af
 refine wp_cond_true a5 ?_
 refine wp_skip ?_
 refine a4 _ _ ?_
 refine wp_seq_k fun ce a6=>?_
 refine wp_block ?_
 refine wp_seq_k fun cf a7=>?_
 refine wp_g0 [true,true] [] 19
   [ve (iv (i:Int)),ve (iv (i:Int))] aj (.eq (.eq (.nil))) ?_ ?_
 exact .m (fun k=>k.fx 8 aK)<| .a (fun k=>k.eq1 0 10 rfl) .nil
 refine aftI aj an ao fun ch ci ap a8 aq bR ag=>?_
 have bC:=ag.fx 8 aK
 have aM:=ag.fx 0 bz
 have aN:=ag.fx 1 bA
 have bD:=ag.fx 7 bB
 have aO:=ag.ge 1 5 rfl
 refine st_nil (a7 _ _ (wp_seq_k fun cj a9=>?_))
 refine wp_g0 [true,true,true,true,true,true] [] 19
   [ve (.int .u16 (x:Int)),ve (sv Au u cu),ve (iv (i:Int)),
    (EP (.int .u16 ((u.getD i 0:Nat):Int))),ve (.int .u16 ((u.getD i 0:Nat):Int)),ve (.bool (decide ((x:Int)=((u.getD i 0:Nat):Int))))] ap (.eq (.eq (.eq (.cons (fun _ _ _ n ⟨_,_,e,h⟩=>⟨_,_,e,h.new_ n⟩) (.eq (.eq (.nil))))))) ?_ ?_
 refine .m (fun k=>k.fx 1 aN)<| .m (fun k=>k.fx 0 aM)<| .m (fun k=>k.fx 5 aO) ?_
 refine .o1 (tk rfl rfl fun _ w hn k=>(by
       exact x_eaddr (k:=.u16) rfl elU (k.eq1 1 12 rfl) (k.eq1 2 13 rfl) (hru.new_ (aq.transNew hn)) (by omega) fun b1 o2 hme=>⟨b1,o2,rfl,hme⟩)) ?_
 refine .o1 (tk rfl rfl fun _ w hn k=>(by
       obtain⟨b5,o6,e7,bE⟩:(EP (.int .u16 ((u.getD i 0:Nat):Int))) _ _:=k.dep 3 14 (by kernel_rfl) (by kernel_rfl)
       exact⟨_,v_load rfl e7 (l_one Tryz.isAgg74 bE.1),rfl⟩)) ?_
 exact .t (fun _ w hn k=>⟨_,v_bin rfl (k.eq1 0 11 rfl) (k.eq1 4 15 rfl) (fun _=>rfl) (r_eql rfl),rfl⟩) .nil
 refine aftI ap a8 aq fun cl cm ak ar au bS ad=>?_
 have aP:=ad.fx 8 bC
 have bF:=ad.fx 0 aM
 have bG:=ad.fx 1 aN
 have bH:=ad.fx 7 bD
 have bI:=ad.fx 5 aO
 have aQ:=ad.ge 5 16 rfl
 refine st_nil (a9 _ _ ?_)
 rcases bc (decide ((x:Int)=((u.getD i 0:Nat):Int))) with ac|ac
 have ax:=oT ac
 have ba:=hB aQ ac
 refine wp_cond_true ba ?_
 refine wp_seq_k fun cn bb=>?_
 refine wp_g0 [true,true] [] 19
   [ve (iv (i:Int)),ve (iv (i:Int))] ak (.eq (.eq (.nil))) ?_ ?_
 exact .m (fun k=>k.fx 5 bI)<| .a (fun k=>k.eq1 0 17 rfl) .nil
 refine aftI ak ar au fun co cp bT bd be bU bf=>?_
 have bJ:=bf.ge 1 4 rfl
 refine st_nil (bb _ _ ?_)
 refine wp_ret (ret_k bd (v:=iv (i:Int)) (res_t rfl bJ _) ?_)
 exact⟨by rw [idxF_at (fun y:Nat=>decide ((x:Int)=(y:Int))) u i (by omega) hno ac],be⟩
 have ax:=oF ac
 have bg:=hB aQ ac
 refine wp_cond_false bg ?_
 refine wp_skip ?_
 refine a6 _ _ ?_
 refine wp_g0 [true,false] [(1,true)] 19
   [ve (iv ((i + 1:Nat):Int)),vt] ak (.eq (.tt (.nil))) ?_ ?_
 exact .t (fun _ w hn k=>⟨_,v_bin rfl (k.fx 8 aP) rfl (fun _=>rfl) (n_add (by omega) (IntWalk.i64_in _ (by omega))),rfl⟩)<| .off .nil
 refine aftI ak ar au fun aR cq av bh ay bV ah=>?_
 have cr:=ah.fx 8 aP
 have bK:=ah.fx 0 bF
 have bL:=ah.fx 1 bG
 have bM:=ah.fx 7 bH
 have aS:=ah.ge 0 18 rfl
 refine st_take rfl rfl (y_move (v:=iv ((i + 1:Nat):Int)) rfl aS) rfl ?_
 obtain⟨bi,ab⟩:∃ a',a'=aR.put (some 8) (iv ((i + 1:Nat):Int)):=⟨_,rfl⟩
 have az:=pz ab av
 have aA:=pd ab bh
 have bj:=pn ab bK (by decide)
 have bk:=pn ab bL (by decide)
 have bl:=pn ab bM (by decide)
 have bW:=pn ab aS (by decide)
 have bm:bi.eval (.tmp 8)=iv ((i + 1:Nat):Int):=by rw [ab]; exact put_same _ _ _ (by rw [av]; decide)
 show stepsTo _ _ _ _ _ (aR.put (some 8) (iv ((i + 1:Nat):Int))) _
 rw [← ab]
 refine st_nil ?_
 refine then_n ?_
 exact⟨_,⟨i + 1,rfl,az,aA,ay,(bm.trans (congrArg (Value.int .i64) (by omega))),bj,bk,bl,(by omega),(up_false (p:=(fun y:Nat=>decide ((x:Int)=(y:Int)))) hno ac)⟩,(by omega)⟩
 have aw:=oF af
 have aB:=hB aL af
 refine wp_cond_false aB ?_
 refine wp_exit ?_
 refine aU _ _ ?_
 refine wp_seq_k fun bX aC=>?_
 refine wp_g0 [true] [] 19
   [ve (iv (-1))] aj (.eq (.nil)) ?_ ?_
 exact .t (fun _ w hn k=>⟨_,v_assign rfl rfl,rfl⟩) .nil
 refine aftI aj an ao fun bY bZ bN aD aE bO aF=>?_
 have bn:=aF.ge 0 4 rfl
 refine st_nil (aC _ _ ?_)
 refine wp_ret (ret_k aD (v:=iv (-1)) (res_t rfl bn _) ?_)
 exact⟨by rw [idxF_none (fun y:Nat=>decide ((x:Int)=(y:Int))) u (fun j hj=>hno j (by omega))],aE⟩
theorem contains16_c (Au:Option Addr) (u:List Nat) (cu:Nat) (x:Nat) (w:World) (hru:SRow w .u16 Au u cu) (hx:x < 65536):Calls Tryz.prog 157 #[sv Au u cu,.int .u16 (x:Int)] w (IsRet (.bool (u.any (fun y:Nat=>decide ((x:Int)=(y:Int))))) w):=by
 refine enter_abs Tryz.func157 rfl fun a0 ac ao hp=>?_
 have ac:a0.tmps.size=9:=ac
 have ap:New w w:=Upd.refl _ _
 have hp0:a0.eval (.tmp 0)=sv Au u cu:=hp 0 _ rfl
 have hp1:a0.eval (.tmp 1)=.int .u16 (x:Int):=hp 1 _ rfl
 refine wp_seq_k fun K1 aq=>?_
 refine wp_g0 [true] [] 9
   [vF] ac (.eq (.nil)) ?_ ?_
 exact .t (fun _ w hn k=>⟨_,v_assign rfl rfl,rfl⟩) .nil
 refine aftI ac ao ap fun a2 w3 ad ag ab az ah=>?_
 have h8:=ah.fx 0 hp0
 have h9:=ah.fx 1 hp1
 refine st_nil (aq _ _ (wp_seq_k fun aA ae=>?_))
 rcases bc (decide ((idxF (fun y:Nat=>decide ((x:Int)=(y:Int))) u) < 0)) with aa|aa
 have af:=oT aa
 refine wp_g0 [true,true,true,true,true] [] 9
   [ve (sv Au u cu),ve (.int .u16 (x:Int)),ve (iv (idxF (fun y:Nat=>decide ((x:Int)=(y:Int))) u)),vF,vF] ad (.eq (.eq (.eq (.eq (.eq (.nil)))))) ?_ ?_
 exact .m (fun k=>k.fx 0 h8)<| .m (fun k=>k.fx 1 h9)<| .o1 (ck rfl rfl rfl (fun _ w hn k=>⟨#[sv Au u cu,.int .u16 (x:Int)],args2 (k.eq1 0 5 rfl) (k.eq1 1 6 rfl),fun _=>by kernel_rfl,index16_c _ u _ x _ (hru.new_ (ab.transNew hn)) (by omega)⟩) fun _=>rfl)<| .t (fun _ w hn k=>⟨_,v_bin rfl (k.eq1 2 7 rfl) rfl (fun _=>rfl) (r_geqK aa),rfl⟩)<| .a (fun k=>k.eq1 3 8 rfl) .nil
 refine aftI ad ag ab fun aB aC av ai aj aw ak=>?_
 have ar:=ak.ge 4 4 rfl
 refine st_nil (ae _ _ ?_)
 refine wp_ret (ret_k ai (v:=.bool false) (res_t rfl ar _) ?_)
 exact⟨by rw [← idxF_any (fun y:Nat=>decide ((x:Int)=(y:Int))) u,aa]; rfl,aj⟩
 have af:=oF aa
 refine wp_g0 [true,true,true,true,true] [] 9
   [ve (sv Au u cu),ve (.int .u16 (x:Int)),ve (iv (idxF (fun y:Nat=>decide ((x:Int)=(y:Int))) u)),vT,vT] ad (.eq (.eq (.eq (.eq (.eq (.nil)))))) ?_ ?_
 exact .m (fun k=>k.fx 0 h8)<| .m (fun k=>k.fx 1 h9)<| .o1 (ck rfl rfl rfl (fun _ w hn k=>⟨#[sv Au u cu,.int .u16 (x:Int)],args2 (k.eq1 0 5 rfl) (k.eq1 1 6 rfl),fun _=>by kernel_rfl,index16_c _ u _ x _ (hru.new_ (ab.transNew hn)) (by omega)⟩) fun _=>rfl)<| .t (fun _ w hn k=>⟨_,v_bin rfl (k.eq1 2 7 rfl) rfl (fun _=>rfl) (r_geqK aa),rfl⟩)<| .a (fun k=>k.eq1 3 8 rfl) .nil
 refine aftI ad ag ab fun aD aE ax al am ay an=>?_
 have au:=an.ge 4 4 rfl
 refine st_nil (ae _ _ ?_)
 refine wp_ret (ret_k al (v:=.bool true) (res_t rfl au _) ?_)
 exact⟨by rw [← idxF_any (fun y:Nat=>decide ((x:Int)=(y:Int))) u,aa]; rfl,am⟩
theorem nodigit_c (x:Nat) (w:World) (hx:x < 65536):Calls Tryz.prog 100 #[.int .u16 (x:Int)] w (IsRet (.bool (!dgtN x)) w):=by
 refine enter_abs Tryz.func100 rfl fun a0 ab am hp=>?_
 have ab:a0.tmps.size=6:=ab
 have an:New w w:=Upd.refl _ _
 have hp0:a0.eval (.tmp 0)=.int .u16 (x:Int):=hp 0 _ rfl
 refine wp_seq_k fun K1 ao=>?_
 refine wp_g0 [true] [] 6
   [vF] ab (.eq (.nil)) ?_ ?_
 exact .t (fun _ w hn k=>⟨_,v_assign rfl rfl,rfl⟩) .nil
 refine aftI ab am an fun a2 w3 ac ae af ay ap=>?_
 have h8:=ap.fx 0 hp0
 refine st_nil (ao _ _ (wp_seq_k fun az ad=>?_))
 rcases bc (dgtN x) with aa|aa
 refine wp_g0 [true,true,true,true] [] 6
   [ve (.int .u16 (x:Int)),vT,vF,vF] ac (.eq (.eq (.eq (.eq (.nil))))) ?_ ?_
 exact .m (fun k=>k.fx 0 h8)<| .o1 (ck rfl rfl rfl (fun _ w hn k=>⟨#[.int .u16 (x:Int)],args1 (k.eq1 0 3 rfl),fun _=>by kernel_rfl,digit_c x _ (by omega)⟩) fun _=>congrArg Value.bool aa)<| .t (fun _ w hn k=>⟨_,v_not rfl (k.eq1 1 4 rfl),rfl⟩)<| .a (fun k=>k.eq1 2 5 rfl) .nil
 refine aftI ac ae af fun aA aB au ag ah av ai=>?_
 have aq:=ai.ge 3 2 rfl
 refine st_nil (ad _ _ ?_)
 refine wp_ret (ret_k ag (v:=.bool false) (res_t rfl aq _) ?_)
 refine ⟨?_,ah⟩
 show Ending.returned (.bool false)=Ending.returned (.bool (!dgtN x))
 first|rfl|(simp only [aa,bsm] <;> rfl)|(exfalso; omega)
 refine wp_g0 [true,true,true,true] [] 6
   [ve (.int .u16 (x:Int)),vF,vT,vT] ac (.eq (.eq (.eq (.eq (.nil))))) ?_ ?_
 exact .m (fun k=>k.fx 0 h8)<| .o1 (ck rfl rfl rfl (fun _ w hn k=>⟨#[.int .u16 (x:Int)],args1 (k.eq1 0 3 rfl),fun _=>by kernel_rfl,digit_c x _ (by omega)⟩) fun _=>congrArg Value.bool aa)<| .t (fun _ w hn k=>⟨_,v_not rfl (k.eq1 1 4 rfl),rfl⟩)<| .a (fun k=>k.eq1 2 5 rfl) .nil
 refine aftI ac ae af fun aC aD aw aj ak ax al=>?_
 have ar:=al.ge 3 2 rfl
 refine st_nil (ad _ _ ?_)
 refine wp_ret (ret_k aj (v:=.bool true) (res_t rfl ar _) ?_)
 refine ⟨?_,ak⟩
 show Ending.returned (.bool true)=Ending.returned (.bool (!dgtN x))
 first|rfl|(simp only [aa,bsm] <;> rfl)|(exfalso; omega)
theorem indexf_c (Au:Option Addr) (u:List Nat) (cu:Nat) (w:World) (hru:SRow w .u16 Au u cu) (hu:U16s u):Calls Tryz.prog 158 #[sv Au u cu,.func (.func 100) #[] #[]] w (IsRet (iv (idxF (fun y:Nat=>!dgtN y) u)) w):=by
 refine enter_abs Tryz.func158 rfl fun a0 al bn hp=>?_
 have al:a0.tmps.size=19:=al
 have bo:New w w:=Upd.refl _ _
 have hp0:a0.eval (.tmp 0)=sv Au u cu:=hp 0 _ rfl
 have hp1:a0.eval (.tmp 1)=.func (.func 100) #[] #[]:=hp 1 _ rfl
 have hmx:=hru.max
 refine wp_seq_k fun K1 bp=>?_
 refine wp_g0 [true] [] 19
   [ve (iv 0)] al (.eq (.nil)) ?_ ?_
 exact .t (fun _ w hn k=>⟨_,v_assign rfl rfl,rfl⟩) .nil
 refine aftI al bn bo fun a2 w3 aF bq aS bZ aG=>?_
 have h8:=aG.fx 0 hp0
 have h9:=aG.fx 1 hp1
 refine st_nil (bp _ _ (wp_seq_k fun b0 aT=>?_))
 refine wp_seq_k fun b2 aU=>?_
 refine wp_g0 [true,true,true] [] 19
   [ve (sv Au u cu),ve (iv (u.length:Int)),ve (iv 0)] aF (.eq (.eq (.eq (.nil)))) ?_ ?_
 exact .m (fun k=>k.fx 0 h8)<| .t (fun _ w hn k=>⟨_,v_lenR rfl elU (k.eq1 0 6 rfl),rfl⟩)<| .t (fun _ w hn k=>⟨_,v_move rfl rfl,rfl⟩) .nil
 refine aftI aF bq aS fun b4 b6 aV aW aX bO ai=>?_
 have br:=ai.fx 0 h8
 have bs:=ai.fx 1 h9
 have bt:=ai.ge 1 7 rfl
 have bu:=ai.ge 2 8 rfl
 refine st_nil (aU _ _ ?_)
 refine wp_block ?_
 refine wp_loopX (fun (mm:Nat) (aa:Act) (ww:World)=>∃ (i:Nat),mm=u.length - i∧aa.tmps.size=19∧aa.defers=[]∧New w ww∧aa.eval (.tmp 8)=iv (i:Int)∧aa.eval (.tmp 0)=sv Au u cu∧aa.eval (.tmp 1)=.func (.func 100) #[] #[]∧aa.eval (.tmp 7)=iv (u.length:Int)∧(i≤u.length)∧(∀ j,j < i→(fun y:Nat=>!dgtN y) (u.getD j 0)=false)) (fun mm=>mm) ⟨_,⟨0,rfl,aV,aW,aX,bu,br,bs,bt,(Nat.zero_le _),(fun j h=>absurd h (Nat.not_lt_zero _))⟩⟩ ?_
 rintro mm b7 b8 ⟨i,hmm,am,aY,aZ,aH,bv,bw,aI,hi,hno⟩
 refine wp_seq_k fun b9 a1=>?_
 refine wp_g0 [true] [] 19
   [ve (.bool (decide ((i:Int) < (u.length:Int))))] am (.eq (.nil)) ?_ ?_
 exact .t (fun _ w hn k=>⟨_,v_bin rfl (k.fx 8 aH) (k.fx 7 aI) (fun _=>rfl) (r_lssK rfl),rfl⟩) .nil
 refine aftI am aY aZ fun ca cb aj an ao bP ad=>?_
 have aJ:=ad.fx 8 aH
 have bx:=ad.fx 0 bv
 have bz:=ad.fx 1 bw
 have bA:=ad.fx 7 aI
 have aK:=ad.ge 0 9 rfl
 refine st_nil (a1 _ _ (wp_seq_k fun cc a3=>?_))
 rcases bc (decide ((i:Int) < (u.length:Int))) with ae|ae
 have aw:=oT ae
 have a4:=hB aK ae
 refine wp_cond_true a4 ?_
 refine wp_skip ?_
 refine a3 _ _ ?_
 refine wp_seq_k fun cd a5=>?_
 refine wp_block ?_
 refine wp_seq_k fun ce a6=>?_
 refine wp_g0 [true,true] [] 19
   [ve (iv (i:Int)),ve (iv (i:Int))] aj (.eq (.eq (.nil))) ?_ ?_
 exact .m (fun k=>k.fx 8 aJ)<| .a (fun k=>k.eq1 0 10 rfl) .nil
 refine aftI aj an ao fun cf ch ap a7 aq bQ af=>?_
 have bB:=af.fx 8 aJ
 have aL:=af.fx 0 bx
 have aM:=af.fx 1 bz
 have bC:=af.fx 7 bA
 have aN:=af.ge 1 5 rfl
 refine st_nil (a6 _ _ (wp_seq_k fun ci a8=>?_))
 have hb:=hu.at16 i
 refine wp_g0 [true,true,true,true,true,true] [] 19
   [ve (.func (.func 100) #[] #[]),ve (sv Au u cu),ve (iv (i:Int)),
    (EP (.int .u16 ((u.getD i 0:Nat):Int))),ve (.int .u16 ((u.getD i 0:Nat):Int)),ve (.bool (!dgtN (u.getD i 0)))] ap (.eq (.eq (.eq (.cons (fun _ _ _ n ⟨_,_,e,h⟩=>⟨_,_,e,h.new_ n⟩) (.eq (.eq (.nil))))))) ?_ ?_
 refine .m (fun k=>k.fx 1 aM)<| .m (fun k=>k.fx 0 aL)<| .m (fun k=>k.fx 5 aN) ?_
 refine .o1 (tk rfl rfl fun _ w hn k=>(by
       exact x_eaddr (k:=.u16) rfl elU (k.eq1 1 12 rfl) (k.eq1 2 13 rfl) (hru.new_ (aq.transNew hn)) (by omega) fun b1 o2 hme=>⟨b1,o2,rfl,hme⟩)) ?_
 refine .o1 (tk rfl rfl fun _ w hn k=>(by
       obtain⟨b5,o6,e7,bD⟩:(EP (.int .u16 ((u.getD i 0:Nat):Int))) _ _:=k.dep 3 14 (by kernel_rfl) (by kernel_rfl)
       exact⟨_,v_load rfl e7 (l_one Tryz.isAgg74 bD.1),rfl⟩)) ?_
 refine .o1 (tkV rfl (noG rfl) rfl fun _ w hn k=>(by
       refine ⟨100,#[.int .u16 ((u.getD i 0:Nat):Int)],_,(k.eq1 0 11 rfl),args1 (k.eq1 4 15 rfl),fun w=>by kernel_rfl,nodigit_c (u.getD i 0) _ (by omega),?_⟩
       rintro e w' ⟨rfl,hm⟩
       exact⟨_,rfl,hm,rfl⟩)) ?_
 exact .nil
 refine aftI ap a7 aq fun cj cl ak ar au bR ac=>?_
 have aO:=ac.fx 8 bB
 have bE:=ac.fx 0 aL
 have bF:=ac.fx 1 aM
 have bG:=ac.fx 7 bC
 have bH:=ac.fx 5 aN
 have aP:=ac.ge 5 16 rfl
 refine st_nil (a8 _ _ ?_)
 rcases bc ((!dgtN (u.getD i 0))) with ag|ag
 have a9:=hB aP ag
 refine wp_cond_true a9 ?_
 refine wp_seq_k fun cm ba=>?_
 refine wp_g0 [true,true] [] 19
   [ve (iv (i:Int)),ve (iv (i:Int))] ak (.eq (.eq (.nil))) ?_ ?_
 exact .m (fun k=>k.fx 5 bH)<| .a (fun k=>k.eq1 0 17 rfl) .nil
 refine aftI ak ar au fun cn co bS bb bd bT be=>?_
 have bI:=be.ge 1 4 rfl
 refine st_nil (ba _ _ ?_)
 refine wp_ret (ret_k bb (v:=iv (i:Int)) (res_t rfl bI _) ?_)
 exact⟨by rw [idxF_at (fun y:Nat=>!dgtN y) u i (by omega) hno ag],bd⟩
 have bf:=hB aP ag
 refine wp_cond_false bf ?_
 refine wp_skip ?_
 refine a5 _ _ ?_
 refine wp_g0 [true,false] [(1,true)] 19
   [ve (iv ((i + 1:Nat):Int)),vt] ak (.eq (.tt (.nil))) ?_ ?_
 exact .t (fun _ w hn k=>⟨_,v_bin rfl (k.fx 8 aO) rfl (fun _=>rfl) (n_add (by omega) (IntWalk.i64_in _ (by omega))),rfl⟩)<| .off .nil
 refine aftI ak ar au fun aQ cp av bg ax bU ah=>?_
 have cq:=ah.fx 8 aO
 have bJ:=ah.fx 0 bE
 have bK:=ah.fx 1 bF
 have bL:=ah.fx 7 bG
 have aR:=ah.ge 0 18 rfl
 refine st_take rfl rfl (y_move (v:=iv ((i + 1:Nat):Int)) rfl aR) rfl ?_
 obtain⟨bh,ab⟩:∃ a',a'=aQ.put (some 8) (iv ((i + 1:Nat):Int)):=⟨_,rfl⟩
 have ay:=pz ab av
 have az:=pd ab bg
 have bi:=pn ab bJ (by decide)
 have bj:=pn ab bK (by decide)
 have bk:=pn ab bL (by decide)
 have bV:=pn ab aR (by decide)
 have bl:bh.eval (.tmp 8)=iv ((i + 1:Nat):Int):=by rw [ab]; exact put_same _ _ _ (by rw [av]; decide)
 show stepsTo _ _ _ _ _ (aQ.put (some 8) (iv ((i + 1:Nat):Int))) _
 rw [← ab]
 refine st_nil ?_
 refine then_n ?_
 exact⟨_,⟨i + 1,rfl,ay,az,ax,(bl.trans (congrArg (Value.int .i64) (by omega))),bi,bj,bk,(by omega),(up_false (p:=(fun y:Nat=>!dgtN y)) hno ag)⟩,(by omega)⟩
 have aw:=oF ae
 have aA:=hB aK ae
 refine wp_cond_false aA ?_
 refine wp_exit ?_
 refine aT _ _ ?_
 refine wp_seq_k fun bW aB=>?_
 refine wp_g0 [true] [] 19
   [ve (iv (-1))] aj (.eq (.nil)) ?_ ?_
 exact .t (fun _ w hn k=>⟨_,v_assign rfl rfl,rfl⟩) .nil
 refine aftI aj an ao fun bX bY bM aC aD bN aE=>?_
 have bm:=aE.ge 0 4 rfl
 refine st_nil (aB _ _ ?_)
 refine wp_ret (ret_k aC (v:=iv (-1)) (res_t rfl bm _) ?_)
 exact⟨by rw [idxF_none (fun y:Nat=>!dgtN y) u (fun j hj=>hno j (by omega))],aD⟩
theorem containsf_c (Au:Option Addr) (u:List Nat) (cu:Nat) (w:World) (hru:SRow w .u16 Au u cu) (hu:U16s u):Calls Tryz.prog 99 #[sv Au u cu,.func (.func 100) #[] #[]] w (IsRet (.bool (u.any (fun y:Nat=>!dgtN y))) w):=by
 refine enter_abs Tryz.func99 rfl fun a0 ac ao hp=>?_
 have ac:a0.tmps.size=9:=ac
 have ap:New w w:=Upd.refl _ _
 have hp0:a0.eval (.tmp 0)=sv Au u cu:=hp 0 _ rfl
 have hp1:a0.eval (.tmp 1)=.func (.func 100) #[] #[]:=hp 1 _ rfl
 have hmx:=hru.max
 refine wp_seq_k fun K1 aq=>?_
 refine wp_g0 [true] [] 9
   [vF] ac (.eq (.nil)) ?_ ?_
 exact .t (fun _ w hn k=>⟨_,v_assign rfl rfl,rfl⟩) .nil
 refine aftI ac ao ap fun a2 w3 ad ag ab az ah=>?_
 have h8:=ah.fx 0 hp0
 have h9:=ah.fx 1 hp1
 refine st_nil (aq _ _ (wp_seq_k fun aA ae=>?_))
 rcases bc (decide ((idxF (fun y:Nat=>!dgtN y) u) < 0)) with aa|aa
 have af:=oT aa
 refine wp_g0 [true,true,true,true,true] [] 9
   [ve (sv Au u cu),ve (.func (.func 100) #[] #[]),ve (iv (idxF (fun y:Nat=>!dgtN y) u)),vF,vF] ad (.eq (.eq (.eq (.eq (.eq (.nil)))))) ?_ ?_
 exact .m (fun k=>k.fx 0 h8)<| .m (fun k=>k.fx 1 h9)<| .o1 (ck rfl rfl rfl (fun _ w hn k=>⟨#[sv Au u cu,.func (.func 100) #[] #[]],args2 (k.eq1 0 5 rfl) (k.eq1 1 6 rfl),fun _=>by kernel_rfl,indexf_c _ u _ _ (hru.new_ (ab.transNew hn)) hu⟩) fun _=>rfl)<| .t (fun _ w hn k=>⟨_,v_bin rfl (k.eq1 2 7 rfl) rfl (fun _=>rfl) (r_geqK aa),rfl⟩)<| .a (fun k=>k.eq1 3 8 rfl) .nil
 refine aftI ad ag ab fun aB aC av ai aj aw ak=>?_
 have ar:=ak.ge 4 4 rfl
 refine st_nil (ae _ _ ?_)
 refine wp_ret (ret_k ai (v:=.bool false) (res_t rfl ar _) ?_)
 exact⟨by rw [← idxF_any (fun y:Nat=>!dgtN y) u,aa]; rfl,aj⟩
 have af:=oF aa
 refine wp_g0 [true,true,true,true,true] [] 9
   [ve (sv Au u cu),ve (.func (.func 100) #[] #[]),ve (iv (idxF (fun y:Nat=>!dgtN y) u)),vT,vT] ad (.eq (.eq (.eq (.eq (.eq (.nil)))))) ?_ ?_
 exact .m (fun k=>k.fx 0 h8)<| .m (fun k=>k.fx 1 h9)<| .o1 (ck rfl rfl rfl (fun _ w hn k=>⟨#[sv Au u cu,.func (.func 100) #[] #[]],args2 (k.eq1 0 5 rfl) (k.eq1 1 6 rfl),fun _=>by kernel_rfl,indexf_c _ u _ _ (hru.new_ (ab.transNew hn)) hu⟩) fun _=>rfl)<| .t (fun _ w hn k=>⟨_,v_bin rfl (k.eq1 2 7 rfl) rfl (fun _=>rfl) (r_geqK aa),rfl⟩)<| .a (fun k=>k.eq1 3 8 rfl) .nil
 refine aftI ad ag ab fun aD aE ax al am ay an=>?_
 have au:=an.ge 4 4 rfl
 refine st_nil (ae _ _ ?_)
 refine wp_ret (ret_k al (v:=.bool true) (res_t rfl au _) ?_)
 exact⟨by rw [← idxF_any (fun y:Nat=>!dgtN y) u,aa]; rfl,am⟩
end Go.Proofs.YtjakfchffigkkaaGreatDoor
