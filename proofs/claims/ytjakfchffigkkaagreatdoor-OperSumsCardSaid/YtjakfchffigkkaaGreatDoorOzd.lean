import Derived.Test.YtjakfchffigkkaaGreatDoorOzc
namespace Go.Proofs.YtjakfchffigkkaaGreatDoor
open Go.RowKit
set_option linter.unusedSimpArgs false
set_option linter.unusedVariables false
set_option maxHeartbeats 16000000
set_option maxRecDepth 100000
theorem binT_c  (v:Vl) (Av:Option Addr) (cv:Nat) (Bv:Option Addr) (dv:Nat) (u:Vl) (Au:Option Addr) (cu:Nat) (Bu:Option Addr) (du:Nat) (w:World) (hmv:SRow w .u32 Av v.mag cv) (hsv:SRow w .u16 Bv v.s dv) (hmu:SRow w .u32 Au u.mag cu) (hsu:SRow w .u16 Bu u.s du) (hvv:VOk v) (hvu:VOk u) (hk5:(cleanV v).k=5) (HT:ItoaOk w):Calls Tryz.prog 12 #[.string ⟨#[43]⟩,vv v Av cv Bv dv,vv u Au cu Bu du] w (binT_c_P v Av cv Bv dv u Au cu Bu du w):=by
 refine enter_abs Tryz.func12 rfl fun a0 aQ cX hp=>?_
 have aQ:a0.tmps.size=120:=aQ
 have aR:New w w:=Upd.refl _ _
 have hp0:a0.eval (.tmp 0)=.string ⟨#[43]⟩:=hp 0 _ rfl
 have hp1:a0.eval (.tmp 1)=vv v Av cv Bv dv:=hp 1 _ rfl
 have hp2:a0.eval (.tmp 2)=vv u Au cu Bu du:=hp 2 _ rfl
 refine wp_seq_k fun K1 cY=>?_
 refine wp_g [true,true,true,true] [] [] 120
   [IsNew w 29 (c7 v Av cv Bv dv),IsNew w 29 (c7 u Au cu Bu du),IsNew w 29 z7,ve (iv 0)]
   [0,1,2] (newsCons (fun v w h=>IsNew.old h) (newsCons (fun v w h=>IsNew.old h) (newsCons (fun v w h=>IsNew.old h) newsNil))) aQ (.nw (.nw (.nw (.eq (.nil))))) ?_ (fun i h=>by cases h) ?_
 exact .o2 (step_allocN (cs:=(c7 v Av cv Bv dv)) (t:=29) rfl (noG rfl) (fun _ w hn k=>v_box rfl (k.fx 1 hp1) (fun w=>rfl)) (fun q _ hq hb=>⟨q,rfl,hq,hb⟩))<| .o2 (step_allocN (cs:=(c7 u Au cu Bu du)) (t:=29) rfl (noG rfl) (fun _ w hn k=>v_box rfl (k.fx 2 hp2) (fun w=>rfl)) (fun q _ hq hb=>⟨q,rfl,hq,hb⟩))<| .o2 (step_allocN (cs:=z7) (t:=29) rfl (noG rfl) (fun _ w hn k=>rfl) (fun q _ hq hb=>⟨q,rfl,hq,hb⟩))<| .t (fun _ w hn k=>⟨_,v_assign rfl rfl,rfl⟩) .nil
 refine aftI aQ cX aR fun a2 w3 b0 cZ an dT ao=>?_
 have h8:=ao.fx 0 hp0
 obtain⟨aS,h9,b6,a3⟩:=ao.G 0 4
 obtain⟨aT,aU,b7,a4⟩:=ao.G 1 5
 obtain⟨a5,a6,b8,b9⟩:=ao.G 2 6
 have hne21:aS ≠ aT:=ao.ne 0 1 4 5 h9 aU
 have hne22:aS ≠ a5:=ao.ne 0 2 4 6 h9 a6
 have hne23:aT ≠ a5:=ao.ne 1 2 5 6 aU a6
 have dz:=Nat.le_trans aR.size b6
 have dA:=Nat.le_trans aR.size b7
 have dB:=Nat.le_trans aR.size b8
 refine st_nil (cY _ _ (wp_seq_k fun dU ca=>?_))
 refine wp_g0 [true,true,true,true,false,false] [(4,false),(5,false)] 120
   [ve (vv v Av cv Bv dv),
    (VP (cleanV v)),ve (vv u Au cu Bu du),
    (VP (cleanV u)),vt,vt] b0 (.eq (.cons (fun _ _ _ n ⟨_,_,_,_,e,h,i⟩=>⟨_,_,_,_,e,h.new_ n,i.new_ n⟩) (.eq (.cons (fun _ _ _ n ⟨_,_,_,_,e,h,i⟩=>⟨_,_,_,_,e,h.new_ n,i.new_ n⟩) (.tt (.tt (.nil))))))) ?_ ?_
 refine .t (fun _ w hn k=>⟨_,v_load rfl (k.fx 4 h9) (l_agg Tryz.isAgg29 Tryz.sizeOf29 (a3.new_ hn) rfl),rfl⟩) ?_
 refine .o1 (tkC rfl (noG rfl) rfl fun _ w hn k=>(by
       refine ⟨#[vv v Av cv Bv dv],_,args1 (k.eq1 0 10 rfl),fun w=>by kernel_rfl,clean_c v _ _ _ _ _ (hmv.new_ (an.transNew hn)) (hsv.new_ (an.transNew hn)),?_⟩
       rintro e w' ⟨A1,c2,A3,c4,rfl,hmo0,hmo1,hm⟩
       exact⟨_,rfl,hm,⟨A1,c2,A3,c4,rfl,hmo0,hmo1⟩⟩)) ?_
 refine .t (fun _ w hn k=>⟨_,v_load rfl (k.fx 5 aU) (l_agg Tryz.isAgg29 Tryz.sizeOf29 (a4.new_ hn) rfl),rfl⟩) ?_
 refine .o1 (tkC rfl (noG rfl) rfl fun _ w hn k=>(by
       refine ⟨#[vv u Au cu Bu du],_,args1 (k.eq1 2 12 rfl),fun w=>by kernel_rfl,clean_c u _ _ _ _ _ (hmu.new_ (an.transNew hn)) (hsu.new_ (an.transNew hn)),?_⟩
       rintro e w' ⟨A9,c9,da,db,rfl,hmo0,hmo1,hm⟩
       exact⟨_,rfl,hm,⟨A9,c9,da,db,rfl,hmo0,hmo1⟩⟩)) ?_
 exact .off<| .off .nil
 refine aftI b0 cZ an fun b1 dV a7 cb cc aO am=>?_
 have b2:=am.fx 0 h8
 have b3:=am.fx 4 h9
 have b4:=am.fx 5 aU
 have dc:=am.fx 6 a6
 obtain⟨aL,ap,aM,aq,a8,cd,ce⟩:=am.G 1 11
 have a8:b1.eval (.tmp 11)=vv (cleanV v) aL ap aM aq:=a8
 obtain⟨aN,ar,aG,au,a9,cf,ch⟩:=am.G 3 13
 have a9:b1.eval (.tmp 13)=vv (cleanV u) aN ar aG au:=a9
 have av:=a3.new_ aO
 have ci:=a4.new_ aO
 have cj:=b9.new_ aO
 obtain⟨dd,bk,bl,aw,ba⟩:=s_many (P:=Tryz.prog) (t:=29) (i:=0) (c7 (cleanV v) aL ap aM aq) Tryz.sizeOf29 rfl rfl rfl av lb
 have cl:Blk dd aS 29 (c7 (cleanV v) aL ap aM aq):=bl
 refine st_act rfl rfl fun dW cm=>a_store' rfl b3 a8 bk (cm _ _ trivial ?_)
 have cn:=cd.fr av aw
 have co:=ce.fr av aw
 have cp:=cf.fr av aw
 have cq:=ch.fr av aw
 have ax:=ba _ _ _ (fun h=>hne21 h.symm) ci
 have cr:=ba _ _ _ (fun h=>hne22 h.symm) cj
 have ct:=cc.trans aw (fun _ h b=>by subst b; omega)
 obtain⟨de,bm,bn,ay,bb⟩:=s_many (P:=Tryz.prog) (t:=29) (i:=0) (c7 (cleanV u) aN ar aG au) Tryz.sizeOf29 rfl rfl rfl ax lb
 have cw:Blk de aT 29 (c7 (cleanV u) aN ar aG au):=bn
 refine st_act rfl rfl fun dX cx=>a_store' rfl b4 a9 bm (cx _ _ trivial ?_)
 have cy:=cn.fr ax ay
 have cz:=co.fr ax ay
 have cA:=cp.fr ax ay
 have cB:=cq.fr ax ay
 have cC:=bb _ _ _ (hne21) cl
 have cD:=bb _ _ _ (fun h=>hne23 h.symm) cr
 have cE:=ct.trans ay (fun _ h b=>by subst b; omega)
 refine st_nil (ca _ _ (wp_seq_k fun dY dC=>?_))
 refine wp_seq_k fun dZ cF=>?_
 refine wp_g0 [true] [] 120
   [ve (.string ⟨#[43]⟩)] a7 (.eq (.nil)) ?_ ?_
 exact .m (fun k=>k.fx 0 b2) .nil
 refine aftI a7 cb cE fun d0 d1 bd cG bo ai az=>?_
 have df:=az.fx 0 b2
 have dg:=az.fx 4 b3
 have dh:=az.fx 5 b4
 have di:=az.fx 6 dc
 have b5:=az.ge 0 14 rfl
 have cH:=cC.new_ ai
 have cI:=cw.new_ ai
 have bp:=cD.new_ ai
 have bq:=cy.new_ ai
 have br:=cz.new_ ai
 have bs:=cA.new_ ai
 have bt:=cB.new_ ai
 refine st_nil (cF _ _ ?_)
 refine wp_block ?_
 refine wp_seq_k fun dD bu=>?_
 refine wp_g0 [true,true] [] 120
   [vT,vT] bd (.eq (.eq (.nil))) ?_ ?_
 exact .t (fun _ w hn k=>⟨_,v_bin rfl (k.fx 14 b5) rfl (fun _=>rfl) (r_eqlS (r:=true) (by kernel_rfl)),rfl⟩)<| .a (fun k=>k.eq1 0 16 rfl) .nil
 refine aftI bd cG bo fun dE dF aV bv bw aa ad=>?_
 have cJ:=ad.fx 0 df
 have be:=ad.fx 4 dg
 have bf:=ad.fx 5 dh
 have cK:=ad.fx 6 di
 have dG:=ad.fx 14 b5
 have cL:=ad.ge 1 15 rfl
 have aW:=cH.new_ aa
 have aX:=cI.new_ aa
 have bx:=bp.new_ aa
 have bz:=bq.new_ aa
 have bA:=br.new_ aa
 have bB:=bs.new_ aa
 have bC:=bt.new_ aa
 refine st_nil (bu _ _ ?_)
 refine wp_cond_true cL ?_
 refine wp_seq_k fun dH dw=>?_
 refine wp_seq_k fun dI bD=>?_
 refine wp_g0 (.replicate 8 true) [] 120
   [ve (pv aS),ve (iv ((cleanV v).k)),ve (.bool (decide (((cleanV v).k)=5))),ve (.bool (decide (((cleanV v).k)=5))),ve (gq (!(decide (((cleanV v).k)=5))) (pv aT)),ve (gq (!(decide (((cleanV v).k)=5))) (iv ((cleanV u).k))),ve (gq (!(decide (((cleanV v).k)=5))) (.bool (decide (((cleanV u).k)=5)))),ve (.bool ((decide (((cleanV v).k)=5)) || (decide (((cleanV u).k)=5))))] aV (.eq (.eq (.eq (.eq (.eq (.eq (.eq (.eq (.nil))))))))) ?_ ?_
 exact .f (fun k=>k.fx 4 be)<| .t (fun _ w hn k=>⟨_,v_load rfl (k.eq1 0 17 rfl) (l_one Tryz.isAgg3 ((aW.new_ hn).cell 0)),rfl⟩)<| .t (fun _ w hn k=>⟨_,v_bin rfl (k.eq1 1 18 rfl) rfl (fun _=>rfl) (r_eql rfl),rfl⟩)<| .m (fun k=>k.eq1 2 19 rfl)<| .o1 (sc (G:=(!(decide (((cleanV v).k)=5)))) rfl rfl rfl (fun _ _ k=>g0' (k.eq1 3 20 rfl)) (fun hG _ w hn k=>v_field rfl (k.fx 5 bf) (fun w=>rfl)))<| .o1 (sc (G:=(!(decide (((cleanV v).k)=5)))) rfl rfl rfl (fun _ _ k=>g0' (k.eq1 3 20 rfl)) (fun hG _ w hn k=>v_load rfl (cT hG (k.eq1 4 21 rfl)) (l_one Tryz.isAgg3 ((aX.new_ hn).cell 0))))<| .o1 (sc (G:=(!(decide (((cleanV v).k)=5)))) rfl rfl rfl (fun _ _ k=>g0' (k.eq1 3 20 rfl)) (fun hG _ w hn k=>v_bin rfl (cT hG (k.eq1 5 22 rfl)) rfl (fun _=>rfl) (r_eql rfl)))<| .t (fun _ w hn k=>⟨_,v_or rfl (k.eq1 3 20 rfl) rfl (fun hg=>(cT (nt hg) (k.eq1 6 23 rfl))),rfl⟩) .nil
 refine aftI aV bv bw fun dJ dK aY bE aZ ab aj=>?_
 have dL:=aj.fx 0 cJ
 have cM:=aj.fx 4 be
 have cN:=aj.fx 5 bf
 have cO:=aj.fx 6 cK
 have cP:=aj.ge 7 24 rfl
 have bF:=aW.new_ ab
 have bG:=aX.new_ ab
 have bH:=bx.new_ ab
 have bI:=bz.new_ ab
 have bJ:=bA.new_ ab
 have bK:=bB.new_ ab
 have bL:=bC.new_ ab
 refine st_nil (bD _ _ ?_)
 have bM:(((decide (((cleanV v).k)=5)) || (decide (((cleanV u).k)=5))))=true:=(by rw [show ((decide (((cleanV v).k)=5)))=true from decide_eq_true (hk5)]; rfl)
 have bN:=hB cP bM
 refine wp_cond_true bN ?_
 refine wp_seq_k fun dM bO=>?_
 refine wp_g0 [true,true,true,true,true,false,false] [(5,false),(6,true)] 120
   [ve (vv (cleanV v) aL ap aM aq),ve (vv (cleanV u) aN ar aG au),(TP (joinV (cleanV v) (cleanV u)).1 ((joinV (cleanV v) (cleanV u)).2)),(fun (v_:Value) (W:World)=>∃ (aA:Option Addr) (aB:Nat) (aC:Option Addr) (aD:Nat),v_=vv (joinV (cleanV v) (cleanV u)).1 aA aB aC aD∧SRow W .u32 aA ((joinV (cleanV v) (cleanV u)).1.mag) aB∧SRow W .u16 aC ((joinV (cleanV v) (cleanV u)).1.s) aD),ve (iv ((joinV (cleanV v) (cleanV u)).2)),vt,vt] aY (.eq (.eq (.cons (fun _ _ _ n ⟨_,_,_,_,e,h,i⟩=>⟨_,_,_,_,e,h.new_ n,i.new_ n⟩) (.cons (fun _ _ _ n ⟨_,_,_,_,e,h,i⟩=>⟨_,_,_,_,e,h.new_ n,i.new_ n⟩) (.eq (.tt (.tt (.nil)))))))) ?_ ?_
 refine .t (fun _ w hn k=>⟨_,v_load rfl (k.fx 4 cM) (l_agg Tryz.isAgg29 Tryz.sizeOf29 (bF.new_ hn) rfl),rfl⟩)<| .t (fun _ w hn k=>⟨_,v_load rfl (k.fx 5 cN) (l_agg Tryz.isAgg29 Tryz.sizeOf29 (bG.new_ hn) rfl),rfl⟩) ?_
 refine .o1 (tkC rfl (noG rfl) rfl fun _ w hn k=>(by
       refine ⟨#[vv (cleanV v) aL ap aM aq,vv (cleanV u) aN ar aG au],_,args2 (k.eq1 0 25 rfl) (k.eq1 1 26 rfl),fun w=>by kernel_rfl,join_c (cleanV v) _ _ _ _ (cleanV u) _ _ _ _ _ (bI.new_ hn) (bJ.new_ hn) (bK.new_ hn) (bL.new_ hn) hvv.clean hvu.clean (HT.up (aZ.transNew hn)),?_⟩
       rintro e w' ⟨dj,dk,dl,dm,rfl,hmo0,hmo1,hm⟩
       exact⟨_,rfl,hm,⟨dj,dk,dl,dm,rfl,hmo0,hmo1⟩⟩)) ?_
 refine .o1 (tk rfl rfl fun _ w hn k=>(by
       obtain⟨dn,dp,dq,dr,ds,cQ,cR⟩:(TP (joinV (cleanV v) (cleanV u)).1 ((joinV (cleanV v) (cleanV u)).2)) _ _:=k.dep 2 27 (by kernel_rfl) (by kernel_rfl)
       exact⟨_,v_extract rfl ds rfl,⟨dn,dp,dq,dr,rfl,cQ,cR⟩⟩)) ?_
 refine .o1 (tk rfl rfl fun _ w hn k=>(by
       obtain⟨aG,d2,d3,d4,dt,dN,dO⟩:(TP (joinV (cleanV v) (cleanV u)).1 ((joinV (cleanV v) (cleanV u)).2)) _ _:=k.dep 2 27 (by kernel_rfl) (by kernel_rfl)
       exact⟨_,v_extract rfl dt rfl,rfl⟩)) ?_
 exact .off<| .off .nil
 refine aftI aY bE aZ fun aP dP a1 bP bQ bR aH=>?_
 have bg:=aH.fx 6 cO
 obtain⟨aE,ak,aF,al,aI,bS,bT⟩:=aH.G 3 28
 have aI:aP.eval (.tmp 28)=vv (joinV (cleanV v) (cleanV u)).1 aE ak aF al:=aI
 have bh:=aH.ge 4 29 rfl
 have aJ:=bH.new_ bR
 obtain⟨cS,bi,bj,aK,dx⟩:=s_many (P:=Tryz.prog) (t:=29) (i:=0) (c7 (joinV (cleanV v) (cleanV u)).1 aE ak aF al) Tryz.sizeOf29 rfl rfl rfl aJ lb
 have bU:Blk cS a5 29 (c7 (joinV (cleanV v) (cleanV u)).1 aE ak aF al):=bj
 refine st_act rfl rfl fun dQ bV=>a_store' rfl bg aI bi (bV _ _ trivial ?_)
 have bW:=bS.fr aJ aK
 have bX:=bT.fr aJ aK
 have bY:=bQ.trans aK (fun _ h b=>by subst b; omega)
 refine st_take rfl rfl (y_assign (v:=iv ((joinV (cleanV v) (cleanV u)).2)) rfl bh) rfl ?_
 obtain⟨cU,ac⟩:∃ a',a'=aP.put (some 7) (iv ((joinV (cleanV v) (cleanV u)).2)):=⟨_,rfl⟩
 have dy:=pz ac a1
 have bZ:=pd ac bP
 have cV:=pn ac bg (by decide)
 have dR:=pn ac aI (by decide)
 have dS:=pn ac bh (by decide)
 have cW:cU.eval (.tmp 7)=iv ((joinV (cleanV v) (cleanV u)).2):=by rw [ac]; exact put_same _ _ _ (by rw [a1]; decide)
 show stepsTo _ _ _ _ _ (aP.put (some 7) (iv ((joinV (cleanV v) (cleanV u)).2))) _
 rw [← ac]
 refine st_nil (bO _ _ ?_)
 refine wp_ret (ret_k bZ (v:=.tuple #[vv (joinV (cleanV v) (cleanV u)).1 aE ak aF al,iv ((joinV (cleanV v) (cleanV u)).2)]) (res_ct rfl cV cW (l_agg Tryz.isAgg29 Tryz.sizeOf29 bU rfl)) ?_)
 exact⟨aE,ak,aF,al,rfl,bW,bX,bY⟩
def truthR (t:Bool):Int:=if t then 1 else 0
def besideO (b:Bool) (m:List Nat) (a:Nm):Int × Bool:=if decide (a.k=2) then (0,false) else if decide (a.k=3) then (-1,true) else if decide (a.k=4) then (1,true) else (cmpZ (goodI b m) a.n,true)
theorem sumsM_c  (v:Vl) (Av:Option Addr) (cv:Nat) (Bv:Option Addr) (dv:Nat) (u:Vl) (Au:Option Addr) (cu:Nat) (Bu:Option Addr) (du:Nat) (w:World) (hmv:SRow w .u32 Av v.mag cv) (hsv:SRow w .u16 Bv v.s dv) (hmu:SRow w .u32 Au u.mag cu) (hsu:SRow w .u16 Bu u.s du) (hvv:VOk v) (hvu:VOk u) (hns:(numericsV v u).2.2 ≠ 0):Calls Tryz.prog 36 #[.string ⟨#[43]⟩,vv v Av cv Bv dv,vv u Au cu Bu du] w (IsRet (.tuple #[vv (Vl.mk 0 0 0 false [] [] 0) none 0 none 0,iv ((numericsV v u).2.2)]) w):=by
 refine enter_abs Tryz.func36 rfl fun a0 aS cF hp=>?_
 have aS:a0.tmps.size=92:=aS
 have aT:New w w:=Upd.refl _ _
 have hp0:a0.eval (.tmp 0)=.string ⟨#[43]⟩:=hp 0 _ rfl
 have hp1:a0.eval (.tmp 1)=vv v Av cv Bv dv:=hp 1 _ rfl
 have hp2:a0.eval (.tmp 2)=vv u Au cu Bu du:=hp 2 _ rfl
 refine wp_seq_k fun K1 cG=>?_
 refine wp_g [true,true,true,true] [] [] 92
   [IsNew w 29 (c7 v Av cv Bv dv),IsNew w 29 (c7 u Au cu Bu du),IsNew w 29 z7,ve (iv 0)]
   [0,1,2] (newsCons (fun v w h=>IsNew.old h) (newsCons (fun v w h=>IsNew.old h) (newsCons (fun v w h=>IsNew.old h) newsNil))) aS (.nw (.nw (.nw (.eq (.nil))))) ?_ (fun i h=>by cases h) ?_
 exact .o2 (step_allocN (cs:=(c7 v Av cv Bv dv)) (t:=29) rfl (noG rfl) (fun _ w hn k=>v_box rfl (k.fx 1 hp1) (fun w=>rfl)) (fun q _ hq hb=>⟨q,rfl,hq,hb⟩))<| .o2 (step_allocN (cs:=(c7 u Au cu Bu du)) (t:=29) rfl (noG rfl) (fun _ w hn k=>v_box rfl (k.fx 2 hp2) (fun w=>rfl)) (fun q _ hq hb=>⟨q,rfl,hq,hb⟩))<| .o2 (step_allocN (cs:=z7) (t:=29) rfl (noG rfl) (fun _ w hn k=>rfl) (fun q _ hq hb=>⟨q,rfl,hq,hb⟩))<| .t (fun _ w hn k=>⟨_,v_assign rfl rfl,rfl⟩) .nil
 refine aftI aS cF aT fun a2 w3 bK cH an dU aJ=>?_
 have h8:=aJ.fx 0 hp0
 obtain⟨cI,h9,bN,bO⟩:=aJ.G 0 4
 obtain⟨cJ,bL,bP,bQ⟩:=aJ.G 1 5
 obtain⟨aL,a3,bR,aN⟩:=aJ.G 2 6
 have hne21:cI ≠ aL:=aJ.ne 0 2 4 6 h9 a3
 have hne22:cJ ≠ aL:=aJ.ne 1 2 5 6 bL a3
 have dq:=Nat.le_trans aT.size bN
 have dr:=Nat.le_trans aT.size bP
 have ds:=Nat.le_trans aT.size bR
 refine st_nil (cG _ _ (wp_seq_k fun dV bS=>?_))
 refine wp_gS (fun W=>True) (fun W W' hn h=>trivial) trivial [true,true,true,true,true,true,true,true,true,false,false,false] [5,6] [(9,false),(10,false),(11,true)] 92
   [ve (vv v Av cv Bv dv),ve (vv u Au cu Bu du),(TQ (numericsV v u).1 (numericsV v u).2.1 ((numericsV v u).2.2)),(TQ (numericsV v u).1 (numericsV v u).2.1 ((numericsV v u).2.2)),(fun (v_:Value) (W:World)=>∃ (ax:Option Addr) (ay:Nat) (az:Option Addr) (aA:Nat),v_=vv (numericsV v u).1 ax ay az aA∧SRow W .u32 ax ((numericsV v u).1.mag) ay∧SRow W .u16 az ((numericsV v u).1.s) aA),(fun (v_:Value) (W:World)=>∃ (aB:Option Addr) (aC:Nat) (aD:Option Addr) (aE:Nat),v_=vv (numericsV v u).2.1 aB aC aD aE∧SRow W .u32 aB ((numericsV v u).2.1.mag) aC∧SRow W .u16 aD ((numericsV v u).2.1.s) aE),ve (iv ((numericsV v u).2.2)),IsNew w3 29 z7,IsNew w3 29 z7,vt,vt,vt]
   [7,8] (newsCons (fun v w h=>IsNew.old h) (newsCons (fun v w h=>IsNew.old h) newsNil)) bK (.eq (.eq (.cons (fun _ _ _ n ⟨_,_,_,_,_,_,_,_,e,h,i,j,l⟩=>⟨_,_,_,_,_,_,_,_,e,h.new_ n,i.new_ n,j.new_ n,l.new_ n⟩) (.cons (fun _ _ _ n ⟨_,_,_,_,_,_,_,_,e,h,i,j,l⟩=>⟨_,_,_,_,_,_,_,_,e,h.new_ n,i.new_ n,j.new_ n,l.new_ n⟩) (.cons (fun _ _ _ n ⟨_,_,_,_,e,h,i⟩=>⟨_,_,_,_,e,h.new_ n,i.new_ n⟩) (.cons (fun _ _ _ n ⟨_,_,_,_,e,h,i⟩=>⟨_,_,_,_,e,h.new_ n,i.new_ n⟩) (.eq (.nw (.nw (.tt (.tt (.tt (.nil))))))))))))) ?_ ?_ ?_
 refine .t (fun _ w hn k=>⟨_,v_load rfl (k.fx 4 h9) (l_agg Tryz.isAgg29 Tryz.sizeOf29 (bO.new_ hn) rfl),rfl⟩)<| .t (fun _ w hn k=>⟨_,v_load rfl (k.fx 5 bL) (l_agg Tryz.isAgg29 Tryz.sizeOf29 (bQ.new_ hn) rfl),rfl⟩) ?_
 refine .o1 (tkC rfl (noG rfl) rfl fun _ w hn k=>(by
       refine ⟨#[vv v Av cv Bv dv,vv u Au cu Bu du],_,args2 (k.eq1 0 12 rfl) (k.eq1 1 13 rfl),fun w=>by kernel_rfl,numerics_c v _ _ _ _ u _ _ _ _ _ (hmv.new_ (an.transNew hn)) (hsv.new_ (an.transNew hn)) (hmu.new_ (an.transNew hn)) (hsu.new_ (an.transNew hn)) hvv hvu,?_⟩
       rintro e w' ⟨A1,c2,A3,c4,A5,c6,A7,c8,rfl,hmo0,hmo1,hmo2,hmo3,hm⟩
       exact⟨_,rfl,hm,⟨A1,c2,A3,c4,A5,c6,A7,c8,rfl,hmo0,hmo1,hmo2,hmo3⟩⟩)) ?_
 refine .o1 (tk rfl rfl fun _ w hn k=>(by
       obtain⟨cK,cL,cM,cN,cO,cP,cQ,cR,cS,bT,bU,bV,bW⟩:(TQ (numericsV v u).1 (numericsV v u).2.1 ((numericsV v u).2.2)) _ _:=k.dep 2 14 (by kernel_rfl) (by kernel_rfl)
       exact⟨_,v_move rfl cS,⟨cK,cL,cM,cN,cO,cP,cQ,cR,rfl,bT,bU,bV,bW⟩⟩)) ?_
 refine .o1 (tk rfl rfl fun _ w hn k=>(by
       obtain⟨cT,cU,aM,cV,dW,dX,aU,dY,cW,bX,bY,dt,dw⟩:(TQ (numericsV v u).1 (numericsV v u).2.1 ((numericsV v u).2.2)) _ _:=k.dep 3 11 (by kernel_rfl) (by kernel_rfl)
       exact⟨_,v_extract rfl cW rfl,⟨cT,cU,aM,cV,rfl,bX,bY⟩⟩)) ?_
 refine .o3 ?_
 refine .o3 ?_
 exact .o2 (step_allocN (cs:=z7) (t:=29) rfl (noG rfl) (fun _ w hn k=>rfl) (fun q _ hq hb=>⟨q,rfl,hq,hb⟩))<| .o2 (step_allocN (cs:=z7) (t:=29) rfl (noG rfl) (fun _ w hn k=>rfl) (fun q _ hq hb=>⟨q,rfl,hq,hb⟩))<| .off<| .off<| .off .nil
 intro i h
 simp only [List.contains_eq_mem,List.mem_cons,List.not_mem_nil,or_false,decide_eq_true_eq] at h
 rcases h with rfl|rfl
 exact eager_takeG rfl (noG rfl) fun _ w hn k=>(by
     obtain⟨dZ,d0,d1,d2,cX,cY,cZ,c0,c1,dx,dy,bZ,b0⟩:(TQ (numericsV v u).1 (numericsV v u).2.1 ((numericsV v u).2.2)) _ _:=k.dep 3 11 (by kernel_rfl) (by kernel_rfl)
     exact⟨_,fun w hS=>v_extract rfl c1 rfl,⟨cX,cY,cZ,c0,rfl,bZ,b0⟩⟩)
 exact eager_takeG rfl (noG rfl) fun _ w hn k=>(by
     obtain⟨d3,d4,d5,d6,d7,d8,d9,ea,c3,dz,dA,dB,dC⟩:(TQ (numericsV v u).1 (numericsV v u).2.1 ((numericsV v u).2.2)) _ _:=k.dep 3 11 (by kernel_rfl) (by kernel_rfl)
     exact⟨_,fun w hS=>v_extract rfl c3 rfl,rfl⟩)
 intro aV eb _ a4 aj
 obtain⟨a5,b1,b2⟩:=aft aj bK cH an a4
 have c5:=aj.fx 0 h8
 have c9:=aj.fx 6 a3
 obtain⟨a6,aO,aM,aP,aW,b3,b4⟩:=aj.G 4 15
 have aW:aV.eval (.tmp 15)=vv (numericsV v u).1 a6 aO aM aP:=aW
 obtain⟨aU,aQ,a7,aR,aX,b5,b6⟩:=aj.G 5 16
 have aX:aV.eval (.tmp 16)=vv (numericsV v u).2.1 aU aQ a7 aR:=aX
 have bM:=aj.ge 6 17 rfl
 obtain⟨a8,a9,ba,aF⟩:=aj.G 7 8
 obtain⟨bb,bd,be,b7⟩:=aj.G 8 9
 have b8:=aN.new_ a4
 have hne60:a8 ≠ bb:=aj.ne 7 8 8 9 a9 bd
 have hne61:aL ≠ a8:=by have h1:=aN.lt; have h2:=ba; omega
 have hne62:aL ≠ bb:=by have h1:=aN.lt; have h2:=be; omega
 have dD:=Nat.le_trans an.size ba
 have dE:=Nat.le_trans an.size be
 obtain⟨da,bp,bq,aG,bf⟩:=s_many (P:=Tryz.prog) (t:=29) (i:=0) (c7 (numericsV v u).1 a6 aO aM aP) Tryz.sizeOf29 rfl rfl rfl aF lb
 have b9:Blk da a8 29 (c7 (numericsV v u).1 a6 aO aM aP):=bq
 refine st_act rfl rfl fun ec ca=>a_store' rfl a9 aW bp (ca _ _ trivial ?_)
 have cb:=b3.fr aF aG
 have cc:=b4.fr aF aG
 have cd:=b5.fr aF aG
 have ce:=b6.fr aF aG
 have cf:=bf _ _ _ (hne61) b8
 have aH:=bf _ _ _ (fun h=>hne60 h.symm) b7
 have ch:=b2.trans aG (fun _ h b=>by subst b; omega)
 obtain⟨db,br,bs,aI,bg⟩:=s_many (P:=Tryz.prog) (t:=29) (i:=0) (c7 (numericsV v u).2.1 aU aQ a7 aR) Tryz.sizeOf29 rfl rfl rfl aH lb
 have ci:Blk db bb 29 (c7 (numericsV v u).2.1 aU aQ a7 aR):=bs
 refine st_act rfl rfl fun ed cj=>a_store' rfl bd aX br (cj _ _ trivial ?_)
 have cl:=cb.fr aH aI
 have cm:=cc.fr aH aI
 have cn:=cd.fr aH aI
 have co:=ce.fr aH aI
 have cp:=bg _ _ _ (hne62) cf
 have cq:=bg _ _ _ (hne60) b9
 have cr:=ch.trans aI (fun _ h b=>by subst b; omega)
 refine st_take rfl rfl (y_assign (v:=iv ((numericsV v u).2.2)) rfl bM) rfl ?_
 obtain⟨dc,aa⟩:∃ a',a'=aV.put (some 10) (iv ((numericsV v u).2.2)):=⟨_,rfl⟩
 have bh:=pz aa a5
 have ct:=pd aa b1
 have dd:=pn aa c5 (by decide)
 have de:=pn aa c9 (by decide)
 have dF:=pn aa aW (by decide)
 have dG:=pn aa aX (by decide)
 have dH:=pn aa bM (by decide)
 have cw:=pn aa a9 (by decide)
 have cx:=pn aa bd (by decide)
 have bi:dc.eval (.tmp 10)=iv ((numericsV v u).2.2):=by rw [aa]; exact put_same _ _ _ (by rw [a5]; decide)
 show stepsTo _ _ _ _ _ (aV.put (some 10) (iv ((numericsV v u).2.2))) _
 rw [← aa]
 refine st_nil (bS _ _ (wp_seq_k fun dI dg=>?_))
 refine wp_block ?_
 refine wp_seq_k fun dJ bt=>?_
 refine wp_g0 [true,true,true] [] 92
   [ve (iv ((numericsV v u).2.2)),ve (.bool (!decide (((numericsV v u).2.2)=0))),ve (.bool (!decide (((numericsV v u).2.2)=0)))] bh (.eq (.eq (.eq (.nil)))) ?_ ?_
 exact .m (fun k=>k.fx 10 bi)<| .t (fun _ w hn k=>⟨_,v_bin rfl (k.eq1 0 19 rfl) rfl (fun _=>rfl) (r_neq rfl),rfl⟩)<| .a (fun k=>k.eq1 1 20 rfl) .nil
 refine aftI bh ct cr fun dK dL aY bu bv ak am=>?_
 have dM:=am.fx 0 dd
 have cy:=am.fx 6 de
 have dN:=am.fx 8 cw
 have dO:=am.fx 9 cx
 have cz:=am.fx 10 bi
 have cA:=am.ge 2 18 rfl
 have bw:=cp.new_ ak
 have dh:=cq.new_ ak
 have di:=ci.new_ ak
 have dj:=cl.new_ ak
 have dk:=cm.new_ ak
 have dl:=cn.new_ ak
 have dm:=co.new_ ak
 refine st_nil (bt _ _ ?_)
 have aZ:((!decide (((numericsV v u).2.2)=0)))=true:=(nt (decide_eq_false (hns)))
 have bx:=hB cA aZ
 have bz:(decide (((numericsV v u).2.2)=0))=false:=nF aZ
 have df:=oF bz
 refine wp_cond_true bx ?_
 refine wp_seq_k fun dP bA=>?_
 refine wp_g [true,true,false,false] [1] [(2,false),(3,true)] 92
   [ve (vv (Vl.mk 0 0 0 false [] [] 0) none 0 none 0),ve (iv ((numericsV v u).2.2)),vt,vt]
   [] newsNil aY (.eq (.eq (.tt (.tt (.nil))))) ?_ ?_ ?_
 refine .t (fun _ w hn k=>⟨_,v_build (ps:=[]) rfl parts0 (by kernel_rfl),rfl⟩) ?_
 refine .o3 ?_
 exact .off<| .off .nil
 intro i h
 simp only [List.contains_eq_mem,List.mem_cons,List.not_mem_nil,or_false,decide_eq_true_eq] at h
 subst h
 exact eager_take rfl rfl fun _ w hn k=>⟨iv ((numericsV v u).2.2),fun w=>v_move rfl (k.fx 10 cz),rfl⟩
 refine aftI aY bu bv fun bj dQ a1 bB bC bD aK=>?_
 have bk:=aK.fx 6 cy
 have bl:=aK.ge 0 21 rfl
 have bm:=aK.ge 1 22 rfl
 have bE:=bw.new_ bD
 obtain⟨cB,bn,bo,bF,dn⟩:=s_many (P:=Tryz.prog) (t:=29) (i:=0) z7 Tryz.sizeOf29 rfl rfl rfl bE lb
 have bG:Blk cB aL 29 z7:=bo
 refine st_act rfl rfl fun dR bH=>a_store' rfl bk bl bn (bH _ _ trivial ?_)
 have bI:=bC.trans bF (fun _ h b=>by subst b; omega)
 refine st_take rfl rfl (y_assign (v:=iv ((numericsV v u).2.2)) rfl bm) rfl ?_
 obtain⟨cC,al⟩:∃ a',a'=bj.put (some 7) (iv ((numericsV v u).2.2)):=⟨_,rfl⟩
 have dp:=pz al a1
 have bJ:=pd al bB
 have cD:=pn al bk (by decide)
 have dS:=pn al bl (by decide)
 have dT:=pn al bm (by decide)
 have cE:cC.eval (.tmp 7)=iv ((numericsV v u).2.2):=by rw [al]; exact put_same _ _ _ (by rw [a1]; decide)
 show stepsTo _ _ _ _ _ (bj.put (some 7) (iv ((numericsV v u).2.2))) _
 rw [← al]
 refine st_nil (bA _ _ ?_)
 refine wp_ret (ret_k bJ (v:=.tuple #[vv (Vl.mk 0 0 0 false [] [] 0) none 0 none 0,iv ((numericsV v u).2.2)]) (res_ct rfl cD cE (l_agg Tryz.isAgg29 Tryz.sizeOf29 bG rfl)) ?_)
 exact⟨rfl,bI⟩
theorem binM_c  (v:Vl) (Av:Option Addr) (cv:Nat) (Bv:Option Addr) (dv:Nat) (u:Vl) (Au:Option Addr) (cu:Nat) (Bu:Option Addr) (du:Nat) (w:World) (hmv:SRow w .u32 Av v.mag cv) (hsv:SRow w .u16 Bv v.s dv) (hmu:SRow w .u32 Au u.mag cu) (hsu:SRow w .u16 Bu u.s du) (hvv:VOk v) (hvu:VOk u) (hk1:(cleanV v).k ≠ 5) (hk2:(cleanV u).k ≠ 5) (hns:(numericsV (cleanV v) (cleanV u)).2.2 ≠ 0):Calls Tryz.prog 12 #[.string ⟨#[43]⟩,vv v Av cv Bv dv,vv u Au cu Bu du] w (IsRet (.tuple #[vv (Vl.mk 0 0 0 false [] [] 0) none 0 none 0,iv ((numericsV (cleanV v) (cleanV u)).2.2)]) w):=by
 refine enter_abs Tryz.func12 rfl fun a0 aB cI hp=>?_
 have aB:a0.tmps.size=120:=aB
 have aC:New w w:=Upd.refl _ _
 have hp0:a0.eval (.tmp 0)=.string ⟨#[43]⟩:=hp 0 _ rfl
 have hp1:a0.eval (.tmp 1)=vv v Av cv Bv dv:=hp 1 _ rfl
 have hp2:a0.eval (.tmp 2)=vv u Au cu Bu du:=hp 2 _ rfl
 refine wp_seq_k fun K1 cJ=>?_
 refine wp_g [true,true,true,true] [] [] 120
   [IsNew w 29 (c7 v Av cv Bv dv),IsNew w 29 (c7 u Au cu Bu du),IsNew w 29 z7,ve (iv 0)]
   [0,1,2] (newsCons (fun v w h=>IsNew.old h) (newsCons (fun v w h=>IsNew.old h) (newsCons (fun v w h=>IsNew.old h) newsNil))) aB (.nw (.nw (.nw (.eq (.nil))))) ?_ (fun i h=>by cases h) ?_
 exact .o2 (step_allocN (cs:=(c7 v Av cv Bv dv)) (t:=29) rfl (noG rfl) (fun _ w hn k=>v_box rfl (k.fx 1 hp1) (fun w=>rfl)) (fun q _ hq hb=>⟨q,rfl,hq,hb⟩))<| .o2 (step_allocN (cs:=(c7 u Au cu Bu du)) (t:=29) rfl (noG rfl) (fun _ w hn k=>v_box rfl (k.fx 2 hp2) (fun w=>rfl)) (fun q _ hq hb=>⟨q,rfl,hq,hb⟩))<| .o2 (step_allocN (cs:=z7) (t:=29) rfl (noG rfl) (fun _ w hn k=>rfl) (fun q _ hq hb=>⟨q,rfl,hq,hb⟩))<| .t (fun _ w hn k=>⟨_,v_assign rfl rfl,rfl⟩) .nil
 refine aftI aB cI aC fun a2 w3 bN cK ah dr ai=>?_
 have h8:=ai.fx 0 hp0
 obtain⟨aD,h9,bT,aL⟩:=ai.G 0 4
 obtain⟨aE,aF,bU,aM⟩:=ai.G 1 5
 obtain⟨aN,aO,bV,bW⟩:=ai.G 2 6
 have hne21:aD ≠ aE:=ai.ne 0 1 4 5 h9 aF
 have hne22:aD ≠ aN:=ai.ne 0 2 4 6 h9 aO
 have hne23:aE ≠ aN:=ai.ne 1 2 5 6 aF aO
 have c9:=Nat.le_trans aC.size bT
 have da:=Nat.le_trans aC.size bU
 have db:=Nat.le_trans aC.size bV
 refine st_nil (cJ _ _ (wp_seq_k fun ds bX=>?_))
 refine wp_g0 [true,true,true,true,false,false] [(4,false),(5,false)] 120
   [ve (vv v Av cv Bv dv),
    (VP (cleanV v)),ve (vv u Au cu Bu du),
    (VP (cleanV u)),vt,vt] bN (.eq (.cons (fun _ _ _ n ⟨_,_,_,_,e,h,i⟩=>⟨_,_,_,_,e,h.new_ n,i.new_ n⟩) (.eq (.cons (fun _ _ _ n ⟨_,_,_,_,e,h,i⟩=>⟨_,_,_,_,e,h.new_ n,i.new_ n⟩) (.tt (.tt (.nil))))))) ?_ ?_
 refine .t (fun _ w hn k=>⟨_,v_load rfl (k.fx 4 h9) (l_agg Tryz.isAgg29 Tryz.sizeOf29 (aL.new_ hn) rfl),rfl⟩) ?_
 refine .o1 (tkC rfl (noG rfl) rfl fun _ w hn k=>(by
       refine ⟨#[vv v Av cv Bv dv],_,args1 (k.eq1 0 10 rfl),fun w=>by kernel_rfl,clean_c v _ _ _ _ _ (hmv.new_ (ah.transNew hn)) (hsv.new_ (ah.transNew hn)),?_⟩
       rintro e w' ⟨A1,c2,A3,c4,rfl,hmo0,hmo1,hm⟩
       exact⟨_,rfl,hm,⟨A1,c2,A3,c4,rfl,hmo0,hmo1⟩⟩)) ?_
 refine .t (fun _ w hn k=>⟨_,v_load rfl (k.fx 5 aF) (l_agg Tryz.isAgg29 Tryz.sizeOf29 (aM.new_ hn) rfl),rfl⟩) ?_
 refine .o1 (tkC rfl (noG rfl) rfl fun _ w hn k=>(by
       refine ⟨#[vv u Au cu Bu du],_,args1 (k.eq1 2 12 rfl),fun w=>by kernel_rfl,clean_c u _ _ _ _ _ (hmu.new_ (ah.transNew hn)) (hsu.new_ (ah.transNew hn)),?_⟩
       rintro e w' ⟨A9,cP,cQ,cR,rfl,hmo0,hmo1,hm⟩
       exact⟨_,rfl,hm,⟨A9,cP,cQ,cR,rfl,hmo0,hmo1⟩⟩)) ?_
 exact .off<| .off .nil
 refine aftI bN cK ah fun bO dt aP bY bZ aA ag=>?_
 have bP:=ag.fx 0 h8
 have bQ:=ag.fx 4 h9
 have bR:=ag.fx 5 aF
 have cS:=ag.fx 6 aO
 obtain⟨aw,aj,ax,ak,aQ,b0,b1⟩:=ag.G 1 11
 have aQ:bO.eval (.tmp 11)=vv (cleanV v) aw aj ax ak:=aQ
 obtain⟨ay,al,az,am,aR,b2,b3⟩:=ag.G 3 13
 have aR:bO.eval (.tmp 13)=vv (cleanV u) ay al az am:=aR
 have an:=aL.new_ aA
 have b4:=aM.new_ aA
 have b5:=bW.new_ aA
 obtain⟨cU,a5,a6,ao,aS⟩:=s_many (P:=Tryz.prog) (t:=29) (i:=0) (c7 (cleanV v) aw aj ax ak) Tryz.sizeOf29 rfl rfl rfl an lb
 have b6:Blk cU aD 29 (c7 (cleanV v) aw aj ax ak):=a6
 refine st_act rfl rfl fun dw b7=>a_store' rfl bQ aQ a5 (b7 _ _ trivial ?_)
 have b8:=b0.fr an ao
 have b9:=b1.fr an ao
 have ca:=b2.fr an ao
 have cb:=b3.fr an ao
 have ap:=aS _ _ _ (fun h=>hne21 h.symm) b4
 have cc:=aS _ _ _ (fun h=>hne22 h.symm) b5
 have cd:=bZ.trans ao (fun _ h b=>by subst b; omega)
 obtain⟨cV,a7,a8,aq,aT⟩:=s_many (P:=Tryz.prog) (t:=29) (i:=0) (c7 (cleanV u) ay al az am) Tryz.sizeOf29 rfl rfl rfl ap lb
 have ce:Blk cV aE 29 (c7 (cleanV u) ay al az am):=a8
 refine st_act rfl rfl fun dx cf=>a_store' rfl bR aR a7 (cf _ _ trivial ?_)
 have ch:=b8.fr ap aq
 have ci:=b9.fr ap aq
 have cj:=ca.fr ap aq
 have cl:=cb.fr ap aq
 have cm:=aT _ _ _ (hne21) b6
 have cn:=aT _ _ _ (fun h=>hne23 h.symm) cc
 have co:=cd.trans aq (fun _ h b=>by subst b; omega)
 refine st_nil (bX _ _ (wp_seq_k fun dy dc=>?_))
 refine wp_seq_k fun dz cp=>?_
 refine wp_g0 [true] [] 120
   [ve (.string ⟨#[43]⟩)] aP (.eq (.nil)) ?_ ?_
 exact .m (fun k=>k.fx 0 bP) .nil
 refine aftI aP bY co fun dA dB aU cq a9 ae ar=>?_
 have cW:=ar.fx 0 bP
 have cX:=ar.fx 4 bQ
 have cY:=ar.fx 5 bR
 have cZ:=ar.fx 6 cS
 have bS:=ar.ge 0 14 rfl
 have cr:=cm.new_ ae
 have ct:=ce.new_ ae
 have ba:=cn.new_ ae
 have bb:=ch.new_ ae
 have bd:=ci.new_ ae
 have be:=cj.new_ ae
 have bf:=cl.new_ ae
 refine st_nil (cp _ _ ?_)
 refine wp_block ?_
 refine wp_seq_k fun dd bg=>?_
 refine wp_g0 [true,true] [] 120
   [vT,vT] aU (.eq (.eq (.nil))) ?_ ?_
 exact .t (fun _ w hn k=>⟨_,v_bin rfl (k.fx 14 bS) rfl (fun _=>rfl) (r_eqlS (r:=true) (by kernel_rfl)),rfl⟩)<| .a (fun k=>k.eq1 0 16 rfl) .nil
 refine aftI aU cq a9 fun de df aG bh bi aa ad=>?_
 have cw:=ad.fx 0 cW
 have aV:=ad.fx 4 cX
 have aW:=ad.fx 5 cY
 have cx:=ad.fx 6 cZ
 have dg:=ad.fx 14 bS
 have cy:=ad.ge 1 15 rfl
 have aH:=cr.new_ aa
 have aI:=ct.new_ aa
 have bj:=ba.new_ aa
 have bk:=bb.new_ aa
 have bl:=bd.new_ aa
 have bm:=be.new_ aa
 have bn:=bf.new_ aa
 refine st_nil (bg _ _ ?_)
 refine wp_cond_true cy ?_
 refine wp_seq_k fun dh bo=>?_
 refine wp_seq_k fun di bp=>?_
 refine wp_g0 (.replicate 8 true) [] 120
   [ve (pv aD),ve (iv ((cleanV v).k)),ve (.bool (decide (((cleanV v).k)=5))),ve (.bool (decide (((cleanV v).k)=5))),ve (gq (!(decide (((cleanV v).k)=5))) (pv aE)),ve (gq (!(decide (((cleanV v).k)=5))) (iv ((cleanV u).k))),ve (gq (!(decide (((cleanV v).k)=5))) (.bool (decide (((cleanV u).k)=5)))),ve (.bool ((decide (((cleanV v).k)=5)) || (decide (((cleanV u).k)=5))))] aG (.eq (.eq (.eq (.eq (.eq (.eq (.eq (.eq (.nil))))))))) ?_ ?_
 exact .f (fun k=>k.fx 4 aV)<| .t (fun _ w hn k=>⟨_,v_load rfl (k.eq1 0 17 rfl) (l_one Tryz.isAgg3 ((aH.new_ hn).cell 0)),rfl⟩)<| .t (fun _ w hn k=>⟨_,v_bin rfl (k.eq1 1 18 rfl) rfl (fun _=>rfl) (r_eql rfl),rfl⟩)<| .m (fun k=>k.eq1 2 19 rfl)<| .o1 (sc (G:=(!(decide (((cleanV v).k)=5)))) rfl rfl rfl (fun _ _ k=>g0' (k.eq1 3 20 rfl)) (fun hG _ w hn k=>v_field rfl (k.fx 5 aW) (fun w=>rfl)))<| .o1 (sc (G:=(!(decide (((cleanV v).k)=5)))) rfl rfl rfl (fun _ _ k=>g0' (k.eq1 3 20 rfl)) (fun hG _ w hn k=>v_load rfl (cT hG (k.eq1 4 21 rfl)) (l_one Tryz.isAgg3 ((aI.new_ hn).cell 0))))<| .o1 (sc (G:=(!(decide (((cleanV v).k)=5)))) rfl rfl rfl (fun _ _ k=>g0' (k.eq1 3 20 rfl)) (fun hG _ w hn k=>v_bin rfl (cT hG (k.eq1 5 22 rfl)) rfl (fun _=>rfl) (r_eql rfl)))<| .t (fun _ w hn k=>⟨_,v_or rfl (k.eq1 3 20 rfl) rfl (fun hg=>(cT (nt hg) (k.eq1 6 23 rfl))),rfl⟩) .nil
 refine aftI aG bh bi fun dj dk aJ bq br ab af=>?_
 have cz:=af.fx 0 cw
 have cA:=af.fx 4 aV
 have cB:=af.fx 5 aW
 have cC:=af.fx 6 cx
 have cD:=af.ge 7 24 rfl
 have bs:=aH.new_ ab
 have bt:=aI.new_ ab
 have bu:=bj.new_ ab
 have bv:=bk.new_ ab
 have bw:=bl.new_ ab
 have bx:=bm.new_ ab
 have bz:=bn.new_ ab
 refine st_nil (bp _ _ ?_)
 have au:(((decide (((cleanV v).k)=5)) || (decide (((cleanV u).k)=5))))=false:=(by rw [show ((decide (((cleanV v).k)=5)))=false from decide_eq_false (hk1),show ((decide (((cleanV u).k)=5)))=false from decide_eq_false (hk2)]; rfl)
 have bA:=hB cD au
 have bB:(decide (((cleanV v).k)=5))=false:=ol au
 have c0:=oF bB
 have bC:(decide (((cleanV u).k)=5))=false:=or_ au
 have c1:=oF bC
 refine wp_cond_false bA ?_
 refine wp_skip ?_
 refine bo _ _ ?_
 refine wp_seq_k fun dl bD=>?_
 refine wp_g0 [true,true,true,true,true,true,false,false] [(6,false),(7,true)] 120
   [ve (.string ⟨#[43]⟩),ve (vv (cleanV v) aw aj ax ak),ve (vv (cleanV u) ay al az am),ve (.tuple #[vv (Vl.mk 0 0 0 false [] [] 0) none 0 none 0,iv ((numericsV (cleanV v) (cleanV u)).2.2)]),ve (vv (Vl.mk 0 0 0 false [] [] 0) none 0 none 0),ve (iv ((numericsV (cleanV v) (cleanV u)).2.2)),vt,vt] aJ (.eq (.eq (.eq (.eq (.eq (.eq (.tt (.tt (.nil))))))))) ?_ ?_
 exact .m (fun k=>k.fx 0 cz)<| .t (fun _ w hn k=>⟨_,v_load rfl (k.fx 4 cA) (l_agg Tryz.isAgg29 Tryz.sizeOf29 (bs.new_ hn) rfl),rfl⟩)<| .t (fun _ w hn k=>⟨_,v_load rfl (k.fx 5 cB) (l_agg Tryz.isAgg29 Tryz.sizeOf29 (bt.new_ hn) rfl),rfl⟩)<| .o1 (ck rfl rfl rfl (fun _ w hn k=>⟨#[.string ⟨#[43]⟩,vv (cleanV v) aw aj ax ak,vv (cleanV u) ay al az am],args3 (k.eq1 0 30 rfl) (k.eq1 1 31 rfl) (k.eq1 2 32 rfl),fun _=>by kernel_rfl,sumsM_c (cleanV v) _ _ _ _ (cleanV u) _ _ _ _ _ (bv.new_ hn) (bw.new_ hn) (bx.new_ hn) (bz.new_ hn) hvv.clean hvu.clean hns⟩) fun _=>rfl)<| .t (fun _ w hn k=>⟨_,v_extract rfl (k.eq1 3 33 rfl) rfl,rfl⟩)<| .t (fun _ w hn k=>⟨_,v_extract rfl (k.eq1 3 33 rfl) rfl,rfl⟩)<| .off<| .off .nil
 refine aftI aJ bq br fun aX dm aK bE bF bG av=>?_
 have aY:=av.fx 6 cC
 have aZ:=av.ge 4 34 rfl
 have a1:=av.ge 5 35 rfl
 have bH:=bu.new_ bG
 obtain⟨cE,a3,a4,bI,c3⟩:=s_many (P:=Tryz.prog) (t:=29) (i:=0) z7 Tryz.sizeOf29 rfl rfl rfl bH lb
 have bJ:Blk cE aN 29 z7:=a4
 refine st_act rfl rfl fun dn bK=>a_store' rfl aY aZ a3 (bK _ _ trivial ?_)
 have bL:=bF.trans bI (fun _ h b=>by subst b; omega)
 refine st_take rfl rfl (y_assign (v:=iv ((numericsV (cleanV v) (cleanV u)).2.2)) rfl a1) rfl ?_
 obtain⟨cF,ac⟩:∃ a',a'=aX.put (some 7) (iv ((numericsV (cleanV v) (cleanV u)).2.2)):=⟨_,rfl⟩
 have c5:=pz ac aK
 have bM:=pd ac bE
 have cG:=pn ac aY (by decide)
 have dp:=pn ac aZ (by decide)
 have dq:=pn ac a1 (by decide)
 have cH:cF.eval (.tmp 7)=iv ((numericsV (cleanV v) (cleanV u)).2.2):=by rw [ac]; exact put_same _ _ _ (by rw [aK]; decide)
 show stepsTo _ _ _ _ _ (aX.put (some 7) (iv ((numericsV (cleanV v) (cleanV u)).2.2))) _
 rw [← ac]
 refine st_nil (bD _ _ ?_)
 refine wp_ret (ret_k bM (v:=.tuple #[vv (Vl.mk 0 0 0 false [] [] 0) none 0 none 0,iv ((numericsV (cleanV v) (cleanV u)).2.2)]) (res_ct rfl cG cH (l_agg Tryz.isAgg29 Tryz.sizeOf29 bJ rfl)) ?_)
 exact⟨rfl,bL⟩
theorem sumsD_c  (v:Vl) (Av:Option Addr) (cv:Nat) (Bv:Option Addr) (dv:Nat) (u:Vl) (Au:Option Addr) (cu:Nat) (Bu:Option Addr) (du:Nat) (w:World) (hmv:SRow w .u32 Av v.mag cv) (hsv:SRow w .u16 Bv v.s dv) (hmu:SRow w .u32 Au u.mag cu) (hsu:SRow w .u16 Bu u.s du) (hvv:VOk v) (hvu:VOk u) (hns:(numericsV v u).2.2=0) (hk:(numericsV v u).1.k=3) (hX:(Nm.mk (numericsV v u).1.nk (numericsV v u).1.nn)=⟨0,1⟩) (hY:(Nm.mk (numericsV v u).2.1.nk (numericsV v u).2.1.nn)=⟨0,2⟩):Calls Tryz.prog 36 #[.string ⟨#[47]⟩,vv v Av cv Bv dv,vv u Au cu Bu du] w (IsRet (.tuple #[vv (Vl.mk 0 0 0 false [] [] 0) none 0 none 0,iv 3]) w):=by
 refine enter_abs Tryz.func36 rfl fun a0 ba eD hp=>?_
 have ba:a0.tmps.size=92:=ba
 have bb:New w w:=Upd.refl _ _
 have hp0:a0.eval (.tmp 0)=.string ⟨#[47]⟩:=hp 0 _ rfl
 have hp1:a0.eval (.tmp 1)=vv v Av cv Bv dv:=hp 1 _ rfl
 have hp2:a0.eval (.tmp 2)=vv u Au cu Bu du:=hp 2 _ rfl
 refine wp_seq_k fun K1 eE=>?_
 refine wp_g [true,true,true,true] [] [] 92
   [IsNew w 29 (c7 v Av cv Bv dv),IsNew w 29 (c7 u Au cu Bu du),IsNew w 29 z7,ve (iv 0)]
   [0,1,2] (newsCons (fun v w h=>IsNew.old h) (newsCons (fun v w h=>IsNew.old h) (newsCons (fun v w h=>IsNew.old h) newsNil))) ba (.nw (.nw (.nw (.eq (.nil))))) ?_ (fun i h=>by cases h) ?_
 exact .o2 (step_allocN (cs:=(c7 v Av cv Bv dv)) (t:=29) rfl (noG rfl) (fun _ w hn k=>v_box rfl (k.fx 1 hp1) (fun w=>rfl)) (fun q _ hq hb=>⟨q,rfl,hq,hb⟩))<| .o2 (step_allocN (cs:=(c7 u Au cu Bu du)) (t:=29) rfl (noG rfl) (fun _ w hn k=>v_box rfl (k.fx 2 hp2) (fun w=>rfl)) (fun q _ hq hb=>⟨q,rfl,hq,hb⟩))<| .o2 (step_allocN (cs:=z7) (t:=29) rfl (noG rfl) (fun _ w hn k=>rfl) (fun q _ hq hb=>⟨q,rfl,hq,hb⟩))<| .t (fun _ w hn k=>⟨_,v_assign rfl rfl,rfl⟩) .nil
 refine aftI ba eD bb fun a2 w3 dj eF av f2 aV=>?_
 have h8:=aV.fx 0 hp0
 obtain⟨eG,h9,dm,dn⟩:=aV.G 0 4
 obtain⟨eH,dk,dp,dq⟩:=aV.G 1 5
 obtain⟨a1,br,dr,a5⟩:=aV.G 2 6
 have hne21:eG ≠ a1:=aV.ne 0 2 4 6 h9 br
 have hne22:eH ≠ a1:=aV.ne 1 2 5 6 dk br
 have fh:=Nat.le_trans bb.size dm
 have fi:=Nat.le_trans bb.size dp
 have fj:=Nat.le_trans bb.size dr
 refine st_nil (eE _ _ (wp_seq_k fun f3 ds=>?_))
 refine wp_gS (fun W=>True) (fun W W' hn h=>trivial) trivial [true,true,true,true,true,true,true,true,true,false,false,false] [5,6] [(9,false),(10,false),(11,true)] 92
   [ve (vv v Av cv Bv dv),ve (vv u Au cu Bu du),(TQ (numericsV v u).1 (numericsV v u).2.1 ((numericsV v u).2.2)),(TQ (numericsV v u).1 (numericsV v u).2.1 ((numericsV v u).2.2)),(fun (v_:Value) (W:World)=>∃ (aJ:Option Addr) (aK:Nat) (aL:Option Addr) (aM:Nat),v_=vv (numericsV v u).1 aJ aK aL aM∧SRow W .u32 aJ ((numericsV v u).1.mag) aK∧SRow W .u16 aL ((numericsV v u).1.s) aM),(fun (v_:Value) (W:World)=>∃ (aN:Option Addr) (aO:Nat) (aP:Option Addr) (aQ:Nat),v_=vv (numericsV v u).2.1 aN aO aP aQ∧SRow W .u32 aN ((numericsV v u).2.1.mag) aO∧SRow W .u16 aP ((numericsV v u).2.1.s) aQ),ve (iv ((numericsV v u).2.2)),IsNew w3 29 z7,IsNew w3 29 z7,vt,vt,vt]
   [7,8] (newsCons (fun v w h=>IsNew.old h) (newsCons (fun v w h=>IsNew.old h) newsNil)) dj (.eq (.eq (.cons (fun _ _ _ n ⟨_,_,_,_,_,_,_,_,e,h,i,j,l⟩=>⟨_,_,_,_,_,_,_,_,e,h.new_ n,i.new_ n,j.new_ n,l.new_ n⟩) (.cons (fun _ _ _ n ⟨_,_,_,_,_,_,_,_,e,h,i,j,l⟩=>⟨_,_,_,_,_,_,_,_,e,h.new_ n,i.new_ n,j.new_ n,l.new_ n⟩) (.cons (fun _ _ _ n ⟨_,_,_,_,e,h,i⟩=>⟨_,_,_,_,e,h.new_ n,i.new_ n⟩) (.cons (fun _ _ _ n ⟨_,_,_,_,e,h,i⟩=>⟨_,_,_,_,e,h.new_ n,i.new_ n⟩) (.eq (.nw (.nw (.tt (.tt (.tt (.nil))))))))))))) ?_ ?_ ?_
 refine .t (fun _ w hn k=>⟨_,v_load rfl (k.fx 4 h9) (l_agg Tryz.isAgg29 Tryz.sizeOf29 (dn.new_ hn) rfl),rfl⟩)<| .t (fun _ w hn k=>⟨_,v_load rfl (k.fx 5 dk) (l_agg Tryz.isAgg29 Tryz.sizeOf29 (dq.new_ hn) rfl),rfl⟩) ?_
 refine .o1 (tkC rfl (noG rfl) rfl fun _ w hn k=>(by
       refine ⟨#[vv v Av cv Bv dv,vv u Au cu Bu du],_,args2 (k.eq1 0 12 rfl) (k.eq1 1 13 rfl),fun w=>by kernel_rfl,numerics_c v _ _ _ _ u _ _ _ _ _ (hmv.new_ (av.transNew hn)) (hsv.new_ (av.transNew hn)) (hmu.new_ (av.transNew hn)) (hsu.new_ (av.transNew hn)) hvv hvu,?_⟩
       rintro e w' ⟨A1,c2,A3,c4,A5,c6,A7,c8,rfl,hmo0,hmo1,hmo2,hmo3,hm⟩
       exact⟨_,rfl,hm,⟨A1,c2,A3,c4,A5,c6,A7,c8,rfl,hmo0,hmo1,hmo2,hmo3⟩⟩)) ?_
 refine .o1 (tk rfl rfl fun _ w hn k=>(by
       obtain⟨eI,eJ,eK,eL,eM,eN,eO,eP,eQ,dt,dw,dx,dy⟩:(TQ (numericsV v u).1 (numericsV v u).2.1 ((numericsV v u).2.2)) _ _:=k.dep 2 14 (by kernel_rfl) (by kernel_rfl)
       exact⟨_,v_move rfl eQ,⟨eI,eJ,eK,eL,eM,eN,eO,eP,rfl,dt,dw,dx,dy⟩⟩)) ?_
 refine .o1 (tk rfl rfl fun _ w hn k=>(by
       obtain⟨eR,eS,a3,eT,f4,f5,bd,f6,eU,dz,dA,fk,fl⟩:(TQ (numericsV v u).1 (numericsV v u).2.1 ((numericsV v u).2.2)) _ _:=k.dep 3 11 (by kernel_rfl) (by kernel_rfl)
       exact⟨_,v_extract rfl eU rfl,⟨eR,eS,a3,eT,rfl,dz,dA⟩⟩)) ?_
 refine .o3 ?_
 refine .o3 ?_
 exact .o2 (step_allocN (cs:=z7) (t:=29) rfl (noG rfl) (fun _ w hn k=>rfl) (fun q _ hq hb=>⟨q,rfl,hq,hb⟩))<| .o2 (step_allocN (cs:=z7) (t:=29) rfl (noG rfl) (fun _ w hn k=>rfl) (fun q _ hq hb=>⟨q,rfl,hq,hb⟩))<| .off<| .off<| .off .nil
 intro i h
 simp only [List.contains_eq_mem,List.mem_cons,List.not_mem_nil,or_false,decide_eq_true_eq] at h
 rcases h with rfl|rfl
 exact eager_takeG rfl (noG rfl) fun _ w hn k=>(by
     obtain⟨f7,f8,f9,ga,eV,eW,eX,eY,eZ,fm,fn,dB,dC⟩:(TQ (numericsV v u).1 (numericsV v u).2.1 ((numericsV v u).2.2)) _ _:=k.dep 3 11 (by kernel_rfl) (by kernel_rfl)
     exact⟨_,fun w hS=>v_extract rfl eZ rfl,⟨eV,eW,eX,eY,rfl,dB,dC⟩⟩)
 exact eager_takeG rfl (noG rfl) fun _ w hn k=>(by
     obtain⟨gb,gc,gd,gf,gg,gh,gi,gj,e0,fo,fp,fq,fs⟩:(TQ (numericsV v u).1 (numericsV v u).2.1 ((numericsV v u).2.2)) _ _:=k.dep 3 11 (by kernel_rfl) (by kernel_rfl)
     exact⟨_,fun w hS=>v_extract rfl e0 rfl,rfl⟩)
 intro be gk _ bs aj
 obtain⟨bt,dD,dE⟩:=aft aj dj eF av bs
 have e1:=aj.fx 0 h8
 have e2:=aj.fx 6 br
 obtain⟨bu,a6,a3,a7,bf,dF,dG⟩:=aj.G 4 15
 have bf:be.eval (.tmp 15)=vv (numericsV v u).1 bu a6 a3 a7:=bf
 obtain⟨bd,a8,bv,a9,bg,dH,dI⟩:=aj.G 5 16
 have bg:be.eval (.tmp 16)=vv (numericsV v u).2.1 bd a8 bv a9:=bg
 have dl:=aj.ge 6 17 rfl
 obtain⟨a4,bw,bx,aR⟩:=aj.G 7 8
 obtain⟨bh,bz,bA,dJ⟩:=aj.G 8 9
 have dK:=a5.new_ bs
 have hne60:a4 ≠ bh:=aj.ne 7 8 8 9 bw bz
 have hne61:a1 ≠ a4:=by have h1:=a5.lt; have h2:=bx; omega
 have hne62:a1 ≠ bh:=by have h1:=a5.lt; have h2:=bA; omega
 have ft:=Nat.le_trans av.size bx
 have fu:=Nat.le_trans av.size bA
 obtain⟨e3,bP,bQ,aS,bB⟩:=s_many (P:=Tryz.prog) (t:=29) (i:=0) (c7 (numericsV v u).1 bu a6 a3 a7) Tryz.sizeOf29 rfl rfl rfl aR lb
 have dL:Blk e3 a4 29 (c7 (numericsV v u).1 bu a6 a3 a7):=bQ
 refine st_act rfl rfl fun gl dM=>a_store' rfl bw bf bP (dM _ _ trivial ?_)
 have dN:=dF.fr aR aS
 have dO:=dG.fr aR aS
 have dP:=dH.fr aR aS
 have dQ:=dI.fr aR aS
 have dR:=bB _ _ _ (hne61) dK
 have aT:=bB _ _ _ (fun h=>hne60 h.symm) dJ
 have dS:=dE.trans aS (fun _ h b=>by subst b; omega)
 obtain⟨e4,bR,bS,aU,bC⟩:=s_many (P:=Tryz.prog) (t:=29) (i:=0) (c7 (numericsV v u).2.1 bd a8 bv a9) Tryz.sizeOf29 rfl rfl rfl aT lb
 have dT:Blk e4 bh 29 (c7 (numericsV v u).2.1 bd a8 bv a9):=bS
 refine st_act rfl rfl fun gm dU=>a_store' rfl bz bg bR (dU _ _ trivial ?_)
 have dV:=dN.fr aT aU
 have dW:=dO.fr aT aU
 have dX:=dP.fr aT aU
 have dY:=dQ.fr aT aU
 have dZ:=bC _ _ _ (hne62) dR
 have d0:=bC _ _ _ (hne60) dL
 have d1:=dS.trans aU (fun _ h b=>by subst b; omega)
 refine st_take rfl rfl (y_assign (v:=iv ((numericsV v u).2.2)) rfl dl) rfl ?_
 obtain⟨e5,aa⟩:∃ a',a'=be.put (some 10) (iv ((numericsV v u).2.2)):=⟨_,rfl⟩
 have bD:=pz aa bt
 have d2:=pd aa dD
 have e6:=pn aa e1 (by decide)
 have e7:=pn aa e2 (by decide)
 have fv:=pn aa bf (by decide)
 have fw:=pn aa bg (by decide)
 have fy:=pn aa dl (by decide)
 have d3:=pn aa bw (by decide)
 have d4:=pn aa bz (by decide)
 have bE:e5.eval (.tmp 10)=iv ((numericsV v u).2.2):=by rw [aa]; exact put_same _ _ _ (by rw [bt]; decide)
 show stepsTo _ _ _ _ _ (be.put (some 10) (iv ((numericsV v u).2.2))) _
 rw [← aa]
 refine st_nil (ds _ _ (wp_seq_k fun fz bT=>?_))
 refine wp_block ?_
 refine wp_seq_k fun fA bU=>?_
 refine wp_g0 [true,true,true] [] 92
   [ve (iv ((numericsV v u).2.2)),ve (.bool (!decide (((numericsV v u).2.2)=0))),ve (.bool (!decide (((numericsV v u).2.2)=0)))] bD (.eq (.eq (.eq (.nil)))) ?_ ?_
 exact .m (fun k=>k.fx 10 bE)<| .t (fun _ w hn k=>⟨_,v_bin rfl (k.eq1 0 19 rfl) rfl (fun _=>rfl) (r_neq rfl),rfl⟩)<| .a (fun k=>k.eq1 1 20 rfl) .nil
 refine aftI bD d2 d1 fun fB fC bi bV bW ak au=>?_
 have d5:=au.fx 0 e6
 have d6:=au.fx 6 e7
 have bF:=au.fx 8 d3
 have d7:=au.fx 9 d4
 have fD:=au.fx 10 bE
 have d8:=au.ge 2 18 rfl
 have bX:=dZ.new_ ak
 have bj:=d0.new_ ak
 have bY:=dT.new_ ak
 have bZ:=dV.new_ ak
 have b0:=dW.new_ ak
 have b1:=dX.new_ ak
 have b2:=dY.new_ ak
 refine st_nil (bU _ _ ?_)
 have aW:((!decide (((numericsV v u).2.2)=0)))=false:=(nf (decide_eq_true (hns)))
 have b3:=hB d8 aW
 have aX:(decide (((numericsV v u).2.2)=0))=true:=nT aW
 have e8:=oT aX
 refine wp_cond_false b3 ?_
 refine wp_seq_k fun fE b4=>?_
 refine wp_g0 [true,true,true,true] [] 92
   [ve (pv a4),ve (iv ((numericsV v u).1.k)),ve (.bool (decide (((numericsV v u).1.k)=4))),ve (.bool (decide (((numericsV v u).1.k)=4)))] bi (.eq (.eq (.eq (.eq (.nil))))) ?_ ?_
 exact .f (fun k=>k.fx 8 bF)<| .t (fun _ w hn k=>⟨_,v_load rfl (k.eq1 0 24 rfl) (l_one Tryz.isAgg3 ((bj.new_ hn).cell 0)),rfl⟩)<| .t (fun _ w hn k=>⟨_,v_bin rfl (k.eq1 1 25 rfl) rfl (fun _=>rfl) (r_eql rfl),rfl⟩)<| .a (fun k=>k.eq1 2 26 rfl) .nil
 refine aftI bi bV bW fun fF fG bk b5 b6 al aw=>?_
 have d9:=aw.fx 0 d5
 have ea:=aw.fx 6 d6
 have eb:=aw.fx 8 bF
 have ec:=aw.fx 9 d7
 have ed:=aw.ge 3 23 rfl
 have b7:=bX.new_ al
 have b8:=bj.new_ al
 have b9:=bY.new_ al
 have ca:=bZ.new_ al
 have cb:=b0.new_ al
 have cc:=b1.new_ al
 have cd:=b2.new_ al
 refine st_nil (b4 _ _ ?_)
 have aY:(decide (((numericsV v u).1.k)=4))=false:=decide_eq_false (by omega)
 have e9:=oF aY
 have ce:=hB ed aY
 refine wp_cond_false ce ?_
 refine wp_skip ?_
 refine bT _ _ ?_
 refine wp_seq_k fun fH fa=>?_
 refine wp_seq_k fun fI cf=>?_
 refine wp_g0 [true] [] 92
   [ve (.string ⟨#[47]⟩)] bk (.eq (.nil)) ?_ ?_
 exact .m (fun k=>k.fx 0 d9) .nil
 refine aftI bk b5 b6 fun fJ fK bl ch ci am aA=>?_
 have ee:=aA.fx 6 ea
 have ef:=aA.fx 8 eb
 have eg:=aA.fx 9 ec
 have bG:=aA.ge 0 35 rfl
 have cj:=b7.new_ am
 have cl:=b8.new_ am
 have cm:=b9.new_ am
 have cn:=ca.new_ am
 have co:=cb.new_ am
 have cp:=cc.new_ am
 have cq:=cd.new_ am
 refine st_nil (cf _ _ ?_)
 refine wp_block ?_
 refine wp_seq_k fun fL cr=>?_
 refine wp_g0 [true,true] [] 92
   [vF,vF] bl (.eq (.eq (.nil))) ?_ ?_
 exact .t (fun _ w hn k=>⟨_,v_bin rfl (k.fx 35 bG) rfl (fun _=>rfl) (r_eqlS (r:=false) (by kernel_rfl)),rfl⟩)<| .a (fun k=>k.eq1 0 37 rfl) .nil
 refine aftI bl ch ci fun fM fN bm ct cw an ax=>?_
 have eh:=ax.fx 6 ee
 have ei:=ax.fx 8 ef
 have ej:=ax.fx 9 eg
 have bH:=ax.fx 35 bG
 have ek:=ax.ge 1 36 rfl
 have cx:=cj.new_ an
 have cy:=cl.new_ an
 have cz:=cm.new_ an
 have cA:=cn.new_ an
 have cB:=co.new_ an
 have cC:=cp.new_ an
 have cD:=cq.new_ an
 refine st_nil (cr _ _ ?_)
 refine wp_cond_false ek ?_
 refine wp_seq_k fun fO cE=>?_
 refine wp_g0 [true,true] [] 92
   [vF,vF] bm (.eq (.eq (.nil))) ?_ ?_
 exact .t (fun _ w hn k=>⟨_,v_bin rfl (k.fx 35 bH) rfl (fun _=>rfl) (r_eqlS (r:=false) (by kernel_rfl)),rfl⟩)<| .a (fun k=>k.eq1 0 49 rfl) .nil
 refine aftI bm ct cw fun fP fQ bn cF cG ao ay=>?_
 have el:=ay.fx 6 eh
 have em:=ay.fx 8 ei
 have en:=ay.fx 9 ej
 have bI:=ay.fx 35 bH
 have eo:=ay.ge 1 48 rfl
 have cH:=cx.new_ ao
 have cI:=cy.new_ ao
 have cJ:=cz.new_ ao
 have cK:=cA.new_ ao
 have cL:=cB.new_ ao
 have cM:=cC.new_ ao
 have cN:=cD.new_ ao
 refine st_nil (cE _ _ ?_)
 refine wp_cond_false eo ?_
 refine wp_seq_k fun fR cO=>?_
 refine wp_g0 [true,true] [] 92
   [vF,vF] bn (.eq (.eq (.nil))) ?_ ?_
 exact .t (fun _ w hn k=>⟨_,v_bin rfl (k.fx 35 bI) rfl (fun _=>rfl) (r_eqlS (r:=false) (by kernel_rfl)),rfl⟩)<| .a (fun k=>k.eq1 0 61 rfl) .nil
 refine aftI bn cF cG fun fS fT bo cP cQ ap az=>?_
 have ep:=az.fx 6 el
 have er:=az.fx 8 em
 have es:=az.fx 9 en
 have et:=az.fx 35 bI
 have eu:=az.ge 1 60 rfl
 have cR:=cH.new_ ap
 have cS:=cI.new_ ap
 have cT:=cJ.new_ ap
 have cU:=cK.new_ ap
 have cV:=cL.new_ ap
 have cW:=cM.new_ ap
 have cX:=cN.new_ ap
 refine st_nil (cO _ _ ?_)
 refine wp_cond_false eu ?_
 refine wp_seq_k fun fU cY=>?_
 refine wp_g0 [true,true] [] 92
   [vT,vT] bo (.eq (.eq (.nil))) ?_ ?_
 exact .t (fun _ w hn k=>⟨_,v_bin rfl (k.fx 35 et) rfl (fun _=>rfl) (r_eqlS (r:=true) (by kernel_rfl)),rfl⟩)<| .a (fun k=>k.eq1 0 73 rfl) .nil
 refine aftI bo cP cQ fun fV fW bp cZ c0 aq aB=>?_
 have ev:=aB.fx 6 ep
 have ew:=aB.fx 8 er
 have ex:=aB.fx 9 es
 have ey:=aB.ge 1 72 rfl
 have c1:=cR.new_ aq
 have c3:=cS.new_ aq
 have c5:=cT.new_ aq
 have fb:=cU.new_ aq
 have fc:=cV.new_ aq
 have fd:=cW.new_ aq
 have fe:=cX.new_ aq
 refine st_nil (cY _ _ ?_)
 refine wp_cond_true ey ?_
 refine wp_seq_k fun fX c9=>?_
 refine wp_g0 [true,true,true,true,true,true,true,true,true,true,false,false] [(10,false),(11,true)] 92
   [ve (.pointer (some ⟨a4,1,none⟩)),ve (nv (Nm.mk ((numericsV v u).1.nk) ((numericsV v u).1.nn))),ve (.pointer (some ⟨bh,1,none⟩)),ve (nv (Nm.mk ((numericsV v u).2.1.nk) ((numericsV v u).2.1.nn))),ve (.tuple #[nv (Nm.mk 2 0),.bool false]),ve (nv (Nm.mk 2 0)),vF,ve (.tuple #[vv (Vl.mk (numberedV (Nm.mk 2 0) false).1 (numberedV (Nm.mk 2 0) false).2.1.k (numberedV (Nm.mk 2 0) false).2.1.n false [] [] 0) none 0 none 0,iv ((numberedV (Nm.mk 2 0) false).2.2)]),ve (vv (Vl.mk (numberedV (Nm.mk 2 0) false).1 (numberedV (Nm.mk 2 0) false).2.1.k (numberedV (Nm.mk 2 0) false).2.1.n false [] [] 0) none 0 none 0),ve (iv ((numberedV (Nm.mk 2 0) false).2.2)),vt,vt] bp (.eq (.eq (.eq (.eq (.eq (.eq (.eq (.eq (.eq (.eq (.tt (.tt (.nil))))))))))))) ?_ ?_
 exact .f (fun k=>k.fx 8 ew)<| .t (fun _ w hn k=>⟨_,v_load rfl (k.eq1 0 74 rfl) (l_part Tryz.isAgg23 Tryz.sizeOf23 (c3.new_ hn) lb),rfl⟩)<| .f (fun k=>k.fx 9 ex)<| .t (fun _ w hn k=>⟨_,v_load rfl (k.eq1 2 76 rfl) (l_part Tryz.isAgg23 Tryz.sizeOf23 (c5.new_ hn) lb),rfl⟩)<| .o1 (ck rfl rfl rfl (fun _ w hn k=>⟨#[nv (Nm.mk ((numericsV v u).1.nk) ((numericsV v u).1.nn)),nv (Nm.mk ((numericsV v u).2.1.nk) ((numericsV v u).2.1.nn))],args2 (k.eq1 1 75 rfl) (k.eq1 3 77 rfl),fun _=>by kernel_rfl,ndivS_c (Nm.mk ((numericsV v u).1.nk) ((numericsV v u).1.nn)) (Nm.mk ((numericsV v u).2.1.nk) ((numericsV v u).2.1.nn)) _ hX hY⟩) fun _=>rfl)<| .t (fun _ w hn k=>⟨_,v_extract rfl (k.eq1 4 78 rfl) rfl,rfl⟩)<| .t (fun _ w hn k=>⟨_,v_extract rfl (k.eq1 4 78 rfl) rfl,rfl⟩)<| .o1 (ck rfl rfl rfl (fun _ w hn k=>⟨#[nv (Nm.mk 2 0),.bool false],args2 (k.eq1 5 79 rfl) (k.eq1 6 80 rfl),fun _=>by kernel_rfl,numbered_c (Nm.mk 2 0) false _ ⟩) fun _=>rfl)<| .t (fun _ w hn k=>⟨_,v_extract rfl (k.eq1 7 81 rfl) rfl,rfl⟩)<| .t (fun _ w hn k=>⟨_,v_extract rfl (k.eq1 7 81 rfl) rfl,rfl⟩)<| .off<| .off .nil
 refine aftI bp cZ c0 fun bJ fY bq da db dc aZ=>?_
 have bK:=aZ.fx 6 ev
 have bL:=aZ.ge 8 82 rfl
 have bM:=aZ.ge 9 83 rfl
 have dd:=c1.new_ dc
 obtain⟨ez,bN,bO,de,ff⟩:=s_many (P:=Tryz.prog) (t:=29) (i:=0) [iv ((numberedV (Nm.mk 2 0) false).1),iv ((numberedV (Nm.mk 2 0) false).2.1.k),iv ((numberedV (Nm.mk 2 0) false).2.1.n),.bool false,sv none ([]) 0,sv none ([]) 0,iv 0] Tryz.sizeOf29 rfl rfl rfl dd lb
 have df:Blk ez a1 29 [iv ((numberedV (Nm.mk 2 0) false).1),iv ((numberedV (Nm.mk 2 0) false).2.1.k),iv ((numberedV (Nm.mk 2 0) false).2.1.n),.bool false,sv none ([]) 0,sv none ([]) 0,iv 0]:=bO
 refine st_act rfl rfl fun fZ dg=>a_store' rfl bK bL bN (dg _ _ trivial ?_)
 have dh:=db.trans de (fun _ h b=>by subst b; omega)
 refine st_take rfl rfl (y_assign (v:=iv ((numberedV (Nm.mk 2 0) false).2.2)) rfl bM) rfl ?_
 obtain⟨eA,ar⟩:∃ a',a'=bJ.put (some 7) (iv ((numberedV (Nm.mk 2 0) false).2.2)):=⟨_,rfl⟩
 have fg:=pz ar bq
 have di:=pd ar da
 have eB:=pn ar bK (by decide)
 have f0:=pn ar bL (by decide)
 have f1:=pn ar bM (by decide)
 have eC:eA.eval (.tmp 7)=iv ((numberedV (Nm.mk 2 0) false).2.2):=by rw [ar]; exact put_same _ _ _ (by rw [bq]; decide)
 show stepsTo _ _ _ _ _ (bJ.put (some 7) (iv ((numberedV (Nm.mk 2 0) false).2.2))) _
 rw [← ar]
 refine st_nil (c9 _ _ ?_)
 refine wp_ret (ret_k di (v:=.tuple #[vv (Vl.mk (numberedV (Nm.mk 2 0) false).1 (numberedV (Nm.mk 2 0) false).2.1.k (numberedV (Nm.mk 2 0) false).2.1.n false [] [] 0) none 0 none 0,iv ((numberedV (Nm.mk 2 0) false).2.2)]) (res_ct rfl eB eC (l_agg Tryz.isAgg29 Tryz.sizeOf29 df rfl)) ?_)
 refine ⟨?_,dh⟩
 show Ending.returned (.tuple #[vv (Vl.mk (numberedV (Nm.mk 2 0) false).1 (numberedV (Nm.mk 2 0) false).2.1.k (numberedV (Nm.mk 2 0) false).2.1.n false [] [] 0) none 0 none 0,iv ((numberedV (Nm.mk 2 0) false).2.2)])=Ending.returned (.tuple #[vv (Vl.mk 0 0 0 false [] [] 0) none 0 none 0,iv 3])
 first|rfl|(simp only [aW,aX,aX,aY,bsm] <;> rfl)|(exfalso; omega)
theorem bDiv0_c (a:Bool) (Aa:Option Addr) (ma:List Nat) (ca:Nat) (b:Bool) (Ab:Option Addr) (mb:List Nat) (cb:Nat) (w:World) (hra:SRow w .u32 Aa ma ca) (hrb:SRow w .u32 Ab mb cb) (ha:Limbs ma) (hb:Limbs mb) (hsa:ma.length≤1000000) (hsb:mb.length≤1000000) (aQ:goodI b mb=0):Calls Tryz.prog 144 #[.agg #[.bool a,sv Aa ma ca],.agg #[.bool b,sv Ab mb cb]] w (IsRet (.tuple #[.agg #[.bool false,sv none ([]) 0],iv 4]) w):=by
 refine enter_abs Tryz.func144 rfl fun a0 ae aR hp=>?_
 have ae:a0.tmps.size=28:=ae
 have af:New w w:=Upd.refl _ _
 have hp0:a0.eval (.tmp 0)=.agg #[.bool a,sv Aa ma ca]:=hp 0 _ rfl
 have hp1:a0.eval (.tmp 1)=.agg #[.bool b,sv Ab mb cb]:=hp 1 _ rfl
 refine wp_seq_k fun K1 aS=>?_
 refine wp_g [true,true,true,true] [] [] 28
   [IsNew w 26 [.bool a,sv Aa ma ca],IsNew w 26 [.bool b,sv Ab mb cb],IsNew w 26 [.bool false,sv none ([]) 0],ve (iv 0)]
   [0,1,2] (newsCons (fun v w h=>IsNew.old h) (newsCons (fun v w h=>IsNew.old h) (newsCons (fun v w h=>IsNew.old h) newsNil))) ae (.nw (.nw (.nw (.eq (.nil))))) ?_ (fun i h=>by cases h) ?_
 exact .o2 (step_allocN (cs:=[.bool a,sv Aa ma ca]) (t:=26) rfl (noG rfl) (fun _ w hn k=>v_box rfl (k.fx 0 hp0) (fun w=>rfl)) (fun q _ hq hb=>⟨q,rfl,hq,hb⟩))<| .o2 (step_allocN (cs:=[.bool b,sv Ab mb cb]) (t:=26) rfl (noG rfl) (fun _ w hn k=>v_box rfl (k.fx 1 hp1) (fun w=>rfl)) (fun q _ hq hb=>⟨q,rfl,hq,hb⟩))<| .o2 (step_allocN (cs:=[.bool false,sv none ([]) 0]) (t:=26) rfl (noG rfl) (fun _ w hn k=>rfl) (fun q _ hq hb=>⟨q,rfl,hq,hb⟩))<| .t (fun _ w hn k=>⟨_,v_assign rfl rfl,rfl⟩) .nil
 refine aftI ae aR af fun a2 w3 ap aT ag bb ac=>?_
 obtain⟨q9,h8,aw,ax⟩:=ac.G 0 2
 obtain⟨aU,ah,ay,ai⟩:=ac.G 1 3
 obtain⟨aq,aj,az,aA⟩:=ac.G 2 4
 have hne20:q9 ≠ aq:=ac.ne 0 2 2 4 h8 aj
 have hne21:aU ≠ aq:=ac.ne 1 2 3 4 ah aj
 have a3:=Nat.le_trans af.size aw
 have a4:=Nat.le_trans af.size ay
 have a5:=Nat.le_trans af.size az
 refine st_nil (aS _ _ (wp_seq_k fun bd a6=>?_))
 refine wp_seq_k fun be aB=>?_
 refine wp_g0 [true,true,true,true] [] 28
   [ve (.agg #[.bool b,sv Ab mb cb]),
    (OP w3.heap.size 56 .u32 (canon (goodI b mb).natAbs)),ve (iv ((canon (goodI b mb).natAbs).length:Int)),ve (.bool (decide (((canon (goodI b mb).natAbs).length:Int)=0)))] ap (.eq (.cons (fun _ _ _ n ⟨_,_,e,h⟩=>⟨_,_,e,h.new_ n⟩) (.eq (.eq (.nil))))) ?_ ?_
 refine .t (fun _ w hn k=>⟨_,v_load rfl (k.fx 3 ah) (l_two Tryz.isAgg26 Tryz.sizeOf26 (ai.new_ hn)),rfl⟩) ?_
 refine .o1 (tkC rfl (noG rfl) rfl fun _ w hn k=>(by
       refine ⟨#[.agg #[.bool b,sv Ab mb cb]],_,args1 (k.eq1 0 8 rfl),fun w=>by kernel_rfl,bmag_c b _ mb _ _ (hrb.new_ (ag.transNew hn)) hb (by first|omega|(simp only [List.length_nil,List.length_take,List.length_drop]; omega)|(simp only [List.length_cons,List.length_nil]; omega)),?_⟩
       rintro e w' ⟨A1,c2,rfl,hmo0,hm⟩
       exact⟨_,rfl,hm,⟨A1,c2,rfl,(hmo0.more hn.size)⟩⟩)) ?_
 refine .o1 (tk rfl rfl fun _ w hn k=>(by
       obtain⟨A5,c6,e7,bf⟩:(OP w3.heap.size 56 .u32 (canon (goodI b mb).natAbs)) _ _:=k.dep 1 9 (by kernel_rfl) (by kernel_rfl)
       exact⟨_,v_lenR rfl elW e7,rfl⟩)) ?_
 exact .t (fun _ w hn k=>⟨_,v_bin rfl (k.eq1 2 10 rfl) rfl (fun _=>rfl) (r_eql rfl),rfl⟩) .nil
 refine aftI ap aT ag fun bg bh ak aC aD ad ab=>?_
 have bi:=ab.fx 2 h8
 have bj:=ab.fx 3 ah
 have aV:=ab.fx 4 aj
 have aW:=ab.ge 3 11 rfl
 have a7:=ax.new_ ad
 have a8:=ai.new_ ad
 have aE:=aA.new_ ad
 refine st_nil (aB _ _ ?_)
 have al:(decide (((canon (goodI b mb).natAbs).length:Int)=0))=true:=decide_eq_true (by rw [aQ,Int.natAbs_zero,canon_zero]; rfl)
 have a1:=oT al
 have aF:=hB aW al
 refine wp_cond_true aF ?_
 refine wp_seq_k fun bk aG=>?_
 refine wp_g0 [true,false,false] [(1,false),(2,true)] 28
   [ve (.agg #[.bool false,sv none ([]) 0]),vt,vt] ak (.eq (.tt (.tt (.nil)))) ?_ ?_
 exact .t (fun _ w hn k=>⟨_,v_build (ps:=[]) rfl parts0 (by kernel_rfl),rfl⟩)<| .off<| .off .nil
 refine aftI ak aC aD fun ar bl am aH aI aJ an=>?_
 have au:=an.fx 4 aV
 have av:=an.ge 0 12 rfl
 have aK:=aE.new_ aJ
 obtain⟨bm,-,ao,aL,aM,a9⟩:=s_two (v0:=.bool false) (v1:=sv none ([]) 0) Tryz.sizeOf26 rfl rfl rfl aK
 refine st_act rfl rfl fun bn aN=>a_store' rfl au av ao (aN _ _ trivial ?_)
 have aO:=aI.trans aM (fun _ h b=>by subst b; omega)
 refine st_take rfl rfl (y_assign (v:=iv 4) rfl rfl) rfl ?_
 obtain⟨aX,aa⟩:∃ a',a'=ar.put (some 5) (iv 4):=⟨_,rfl⟩
 have ba:=pz aa am
 have aP:=pd aa aH
 have aY:=pn aa au (by decide)
 have bo:=pn aa av (by decide)
 have aZ:aX.eval (.tmp 5)=iv 4:=by rw [aa]; exact put_same _ _ _ (by rw [am]; decide)
 show stepsTo _ _ _ _ _ (ar.put (some 5) (iv 4)) _
 rw [← aa]
 refine st_nil (aG _ _ ?_)
 refine wp_ret (ret_k aP (v:=.tuple #[.agg #[.bool false,sv none ([]) 0],iv 4]) (res_ct rfl aY aZ (l_two Tryz.isAgg26 Tryz.sizeOf26 aL)) ?_)
 exact⟨rfl,aO⟩
theorem bigsD0_c  (a:Bool) (Aa:Option Addr) (ma:List Nat) (ca:Nat) (b:Bool) (Ab:Option Addr) (mb:List Nat) (cb:Nat) (w:World) (hra:SRow w .u32 Aa ma ca) (hrb:SRow w .u32 Ab mb cb) (ha:Limbs ma) (hb:Limbs mb) (hsa:ma.length≤1000000) (hsb:mb.length≤1000000) (cB:goodI b mb=0):Calls Tryz.prog 75 #[.string ⟨#[47]⟩,.agg #[.bool a,sv Aa ma ca],.agg #[.bool b,sv Ab mb cb]] w (IsRet (.tuple #[vv (Vl.mk 0 0 0 false [] [] 0) none 0 none 0,iv 2]) w):=by
 refine enter_abs Tryz.func75 rfl fun a0 ay cC hp=>?_
 have ay:a0.tmps.size=60:=ay
 have az:New w w:=Upd.refl _ _
 have hp0:a0.eval (.tmp 0)=.string ⟨#[47]⟩:=hp 0 _ rfl
 have hp1:a0.eval (.tmp 1)=.agg #[.bool a,sv Aa ma ca]:=hp 1 _ rfl
 have hp2:a0.eval (.tmp 2)=.agg #[.bool b,sv Ab mb cb]:=hp 2 _ rfl
 refine wp_seq_k fun K1 cD=>?_
 refine wp_g [true,true,true,true] [] [] 60
   [IsNew w 26 [.bool a,sv Aa ma ca],IsNew w 26 [.bool b,sv Ab mb cb],IsNew w 29 z7,ve (iv 0)]
   [0,1,2] (newsCons (fun v w h=>IsNew.old h) (newsCons (fun v w h=>IsNew.old h) (newsCons (fun v w h=>IsNew.old h) newsNil))) ay (.nw (.nw (.nw (.eq (.nil))))) ?_ (fun i h=>by cases h) ?_
 exact .o2 (step_allocN (cs:=[.bool a,sv Aa ma ca]) (t:=26) rfl (noG rfl) (fun _ w hn k=>v_box rfl (k.fx 1 hp1) (fun w=>rfl)) (fun q _ hq hb=>⟨q,rfl,hq,hb⟩))<| .o2 (step_allocN (cs:=[.bool b,sv Ab mb cb]) (t:=26) rfl (noG rfl) (fun _ w hn k=>v_box rfl (k.fx 2 hp2) (fun w=>rfl)) (fun q _ hq hb=>⟨q,rfl,hq,hb⟩))<| .o2 (step_allocN (cs:=z7) (t:=29) rfl (noG rfl) (fun _ w hn k=>rfl) (fun q _ hq hb=>⟨q,rfl,hq,hb⟩))<| .t (fun _ w hn k=>⟨_,v_assign rfl rfl,rfl⟩) .nil
 refine aftI ay cC az fun a2 w3 bz cE bI dt ak=>?_
 have h8:=ak.fx 0 hp0
 obtain⟨bA,h9,bJ,bK⟩:=ak.G 0 4
 obtain⟨bB,bC,bL,bM⟩:=ak.G 1 5
 obtain⟨aA,aH,bN,bO⟩:=ak.G 2 6
 have hne21:bA ≠ aA:=ak.ne 0 2 4 6 h9 aH
 have hne22:bB ≠ aA:=ak.ne 1 2 5 6 bC aH
 have c5:=Nat.le_trans az.size bJ
 have c6:=Nat.le_trans az.size bL
 have c8:=Nat.le_trans az.size bN
 refine st_nil (cD _ _ (wp_seq_k fun du bP=>?_))
 refine wp_seq_k fun dv bQ=>?_
 refine wp_g0 [true] [] 60
   [ve (.string ⟨#[47]⟩)] bz (.eq (.nil)) ?_ ?_
 exact .m (fun k=>k.fx 0 h8) .nil
 refine aftI bz cE bI fun dw dx aI bR bS ao ai=>?_
 have cF:=ai.fx 0 h8
 have cG:=ai.fx 4 h9
 have cH:=ai.fx 5 bC
 have cI:=ai.fx 6 aH
 have bD:=ai.ge 0 10 rfl
 have bT:=bK.new_ ao
 have bU:=bM.new_ ao
 have bV:=bO.new_ ao
 refine st_nil (bQ _ _ ?_)
 refine wp_block ?_
 refine wp_seq_k fun dy bW=>?_
 refine wp_g0 [true,true] [] 60
   [vF,vF] aI (.eq (.eq (.nil))) ?_ ?_
 exact .t (fun _ w hn k=>⟨_,v_bin rfl (k.fx 10 bD) rfl (fun _=>rfl) (r_eqlS (r:=false) (by kernel_rfl)),rfl⟩)<| .a (fun k=>k.eq1 0 12 rfl) .nil
 refine aftI aI bR bS fun dz dA aJ bX bY ap ae=>?_
 have cJ:=ae.fx 0 cF
 have cK:=ae.fx 4 cG
 have cL:=ae.fx 5 cH
 have cM:=ae.fx 6 cI
 have bE:=ae.fx 10 bD
 have cN:=ae.ge 1 11 rfl
 have bZ:=bT.new_ ap
 have b0:=bU.new_ ap
 have b1:=bV.new_ ap
 refine st_nil (bW _ _ ?_)
 refine wp_cond_false cN ?_
 refine wp_seq_k fun dB b2=>?_
 refine wp_g0 [true,true] [] 60
   [vF,vF] aJ (.eq (.eq (.nil))) ?_ ?_
 exact .t (fun _ w hn k=>⟨_,v_bin rfl (k.fx 10 bE) rfl (fun _=>rfl) (r_eqlS (r:=false) (by kernel_rfl)),rfl⟩)<| .a (fun k=>k.eq1 0 22 rfl) .nil
 refine aftI aJ bX bY fun dC dD aK b3 b4 aq af=>?_
 have cO:=af.fx 0 cJ
 have cP:=af.fx 4 cK
 have cQ:=af.fx 5 cL
 have cR:=af.fx 6 cM
 have cS:=af.fx 10 bE
 have cT:=af.ge 1 21 rfl
 have b5:=bZ.new_ aq
 have b6:=b0.new_ aq
 have b7:=b1.new_ aq
 refine st_nil (b2 _ _ ?_)
 refine wp_cond_false cT ?_
 refine wp_seq_k fun dE b8=>?_
 refine wp_g0 [true,true] [] 60
   [vF,vF] aK (.eq (.eq (.nil))) ?_ ?_
 exact .t (fun _ w hn k=>⟨_,v_bin rfl (k.fx 10 cS) rfl (fun _=>rfl) (r_eqlS (r:=false) (by kernel_rfl)),rfl⟩)<| .a (fun k=>k.eq1 0 32 rfl) .nil
 refine aftI aK b3 b4 fun dF cU aL b9 al ar aj=>?_
 have cV:=aj.fx 0 cO
 have bF:=aj.fx 4 cP
 have bG:=aj.fx 5 cQ
 have cW:=aj.fx 6 cR
 have cX:=aj.ge 1 31 rfl
 have au:=b5.new_ ar
 have av:=b6.new_ ar
 have aM:=b7.new_ ar
 refine st_nil (b8 _ _ ?_)
 refine wp_cond_false cX ?_
 refine wp_skip ?_
 refine bP _ _ ?_
 refine wp_seq_k fun dG cc=>?_
 refine wp_g [true,true,true,true,true,true,true,false,false] [5] [(7,false),(8,true)] 60
   [ve (.agg #[.bool a,sv Aa ma ca]),ve (.agg #[.bool b,sv Ab mb cb]),ve (.tuple #[.agg #[.bool false,sv none ([]) 0],iv 4]),ve (.tuple #[.agg #[.bool false,sv none ([]) 0],iv 4]),ve (.agg #[.bool false,sv none ([]) 0]),ve (iv 4),IsNew cU 26 [.bool false,sv none ([]) 0],vt,vt]
   [6] (newsCons (fun v w h=>IsNew.old h) newsNil) aL (.eq (.eq (.eq (.eq (.eq (.eq (.nw (.tt (.tt (.nil)))))))))) ?_ ?_ ?_
 refine .t (fun _ w hn k=>⟨_,v_load rfl (k.fx 4 bF) (l_two Tryz.isAgg26 Tryz.sizeOf26 (au.new_ hn)),rfl⟩)<| .t (fun _ w hn k=>⟨_,v_load rfl (k.fx 5 bG) (l_two Tryz.isAgg26 Tryz.sizeOf26 (av.new_ hn)),rfl⟩)<| .o1 (ck rfl rfl rfl (fun _ w hn k=>⟨#[.agg #[.bool a,sv Aa ma ca],.agg #[.bool b,sv Ab mb cb]],args2 (k.eq1 0 42 rfl) (k.eq1 1 43 rfl),fun _=>by kernel_rfl,bDiv0_c a _ ma _ b _ mb _ _ (hra.new_ (al.transNew hn)) (hrb.new_ (al.transNew hn)) ha hb (by first|omega|(simp only [List.length_nil,List.length_take,List.length_drop]; omega)|(simp only [List.length_cons,List.length_nil]; omega)) (by first|omega|(simp only [List.length_nil,List.length_take,List.length_drop]; omega)|(simp only [List.length_cons,List.length_nil]; omega)) cB⟩) fun _=>rfl)<| .m (fun k=>k.eq1 2 44 rfl)<| .t (fun _ w hn k=>⟨_,v_extract rfl (k.eq1 3 41 rfl) rfl,rfl⟩) ?_
 refine .o3 ?_
 exact .o2 (step_allocN (cs:=[.bool false,sv none ([]) 0]) (t:=26) rfl (noG rfl) (fun _ w hn k=>rfl) (fun q _ hq hb=>⟨q,rfl,hq,hb⟩))<| .off<| .off .nil
 intro i h
 simp only [List.contains_eq_mem,List.mem_cons,List.not_mem_nil,or_false,decide_eq_true_eq] at h
 subst h
 exact eager_take rfl rfl fun _ w hn k=>⟨iv 4,fun w=>v_extract rfl (k.eq1 3 41 rfl) rfl,rfl⟩
 refine aftI aL b9 al fun bH dH aN aX aY aw ad=>?_
 have cd:=ad.fx 0 cV
 have ce:=ad.fx 4 bF
 have cf:=ad.fx 5 bG
 have ch:=ad.fx 6 cW
 have aO:=ad.ge 4 45 rfl
 have aP:=ad.ge 5 46 rfl
 obtain⟨ax,aQ,ag,aZ⟩:=ad.G 6 8
 have a1:=au.new_ aw
 have a3:=av.new_ aw
 have a4:=aM.new_ aw
 have hne114:bA ≠ ax:=by have h1:=au.lt; have h2:=ag; omega
 have hne115:bB ≠ ax:=by have h1:=av.lt; have h2:=ag; omega
 have hne116:aA ≠ ax:=by have h1:=aM.lt; have h2:=ag; omega
 have cY:=Nat.le_trans al.size ag
 obtain⟨c9,-,aR,a5,a6,am⟩:=s_two (v0:=.bool false) (v1:=sv none ([]) 0) Tryz.sizeOf26 rfl rfl rfl aZ
 refine st_act rfl rfl fun da a7=>a_store' rfl aQ aO aR (a7 _ _ trivial ?_)
 have a8:=am _ _ _ (hne114) a1
 have a9:=am _ _ _ (hne115) a3
 have ba:=am _ _ _ (hne116) a4
 have bb:=aY.trans a6 (fun _ h b=>by subst b; omega)
 refine st_take rfl rfl (y_assign (v:=iv 4) rfl aP) rfl ?_
 obtain⟨ci,aa⟩:∃ a',a'=bH.put (some 9) (iv 4):=⟨_,rfl⟩
 have aB:=pz aa aN
 have bd:=pd aa aX
 have cj:=pn aa cd (by decide)
 have cl:=pn aa ce (by decide)
 have cm:=pn aa cf (by decide)
 have cn:=pn aa ch (by decide)
 have db:=pn aa aO (by decide)
 have dc:=pn aa aP (by decide)
 have co:=pn aa aQ (by decide)
 have cp:ci.eval (.tmp 9)=iv 4:=by rw [aa]; exact put_same _ _ _ (by rw [aN]; decide)
 show stepsTo _ _ _ _ _ (bH.put (some 9) (iv 4)) _
 rw [← aa]
 refine st_nil (cc _ _ (wp_seq_k fun dd be=>?_))
 refine wp_seq_k fun de bf=>?_
 refine wp_g0 [true,true] [] 60
   [ve (.string ⟨#[47]⟩),vF] aB (.eq (.eq (.nil))) ?_ ?_
 exact .m (fun k=>k.fx 0 cj)<| .t (fun _ w hn k=>⟨_,v_bin rfl (k.eq1 0 47 rfl) rfl (fun _=>rfl) (r_eqlS (r:=false) (by kernel_rfl)),rfl⟩) .nil
 refine aftI aB bd bb fun df dg aC bg bh ah ab=>?_
 have dh:=ab.fx 4 cl
 have di:=ab.fx 5 cm
 have cq:=ab.fx 6 cn
 have cr:=ab.fx 8 co
 have ct:=ab.fx 9 cp
 have cu:=ab.ge 1 48 rfl
 have cZ:=a8.new_ ah
 have c0:=a9.new_ ah
 have bi:=ba.new_ ah
 have bj:=a5.new_ ah
 refine st_nil (bf _ _ ?_)
 refine wp_cond_false cu ?_
 refine wp_skip ?_
 refine be _ _ ?_
 refine wp_seq_k fun dj c1=>?_
 refine wp_seq_k fun dk bk=>?_
 refine wp_g0 [true,true] [] 60
   [ve (iv 4),vT] aC (.eq (.eq (.nil))) ?_ ?_
 exact .m (fun k=>k.fx 9 ct)<| .t (fun _ w hn k=>⟨_,v_bin rfl (k.eq1 0 55 rfl) rfl (fun _=>rfl) (fun w=>by kernel_rfl),rfl⟩) .nil
 refine aftI aC bg bh fun dl dm aD bl bm aE an=>?_
 have cv:=an.fx 6 cq
 have dn:=an.fx 8 cr
 have cw:=an.ge 1 56 rfl
 have bn:=bi.new_ aE
 have c2:=bj.new_ aE
 refine st_nil (bk _ _ ?_)
 refine wp_cond_true cw ?_
 refine wp_seq_k fun dp bo=>?_
 refine wp_g0 [true,false,false] [(1,false),(2,true)] 60
   [ve (vv (Vl.mk 0 0 0 false [] [] 0) none 0 none 0),vt,vt] aD (.eq (.tt (.tt (.nil)))) ?_ ?_
 exact .t (fun _ w hn k=>⟨_,v_build (ps:=[]) rfl parts0 (by kernel_rfl),rfl⟩)<| .off<| .off .nil
 refine aftI aD bl bm fun aS dq aF bp bq br aG=>?_
 have aT:=aG.fx 6 cv
 have aU:=aG.ge 0 57 rfl
 have bs:=bn.new_ br
 obtain⟨cx,aV,aW,bt,c3⟩:=s_many (P:=Tryz.prog) (t:=29) (i:=0) z7 Tryz.sizeOf29 rfl rfl rfl bs lb
 have bu:Blk cx aA 29 z7:=aW
 refine st_act rfl rfl fun dr bv=>a_store' rfl aT aU aV (bv _ _ trivial ?_)
 have bw:=bq.trans bt (fun _ h b=>by subst b; omega)
 refine st_take rfl rfl (y_assign (v:=iv 2) rfl rfl) rfl ?_
 obtain⟨cy,ac⟩:∃ a',a'=aS.put (some 7) (iv 2):=⟨_,rfl⟩
 have c4:=pz ac aF
 have bx:=pd ac bp
 have cz:=pn ac aT (by decide)
 have ds:=pn ac aU (by decide)
 have cA:cy.eval (.tmp 7)=iv 2:=by rw [ac]; exact put_same _ _ _ (by rw [aF]; decide)
 show stepsTo _ _ _ _ _ (aS.put (some 7) (iv 2)) _
 rw [← ac]
 refine st_nil (bo _ _ ?_)
 refine wp_ret (ret_k bx (v:=.tuple #[vv (Vl.mk 0 0 0 false [] [] 0) none 0 none 0,iv 2]) (res_ct rfl cz cA (l_agg Tryz.isAgg29 Tryz.sizeOf29 bu rfl)) ?_)
 exact⟨rfl,bw⟩
theorem sumsB_c  (v:Vl) (Av:Option Addr) (cv:Nat) (Bv:Option Addr) (dv:Nat) (u:Vl) (Au:Option Addr) (cu:Nat) (Bu:Option Addr) (du:Nat) (w:World) (hmv:SRow w .u32 Av v.mag cv) (hsv:SRow w .u16 Bv v.s dv) (hmu:SRow w .u32 Au u.mag cu) (hsu:SRow w .u16 Bu u.s du) (hvv:VOk v) (hvu:VOk u) (hns:(numericsV v u).2.2=0) (hk:(numericsV v u).1.k=4) (da:goodI (numericsV v u).2.1.neg (numericsV v u).2.1.mag=0):Calls Tryz.prog 36 #[.string ⟨#[47]⟩,vv v Av cv Bv dv,vv u Au cu Bu du] w (IsRet (.tuple #[vv (Vl.mk 0 0 0 false [] [] 0) none 0 none 0,iv 2]) w):=by
 refine enter_abs Tryz.func36 rfl fun a0 aX db hp=>?_
 have aX:a0.tmps.size=92:=aX
 have aY:New w w:=Upd.refl _ _
 have hp0:a0.eval (.tmp 0)=.string ⟨#[47]⟩:=hp 0 _ rfl
 have hp1:a0.eval (.tmp 1)=vv v Av cv Bv dv:=hp 1 _ rfl
 have hp2:a0.eval (.tmp 2)=vv u Au cu Bu du:=hp 2 _ rfl
 have ej:=(VOk.numerics1 hvv hvu).mlen
 have ek:=(VOk.numerics2 hvv hvu).mlen
 refine wp_seq_k fun K1 dc=>?_
 refine wp_g [true,true,true,true] [] [] 92
   [IsNew w 29 (c7 v Av cv Bv dv),IsNew w 29 (c7 u Au cu Bu du),IsNew w 29 z7,ve (iv 0)]
   [0,1,2] (newsCons (fun v w h=>IsNew.old h) (newsCons (fun v w h=>IsNew.old h) (newsCons (fun v w h=>IsNew.old h) newsNil))) aX (.nw (.nw (.nw (.eq (.nil))))) ?_ (fun i h=>by cases h) ?_
 exact .o2 (step_allocN (cs:=(c7 v Av cv Bv dv)) (t:=29) rfl (noG rfl) (fun _ w hn k=>v_box rfl (k.fx 1 hp1) (fun w=>rfl)) (fun q _ hq hb=>⟨q,rfl,hq,hb⟩))<| .o2 (step_allocN (cs:=(c7 u Au cu Bu du)) (t:=29) rfl (noG rfl) (fun _ w hn k=>v_box rfl (k.fx 2 hp2) (fun w=>rfl)) (fun q _ hq hb=>⟨q,rfl,hq,hb⟩))<| .o2 (step_allocN (cs:=z7) (t:=29) rfl (noG rfl) (fun _ w hn k=>rfl) (fun q _ hq hb=>⟨q,rfl,hq,hb⟩))<| .t (fun _ w hn k=>⟨_,v_assign rfl rfl,rfl⟩) .nil
 refine aftI aX db aY fun a2 w3 b4 dd ao el aN=>?_
 have h8:=aN.fx 0 hp0
 obtain⟨de,h9,b7,b8⟩:=aN.G 0 4
 obtain⟨df,b5,b9,ca⟩:=aN.G 1 5
 obtain⟨aQ,bb,cb,aU⟩:=aN.G 2 6
 have hne21:de ≠ aQ:=aN.ne 0 2 4 6 h9 bb
 have hne22:df ≠ aQ:=aN.ne 1 2 5 6 b5 bb
 have dQ:=Nat.le_trans aY.size b7
 have dR:=Nat.le_trans aY.size b9
 have dS:=Nat.le_trans aY.size cb
 refine st_nil (dc _ _ (wp_seq_k fun em cc=>?_))
 refine wp_gS (fun W=>True) (fun W W' hn h=>trivial) trivial [true,true,true,true,true,true,true,true,true,false,false,false] [5,6] [(9,false),(10,false),(11,true)] 92
   [ve (vv v Av cv Bv dv),ve (vv u Au cu Bu du),(TQ (numericsV v u).1 (numericsV v u).2.1 ((numericsV v u).2.2)),(TQ (numericsV v u).1 (numericsV v u).2.1 ((numericsV v u).2.2)),(fun (v_:Value) (W:World)=>∃ (az:Option Addr) (aA:Nat) (aB:Option Addr) (aC:Nat),v_=vv (numericsV v u).1 az aA aB aC∧SRow W .u32 az ((numericsV v u).1.mag) aA∧SRow W .u16 aB ((numericsV v u).1.s) aC),(fun (v_:Value) (W:World)=>∃ (aD:Option Addr) (aE:Nat) (aF:Option Addr) (aG:Nat),v_=vv (numericsV v u).2.1 aD aE aF aG∧SRow W .u32 aD ((numericsV v u).2.1.mag) aE∧SRow W .u16 aF ((numericsV v u).2.1.s) aG),ve (iv ((numericsV v u).2.2)),IsNew w3 29 z7,IsNew w3 29 z7,vt,vt,vt]
   [7,8] (newsCons (fun v w h=>IsNew.old h) (newsCons (fun v w h=>IsNew.old h) newsNil)) b4 (.eq (.eq (.cons (fun _ _ _ n ⟨_,_,_,_,_,_,_,_,e,h,i,j,l⟩=>⟨_,_,_,_,_,_,_,_,e,h.new_ n,i.new_ n,j.new_ n,l.new_ n⟩) (.cons (fun _ _ _ n ⟨_,_,_,_,_,_,_,_,e,h,i,j,l⟩=>⟨_,_,_,_,_,_,_,_,e,h.new_ n,i.new_ n,j.new_ n,l.new_ n⟩) (.cons (fun _ _ _ n ⟨_,_,_,_,e,h,i⟩=>⟨_,_,_,_,e,h.new_ n,i.new_ n⟩) (.cons (fun _ _ _ n ⟨_,_,_,_,e,h,i⟩=>⟨_,_,_,_,e,h.new_ n,i.new_ n⟩) (.eq (.nw (.nw (.tt (.tt (.tt (.nil))))))))))))) ?_ ?_ ?_
 refine .t (fun _ w hn k=>⟨_,v_load rfl (k.fx 4 h9) (l_agg Tryz.isAgg29 Tryz.sizeOf29 (b8.new_ hn) rfl),rfl⟩)<| .t (fun _ w hn k=>⟨_,v_load rfl (k.fx 5 b5) (l_agg Tryz.isAgg29 Tryz.sizeOf29 (ca.new_ hn) rfl),rfl⟩) ?_
 refine .o1 (tkC rfl (noG rfl) rfl fun _ w hn k=>(by
       refine ⟨#[vv v Av cv Bv dv,vv u Au cu Bu du],_,args2 (k.eq1 0 12 rfl) (k.eq1 1 13 rfl),fun w=>by kernel_rfl,numerics_c v _ _ _ _ u _ _ _ _ _ (hmv.new_ (ao.transNew hn)) (hsv.new_ (ao.transNew hn)) (hmu.new_ (ao.transNew hn)) (hsu.new_ (ao.transNew hn)) hvv hvu,?_⟩
       rintro e w' ⟨A1,c2,A3,c4,A5,c6,A7,c8,rfl,hmo0,hmo1,hmo2,hmo3,hm⟩
       exact⟨_,rfl,hm,⟨A1,c2,A3,c4,A5,c6,A7,c8,rfl,hmo0,hmo1,hmo2,hmo3⟩⟩)) ?_
 refine .o1 (tk rfl rfl fun _ w hn k=>(by
       obtain⟨dg,dh,di,dj,dk,dl,dm,dn,dp,cd,ce,cf,ch⟩:(TQ (numericsV v u).1 (numericsV v u).2.1 ((numericsV v u).2.2)) _ _:=k.dep 2 14 (by kernel_rfl) (by kernel_rfl)
       exact⟨_,v_move rfl dp,⟨dg,dh,di,dj,dk,dl,dm,dn,rfl,cd,ce,cf,ch⟩⟩)) ?_
 refine .o1 (tk rfl rfl fun _ w hn k=>(by
       obtain⟨dq,dr,aR,ds,en,eo,aO,ep,dt,ci,cj,dT,dU⟩:(TQ (numericsV v u).1 (numericsV v u).2.1 ((numericsV v u).2.2)) _ _:=k.dep 3 11 (by kernel_rfl) (by kernel_rfl)
       exact⟨_,v_extract rfl dt rfl,⟨dq,dr,aR,ds,rfl,ci,cj⟩⟩)) ?_
 refine .o3 ?_
 refine .o3 ?_
 exact .o2 (step_allocN (cs:=z7) (t:=29) rfl (noG rfl) (fun _ w hn k=>rfl) (fun q _ hq hb=>⟨q,rfl,hq,hb⟩))<| .o2 (step_allocN (cs:=z7) (t:=29) rfl (noG rfl) (fun _ w hn k=>rfl) (fun q _ hq hb=>⟨q,rfl,hq,hb⟩))<| .off<| .off<| .off .nil
 intro i h
 simp only [List.contains_eq_mem,List.mem_cons,List.not_mem_nil,or_false,decide_eq_true_eq] at h
 rcases h with rfl|rfl
 exact eager_takeG rfl (noG rfl) fun _ w hn k=>(by
     obtain⟨er,es,et,eu,dw,dx,dy,dz,dA,dV,dW,cl,cm⟩:(TQ (numericsV v u).1 (numericsV v u).2.1 ((numericsV v u).2.2)) _ _:=k.dep 3 11 (by kernel_rfl) (by kernel_rfl)
     exact⟨_,fun w hS=>v_extract rfl dA rfl,⟨dw,dx,dy,dz,rfl,cl,cm⟩⟩)
 exact eager_takeG rfl (noG rfl) fun _ w hn k=>(by
     obtain⟨ev,ew,ex,ey,ez,eA,eB,eC,dB,dX,dY,dZ,d0⟩:(TQ (numericsV v u).1 (numericsV v u).2.1 ((numericsV v u).2.2)) _ _:=k.dep 3 11 (by kernel_rfl) (by kernel_rfl)
     exact⟨_,fun w hS=>v_extract rfl dB rfl,rfl⟩)
 intro aZ eD _ bd aj
 obtain⟨be,cn,co⟩:=aft aj b4 dd ao bd
 have dC:=aj.fx 0 h8
 have dD:=aj.fx 6 bb
 obtain⟨aS,aH,aR,aV,a1,cp,cq⟩:=aj.G 4 15
 have a1:aZ.eval (.tmp 15)=vv (numericsV v u).1 aS aH aR aV:=a1
 obtain⟨aO,aI,bf,aW,a3,cr,ct⟩:=aj.G 5 16
 have a3:aZ.eval (.tmp 16)=vv (numericsV v u).2.1 aO aI bf aW:=a3
 have b6:=aj.ge 6 17 rfl
 obtain⟨aT,bg,bh,aJ⟩:=aj.G 7 8
 obtain⟨a4,bi,bj,cw⟩:=aj.G 8 9
 have cx:=aU.new_ bd
 have hne60:aT ≠ a4:=aj.ne 7 8 8 9 bg bi
 have hne61:aQ ≠ aT:=by have h1:=aU.lt; have h2:=bh; omega
 have hne62:aQ ≠ a4:=by have h1:=aU.lt; have h2:=bj; omega
 have d1:=Nat.le_trans ao.size bh
 have d2:=Nat.le_trans ao.size bj
 obtain⟨dE,bv,bw,aK,bk⟩:=s_many (P:=Tryz.prog) (t:=29) (i:=0) (c7 (numericsV v u).1 aS aH aR aV) Tryz.sizeOf29 rfl rfl rfl aJ lb
 have cy:Blk dE aT 29 (c7 (numericsV v u).1 aS aH aR aV):=bw
 refine st_act rfl rfl fun eE cz=>a_store' rfl bg a1 bv (cz _ _ trivial ?_)
 have cA:=cp.fr aJ aK
 have cB:=cq.fr aJ aK
 have cC:=cr.fr aJ aK
 have cD:=ct.fr aJ aK
 have cE:=bk _ _ _ (hne61) cx
 have aL:=bk _ _ _ (fun h=>hne60 h.symm) cw
 have cF:=co.trans aK (fun _ h b=>by subst b; omega)
 obtain⟨dF,bx,bz,aM,bl⟩:=s_many (P:=Tryz.prog) (t:=29) (i:=0) (c7 (numericsV v u).2.1 aO aI bf aW) Tryz.sizeOf29 rfl rfl rfl aL lb
 have cG:Blk dF a4 29 (c7 (numericsV v u).2.1 aO aI bf aW):=bz
 refine st_act rfl rfl fun eF cH=>a_store' rfl bi a3 bx (cH _ _ trivial ?_)
 have cI:=cA.fr aL aM
 have cJ:=cB.fr aL aM
 have cK:=cC.fr aL aM
 have cL:=cD.fr aL aM
 have cM:=bl _ _ _ (hne62) cE
 have cN:=bl _ _ _ (hne60) cy
 have cO:=cF.trans aM (fun _ h b=>by subst b; omega)
 refine st_take rfl rfl (y_assign (v:=iv ((numericsV v u).2.2)) rfl b6) rfl ?_
 obtain⟨dG,aa⟩:∃ a',a'=aZ.put (some 10) (iv ((numericsV v u).2.2)):=⟨_,rfl⟩
 have bm:=pz aa be
 have cP:=pd aa cn
 have dH:=pn aa dC (by decide)
 have dI:=pn aa dD (by decide)
 have d3:=pn aa a1 (by decide)
 have d4:=pn aa a3 (by decide)
 have d5:=pn aa b6 (by decide)
 have cQ:=pn aa bg (by decide)
 have cR:=pn aa bi (by decide)
 have bn:dG.eval (.tmp 10)=iv ((numericsV v u).2.2):=by rw [aa]; exact put_same _ _ _ (by rw [be]; decide)
 show stepsTo _ _ _ _ _ (aZ.put (some 10) (iv ((numericsV v u).2.2))) _
 rw [← aa]
 refine st_nil (cc _ _ (wp_seq_k fun d6 dL=>?_))
 refine wp_block ?_
 refine wp_seq_k fun d7 bA=>?_
 refine wp_g0 [true,true,true] [] 92
   [ve (iv ((numericsV v u).2.2)),ve (.bool (!decide (((numericsV v u).2.2)=0))),ve (.bool (!decide (((numericsV v u).2.2)=0)))] bm (.eq (.eq (.eq (.nil)))) ?_ ?_
 exact .m (fun k=>k.fx 10 bn)<| .t (fun _ w hn k=>⟨_,v_bin rfl (k.eq1 0 19 rfl) rfl (fun _=>rfl) (r_neq rfl),rfl⟩)<| .a (fun k=>k.eq1 1 20 rfl) .nil
 refine aftI bm cP cO fun d8 d9 a5 bB bC ak an=>?_
 have cS:=an.fx 0 dH
 have cT:=an.fx 6 dI
 have bo:=an.fx 8 cQ
 have cU:=an.fx 9 cR
 have ea:=an.fx 10 bn
 have cV:=an.ge 2 18 rfl
 have bD:=cM.new_ ak
 have a6:=cN.new_ ak
 have bE:=cG.new_ ak
 have bF:=cI.new_ ak
 have bG:=cJ.new_ ak
 have bH:=cK.new_ ak
 have bI:=cL.new_ ak
 refine st_nil (bA _ _ ?_)
 have a7:((!decide (((numericsV v u).2.2)=0)))=false:=(nf (decide_eq_true (hns)))
 have bJ:=hB cV a7
 have bK:(decide (((numericsV v u).2.2)=0))=true:=nT a7
 have dJ:=oT bK
 refine wp_cond_false bJ ?_
 refine wp_seq_k fun eb bL=>?_
 refine wp_g0 [true,true,true,true] [] 92
   [ve (pv aT),ve (iv ((numericsV v u).1.k)),ve (.bool (decide (((numericsV v u).1.k)=4))),ve (.bool (decide (((numericsV v u).1.k)=4)))] a5 (.eq (.eq (.eq (.eq (.nil))))) ?_ ?_
 exact .f (fun k=>k.fx 8 bo)<| .t (fun _ w hn k=>⟨_,v_load rfl (k.eq1 0 24 rfl) (l_one Tryz.isAgg3 ((a6.new_ hn).cell 0)),rfl⟩)<| .t (fun _ w hn k=>⟨_,v_bin rfl (k.eq1 1 25 rfl) rfl (fun _=>rfl) (r_eql rfl),rfl⟩)<| .a (fun k=>k.eq1 2 26 rfl) .nil
 refine aftI a5 bB bC fun ec ed a8 bM bN al ap=>?_
 have cW:=ap.fx 0 cS
 have cX:=ap.fx 6 cT
 have cY:=ap.fx 8 bo
 have cZ:=ap.fx 9 cU
 have c0:=ap.ge 3 23 rfl
 have bO:=bD.new_ al
 have bP:=a6.new_ al
 have bQ:=bE.new_ al
 have bR:=bF.new_ al
 have dM:=bG.new_ al
 have bS:=bH.new_ al
 have dN:=bI.new_ al
 refine st_nil (bL _ _ ?_)
 have a9:(decide (((numericsV v u).1.k)=4))=true:=decide_eq_true (hk)
 have dK:=oT a9
 have bT:=hB c0 a9
 refine wp_cond_true bT ?_
 refine wp_seq_k fun ee bU=>?_
 refine wp_g0 [true,true,true,true,true,true,true,true,false,false] [(8,false),(9,true)] 92
   [ve (.string ⟨#[47]⟩),ve (.pointer (some ⟨aT,3,none⟩)),ve (.agg #[.bool ((numericsV v u).1.neg),sv aS ((numericsV v u).1.mag) aH]),ve (.pointer (some ⟨a4,3,none⟩)),ve (.agg #[.bool ((numericsV v u).2.1.neg),sv aO ((numericsV v u).2.1.mag) aI]),ve (.tuple #[vv (Vl.mk 0 0 0 false [] [] 0) none 0 none 0,iv 2]),ve (vv (Vl.mk 0 0 0 false [] [] 0) none 0 none 0),ve (iv 2),vt,vt] a8 (.eq (.eq (.eq (.eq (.eq (.eq (.eq (.eq (.tt (.tt (.nil))))))))))) ?_ ?_
 exact .m (fun k=>k.fx 0 cW)<| .f (fun k=>k.fx 8 cY)<| .t (fun _ w hn k=>⟨_,v_load rfl (k.eq1 1 28 rfl) (l_part Tryz.isAgg26 Tryz.sizeOf26 (bP.new_ hn) lb),rfl⟩)<| .f (fun k=>k.fx 9 cZ)<| .t (fun _ w hn k=>⟨_,v_load rfl (k.eq1 3 30 rfl) (l_part Tryz.isAgg26 Tryz.sizeOf26 (bQ.new_ hn) lb),rfl⟩)<| .o1 (ck rfl rfl rfl (fun _ w hn k=>⟨#[.string ⟨#[47]⟩,.agg #[.bool ((numericsV v u).1.neg),sv aS ((numericsV v u).1.mag) aH],.agg #[.bool ((numericsV v u).2.1.neg),sv aO ((numericsV v u).2.1.mag) aI]],args3 (k.eq1 0 27 rfl) (k.eq1 2 29 rfl) (k.eq1 4 31 rfl),fun _=>by kernel_rfl,bigsD0_c ((numericsV v u).1.neg) _ ((numericsV v u).1.mag) _ ((numericsV v u).2.1.neg) _ ((numericsV v u).2.1.mag) _ _ (bR.new_ hn) (bS.new_ hn) (VOk.numerics1 hvv hvu).limbs (VOk.numerics2 hvv hvu).limbs (by first|omega|(simp only [List.length_nil,List.length_take,List.length_drop]; omega)|(simp only [List.length_cons,List.length_nil]; omega)) (by first|omega|(simp only [List.length_nil,List.length_take,List.length_drop]; omega)|(simp only [List.length_cons,List.length_nil]; omega)) da⟩) fun _=>rfl)<| .t (fun _ w hn k=>⟨_,v_extract rfl (k.eq1 5 32 rfl) rfl,rfl⟩)<| .t (fun _ w hn k=>⟨_,v_extract rfl (k.eq1 5 32 rfl) rfl,rfl⟩)<| .off<| .off .nil
 refine aftI a8 bM bN fun bp ef ba bV bW bX aP=>?_
 have bq:=aP.fx 6 cX
 have br:=aP.ge 6 33 rfl
 have bs:=aP.ge 7 34 rfl
 have bY:=bO.new_ bX
 obtain⟨c1,bt,bu,bZ,dO⟩:=s_many (P:=Tryz.prog) (t:=29) (i:=0) z7 Tryz.sizeOf29 rfl rfl rfl bY lb
 have b0:Blk c1 aQ 29 z7:=bu
 refine st_act rfl rfl fun eg b1=>a_store' rfl bq br bt (b1 _ _ trivial ?_)
 have b2:=bW.trans bZ (fun _ h b=>by subst b; omega)
 refine st_take rfl rfl (y_assign (v:=iv 2) rfl bs) rfl ?_
 obtain⟨c3,am⟩:∃ a',a'=bp.put (some 7) (iv 2):=⟨_,rfl⟩
 have dP:=pz am ba
 have b3:=pd am bV
 have c5:=pn am bq (by decide)
 have eh:=pn am br (by decide)
 have ei:=pn am bs (by decide)
 have c9:c3.eval (.tmp 7)=iv 2:=by rw [am]; exact put_same _ _ _ (by rw [ba]; decide)
 show stepsTo _ _ _ _ _ (bp.put (some 7) (iv 2)) _
 rw [← am]
 refine st_nil (bU _ _ ?_)
 refine wp_ret (ret_k b3 (v:=.tuple #[vv (Vl.mk 0 0 0 false [] [] 0) none 0 none 0,iv 2]) (res_ct rfl c5 c9 (l_agg Tryz.isAgg29 Tryz.sizeOf29 b0 rfl)) ?_)
 exact⟨rfl,b2⟩
theorem binD_c  (v:Vl) (Av:Option Addr) (cv:Nat) (Bv:Option Addr) (dv:Nat) (u:Vl) (Au:Option Addr) (cu:Nat) (Bu:Option Addr) (du:Nat) (w:World) (hmv:SRow w .u32 Av v.mag cv) (hsv:SRow w .u16 Bv v.s dv) (hmu:SRow w .u32 Au u.mag cu) (hsu:SRow w .u16 Bu u.s du) (hvv:VOk v) (hvu:VOk u) (hns:(numericsV (cleanV v) (cleanV u)).2.2=0) (hk:(numericsV (cleanV v) (cleanV u)).1.k=3) (hX:(Nm.mk (numericsV (cleanV v) (cleanV u)).1.nk (numericsV (cleanV v) (cleanV u)).1.nn)=⟨0,1⟩) (hY:(Nm.mk (numericsV (cleanV v) (cleanV u)).2.1.nk (numericsV (cleanV v) (cleanV u)).2.1.nn)=⟨0,2⟩):Calls Tryz.prog 12 #[.string ⟨#[47]⟩,vv v Av cv Bv dv,vv u Au cu Bu du] w (IsRet (.tuple #[vv (Vl.mk 0 0 0 false [] [] 0) none 0 none 0,iv 3]) w):=by
 refine enter_abs Tryz.func12 rfl fun a0 aE dm hp=>?_
 have aE:a0.tmps.size=120:=aE
 have aF:New w w:=Upd.refl _ _
 have hp0:a0.eval (.tmp 0)=.string ⟨#[47]⟩:=hp 0 _ rfl
 have hp1:a0.eval (.tmp 1)=vv v Av cv Bv dv:=hp 1 _ rfl
 have hp2:a0.eval (.tmp 2)=vv u Au cu Bu du:=hp 2 _ rfl
 refine wp_seq_k fun K1 dn=>?_
 refine wp_g [true,true,true,true] [] [] 120
   [IsNew w 29 (c7 v Av cv Bv dv),IsNew w 29 (c7 u Au cu Bu du),IsNew w 29 z7,ve (iv 0)]
   [0,1,2] (newsCons (fun v w h=>IsNew.old h) (newsCons (fun v w h=>IsNew.old h) (newsCons (fun v w h=>IsNew.old h) newsNil))) aE (.nw (.nw (.nw (.eq (.nil))))) ?_ (fun i h=>by cases h) ?_
 exact .o2 (step_allocN (cs:=(c7 v Av cv Bv dv)) (t:=29) rfl (noG rfl) (fun _ w hn k=>v_box rfl (k.fx 1 hp1) (fun w=>rfl)) (fun q _ hq hb=>⟨q,rfl,hq,hb⟩))<| .o2 (step_allocN (cs:=(c7 u Au cu Bu du)) (t:=29) rfl (noG rfl) (fun _ w hn k=>v_box rfl (k.fx 2 hp2) (fun w=>rfl)) (fun q _ hq hb=>⟨q,rfl,hq,hb⟩))<| .o2 (step_allocN (cs:=z7) (t:=29) rfl (noG rfl) (fun _ w hn k=>rfl) (fun q _ hq hb=>⟨q,rfl,hq,hb⟩))<| .t (fun _ w hn k=>⟨_,v_assign rfl rfl,rfl⟩) .nil
 refine aftI aE dm aF fun a2 w3 cb dp al d5 am=>?_
 have h8:=am.fx 0 hp0
 obtain⟨aM,h9,ci,aN⟩:=am.G 0 4
 obtain⟨aO,aG,cj,aP⟩:=am.G 1 5
 obtain⟨aQ,aR,cl,cm⟩:=am.G 2 6
 have hne21:aM ≠ aO:=am.ne 0 1 4 5 h9 aG
 have hne22:aM ≠ aQ:=am.ne 0 2 4 6 h9 aR
 have hne23:aO ≠ aQ:=am.ne 1 2 5 6 aG aR
 have dI:=Nat.le_trans aF.size ci
 have dJ:=Nat.le_trans aF.size cj
 have dK:=Nat.le_trans aF.size cl
 refine st_nil (dn _ _ (wp_seq_k fun d6 cn=>?_))
 refine wp_g0 [true,true,true,true,false,false] [(4,false),(5,false)] 120
   [ve (vv v Av cv Bv dv),
    (VP (cleanV v)),ve (vv u Au cu Bu du),
    (VP (cleanV u)),vt,vt] cb (.eq (.cons (fun _ _ _ n ⟨_,_,_,_,e,h,i⟩=>⟨_,_,_,_,e,h.new_ n,i.new_ n⟩) (.eq (.cons (fun _ _ _ n ⟨_,_,_,_,e,h,i⟩=>⟨_,_,_,_,e,h.new_ n,i.new_ n⟩) (.tt (.tt (.nil))))))) ?_ ?_
 refine .t (fun _ w hn k=>⟨_,v_load rfl (k.fx 4 h9) (l_agg Tryz.isAgg29 Tryz.sizeOf29 (aN.new_ hn) rfl),rfl⟩) ?_
 refine .o1 (tkC rfl (noG rfl) rfl fun _ w hn k=>(by
       refine ⟨#[vv v Av cv Bv dv],_,args1 (k.eq1 0 10 rfl),fun w=>by kernel_rfl,clean_c v _ _ _ _ _ (hmv.new_ (al.transNew hn)) (hsv.new_ (al.transNew hn)),?_⟩
       rintro e w' ⟨A1,c2,A3,c4,rfl,hmo0,hmo1,hm⟩
       exact⟨_,rfl,hm,⟨A1,c2,A3,c4,rfl,hmo0,hmo1⟩⟩)) ?_
 refine .t (fun _ w hn k=>⟨_,v_load rfl (k.fx 5 aG) (l_agg Tryz.isAgg29 Tryz.sizeOf29 (aP.new_ hn) rfl),rfl⟩) ?_
 refine .o1 (tkC rfl (noG rfl) rfl fun _ w hn k=>(by
       refine ⟨#[vv u Au cu Bu du],_,args1 (k.eq1 2 12 rfl),fun w=>by kernel_rfl,clean_c u _ _ _ _ _ (hmu.new_ (al.transNew hn)) (hsu.new_ (al.transNew hn)),?_⟩
       rintro e w' ⟨A9,dw,dx,dy,rfl,hmo0,hmo1,hm⟩
       exact⟨_,rfl,hm,⟨A9,dw,dx,dy,rfl,hmo0,hmo1⟩⟩)) ?_
 exact .off<| .off .nil
 refine aftI cb dp al fun cc d7 aS co cp aD ak=>?_
 have cd:=ak.fx 0 h8
 have ce:=ak.fx 4 h9
 have cf:=ak.fx 5 aG
 have dz:=ak.fx 6 aR
 obtain⟨az,an,aA,ao,aT,cq,cr⟩:=ak.G 1 11
 have aT:cc.eval (.tmp 11)=vv (cleanV v) az an aA ao:=aT
 obtain⟨aB,ap,aC,aq,aU,ct,cw⟩:=ak.G 3 13
 have aU:cc.eval (.tmp 13)=vv (cleanV u) aB ap aC aq:=aU
 have ar:=aN.new_ aD
 have cx:=aP.new_ aD
 have cy:=cm.new_ aD
 obtain⟨dA,ba,bb,au,aV⟩:=s_many (P:=Tryz.prog) (t:=29) (i:=0) (c7 (cleanV v) az an aA ao) Tryz.sizeOf29 rfl rfl rfl ar lb
 have cz:Blk dA aM 29 (c7 (cleanV v) az an aA ao):=bb
 refine st_act rfl rfl fun d8 cA=>a_store' rfl ce aT ba (cA _ _ trivial ?_)
 have cB:=cq.fr ar au
 have cC:=cr.fr ar au
 have cD:=ct.fr ar au
 have cE:=cw.fr ar au
 have av:=aV _ _ _ (fun h=>hne21 h.symm) cx
 have cF:=aV _ _ _ (fun h=>hne22 h.symm) cy
 have cG:=cp.trans au (fun _ h b=>by subst b; omega)
 obtain⟨dB,bd,be,aw,aW⟩:=s_many (P:=Tryz.prog) (t:=29) (i:=0) (c7 (cleanV u) aB ap aC aq) Tryz.sizeOf29 rfl rfl rfl av lb
 have cH:Blk dB aO 29 (c7 (cleanV u) aB ap aC aq):=be
 refine st_act rfl rfl fun d9 cI=>a_store' rfl cf aU bd (cI _ _ trivial ?_)
 have cJ:=cB.fr av aw
 have cK:=cC.fr av aw
 have cL:=cD.fr av aw
 have cM:=cE.fr av aw
 have cN:=aW _ _ _ (hne21) cz
 have cO:=aW _ _ _ (fun h=>hne23 h.symm) cF
 have cP:=cG.trans aw (fun _ h b=>by subst b; omega)
 refine st_nil (cn _ _ (wp_seq_k fun ea dL=>?_))
 refine wp_seq_k fun eb cQ=>?_
 refine wp_g0 [true] [] 120
   [ve (.string ⟨#[47]⟩)] aS (.eq (.nil)) ?_ ?_
 exact .m (fun k=>k.fx 0 cd) .nil
 refine aftI aS co cP fun ec ed aX cR bf aj ax=>?_
 have dC:=ax.fx 0 cd
 have dD:=ax.fx 4 ce
 have dE:=ax.fx 5 cf
 have dF:=ax.fx 6 dz
 have ch:=ax.ge 0 14 rfl
 have cS:=cN.new_ aj
 have cT:=cH.new_ aj
 have bg:=cO.new_ aj
 have bh:=cJ.new_ aj
 have bi:=cK.new_ aj
 have bj:=cL.new_ aj
 have bk:=cM.new_ aj
 refine st_nil (cQ _ _ ?_)
 refine wp_block ?_
 refine wp_seq_k fun dM bl=>?_
 refine wp_g0 [true,true] [] 120
   [vF,vF] aX (.eq (.eq (.nil))) ?_ ?_
 exact .t (fun _ w hn k=>⟨_,v_bin rfl (k.fx 14 ch) rfl (fun _=>rfl) (r_eqlS (r:=false) (by kernel_rfl)),rfl⟩)<| .a (fun k=>k.eq1 0 16 rfl) .nil
 refine aftI aX cR bf fun dN dO aH bm bn aa af=>?_
 have cU:=af.fx 0 dC
 have cV:=af.fx 4 dD
 have cW:=af.fx 5 dE
 have cX:=af.fx 6 dF
 have aY:=af.fx 14 ch
 have cY:=af.ge 1 15 rfl
 have bo:=cS.new_ aa
 have bp:=cT.new_ aa
 have bq:=bg.new_ aa
 have br:=bh.new_ aa
 have bs:=bi.new_ aa
 have bt:=bj.new_ aa
 have bu:=bk.new_ aa
 refine st_nil (bl _ _ ?_)
 refine wp_cond_false cY ?_
 refine wp_seq_k fun dP bv=>?_
 refine wp_seq_k fun dQ bw=>?_
 refine wp_g0 [true,true] [] 120
   [vF,vF] aH (.eq (.eq (.nil))) ?_ ?_
 exact .t (fun _ w hn k=>⟨_,v_bin rfl (k.fx 14 aY) rfl (fun _=>rfl) (r_eqlS (r:=false) (by kernel_rfl)),rfl⟩)<| .a (fun k=>k.eq1 0 37 rfl) .nil
 refine aftI aH bm bn fun dR dS aI bx bz ab ag=>?_
 have cZ:=ag.fx 0 cU
 have c0:=ag.fx 4 cV
 have c1:=ag.fx 5 cW
 have c3:=ag.fx 6 cX
 have aZ:=ag.fx 14 aY
 have c5:=ag.ge 1 36 rfl
 have bA:=bo.new_ ab
 have bB:=bp.new_ ab
 have bC:=bq.new_ ab
 have bD:=br.new_ ab
 have bE:=bs.new_ ab
 have bF:=bt.new_ ab
 have bG:=bu.new_ ab
 refine st_nil (bw _ _ ?_)
 refine wp_cond_false c5 ?_
 refine wp_seq_k fun dT bH=>?_
 refine wp_g0 [true,true] [] 120
   [vF,vF] aI (.eq (.eq (.nil))) ?_ ?_
 exact .t (fun _ w hn k=>⟨_,v_bin rfl (k.fx 14 aZ) rfl (fun _=>rfl) (r_eqlS (r:=false) (by kernel_rfl)),rfl⟩)<| .a (fun k=>k.eq1 0 38 rfl) .nil
 refine aftI aI bx bz fun dU dV aJ bI bJ ac ah=>?_
 have c9:=ah.fx 0 cZ
 have da:=ah.fx 4 c0
 have db:=ah.fx 5 c1
 have dc:=ah.fx 6 c3
 have a1:=ah.fx 14 aZ
 have dd:=ah.ge 1 36 rfl
 have bK:=bA.new_ ac
 have bL:=bB.new_ ac
 have bM:=bC.new_ ac
 have bN:=bD.new_ ac
 have bO:=bE.new_ ac
 have bP:=bF.new_ ac
 have bQ:=bG.new_ ac
 refine st_nil (bH _ _ ?_)
 refine wp_cond_false dd ?_
 refine wp_seq_k fun dW bR=>?_
 refine wp_g0 [true,true] [] 120
   [vT,vT] aJ (.eq (.eq (.nil))) ?_ ?_
 exact .t (fun _ w hn k=>⟨_,v_bin rfl (k.fx 14 a1) rfl (fun _=>rfl) (r_eqlS (r:=true) (by kernel_rfl)),rfl⟩)<| .a (fun k=>k.eq1 0 39 rfl) .nil
 refine aftI aJ bI bJ fun dX dY aK bS bT ad ai=>?_
 have de:=ai.fx 0 c9
 have df:=ai.fx 4 da
 have dg:=ai.fx 5 db
 have dh:=ai.fx 6 dc
 have dZ:=ai.fx 14 a1
 have a3:=ai.ge 1 36 rfl
 have bU:=bK.new_ ad
 have bV:=bL.new_ ad
 have bW:=bM.new_ ad
 have bX:=bN.new_ ad
 have bY:=bO.new_ ad
 have bZ:=bP.new_ ad
 have b0:=bQ.new_ ad
 refine st_nil (bR _ _ ?_)
 refine wp_cond_true a3 ?_
 refine wp_skip ?_
 refine bv _ _ ?_
 refine wp_cond_true a3 ?_
 refine wp_seq_k fun d0 b1=>?_
 refine wp_g0 [true,true,true,true,true,true,false,false] [(6,false),(7,true)] 120
   [ve (.string ⟨#[47]⟩),ve (vv (cleanV v) az an aA ao),ve (vv (cleanV u) aB ap aC aq),ve (.tuple #[vv (Vl.mk 0 0 0 false [] [] 0) none 0 none 0,iv 3]),ve (vv (Vl.mk 0 0 0 false [] [] 0) none 0 none 0),ve (iv 3),vt,vt] aK (.eq (.eq (.eq (.eq (.eq (.eq (.tt (.tt (.nil))))))))) ?_ ?_
 exact .m (fun k=>k.fx 0 de)<| .t (fun _ w hn k=>⟨_,v_load rfl (k.fx 4 df) (l_agg Tryz.isAgg29 Tryz.sizeOf29 (bU.new_ hn) rfl),rfl⟩)<| .t (fun _ w hn k=>⟨_,v_load rfl (k.fx 5 dg) (l_agg Tryz.isAgg29 Tryz.sizeOf29 (bV.new_ hn) rfl),rfl⟩)<| .o1 (ck rfl rfl rfl (fun _ w hn k=>⟨#[.string ⟨#[47]⟩,vv (cleanV v) az an aA ao,vv (cleanV u) aB ap aC aq],args3 (k.eq1 0 41 rfl) (k.eq1 1 42 rfl) (k.eq1 2 43 rfl),fun _=>by kernel_rfl,sumsD_c (cleanV v) _ _ _ _ (cleanV u) _ _ _ _ _ (bX.new_ hn) (bY.new_ hn) (bZ.new_ hn) (b0.new_ hn) hvv.clean hvu.clean hns hk hX hY⟩) fun _=>rfl)<| .t (fun _ w hn k=>⟨_,v_extract rfl (k.eq1 3 44 rfl) rfl,rfl⟩)<| .t (fun _ w hn k=>⟨_,v_extract rfl (k.eq1 3 44 rfl) rfl,rfl⟩)<| .off<| .off .nil
 refine aftI aK bS bT fun a4 d1 aL b2 b3 b4 ay=>?_
 have a5:=ay.fx 6 dh
 have a6:=ay.ge 4 45 rfl
 have a7:=ay.ge 5 46 rfl
 have b5:=bW.new_ b4
 obtain⟨di,a8,a9,b6,dG⟩:=s_many (P:=Tryz.prog) (t:=29) (i:=0) z7 Tryz.sizeOf29 rfl rfl rfl b5 lb
 have b7:Blk di aQ 29 z7:=a9
 refine st_act rfl rfl fun d2 b8=>a_store' rfl a5 a6 a8 (b8 _ _ trivial ?_)
 have b9:=b3.trans b6 (fun _ h b=>by subst b; omega)
 refine st_take rfl rfl (y_assign (v:=iv 3) rfl a7) rfl ?_
 obtain⟨dj,ae⟩:∃ a',a'=a4.put (some 7) (iv 3):=⟨_,rfl⟩
 have dH:=pz ae aL
 have ca:=pd ae b2
 have dk:=pn ae a5 (by decide)
 have d3:=pn ae a6 (by decide)
 have d4:=pn ae a7 (by decide)
 have dl:dj.eval (.tmp 7)=iv 3:=by rw [ae]; exact put_same _ _ _ (by rw [aL]; decide)
 show stepsTo _ _ _ _ _ (a4.put (some 7) (iv 3)) _
 rw [← ae]
 refine st_nil (b1 _ _ ?_)
 refine wp_ret (ret_k ca (v:=.tuple #[vv (Vl.mk 0 0 0 false [] [] 0) none 0 none 0,iv 3]) (res_ct rfl dk dl (l_agg Tryz.isAgg29 Tryz.sizeOf29 b7 rfl)) ?_)
 exact⟨rfl,b9⟩
theorem binB_c  (v:Vl) (Av:Option Addr) (cv:Nat) (Bv:Option Addr) (dv:Nat) (u:Vl) (Au:Option Addr) (cu:Nat) (Bu:Option Addr) (du:Nat) (w:World) (hmv:SRow w .u32 Av v.mag cv) (hsv:SRow w .u16 Bv v.s dv) (hmu:SRow w .u32 Au u.mag cu) (hsu:SRow w .u16 Bu u.s du) (hvv:VOk v) (hvu:VOk u) (hns:(numericsV (cleanV v) (cleanV u)).2.2=0) (hk:(numericsV (cleanV v) (cleanV u)).1.k=4) (dm:goodI (numericsV (cleanV v) (cleanV u)).2.1.neg (numericsV (cleanV v) (cleanV u)).2.1.mag=0):Calls Tryz.prog 12 #[.string ⟨#[47]⟩,vv v Av cv Bv dv,vv u Au cu Bu du] w (IsRet (.tuple #[vv (Vl.mk 0 0 0 false [] [] 0) none 0 none 0,iv 2]) w):=by
 refine enter_abs Tryz.func12 rfl fun a0 aE dn hp=>?_
 have aE:a0.tmps.size=120:=aE
 have aF:New w w:=Upd.refl _ _
 have hp0:a0.eval (.tmp 0)=.string ⟨#[47]⟩:=hp 0 _ rfl
 have hp1:a0.eval (.tmp 1)=vv v Av cv Bv dv:=hp 1 _ rfl
 have hp2:a0.eval (.tmp 2)=vv u Au cu Bu du:=hp 2 _ rfl
 refine wp_seq_k fun K1 dp=>?_
 refine wp_g [true,true,true,true] [] [] 120
   [IsNew w 29 (c7 v Av cv Bv dv),IsNew w 29 (c7 u Au cu Bu du),IsNew w 29 z7,ve (iv 0)]
   [0,1,2] (newsCons (fun v w h=>IsNew.old h) (newsCons (fun v w h=>IsNew.old h) (newsCons (fun v w h=>IsNew.old h) newsNil))) aE (.nw (.nw (.nw (.eq (.nil))))) ?_ (fun i h=>by cases h) ?_
 exact .o2 (step_allocN (cs:=(c7 v Av cv Bv dv)) (t:=29) rfl (noG rfl) (fun _ w hn k=>v_box rfl (k.fx 1 hp1) (fun w=>rfl)) (fun q _ hq hb=>⟨q,rfl,hq,hb⟩))<| .o2 (step_allocN (cs:=(c7 u Au cu Bu du)) (t:=29) rfl (noG rfl) (fun _ w hn k=>v_box rfl (k.fx 2 hp2) (fun w=>rfl)) (fun q _ hq hb=>⟨q,rfl,hq,hb⟩))<| .o2 (step_allocN (cs:=z7) (t:=29) rfl (noG rfl) (fun _ w hn k=>rfl) (fun q _ hq hb=>⟨q,rfl,hq,hb⟩))<| .t (fun _ w hn k=>⟨_,v_assign rfl rfl,rfl⟩) .nil
 refine aftI aE dn aF fun a2 w3 cb dq al d6 am=>?_
 have h8:=am.fx 0 hp0
 obtain⟨aM,h9,ci,aN⟩:=am.G 0 4
 obtain⟨aO,aG,cj,aP⟩:=am.G 1 5
 obtain⟨aQ,aR,cl,cm⟩:=am.G 2 6
 have hne21:aM ≠ aO:=am.ne 0 1 4 5 h9 aG
 have hne22:aM ≠ aQ:=am.ne 0 2 4 6 h9 aR
 have hne23:aO ≠ aQ:=am.ne 1 2 5 6 aG aR
 have dJ:=Nat.le_trans aF.size ci
 have dK:=Nat.le_trans aF.size cj
 have dL:=Nat.le_trans aF.size cl
 refine st_nil (dp _ _ (wp_seq_k fun d7 cn=>?_))
 refine wp_g0 [true,true,true,true,false,false] [(4,false),(5,false)] 120
   [ve (vv v Av cv Bv dv),
    (VP (cleanV v)),ve (vv u Au cu Bu du),
    (VP (cleanV u)),vt,vt] cb (.eq (.cons (fun _ _ _ n ⟨_,_,_,_,e,h,i⟩=>⟨_,_,_,_,e,h.new_ n,i.new_ n⟩) (.eq (.cons (fun _ _ _ n ⟨_,_,_,_,e,h,i⟩=>⟨_,_,_,_,e,h.new_ n,i.new_ n⟩) (.tt (.tt (.nil))))))) ?_ ?_
 refine .t (fun _ w hn k=>⟨_,v_load rfl (k.fx 4 h9) (l_agg Tryz.isAgg29 Tryz.sizeOf29 (aN.new_ hn) rfl),rfl⟩) ?_
 refine .o1 (tkC rfl (noG rfl) rfl fun _ w hn k=>(by
       refine ⟨#[vv v Av cv Bv dv],_,args1 (k.eq1 0 10 rfl),fun w=>by kernel_rfl,clean_c v _ _ _ _ _ (hmv.new_ (al.transNew hn)) (hsv.new_ (al.transNew hn)),?_⟩
       rintro e w' ⟨A1,c2,A3,c4,rfl,hmo0,hmo1,hm⟩
       exact⟨_,rfl,hm,⟨A1,c2,A3,c4,rfl,hmo0,hmo1⟩⟩)) ?_
 refine .t (fun _ w hn k=>⟨_,v_load rfl (k.fx 5 aG) (l_agg Tryz.isAgg29 Tryz.sizeOf29 (aP.new_ hn) rfl),rfl⟩) ?_
 refine .o1 (tkC rfl (noG rfl) rfl fun _ w hn k=>(by
       refine ⟨#[vv u Au cu Bu du],_,args1 (k.eq1 2 12 rfl),fun w=>by kernel_rfl,clean_c u _ _ _ _ _ (hmu.new_ (al.transNew hn)) (hsu.new_ (al.transNew hn)),?_⟩
       rintro e w' ⟨A9,dx,dy,dz,rfl,hmo0,hmo1,hm⟩
       exact⟨_,rfl,hm,⟨A9,dx,dy,dz,rfl,hmo0,hmo1⟩⟩)) ?_
 exact .off<| .off .nil
 refine aftI cb dq al fun cc d8 aS co cp aD ak=>?_
 have cd:=ak.fx 0 h8
 have ce:=ak.fx 4 h9
 have cf:=ak.fx 5 aG
 have dA:=ak.fx 6 aR
 obtain⟨az,an,aA,ao,aT,cq,cr⟩:=ak.G 1 11
 have aT:cc.eval (.tmp 11)=vv (cleanV v) az an aA ao:=aT
 obtain⟨aB,ap,aC,aq,aU,ct,cw⟩:=ak.G 3 13
 have aU:cc.eval (.tmp 13)=vv (cleanV u) aB ap aC aq:=aU
 have ar:=aN.new_ aD
 have cx:=aP.new_ aD
 have cy:=cm.new_ aD
 obtain⟨dB,ba,bb,au,aV⟩:=s_many (P:=Tryz.prog) (t:=29) (i:=0) (c7 (cleanV v) az an aA ao) Tryz.sizeOf29 rfl rfl rfl ar lb
 have cz:Blk dB aM 29 (c7 (cleanV v) az an aA ao):=bb
 refine st_act rfl rfl fun d9 cA=>a_store' rfl ce aT ba (cA _ _ trivial ?_)
 have cB:=cq.fr ar au
 have cC:=cr.fr ar au
 have cD:=ct.fr ar au
 have cE:=cw.fr ar au
 have av:=aV _ _ _ (fun h=>hne21 h.symm) cx
 have cF:=aV _ _ _ (fun h=>hne22 h.symm) cy
 have cG:=cp.trans au (fun _ h b=>by subst b; omega)
 obtain⟨dC,bd,be,aw,aW⟩:=s_many (P:=Tryz.prog) (t:=29) (i:=0) (c7 (cleanV u) aB ap aC aq) Tryz.sizeOf29 rfl rfl rfl av lb
 have cH:Blk dC aO 29 (c7 (cleanV u) aB ap aC aq):=be
 refine st_act rfl rfl fun ea cI=>a_store' rfl cf aU bd (cI _ _ trivial ?_)
 have cJ:=cB.fr av aw
 have cK:=cC.fr av aw
 have cL:=cD.fr av aw
 have cM:=cE.fr av aw
 have cN:=aW _ _ _ (hne21) cz
 have cO:=aW _ _ _ (fun h=>hne23 h.symm) cF
 have cP:=cG.trans aw (fun _ h b=>by subst b; omega)
 refine st_nil (cn _ _ (wp_seq_k fun eb dM=>?_))
 refine wp_seq_k fun ec cQ=>?_
 refine wp_g0 [true] [] 120
   [ve (.string ⟨#[47]⟩)] aS (.eq (.nil)) ?_ ?_
 exact .m (fun k=>k.fx 0 cd) .nil
 refine aftI aS co cP fun ed ee aX cR bf aj ax=>?_
 have dD:=ax.fx 0 cd
 have dE:=ax.fx 4 ce
 have dF:=ax.fx 5 cf
 have dG:=ax.fx 6 dA
 have ch:=ax.ge 0 14 rfl
 have cS:=cN.new_ aj
 have cT:=cH.new_ aj
 have bg:=cO.new_ aj
 have bh:=cJ.new_ aj
 have bi:=cK.new_ aj
 have bj:=cL.new_ aj
 have bk:=cM.new_ aj
 refine st_nil (cQ _ _ ?_)
 refine wp_block ?_
 refine wp_seq_k fun dN bl=>?_
 refine wp_g0 [true,true] [] 120
   [vF,vF] aX (.eq (.eq (.nil))) ?_ ?_
 exact .t (fun _ w hn k=>⟨_,v_bin rfl (k.fx 14 ch) rfl (fun _=>rfl) (r_eqlS (r:=false) (by kernel_rfl)),rfl⟩)<| .a (fun k=>k.eq1 0 16 rfl) .nil
 refine aftI aX cR bf fun dO dP aH bm bn aa af=>?_
 have cU:=af.fx 0 dD
 have cV:=af.fx 4 dE
 have cW:=af.fx 5 dF
 have cX:=af.fx 6 dG
 have aY:=af.fx 14 ch
 have cY:=af.ge 1 15 rfl
 have bo:=cS.new_ aa
 have bp:=cT.new_ aa
 have bq:=bg.new_ aa
 have br:=bh.new_ aa
 have bs:=bi.new_ aa
 have bt:=bj.new_ aa
 have bu:=bk.new_ aa
 refine st_nil (bl _ _ ?_)
 refine wp_cond_false cY ?_
 refine wp_seq_k fun dQ bv=>?_
 refine wp_seq_k fun dR bw=>?_
 refine wp_g0 [true,true] [] 120
   [vF,vF] aH (.eq (.eq (.nil))) ?_ ?_
 exact .t (fun _ w hn k=>⟨_,v_bin rfl (k.fx 14 aY) rfl (fun _=>rfl) (r_eqlS (r:=false) (by kernel_rfl)),rfl⟩)<| .a (fun k=>k.eq1 0 37 rfl) .nil
 refine aftI aH bm bn fun dS dT aI bx bz ab ag=>?_
 have cZ:=ag.fx 0 cU
 have c0:=ag.fx 4 cV
 have c1:=ag.fx 5 cW
 have c3:=ag.fx 6 cX
 have aZ:=ag.fx 14 aY
 have c5:=ag.ge 1 36 rfl
 have bA:=bo.new_ ab
 have bB:=bp.new_ ab
 have bC:=bq.new_ ab
 have bD:=br.new_ ab
 have bE:=bs.new_ ab
 have bF:=bt.new_ ab
 have bG:=bu.new_ ab
 refine st_nil (bw _ _ ?_)
 refine wp_cond_false c5 ?_
 refine wp_seq_k fun dU bH=>?_
 refine wp_g0 [true,true] [] 120
   [vF,vF] aI (.eq (.eq (.nil))) ?_ ?_
 exact .t (fun _ w hn k=>⟨_,v_bin rfl (k.fx 14 aZ) rfl (fun _=>rfl) (r_eqlS (r:=false) (by kernel_rfl)),rfl⟩)<| .a (fun k=>k.eq1 0 38 rfl) .nil
 refine aftI aI bx bz fun dV dW aJ bI bJ ac ah=>?_
 have c9:=ah.fx 0 cZ
 have da:=ah.fx 4 c0
 have db:=ah.fx 5 c1
 have dc:=ah.fx 6 c3
 have a1:=ah.fx 14 aZ
 have dd:=ah.ge 1 36 rfl
 have bK:=bA.new_ ac
 have bL:=bB.new_ ac
 have bM:=bC.new_ ac
 have bN:=bD.new_ ac
 have bO:=bE.new_ ac
 have bP:=bF.new_ ac
 have bQ:=bG.new_ ac
 refine st_nil (bH _ _ ?_)
 refine wp_cond_false dd ?_
 refine wp_seq_k fun dX bR=>?_
 refine wp_g0 [true,true] [] 120
   [vT,vT] aJ (.eq (.eq (.nil))) ?_ ?_
 exact .t (fun _ w hn k=>⟨_,v_bin rfl (k.fx 14 a1) rfl (fun _=>rfl) (r_eqlS (r:=true) (by kernel_rfl)),rfl⟩)<| .a (fun k=>k.eq1 0 39 rfl) .nil
 refine aftI aJ bI bJ fun dY dZ aK bS bT ad ai=>?_
 have de:=ai.fx 0 c9
 have df:=ai.fx 4 da
 have dg:=ai.fx 5 db
 have dh:=ai.fx 6 dc
 have d0:=ai.fx 14 a1
 have a3:=ai.ge 1 36 rfl
 have bU:=bK.new_ ad
 have bV:=bL.new_ ad
 have bW:=bM.new_ ad
 have bX:=bN.new_ ad
 have bY:=bO.new_ ad
 have bZ:=bP.new_ ad
 have b0:=bQ.new_ ad
 refine st_nil (bR _ _ ?_)
 refine wp_cond_true a3 ?_
 refine wp_skip ?_
 refine bv _ _ ?_
 refine wp_cond_true a3 ?_
 refine wp_seq_k fun d1 b1=>?_
 refine wp_g0 [true,true,true,true,true,true,false,false] [(6,false),(7,true)] 120
   [ve (.string ⟨#[47]⟩),ve (vv (cleanV v) az an aA ao),ve (vv (cleanV u) aB ap aC aq),ve (.tuple #[vv (Vl.mk 0 0 0 false [] [] 0) none 0 none 0,iv 2]),ve (vv (Vl.mk 0 0 0 false [] [] 0) none 0 none 0),ve (iv 2),vt,vt] aK (.eq (.eq (.eq (.eq (.eq (.eq (.tt (.tt (.nil))))))))) ?_ ?_
 exact .m (fun k=>k.fx 0 de)<| .t (fun _ w hn k=>⟨_,v_load rfl (k.fx 4 df) (l_agg Tryz.isAgg29 Tryz.sizeOf29 (bU.new_ hn) rfl),rfl⟩)<| .t (fun _ w hn k=>⟨_,v_load rfl (k.fx 5 dg) (l_agg Tryz.isAgg29 Tryz.sizeOf29 (bV.new_ hn) rfl),rfl⟩)<| .o1 (ck rfl rfl rfl (fun _ w hn k=>⟨#[.string ⟨#[47]⟩,vv (cleanV v) az an aA ao,vv (cleanV u) aB ap aC aq],args3 (k.eq1 0 41 rfl) (k.eq1 1 42 rfl) (k.eq1 2 43 rfl),fun _=>by kernel_rfl,sumsB_c (cleanV v) _ _ _ _ (cleanV u) _ _ _ _ _ (bX.new_ hn) (bY.new_ hn) (bZ.new_ hn) (b0.new_ hn) hvv.clean hvu.clean hns hk dm⟩) fun _=>rfl)<| .t (fun _ w hn k=>⟨_,v_extract rfl (k.eq1 3 44 rfl) rfl,rfl⟩)<| .t (fun _ w hn k=>⟨_,v_extract rfl (k.eq1 3 44 rfl) rfl,rfl⟩)<| .off<| .off .nil
 refine aftI aK bS bT fun a4 d2 aL b2 b3 b4 ay=>?_
 have a5:=ay.fx 6 dh
 have a6:=ay.ge 4 45 rfl
 have a7:=ay.ge 5 46 rfl
 have b5:=bW.new_ b4
 obtain⟨di,a8,a9,b6,dH⟩:=s_many (P:=Tryz.prog) (t:=29) (i:=0) z7 Tryz.sizeOf29 rfl rfl rfl b5 lb
 have b7:Blk di aQ 29 z7:=a9
 refine st_act rfl rfl fun d3 b8=>a_store' rfl a5 a6 a8 (b8 _ _ trivial ?_)
 have b9:=b3.trans b6 (fun _ h b=>by subst b; omega)
 refine st_take rfl rfl (y_assign (v:=iv 2) rfl a7) rfl ?_
 obtain⟨dj,ae⟩:∃ a',a'=a4.put (some 7) (iv 2):=⟨_,rfl⟩
 have dI:=pz ae aL
 have ca:=pd ae b2
 have dk:=pn ae a5 (by decide)
 have d4:=pn ae a6 (by decide)
 have d5:=pn ae a7 (by decide)
 have dl:dj.eval (.tmp 7)=iv 2:=by rw [ae]; exact put_same _ _ _ (by rw [aL]; decide)
 show stepsTo _ _ _ _ _ (a4.put (some 7) (iv 2)) _
 rw [← ae]
 refine st_nil (b1 _ _ ?_)
 refine wp_ret (ret_k ca (v:=.tuple #[vv (Vl.mk 0 0 0 false [] [] 0) none 0 none 0,iv 2]) (res_ct rfl dk dl (l_agg Tryz.isAgg29 Tryz.sizeOf29 b7 rfl)) ?_)
 exact⟨rfl,b9⟩
theorem beside_c (a:Bool) (Aa:Option Addr) (ma:List Nat) (ca:Nat) (x:Nm) (w:World) (hra:SRow w .u32 Aa ma ca) (ha:Limbs ma) (hs:ma.length≤1000000) (hlo:-9223372036854775808≤x.n) (hhi:x.n≤9223372036854775807):Calls Tryz.prog 153 #[.agg #[.bool a,sv Aa ma ca],nv x] w (IsRet (.tuple #[iv ((besideO a ma x).1),.bool ((besideO a ma x).2)]) w):=by
 refine enter_abs Tryz.func153 rfl fun a0 al bz hp=>?_
 have al:a0.tmps.size=19:=al
 have ao:New w w:=Upd.refl _ _
 have hp0:a0.eval (.tmp 0)=.agg #[.bool a,sv Aa ma ca]:=hp 0 _ rfl
 have hp1:a0.eval (.tmp 1)=nv x:=hp 1 _ rfl
 have hnl:(canon x.n.natAbs).length≤8:=(canon_len8 _).2 (by omega)
 refine wp_seq_k fun K1 bA=>?_
 refine wp_g [true,true,true,true] [] [] 19
   [IsNew w 26 [.bool a,sv Aa ma ca],IsNew w 23 [iv x.k,iv x.n],ve (iv 0),vF]
   [0,1] (newsCons (fun v w h=>IsNew.old h) (newsCons (fun v w h=>IsNew.old h) newsNil)) al (.nw (.nw (.eq (.eq (.nil))))) ?_ (fun i h=>by cases h) ?_
 exact .o2 (step_allocN (cs:=[.bool a,sv Aa ma ca]) (t:=26) rfl (noG rfl) (fun _ w hn k=>v_box rfl (k.fx 0 hp0) (fun w=>rfl)) (fun q _ hq hb=>⟨q,rfl,hq,hb⟩))<| .o2 (step_allocN (cs:=[iv x.k,iv x.n]) (t:=23) rfl (noG rfl) (fun _ w hn k=>v_box rfl (k.fx 1 hp1) (fun w=>rfl)) (fun q _ hq hb=>⟨q,rfl,hq,hb⟩))<| .t (fun _ w hn k=>⟨_,v_assign rfl rfl,rfl⟩)<| .t (fun _ w hn k=>⟨_,v_assign rfl rfl,rfl⟩) .nil
 refine aftI al bz ao fun a2 w3 aP bB aY b6 aQ=>?_
 obtain⟨q9,h8,aZ,a1⟩:=aQ.G 0 2
 obtain⟨aR,aS,a3,ap⟩:=aQ.G 1 3
 have bU:=Nat.le_trans ao.size aZ
 have bV:=Nat.le_trans ao.size a3
 refine st_nil (bA _ _ (wp_seq_k fun b7 a4=>?_))
 refine wp_seq_k fun b8 a5=>?_
 refine wp_g0 [true,true] [] 19
   [ve (pv aR),ve (iv x.k)] aP (.eq (.eq (.nil))) ?_ ?_
 exact .f (fun k=>k.fx 3 aS)<| .t (fun _ w hn k=>⟨_,v_load rfl (k.eq1 0 6 rfl) (l_one Tryz.isAgg3 ((ap.new_ hn).cell 0)),rfl⟩) .nil
 refine aftI aP bB aY fun b9 cb aq a6 a7 ar ai=>?_
 have bC:=ai.fx 2 h8
 have bD:=ai.fx 3 aS
 have aT:=ai.ge 1 7 rfl
 have a8:=a1.new_ ar
 have a9:=ap.new_ ar
 refine st_nil (a5 _ _ ?_)
 refine wp_block ?_
 refine wp_seq_k fun cc ba=>?_
 refine wp_g0 [true,true] [] 19
   [ve (.bool (decide (x.k=2))),ve (.bool (decide (x.k=2)))] aq (.eq (.eq (.nil))) ?_ ?_
 exact .t (fun _ w hn k=>⟨_,v_bin rfl (k.fx 7 aT) rfl (fun _=>rfl) (r_eql rfl),rfl⟩)<| .a (fun k=>k.eq1 0 9 rfl) .nil
 refine aftI aq a6 a7 fun cd ce ad au av aw ae=>?_
 have bE:=ae.fx 2 bC
 have bF:=ae.fx 3 bD
 have aU:=ae.fx 7 aT
 have aV:=ae.ge 1 8 rfl
 have bb:=a8.new_ aw
 have bd:=a9.new_ aw
 refine st_nil (ba _ _ ?_)
 rcases bc (decide (x.k=2)) with aa|aa
 have aF:=oT aa
 have be:=hB aV aa
 refine wp_cond_true be ?_
 refine wp_seq_k fun cf bf=>?_
 refine wp_g0 [true,true] [] 19
   [ve (iv 0),vF] ad (.eq (.eq (.nil))) ?_ ?_
 exact .t (fun _ w hn k=>⟨_,v_assign rfl rfl,rfl⟩)<| .t (fun _ w hn k=>⟨_,v_assign rfl rfl,rfl⟩) .nil
 refine aftI ad au av fun ch ci bW bg bh bX ax=>?_
 have bG:=ax.ge 0 4 rfl
 have bH:=ax.ge 1 5 rfl
 refine st_nil (bf _ _ ?_)
 refine wp_ret (ret_k bg (v:=.tuple #[iv 0,.bool false]) (res_tt rfl bG bH _) ?_)
 refine ⟨?_,bh⟩
 show Ending.returned (.tuple #[iv 0,.bool false])=Ending.returned (.tuple #[iv ((besideO a ma x).1),.bool ((besideO a ma x).2)])
 first|rfl|(simp only [besideO,aa,good_canon (z:=x.n) (by omega),bsm] <;> rfl)|(exfalso; omega)
 have aF:=oF aa
 have bi:=hB aV aa
 refine wp_cond_false bi ?_
 refine wp_seq_k fun cj bj=>?_
 refine wp_g0 [true,true] [] 19
   [ve (.bool (decide (x.k=3))),ve (.bool (decide (x.k=3)))] ad (.eq (.eq (.nil))) ?_ ?_
 exact .t (fun _ w hn k=>⟨_,v_bin rfl (k.fx 7 aU) rfl (fun _=>rfl) (r_eql rfl),rfl⟩)<| .a (fun k=>k.eq1 0 11 rfl) .nil
 refine aftI ad au av fun cl cm af ay az aA ag=>?_
 have bI:=ag.fx 2 bE
 have bJ:=ag.fx 3 bF
 have bK:=ag.fx 7 aU
 have aW:=ag.ge 1 10 rfl
 have bk:=bb.new_ aA
 have bl:=bd.new_ aA
 refine st_nil (bj _ _ ?_)
 rcases bc (decide (x.k=3)) with ac|ac
 have aG:=oT ac
 have bm:=hB aW ac
 refine wp_cond_true bm ?_
 refine wp_seq_k fun cn bn=>?_
 refine wp_g0 [true,true] [] 19
   [ve (iv (-1)),vT] af (.eq (.eq (.nil))) ?_ ?_
 exact .t (fun _ w hn k=>⟨_,v_assign rfl rfl,rfl⟩)<| .t (fun _ w hn k=>⟨_,v_assign rfl rfl,rfl⟩) .nil
 refine aftI af ay az fun co cp bY bo bp bZ aB=>?_
 have bL:=aB.ge 0 4 rfl
 have bM:=aB.ge 1 5 rfl
 refine st_nil (bn _ _ ?_)
 refine wp_ret (ret_k bo (v:=.tuple #[iv (-1),.bool true]) (res_tt rfl bL bM _) ?_)
 refine ⟨?_,bp⟩
 show Ending.returned (.tuple #[iv (-1),.bool true])=Ending.returned (.tuple #[iv ((besideO a ma x).1),.bool ((besideO a ma x).2)])
 first|rfl|(simp only [besideO,aa,ac,good_canon (z:=x.n) (by omega),bsm] <;> rfl)|(exfalso; omega)
 have aG:=oF ac
 have bq:=hB aW ac
 refine wp_cond_false bq ?_
 refine wp_seq_k fun cq br=>?_
 refine wp_g0 [true,true] [] 19
   [ve (.bool (decide (x.k=4))),ve (.bool (decide (x.k=4)))] af (.eq (.eq (.nil))) ?_ ?_
 exact .t (fun _ w hn k=>⟨_,v_bin rfl (k.fx 7 bK) rfl (fun _=>rfl) (r_eql rfl),rfl⟩)<| .a (fun k=>k.eq1 0 13 rfl) .nil
 refine aftI af ay az fun cr ct ah aC aj aD ak=>?_
 have bN:=ak.fx 2 bI
 have bO:=ak.fx 3 bJ
 have aX:=ak.ge 1 12 rfl
 have bs:=bk.new_ aD
 have bt:=bl.new_ aD
 refine st_nil (br _ _ ?_)
 rcases bc (decide (x.k=4)) with ab|ab
 have aE:=oT ab
 have aH:=hB aX ab
 refine wp_cond_true aH ?_
 refine wp_seq_k fun b0 aI=>?_
 refine wp_g0 [true,true] [] 19
   [ve (iv 1),vT] ah (.eq (.eq (.nil))) ?_ ?_
 exact .t (fun _ w hn k=>⟨_,v_assign rfl rfl,rfl⟩)<| .t (fun _ w hn k=>⟨_,v_assign rfl rfl,rfl⟩) .nil
 refine aftI ah aC aj fun b1 b2 bQ aJ aK bR am=>?_
 have bu:=am.ge 0 4 rfl
 have bv:=am.ge 1 5 rfl
 refine st_nil (aI _ _ ?_)
 refine wp_ret (ret_k aJ (v:=.tuple #[iv 1,.bool true]) (res_tt rfl bu bv _) ?_)
 refine ⟨?_,aK⟩
 show Ending.returned (.tuple #[iv 1,.bool true])=Ending.returned (.tuple #[iv ((besideO a ma x).1),.bool ((besideO a ma x).2)])
 first|rfl|(simp only [besideO,aa,ac,ab,good_canon (z:=x.n) (by omega),bsm] <;> rfl)|(exfalso; omega)
 have aE:=oF ab
 have aL:=hB aX ab
 refine wp_cond_false aL ?_
 refine wp_skip ?_
 refine a4 _ _ ?_
 refine wp_seq_k fun b3 aM=>?_
 refine wp_g0 [true,true,true,true,true,true,true] [] 19
   [ve (.agg #[.bool a,sv Aa ma ca]),ve (.pointer (some ⟨aR,1,none⟩)),ve (iv x.n),(fun (v_:Value) (W:World)=>∃ (A3:Option Addr) (c4:Nat),v_=.agg #[.bool (decide (x.n < 0)),sv A3 (canon (x.n).natAbs) c4]∧SRow W .u32 A3 (canon (x.n).natAbs) c4),ve (iv (cmpZ (goodI a ma) (goodI (decide (x.n < 0)) (canon (x.n).natAbs)))),ve (iv (cmpZ (goodI a ma) (goodI (decide (x.n < 0)) (canon (x.n).natAbs)))),vT] ah (.eq (.eq (.eq (.cons (fun _ _ _ n ⟨_,_,e,h⟩=>⟨_,_,e,h.new_ n⟩) (.eq (.eq (.eq (.nil)))))))) ?_ ?_
 refine .t (fun _ w hn k=>⟨_,v_load rfl (k.fx 2 bN) (l_two Tryz.isAgg26 Tryz.sizeOf26 (bs.new_ hn)),rfl⟩)<| .f (fun k=>k.fx 3 bO)<| .t (fun _ w hn k=>⟨_,v_load rfl (k.eq1 1 15 rfl) (l_one Tryz.isAgg3 ((bt.new_ hn).cell 1)),rfl⟩) ?_
 refine .o1 (tkC rfl (noG rfl) rfl fun _ w hn k=>(by
       refine ⟨#[iv x.n],_,args1 (k.eq1 2 16 rfl),fun w=>by kernel_rfl,bOf_c x.n _ (by omega) (by omega),?_⟩
       rintro e w' ⟨A1,c2,rfl,hmo0,hm⟩
       exact⟨_,rfl,hm,⟨A1,c2,rfl,hmo0⟩⟩)) ?_
 refine .o1 (tkC rfl (noG rfl) rfl fun _ w hn k=>(by
       obtain⟨A5,c6,e7,bP⟩:(fun (v_:Value) (W:World)=>∃ (A3:Option Addr) (c4:Nat),v_=.agg #[.bool (decide (x.n < 0)),sv A3 (canon (x.n).natAbs) c4]∧SRow W .u32 A3 (canon (x.n).natAbs) c4) _ _:=k.dep 3 17 (by kernel_rfl) (by kernel_rfl)
       refine ⟨#[.agg #[.bool a,sv Aa ma ca],.agg #[.bool (decide (x.n < 0)),sv A5 (canon (x.n).natAbs) c6]],_,args2 (k.eq1 0 14 rfl) e7,fun w=>by kernel_rfl,bCmp_c a _ ma _ (decide (x.n < 0)) _ (canon (x.n).natAbs) _ _ (hra.new_ (aj.transNew hn)) bP ha (limbs_canon _) (by first|omega|(simp only [List.length_nil,List.length_take,List.length_drop]; omega)|(simp only [List.length_cons,List.length_nil]; omega)) (by first|omega|(simp only [List.length_nil,List.length_take,List.length_drop]; omega)|(simp only [List.length_cons,List.length_nil]; omega)),?_⟩
       rintro e w' ⟨rfl,hm⟩
       exact⟨_,rfl,hm,rfl⟩)) ?_
 exact .a (fun k=>k.eq1 4 18 rfl)<| .t (fun _ w hn k=>⟨_,v_assign rfl rfl,rfl⟩) .nil
 refine aftI ah aC aj fun b4 b5 bS aN aO bT an=>?_
 have bw:=an.ge 5 4 rfl
 have bx:=an.ge 6 5 rfl
 refine st_nil (aM _ _ ?_)
 refine wp_ret (ret_k aN (v:=.tuple #[iv (cmpZ (goodI a ma) (goodI (decide (x.n < 0)) (canon (x.n).natAbs))),.bool true]) (res_tt rfl bw bx _) ?_)
 refine ⟨?_,aO⟩
 show Ending.returned (.tuple #[iv (cmpZ (goodI a ma) (goodI (decide (x.n < 0)) (canon (x.n).natAbs))),.bool true])=Ending.returned (.tuple #[iv ((besideO a ma x).1),.bool ((besideO a ma x).2)])
 first|rfl|(simp only [besideO,aa,ac,ab,good_canon (z:=x.n) (by omega),bsm] <;> rfl)|(exfalso; omega)
theorem orderB_c (v:Vl) (Av:Option Addr) (cv:Nat) (Bv:Option Addr) (dv:Nat) (u:Vl) (Au:Option Addr) (cu:Nat) (Bu:Option Addr) (du:Nat) (w:World) (hmv:SRow w .u32 Av v.mag cv) (hsv:SRow w .u16 Bv v.s dv) (hmu:SRow w .u32 Au u.mag cu) (hsu:SRow w .u16 Bu u.s du) (hvv:VOk v) (hvu:VOk u) (hk1:v.k=4) (hk2:u.k=3):Calls Tryz.prog 81 #[vv v Av cv Bv dv,vv u Au cu Bu du] w (IsRet (.tuple #[iv ((besideO v.neg v.mag (Nm.mk u.nk u.nn)).1),.bool ((besideO v.neg v.mag (Nm.mk u.nk u.nn)).2)]) w):=by
 refine enter_abs Tryz.func81 rfl fun a0 ad aN hp=>?_
 have ad:a0.tmps.size=65:=ad
 have ae:New w w:=Upd.refl _ _
 have hp0:a0.eval (.tmp 0)=vv v Av cv Bv dv:=hp 0 _ rfl
 have hp1:a0.eval (.tmp 1)=vv u Au cu Bu du:=hp 1 _ rfl
 have a6:=hvv.mlen
 have a7:=hvu.nlo
 have a8:=hvu.nhi
 refine wp_seq_k fun K1 aO=>?_
 refine wp_g [true,true,true,true] [] [] 65
   [IsNew w 29 (c7 v Av cv Bv dv),IsNew w 29 (c7 u Au cu Bu du),ve (iv 0),vF]
   [0,1] (newsCons (fun v w h=>IsNew.old h) (newsCons (fun v w h=>IsNew.old h) newsNil)) ad (.nw (.nw (.eq (.eq (.nil))))) ?_ (fun i h=>by cases h) ?_
 exact .o2 (step_allocN (cs:=(c7 v Av cv Bv dv)) (t:=29) rfl (noG rfl) (fun _ w hn k=>v_box rfl (k.fx 0 hp0) (fun w=>rfl)) (fun q _ hq hb=>⟨q,rfl,hq,hb⟩))<| .o2 (step_allocN (cs:=(c7 u Au cu Bu du)) (t:=29) rfl (noG rfl) (fun _ w hn k=>v_box rfl (k.fx 1 hp1) (fun w=>rfl)) (fun q _ hq hb=>⟨q,rfl,hq,hb⟩))<| .t (fun _ w hn k=>⟨_,v_assign rfl rfl,rfl⟩)<| .t (fun _ w hn k=>⟨_,v_assign rfl rfl,rfl⟩) .nil
 refine aftI ad aN ae fun a2 w3 ap aP aw a9 aq=>?_
 obtain⟨q9,h8,ax,af⟩:=aq.G 0 2
 obtain⟨ar,au,ay,ag⟩:=aq.G 1 3
 have aZ:=Nat.le_trans ae.size ax
 have a1:=Nat.le_trans ae.size ay
 refine st_nil (aO _ _ (wp_seq_k fun ba a3=>?_))
 refine wp_block ?_
 refine wp_seq_k fun bb az=>?_
 refine wp_g0 (.replicate 9 true) [] 65
   [ve (pv q9),ve (iv v.k),ve (.bool (decide (v.k=4))),ve (.bool (decide (v.k=4))),ve (gq (decide (v.k=4)) (pv ar)),ve (gq (decide (v.k=4)) (iv u.k)),ve (gq (decide (v.k=4)) (.bool (decide (u.k=4)))),ve (.bool ((decide (v.k=4)) && (decide (u.k=4)))),ve (.bool ((decide (v.k=4)) && (decide (u.k=4))))] ap (.eq (.eq (.eq (.eq (.eq (.eq (.eq (.eq (.eq (.nil)))))))))) ?_ ?_
 exact .f (fun k=>k.fx 2 h8)<| .t (fun _ w hn k=>⟨_,v_load rfl (k.eq1 0 9 rfl) (l_one Tryz.isAgg3 ((af.new_ hn).cell 0)),rfl⟩)<| .t (fun _ w hn k=>⟨_,v_bin rfl (k.eq1 1 10 rfl) rfl (fun _=>rfl) (r_eql rfl),rfl⟩)<| .m (fun k=>k.eq1 2 11 rfl)<| .o1 (sc (G:=(decide (v.k=4))) rfl rfl rfl (fun _ _ k=>g0 (k.eq1 3 12 rfl)) (fun hG _ w hn k=>v_field rfl (k.fx 3 au) (fun w=>rfl)))<| .o1 (sc (G:=(decide (v.k=4))) rfl rfl rfl (fun _ _ k=>g0 (k.eq1 3 12 rfl)) (fun hG _ w hn k=>v_load rfl (cT hG (k.eq1 4 13 rfl)) (l_one Tryz.isAgg3 ((ag.new_ hn).cell 0))))<| .o1 (sc (G:=(decide (v.k=4))) rfl rfl rfl (fun _ _ k=>g0 (k.eq1 3 12 rfl)) (fun hG _ w hn k=>v_bin rfl (cT hG (k.eq1 5 14 rfl)) rfl (fun _=>rfl) (r_eql rfl)))<| .t (fun _ w hn k=>⟨_,v_and rfl (k.eq1 3 12 rfl) (fun hg=>(cT hg (k.eq1 6 15 rfl))) rfl,rfl⟩)<| .a (fun k=>k.eq1 7 16 rfl) .nil
 refine aftI ap aP aw fun bd be ah aA aB ai aa=>?_
 have av:=aa.fx 2 h8
 have aQ:=aa.fx 3 au
 have aR:=aa.ge 8 8 rfl
 have aj:=af.new_ ai
 have aC:=ag.new_ ai
 refine st_nil (az _ _ ?_)
 have ak:(((decide (v.k=4)) && (decide (u.k=4))))=false:=(by rw [show ((decide (v.k=4)))=true from decide_eq_true (hk1),show ((decide (u.k=4)))=false from decide_eq_false (by omega)]; rfl)
 have aD:=hB aR ak
 refine wp_cond_false aD ?_
 refine wp_seq_k fun bf aE=>?_
 refine wp_g0 [true,true,true,true] [] 65
   [ve (pv q9),ve (iv v.k),ve (.bool (decide (v.k=4))),ve (.bool (decide (v.k=4)))] ah (.eq (.eq (.eq (.eq (.nil))))) ?_ ?_
 exact .f (fun k=>k.fx 2 av)<| .t (fun _ w hn k=>⟨_,v_load rfl (k.eq1 0 23 rfl) (l_one Tryz.isAgg3 ((aj.new_ hn).cell 0)),rfl⟩)<| .t (fun _ w hn k=>⟨_,v_bin rfl (k.eq1 1 24 rfl) rfl (fun _=>rfl) (r_eql rfl),rfl⟩)<| .a (fun k=>k.eq1 2 25 rfl) .nil
 refine aftI ah aA aB fun bg bh al aF am an ab=>?_
 have aS:=ab.fx 2 av
 have aT:=ab.fx 3 aQ
 have aU:=ab.ge 3 22 rfl
 have aG:=aj.new_ an
 have aH:=aC.new_ an
 refine st_nil (aE _ _ ?_)
 have ac:(decide (v.k=4))=true:=decide_eq_true (hk1)
 have aX:=oT ac
 have aI:=hB aU ac
 have aJ:(decide (u.k=4))=false:=ax1 ak ac
 have aY:=oF aJ
 refine wp_cond_true aI ?_
 refine wp_seq_k fun bi aK=>?_
 refine wp_g0 (.replicate 9 true) [] 65
   [ve (.pointer (some ⟨q9,3,none⟩)),ve (.agg #[.bool v.neg,sv Av v.mag cv]),ve (.pointer (some ⟨ar,1,none⟩)),ve (nv (Nm.mk u.nk u.nn)),ve (.tuple #[iv ((besideO v.neg v.mag (Nm.mk u.nk u.nn)).1),.bool ((besideO v.neg v.mag (Nm.mk u.nk u.nn)).2)]),ve (iv ((besideO v.neg v.mag (Nm.mk u.nk u.nn)).1)),ve (.bool ((besideO v.neg v.mag (Nm.mk u.nk u.nn)).2)),ve (iv ((besideO v.neg v.mag (Nm.mk u.nk u.nn)).1)),ve (.bool ((besideO v.neg v.mag (Nm.mk u.nk u.nn)).2))] al (.eq (.eq (.eq (.eq (.eq (.eq (.eq (.eq (.eq (.nil)))))))))) ?_ ?_
 exact .f (fun k=>k.fx 2 aS)<| .t (fun _ w hn k=>⟨_,v_load rfl (k.eq1 0 26 rfl) (l_part Tryz.isAgg26 Tryz.sizeOf26 (aG.new_ hn) lb),rfl⟩)<| .f (fun k=>k.fx 3 aT)<| .t (fun _ w hn k=>⟨_,v_load rfl (k.eq1 2 28 rfl) (l_part Tryz.isAgg23 Tryz.sizeOf23 (aH.new_ hn) lb),rfl⟩)<| .o1 (ck rfl rfl rfl (fun _ w hn k=>⟨#[.agg #[.bool v.neg,sv Av v.mag cv],nv (Nm.mk u.nk u.nn)],args2 (k.eq1 1 27 rfl) (k.eq1 3 29 rfl),fun _=>by kernel_rfl,beside_c v.neg _ v.mag _ (Nm.mk u.nk u.nn) _ (hmv.new_ (am.transNew hn)) hvv.limbs (by first|omega|(simp only [List.length_nil,List.length_take,List.length_drop]; omega)|(simp only [List.length_cons,List.length_nil]; omega)) (by omega) (by omega)⟩) fun _=>rfl)<| .t (fun _ w hn k=>⟨_,v_extract rfl (k.eq1 4 30 rfl) rfl,rfl⟩)<| .t (fun _ w hn k=>⟨_,v_extract rfl (k.eq1 4 30 rfl) rfl,rfl⟩)<| .a (fun k=>k.eq1 5 31 rfl)<| .a (fun k=>k.eq1 6 32 rfl) .nil
 refine aftI al aF am fun bj bk a4 aL aM a5 ao=>?_
 have aV:=ao.ge 7 4 rfl
 have aW:=ao.ge 8 5 rfl
 refine st_nil (aK _ _ ?_)
 refine wp_ret (ret_k aL (v:=.tuple #[iv ((besideO v.neg v.mag (Nm.mk u.nk u.nn)).1),.bool ((besideO v.neg v.mag (Nm.mk u.nk u.nn)).2)]) (res_tt rfl aV aW _) ?_)
 exact⟨rfl,aM⟩
theorem truthN_c (t:Bool) (w:World):Calls Tryz.prog 39 #[.bool t] w (IsRet (vv (Vl.mk 2 0 0 false [] [] (truthR t)) none 0 none 0) w):=by
 refine enter_abs Tryz.func39 rfl fun a0 ac aX hp=>?_
 have ac:a0.tmps.size=6:=ac
 have an:New w w:=Upd.refl _ _
 have hp0:a0.eval (.tmp 0)=.bool t:=hp 0 _ rfl
 refine wp_seq_k fun K1 aY=>?_
 refine wp_g [true] [] [] 6
   [IsNew w 29 z7]
   [0] (newsCons (fun v w h=>IsNew.old h) newsNil) ac (.nw (.nil)) ?_ (fun i h=>by cases h) ?_
 exact .o2 (step_allocN (cs:=z7) (t:=29) rfl (noG rfl) (fun _ w hn k=>rfl) (fun q _ hq hb=>⟨q,rfl,hq,hb⟩)) .nil
 refine aftI ac aX an fun a2 w3 ao aZ ax bb ap=>?_
 have h8:=ap.fx 0 hp0
 obtain⟨aq,h9,ay,az⟩:=ap.G 0 2
 have a6:=Nat.le_trans an.size ay
 refine st_nil (aY _ _ (wp_seq_k fun bd aA=>?_))
 refine wp_seq_k fun be aB=>?_
 refine wp_g0 [true] [] 6
   [ve (.bool t)] ao (.eq (.nil)) ?_ ?_
 exact .m (fun k=>k.fx 0 h8) .nil
 refine aftI ao aZ ax fun bf bg ab ad ae aC af=>?_
 have ar:=af.fx 2 h9
 have au:=af.ge 0 3 rfl
 have ag:=az.new_ aC
 refine st_nil (aB _ _ ?_)
 rcases bc (t) with aa|aa
 have aD:=hB au aa
 refine wp_cond_true aD ?_
 refine wp_seq_k fun bh aE=>?_
 refine wp_g0 [true,false] [(1,false)] 6
   [ve (vv (Vl.mk 2 0 0 false [] [] 1) none 0 none 0),vt] ab (.eq (.tt (.nil))) ?_ ?_
 exact .t (fun _ w hn k=>⟨_,v_build (ps:=[(0,iv 2),(4,iv 1)]) rfl (parts2 rfl rfl) (by kernel_rfl),rfl⟩)<| .off .nil
 refine aftI ab ad ae fun bi bj a7 aF aG aH ah=>?_
 have av:=ah.fx 2 ar
 have a1:=ah.ge 0 4 rfl
 have aI:=ag.new_ aH
 obtain⟨a3,aj,ak,aJ,a8⟩:=s_many (P:=Tryz.prog) (t:=29) (i:=0) [iv 2,iv 0,iv 0,.bool false,sv none ([]) 0,sv none ([]) 0,iv 1] Tryz.sizeOf29 rfl rfl rfl aI lb
 have aK:Blk a3 aq 29 [iv 2,iv 0,iv 0,.bool false,sv none ([]) 0,sv none ([]) 0,iv 1]:=ak
 refine st_act rfl rfl fun bk aL=>a_store' rfl av a1 aj (aL _ _ trivial ?_)
 have aM:=aG.trans aJ (fun _ h b=>by subst b; omega)
 refine st_nil (aE _ _ ?_)
 refine wp_ret (ret_k aF (v:=vv (Vl.mk 2 0 0 false [] [] 1) none 0 none 0) (res_c rfl av (l_agg Tryz.isAgg29 Tryz.sizeOf29 aK rfl)) ?_)
 refine ⟨?_,aM⟩
 show Ending.returned (vv (Vl.mk 2 0 0 false [] [] 1) none 0 none 0)=Ending.returned (vv (Vl.mk 2 0 0 false [] [] (truthR t)) none 0 none 0)
 first|rfl|(simp only [truthR,aa,bsm] <;> rfl)|(exfalso; omega)
 have aN:=hB au aa
 refine wp_cond_false aN ?_
 refine wp_skip ?_
 refine aA _ _ ?_
 refine wp_seq_k fun bl aO=>?_
 refine wp_g0 [true,false] [(1,false)] 6
   [ve (vv (Vl.mk 2 0 0 false [] [] 0) none 0 none 0),vt] ab (.eq (.tt (.nil))) ?_ ?_
 exact .t (fun _ w hn k=>⟨_,v_build (ps:=[(0,iv 2)]) rfl (parts1 rfl) (by kernel_rfl),rfl⟩)<| .off .nil
 refine aftI ab ad ae fun bm bn a9 aP aQ aR ai=>?_
 have aw:=ai.fx 2 ar
 have a4:=ai.ge 0 5 rfl
 have aS:=ag.new_ aR
 obtain⟨a5,al,am,aT,ba⟩:=s_many (P:=Tryz.prog) (t:=29) (i:=0) [iv 2,iv 0,iv 0,.bool false,sv none ([]) 0,sv none ([]) 0,iv 0] Tryz.sizeOf29 rfl rfl rfl aS lb
 have aU:Blk a5 aq 29 [iv 2,iv 0,iv 0,.bool false,sv none ([]) 0,sv none ([]) 0,iv 0]:=am
 refine st_act rfl rfl fun bo aV=>a_store' rfl aw a4 al (aV _ _ trivial ?_)
 have aW:=aQ.trans aT (fun _ h b=>by subst b; omega)
 refine st_nil (aO _ _ ?_)
 refine wp_ret (ret_k aP (v:=vv (Vl.mk 2 0 0 false [] [] 0) none 0 none 0) (res_c rfl aw (l_agg Tryz.isAgg29 Tryz.sizeOf29 aU rfl)) ?_)
 refine ⟨?_,aW⟩
 show Ending.returned (vv (Vl.mk 2 0 0 false [] [] 0) none 0 none 0)=Ending.returned (vv (Vl.mk 2 0 0 false [] [] (truthR t)) none 0 none 0)
 first|rfl|(simp only [truthR,aa,bsm] <;> rfl)|(exfalso; omega)
theorem lessB_c (v:Vl) (Av:Option Addr) (cv:Nat) (Bv:Option Addr) (dv:Nat) (u:Vl) (Au:Option Addr) (cu:Nat) (Bu:Option Addr) (du:Nat)   (w:World) (hmv:SRow w .u32 Av v.mag cv) (hsv:SRow w .u16 Bv v.s dv) (hmu:SRow w .u32 Au u.mag cu) (hsu:SRow w .u16 Bu u.s du) (hvv:VOk v) (hvu:VOk u) (hk1:v.k=4) (hk2:u.k=3) (e3:(numericV v).2=0) (e4:(numericV u).2=0) (hj1:(numericV v).1.k=4) (hj2:(numericV u).1.k=3):Calls Tryz.prog 38 #[vv v Av cv Bv dv,vv u Au cu Bu du,.bool false,.bool false] w (IsRet (.tuple #[vv (Vl.mk 2 0 0 false [] [] (truthR ((besideO (numericV v).1.neg (numericV v).1.mag (Nm.mk (numericV u).1.nk (numericV u).1.nn)).2 && (decide ((besideO (numericV v).1.neg (numericV v).1.mag (Nm.mk (numericV u).1.nk (numericV u).1.nn)).1 < 0) != false)))) none 0 none 0,iv 0]) w):=by
 refine enter_abs Tryz.func38 rfl fun a0 bt e5 hp=>?_
 have bt:a0.tmps.size=100:=bt
 have bu:New w w:=Upd.refl _ _
 have hp0:a0.eval (.tmp 0)=vv v Av cv Bv dv:=hp 0 _ rfl
 have hp1:a0.eval (.tmp 1)=vv u Au cu Bu du:=hp 1 _ rfl
 have hp2:a0.eval (.tmp 2)=.bool false:=hp 2 _ rfl
 have hp3:a0.eval (.tmp 3)=.bool false:=hp 3 _ rfl
 refine wp_seq_k fun K1 e6=>?_
 refine wp_g [true,true,true,true] [] [] 100
   [IsNew w 29 (c7 v Av cv Bv dv),IsNew w 29 (c7 u Au cu Bu du),IsNew w 29 z7,ve (iv 0)]
   [0,1,2] (newsCons (fun v w h=>IsNew.old h) (newsCons (fun v w h=>IsNew.old h) (newsCons (fun v w h=>IsNew.old h) newsNil))) bt (.nw (.nw (.nw (.eq (.nil))))) ?_ (fun i h=>by cases h) ?_
 exact .o2 (step_allocN (cs:=(c7 v Av cv Bv dv)) (t:=29) rfl (noG rfl) (fun _ w hn k=>v_box rfl (k.fx 0 hp0) (fun w=>rfl)) (fun q _ hq hb=>⟨q,rfl,hq,hb⟩))<| .o2 (step_allocN (cs:=(c7 u Au cu Bu du)) (t:=29) rfl (noG rfl) (fun _ w hn k=>v_box rfl (k.fx 1 hp1) (fun w=>rfl)) (fun q _ hq hb=>⟨q,rfl,hq,hb⟩))<| .o2 (step_allocN (cs:=z7) (t:=29) rfl (noG rfl) (fun _ w hn k=>rfl) (fun q _ hq hb=>⟨q,rfl,hq,hb⟩))<| .t (fun _ w hn k=>⟨_,v_assign rfl rfl,rfl⟩) .nil
 refine aftI bt e5 bu fun a2 w3 dK e7 dN gz aG=>?_
 have h8:=aG.fx 2 hp2
 have h9:=aG.fx 3 hp3
 obtain⟨a1,bv,dO,bL⟩:=aG.G 0 4
 obtain⟨aJ,bw,dP,bM⟩:=aG.G 1 5
 obtain⟨bi,bN,dQ,dR⟩:=aG.G 2 8
 have hne22:a1 ≠ aJ:=aG.ne 0 1 4 5 bv bw
 have hne23:a1 ≠ bi:=aG.ne 0 2 4 8 bv bN
 have hne24:aJ ≠ bi:=aG.ne 1 2 5 8 bw bN
 have fY:=Nat.le_trans bu.size dO
 have fZ:=Nat.le_trans bu.size dP
 have f0:=Nat.le_trans bu.size dQ
 refine st_nil (e6 _ _ (wp_seq_k fun gA dS=>?_))
 refine wp_block ?_
 refine wp_seq_k fun gB dT=>?_
 refine wp_g0 (.replicate 9 true) [] 100
   [ve (pv a1),ve (iv v.k),ve (.bool (decide (v.k=6))),ve (.bool (decide (v.k=6))),ve (gq (!(decide (v.k=6))) (pv aJ)),ve (gq (!(decide (v.k=6))) (iv u.k)),ve (gq (!(decide (v.k=6))) (.bool (decide (u.k=6)))),ve (.bool ((decide (v.k=6)) || (decide (u.k=6)))),ve (.bool ((decide (v.k=6)) || (decide (u.k=6))))] dK (.eq (.eq (.eq (.eq (.eq (.eq (.eq (.eq (.eq (.nil)))))))))) ?_ ?_
 exact .f (fun k=>k.fx 4 bv)<| .t (fun _ w hn k=>⟨_,v_load rfl (k.eq1 0 16 rfl) (l_one Tryz.isAgg3 ((bL.new_ hn).cell 0)),rfl⟩)<| .t (fun _ w hn k=>⟨_,v_bin rfl (k.eq1 1 17 rfl) rfl (fun _=>rfl) (r_eql rfl),rfl⟩)<| .m (fun k=>k.eq1 2 18 rfl)<| .o1 (sc (G:=(!(decide (v.k=6)))) rfl rfl rfl (fun _ _ k=>g0' (k.eq1 3 19 rfl)) (fun hG _ w hn k=>v_field rfl (k.fx 5 bw) (fun w=>rfl)))<| .o1 (sc (G:=(!(decide (v.k=6)))) rfl rfl rfl (fun _ _ k=>g0' (k.eq1 3 19 rfl)) (fun hG _ w hn k=>v_load rfl (cT hG (k.eq1 4 20 rfl)) (l_one Tryz.isAgg3 ((bM.new_ hn).cell 0))))<| .o1 (sc (G:=(!(decide (v.k=6)))) rfl rfl rfl (fun _ _ k=>g0' (k.eq1 3 19 rfl)) (fun hG _ w hn k=>v_bin rfl (cT hG (k.eq1 5 21 rfl)) rfl (fun _=>rfl) (r_eql rfl)))<| .t (fun _ w hn k=>⟨_,v_or rfl (k.eq1 3 19 rfl) rfl (fun hg=>(cT (nt hg) (k.eq1 6 22 rfl))),rfl⟩)<| .a (fun k=>k.eq1 7 23 rfl) .nil
 refine aftI dK e7 dN fun gC gD bO dU dV bj aD=>?_
 have e8:=aD.fx 2 h8
 have e9:=aD.fx 3 h9
 have dL:=aD.fx 4 bv
 have dM:=aD.fx 5 bw
 have fa:=aD.fx 8 bN
 have fb:=aD.ge 8 15 rfl
 have bP:=bL.new_ bj
 have bQ:=bM.new_ bj
 have dW:=dR.new_ bj
 refine st_nil (dT _ _ ?_)
 have a3:(((decide (v.k=6)) || (decide (u.k=6))))=false:=(by rw [show ((decide (v.k=6)))=false from decide_eq_false (by omega),show ((decide (u.k=6)))=false from decide_eq_false (by omega)]; rfl)
 have dX:=hB fb a3
 have bk:(decide (v.k=6))=false:=ol a3
 have fS:=oF bk
 have bl:(decide (u.k=6))=false:=or_ a3
 have fT:=oF bl
 refine wp_cond_false dX ?_
 refine wp_seq_k fun gE dY=>?_
 refine wp_g0 (.replicate 9 true) [] 100
   [ve (pv a1),ve (iv v.k),ve (.bool (decide (v.k=5))),ve (.bool (decide (v.k=5))),ve (gq (decide (v.k=5)) (pv aJ)),ve (gq (decide (v.k=5)) (iv u.k)),ve (gq (decide (v.k=5)) (.bool (decide (u.k=5)))),ve (.bool ((decide (v.k=5)) && (decide (u.k=5)))),ve (.bool ((decide (v.k=5)) && (decide (u.k=5))))] bO (.eq (.eq (.eq (.eq (.eq (.eq (.eq (.eq (.eq (.nil)))))))))) ?_ ?_
 exact .f (fun k=>k.fx 4 dL)<| .t (fun _ w hn k=>⟨_,v_load rfl (k.eq1 0 26 rfl) (l_one Tryz.isAgg3 ((bP.new_ hn).cell 0)),rfl⟩)<| .t (fun _ w hn k=>⟨_,v_bin rfl (k.eq1 1 27 rfl) rfl (fun _=>rfl) (r_eql rfl),rfl⟩)<| .m (fun k=>k.eq1 2 28 rfl)<| .o1 (sc (G:=(decide (v.k=5))) rfl rfl rfl (fun _ _ k=>g0 (k.eq1 3 29 rfl)) (fun hG _ w hn k=>v_field rfl (k.fx 5 dM) (fun w=>rfl)))<| .o1 (sc (G:=(decide (v.k=5))) rfl rfl rfl (fun _ _ k=>g0 (k.eq1 3 29 rfl)) (fun hG _ w hn k=>v_load rfl (cT hG (k.eq1 4 30 rfl)) (l_one Tryz.isAgg3 ((bQ.new_ hn).cell 0))))<| .o1 (sc (G:=(decide (v.k=5))) rfl rfl rfl (fun _ _ k=>g0 (k.eq1 3 29 rfl)) (fun hG _ w hn k=>v_bin rfl (cT hG (k.eq1 5 31 rfl)) rfl (fun _=>rfl) (r_eql rfl)))<| .t (fun _ w hn k=>⟨_,v_and rfl (k.eq1 3 29 rfl) (fun hg=>(cT hg (k.eq1 6 32 rfl))) rfl,rfl⟩)<| .a (fun k=>k.eq1 7 33 rfl) .nil
 refine aftI bO dU dV fun gF gG bR dZ d0 bm aE=>?_
 have fc:=aE.fx 2 e8
 have fd:=aE.fx 3 e9
 have bS:=aE.fx 4 dL
 have bT:=aE.fx 5 dM
 have fe:=aE.fx 8 fa
 have ff:=aE.ge 8 25 rfl
 have bn:=bP.new_ bm
 have bo:=bQ.new_ bm
 have d1:=dW.new_ bm
 refine st_nil (dY _ _ ?_)
 have bU:(((decide (v.k=5)) && (decide (u.k=5))))=false:=(by rw [show ((decide (v.k=5)))=false from decide_eq_false (by omega),show ((decide (u.k=5)))=false from decide_eq_false (by omega)]; rfl)
 have d2:=hB ff bU
 refine wp_cond_false d2 ?_
 refine wp_seq_k fun gH d3=>?_
 refine wp_g0 (.replicate 19 true) [] 100
   [ve (pv a1),ve (iv v.k),ve (.bool (decide (v.k=5))),ve (.bool (decide (v.k=5))),ve (gq (decide (v.k=5)) (pv aJ)),ve (gq (decide (v.k=5)) (iv u.k)),ve (gq (decide (v.k=5)) (.bool (decide (u.k=4)))),ve (.bool ((decide (v.k=5)) && (decide (u.k=4)))),ve (.bool ((decide (v.k=5)) && (decide (u.k=4)))),ve (gq (!((decide (v.k=5)) && (decide (u.k=4)))) (pv a1)),ve (gq (!((decide (v.k=5)) && (decide (u.k=4)))) (iv v.k)),ve (gq (!((decide (v.k=5)) && (decide (u.k=4)))) (.bool (decide (v.k=4)))),ve (gq (!((decide (v.k=5)) && (decide (u.k=4)))) (.bool (decide (v.k=4)))),ve (gq ((!((decide (v.k=5)) && (decide (u.k=4)))) && (decide (v.k=4))) (pv aJ)),ve (gq ((!((decide (v.k=5)) && (decide (u.k=4)))) && (decide (v.k=4))) (iv u.k)),ve (gq ((!((decide (v.k=5)) && (decide (u.k=4)))) && (decide (v.k=4))) (.bool (decide (u.k=5)))),ve (gq (!((decide (v.k=5)) && (decide (u.k=4)))) (.bool ((decide (v.k=4)) && (decide (u.k=5))))),ve (.bool (((decide (v.k=5)) && (decide (u.k=4))) || ((decide (v.k=4)) && (decide (u.k=5))))),ve (.bool (((decide (v.k=5)) && (decide (u.k=4))) || ((decide (v.k=4)) && (decide (u.k=5)))))] bR (.eq (.eq (.eq (.eq (.eq (.eq (.eq (.eq (.eq (.eq (.eq (.eq (.eq (.eq (.eq (.eq (.eq (.eq (.eq (.nil)))))))))))))))))))) ?_ ?_
 exact .f (fun k=>k.fx 4 bS)<| .t (fun _ w hn k=>⟨_,v_load rfl (k.eq1 0 46 rfl) (l_one Tryz.isAgg3 ((bn.new_ hn).cell 0)),rfl⟩)<| .t (fun _ w hn k=>⟨_,v_bin rfl (k.eq1 1 47 rfl) rfl (fun _=>rfl) (r_eql rfl),rfl⟩)<| .m (fun k=>k.eq1 2 48 rfl)<| .o1 (sc (G:=(decide (v.k=5))) rfl rfl rfl (fun _ _ k=>g0 (k.eq1 3 49 rfl)) (fun hG _ w hn k=>v_field rfl (k.fx 5 bT) (fun w=>rfl)))<| .o1 (sc (G:=(decide (v.k=5))) rfl rfl rfl (fun _ _ k=>g0 (k.eq1 3 49 rfl)) (fun hG _ w hn k=>v_load rfl (cT hG (k.eq1 4 50 rfl)) (l_one Tryz.isAgg3 ((bo.new_ hn).cell 0))))<| .o1 (sc (G:=(decide (v.k=5))) rfl rfl rfl (fun _ _ k=>g0 (k.eq1 3 49 rfl)) (fun hG _ w hn k=>v_bin rfl (cT hG (k.eq1 5 51 rfl)) rfl (fun _=>rfl) (r_eql rfl)))<| .t (fun _ w hn k=>⟨_,v_and rfl (k.eq1 3 49 rfl) (fun hg=>(cT hg (k.eq1 6 52 rfl))) rfl,rfl⟩)<| .m (fun k=>k.eq1 7 53 rfl)<| .o1 (sc (G:=(!((decide (v.k=5)) && (decide (u.k=4))))) rfl rfl rfl (fun _ _ k=>g0' (k.eq1 8 54 rfl)) (fun hG _ w hn k=>v_field rfl (k.fx 4 bS) (fun w=>rfl)))<| .o1 (sc (G:=(!((decide (v.k=5)) && (decide (u.k=4))))) rfl rfl rfl (fun _ _ k=>g0' (k.eq1 8 54 rfl)) (fun hG _ w hn k=>v_load rfl (cT hG (k.eq1 9 55 rfl)) (l_one Tryz.isAgg3 ((bn.new_ hn).cell 0))))<| .o1 (sc (G:=(!((decide (v.k=5)) && (decide (u.k=4))))) rfl rfl rfl (fun _ _ k=>g0' (k.eq1 8 54 rfl)) (fun hG _ w hn k=>v_bin rfl (cT hG (k.eq1 10 56 rfl)) rfl (fun _=>rfl) (r_eql rfl)))<| .o1 (sc (G:=(!((decide (v.k=5)) && (decide (u.k=4))))) rfl rfl rfl (fun _ _ k=>g0' (k.eq1 8 54 rfl)) (fun hG _ w hn k=>v_move rfl (cT hG (k.eq1 11 57 rfl))))<| .o1 (sc (G:=((!((decide (v.k=5)) && (decide (u.k=4)))) && (decide (v.k=4)))) rfl rfl rfl (fun _ _ k=>g1 (k.eq1 12 58 rfl)) (fun hG _ w hn k=>v_field rfl (k.fx 5 bT) (fun w=>rfl)))<| .o1 (sc (G:=((!((decide (v.k=5)) && (decide (u.k=4)))) && (decide (v.k=4)))) rfl rfl rfl (fun _ _ k=>g1 (k.eq1 12 58 rfl)) (fun hG _ w hn k=>v_load rfl (cT hG (k.eq1 13 59 rfl)) (l_one Tryz.isAgg3 ((bo.new_ hn).cell 0))))<| .o1 (sc (G:=((!((decide (v.k=5)) && (decide (u.k=4)))) && (decide (v.k=4)))) rfl rfl rfl (fun _ _ k=>g1 (k.eq1 12 58 rfl)) (fun hG _ w hn k=>v_bin rfl (cT hG (k.eq1 14 60 rfl)) rfl (fun _=>rfl) (r_eql rfl)))<| .o1 (sc (G:=(!((decide (v.k=5)) && (decide (u.k=4))))) rfl rfl rfl (fun _ _ k=>g0' (k.eq1 8 54 rfl)) (fun hG _ w hn k=>v_and rfl (cT hG (k.eq1 12 58 rfl)) (fun hg=>(cT (aj hG hg) (k.eq1 15 61 rfl))) rfl))<| .t (fun _ w hn k=>⟨_,v_or rfl (k.eq1 8 54 rfl) rfl (fun hg=>(cT (nt hg) (k.eq1 16 62 rfl))),rfl⟩)<| .a (fun k=>k.eq1 17 63 rfl) .nil
 refine aftI bR dZ d0 fun gI fg bV d4 a4 bp aF=>?_
 have fh:=aF.fx 2 fc
 have fi:=aF.fx 3 fd
 have fj:=aF.fx 4 bS
 have fk:=aF.fx 5 bT
 have fl:=aF.fx 8 fe
 have fm:=aF.ge 18 45 rfl
 have d5:=bn.new_ bp
 have bW:=bo.new_ bp
 have bX:=d1.new_ bp
 refine st_nil (d3 _ _ ?_)
 have a5:((((decide (v.k=5)) && (decide (u.k=4))) || ((decide (v.k=4)) && (decide (u.k=5)))))=false:=(by rw [show (((decide (v.k=5)) && (decide (u.k=4))))=false from (by rw [show ((decide (v.k=5)))=false from decide_eq_false (by omega),show ((decide (u.k=4)))=false from decide_eq_false (by omega)]; rfl),show (((decide (v.k=4)) && (decide (u.k=5))))=false from (by rw [show ((decide (v.k=4)))=true from decide_eq_true (by omega),show ((decide (u.k=5)))=false from decide_eq_false (by omega)]; rfl)]; rfl)
 have d6:=hB fm a5
 have bY:((decide (v.k=5)) && (decide (u.k=4)))=false:=ol a5
 have bZ:((decide (v.k=4)) && (decide (u.k=5)))=false:=or_ a5
 refine wp_cond_false d6 ?_
 refine wp_skip ?_
 refine dS _ _ ?_
 refine wp_seq_k fun gJ d7=>?_
 refine wp_gS (fun W=>True) (fun W W' hn h=>trivial) trivial [true,true,true,true,true,true,false,false] [4] [(6,false),(7,true)] 100
   [ve (vv v Av cv Bv dv),(TP (numericV v).1 ((numericV v).2)),(TP (numericV v).1 ((numericV v).2)),(fun (v_:Value) (W:World)=>∃ (aK:Option Addr) (aL:Nat) (aM:Option Addr) (aN:Nat),v_=vv (numericV v).1 aK aL aM aN∧SRow W .u32 aK ((numericV v).1.mag) aL∧SRow W .u16 aM ((numericV v).1.s) aN),ve (iv ((numericV v).2)),IsNew fg 29 z7,vt,vt]
   [5] (newsCons (fun v w h=>IsNew.old h) newsNil) bV (.eq (.cons (fun _ _ _ n ⟨_,_,_,_,e,h,i⟩=>⟨_,_,_,_,e,h.new_ n,i.new_ n⟩) (.cons (fun _ _ _ n ⟨_,_,_,_,e,h,i⟩=>⟨_,_,_,_,e,h.new_ n,i.new_ n⟩) (.cons (fun _ _ _ n ⟨_,_,_,_,e,h,i⟩=>⟨_,_,_,_,e,h.new_ n,i.new_ n⟩) (.eq (.nw (.tt (.tt (.nil))))))))) ?_ ?_ ?_
 refine .t (fun _ w hn k=>⟨_,v_load rfl (k.fx 4 fj) (l_agg Tryz.isAgg29 Tryz.sizeOf29 (d5.new_ hn) rfl),rfl⟩) ?_
 refine .o1 (tkC rfl (noG rfl) rfl fun _ w hn k=>(by
       refine ⟨#[vv v Av cv Bv dv],_,args1 (k.eq1 0 66 rfl),fun w=>by kernel_rfl,cnumeric_c v _ _ _ _ _ (hmv.new_ (a4.transNew hn)) (hsv.new_ (a4.transNew hn)) hvv,?_⟩
       rintro e w' ⟨A1,c2,A3,c4,rfl,hmo0,hmo1,hm⟩
       exact⟨_,rfl,hm,⟨A1,c2,A3,c4,rfl,hmo0,hmo1⟩⟩)) ?_
 refine .o1 (tk rfl rfl fun _ w hn k=>(by
       obtain⟨A9,fn,fo,fp,fq,d8,d9⟩:(TP (numericV v).1 ((numericV v).2)) _ _:=k.dep 1 67 (by kernel_rfl) (by kernel_rfl)
       exact⟨_,v_move rfl fq,⟨A9,fn,fo,fp,rfl,d8,d9⟩⟩)) ?_
 refine .o1 (tk rfl rfl fun _ w hn k=>(by
       obtain⟨fs,ft,fu,fv,fw,ea,eb⟩:(TP (numericV v).1 ((numericV v).2)) _ _:=k.dep 2 65 (by kernel_rfl) (by kernel_rfl)
       exact⟨_,v_extract rfl fw rfl,⟨fs,ft,fu,fv,rfl,ea,eb⟩⟩)) ?_
 refine .o3 ?_
 exact .o2 (step_allocN (cs:=z7) (t:=29) rfl (noG rfl) (fun _ w hn k=>rfl) (fun q _ hq hb=>⟨q,rfl,hq,hb⟩))<| .off<| .off .nil
 intro i h
 simp only [List.contains_eq_mem,List.mem_cons,List.not_mem_nil,or_false,decide_eq_true_eq] at h
 subst h
 exact eager_takeG rfl (noG rfl) fun _ w hn k=>(by
     obtain⟨gK,gL,gM,gN,fy,f1,f2⟩:(TP (numericV v).1 ((numericV v).2)) _ _:=k.dep 2 65 (by kernel_rfl) (by kernel_rfl)
     exact⟨_,fun w hS=>v_extract rfl fy rfl,rfl⟩)
 intro b0 gO _ bq ah
 obtain⟨b1,ec,ci⟩:=aft ah bV d4 a4 bq
 have fz:=ah.fx 2 fh
 have fA:=ah.fx 3 fi
 have ed:=ah.fx 5 fk
 have ee:=ah.fx 8 fl
 obtain⟨aO,au,aP,av,a6,cj,cl⟩:=ah.G 3 68
 have a6:b0.eval (.tmp 68)=vv (numericV v).1 aO au aP av:=a6
 have b2:=ah.ge 4 69 rfl
 obtain⟨a7,b3,a8,a9⟩:=ah.G 5 10
 have cm:=bW.new_ bq
 have cn:=bX.new_ bq
 have hne116:aJ ≠ a7:=by have h1:=bW.lt; have h2:=a8; omega
 have hne117:bi ≠ a7:=by have h1:=bX.lt; have h2:=a8; omega
 have fU:=Nat.le_trans a4.size a8
 obtain⟨ef,b4,b5,ba,bx⟩:=s_many (P:=Tryz.prog) (t:=29) (i:=0) (c7 (numericV v).1 aO au aP av) Tryz.sizeOf29 rfl rfl rfl a9 lb
 have co:Blk ef a7 29 (c7 (numericV v).1 aO au aP av):=b5
 refine st_act rfl rfl fun f3 cp=>a_store' rfl b3 a6 b4 (cp _ _ trivial ?_)
 have cq:=cj.fr a9 ba
 have cr:=cl.fr a9 ba
 have ct:=bx _ _ _ (hne116) cm
 have cw:=bx _ _ _ (hne117) cn
 have cx:=ci.trans ba (fun _ h b=>by subst b; omega)
 refine st_take rfl rfl (y_assign (v:=iv ((numericV v).2)) rfl b2) rfl ?_
 obtain⟨eg,aa⟩:∃ a',a'=b0.put (some 11) (iv ((numericV v).2)):=⟨_,rfl⟩
 have bz:=pz aa b1
 have cy:=pd aa ec
 have eh:=pn aa fz (by decide)
 have ei:=pn aa fA (by decide)
 have ej:=pn aa ed (by decide)
 have ek:=pn aa ee (by decide)
 have f4:=pn aa a6 (by decide)
 have f5:=pn aa b2 (by decide)
 have el:=pn aa b3 (by decide)
 have b6:eg.eval (.tmp 11)=iv ((numericV v).2):=by rw [aa]; exact put_same _ _ _ (by rw [b1]; decide)
 show stepsTo _ _ _ _ _ (b0.put (some 11) (iv ((numericV v).2))) _
 rw [← aa]
 refine st_nil (d7 _ _ (wp_seq_k fun f6 cz=>?_))
 refine wp_seq_k fun f7 cA=>?_
 refine wp_g0 [true,true] [] 100
   [ve (iv ((numericV v).2)),ve (.bool (!decide (((numericV v).2)=0)))] bz (.eq (.eq (.nil))) ?_ ?_
 exact .m (fun k=>k.fx 11 b6)<| .t (fun _ w hn k=>⟨_,v_bin rfl (k.eq1 0 70 rfl) rfl (fun _=>rfl) (r_neq rfl),rfl⟩) .nil
 refine aftI bz cy cx fun f8 em bA cB aH aw ad=>?_
 have en:=ad.fx 2 eh
 have eo:=ad.fx 3 ei
 have ep:=ad.fx 5 ej
 have er:=ad.fx 8 ek
 have es:=ad.fx 10 el
 have et:=ad.fx 11 b6
 have eu:=ad.ge 1 71 rfl
 have cC:=ct.new_ aw
 have bB:=cw.new_ aw
 have bC:=co.new_ aw
 have cD:=cq.new_ aw
 have cE:=cr.new_ aw
 refine st_nil (cA _ _ ?_)
 have bb:((!decide (((numericV v).2)=0)))=false:=(nf (decide_eq_true (e3)))
 have cF:=hB eu bb
 have bd:(decide (((numericV v).2)=0))=true:=nT bb
 have fB:=oT bd
 refine wp_cond_false cF ?_
 refine wp_skip ?_
 refine cz _ _ ?_
 refine wp_seq_k fun f9 cG=>?_
 refine wp_gS (fun W=>True) (fun W W' hn h=>trivial) trivial [true,true,true,true,true,true,false,false] [4] [(6,false),(7,true)] 100
   [ve (vv u Au cu Bu du),(TP (numericV u).1 ((numericV u).2)),(TP (numericV u).1 ((numericV u).2)),(fun (v_:Value) (W:World)=>∃ (aU:Option Addr) (aV:Nat) (aW:Option Addr) (aX:Nat),v_=vv (numericV u).1 aU aV aW aX∧SRow W .u32 aU ((numericV u).1.mag) aV∧SRow W .u16 aW ((numericV u).1.s) aX),ve (iv ((numericV u).2)),IsNew em 29 z7,vt,vt]
   [5] (newsCons (fun v w h=>IsNew.old h) newsNil) bA (.eq (.cons (fun _ _ _ n ⟨_,_,_,_,e,h,i⟩=>⟨_,_,_,_,e,h.new_ n,i.new_ n⟩) (.cons (fun _ _ _ n ⟨_,_,_,_,e,h,i⟩=>⟨_,_,_,_,e,h.new_ n,i.new_ n⟩) (.cons (fun _ _ _ n ⟨_,_,_,_,e,h,i⟩=>⟨_,_,_,_,e,h.new_ n,i.new_ n⟩) (.eq (.nw (.tt (.tt (.nil))))))))) ?_ ?_ ?_
 refine .t (fun _ w hn k=>⟨_,v_load rfl (k.fx 5 ep) (l_agg Tryz.isAgg29 Tryz.sizeOf29 (cC.new_ hn) rfl),rfl⟩) ?_
 refine .o1 (tkC rfl (noG rfl) rfl fun _ w hn k=>(by
       refine ⟨#[vv u Au cu Bu du],_,args1 (k.eq1 0 75 rfl),fun w=>by kernel_rfl,cnumeric_c u _ _ _ _ _ (hmu.new_ (aH.transNew hn)) (hsu.new_ (aH.transNew hn)) hvu,?_⟩
       rintro e w' ⟨fC,fD,fE,fF,rfl,hmo0,hmo1,hm⟩
       exact⟨_,rfl,hm,⟨fC,fD,fE,fF,rfl,hmo0,hmo1⟩⟩)) ?_
 refine .o1 (tk rfl rfl fun _ w hn k=>(by
       obtain⟨fG,fH,fI,fJ,fK,ev,ew⟩:(TP (numericV u).1 ((numericV u).2)) _ _:=k.dep 1 76 (by kernel_rfl) (by kernel_rfl)
       exact⟨_,v_move rfl fK,⟨fG,fH,fI,fJ,rfl,ev,ew⟩⟩)) ?_
 refine .o1 (tk rfl rfl fun _ w hn k=>(by
       obtain⟨fL,fM,fN,fO,fP,ex,ey⟩:(TP (numericV u).1 ((numericV u).2)) _ _:=k.dep 2 74 (by kernel_rfl) (by kernel_rfl)
       exact⟨_,v_extract rfl fP rfl,⟨fL,fM,fN,fO,rfl,ex,ey⟩⟩)) ?_
 refine .o3 ?_
 exact .o2 (step_allocN (cs:=z7) (t:=29) rfl (noG rfl) (fun _ w hn k=>rfl) (fun q _ hq hb=>⟨q,rfl,hq,hb⟩))<| .off<| .off .nil
 intro i h
 simp only [List.contains_eq_mem,List.mem_cons,List.not_mem_nil,or_false,decide_eq_true_eq] at h
 subst h
 exact eager_takeG rfl (noG rfl) fun _ w hn k=>(by
     obtain⟨gP,gQ,gR,gS,fQ,ga,gb⟩:(TP (numericV u).1 ((numericV u).2)) _ _:=k.dep 2 74 (by kernel_rfl) (by kernel_rfl)
     exact⟨_,fun w hS=>v_extract rfl fQ rfl,rfl⟩)
 intro br gc _ ax ac
 obtain⟨bD,cH,cI⟩:=aft ac bA cB aH ax
 have ez:=ac.fx 2 en
 have eA:=ac.fx 3 eo
 have eB:=ac.fx 8 er
 have eC:=ac.fx 10 es
 have gd:=ac.fx 11 et
 obtain⟨aY,ay,aZ,az,be,cJ,cK⟩:=ac.G 3 77
 have be:br.eval (.tmp 77)=vv (numericV u).1 aY ay aZ az:=be
 have b7:=ac.ge 4 78 rfl
 obtain⟨bs,b8,bf,aA⟩:=ac.G 5 12
 have cL:=bB.new_ ax
 have cM:=bC.new_ ax
 have hne194:bi ≠ bs:=by have h1:=bB.lt; have h2:=bf; omega
 have hne195:a7 ≠ bs:=by have h1:=bC.lt; have h2:=bf; omega
 have fV:=Nat.le_trans aH.size bf
 have cN:=cD.new_ ax
 have cO:=cE.new_ ax
 obtain⟨eD,b9,ca,aB,bE⟩:=s_many (P:=Tryz.prog) (t:=29) (i:=0) (c7 (numericV u).1 aY ay aZ az) Tryz.sizeOf29 rfl rfl rfl aA lb
 have cP:Blk eD bs 29 (c7 (numericV u).1 aY ay aZ az):=ca
 refine st_act rfl rfl fun gf cQ=>a_store' rfl b8 be b9 (cQ _ _ trivial ?_)
 have cR:=cN.fr aA aB
 have cS:=cO.fr aA aB
 have cU:=cJ.fr aA aB
 have cV:=cK.fr aA aB
 have cW:=bE _ _ _ (hne194) cL
 have cX:=bE _ _ _ (hne195) cM
 have cY:=cI.trans aB (fun _ h b=>by subst b; omega)
 refine st_take rfl rfl (y_assign (v:=iv ((numericV u).2)) rfl b7) rfl ?_
 obtain⟨eE,ab⟩:∃ a',a'=br.put (some 11) (iv ((numericV u).2)):=⟨_,rfl⟩
 have bF:=pz ab bD
 have cZ:=pd ab cH
 have eF:=pn ab ez (by decide)
 have eG:=pn ab eA (by decide)
 have eH:=pn ab eB (by decide)
 have eI:=pn ab eC (by decide)
 have gg:=pn ab be (by decide)
 have gh:=pn ab b7 (by decide)
 have eJ:=pn ab b8 (by decide)
 have cb:eE.eval (.tmp 11)=iv ((numericV u).2):=by rw [ab]; exact put_same _ _ _ (by rw [bD]; decide)
 show stepsTo _ _ _ _ _ (br.put (some 11) (iv ((numericV u).2))) _
 rw [← ab]
 refine st_nil (cG _ _ (wp_seq_k fun gi c0=>?_))
 refine wp_seq_k fun gj c1=>?_
 refine wp_g0 [true,true] [] 100
   [ve (iv ((numericV u).2)),ve (.bool (!decide (((numericV u).2)=0)))] bF (.eq (.eq (.nil))) ?_ ?_
 exact .m (fun k=>k.fx 11 cb)<| .t (fun _ w hn k=>⟨_,v_bin rfl (k.eq1 0 79 rfl) rfl (fun _=>rfl) (r_neq rfl),rfl⟩) .nil
 refine aftI bF cZ cY fun gk gl bG c3 c5 ae af=>?_
 have eK:=af.fx 2 eF
 have eL:=af.fx 3 eG
 have eM:=af.fx 8 eH
 have eN:=af.fx 10 eI
 have eO:=af.fx 12 eJ
 have gm:=af.fx 11 cb
 have eP:=af.ge 1 80 rfl
 have c9:=cW.new_ ae
 have da:=cX.new_ ae
 have db:=cP.new_ ae
 have dc:=cR.new_ ae
 have dd:=cS.new_ ae
 have de:=cU.new_ ae
 have df:=cV.new_ ae
 refine st_nil (c1 _ _ ?_)
 have bg:((!decide (((numericV u).2)=0)))=false:=(nf (decide_eq_true (e4)))
 have dg:=hB eP bg
 have bh:(decide (((numericV u).2)=0))=true:=nT bg
 have fR:=oT bh
 refine wp_cond_false dg ?_
 refine wp_skip ?_
 refine c0 _ _ ?_
 refine wp_seq_k fun gn dh=>?_
 refine wp_seq_k fun go di=>?_
 refine wp_g0 [true] [] 100
   [vF] bG (.eq (.nil)) ?_ ?_
 exact .m (fun k=>k.fx 2 eK) .nil
 refine aftI bG c3 c5 fun gp gr bH dj dk ag aC=>?_
 have eQ:=aC.fx 3 eL
 have eR:=aC.fx 8 eM
 have eS:=aC.fx 10 eN
 have eT:=aC.fx 12 eO
 have eU:=aC.ge 0 83 rfl
 have dl:=c9.new_ ag
 have dm:=da.new_ ag
 have dn:=db.new_ ag
 have dp:=dc.new_ ag
 have dq:=dd.new_ ag
 have dr:=de.new_ ag
 have ds:=df.new_ ag
 refine st_nil (di _ _ ?_)
 refine wp_cond_false eU ?_
 refine wp_skip ?_
 refine dh _ _ ?_
 refine wp_seq_k fun gs dt=>?_
 refine wp_g0 (.replicate 8 true) [] 100
   [ve (vv (numericV v).1 aO au aP av),ve (vv (numericV u).1 aY ay aZ az),ve (.tuple #[iv ((besideO ((numericV v).1).neg ((numericV v).1).mag (Nm.mk ((numericV u).1).nk ((numericV u).1).nn)).1),.bool ((besideO ((numericV v).1).neg ((numericV v).1).mag (Nm.mk ((numericV u).1).nk ((numericV u).1).nn)).2)]),ve (.tuple #[iv ((besideO ((numericV v).1).neg ((numericV v).1).mag (Nm.mk ((numericV u).1).nk ((numericV u).1).nn)).1),.bool ((besideO ((numericV v).1).neg ((numericV v).1).mag (Nm.mk ((numericV u).1).nk ((numericV u).1).nn)).2)]),ve (iv ((besideO ((numericV v).1).neg ((numericV v).1).mag (Nm.mk ((numericV u).1).nk ((numericV u).1).nn)).1)),ve (.bool ((besideO ((numericV v).1).neg ((numericV v).1).mag (Nm.mk ((numericV u).1).nk ((numericV u).1).nn)).2)),ve (iv ((besideO ((numericV v).1).neg ((numericV v).1).mag (Nm.mk ((numericV u).1).nk ((numericV u).1).nn)).1)),ve (.bool ((besideO ((numericV v).1).neg ((numericV v).1).mag (Nm.mk ((numericV u).1).nk ((numericV u).1).nn)).2))] bH (.eq (.eq (.eq (.eq (.eq (.eq (.eq (.eq (.nil))))))))) ?_ ?_
 exact .t (fun _ w hn k=>⟨_,v_load rfl (k.fx 10 eS) (l_agg Tryz.isAgg29 Tryz.sizeOf29 (dm.new_ hn) rfl),rfl⟩)<| .t (fun _ w hn k=>⟨_,v_load rfl (k.fx 12 eT) (l_agg Tryz.isAgg29 Tryz.sizeOf29 (dn.new_ hn) rfl),rfl⟩)<| .o1 (ck rfl rfl rfl (fun _ w hn k=>⟨#[vv (numericV v).1 aO au aP av,vv (numericV u).1 aY ay aZ az],args2 (k.eq1 0 87 rfl) (k.eq1 1 88 rfl),fun _=>by kernel_rfl,orderB_c ((numericV v).1) _ _ _ _ ((numericV u).1) _ _ _ _ _ (dp.new_ hn) (dq.new_ hn) (dr.new_ hn) (ds.new_ hn) (VOk.numeric hvv) (VOk.numeric hvu) hj1 hj2⟩) fun _=>rfl)<| .m (fun k=>k.eq1 2 89 rfl)<| .t (fun _ w hn k=>⟨_,v_extract rfl (k.eq1 3 86 rfl) rfl,rfl⟩)<| .t (fun _ w hn k=>⟨_,v_extract rfl (k.eq1 3 86 rfl) rfl,rfl⟩)<| .a (fun k=>k.eq1 4 90 rfl)<| .a (fun k=>k.eq1 5 91 rfl) .nil
 refine aftI bH dj dk fun gt gu bI dw dx dy aI=>?_
 have eV:=aI.fx 3 eQ
 have eW:=aI.fx 8 eR
 have eX:=aI.ge 6 13 rfl
 have eY:=aI.ge 7 14 rfl
 have dz:=dl.new_ dy
 refine st_nil (dt _ _ (wp_seq_k fun gv dA=>?_))
 refine wp_g0 [true,true,true,true,true,true,true,true,false,false] [(8,false),(9,true)] 100
   [ve (.bool ((besideO ((numericV v).1).neg ((numericV v).1).mag (Nm.mk ((numericV u).1).nk ((numericV u).1).nn)).2)),ve (.bool ((besideO ((numericV v).1).neg ((numericV v).1).mag (Nm.mk ((numericV u).1).nk ((numericV u).1).nn)).2)),ve (gq ((besideO ((numericV v).1).neg ((numericV v).1).mag (Nm.mk ((numericV u).1).nk ((numericV u).1).nn)).2) (iv ((besideO ((numericV v).1).neg ((numericV v).1).mag (Nm.mk ((numericV u).1).nk ((numericV u).1).nn)).1))),ve (gq ((besideO ((numericV v).1).neg ((numericV v).1).mag (Nm.mk ((numericV u).1).nk ((numericV u).1).nn)).2) (.bool (decide (((besideO ((numericV v).1).neg ((numericV v).1).mag (Nm.mk ((numericV u).1).nk ((numericV u).1).nn)).1) < 0)))),ve (gq ((besideO ((numericV v).1).neg ((numericV v).1).mag (Nm.mk ((numericV u).1).nk ((numericV u).1).nn)).2) (.bool false)),ve (gq ((besideO ((numericV v).1).neg ((numericV v).1).mag (Nm.mk ((numericV u).1).nk ((numericV u).1).nn)).2) (.bool ((decide (((besideO ((numericV v).1).neg ((numericV v).1).mag (Nm.mk ((numericV u).1).nk ((numericV u).1).nn)).1) < 0)) != false))),ve (.bool (((besideO ((numericV v).1).neg ((numericV v).1).mag (Nm.mk ((numericV u).1).nk ((numericV u).1).nn)).2) && ((decide (((besideO ((numericV v).1).neg ((numericV v).1).mag (Nm.mk ((numericV u).1).nk ((numericV u).1).nn)).1) < 0)) != false))),ve (vv (Vl.mk 2 0 0 false [] [] (truthR (((besideO ((numericV v).1).neg ((numericV v).1).mag (Nm.mk ((numericV u).1).nk ((numericV u).1).nn)).2) && ((decide (((besideO ((numericV v).1).neg ((numericV v).1).mag (Nm.mk ((numericV u).1).nk ((numericV u).1).nn)).1) < 0)) != false)))) none 0 none 0),vt,vt] bI (.eq (.eq (.eq (.eq (.eq (.eq (.eq (.eq (.tt (.tt (.nil))))))))))) ?_ ?_
 exact .m (fun k=>k.fx 14 eY)<| .m (fun k=>k.eq1 0 92 rfl)<| .o1 (sc (G:=((besideO ((numericV v).1).neg ((numericV v).1).mag (Nm.mk ((numericV u).1).nk ((numericV u).1).nn)).2)) rfl rfl rfl (fun _ _ k=>g0 (k.eq1 1 93 rfl)) (fun hG _ w hn k=>v_move rfl (k.fx 13 eX)))<| .o1 (sc (G:=((besideO ((numericV v).1).neg ((numericV v).1).mag (Nm.mk ((numericV u).1).nk ((numericV u).1).nn)).2)) rfl rfl rfl (fun _ _ k=>g0 (k.eq1 1 93 rfl)) (fun hG _ w hn k=>v_bin rfl (cT hG (k.eq1 2 94 rfl)) rfl (fun _=>rfl) (r_lssK rfl)))<| .o1 (sc (G:=((besideO ((numericV v).1).neg ((numericV v).1).mag (Nm.mk ((numericV u).1).nk ((numericV u).1).nn)).2)) rfl rfl rfl (fun _ _ k=>g0 (k.eq1 1 93 rfl)) (fun hG _ w hn k=>v_move rfl (k.fx 3 eV)))<| .o1 (sc (G:=((besideO ((numericV v).1).neg ((numericV v).1).mag (Nm.mk ((numericV u).1).nk ((numericV u).1).nn)).2)) rfl rfl rfl (fun _ _ k=>g0 (k.eq1 1 93 rfl)) (fun hG _ w hn k=>v_bin rfl (cT hG (k.eq1 3 95 rfl)) (cT hG (k.eq1 4 96 rfl)) (fun _=>rfl) (r_neqB _ _)))<| .t (fun _ w hn k=>⟨_,v_and rfl (k.eq1 1 93 rfl) (fun hg=>(cT hg (k.eq1 5 97 rfl))) rfl,rfl⟩)<| .o1 (ck rfl rfl rfl (fun _ w hn k=>⟨#[.bool (((besideO ((numericV v).1).neg ((numericV v).1).mag (Nm.mk ((numericV u).1).nk ((numericV u).1).nn)).2) && ((decide (((besideO ((numericV v).1).neg ((numericV v).1).mag (Nm.mk ((numericV u).1).nk ((numericV u).1).nn)).1) < 0)) != false))],args1 (k.eq1 6 98 rfl),fun _=>by kernel_rfl,truthN_c (((besideO ((numericV v).1).neg ((numericV v).1).mag (Nm.mk ((numericV u).1).nk ((numericV u).1).nn)).2) && ((decide (((besideO ((numericV v).1).neg ((numericV v).1).mag (Nm.mk ((numericV u).1).nk ((numericV u).1).nn)).1) < 0)) != false)) _ ⟩) fun _=>rfl)<| .off<| .off .nil
 refine aftI bI dw dx fun cc gw bJ dB dC dD bK=>?_
 have cd:=bK.fx 8 eW
 have ce:=bK.ge 7 99 rfl
 have dE:=dz.new_ dD
 obtain⟨eZ,cf,ch,dF,fW⟩:=s_many (P:=Tryz.prog) (t:=29) (i:=0) [iv 2,iv 0,iv 0,.bool false,sv none ([]) 0,sv none ([]) 0,iv (truthR (((besideO ((numericV v).1).neg ((numericV v).1).mag (Nm.mk ((numericV u).1).nk ((numericV u).1).nn)).2) && ((decide (((besideO ((numericV v).1).neg ((numericV v).1).mag (Nm.mk ((numericV u).1).nk ((numericV u).1).nn)).1) < 0)) != false)))] Tryz.sizeOf29 rfl rfl rfl dE lb
 have dG:Blk eZ bi 29 [iv 2,iv 0,iv 0,.bool false,sv none ([]) 0,sv none ([]) 0,iv (truthR (((besideO ((numericV v).1).neg ((numericV v).1).mag (Nm.mk ((numericV u).1).nk ((numericV u).1).nn)).2) && ((decide (((besideO ((numericV v).1).neg ((numericV v).1).mag (Nm.mk ((numericV u).1).nk ((numericV u).1).nn)).1) < 0)) != false)))]:=ch
 refine st_act rfl rfl fun gx dH=>a_store' rfl cd ce cf (dH _ _ trivial ?_)
 have dI:=dC.trans dF (fun _ h b=>by subst b; omega)
 refine st_take rfl rfl (y_assign (v:=iv 0) rfl rfl) rfl ?_
 obtain⟨e0,ai⟩:∃ a',a'=cc.put (some 9) (iv 0):=⟨_,rfl⟩
 have fX:=pz ai bJ
 have dJ:=pd ai dB
 have e1:=pn ai cd (by decide)
 have gy:=pn ai ce (by decide)
 have e2:e0.eval (.tmp 9)=iv 0:=by rw [ai]; exact put_same _ _ _ (by rw [bJ]; decide)
 show stepsTo _ _ _ _ _ (cc.put (some 9) (iv 0)) _
 rw [← ai]
 refine st_nil (dA _ _ ?_)
 refine wp_ret (ret_k dJ (v:=.tuple #[vv (Vl.mk 2 0 0 false [] [] (truthR (((besideO ((numericV v).1).neg ((numericV v).1).mag (Nm.mk ((numericV u).1).nk ((numericV u).1).nn)).2) && ((decide (((besideO ((numericV v).1).neg ((numericV v).1).mag (Nm.mk ((numericV u).1).nk ((numericV u).1).nn)).1) < 0)) != false)))) none 0 none 0,iv 0]) (res_ct rfl e1 e2 (l_agg Tryz.isAgg29 Tryz.sizeOf29 dG rfl)) ?_)
 refine ⟨?_,dI⟩
 show Ending.returned (.tuple #[vv (Vl.mk 2 0 0 false [] [] (truthR (((besideO ((numericV v).1).neg ((numericV v).1).mag (Nm.mk ((numericV u).1).nk ((numericV u).1).nn)).2) && ((decide (((besideO ((numericV v).1).neg ((numericV v).1).mag (Nm.mk ((numericV u).1).nk ((numericV u).1).nn)).1) < 0)) != false)))) none 0 none 0,iv 0])=Ending.returned (.tuple #[vv (Vl.mk 2 0 0 false [] [] (truthR ((besideO (numericV v).1.neg (numericV v).1.mag (Nm.mk (numericV u).1.nk (numericV u).1.nn)).2 && (decide ((besideO (numericV v).1.neg (numericV v).1.mag (Nm.mk (numericV u).1.nk (numericV u).1.nn)).1 < 0) != false)))) none 0 none 0,iv 0])
 first|rfl|(simp only [a3,bk,bk,bl,bl,bU,a5,bY,bY,bZ,bZ,bb,bd,bd,bg,bh,bh,bsm] <;> rfl)|(exfalso; omega)
theorem binL_c  (v:Vl) (Av:Option Addr) (cv:Nat) (Bv:Option Addr) (dv:Nat) (u:Vl) (Au:Option Addr) (cu:Nat) (Bu:Option Addr) (du:Nat) (w:World) (hmv:SRow w .u32 Av v.mag cv) (hsv:SRow w .u16 Bv v.s dv) (hmu:SRow w .u32 Au u.mag cu) (hsu:SRow w .u16 Bu u.s du) (hvv:VOk v) (hvu:VOk u) (hk1:(cleanV v).k=4) (hk2:(cleanV u).k=3) (fS:(numericV (cleanV v)).2=0) (fT:(numericV (cleanV u)).2=0) (hj1:(numericV (cleanV v)).1.k=4) (hj2:(numericV (cleanV u)).1.k=3):Calls Tryz.prog 12 #[.string ⟨#[60]⟩,vv v Av cv Bv dv,vv u Au cu Bu du] w (IsRet (.tuple #[vv (Vl.mk 2 0 0 false [] [] (truthR ((besideO (numericV (cleanV v)).1.neg (numericV (cleanV v)).1.mag (Nm.mk (numericV (cleanV u)).1.nk (numericV (cleanV u)).1.nn)).2 && (decide ((besideO (numericV (cleanV v)).1.neg (numericV (cleanV v)).1.mag (Nm.mk (numericV (cleanV u)).1.nk (numericV (cleanV u)).1.nn)).1 < 0) != false)))) none 0 none 0,iv 0]) w):=by
 refine enter_abs Tryz.func12 rfl fun a0 aU fU hp=>?_
 have aU:a0.tmps.size=120:=aU
 have aV:New w w:=Upd.refl _ _
 have hp0:a0.eval (.tmp 0)=.string ⟨#[60]⟩:=hp 0 _ rfl
 have hp1:a0.eval (.tmp 1)=vv v Av cv Bv dv:=hp 1 _ rfl
 have hp2:a0.eval (.tmp 2)=vv u Au cu Bu du:=hp 2 _ rfl
 refine wp_seq_k fun K1 fV=>?_
 refine wp_g [true,true,true,true] [] [] 120
   [IsNew w 29 (c7 v Av cv Bv dv),IsNew w 29 (c7 u Au cu Bu du),IsNew w 29 z7,ve (iv 0)]
   [0,1,2] (newsCons (fun v w h=>IsNew.old h) (newsCons (fun v w h=>IsNew.old h) (newsCons (fun v w h=>IsNew.old h) newsNil))) aU (.nw (.nw (.nw (.eq (.nil))))) ?_ (fun i h=>by cases h) ?_
 exact .o2 (step_allocN (cs:=(c7 v Av cv Bv dv)) (t:=29) rfl (noG rfl) (fun _ w hn k=>v_box rfl (k.fx 1 hp1) (fun w=>rfl)) (fun q _ hq hb=>⟨q,rfl,hq,hb⟩))<| .o2 (step_allocN (cs:=(c7 u Au cu Bu du)) (t:=29) rfl (noG rfl) (fun _ w hn k=>v_box rfl (k.fx 2 hp2) (fun w=>rfl)) (fun q _ hq hb=>⟨q,rfl,hq,hb⟩))<| .o2 (step_allocN (cs:=z7) (t:=29) rfl (noG rfl) (fun _ w hn k=>rfl) (fun q _ hq hb=>⟨q,rfl,hq,hb⟩))<| .t (fun _ w hn k=>⟨_,v_assign rfl rfl,rfl⟩) .nil
 refine aftI aU fU aV fun a2 w3 ea fW aD gZ aE=>?_
 have h8:=aE.fx 0 hp0
 obtain⟨bd,h9,eg,be⟩:=aE.G 0 4
 obtain⟨bf,aW,eh,bg⟩:=aE.G 1 5
 obtain⟨bh,bi,ei,ej⟩:=aE.G 2 6
 have hne21:bd ≠ bf:=aE.ne 0 1 4 5 h9 aW
 have hne22:bd ≠ bh:=aE.ne 0 2 4 6 h9 bi
 have hne23:bf ≠ bh:=aE.ne 1 2 5 6 aW bi
 have gd:=Nat.le_trans aV.size eg
 have gf:=Nat.le_trans aV.size eh
 have gg:=Nat.le_trans aV.size ei
 refine st_nil (fV _ _ (wp_seq_k fun g0 ek=>?_))
 refine wp_g0 [true,true,true,true,false,false] [(4,false),(5,false)] 120
   [ve (vv v Av cv Bv dv),
    (VP (cleanV v)),ve (vv u Au cu Bu du),
    (VP (cleanV u)),vt,vt] ea (.eq (.cons (fun _ _ _ n ⟨_,_,_,_,e,h,i⟩=>⟨_,_,_,_,e,h.new_ n,i.new_ n⟩) (.eq (.cons (fun _ _ _ n ⟨_,_,_,_,e,h,i⟩=>⟨_,_,_,_,e,h.new_ n,i.new_ n⟩) (.tt (.tt (.nil))))))) ?_ ?_
 refine .t (fun _ w hn k=>⟨_,v_load rfl (k.fx 4 h9) (l_agg Tryz.isAgg29 Tryz.sizeOf29 (be.new_ hn) rfl),rfl⟩) ?_
 refine .o1 (tkC rfl (noG rfl) rfl fun _ w hn k=>(by
       refine ⟨#[vv v Av cv Bv dv],_,args1 (k.eq1 0 10 rfl),fun w=>by kernel_rfl,clean_c v _ _ _ _ _ (hmv.new_ (aD.transNew hn)) (hsv.new_ (aD.transNew hn)),?_⟩
       rintro e w' ⟨A1,c2,A3,c4,rfl,hmo0,hmo1,hm⟩
       exact⟨_,rfl,hm,⟨A1,c2,A3,c4,rfl,hmo0,hmo1⟩⟩)) ?_
 refine .t (fun _ w hn k=>⟨_,v_load rfl (k.fx 5 aW) (l_agg Tryz.isAgg29 Tryz.sizeOf29 (bg.new_ hn) rfl),rfl⟩) ?_
 refine .o1 (tkC rfl (noG rfl) rfl fun _ w hn k=>(by
       refine ⟨#[vv u Au cu Bu du],_,args1 (k.eq1 2 12 rfl),fun w=>by kernel_rfl,clean_c u _ _ _ _ _ (hmu.new_ (aD.transNew hn)) (hsu.new_ (aD.transNew hn)),?_⟩
       rintro e w' ⟨A9,f1,f2,f3,rfl,hmo0,hmo1,hm⟩
       exact⟨_,rfl,hm,⟨A9,f1,f2,f3,rfl,hmo0,hmo1⟩⟩)) ?_
 exact .off<| .off .nil
 refine aftI ea fW aD fun eb g1 bj el em aT aC=>?_
 have ec:=aC.fx 0 h8
 have ed:=aC.fx 4 h9
 have ee:=aC.fx 5 aW
 have f4:=aC.fx 6 bi
 obtain⟨aP,aF,aQ,aG,bk,en,eo⟩:=aC.G 1 11
 have bk:eb.eval (.tmp 11)=vv (cleanV v) aP aF aQ aG:=bk
 obtain⟨aR,aH,aS,aI,bl,ep,er⟩:=aC.G 3 13
 have bl:eb.eval (.tmp 13)=vv (cleanV u) aR aH aS aI:=bl
 have aJ:=be.new_ aT
 have es:=bg.new_ aT
 have et:=ej.new_ aT
 obtain⟨f5,bH,bI,aK,bm⟩:=s_many (P:=Tryz.prog) (t:=29) (i:=0) (c7 (cleanV v) aP aF aQ aG) Tryz.sizeOf29 rfl rfl rfl aJ lb
 have eu:Blk f5 bd 29 (c7 (cleanV v) aP aF aQ aG):=bI
 refine st_act rfl rfl fun g2 ev=>a_store' rfl ed bk bH (ev _ _ trivial ?_)
 have ew:=en.fr aJ aK
 have ex:=eo.fr aJ aK
 have ey:=ep.fr aJ aK
 have ez:=er.fr aJ aK
 have aL:=bm _ _ _ (fun h=>hne21 h.symm) es
 have eA:=bm _ _ _ (fun h=>hne22 h.symm) et
 have eB:=em.trans aK (fun _ h b=>by subst b; omega)
 obtain⟨f6,bJ,bK,aM,bn⟩:=s_many (P:=Tryz.prog) (t:=29) (i:=0) (c7 (cleanV u) aR aH aS aI) Tryz.sizeOf29 rfl rfl rfl aL lb
 have eC:Blk f6 bf 29 (c7 (cleanV u) aR aH aS aI):=bK
 refine st_act rfl rfl fun g3 eD=>a_store' rfl ee bl bJ (eD _ _ trivial ?_)
 have eE:=ew.fr aL aM
 have eF:=ex.fr aL aM
 have eG:=ey.fr aL aM
 have eH:=ez.fr aL aM
 have eI:=bn _ _ _ (hne21) eu
 have eJ:=bn _ _ _ (fun h=>hne23 h.symm) eA
 have eK:=eB.trans aM (fun _ h b=>by subst b; omega)
 refine st_nil (ek _ _ (wp_seq_k fun g4 gh=>?_))
 refine wp_seq_k fun g5 eL=>?_
 refine wp_g0 [true] [] 120
   [ve (.string ⟨#[60]⟩)] bj (.eq (.nil)) ?_ ?_
 exact .m (fun k=>k.fx 0 ec) .nil
 refine aftI bj el eK fun g6 g7 bo eM bL aB aN=>?_
 have f7:=aN.fx 0 ec
 have f8:=aN.fx 4 ed
 have f9:=aN.fx 5 ee
 have ga:=aN.fx 6 f4
 have ef:=aN.ge 0 14 rfl
 have eN:=eI.new_ aB
 have eO:=eC.new_ aB
 have bM:=eJ.new_ aB
 have bN:=eE.new_ aB
 have bO:=eF.new_ aB
 have bP:=eG.new_ aB
 have bQ:=eH.new_ aB
 refine st_nil (eL _ _ ?_)
 refine wp_block ?_
 refine wp_seq_k fun gi bR=>?_
 refine wp_g0 [true,true] [] 120
   [vF,vF] bo (.eq (.eq (.nil))) ?_ ?_
 exact .t (fun _ w hn k=>⟨_,v_bin rfl (k.fx 14 ef) rfl (fun _=>rfl) (r_eqlS (r:=false) (by kernel_rfl)),rfl⟩)<| .a (fun k=>k.eq1 0 16 rfl) .nil
 refine aftI bo eM bL fun gj gk aX bS bT aa an=>?_
 have eP:=an.fx 0 f7
 have eQ:=an.fx 4 f8
 have eR:=an.fx 5 f9
 have eS:=an.fx 6 ga
 have bp:=an.fx 14 ef
 have eT:=an.ge 1 15 rfl
 have bU:=eN.new_ aa
 have bV:=eO.new_ aa
 have bW:=bM.new_ aa
 have bX:=bN.new_ aa
 have bY:=bO.new_ aa
 have bZ:=bP.new_ aa
 have b0:=bQ.new_ aa
 refine st_nil (bR _ _ ?_)
 refine wp_cond_false eT ?_
 refine wp_seq_k fun gl b1=>?_
 refine wp_seq_k fun gm b2=>?_
 refine wp_g0 [true,true] [] 120
   [vF,vF] aX (.eq (.eq (.nil))) ?_ ?_
 exact .t (fun _ w hn k=>⟨_,v_bin rfl (k.fx 14 bp) rfl (fun _=>rfl) (r_eqlS (r:=false) (by kernel_rfl)),rfl⟩)<| .a (fun k=>k.eq1 0 37 rfl) .nil
 refine aftI aX bS bT fun gn go aY b3 b4 ab ao=>?_
 have eU:=ao.fx 0 eP
 have eV:=ao.fx 4 eQ
 have eW:=ao.fx 5 eR
 have eX:=ao.fx 6 eS
 have bq:=ao.fx 14 bp
 have eY:=ao.ge 1 36 rfl
 have b5:=bU.new_ ab
 have b6:=bV.new_ ab
 have b7:=bW.new_ ab
 have b8:=bX.new_ ab
 have b9:=bY.new_ ab
 have ca:=bZ.new_ ab
 have cb:=b0.new_ ab
 refine st_nil (b2 _ _ ?_)
 refine wp_cond_false eY ?_
 refine wp_seq_k fun gp cc=>?_
 refine wp_g0 [true,true] [] 120
   [vF,vF] aY (.eq (.eq (.nil))) ?_ ?_
 exact .t (fun _ w hn k=>⟨_,v_bin rfl (k.fx 14 bq) rfl (fun _=>rfl) (r_eqlS (r:=false) (by kernel_rfl)),rfl⟩)<| .a (fun k=>k.eq1 0 38 rfl) .nil
 refine aftI aY b3 b4 fun gq gr aZ cd ce ac ap=>?_
 have eZ:=ap.fx 0 eU
 have e0:=ap.fx 4 eV
 have e1:=ap.fx 5 eW
 have e2:=ap.fx 6 eX
 have br:=ap.fx 14 bq
 have e3:=ap.ge 1 36 rfl
 have cf:=b5.new_ ac
 have ch:=b6.new_ ac
 have ci:=b7.new_ ac
 have cj:=b8.new_ ac
 have cl:=b9.new_ ac
 have cm:=ca.new_ ac
 have cn:=cb.new_ ac
 refine st_nil (cc _ _ ?_)
 refine wp_cond_false e3 ?_
 refine wp_seq_k fun gs co=>?_
 refine wp_g0 [true,true] [] 120
   [vF,vF] aZ (.eq (.eq (.nil))) ?_ ?_
 exact .t (fun _ w hn k=>⟨_,v_bin rfl (k.fx 14 br) rfl (fun _=>rfl) (r_eqlS (r:=false) (by kernel_rfl)),rfl⟩)<| .a (fun k=>k.eq1 0 39 rfl) .nil
 refine aftI aZ cd ce fun gt gu a1 cp cq ad aq=>?_
 have e4:=aq.fx 0 eZ
 have e5:=aq.fx 4 e0
 have e6:=aq.fx 5 e1
 have e7:=aq.fx 6 e2
 have bs:=aq.fx 14 br
 have e8:=aq.ge 1 36 rfl
 have cr:=cf.new_ ad
 have ct:=ch.new_ ad
 have cw:=ci.new_ ad
 have cx:=cj.new_ ad
 have cy:=cl.new_ ad
 have cz:=cm.new_ ad
 have cA:=cn.new_ ad
 refine st_nil (co _ _ ?_)
 refine wp_cond_false e8 ?_
 refine wp_g0 [true,true] [] 120
   [vF,vF] a1 (.eq (.eq (.nil))) ?_ ?_
 exact .t (fun _ w hn k=>⟨_,v_bin rfl (k.fx 14 bs) rfl (fun _=>rfl) (r_eqlS (r:=false) (by kernel_rfl)),rfl⟩)<| .a (fun k=>k.eq1 0 40 rfl) .nil
 refine aftI a1 cp cq fun gv gw a3 cB cC ae ar=>?_
 have e9:=ar.fx 0 e4
 have fa:=ar.fx 4 e5
 have fb:=ar.fx 5 e6
 have fc:=ar.fx 6 e7
 have bt:=ar.fx 14 bs
 have fd:=ar.ge 1 36 rfl
 have cD:=cr.new_ ae
 have cE:=ct.new_ ae
 have cF:=cw.new_ ae
 have cG:=cx.new_ ae
 have cH:=cy.new_ ae
 have cI:=cz.new_ ae
 have cJ:=cA.new_ ae
 refine st_nil (b1 _ _ ?_)
 refine wp_cond_false fd ?_
 refine wp_seq_k fun gx cK=>?_
 refine wp_seq_k fun gy cL=>?_
 refine wp_g0 [true,true] [] 120
   [vF,vF] a3 (.eq (.eq (.nil))) ?_ ?_
 exact .t (fun _ w hn k=>⟨_,v_bin rfl (k.fx 14 bt) rfl (fun _=>rfl) (r_eqlS (r:=false) (by kernel_rfl)),rfl⟩)<| .a (fun k=>k.eq1 0 48 rfl) .nil
 refine aftI a3 cB cC fun gz gA a4 cM cN af au=>?_
 have fe:=au.fx 0 e9
 have ff:=au.fx 4 fa
 have fg:=au.fx 5 fb
 have fh:=au.fx 6 fc
 have bu:=au.fx 14 bt
 have fi:=au.ge 1 47 rfl
 have cO:=cD.new_ af
 have cP:=cE.new_ af
 have cQ:=cF.new_ af
 have cR:=cG.new_ af
 have cS:=cH.new_ af
 have cT:=cI.new_ af
 have cU:=cJ.new_ af
 refine st_nil (cL _ _ ?_)
 refine wp_cond_false fi ?_
 refine wp_seq_k fun gB cV=>?_
 refine wp_g0 [true,true] [] 120
   [vF,vF] a4 (.eq (.eq (.nil))) ?_ ?_
 exact .t (fun _ w hn k=>⟨_,v_bin rfl (k.fx 14 bu) rfl (fun _=>rfl) (r_eqlS (r:=false) (by kernel_rfl)),rfl⟩)<| .a (fun k=>k.eq1 0 49 rfl) .nil
 refine aftI a4 cM cN fun gC gD a5 cW cX ag av=>?_
 have fj:=av.fx 0 fe
 have fk:=av.fx 4 ff
 have fl:=av.fx 5 fg
 have fm:=av.fx 6 fh
 have bv:=av.fx 14 bu
 have fn:=av.ge 1 47 rfl
 have cY:=cO.new_ ag
 have cZ:=cP.new_ ag
 have c0:=cQ.new_ ag
 have c1:=cR.new_ ag
 have c3:=cS.new_ ag
 have c5:=cT.new_ ag
 have c9:=cU.new_ ag
 refine st_nil (cV _ _ ?_)
 refine wp_cond_false fn ?_
 refine wp_seq_k fun gE da=>?_
 refine wp_g0 [true,true] [] 120
   [vF,vF] a5 (.eq (.eq (.nil))) ?_ ?_
 exact .t (fun _ w hn k=>⟨_,v_bin rfl (k.fx 14 bv) rfl (fun _=>rfl) (r_eqlS (r:=false) (by kernel_rfl)),rfl⟩)<| .a (fun k=>k.eq1 0 50 rfl) .nil
 refine aftI a5 cW cX fun gF gG a6 db dc ah aw=>?_
 have fo:=aw.fx 0 fj
 have fp:=aw.fx 4 fk
 have fq:=aw.fx 5 fl
 have fs:=aw.fx 6 fm
 have bw:=aw.fx 14 bv
 have ft:=aw.ge 1 47 rfl
 have dd:=cY.new_ ah
 have de:=cZ.new_ ah
 have df:=c0.new_ ah
 have dg:=c1.new_ ah
 have dh:=c3.new_ ah
 have di:=c5.new_ ah
 have dj:=c9.new_ ah
 refine st_nil (da _ _ ?_)
 refine wp_cond_false ft ?_
 refine wp_seq_k fun gH dk=>?_
 refine wp_g0 [true,true] [] 120
   [vF,vF] a6 (.eq (.eq (.nil))) ?_ ?_
 exact .t (fun _ w hn k=>⟨_,v_bin rfl (k.fx 14 bw) rfl (fun _=>rfl) (r_eqlS (r:=false) (by kernel_rfl)),rfl⟩)<| .a (fun k=>k.eq1 0 51 rfl) .nil
 refine aftI a6 db dc fun gI gJ a7 dl dm ai ax=>?_
 have fu:=ax.fx 0 fo
 have fv:=ax.fx 4 fp
 have fw:=ax.fx 5 fq
 have fy:=ax.fx 6 fs
 have bx:=ax.fx 14 bw
 have fz:=ax.ge 1 47 rfl
 have dn:=dd.new_ ai
 have dp:=de.new_ ai
 have dq:=df.new_ ai
 have dr:=dg.new_ ai
 have ds:=dh.new_ ai
 have dt:=di.new_ ai
 have dw:=dj.new_ ai
 refine st_nil (dk _ _ ?_)
 refine wp_cond_false fz ?_
 refine wp_seq_k fun gK dx=>?_
 refine wp_g0 [true,true] [] 120
   [vF,vF] a7 (.eq (.eq (.nil))) ?_ ?_
 exact .t (fun _ w hn k=>⟨_,v_bin rfl (k.fx 14 bx) rfl (fun _=>rfl) (r_eqlS (r:=false) (by kernel_rfl)),rfl⟩)<| .a (fun k=>k.eq1 0 52 rfl) .nil
 refine aftI a7 dl dm fun gL gM a8 dy dz aj ay=>?_
 have fA:=ay.fx 0 fu
 have fB:=ay.fx 4 fv
 have fC:=ay.fx 5 fw
 have fD:=ay.fx 6 fy
 have bz:=ay.fx 14 bx
 have fE:=ay.ge 1 47 rfl
 have dA:=dn.new_ aj
 have dB:=dp.new_ aj
 have dC:=dq.new_ aj
 have dD:=dr.new_ aj
 have dE:=ds.new_ aj
 have dF:=dt.new_ aj
 have dG:=dw.new_ aj
 refine st_nil (dx _ _ ?_)
 refine wp_cond_false fE ?_
 refine wp_g0 [true,true] [] 120
   [vF,vF] a8 (.eq (.eq (.nil))) ?_ ?_
 exact .t (fun _ w hn k=>⟨_,v_bin rfl (k.fx 14 bz) rfl (fun _=>rfl) (r_eqlS (r:=false) (by kernel_rfl)),rfl⟩)<| .a (fun k=>k.eq1 0 53 rfl) .nil
 refine aftI a8 dy dz fun gN gO a9 dH dI ak az=>?_
 have fF:=az.fx 0 fA
 have fG:=az.fx 4 fB
 have fH:=az.fx 5 fC
 have fI:=az.fx 6 fD
 have bA:=az.fx 14 bz
 have fJ:=az.ge 1 47 rfl
 have dJ:=dA.new_ ak
 have dK:=dB.new_ ak
 have dL:=dC.new_ ak
 have dM:=dD.new_ ak
 have dN:=dE.new_ ak
 have dO:=dF.new_ ak
 have dP:=dG.new_ ak
 refine st_nil (cK _ _ ?_)
 refine wp_cond_false fJ ?_
 refine wp_seq_k fun gP dQ=>?_
 refine wp_g0 [true,true] [] 120
   [vT,vT] a9 (.eq (.eq (.nil))) ?_ ?_
 exact .t (fun _ w hn k=>⟨_,v_bin rfl (k.fx 14 bA) rfl (fun _=>rfl) (r_eqlS (r:=true) (by kernel_rfl)),rfl⟩)<| .a (fun k=>k.eq1 0 61 rfl) .nil
 refine aftI a9 dH dI fun gQ gR ba dR dS al aA=>?_
 have gS:=aA.fx 0 fF
 have fK:=aA.fx 4 fG
 have fL:=aA.fx 5 fH
 have fM:=aA.fx 6 fI
 have gT:=aA.fx 14 bA
 have fN:=aA.ge 1 60 rfl
 have dT:=dJ.new_ al
 have dU:=dK.new_ al
 have dV:=dL.new_ al
 have dW:=dM.new_ al
 have dX:=dN.new_ al
 have dY:=dO.new_ al
 have dZ:=dP.new_ al
 refine st_nil (dQ _ _ ?_)
 refine wp_cond_true fN ?_
 refine wp_seq_k fun gU d0=>?_
 refine wp_g0 [true,true,true,true,true,false,false] [(5,false),(6,true)] 120
   [ve (vv (cleanV v) aP aF aQ aG),ve (vv (cleanV u) aR aH aS aI),ve (.tuple #[vv (Vl.mk 2 0 0 false [] [] (truthR ((besideO (numericV (cleanV v)).1.neg (numericV (cleanV v)).1.mag (Nm.mk (numericV (cleanV u)).1.nk (numericV (cleanV u)).1.nn)).2 && (decide ((besideO (numericV (cleanV v)).1.neg (numericV (cleanV v)).1.mag (Nm.mk (numericV (cleanV u)).1.nk (numericV (cleanV u)).1.nn)).1 < 0) != false)))) none 0 none 0,iv 0]),ve (vv (Vl.mk 2 0 0 false [] [] (truthR ((besideO (numericV (cleanV v)).1.neg (numericV (cleanV v)).1.mag (Nm.mk (numericV (cleanV u)).1.nk (numericV (cleanV u)).1.nn)).2 && (decide ((besideO (numericV (cleanV v)).1.neg (numericV (cleanV v)).1.mag (Nm.mk (numericV (cleanV u)).1.nk (numericV (cleanV u)).1.nn)).1 < 0) != false)))) none 0 none 0),ve (iv 0),vt,vt] ba (.eq (.eq (.eq (.eq (.eq (.tt (.tt (.nil)))))))) ?_ ?_
 exact .t (fun _ w hn k=>⟨_,v_load rfl (k.fx 4 fK) (l_agg Tryz.isAgg29 Tryz.sizeOf29 (dT.new_ hn) rfl),rfl⟩)<| .t (fun _ w hn k=>⟨_,v_load rfl (k.fx 5 fL) (l_agg Tryz.isAgg29 Tryz.sizeOf29 (dU.new_ hn) rfl),rfl⟩)<| .o1 (ck rfl rfl rfl (fun _ w hn k=>⟨#[vv (cleanV v) aP aF aQ aG,vv (cleanV u) aR aH aS aI,.bool false,.bool false],args4 (k.eq1 0 62 rfl) (k.eq1 1 63 rfl) rfl rfl,fun _=>by kernel_rfl,lessB_c (cleanV v) _ _ _ _ (cleanV u) _ _ _ _ _ (dW.new_ hn) (dX.new_ hn) (dY.new_ hn) (dZ.new_ hn) hvv.clean hvu.clean hk1 hk2 fS fT hj1 hj2⟩) fun _=>rfl)<| .t (fun _ w hn k=>⟨_,v_extract rfl (k.eq1 2 64 rfl) rfl,rfl⟩)<| .t (fun _ w hn k=>⟨_,v_extract rfl (k.eq1 2 64 rfl) rfl,rfl⟩)<| .off<| .off .nil
 refine aftI ba dR dS fun bB gV bb d1 d2 d3 aO=>?_
 have bC:=aO.fx 6 fM
 have bD:=aO.ge 3 65 rfl
 have bE:=aO.ge 4 66 rfl
 have d4:=dV.new_ d3
 obtain⟨fO,bF,bG,d5,gb⟩:=s_many (P:=Tryz.prog) (t:=29) (i:=0) [iv 2,iv 0,iv 0,.bool false,sv none ([]) 0,sv none ([]) 0,iv (truthR ((besideO (numericV (cleanV v)).1.neg (numericV (cleanV v)).1.mag (Nm.mk (numericV (cleanV u)).1.nk (numericV (cleanV u)).1.nn)).2 && (decide ((besideO (numericV (cleanV v)).1.neg (numericV (cleanV v)).1.mag (Nm.mk (numericV (cleanV u)).1.nk (numericV (cleanV u)).1.nn)).1 < 0) != false)))] Tryz.sizeOf29 rfl rfl rfl d4 lb
 have d6:Blk fO bh 29 [iv 2,iv 0,iv 0,.bool false,sv none ([]) 0,sv none ([]) 0,iv (truthR ((besideO (numericV (cleanV v)).1.neg (numericV (cleanV v)).1.mag (Nm.mk (numericV (cleanV u)).1.nk (numericV (cleanV u)).1.nn)).2 && (decide ((besideO (numericV (cleanV v)).1.neg (numericV (cleanV v)).1.mag (Nm.mk (numericV (cleanV u)).1.nk (numericV (cleanV u)).1.nn)).1 < 0) != false)))]:=bG
 refine st_act rfl rfl fun gW d7=>a_store' rfl bC bD bF (d7 _ _ trivial ?_)
 have d8:=d2.trans d5 (fun _ h b=>by subst b; omega)
 refine st_take rfl rfl (y_assign (v:=iv 0) rfl bE) rfl ?_
 obtain⟨fP,am⟩:∃ a',a'=bB.put (some 7) (iv 0):=⟨_,rfl⟩
 have gc:=pz am bb
 have d9:=pd am d1
 have fQ:=pn am bC (by decide)
 have gX:=pn am bD (by decide)
 have gY:=pn am bE (by decide)
 have fR:fP.eval (.tmp 7)=iv 0:=by rw [am]; exact put_same _ _ _ (by rw [bb]; decide)
 show stepsTo _ _ _ _ _ (bB.put (some 7) (iv 0)) _
 rw [← am]
 refine st_nil (d0 _ _ ?_)
 refine wp_ret (ret_k d9 (v:=.tuple #[vv (Vl.mk 2 0 0 false [] [] (truthR ((besideO (numericV (cleanV v)).1.neg (numericV (cleanV v)).1.mag (Nm.mk (numericV (cleanV u)).1.nk (numericV (cleanV u)).1.nn)).2 && (decide ((besideO (numericV (cleanV v)).1.neg (numericV (cleanV v)).1.mag (Nm.mk (numericV (cleanV u)).1.nk (numericV (cleanV u)).1.nn)).1 < 0) != false)))) none 0 none 0,iv 0]) (res_ct rfl fQ fR (l_agg Tryz.isAgg29 Tryz.sizeOf29 d6 rfl)) ?_)
 exact⟨rfl,d8⟩
theorem minus_c  (v:Vl) (Av:Option Addr) (cv:Nat) (Bv:Option Addr) (dv:Nat) (w:World) (hmv:SRow w .u32 Av v.mag cv) (hsv:SRow w .u16 Bv v.s dv) (hvv:VOk v) (dg:(numericV v).2=0) (hj1:(numericV v).1.k=3):Calls Tryz.prog 13 #[.string ⟨#[45]⟩,vv v Av cv Bv dv] w (IsRet (.tuple #[vv (Vl.mk 3 (negM (Nm.mk (numericV v).1.nk (numericV v).1.nn)).k (negM (Nm.mk (numericV v).1.nk (numericV v).1.nn)).n false [] [] 0) none 0 none 0,iv 0]) w):=by
 refine enter_abs Tryz.func13 rfl fun a0 aK dh hp=>?_
 have aK:a0.tmps.size=76:=aK
 have aW:New w w:=Upd.refl _ _
 have hp0:a0.eval (.tmp 0)=.string ⟨#[45]⟩:=hp 0 _ rfl
 have hp1:a0.eval (.tmp 1)=vv v Av cv Bv dv:=hp 1 _ rfl
 refine wp_seq_k fun K1 di=>?_
 refine wp_g [true,true,true] [] [] 76
   [IsNew w 29 (c7 v Av cv Bv dv),IsNew w 29 z7,ve (iv 0)]
   [0,1] (newsCons (fun v w h=>IsNew.old h) (newsCons (fun v w h=>IsNew.old h) newsNil)) aK (.nw (.nw (.eq (.nil)))) ?_ (fun i h=>by cases h) ?_
 exact .o2 (step_allocN (cs:=(c7 v Av cv Bv dv)) (t:=29) rfl (noG rfl) (fun _ w hn k=>v_box rfl (k.fx 1 hp1) (fun w=>rfl)) (fun q _ hq hb=>⟨q,rfl,hq,hb⟩))<| .o2 (step_allocN (cs:=z7) (t:=29) rfl (noG rfl) (fun _ w hn k=>rfl) (fun q _ hq hb=>⟨q,rfl,hq,hb⟩))<| .t (fun _ w hn k=>⟨_,v_assign rfl rfl,rfl⟩) .nil
 refine aftI aK dh aW fun a2 w3 b7 dj ce ek aL=>?_
 have h8:=aL.fx 0 hp0
 obtain⟨dk,h9,cf,ch⟩:=aL.G 0 3
 obtain⟨aX,b8,ci,cj⟩:=aL.G 1 4
 have hne17:dk ≠ aX:=aL.ne 0 1 3 4 h9 b8
 have dY:=Nat.le_trans aW.size cf
 have dZ:=Nat.le_trans aW.size ci
 refine st_nil (di _ _ (wp_seq_k fun el cl=>?_))
 refine wp_seq_k fun em cm=>?_
 refine wp_g0 [true] [] 76
   [ve (.string ⟨#[45]⟩)] b7 (.eq (.nil)) ?_ ?_
 exact .m (fun k=>k.fx 0 h8) .nil
 refine aftI b7 dj ce fun en eo aY cn co aZ aw=>?_
 have dl:=aw.fx 0 h8
 have dm:=aw.fx 3 h9
 have dn:=aw.fx 4 b8
 have b9:=aw.ge 0 10 rfl
 have cp:=ch.new_ aZ
 have cq:=cj.new_ aZ
 refine st_nil (cm _ _ ?_)
 refine wp_block ?_
 refine wp_seq_k fun ep cr=>?_
 refine wp_g0 [true,true] [] 76
   [vF,vF] aY (.eq (.eq (.nil))) ?_ ?_
 exact .t (fun _ w hn k=>⟨_,v_bin rfl (k.fx 10 b9) rfl (fun _=>rfl) (r_eqlS (r:=false) (by kernel_rfl)),rfl⟩)<| .a (fun k=>k.eq1 0 13 rfl) .nil
 refine aftI aY cn co fun er es a1 ct cu a3 am=>?_
 have dp:=am.fx 0 dl
 have dq:=am.fx 3 dm
 have dr:=am.fx 4 dn
 have ca:=am.fx 10 b9
 have ds:=am.ge 1 12 rfl
 have cw:=cp.new_ a3
 have cx:=cq.new_ a3
 refine st_nil (cr _ _ ?_)
 refine wp_cond_false ds ?_
 refine wp_seq_k fun et cy=>?_
 refine wp_g0 [true,true] [] 76
   [vF,vF] a1 (.eq (.eq (.nil))) ?_ ?_
 exact .t (fun _ w hn k=>⟨_,v_bin rfl (k.fx 10 ca) rfl (fun _=>rfl) (r_eqlS (r:=false) (by kernel_rfl)),rfl⟩)<| .a (fun k=>k.eq1 0 19 rfl) .nil
 refine aftI a1 ct cu fun eu ev a4 cz cA a5 an=>?_
 have dt:=an.fx 0 dp
 have du:=an.fx 3 dq
 have dw:=an.fx 4 dr
 have cb:=an.fx 10 ca
 have dx:=an.ge 1 18 rfl
 have cB:=cw.new_ a5
 have cC:=cx.new_ a5
 refine st_nil (cy _ _ ?_)
 refine wp_cond_false dx ?_
 refine wp_seq_k fun ew cD=>?_
 refine wp_g0 [true,true] [] 76
   [vF,vF] a4 (.eq (.eq (.nil))) ?_ ?_
 exact .t (fun _ w hn k=>⟨_,v_bin rfl (k.fx 10 cb) rfl (fun _=>rfl) (r_eqlS (r:=false) (by kernel_rfl)),rfl⟩)<| .a (fun k=>k.eq1 0 22 rfl) .nil
 refine aftI a4 cz cA fun ex ey a6 cE cF a7 ao=>?_
 have dy:=ao.fx 0 dt
 have dz:=ao.fx 3 du
 have dA:=ao.fx 4 dw
 have cc:=ao.fx 10 cb
 have dB:=ao.ge 1 21 rfl
 have cG:=cB.new_ a7
 have cH:=cC.new_ a7
 refine st_nil (cD _ _ ?_)
 refine wp_cond_false dB ?_
 refine wp_seq_k fun ez cI=>?_
 refine wp_seq_k fun eA cJ=>?_
 refine wp_g0 [true,true] [] 76
   [vT,vT] a6 (.eq (.eq (.nil))) ?_ ?_
 exact .t (fun _ w hn k=>⟨_,v_bin rfl (k.fx 10 cc) rfl (fun _=>rfl) (r_eqlS (r:=true) (by kernel_rfl)),rfl⟩)<| .a (fun k=>k.eq1 0 35 rfl) .nil
 refine aftI a6 cE cF fun eB dC a8 cK ax a9 ap=>?_
 have dD:=ap.fx 0 dy
 have dE:=ap.fx 3 dz
 have dF:=ap.fx 4 dA
 have eC:=ap.fx 10 cc
 have cd:=ap.ge 1 34 rfl
 have cL:=cG.new_ a9
 have ba:=cH.new_ a9
 refine st_nil (cJ _ _ ?_)
 refine wp_cond_true cd ?_
 refine wp_skip ?_
 refine cI _ _ ?_
 refine wp_cond_true cd ?_
 refine wp_skip ?_
 refine cl _ _ ?_
 refine wp_seq_k fun eD cM=>?_
 refine wp_gS (fun W=>True) (fun W W' hn h=>trivial) trivial [true,true,true,true,true,true,false,false] [4] [(6,false),(7,true)] 76
   [ve (vv v Av cv Bv dv),(TP (numericV v).1 ((numericV v).2)),(TP (numericV v).1 ((numericV v).2)),(fun (v_:Value) (W:World)=>∃ (aq:Option Addr) (ar:Nat) (au:Option Addr) (av:Nat),v_=vv (numericV v).1 aq ar au av∧SRow W .u32 aq ((numericV v).1.mag) ar∧SRow W .u16 au ((numericV v).1.s) av),ve (iv ((numericV v).2)),IsNew dC 29 z7,vt,vt]
   [5] (newsCons (fun v w h=>IsNew.old h) newsNil) a8 (.eq (.cons (fun _ _ _ n ⟨_,_,_,_,e,h,i⟩=>⟨_,_,_,_,e,h.new_ n,i.new_ n⟩) (.cons (fun _ _ _ n ⟨_,_,_,_,e,h,i⟩=>⟨_,_,_,_,e,h.new_ n,i.new_ n⟩) (.cons (fun _ _ _ n ⟨_,_,_,_,e,h,i⟩=>⟨_,_,_,_,e,h.new_ n,i.new_ n⟩) (.eq (.nw (.tt (.tt (.nil))))))))) ?_ ?_ ?_
 refine .t (fun _ w hn k=>⟨_,v_load rfl (k.fx 3 dE) (l_agg Tryz.isAgg29 Tryz.sizeOf29 (cL.new_ hn) rfl),rfl⟩) ?_
 refine .o1 (tkC rfl (noG rfl) rfl fun _ w hn k=>(by
       refine ⟨#[vv v Av cv Bv dv],_,args1 (k.eq1 0 38 rfl),fun w=>by kernel_rfl,cnumeric_c v _ _ _ _ _ (hmv.new_ (ax.transNew hn)) (hsv.new_ (ax.transNew hn)) hvv,?_⟩
       rintro e w' ⟨A1,c2,A3,c4,rfl,hmo0,hmo1,hm⟩
       exact⟨_,rfl,hm,⟨A1,c2,A3,c4,rfl,hmo0,hmo1⟩⟩)) ?_
 refine .o1 (tk rfl rfl fun _ w hn k=>(by
       obtain⟨A9,dG,dH,dI,dJ,cN,cO⟩:(TP (numericV v).1 ((numericV v).2)) _ _:=k.dep 1 39 (by kernel_rfl) (by kernel_rfl)
       exact⟨_,v_move rfl dJ,⟨A9,dG,dH,dI,rfl,cN,cO⟩⟩)) ?_
 refine .o1 (tk rfl rfl fun _ w hn k=>(by
       obtain⟨dK,dL,dM,dN,dO,cP,cQ⟩:(TP (numericV v).1 ((numericV v).2)) _ _:=k.dep 2 37 (by kernel_rfl) (by kernel_rfl)
       exact⟨_,v_extract rfl dO rfl,⟨dK,dL,dM,dN,rfl,cP,cQ⟩⟩)) ?_
 refine .o3 ?_
 exact .o2 (step_allocN (cs:=z7) (t:=29) rfl (noG rfl) (fun _ w hn k=>rfl) (fun q _ hq hb=>⟨q,rfl,hq,hb⟩))<| .off<| .off .nil
 intro i h
 simp only [List.contains_eq_mem,List.mem_cons,List.not_mem_nil,or_false,decide_eq_true_eq] at h
 subst h
 exact eager_takeG rfl (noG rfl) fun _ w hn k=>(by
     obtain⟨eE,eF,eG,eH,dP,d0,d1⟩:(TP (numericV v).1 ((numericV v).2)) _ _:=k.dep 2 37 (by kernel_rfl) (by kernel_rfl)
     exact⟨_,fun w hS=>v_extract rfl dP rfl,rfl⟩)
 intro bb eI _ aM ab
 obtain⟨aN,bp,bq⟩:=aft ab a8 cK ax aM
 have cR:=ab.fx 0 dD
 have cS:=ab.fx 4 dF
 obtain⟨aI,ay,aJ,az,aA,br,bs⟩:=ab.G 3 40
 have aA:bb.eval (.tmp 40)=vv (numericV v).1 aI ay aJ az:=aA
 have bd:=ab.ge 4 41 rfl
 obtain⟨aB,be,aO,aC⟩:=ab.G 5 8
 have bt:=ba.new_ aM
 have hne119:aX ≠ aB:=by have h1:=ba.lt; have h2:=aO; omega
 have dS:=Nat.le_trans ax.size aO
 obtain⟨cT,bf,bg,aD,bu⟩:=s_many (P:=Tryz.prog) (t:=29) (i:=0) (c7 (numericV v).1 aI ay aJ az) Tryz.sizeOf29 rfl rfl rfl aC lb
 have bv:Blk cT aB 29 (c7 (numericV v).1 aI ay aJ az):=bg
 refine st_act rfl rfl fun d2 bw=>a_store' rfl be aA bf (bw _ _ trivial ?_)
 have bx:=br.fr aC aD
 have bz:=bs.fr aC aD
 have bA:=bu _ _ _ (hne119) bt
 have bB:=bq.trans aD (fun _ h b=>by subst b; omega)
 refine st_take rfl rfl (y_assign (v:=iv ((numericV v).2)) rfl bd) rfl ?_
 obtain⟨cU,aa⟩:∃ a',a'=bb.put (some 9) (iv ((numericV v).2)):=⟨_,rfl⟩
 have aP:=pz aa aN
 have bC:=pd aa bp
 have cV:=pn aa cR (by decide)
 have cW:=pn aa cS (by decide)
 have d3:=pn aa aA (by decide)
 have d4:=pn aa bd (by decide)
 have cX:=pn aa be (by decide)
 have bh:cU.eval (.tmp 9)=iv ((numericV v).2):=by rw [aa]; exact put_same _ _ _ (by rw [aN]; decide)
 show stepsTo _ _ _ _ _ (bb.put (some 9) (iv ((numericV v).2))) _
 rw [← aa]
 refine st_nil (cM _ _ (wp_seq_k fun d5 dT=>?_))
 refine wp_block ?_
 refine wp_seq_k fun d6 bD=>?_
 refine wp_g0 [true,true,true] [] 76
   [ve (iv ((numericV v).2)),ve (.bool (!decide (((numericV v).2)=0))),ve (.bool (!decide (((numericV v).2)=0)))] aP (.eq (.eq (.eq (.nil)))) ?_ ?_
 exact .m (fun k=>k.fx 9 bh)<| .t (fun _ w hn k=>⟨_,v_bin rfl (k.eq1 0 43 rfl) rfl (fun _=>rfl) (r_neq rfl),rfl⟩)<| .a (fun k=>k.eq1 1 44 rfl) .nil
 refine aftI aP bC bB fun d7 d8 aQ bE bF ai ah=>?_
 have bi:=ah.fx 0 cV
 have cY:=ah.fx 4 cW
 have bj:=ah.fx 8 cX
 have d9:=ah.fx 9 bh
 have cZ:=ah.ge 2 42 rfl
 have bG:=bA.new_ ai
 have aR:=bv.new_ ai
 have bH:=bx.new_ ai
 have bI:=bz.new_ ai
 refine st_nil (bD _ _ ?_)
 have aE:((!decide (((numericV v).2)=0)))=false:=(nf (decide_eq_true (dg)))
 have bJ:=hB cZ aE
 have aF:(decide (((numericV v).2)=0))=true:=nT aE
 have dQ:=oT aF
 refine wp_cond_false bJ ?_
 refine wp_seq_k fun ea bK=>?_
 refine wp_g0 (.replicate 8 true) [] 76
   [ve (.string ⟨#[45]⟩),vT,vT,ve (pv aB),ve (iv ((numericV v).1.k)),ve (.bool (decide (((numericV v).1.k)=4))),ve (.bool (decide (((numericV v).1.k)=4))),ve (.bool (decide (((numericV v).1.k)=4)))] aQ (.eq (.eq (.eq (.eq (.eq (.eq (.eq (.eq (.nil))))))))) ?_ ?_
 exact .m (fun k=>k.fx 0 bi)<| .t (fun _ w hn k=>⟨_,v_bin rfl (k.eq1 0 48 rfl) rfl (fun _=>rfl) (r_eqlS (r:=true) (by kernel_rfl)),rfl⟩)<| .m (fun k=>k.eq1 1 49 rfl)<| .gf (fun k=>k.eq1 2 50 rfl) (fun k=>k.fx 8 bj)<| .g (fun k=>k.eq1 2 50 rfl) (fun _ w hn k=>⟨_,v_load rfl (k.eq1 3 51 rfl) (l_one Tryz.isAgg3 ((aR.new_ hn).cell 0)),rfl⟩)<| .g (fun k=>k.eq1 2 50 rfl) (fun _ w hn k=>⟨_,v_bin rfl (k.eq1 4 52 rfl) rfl (fun _=>rfl) (r_eql rfl),rfl⟩)<| .t (fun _ w hn k=>⟨_,v_pickT rfl (k.eq1 2 50 rfl) (k.eq1 5 53 rfl),rfl⟩)<| .a (fun k=>k.eq1 6 54 rfl) .nil
 refine aftI aQ bE bF fun eb ec aS bL bM aj ak=>?_
 have c0:=ak.fx 0 bi
 have c1:=ak.fx 4 cY
 have c3:=ak.fx 8 bj
 have c5:=ak.ge 7 47 rfl
 have bN:=bG.new_ aj
 have bO:=aR.new_ aj
 have bP:=bH.new_ aj
 have bQ:=bI.new_ aj
 refine st_nil (bK _ _ ?_)
 have aG:(decide (((numericV v).1.k)=4))=false:=decide_eq_false (by omega)
 have dR:=oF aG
 have bR:=hB c5 aG
 refine wp_cond_false bR ?_
 refine wp_seq_k fun ed bS=>?_
 refine wp_g0 [true,true,true] [] 76
   [ve (.string ⟨#[45]⟩),vT,vT] aS (.eq (.eq (.eq (.nil)))) ?_ ?_
 exact .m (fun k=>k.fx 0 c0)<| .t (fun _ w hn k=>⟨_,v_bin rfl (k.eq1 0 60 rfl) rfl (fun _=>rfl) (r_eqlS (r:=true) (by kernel_rfl)),rfl⟩)<| .a (fun k=>k.eq1 1 61 rfl) .nil
 refine aftI aS bL bM fun ee ef aT bT bU al aH=>?_
 have c9:=aH.fx 4 c1
 have da:=aH.fx 8 c3
 have db:=aH.ge 2 59 rfl
 have bV:=bN.new_ al
 have bW:=bO.new_ al
 have dU:=bP.new_ al
 have dV:=bQ.new_ al
 refine st_nil (bS _ _ ?_)
 refine wp_cond_true db ?_
 refine wp_seq_k fun eg bX=>?_
 refine wp_g0 [true,true,true,true,false,false] [(4,false),(5,true)] 76
   [ve (.pointer (some ⟨aB,1,none⟩)),ve (nv (Nm.mk ((numericV v).1.nk) ((numericV v).1.nn))),ve (nv (negM (Nm.mk ((numericV v).1.nk) ((numericV v).1.nn)))),ve (vv (Vl.mk 3 (negM (Nm.mk ((numericV v).1.nk) ((numericV v).1.nn))).k (negM (Nm.mk ((numericV v).1.nk) ((numericV v).1.nn))).n false [] [] 0) none 0 none 0),vt,vt] aT (.eq (.eq (.eq (.eq (.tt (.tt (.nil))))))) ?_ ?_
 exact .f (fun k=>k.fx 8 da)<| .t (fun _ w hn k=>⟨_,v_load rfl (k.eq1 0 62 rfl) (l_part Tryz.isAgg23 Tryz.sizeOf23 (bW.new_ hn) lb),rfl⟩)<| .o1 (ck rfl rfl rfl (fun _ w hn k=>⟨#[nv (Nm.mk ((numericV v).1.nk) ((numericV v).1.nn))],args1 (k.eq1 1 63 rfl),fun _=>by kernel_rfl,nneg_c (Nm.mk ((numericV v).1.nk) ((numericV v).1.nn)) _ ⟩) fun _=>rfl)<| .o1 (ck rfl rfl rfl (fun _ w hn k=>⟨#[nv (negM (Nm.mk ((numericV v).1.nk) ((numericV v).1.nn)))],args1 (k.eq1 2 64 rfl),fun _=>by kernel_rfl,cnum_c (negM (Nm.mk ((numericV v).1.nk) ((numericV v).1.nn))) _ ⟩) fun _=>rfl)<| .off<| .off .nil
 refine aftI aT bT bU fun bk eh aU bY bZ b0 aV=>?_
 have bl:=aV.fx 4 c9
 have bm:=aV.ge 3 65 rfl
 have b1:=bV.new_ b0
 obtain⟨dc,bn,bo,b2,dW⟩:=s_many (P:=Tryz.prog) (t:=29) (i:=0) [iv 3,iv ((negM (Nm.mk ((numericV v).1.nk) ((numericV v).1.nn))).k),iv ((negM (Nm.mk ((numericV v).1.nk) ((numericV v).1.nn))).n),.bool false,sv none ([]) 0,sv none ([]) 0,iv 0] Tryz.sizeOf29 rfl rfl rfl b1 lb
 have b3:Blk dc aX 29 [iv 3,iv ((negM (Nm.mk ((numericV v).1.nk) ((numericV v).1.nn))).k),iv ((negM (Nm.mk ((numericV v).1.nk) ((numericV v).1.nn))).n),.bool false,sv none ([]) 0,sv none ([]) 0,iv 0]:=bo
 refine st_act rfl rfl fun ei b4=>a_store' rfl bl bm bn (b4 _ _ trivial ?_)
 have b5:=bZ.trans b2 (fun _ h b=>by subst b; omega)
 refine st_take rfl rfl (y_assign (v:=iv 0) rfl rfl) rfl ?_
 obtain⟨dd,ac⟩:∃ a',a'=bk.put (some 5) (iv 0):=⟨_,rfl⟩
 have dX:=pz ac aU
 have b6:=pd ac bY
 have de:=pn ac bl (by decide)
 have ej:=pn ac bm (by decide)
 have df:dd.eval (.tmp 5)=iv 0:=by rw [ac]; exact put_same _ _ _ (by rw [aU]; decide)
 show stepsTo _ _ _ _ _ (bk.put (some 5) (iv 0)) _
 rw [← ac]
 refine st_nil (bX _ _ ?_)
 refine wp_ret (ret_k b6 (v:=.tuple #[vv (Vl.mk 3 (negM (Nm.mk ((numericV v).1.nk) ((numericV v).1.nn))).k (negM (Nm.mk ((numericV v).1.nk) ((numericV v).1.nn))).n false [] [] 0) none 0 none 0,iv 0]) (res_ct rfl de df (l_agg Tryz.isAgg29 Tryz.sizeOf29 b3 rfl)) ?_)
 refine ⟨?_,b5⟩
 show Ending.returned (.tuple #[vv (Vl.mk 3 (negM (Nm.mk ((numericV v).1.nk) ((numericV v).1.nn))).k (negM (Nm.mk ((numericV v).1.nk) ((numericV v).1.nn))).n false [] [] 0) none 0 none 0,iv 0])=Ending.returned (.tuple #[vv (Vl.mk 3 (negM (Nm.mk (numericV v).1.nk (numericV v).1.nn)).k (negM (Nm.mk (numericV v).1.nk (numericV v).1.nn)).n false [] [] 0) none 0 none 0,iv 0])
 first|rfl|(simp only [aE,aF,aF,aG,bsm] <;> rfl)|(exfalso; omega)
def ops_c_P  (w:World) (en:Ending) (w':World):Prop:=∃ (Ar0:Option Addr) (cr0:Nat),en=.returned (svT Ar0 ([⟨#[43]⟩,⟨#[45]⟩,⟨#[42]⟩,⟨#[47]⟩,⟨#[37]⟩,⟨#[38]⟩,⟨#[124]⟩,⟨#[94]⟩,⟨#[60,60]⟩,⟨#[62,62]⟩,⟨#[62,62,62]⟩,⟨#[60]⟩,⟨#[62]⟩,⟨#[60,61]⟩,⟨#[62,61]⟩,⟨#[61,61]⟩,⟨#[33,61]⟩,⟨#[61,61,61]⟩,⟨#[33,61,61]⟩]) cr0)∧TRow w' Ar0 ([⟨#[43]⟩,⟨#[45]⟩,⟨#[42]⟩,⟨#[47]⟩,⟨#[37]⟩,⟨#[38]⟩,⟨#[124]⟩,⟨#[94]⟩,⟨#[60,60]⟩,⟨#[62,62]⟩,⟨#[62,62,62]⟩,⟨#[60]⟩,⟨#[62]⟩,⟨#[60,61]⟩,⟨#[62,61]⟩,⟨#[61,61]⟩,⟨#[33,61]⟩,⟨#[61,61,61]⟩,⟨#[33,61,61]⟩]) cr0∧New w w'
theorem ops_c  (w:World):Calls Tryz.prog 32 #[] w (ops_c_P  w):=by
 refine enter_abs Tryz.func32 rfl fun a0 ac ak hp=>?_
 have ac:a0.tmps.size=2:=ac
 have al:New w w:=Upd.refl _ _
 refine wp_seq_k fun K1 am=>?_
 refine wp_g0 [true] [] 2
   [ve (sv none ([]) 0)] ac (.eq (.nil)) ?_ ?_
 exact .t (fun _ w hn k=>⟨_,v_assign rfl rfl,rfl⟩) .nil
 refine aftI ac ak al fun a2 w3 af an ao aw ax=>?_
 refine st_nil (am _ _ (wp_seq_k fun K9 ap=>?_))
 refine wp_g0 [true,true] [] 2
   [(fun (v_:Value) (W:World)=>∃ (A3:Option Addr) (c4:Nat),v_=svT A3 ([⟨#[43]⟩,⟨#[45]⟩,⟨#[42]⟩,⟨#[47]⟩,⟨#[37]⟩,⟨#[38]⟩,⟨#[124]⟩,⟨#[94]⟩,⟨#[60,60]⟩,⟨#[62,62]⟩,⟨#[62,62,62]⟩,⟨#[60]⟩,⟨#[62]⟩,⟨#[60,61]⟩,⟨#[62,61]⟩,⟨#[61,61]⟩,⟨#[33,61]⟩,⟨#[61,61,61]⟩,⟨#[33,61,61]⟩]) c4∧TRow W A3 ([⟨#[43]⟩,⟨#[45]⟩,⟨#[42]⟩,⟨#[47]⟩,⟨#[37]⟩,⟨#[38]⟩,⟨#[124]⟩,⟨#[94]⟩,⟨#[60,60]⟩,⟨#[62,62]⟩,⟨#[62,62,62]⟩,⟨#[60]⟩,⟨#[62]⟩,⟨#[60,61]⟩,⟨#[62,61]⟩,⟨#[61,61]⟩,⟨#[33,61]⟩,⟨#[61,61,61]⟩,⟨#[33,61,61]⟩]) c4),(fun (v_:Value) (W:World)=>∃ (A9:Option Addr) (aa:Nat),v_=svT A9 ([⟨#[43]⟩,⟨#[45]⟩,⟨#[42]⟩,⟨#[47]⟩,⟨#[37]⟩,⟨#[38]⟩,⟨#[124]⟩,⟨#[94]⟩,⟨#[60,60]⟩,⟨#[62,62]⟩,⟨#[62,62,62]⟩,⟨#[60]⟩,⟨#[62]⟩,⟨#[60,61]⟩,⟨#[62,61]⟩,⟨#[61,61]⟩,⟨#[33,61]⟩,⟨#[61,61,61]⟩,⟨#[33,61,61]⟩]) aa∧TRow W A9 ([⟨#[43]⟩,⟨#[45]⟩,⟨#[42]⟩,⟨#[47]⟩,⟨#[37]⟩,⟨#[38]⟩,⟨#[124]⟩,⟨#[94]⟩,⟨#[60,60]⟩,⟨#[62,62]⟩,⟨#[62,62,62]⟩,⟨#[60]⟩,⟨#[62]⟩,⟨#[60,61]⟩,⟨#[62,61]⟩,⟨#[61,61]⟩,⟨#[33,61]⟩,⟨#[61,61,61]⟩,⟨#[33,61,61]⟩]) aa)] af (.cons (fun _ _ _ n ⟨_,_,e,h⟩=>⟨_,_,e,h.new_ n⟩) (.cons (fun _ _ _ n ⟨_,_,e,h⟩=>⟨_,_,e,h.new_ n⟩) (.nil))) ?_ ?_
 refine .o1 (tkA rfl (noG rfl) fun _ w hn k=>(by
       exact x_bsliceT (ps:=[(0,.string ⟨#[43]⟩),(1,.string ⟨#[45]⟩),(2,.string ⟨#[42]⟩),(3,.string ⟨#[47]⟩),(4,.string ⟨#[37]⟩),(5,.string ⟨#[38]⟩),(6,.string ⟨#[124]⟩),(7,.string ⟨#[94]⟩),(8,.string ⟨#[60,60]⟩),(9,.string ⟨#[62,62]⟩),(10,.string ⟨#[62,62,62]⟩),(11,.string ⟨#[60]⟩),(12,.string ⟨#[62]⟩),(13,.string ⟨#[60,61]⟩),(14,.string ⟨#[62,61]⟩),(15,.string ⟨#[61,61]⟩),(16,.string ⟨#[33,61]⟩),(17,.string ⟨#[61,61,61]⟩),(18,.string ⟨#[33,61,61]⟩)]) [⟨#[43]⟩,⟨#[45]⟩,⟨#[42]⟩,⟨#[47]⟩,⟨#[37]⟩,⟨#[38]⟩,⟨#[124]⟩,⟨#[94]⟩,⟨#[60,60]⟩,⟨#[62,62]⟩,⟨#[62,62,62]⟩,⟨#[60]⟩,⟨#[62]⟩,⟨#[60,61]⟩,⟨#[62,61]⟩,⟨#[61,61]⟩,⟨#[33,61]⟩,⟨#[61,61,61]⟩,⟨#[33,61,61]⟩] rfl (by simp [Act.eval]) elT rfl (by omega) (by omega) (by kernel_rfl) fun A1 c2 W' hmo=>⟨A1,c2,rfl,hmo⟩)) ?_
 refine .o1 (tk rfl rfl fun _ w hn k=>(by
       obtain⟨A5,c6,e7,aq⟩:(fun (v_:Value) (W:World)=>∃ (A3:Option Addr) (c4:Nat),v_=svT A3 ([⟨#[43]⟩,⟨#[45]⟩,⟨#[42]⟩,⟨#[47]⟩,⟨#[37]⟩,⟨#[38]⟩,⟨#[124]⟩,⟨#[94]⟩,⟨#[60,60]⟩,⟨#[62,62]⟩,⟨#[62,62,62]⟩,⟨#[60]⟩,⟨#[62]⟩,⟨#[60,61]⟩,⟨#[62,61]⟩,⟨#[61,61]⟩,⟨#[33,61]⟩,⟨#[61,61,61]⟩,⟨#[33,61,61]⟩]) c4∧TRow W A3 ([⟨#[43]⟩,⟨#[45]⟩,⟨#[42]⟩,⟨#[47]⟩,⟨#[37]⟩,⟨#[38]⟩,⟨#[124]⟩,⟨#[94]⟩,⟨#[60,60]⟩,⟨#[62,62]⟩,⟨#[62,62,62]⟩,⟨#[60]⟩,⟨#[62]⟩,⟨#[60,61]⟩,⟨#[62,61]⟩,⟨#[61,61]⟩,⟨#[33,61]⟩,⟨#[61,61,61]⟩,⟨#[33,61,61]⟩]) c4) _ _:=k.dep 0 1 (by kernel_rfl) (by kernel_rfl)
       exact⟨_,v_assign rfl e7,⟨A5,c6,rfl,aq⟩⟩)) ?_
 exact .nil
 refine aftI af an ao fun ar ay au ag ah av ai=>?_
 obtain⟨ad,ab,ae,aj⟩:=ai.G 1 0
 have ae:ar.eval (.tmp 0)=svT ad ([⟨#[43]⟩,⟨#[45]⟩,⟨#[42]⟩,⟨#[47]⟩,⟨#[37]⟩,⟨#[38]⟩,⟨#[124]⟩,⟨#[94]⟩,⟨#[60,60]⟩,⟨#[62,62]⟩,⟨#[62,62,62]⟩,⟨#[60]⟩,⟨#[62]⟩,⟨#[60,61]⟩,⟨#[62,61]⟩,⟨#[61,61]⟩,⟨#[33,61]⟩,⟨#[61,61,61]⟩,⟨#[33,61,61]⟩]) ab:=ae
 refine st_nil (ap _ _ ?_)
 refine wp_ret (ret_k ag (v:=svT ad ([⟨#[43]⟩,⟨#[45]⟩,⟨#[42]⟩,⟨#[47]⟩,⟨#[37]⟩,⟨#[38]⟩,⟨#[124]⟩,⟨#[94]⟩,⟨#[60,60]⟩,⟨#[62,62]⟩,⟨#[62,62,62]⟩,⟨#[60]⟩,⟨#[62]⟩,⟨#[60,61]⟩,⟨#[62,61]⟩,⟨#[61,61]⟩,⟨#[33,61]⟩,⟨#[61,61,61]⟩,⟨#[33,61,61]⟩]) ab) (res_t rfl ae _) ?_)
 exact⟨ad,ab,rfl,aj,ah⟩
def rops_c_P  (w:World) (en:Ending) (w':World):Prop:=∃ (Ar0:Option Addr) (cr0:Nat),en=.returned (svT Ar0 ([⟨#[43]⟩,⟨#[45]⟩,⟨#[42]⟩,⟨#[47]⟩,⟨#[37]⟩,⟨#[38]⟩,⟨#[124]⟩,⟨#[94]⟩,⟨#[60,60]⟩,⟨#[62,62]⟩,⟨#[62,62,62]⟩,⟨#[60]⟩,⟨#[62]⟩,⟨#[60,61]⟩,⟨#[62,61]⟩,⟨#[61,61]⟩,⟨#[33,61]⟩,⟨#[61,61,61]⟩,⟨#[33,61,61]⟩]) cr0)∧TRow w' Ar0 ([⟨#[43]⟩,⟨#[45]⟩,⟨#[42]⟩,⟨#[47]⟩,⟨#[37]⟩,⟨#[38]⟩,⟨#[124]⟩,⟨#[94]⟩,⟨#[60,60]⟩,⟨#[62,62]⟩,⟨#[62,62,62]⟩,⟨#[60]⟩,⟨#[62]⟩,⟨#[60,61]⟩,⟨#[62,61]⟩,⟨#[61,61]⟩,⟨#[33,61]⟩,⟨#[61,61,61]⟩,⟨#[33,61,61]⟩]) cr0∧New w w'
theorem rops_c  (w:World):Calls Tryz.prog 33 #[] w (rops_c_P  w):=by
 refine enter_abs Tryz.func33 rfl fun a0 ac ak hp=>?_
 have ac:a0.tmps.size=2:=ac
 have al:New w w:=Upd.refl _ _
 refine wp_seq_k fun K1 am=>?_
 refine wp_g0 [true] [] 2
   [ve (sv none ([]) 0)] ac (.eq (.nil)) ?_ ?_
 exact .t (fun _ w hn k=>⟨_,v_assign rfl rfl,rfl⟩) .nil
 refine aftI ac ak al fun a2 w3 af an ao aw ax=>?_
 refine st_nil (am _ _ (wp_seq_k fun K9 ap=>?_))
 refine wp_g0 [true,true] [] 2
   [(fun (v_:Value) (W:World)=>∃ (A3:Option Addr) (c4:Nat),v_=svT A3 ([⟨#[43]⟩,⟨#[45]⟩,⟨#[42]⟩,⟨#[47]⟩,⟨#[37]⟩,⟨#[38]⟩,⟨#[124]⟩,⟨#[94]⟩,⟨#[60,60]⟩,⟨#[62,62]⟩,⟨#[62,62,62]⟩,⟨#[60]⟩,⟨#[62]⟩,⟨#[60,61]⟩,⟨#[62,61]⟩,⟨#[61,61]⟩,⟨#[33,61]⟩,⟨#[61,61,61]⟩,⟨#[33,61,61]⟩]) c4∧TRow W A3 ([⟨#[43]⟩,⟨#[45]⟩,⟨#[42]⟩,⟨#[47]⟩,⟨#[37]⟩,⟨#[38]⟩,⟨#[124]⟩,⟨#[94]⟩,⟨#[60,60]⟩,⟨#[62,62]⟩,⟨#[62,62,62]⟩,⟨#[60]⟩,⟨#[62]⟩,⟨#[60,61]⟩,⟨#[62,61]⟩,⟨#[61,61]⟩,⟨#[33,61]⟩,⟨#[61,61,61]⟩,⟨#[33,61,61]⟩]) c4),(fun (v_:Value) (W:World)=>∃ (A9:Option Addr) (aa:Nat),v_=svT A9 ([⟨#[43]⟩,⟨#[45]⟩,⟨#[42]⟩,⟨#[47]⟩,⟨#[37]⟩,⟨#[38]⟩,⟨#[124]⟩,⟨#[94]⟩,⟨#[60,60]⟩,⟨#[62,62]⟩,⟨#[62,62,62]⟩,⟨#[60]⟩,⟨#[62]⟩,⟨#[60,61]⟩,⟨#[62,61]⟩,⟨#[61,61]⟩,⟨#[33,61]⟩,⟨#[61,61,61]⟩,⟨#[33,61,61]⟩]) aa∧TRow W A9 ([⟨#[43]⟩,⟨#[45]⟩,⟨#[42]⟩,⟨#[47]⟩,⟨#[37]⟩,⟨#[38]⟩,⟨#[124]⟩,⟨#[94]⟩,⟨#[60,60]⟩,⟨#[62,62]⟩,⟨#[62,62,62]⟩,⟨#[60]⟩,⟨#[62]⟩,⟨#[60,61]⟩,⟨#[62,61]⟩,⟨#[61,61]⟩,⟨#[33,61]⟩,⟨#[61,61,61]⟩,⟨#[33,61,61]⟩]) aa)] af (.cons (fun _ _ _ n ⟨_,_,e,h⟩=>⟨_,_,e,h.new_ n⟩) (.cons (fun _ _ _ n ⟨_,_,e,h⟩=>⟨_,_,e,h.new_ n⟩) (.nil))) ?_ ?_
 refine .o1 (tkA rfl (noG rfl) fun _ w hn k=>(by
       exact x_bsliceT (ps:=[(0,.string ⟨#[43]⟩),(1,.string ⟨#[45]⟩),(2,.string ⟨#[42]⟩),(3,.string ⟨#[47]⟩),(4,.string ⟨#[37]⟩),(5,.string ⟨#[38]⟩),(6,.string ⟨#[124]⟩),(7,.string ⟨#[94]⟩),(8,.string ⟨#[60,60]⟩),(9,.string ⟨#[62,62]⟩),(10,.string ⟨#[62,62,62]⟩),(11,.string ⟨#[60]⟩),(12,.string ⟨#[62]⟩),(13,.string ⟨#[60,61]⟩),(14,.string ⟨#[62,61]⟩),(15,.string ⟨#[61,61]⟩),(16,.string ⟨#[33,61]⟩),(17,.string ⟨#[61,61,61]⟩),(18,.string ⟨#[33,61,61]⟩)]) [⟨#[43]⟩,⟨#[45]⟩,⟨#[42]⟩,⟨#[47]⟩,⟨#[37]⟩,⟨#[38]⟩,⟨#[124]⟩,⟨#[94]⟩,⟨#[60,60]⟩,⟨#[62,62]⟩,⟨#[62,62,62]⟩,⟨#[60]⟩,⟨#[62]⟩,⟨#[60,61]⟩,⟨#[62,61]⟩,⟨#[61,61]⟩,⟨#[33,61]⟩,⟨#[61,61,61]⟩,⟨#[33,61,61]⟩] rfl (by simp [Act.eval]) elT rfl (by omega) (by omega) (by kernel_rfl) fun A1 c2 W' hmo=>⟨A1,c2,rfl,hmo⟩)) ?_
 refine .o1 (tk rfl rfl fun _ w hn k=>(by
       obtain⟨A5,c6,e7,aq⟩:(fun (v_:Value) (W:World)=>∃ (A3:Option Addr) (c4:Nat),v_=svT A3 ([⟨#[43]⟩,⟨#[45]⟩,⟨#[42]⟩,⟨#[47]⟩,⟨#[37]⟩,⟨#[38]⟩,⟨#[124]⟩,⟨#[94]⟩,⟨#[60,60]⟩,⟨#[62,62]⟩,⟨#[62,62,62]⟩,⟨#[60]⟩,⟨#[62]⟩,⟨#[60,61]⟩,⟨#[62,61]⟩,⟨#[61,61]⟩,⟨#[33,61]⟩,⟨#[61,61,61]⟩,⟨#[33,61,61]⟩]) c4∧TRow W A3 ([⟨#[43]⟩,⟨#[45]⟩,⟨#[42]⟩,⟨#[47]⟩,⟨#[37]⟩,⟨#[38]⟩,⟨#[124]⟩,⟨#[94]⟩,⟨#[60,60]⟩,⟨#[62,62]⟩,⟨#[62,62,62]⟩,⟨#[60]⟩,⟨#[62]⟩,⟨#[60,61]⟩,⟨#[62,61]⟩,⟨#[61,61]⟩,⟨#[33,61]⟩,⟨#[61,61,61]⟩,⟨#[33,61,61]⟩]) c4) _ _:=k.dep 0 1 (by kernel_rfl) (by kernel_rfl)
       exact⟨_,v_assign rfl e7,⟨A5,c6,rfl,aq⟩⟩)) ?_
 exact .nil
 refine aftI af an ao fun ar ay au ag ah av ai=>?_
 obtain⟨ad,ab,ae,aj⟩:=ai.G 1 0
 have ae:ar.eval (.tmp 0)=svT ad ([⟨#[43]⟩,⟨#[45]⟩,⟨#[42]⟩,⟨#[47]⟩,⟨#[37]⟩,⟨#[38]⟩,⟨#[124]⟩,⟨#[94]⟩,⟨#[60,60]⟩,⟨#[62,62]⟩,⟨#[62,62,62]⟩,⟨#[60]⟩,⟨#[62]⟩,⟨#[60,61]⟩,⟨#[62,61]⟩,⟨#[61,61]⟩,⟨#[33,61]⟩,⟨#[61,61,61]⟩,⟨#[33,61,61]⟩]) ab:=ae
 refine st_nil (ap _ _ ?_)
 refine wp_ret (ret_k ag (v:=svT ad ([⟨#[43]⟩,⟨#[45]⟩,⟨#[42]⟩,⟨#[47]⟩,⟨#[37]⟩,⟨#[38]⟩,⟨#[124]⟩,⟨#[94]⟩,⟨#[60,60]⟩,⟨#[62,62]⟩,⟨#[62,62,62]⟩,⟨#[60]⟩,⟨#[62]⟩,⟨#[60,61]⟩,⟨#[62,61]⟩,⟨#[61,61]⟩,⟨#[33,61]⟩,⟨#[61,61,61]⟩,⟨#[33,61,61]⟩]) ab) (res_t rfl ae _) ?_)
 exact⟨ad,ab,rfl,aj,ah⟩
theorem texts_c (Aa:Option Addr) (a:List ByteArray) (ca:Nat) (Ab:Option Addr) (b:List ByteArray) (cb:Nat) (w:World) (hra:TRow w Aa a ca) (hrb:TRow w Ab b cb) (hab:a=b):Calls Tryz.prog 31 #[svT Aa a ca,svT Ab b cb] w (IsRet (.bool true) w):=by
 refine enter_abs Tryz.func31 rfl fun a0 ak bg hp=>?_
 have ak:a0.tmps.size=26:=ak
 have bh:New w w:=Upd.refl _ _
 have hp0:a0.eval (.tmp 0)=svT Aa a ca:=hp 0 _ rfl
 have hp1:a0.eval (.tmp 1)=svT Ab b cb:=hp 1 _ rfl
 have hmx:=hra.max
 have hmy:=hrb.max
 have hlab:a.length=b.length:=by rw [hab]
 refine wp_seq_k fun K1 bi=>?_
 refine wp_g0 [true] [] 26
   [vF] ak (.eq (.nil)) ?_ ?_
 exact .t (fun _ w hn k=>⟨_,v_assign rfl rfl,rfl⟩) .nil
 refine aftI ak bg bh fun a2 w3 az bj aJ bP aA=>?_
 have h8:=aA.fx 0 hp0
 have h9:=aA.fx 1 hp1
 refine st_nil (bi _ _ (wp_seq_k fun bQ aK=>?_))
 refine wp_seq_k fun bR aL=>?_
 refine wp_g0 [true,true,true,true,true] [] 26
   [ve (svT Aa a ca),ve (iv (a.length:Int)),ve (svT Ab b cb),ve (iv (b.length:Int)),ve (.bool (!decide ((a.length:Int)=(b.length:Int))))] az (.eq (.eq (.eq (.eq (.eq (.nil)))))) ?_ ?_
 exact .m (fun k=>k.fx 0 h8)<| .t (fun _ w hn k=>⟨_,v_lenT rfl elT (k.eq1 0 6 rfl),rfl⟩)<| .m (fun k=>k.fx 1 h9)<| .t (fun _ w hn k=>⟨_,v_lenT rfl elT (k.eq1 2 8 rfl),rfl⟩)<| .t (fun _ w hn k=>⟨_,v_bin rfl (k.eq1 1 7 rfl) (k.eq1 3 9 rfl) (fun _=>rfl) (r_neq rfl),rfl⟩) .nil
 refine aftI az bj aJ fun bS bT al aM aN bJ ai=>?_
 have bk:=ai.fx 0 h8
 have bl:=ai.fx 1 h9
 have bm:=ai.ge 4 10 rfl
 refine st_nil (aL _ _ ?_)
 have am:((!decide ((a.length:Int)=(b.length:Int))))=false:=(nf (decide_eq_true (by omega)))
 have aO:=hB bm am
 have aP:(decide ((a.length:Int)=(b.length:Int)))=true:=nT am
 have bG:=oT aP
 refine wp_cond_false aO ?_
 refine wp_skip ?_
 refine aK _ _ ?_
 refine wp_seq_k fun bU aQ=>?_
 refine wp_seq_k fun bV aR=>?_
 refine wp_g0 [true] [] 26
   [ve (iv 0)] al (.eq (.nil)) ?_ ?_
 exact .t (fun _ w hn k=>⟨_,v_assign rfl rfl,rfl⟩) .nil
 refine aftI al aM aN fun bW bX aS aT aU bK aj=>?_
 have bn:=aj.fx 0 bk
 have bo:=aj.fx 1 bl
 have bp:=aj.ge 0 5 rfl
 refine st_nil (aR _ _ ?_)
 refine wp_block ?_
 refine wp_loopX (fun (mm:Nat) (aa:Act) (ww:World)=>∃ (i:Nat),mm=a.length - i∧aa.tmps.size=26∧aa.defers=[]∧New w ww∧aa.eval (.tmp 5)=iv (i:Int)∧aa.eval (.tmp 0)=svT Aa a ca∧aa.eval (.tmp 1)=svT Ab b cb∧(i≤a.length)) (fun mm=>mm) ⟨_,⟨0,rfl,aS,aT,aU,bp,bn,bo,(Nat.zero_le _)⟩⟩ ?_
 rintro mm bY bZ ⟨i,hmm,an,aV,aW,aB,aC,bq,hi⟩
 refine wp_seq_k fun b0 aX=>?_
 refine wp_seq_k fun b2 aY=>?_
 refine wp_g0 [true,true,true,true] [] 26
   [ve (iv (i:Int)),ve (svT Aa a ca),ve (iv (a.length:Int)),ve (.bool (decide ((i:Int) < (a.length:Int))))] an (.eq (.eq (.eq (.eq (.nil))))) ?_ ?_
 exact .m (fun k=>k.fx 5 aB)<| .m (fun k=>k.fx 0 aC)<| .t (fun _ w hn k=>⟨_,v_lenT rfl elT (k.eq1 1 12 rfl),rfl⟩)<| .t (fun _ w hn k=>⟨_,v_bin rfl (k.eq1 0 11 rfl) (k.eq1 2 13 rfl) (fun _=>rfl) (r_lssK rfl),rfl⟩) .nil
 refine aftI an aV aW fun b4 b6 ad ao ae bL af=>?_
 have ap:=af.fx 5 aB
 have aD:=af.fx 0 aC
 have aE:=af.fx 1 bq
 have aF:=af.ge 3 14 rfl
 refine st_nil (aY _ _ ?_)
 rcases bc (decide ((i:Int) < (a.length:Int))) with ac|ac
 have av:=oT ac
 have aZ:=hB aF ac
 refine wp_cond_true aZ ?_
 refine wp_skip ?_
 refine aX _ _ ?_
 refine wp_seq_k fun b7 a1=>?_
 refine wp_block ?_
 refine wp_seq_k fun b8 a3=>?_
 refine wp_g0 (.replicate 9 true) [] 26
   [ve (svT Aa a ca),ve (iv (i:Int)),
    (EP (.string (a.getD i ⟨#[]⟩))),ve (.string (a.getD i ⟨#[]⟩)),ve (svT Ab b cb),ve (iv (i:Int)),
    (EP (.string (b.getD i ⟨#[]⟩))),ve (.string (b.getD i ⟨#[]⟩)),ve (.bool (!strEq (a.getD i ⟨#[]⟩) (b.getD i ⟨#[]⟩)))] ad (.eq (.eq (.cons (fun _ _ _ n ⟨_,_,e,h⟩=>⟨_,_,e,h.new_ n⟩) (.eq (.eq (.eq (.cons (fun _ _ _ n ⟨_,_,e,h⟩=>⟨_,_,e,h.new_ n⟩) (.eq (.eq (.nil)))))))))) ?_ ?_
 refine .m (fun k=>k.fx 0 aD)<| .m (fun k=>k.fx 5 ap) ?_
 refine .o1 (tk rfl rfl fun _ w hn k=>(by
       exact x_eaddrT rfl elT (k.eq1 0 17 rfl) (k.eq1 1 18 rfl) (hra.new_ (ae.transNew hn)) (by omega) fun b1 o2 hme=>⟨b1,o2,rfl,hme⟩)) ?_
 refine .o1 (tk rfl rfl fun _ w hn k=>(by
       obtain⟨b5,o6,e7,bt⟩:(EP (.string (a.getD i ⟨#[]⟩))) _ _:=k.dep 2 19 (by kernel_rfl) (by kernel_rfl)
       exact⟨_,v_load rfl e7 (l_one Tryz.isAgg9 bt.1),rfl⟩)) ?_
 refine .m (fun k=>k.fx 1 aE)<| .m (fun k=>k.fx 5 ap) ?_
 refine .o1 (tk rfl rfl fun _ w hn k=>(by
       exact x_eaddrT rfl elT (k.eq1 4 21 rfl) (k.eq1 5 22 rfl) (hrb.new_ (ae.transNew hn)) (by omega) fun b9 bu hme=>⟨b9,bu,rfl,hme⟩)) ?_
 refine .o1 (tk rfl rfl fun _ w hn k=>(by
       obtain⟨cc,cd,bv,a4⟩:(EP (.string (b.getD i ⟨#[]⟩))) _ _:=k.dep 6 23 (by kernel_rfl) (by kernel_rfl)
       exact⟨_,v_load rfl bv (l_one Tryz.isAgg9 a4.1),rfl⟩)) ?_
 exact .t (fun _ w hn k=>⟨_,v_bin rfl (k.eq1 3 20 rfl) (k.eq1 7 24 rfl) (fun _=>rfl) (r_neqS rfl),rfl⟩) .nil
 refine aftI ad ao ae fun ce cf aq a5 a6 bM ag=>?_
 have aG:=ag.fx 5 ap
 have bw:=ag.fx 0 aD
 have bx:=ag.fx 1 aE
 have bz:=ag.ge 8 25 rfl
 refine st_nil (a3 _ _ ?_)
 have ar:((!strEq (a.getD i ⟨#[]⟩) (b.getD i ⟨#[]⟩)))=false:=(nf (by rw [hab]; exact str_self _))
 have a7:=hB bz ar
 have bN:(strEq (a.getD i ⟨#[]⟩) (b.getD i ⟨#[]⟩))=true:=nT ar
 refine wp_cond_false a7 ?_
 refine wp_skip ?_
 refine a1 _ _ ?_
 refine wp_g0 [true,true,false] [(2,true)] 26
   [ve (iv (i:Int)),ve (iv ((i + 1:Nat):Int)),vt] aq (.eq (.eq (.tt (.nil)))) ?_ ?_
 exact .m (fun k=>k.fx 5 aG)<| .t (fun _ w hn k=>⟨_,v_bin rfl (k.eq1 0 15 rfl) rfl (fun _=>rfl) (n_add (by omega) (IntWalk.i64_in _ (by omega))),rfl⟩)<| .off .nil
 refine aftI aq a5 a6 fun aH ch au a8 a9 bO ah=>?_
 have ci:=ah.fx 5 aG
 have bA:=ah.fx 0 bw
 have bB:=ah.fx 1 bx
 have aI:=ah.ge 1 16 rfl
 refine st_take rfl rfl (y_assign (v:=iv ((i + 1:Nat):Int)) rfl aI) rfl ?_
 obtain⟨bC,ab⟩:∃ a',a'=aH.put (some 5) (iv ((i + 1:Nat):Int)):=⟨_,rfl⟩
 have ba:=pz ab au
 have bb:=pd ab a8
 have bD:=pn ab bA (by decide)
 have bE:=pn ab bB (by decide)
 have cj:=pn ab aI (by decide)
 have bF:bC.eval (.tmp 5)=iv ((i + 1:Nat):Int):=by rw [ab]; exact put_same _ _ _ (by rw [au]; decide)
 show stepsTo _ _ _ _ _ (aH.put (some 5) (iv ((i + 1:Nat):Int))) _
 rw [← ab]
 refine st_nil ?_
 refine then_n ?_
 exact⟨_,⟨i + 1,rfl,ba,bb,a9,(bF.trans (congrArg (Value.int .i64) (by omega))),bD,bE,(by omega)⟩,(by omega)⟩
 have av:=oF ac
 have bd:=hB aF ac
 refine wp_cond_false bd ?_
 refine wp_exit ?_
 refine aQ _ _ ?_
 refine wp_seq_k fun cl be=>?_
 refine wp_g0 [true] [] 26
   [vT] ad (.eq (.nil)) ?_ ?_
 exact .t (fun _ w hn k=>⟨_,v_assign rfl rfl,rfl⟩) .nil
 refine aftI ad ao ae fun cm cn bH aw ax bI ay=>?_
 have bf:=ay.ge 0 4 rfl
 refine st_nil (be _ _ ?_)
 refine wp_ret (ret_k aw (v:=.bool true) (res_t rfl bf _) ?_)
 exact⟨rfl,ax⟩
def obig_c_P (Am:Option Addr) (m:List Nat) (cm:Nat) (w:World) (en:Ending) (w':World):Prop:=∃ (Ar0:Option Addr) (cr0:Nat),en=.returned (vv (Vl.mk 4 0 0 false m [] 0) Ar0 cr0 none 0)∧SRow w' .u32 Ar0 m cr0∧New w w'
theorem obig_c (Am:Option Addr) (m:List Nat) (cm:Nat) (w:World) (hrm:SRow w .u32 Am m cm):Calls Tryz.prog 30 #[sv Am m cm] w (obig_c_P Am m cm w):=by
 refine enter_abs Tryz.func30 rfl fun a0 aa aw hp=>?_
 have aa:a0.tmps.size=6:=aa
 have af:New w w:=Upd.refl _ _
 have hp0:a0.eval (.tmp 0)=sv Am m cm:=hp 0 _ rfl
 refine wp_seq_k fun K1 ax=>?_
 refine wp_g [true] [] [] 6
   [IsNew w 29 z7]
   [0] (newsCons (fun v w h=>IsNew.old h) newsNil) aa (.nw (.nil)) ?_ (fun i h=>by cases h) ?_
 exact .o2 (step_allocN (cs:=z7) (t:=29) rfl (noG rfl) (fun _ w hn k=>rfl) (fun q _ hq hb=>⟨q,rfl,hq,hb⟩)) .nil
 refine aftI aa aw af fun a2 w3 ag ay aj aF ah=>?_
 have h8:=ah.fx 0 hp0
 obtain⟨az,h9,ak,al⟩:=ah.G 0 2
 have aC:=Nat.le_trans af.size ak
 refine st_nil (ax _ _ (wp_seq_k fun aG am=>?_))
 refine wp_g0 [true,true,true,false] [(3,false)] 6
   [ve (sv Am m cm),ve (.agg #[.bool false,sv Am m cm]),ve (vv (Vl.mk 4 0 0 false m [] 0) Am cm none 0),vt] ag (.eq (.eq (.eq (.tt (.nil))))) ?_ ?_
 exact .m (fun k=>k.fx 0 h8)<| .t (fun _ w hn k=>⟨_,v_build (ps:=[(1,sv Am m cm)]) rfl (parts1 (k.eq1 0 3 rfl)) (by kernel_rfl),rfl⟩)<| .t (fun _ w hn k=>⟨_,v_build (ps:=[(0,iv 4),(2,.agg #[.bool false,sv Am m cm])]) rfl (parts2 rfl (k.eq1 1 4 rfl)) (by kernel_rfl),rfl⟩)<| .off .nil
 refine aftI ag ay aj fun aH aI aD an ao ap ab=>?_
 have ai:=ab.fx 2 h9
 have aA:=ab.ge 2 5 rfl
 have aq:=al.new_ ap
 obtain⟨aB,ad,ae,ar,aE⟩:=s_many (P:=Tryz.prog) (t:=29) (i:=0) [iv 4,iv 0,iv 0,.bool false,sv Am m cm,sv none ([]) 0,iv 0] Tryz.sizeOf29 rfl rfl rfl aq lb
 have au:Blk aB az 29 [iv 4,iv 0,iv 0,.bool false,sv Am m cm,sv none ([]) 0,iv 0]:=ae
 refine st_act rfl rfl fun aJ av=>a_store' rfl ai aA ad (av _ _ trivial ?_)
 have ac:=ao.trans ar (fun _ h b=>by subst b; omega)
 refine st_nil (am _ _ ?_)
 refine wp_ret (ret_k an (v:=vv (Vl.mk 4 0 0 false m [] 0) Am cm none 0) (res_c rfl ai (l_agg Tryz.isAgg29 Tryz.sizeOf29 au rfl)) ?_)
 exact⟨Am,cm,rfl,(hrm.new_ ac),ac⟩
def ostr_c_P (s:ByteArray) (w:World) (en:Ending) (w':World):Prop:=∃ (Ar0:Option Addr) (cr0:Nat),en=.returned (vv (Vl.mk 5 0 0 false [] (asc s) 0) none 0 Ar0 cr0)∧SRow w' .u16 Ar0 (asc s) cr0∧New w w'
theorem ostr_c (s:ByteArray) (w:World) (hs:s.size≤1000000):Calls Tryz.prog 18 #[.string s] w (ostr_c_P s w):=by
 refine enter_abs Tryz.func18 rfl fun a0 ad aD hp=>?_
 have ad:a0.tmps.size=6:=ad
 have al:New w w:=Upd.refl _ _
 have hp0:a0.eval (.tmp 0)=.string s:=hp 0 _ rfl
 refine wp_seq_k fun K1 aE=>?_
 refine wp_g [true] [] [] 6
   [IsNew w 29 z7]
   [0] (newsCons (fun v w h=>IsNew.old h) newsNil) ad (.nw (.nil)) ?_ (fun i h=>by cases h) ?_
 exact .o2 (step_allocN (cs:=z7) (t:=29) rfl (noG rfl) (fun _ w hn k=>rfl) (fun q _ hq hb=>⟨q,rfl,hq,hb⟩)) .nil
 refine aftI ad aD al fun a2 w3 am aF ae aN an=>?_
 have h8:=an.fx 0 hp0
 obtain⟨aG,h9,ap,aq⟩:=an.G 0 2
 have aK:=Nat.le_trans al.size ap
 refine st_nil (aE _ _ (wp_seq_k fun aO ar=>?_))
 refine wp_g0 [true,true,true,false] [(3,false)] 6
   [ve (.string s),
    (OP w3.heap.size 74 .u16 (asc s)),(fun (v_:Value) (W:World)=>∃ (A9:Option Addr) (aa:Nat),v_=vv (Vl.mk 5 0 0 false [] (asc s) 0) none 0 A9 aa∧SOwn W w3.heap.size 74 .u16 A9 (asc s) aa),vt] am (.eq (.cons (fun _ _ _ n ⟨_,_,e,h⟩=>⟨_,_,e,h.new_ n⟩) (.cons (fun _ _ _ n ⟨_,_,e,h⟩=>⟨_,_,e,h.new_ n⟩) (.tt (.nil))))) ?_ ?_
 refine .m (fun k=>k.fx 0 h8) ?_
 refine .o1 (tkC rfl (noG rfl) rfl fun _ w hn k=>(by
       refine ⟨#[.string s],_,args1 (k.eq1 0 3 rfl),fun w=>by kernel_rfl,rascii_c s _ (by first|omega|(show (_:Nat)≤_; decide)),?_⟩
       rintro e w' ⟨A1,c2,rfl,hmo0,hm⟩
       exact⟨_,rfl,hm,⟨A1,c2,rfl,(hmo0.more hn.size)⟩⟩)) ?_
 refine .o1 (tk rfl rfl fun _ w hn k=>(by
       obtain⟨A5,c6,e7,aH⟩:(OP w3.heap.size 74 .u16 (asc s)) _ _:=k.dep 1 4 (by kernel_rfl) (by kernel_rfl)
       exact⟨_,v_build (ps:=[(0,iv 5),(3,sv A5 (asc s) c6)]) rfl (parts2 rfl e7) (by kernel_rfl),⟨A5,c6,rfl,aH⟩⟩)) ?_
 exact .off .nil
 refine aftI am aF ae fun aI aP aL au av aw af=>?_
 have ao:=af.fx 2 h9
 obtain⟨ac,ab,ag,ax⟩:=af.G 2 5
 have ag:aI.eval (.tmp 5)=vv (Vl.mk 5 0 0 false [] (asc s) 0) none 0 ac ab:=ag
 have ah:=aq.new_ aw
 have ay:=ax.more ae.size
 obtain⟨aJ,aj,ak,ai,aM⟩:=s_many (P:=Tryz.prog) (t:=29) (i:=0) [iv 5,iv 0,iv 0,.bool false,sv none ([]) 0,sv ac (asc s) ab,iv 0] Tryz.sizeOf29 rfl rfl rfl ah lb
 have az:Blk aJ aG 29 [iv 5,iv 0,iv 0,.bool false,sv none ([]) 0,sv ac (asc s) ab,iv 0]:=ak
 refine st_act rfl rfl fun aQ aA=>a_store' rfl ao ag aj (aA _ _ trivial ?_)
 have aB:=ay.far ah ai (by decide)
 have aC:=av.trans ai (fun _ h b=>by subst b; omega)
 refine st_nil (ar _ _ ?_)
 refine wp_ret (ret_k au (v:=vv (Vl.mk 5 0 0 false [] (asc s) 0) none 0 ac ab) (res_c rfl ao (l_agg Tryz.isAgg29 Tryz.sizeOf29 az rfl)) ?_)
 exact⟨ac,ab,rfl,aB.row,aC⟩
theorem owhole_c (n:Int) (w:World):Calls Tryz.prog 17 #[iv n] w (IsRet (vv (Vl.mk 3 0 n false [] [] 0) none 0 none 0) w):=by
 refine enter_abs Tryz.func17 rfl fun a0 aa aw hp=>?_
 have aa:a0.tmps.size=6:=aa
 have ae:New w w:=Upd.refl _ _
 have hp0:a0.eval (.tmp 0)=iv n:=hp 0 _ rfl
 refine wp_seq_k fun K1 ax=>?_
 refine wp_g [true] [] [] 6
   [IsNew w 29 z7]
   [0] (newsCons (fun v w h=>IsNew.old h) newsNil) aa (.nw (.nil)) ?_ (fun i h=>by cases h) ?_
 exact .o2 (step_allocN (cs:=z7) (t:=29) rfl (noG rfl) (fun _ w hn k=>rfl) (fun q _ hq hb=>⟨q,rfl,hq,hb⟩)) .nil
 refine aftI aa aw ae fun a2 w3 af ay ai aF ag=>?_
 have h8:=ag.fx 0 hp0
 obtain⟨az,h9,aj,ak⟩:=ag.G 0 2
 have aC:=Nat.le_trans ae.size aj
 refine st_nil (ax _ _ (wp_seq_k fun aG al=>?_))
 refine wp_g0 [true,true,true,false] [(3,false)] 6
   [ve (iv n),ve (nv (Nm.mk 0 n)),ve (vv (Vl.mk 3 0 n false [] [] 0) none 0 none 0),vt] af (.eq (.eq (.eq (.tt (.nil))))) ?_ ?_
 exact .m (fun k=>k.fx 0 h8)<| .t (fun _ w hn k=>⟨_,v_build (ps:=[(1,iv n)]) rfl (parts1 (k.eq1 0 3 rfl)) (by kernel_rfl),rfl⟩)<| .t (fun _ w hn k=>⟨_,v_build (ps:=[(0,iv 3),(1,nv (Nm.mk 0 n))]) rfl (parts2 rfl (k.eq1 1 4 rfl)) (by kernel_rfl),rfl⟩)<| .off .nil
 refine aftI af ay ai fun aH aI aD am an ao ab=>?_
 have ah:=ab.fx 2 h9
 have aA:=ab.ge 2 5 rfl
 have ap:=ak.new_ ao
 obtain⟨aB,ac,ad,aq,aE⟩:=s_many (P:=Tryz.prog) (t:=29) (i:=0) [iv 3,iv 0,iv n,.bool false,sv none ([]) 0,sv none ([]) 0,iv 0] Tryz.sizeOf29 rfl rfl rfl ap lb
 have ar:Blk aB az 29 [iv 3,iv 0,iv n,.bool false,sv none ([]) 0,sv none ([]) 0,iv 0]:=ad
 refine st_act rfl rfl fun aJ au=>a_store' rfl ah aA ac (au _ _ trivial ?_)
 have av:=an.trans aq (fun _ h b=>by subst b; omega)
 refine st_nil (al _ _ ?_)
 refine wp_ret (ret_k am (v:=vv (Vl.mk 3 0 n false [] [] 0) none 0 none 0) (res_c rfl ah (l_agg Tryz.isAgg29 Tryz.sizeOf29 ar rfl)) ?_)
 exact⟨rfl,av⟩
theorem VOk.str (s:ByteArray) (h:s.size≤20000):VOk ⟨5,0,0,false,[],asc s,0⟩:=⟨Limbs.nil,U16s.asc s,Nat.zero_le _,by rw [asc_len]; exact h,(show (-9223372036854775808:Int)≤0 by decide),(show (0:Int)≤9223372036854775807 by decide),(show (-9223372036854775808:Int)≤0 by decide),(show (0:Int)≤9223372036854775807 by decide)⟩
theorem VOk.whole {n:Int} (h1:-9223372036854775808≤n) (h2:n≤9223372036854775807):VOk ⟨3,0,n,false,[],[],0⟩:=⟨Limbs.nil,U16s.nil,Nat.zero_le _,Nat.zero_le _,h1,h2,(show (-9223372036854775808:Int)≤0 by decide),(show (0:Int)≤9223372036854775807 by decide)⟩
theorem VOk.big {x:Nat} (h:x < 4294967296):VOk ⟨4,0,0,false,[x],[],0⟩:=⟨Limbs.cons h Limbs.nil,U16s.nil,(show (1:Nat)≤40 by decide),Nat.zero_le _,(show (-9223372036854775808:Int)≤0 by decide),(show (0:Int)≤9223372036854775807 by decide),(show (-9223372036854775808:Int)≤0 by decide),(show (0:Int)≤9223372036854775807 by decide)⟩
theorem few_ok {v:Vl} (h:(decide ((v.s.length:Int)≤20000) && decide ((v.mag.length:Int)≤40))=true) (hl:Limbs v.mag) (hu:U16s v.s) (h1:-9223372036854775808≤v.nn) (h2:v.nn≤9223372036854775807) (h3:-9223372036854775808≤v.ref) (h4:v.ref≤9223372036854775807):VOk v:=by
  simp only [Bool.and_eq_true,decide_eq_true_eq] at h
  exact⟨hl,hu,by omega,by omega,h1,h2,h3,h4⟩
theorem VOk.big0:VOk ⟨4,0,0,false,[],[],0⟩:=⟨Limbs.nil,U16s.nil,by decide,by decide,by decide,by decide,by decide,by decide⟩
theorem join_a1:joinV (cleanV (Vl.mk 5 0 0 false [] (asc ⟨#[97]⟩) 0)) (cleanV (Vl.mk 3 0 1 false [] [] 0))=(strV [97,49],0):=by
  have h:=join_num (a:=[97]) (n:=⟨0,1⟩) (by decide) (by decide)
  rw [whole_text (by decide) (by decide)] at h
  have e:asc (strOfNums (textI 1))=[49]:=by
    have h1:textI 1=[49]:=by rw [textI,if_neg (by decide),if_neg (by decide),show (1:Int).natAbs=1 from rfl,digs_one (by omega) (by omega)]; rfl
    rw [h1]; rfl
  rw [e] at h
  exact h
theorem f_m (A0:Option Addr) (c0:Nat) (B0:Option Addr) (d0:Nat) (A1:Option Addr) (c1:Nat) (B1:Option Addr) (d1:Nat) (w:World) (hm0:SRow w .u32 A0 [1] c0) (hs0:SRow w .u16 B0 [] d0) (hm1:SRow w .u32 A1 [] c1) (hs1:SRow w .u16 B1 [] d1):Calls Tryz.prog 12 #[.string ⟨#[43]⟩,vv (Vl.mk 4 0 0 false [1] [] 0) A0 c0 B0 d0,vv (Vl.mk 3 0 1 false [] [] 0) A1 c1 B1 d1] w (IsRet (.tuple #[vv (Vl.mk 0 0 0 false [] [] 0) none 0 none 0,iv 1]) w):=by
  have h:=binM_c (Vl.mk 4 0 0 false [1] [] 0) A0 c0 B0 d0 (Vl.mk 3 0 1 false [] [] 0) A1 c1 B1 d1 w hm0 hs0 hm1 hs1 (VOk.big (by omega)) (VOk.whole (by omega) (by omega)) (by decide +kernel) (by decide +kernel) (by decide +kernel)
  rw [show (numericsV (cleanV (Vl.mk 4 0 0 false [1] [] 0)) (cleanV (Vl.mk 3 0 1 false [] [] 0))).2.2=1 from by decide +kernel] at h
  exact h
theorem f_d (A0:Option Addr) (c0:Nat) (B0:Option Addr) (d0:Nat) (A1:Option Addr) (c1:Nat) (B1:Option Addr) (d1:Nat) (w:World) (hm0:SRow w .u32 A0 [] c0) (hs0:SRow w .u16 B0 [] d0) (hm1:SRow w .u32 A1 [] c1) (hs1:SRow w .u16 B1 [] d1):Calls Tryz.prog 12 #[.string ⟨#[47]⟩,vv (Vl.mk 3 0 1 false [] [] 0) A0 c0 B0 d0,vv (Vl.mk 3 0 2 false [] [] 0) A1 c1 B1 d1] w (IsRet (.tuple #[vv (Vl.mk 0 0 0 false [] [] 0) none 0 none 0,iv 3]) w):=by
  have h:=binD_c (Vl.mk 3 0 1 false [] [] 0) A0 c0 B0 d0 (Vl.mk 3 0 2 false [] [] 0) A1 c1 B1 d1 w hm0 hs0 hm1 hs1 (VOk.whole (by omega) (by omega)) (VOk.whole (by omega) (by omega)) (by decide +kernel) (by decide +kernel) (by decide +kernel) (by decide +kernel)
  exact h
theorem f_b (A0:Option Addr) (c0:Nat) (B0:Option Addr) (d0:Nat) (A1:Option Addr) (c1:Nat) (B1:Option Addr) (d1:Nat) (w:World) (hm0:SRow w .u32 A0 [1] c0) (hs0:SRow w .u16 B0 [] d0) (hm1:SRow w .u32 A1 [] c1) (hs1:SRow w .u16 B1 [] d1):Calls Tryz.prog 12 #[.string ⟨#[47]⟩,vv (Vl.mk 4 0 0 false [1] [] 0) A0 c0 B0 d0,vv (Vl.mk 4 0 0 false [] [] 0) A1 c1 B1 d1] w (IsRet (.tuple #[vv (Vl.mk 0 0 0 false [] [] 0) none 0 none 0,iv 2]) w):=by
  have h:=binB_c (Vl.mk 4 0 0 false [1] [] 0) A0 c0 B0 d0 (Vl.mk 4 0 0 false [] [] 0) A1 c1 B1 d1 w hm0 hs0 hm1 hs1 (VOk.big (by omega)) VOk.big0 (by decide +kernel) (by decide +kernel) (by decide +kernel)
  exact h
theorem f_l (A0:Option Addr) (c0:Nat) (B0:Option Addr) (d0:Nat) (A1:Option Addr) (c1:Nat) (B1:Option Addr) (d1:Nat) (w:World) (hm0:SRow w .u32 A0 [1] c0) (hs0:SRow w .u16 B0 [] d0) (hm1:SRow w .u32 A1 [] c1) (hs1:SRow w .u16 B1 [] d1):Calls Tryz.prog 12 #[.string ⟨#[60]⟩,vv (Vl.mk 4 0 0 false [1] [] 0) A0 c0 B0 d0,vv (Vl.mk 3 0 2 false [] [] 0) A1 c1 B1 d1] w (IsRet (.tuple #[vv (Vl.mk 2 0 0 false [] [] 1) none 0 none 0,iv 0]) w):=by
  have h:=binL_c (Vl.mk 4 0 0 false [1] [] 0) A0 c0 B0 d0 (Vl.mk 3 0 2 false [] [] 0) A1 c1 B1 d1 w hm0 hs0 hm1 hs1 (VOk.big (by omega)) (VOk.whole (by omega) (by omega)) (by decide +kernel) (by decide +kernel) (by decide +kernel) (by decide +kernel) (by decide +kernel) (by decide +kernel)
  rw [show truthR ((besideO (numericV (cleanV (Vl.mk 4 0 0 false [1] [] 0))).1.neg (numericV (cleanV (Vl.mk 4 0 0 false [1] [] 0))).1.mag (Nm.mk (numericV (cleanV (Vl.mk 3 0 2 false [] [] 0))).1.nk (numericV (cleanV (Vl.mk 3 0 2 false [] [] 0))).1.nn)).2 && (decide ((besideO (numericV (cleanV (Vl.mk 4 0 0 false [1] [] 0))).1.neg (numericV (cleanV (Vl.mk 4 0 0 false [1] [] 0))).1.mag (Nm.mk (numericV (cleanV (Vl.mk 3 0 2 false [] [] 0))).1.nk (numericV (cleanV (Vl.mk 3 0 2 false [] [] 0))).1.nn)).1 < 0) != false))=1 from by decide +kernel] at h
  exact h
theorem f_n (A0:Option Addr) (c0:Nat) (B0:Option Addr) (d0:Nat) (w:World) (hm0:SRow w .u32 A0 [] c0) (hs0:SRow w .u16 B0 [] d0):Calls Tryz.prog 13 #[.string ⟨#[45]⟩,vv (Vl.mk 3 0 0 false [] [] 0) A0 c0 B0 d0] w (IsRet (.tuple #[vv (Vl.mk 3 1 0 false [] [] 0) none 0 none 0,iv 0]) w):=by
  have h:=minus_c (Vl.mk 3 0 0 false [] [] 0) A0 c0 B0 d0 w hm0 hs0 (VOk.whole (by omega) (by omega)) (by decide +kernel) (by decide +kernel)
  rw [show (negM (Nm.mk (numericV (Vl.mk 3 0 0 false [] [] 0)).1.nk (numericV (Vl.mk 3 0 0 false [] [] 0)).1.nn))=⟨1,0⟩ from by decide +kernel] at h
  exact h
theorem few_c (v:Vl) (Av:Option Addr) (cv:Nat) (Bv:Option Addr) (dv:Nat) (w:World) (hmv:SRow w .u32 Av v.mag cv) (hsv:SRow w .u16 Bv v.s dv):Calls Tryz.prog 20 #[vv v Av cv Bv dv] w (IsRet (.bool (decide ((v.s.length:Int)≤20000) && decide ((v.mag.length:Int)≤40))) w):=by
 refine enter_abs Tryz.func20 rfl fun a0 aa ak hp=>?_
 have aa:a0.tmps.size=14:=aa
 have ac:New w w:=Upd.refl _ _
 have hp0:a0.eval (.tmp 0)=vv v Av cv Bv dv:=hp 0 _ rfl
 refine wp_seq_k fun K1 al=>?_
 refine wp_g [true,true] [] [] 14
   [IsNew w 29 (c7 v Av cv Bv dv),vF]
   [0] (newsCons (fun v w h=>IsNew.old h) newsNil) aa (.nw (.eq (.nil))) ?_ (fun i h=>by cases h) ?_
 exact .o2 (step_allocN (cs:=(c7 v Av cv Bv dv)) (t:=29) rfl (noG rfl) (fun _ w hn k=>v_box rfl (k.fx 0 hp0) (fun w=>rfl)) (fun q _ hq hb=>⟨q,rfl,hq,hb⟩))<| .t (fun _ w hn k=>⟨_,v_assign rfl rfl,rfl⟩) .nil
 refine aftI aa ak ac fun a2 w3 ad am ae au an=>?_
 obtain⟨q9,h8,af,ab⟩:=an.G 0 1
 have ap:=Nat.le_trans ac.size af
 refine st_nil (al _ _ (wp_seq_k fun av ag=>?_))
 refine wp_g0 (.replicate 12 true) [] 14
   [ve (.pointer (some ⟨q9,5,none⟩)),ve (sv Bv v.s dv),ve (iv (v.s.length:Int)),ve (.bool (decide ((v.s.length:Int)≤20000))),ve (.bool (decide ((v.s.length:Int)≤20000))),ve (gq (decide ((v.s.length:Int)≤20000)) (.pointer (some ⟨q9,3,none⟩))),ve (gq (decide ((v.s.length:Int)≤20000)) (.pointer (some ⟨q9,4,none⟩))),ve (gq (decide ((v.s.length:Int)≤20000)) (sv Av v.mag cv)),ve (gq (decide ((v.s.length:Int)≤20000)) (iv (v.mag.length:Int))),ve (gq (decide ((v.s.length:Int)≤20000)) (.bool (decide ((v.mag.length:Int)≤40)))),ve (.bool ((decide ((v.s.length:Int)≤20000)) && (decide ((v.mag.length:Int)≤40)))),ve (.bool ((decide ((v.s.length:Int)≤20000)) && (decide ((v.mag.length:Int)≤40))))] ad (.eq (.eq (.eq (.eq (.eq (.eq (.eq (.eq (.eq (.eq (.eq (.eq (.nil))))))))))))) ?_ ?_
 exact .f (fun k=>k.fx 1 h8)<| .t (fun _ w hn k=>⟨_,v_load rfl (k.eq1 0 3 rfl) (l_one Tryz.isAgg27 ((ab.new_ hn).cell 5)),rfl⟩)<| .t (fun _ w hn k=>⟨_,v_lenR rfl elU (k.eq1 1 4 rfl),rfl⟩)<| .t (fun _ w hn k=>⟨_,v_bin rfl (k.eq1 2 5 rfl) rfl (fun _=>rfl) (r_leqK rfl),rfl⟩)<| .m (fun k=>k.eq1 3 6 rfl)<| .o1 (sc (G:=(decide ((v.s.length:Int)≤20000))) rfl rfl rfl (fun _ _ k=>g0 (k.eq1 4 7 rfl)) (fun hG _ w hn k=>v_field rfl (k.fx 1 h8) (fun w=>rfl)))<| .o1 (sc (G:=(decide ((v.s.length:Int)≤20000))) rfl rfl rfl (fun _ _ k=>g0 (k.eq1 4 7 rfl)) (fun hG _ w hn k=>v_field rfl (cT hG (k.eq1 5 8 rfl)) (fun w=>rfl)))<| .o1 (sc (G:=(decide ((v.s.length:Int)≤20000))) rfl rfl rfl (fun _ _ k=>g0 (k.eq1 4 7 rfl)) (fun hG _ w hn k=>v_load rfl (cT hG (k.eq1 6 9 rfl)) (l_one Tryz.isAgg24 ((ab.new_ hn).cell 4))))<| .o1 (sc (G:=(decide ((v.s.length:Int)≤20000))) rfl rfl rfl (fun _ _ k=>g0 (k.eq1 4 7 rfl)) (fun hG _ w hn k=>v_lenR rfl elW (cT hG (k.eq1 7 10 rfl))))<| .o1 (sc (G:=(decide ((v.s.length:Int)≤20000))) rfl rfl rfl (fun _ _ k=>g0 (k.eq1 4 7 rfl)) (fun hG _ w hn k=>v_bin rfl (cT hG (k.eq1 8 11 rfl)) rfl (fun _=>rfl) (r_leqK rfl)))<| .t (fun _ w hn k=>⟨_,v_and rfl (k.eq1 4 7 rfl) (fun hg=>(cT hg (k.eq1 9 12 rfl))) rfl,rfl⟩)<| .a (fun k=>k.eq1 10 13 rfl) .nil
 refine aftI ad am ae fun aw ax aq ah ai ar aj=>?_
 have ao:=aj.ge 11 2 rfl
 refine st_nil (ag _ _ ?_)
 refine wp_ret (ret_k ah (v:=.bool ((decide ((v.s.length:Int)≤20000)) && (decide ((v.mag.length:Int)≤40)))) (res_t rfl ao _) ?_)
 refine ⟨?_,ai⟩
 show Ending.returned (.bool ((decide ((v.s.length:Int)≤20000)) && (decide ((v.mag.length:Int)≤40))))=Ending.returned (.bool (decide ((v.s.length:Int)≤20000) && decide ((v.mag.length:Int)≤40)))
 first|rfl|(simp only [bsm] <;> rfl)|(exfalso; omega)
theorem first_c  (w:World) (HT:ItoaOk w):Calls Tryz.prog 10 #[] w (IsRet (.bool true) w):=by
 refine enter_abs Tryz.func10 rfl fun a0 bi fa hp=>?_
 have bi:a0.tmps.size=99:=bi
 have fb:New w w:=Upd.refl _ _
 refine wp_seq_k fun K1 fc=>?_
 refine wp_g0 [true] [] 99
   [vF] bi (.eq (.nil)) ?_ ?_
 exact .t (fun _ w hn k=>⟨_,v_assign rfl rfl,rfl⟩) .nil
 refine aftI bi fa fb fun a2 w3 dn fd bG gW gX=>?_
 refine st_nil (fc _ _ (wp_seq_k fun K9 fe=>?_))
 refine wp_gS (fun W=>True) (fun W W' hn h=>trivial) trivial [true,true,true,true,true,true,true,false,false] [5] [(7,false),(8,true)] 99
   [(fun (v_:Value) (W:World)=>∃ (A3:Option Addr) (c4:Nat),v_=vv (Vl.mk 5 0 0 false [] (asc ⟨#[97]⟩) 0) none 0 A3 c4∧SRow W .u16 A3 (asc ⟨#[97]⟩) c4),ve (vv (Vl.mk 3 0 1 false [] [] 0) none 0 none 0),(TP (joinV (cleanV (Vl.mk 5 0 0 false [] (asc ⟨#[97]⟩) 0)) (cleanV (Vl.mk 3 0 1 false [] [] 0))).1 ((joinV (cleanV (Vl.mk 5 0 0 false [] (asc ⟨#[97]⟩) 0)) (cleanV (Vl.mk 3 0 1 false [] [] 0))).2)),(TP (joinV (cleanV (Vl.mk 5 0 0 false [] (asc ⟨#[97]⟩) 0)) (cleanV (Vl.mk 3 0 1 false [] [] 0))).1 ((joinV (cleanV (Vl.mk 5 0 0 false [] (asc ⟨#[97]⟩) 0)) (cleanV (Vl.mk 3 0 1 false [] [] 0))).2)),(fun (v_:Value) (W:World)=>∃ (aD:Option Addr) (aE:Nat) (aF:Option Addr) (aG:Nat),v_=vv (joinV (cleanV (Vl.mk 5 0 0 false [] (asc ⟨#[97]⟩) 0)) (cleanV (Vl.mk 3 0 1 false [] [] 0))).1 aD aE aF aG∧SRow W .u32 aD ((joinV (cleanV (Vl.mk 5 0 0 false [] (asc ⟨#[97]⟩) 0)) (cleanV (Vl.mk 3 0 1 false [] [] 0))).1.mag) aE∧SRow W .u16 aF ((joinV (cleanV (Vl.mk 5 0 0 false [] (asc ⟨#[97]⟩) 0)) (cleanV (Vl.mk 3 0 1 false [] [] 0))).1.s) aG),ve (iv ((joinV (cleanV (Vl.mk 5 0 0 false [] (asc ⟨#[97]⟩) 0)) (cleanV (Vl.mk 3 0 1 false [] [] 0))).2)),IsNew w3 29 z7,vt,vt]
   [6] (newsCons (fun v w h=>IsNew.old h) newsNil) dn (.cons (fun _ _ _ n ⟨_,_,e,h⟩=>⟨_,_,e,h.new_ n⟩) (.eq (.cons (fun _ _ _ n ⟨_,_,_,_,e,h,i⟩=>⟨_,_,_,_,e,h.new_ n,i.new_ n⟩) (.cons (fun _ _ _ n ⟨_,_,_,_,e,h,i⟩=>⟨_,_,_,_,e,h.new_ n,i.new_ n⟩) (.cons (fun _ _ _ n ⟨_,_,_,_,e,h,i⟩=>⟨_,_,_,_,e,h.new_ n,i.new_ n⟩) (.eq (.nw (.tt (.tt (.nil)))))))))) ?_ ?_ ?_
 refine .o1 (tkC rfl (noG rfl) rfl fun _ w hn k=>(by
       refine ⟨#[.string ⟨#[97]⟩],_,args1 rfl,fun w=>by kernel_rfl,ostr_c ⟨#[97]⟩ _ (by first|omega|(show (_:Nat)≤_; decide)),?_⟩
       rintro e w' ⟨A1,c2,rfl,hmo0,hm⟩
       exact⟨_,rfl,hm,⟨A1,c2,rfl,hmo0⟩⟩)) ?_
 refine .o1 (ck rfl rfl rfl (fun _ w hn k=>⟨#[iv 1],args1 rfl,fun _=>by kernel_rfl,owhole_c 1 _ ⟩) fun _=>rfl) ?_
 refine .o1 (tkC rfl (noG rfl) rfl fun _ w hn k=>(by
       obtain⟨A5,c6,e7,ff⟩:(fun (v_:Value) (W:World)=>∃ (A3:Option Addr) (c4:Nat),v_=vv (Vl.mk 5 0 0 false [] (asc ⟨#[97]⟩) 0) none 0 A3 c4∧SRow W .u16 A3 (asc ⟨#[97]⟩) c4) _ _:=k.dep 0 14 (by kernel_rfl) (by kernel_rfl)
       refine ⟨#[.string ⟨#[43]⟩,vv (Vl.mk 5 0 0 false [] (asc ⟨#[97]⟩) 0) none 0 A5 c6,vv (Vl.mk 3 0 1 false [] [] 0) none 0 none 0],_,args3 rfl e7 (k.eq1 1 15 rfl),fun w=>by kernel_rfl,binT_c (Vl.mk 5 0 0 false [] (asc ⟨#[97]⟩) 0) _ _ _ _ (Vl.mk 3 0 1 false [] [] 0) _ _ _ _ _ (SRow.nil _ _) ff (SRow.nil _ _) (SRow.nil _ _) (VOk.str ⟨#[97]⟩ (by first|omega|decide)) (VOk.whole (by omega) (by omega)) (by first|assumption|(rw [str_clean]; rfl)|decide +kernel) (HT.up (bG.transNew hn)),?_⟩
       rintro e w' ⟨A9,fg,fh,fi,rfl,hmo0,hmo1,hm⟩
       exact⟨_,rfl,hm,⟨A9,fg,fh,fi,rfl,hmo0,hmo1⟩⟩)) ?_
 refine .o1 (tk rfl rfl fun _ w hn k=>(by
       obtain⟨aH,fj,fk,fl,fm,dy,dz⟩:(TP (joinV (cleanV (Vl.mk 5 0 0 false [] (asc ⟨#[97]⟩) 0)) (cleanV (Vl.mk 3 0 1 false [] [] 0))).1 ((joinV (cleanV (Vl.mk 5 0 0 false [] (asc ⟨#[97]⟩) 0)) (cleanV (Vl.mk 3 0 1 false [] [] 0))).2)) _ _:=k.dep 2 16 (by kernel_rfl) (by kernel_rfl)
       exact⟨_,v_move rfl fm,⟨aH,fj,fk,fl,rfl,dy,dz⟩⟩)) ?_
 refine .o1 (tk rfl rfl fun _ w hn k=>(by
       obtain⟨fn,fo,fp,fq,fs,dA,dB⟩:(TP (joinV (cleanV (Vl.mk 5 0 0 false [] (asc ⟨#[97]⟩) 0)) (cleanV (Vl.mk 3 0 1 false [] [] 0))).1 ((joinV (cleanV (Vl.mk 5 0 0 false [] (asc ⟨#[97]⟩) 0)) (cleanV (Vl.mk 3 0 1 false [] [] 0))).2)) _ _:=k.dep 3 13 (by kernel_rfl) (by kernel_rfl)
       exact⟨_,v_extract rfl fs rfl,⟨fn,fo,fp,fq,rfl,dA,dB⟩⟩)) ?_
 refine .o3 ?_
 exact .o2 (step_allocN (cs:=z7) (t:=29) rfl (noG rfl) (fun _ w hn k=>rfl) (fun q _ hq hb=>⟨q,rfl,hq,hb⟩))<| .off<| .off .nil
 intro i h
 simp only [List.contains_eq_mem,List.mem_cons,List.not_mem_nil,or_false,decide_eq_true_eq] at h
 subst h
 exact eager_takeG rfl (noG rfl) fun _ w hn k=>(by
     obtain⟨gY,gZ,g0,g1,ft,gt,gu⟩:(TP (joinV (cleanV (Vl.mk 5 0 0 false [] (asc ⟨#[97]⟩) 0)) (cleanV (Vl.mk 3 0 1 false [] [] 0))).1 ((joinV (cleanV (Vl.mk 5 0 0 false [] (asc ⟨#[97]⟩) 0)) (cleanV (Vl.mk 3 0 1 false [] [] 0))).2)) _ _:=k.dep 3 13 (by kernel_rfl) (by kernel_rfl)
     exact⟨_,fun w hS=>v_extract rfl ft rfl,rfl⟩)
 intro bH g2 _ dC aU
 obtain⟨bI,dD,dE⟩:=aft aU dn fd bG dC
 obtain⟨aH,aI,ba,aJ,bj,dF,dG⟩:=aU.G 4 17
 have bj:bH.eval (.tmp 17)=vv (joinV (cleanV (Vl.mk 5 0 0 false [] (asc ⟨#[97]⟩) 0)) (cleanV (Vl.mk 3 0 1 false [] [] 0))).1 aH aI ba aJ:=bj
 have dp:=aU.ge 5 18 rfl
 obtain⟨aT,dq,dH,bb⟩:=aU.G 6 1
 have gv:=Nat.le_trans bG.size dH
 obtain⟨bk,cl,cm,bd,gw⟩:=s_many (P:=Tryz.prog) (t:=29) (i:=0) (c7 (joinV (cleanV (Vl.mk 5 0 0 false [] (asc ⟨#[97]⟩) 0)) (cleanV (Vl.mk 3 0 1 false [] [] 0))).1 aH aI ba aJ) Tryz.sizeOf29 rfl rfl rfl bb lb
 have bJ:Blk bk aT 29 (c7 (joinV (cleanV (Vl.mk 5 0 0 false [] (asc ⟨#[97]⟩) 0)) (cleanV (Vl.mk 3 0 1 false [] [] 0))).1 aH aI ba aJ):=cm
 refine st_act rfl rfl fun g3 dI=>a_store' rfl dq bj cl (dI _ _ trivial ?_)
 have dJ:=dF.fr bb bd
 have dK:=dG.fr bb bd
 have bK:=dE.trans bd (fun _ h b=>by subst b; omega)
 refine st_take rfl rfl (y_assign (v:=iv ((joinV (cleanV (Vl.mk 5 0 0 false [] (asc ⟨#[97]⟩) 0)) (cleanV (Vl.mk 3 0 1 false [] [] 0))).2)) rfl dp) rfl ?_
 obtain⟨fu,am⟩:∃ a',a'=bH.put (some 2) (iv ((joinV (cleanV (Vl.mk 5 0 0 false [] (asc ⟨#[97]⟩) 0)) (cleanV (Vl.mk 3 0 1 false [] [] 0))).2)):=⟨_,rfl⟩
 have bL:=pz am bI
 have dL:=pd am dD
 have g4:=pn am bj (by decide)
 have g5:=pn am dp (by decide)
 have fv:=pn am dq (by decide)
 have fw:fu.eval (.tmp 2)=iv ((joinV (cleanV (Vl.mk 5 0 0 false [] (asc ⟨#[97]⟩) 0)) (cleanV (Vl.mk 3 0 1 false [] [] 0))).2):=by rw [am]; exact put_same _ _ _ (by rw [bI]; decide)
 show stepsTo _ _ _ _ _ (bH.put (some 2) (iv ((joinV (cleanV (Vl.mk 5 0 0 false [] (asc ⟨#[97]⟩) 0)) (cleanV (Vl.mk 3 0 1 false [] [] 0))).2))) _
 rw [← am]
 refine st_nil (fe _ _ (wp_seq_k fun g6 dM=>?_))
 refine wp_g [true,true,true,true,true,true,true,true,false,false] [6] [(8,false),(9,true)] 99
   [(OP bk.heap.size 56 .u32 ([1])),(fun (v_:Value) (W:World)=>∃ (aK:Option Addr) (aL:Nat),v_=vv (Vl.mk 4 0 0 false [1] [] 0) aK aL none 0∧SRow W .u32 aK ([1]) aL),ve (vv (Vl.mk 3 0 1 false [] [] 0) none 0 none 0),ve (.tuple #[vv (Vl.mk 0 0 0 false [] [] 0) none 0 none 0,iv 1]),ve (.tuple #[vv (Vl.mk 0 0 0 false [] [] 0) none 0 none 0,iv 1]),ve (vv (Vl.mk 0 0 0 false [] [] 0) none 0 none 0),ve (iv 1),IsNew bk 29 z7,vt,vt]
   [7] (newsCons (fun v w h=>IsNew.old h) newsNil) bL (.cons (fun _ _ _ n ⟨_,_,e,h⟩=>⟨_,_,e,h.new_ n⟩) (.cons (fun _ _ _ n ⟨_,_,e,h⟩=>⟨_,_,e,h.new_ n⟩) (.eq (.eq (.eq (.eq (.eq (.nw (.tt (.tt (.nil))))))))))) ?_ ?_ ?_
 refine .o1 (tkA rfl (noG rfl) fun _ w hn k=>(by
       exact x_bslice (k:=.u32) (ps:=[(0,.int .u32 1)]) [1] rfl (parts1 rfl) elW rfl (by omega) (by omega) (by first|kernel_rfl|(simp only [enc,List.map_cons,List.map_nil,Int.toNat_natCast,Int.toNat_of_nonneg (by omega:(0:Int)≤_)]; kernel_rfl)) fun fA fB W' hmo=>⟨fA,fB,rfl,(hmo.more hn.size)⟩)) ?_
 refine .o1 (tkC rfl (noG rfl) rfl fun _ w hn k=>(by
       obtain⟨fC,fD,fE,dN⟩:(OP bk.heap.size 56 .u32 ([1])) _ _:=k.dep 0 20 (by kernel_rfl) (by kernel_rfl)
       refine ⟨#[sv fC ([1]) fD],_,args1 fE,fun w=>by kernel_rfl,obig_c _ ([1]) _ _ dN.row,?_⟩
       rintro e w' ⟨fF,fG,rfl,hmo0,hm⟩
       exact⟨_,rfl,hm,⟨fF,fG,rfl,hmo0⟩⟩)) ?_
 refine .o1 (ck rfl rfl rfl (fun _ w hn k=>⟨#[iv 1],args1 rfl,fun _=>by kernel_rfl,owhole_c 1 _ ⟩) fun _=>rfl) ?_
 refine .o1 (tkC rfl (noG rfl) rfl fun _ w hn k=>(by
       obtain⟨fH,fI,fJ,dO⟩:(fun (v_:Value) (W:World)=>∃ (aK:Option Addr) (aL:Nat),v_=vv (Vl.mk 4 0 0 false [1] [] 0) aK aL none 0∧SRow W .u32 aK ([1]) aL) _ _:=k.dep 1 21 (by kernel_rfl) (by kernel_rfl)
       refine ⟨#[.string ⟨#[43]⟩,vv (Vl.mk 4 0 0 false [1] [] 0) fH fI none 0,vv (Vl.mk 3 0 1 false [] [] 0) none 0 none 0],_,args3 rfl fJ (k.eq1 2 22 rfl),fun w=>by kernel_rfl,f_m _ _ _ _ _ _ _ _ _ dO (SRow.nil _ _) (SRow.nil _ _) (SRow.nil _ _),?_⟩
       rintro e w' ⟨rfl,hm⟩
       exact⟨_,rfl,hm,rfl⟩)) ?_
 refine .m (fun k=>k.eq1 3 23 rfl)<| .t (fun _ w hn k=>⟨_,v_extract rfl (k.eq1 4 19 rfl) rfl,rfl⟩) ?_
 refine .o3 ?_
 exact .o2 (step_allocN (cs:=z7) (t:=29) rfl (noG rfl) (fun _ w hn k=>rfl) (fun q _ hq hb=>⟨q,rfl,hq,hb⟩))<| .off<| .off .nil
 intro i h
 simp only [List.contains_eq_mem,List.mem_cons,List.not_mem_nil,or_false,decide_eq_true_eq] at h
 subst h
 exact eager_take rfl rfl fun _ w hn k=>⟨iv 1,fun w=>v_extract rfl (k.eq1 4 19 rfl) rfl,rfl⟩
 refine aftI bL dL bK fun dr g7 bM dP dQ be aM=>?_
 have fK:=aM.fx 1 fv
 have fL:=aM.fx 2 fw
 have ds:=aM.ge 5 24 rfl
 have dt:=aM.ge 6 25 rfl
 obtain⟨du,dv,bN,bf⟩:=aM.G 7 3
 have dR:=bJ.new_ be
 have hne64:aT ≠ du:=by have h1:=bJ.lt; have h2:=bN; omega
 have gx:=Nat.le_trans bK.size bN
 have dS:=dJ.new_ be
 have dT:=dK.new_ be
 obtain⟨dw,cn,co,bg,dU⟩:=s_many (P:=Tryz.prog) (t:=29) (i:=0) z7 Tryz.sizeOf29 rfl rfl rfl bf lb
 have gy:Blk dw du 29 z7:=co
 refine st_act rfl rfl fun g8 dV=>a_store' rfl dv ds cn (dV _ _ trivial ?_)
 have dW:=dS.fr bf bg
 have dX:=dT.fr bf bg
 have bO:=dU _ _ _ (hne64) dR
 have bP:=dQ.trans bg (fun _ h b=>by subst b; omega)
 refine st_take rfl rfl (y_assign (v:=iv 1) rfl dt) rfl ?_
 obtain⟨fM,ag⟩:∃ a',a'=dr.put (some 4) (iv 1):=⟨_,rfl⟩
 have bQ:=pz ag bM
 have dY:=pd ag dP
 have fN:=pn ag fK (by decide)
 have fO:=pn ag fL (by decide)
 have g9:=pn ag ds (by decide)
 have ha:=pn ag dt (by decide)
 have hc:=pn ag dv (by decide)
 have fP:fM.eval (.tmp 4)=iv 1:=by rw [ag]; exact put_same _ _ _ (by rw [bM]; decide)
 show stepsTo _ _ _ _ _ (dr.put (some 4) (iv 1)) _
 rw [← ag]
 refine st_nil (dM _ _ (wp_seq_k fun hd dZ=>?_))
 refine wp_g [true,true,true,true,true,true,true,false,false] [5] [(7,false),(8,true)] 99
   [ve (vv (Vl.mk 3 0 1 false [] [] 0) none 0 none 0),ve (vv (Vl.mk 3 0 2 false [] [] 0) none 0 none 0),ve (.tuple #[vv (Vl.mk 0 0 0 false [] [] 0) none 0 none 0,iv 3]),ve (.tuple #[vv (Vl.mk 0 0 0 false [] [] 0) none 0 none 0,iv 3]),ve (vv (Vl.mk 0 0 0 false [] [] 0) none 0 none 0),ve (iv 3),IsNew dw 29 z7,vt,vt]
   [6] (newsCons (fun v w h=>IsNew.old h) newsNil) bQ (.eq (.eq (.eq (.eq (.eq (.eq (.nw (.tt (.tt (.nil)))))))))) ?_ ?_ ?_
 refine .o1 (ck rfl rfl rfl (fun _ w hn k=>⟨#[iv 1],args1 rfl,fun _=>by kernel_rfl,owhole_c 1 _ ⟩) fun _=>rfl)<| .o1 (ck rfl rfl rfl (fun _ w hn k=>⟨#[iv 2],args1 rfl,fun _=>by kernel_rfl,owhole_c 2 _ ⟩) fun _=>rfl)<| .o1 (ck rfl rfl rfl (fun _ w hn k=>⟨#[.string ⟨#[47]⟩,vv (Vl.mk 3 0 1 false [] [] 0) none 0 none 0,vv (Vl.mk 3 0 2 false [] [] 0) none 0 none 0],args3 rfl (k.eq1 0 27 rfl) (k.eq1 1 28 rfl),fun _=>by kernel_rfl,f_d _ _ _ _ _ _ _ _ _ (SRow.nil _ _) (SRow.nil _ _) (SRow.nil _ _) (SRow.nil _ _)⟩) fun _=>rfl)<| .m (fun k=>k.eq1 2 29 rfl)<| .t (fun _ w hn k=>⟨_,v_extract rfl (k.eq1 3 26 rfl) rfl,rfl⟩) ?_
 refine .o3 ?_
 exact .o2 (step_allocN (cs:=z7) (t:=29) rfl (noG rfl) (fun _ w hn k=>rfl) (fun q _ hq hb=>⟨q,rfl,hq,hb⟩))<| .off<| .off .nil
 intro i h
 simp only [List.contains_eq_mem,List.mem_cons,List.not_mem_nil,or_false,decide_eq_true_eq] at h
 subst h
 exact eager_take rfl rfl fun _ w hn k=>⟨iv 3,fun w=>v_extract rfl (k.eq1 3 26 rfl) rfl,rfl⟩
 refine aftI bQ dY bP fun dx hf bR d0 cp bh ax=>?_
 have fQ:=ax.fx 1 fN
 have fR:=ax.fx 2 fO
 have fS:=ax.fx 4 fP
 have bS:=ax.ge 4 30 rfl
 have bT:=ax.ge 5 31 rfl
 obtain⟨bU,bV,bl,aV⟩:=ax.G 6 5
 have cq:=bO.new_ bh
 have hne107:aT ≠ bU:=by have h1:=bO.lt; have h2:=bl; omega
 have gk:=Nat.le_trans bP.size bl
 have cr:=dW.new_ bh
 have ct:=dX.new_ bh
 obtain⟨aW,bW,bX,aX,cu⟩:=s_many (P:=Tryz.prog) (t:=29) (i:=0) z7 Tryz.sizeOf29 rfl rfl rfl aV lb
 have gl:Blk aW bU 29 z7:=bX
 refine st_act rfl rfl fun gz cv=>a_store' rfl bV bS bW (cv _ _ trivial ?_)
 have cw:=cr.fr aV aX
 have cx:=ct.fr aV aX
 have bm:=cu _ _ _ (hne107) cq
 have bn:=cp.trans aX (fun _ h b=>by subst b; omega)
 refine st_take rfl rfl (y_assign (v:=iv 3) rfl bT) rfl ?_
 obtain⟨d1,ad⟩:∃ a',a'=dx.put (some 6) (iv 3):=⟨_,rfl⟩
 have bo:=pz ad bR
 have cy:=pd ad d0
 have d2:=pn ad fQ (by decide)
 have d3:=pn ad fR (by decide)
 have d4:=pn ad fS (by decide)
 have gA:=pn ad bS (by decide)
 have gB:=pn ad bT (by decide)
 have gC:=pn ad bV (by decide)
 have d5:d1.eval (.tmp 6)=iv 3:=by rw [ad]; exact put_same _ _ _ (by rw [bR]; decide)
 show stepsTo _ _ _ _ _ (dx.put (some 6) (iv 3)) _
 rw [← ad]
 refine st_nil (dZ _ _ (wp_seq_k fun gD cz=>?_))
 refine wp_g [true,true,true,true,true,true,true,true,false,false] [6] [(8,false),(9,true)] 99
   [(OP aW.heap.size 56 .u32 ([1])),(fun (v_:Value) (W:World)=>∃ (aN:Option Addr) (aO:Nat),v_=vv (Vl.mk 4 0 0 false [1] [] 0) aN aO none 0∧SRow W .u32 aN ([1]) aO),(fun (v_:Value) (W:World)=>∃ (aP:Option Addr) (aQ:Nat),v_=vv (Vl.mk 4 0 0 false [] [] 0) aP aQ none 0∧SRow W .u32 aP ([]) aQ),ve (.tuple #[vv (Vl.mk 0 0 0 false [] [] 0) none 0 none 0,iv 2]),ve (.tuple #[vv (Vl.mk 0 0 0 false [] [] 0) none 0 none 0,iv 2]),ve (vv (Vl.mk 0 0 0 false [] [] 0) none 0 none 0),ve (iv 2),IsNew aW 29 z7,vt,vt]
   [7] (newsCons (fun v w h=>IsNew.old h) newsNil) bo (.cons (fun _ _ _ n ⟨_,_,e,h⟩=>⟨_,_,e,h.new_ n⟩) (.cons (fun _ _ _ n ⟨_,_,e,h⟩=>⟨_,_,e,h.new_ n⟩) (.cons (fun _ _ _ n ⟨_,_,e,h⟩=>⟨_,_,e,h.new_ n⟩) (.eq (.eq (.eq (.eq (.nw (.tt (.tt (.nil))))))))))) ?_ ?_ ?_
 refine .o1 (tkA rfl (noG rfl) fun _ w hn k=>(by
       exact x_bslice (k:=.u32) (ps:=[(0,.int .u32 1)]) [1] rfl (parts1 rfl) elW rfl (by omega) (by omega) (by first|kernel_rfl|(simp only [enc,List.map_cons,List.map_nil,Int.toNat_natCast,Int.toNat_of_nonneg (by omega:(0:Int)≤_)]; kernel_rfl)) fun fV fW W' hmo=>⟨fV,fW,rfl,(hmo.more hn.size)⟩)) ?_
 refine .o1 (tkC rfl (noG rfl) rfl fun _ w hn k=>(by
       obtain⟨fX,fY,fZ,d6⟩:(OP aW.heap.size 56 .u32 ([1])) _ _:=k.dep 0 33 (by kernel_rfl) (by kernel_rfl)
       refine ⟨#[sv fX ([1]) fY],_,args1 fZ,fun w=>by kernel_rfl,obig_c _ ([1]) _ _ d6.row,?_⟩
       rintro e w' ⟨f0,f1,rfl,hmo0,hm⟩
       exact⟨_,rfl,hm,⟨f0,f1,rfl,hmo0⟩⟩)) ?_
 refine .o1 (tkC rfl (noG rfl) rfl fun _ w hn k=>(by
       refine ⟨#[sv none ([]) 0],_,args1 rfl,fun w=>by kernel_rfl,obig_c _ ([]) _ _ (SRow.nil _ _),?_⟩
       rintro e w' ⟨f2,f3,rfl,hmo0,hm⟩
       exact⟨_,rfl,hm,⟨f2,f3,rfl,hmo0⟩⟩)) ?_
 refine .o1 (tkC rfl (noG rfl) rfl fun _ w hn k=>(by
       obtain⟨f4,f5,f6,d7⟩:(fun (v_:Value) (W:World)=>∃ (aN:Option Addr) (aO:Nat),v_=vv (Vl.mk 4 0 0 false [1] [] 0) aN aO none 0∧SRow W .u32 aN ([1]) aO) _ _:=k.dep 1 34 (by kernel_rfl) (by kernel_rfl)
       obtain⟨f7,f8,f9,d8⟩:(fun (v_:Value) (W:World)=>∃ (aP:Option Addr) (aQ:Nat),v_=vv (Vl.mk 4 0 0 false [] [] 0) aP aQ none 0∧SRow W .u32 aP ([]) aQ) _ _:=k.dep 2 35 (by kernel_rfl) (by kernel_rfl)
       refine ⟨#[.string ⟨#[47]⟩,vv (Vl.mk 4 0 0 false [1] [] 0) f4 f5 none 0,vv (Vl.mk 4 0 0 false [] [] 0) f7 f8 none 0],_,args3 rfl f6 f9,fun w=>by kernel_rfl,f_b _ _ _ _ _ _ _ _ _ d7 (SRow.nil _ _) d8 (SRow.nil _ _),?_⟩
       rintro e w' ⟨rfl,hm⟩
       exact⟨_,rfl,hm,rfl⟩)) ?_
 refine .m (fun k=>k.eq1 3 36 rfl)<| .t (fun _ w hn k=>⟨_,v_extract rfl (k.eq1 4 32 rfl) rfl,rfl⟩) ?_
 refine .o3 ?_
 exact .o2 (step_allocN (cs:=z7) (t:=29) rfl (noG rfl) (fun _ w hn k=>rfl) (fun q _ hq hb=>⟨q,rfl,hq,hb⟩))<| .off<| .off .nil
 intro i h
 simp only [List.contains_eq_mem,List.mem_cons,List.not_mem_nil,or_false,decide_eq_true_eq] at h
 subst h
 exact eager_take rfl rfl fun _ w hn k=>⟨iv 2,fun w=>v_extract rfl (k.eq1 4 32 rfl) rfl,rfl⟩
 refine aftI bo cy bn fun bY gE bp cA cB aY ah=>?_
 have d9:=ah.fx 1 d2
 have ea:=ah.fx 2 d3
 have eb:=ah.fx 4 d4
 have ec:=ah.fx 6 d5
 have bZ:=ah.ge 5 37 rfl
 have b0:=ah.ge 6 38 rfl
 obtain⟨b1,b2,bq,aZ⟩:=ah.G 7 7
 have cC:=bm.new_ aY
 have hne152:aT ≠ b1:=by have h1:=bm.lt; have h2:=bq; omega
 have gn:=Nat.le_trans bn.size bq
 have cD:=cw.new_ aY
 have cE:=cx.new_ aY
 obtain⟨a1,b3,b4,a3,cF⟩:=s_many (P:=Tryz.prog) (t:=29) (i:=0) z7 Tryz.sizeOf29 rfl rfl rfl aZ lb
 have go:Blk a1 b1 29 z7:=b4
 refine st_act rfl rfl fun gF cG=>a_store' rfl b2 bZ b3 (cG _ _ trivial ?_)
 have cH:=cD.fr aZ a3
 have cI:=cE.fr aZ a3
 have br:=cF _ _ _ (hne152) cC
 have bs:=cB.trans a3 (fun _ h b=>by subst b; omega)
 refine st_take rfl rfl (y_assign (v:=iv 2) rfl b0) rfl ?_
 obtain⟨ed,ac⟩:∃ a',a'=bY.put (some 8) (iv 2):=⟨_,rfl⟩
 have bt:=pz ac bp
 have cJ:=pd ac cA
 have ee:=pn ac d9 (by decide)
 have ef:=pn ac ea (by decide)
 have eg:=pn ac eb (by decide)
 have eh:=pn ac ec (by decide)
 have gG:=pn ac bZ (by decide)
 have gH:=pn ac b0 (by decide)
 have gI:=pn ac b2 (by decide)
 have ei:ed.eval (.tmp 8)=iv 2:=by rw [ac]; exact put_same _ _ _ (by rw [bp]; decide)
 show stepsTo _ _ _ _ _ (bY.put (some 8) (iv 2)) _
 rw [← ac]
 refine st_nil (cz _ _ (wp_seq_k fun gJ cK=>?_))
 refine wp_g [true,true,true,true,true,true,true,true,false,false] [6] [(8,false),(9,true)] 99
   [(OP a1.heap.size 56 .u32 ([1])),(fun (v_:Value) (W:World)=>∃ (an:Option Addr) (ao:Nat),v_=vv (Vl.mk 4 0 0 false [1] [] 0) an ao none 0∧SRow W .u32 an ([1]) ao),ve (vv (Vl.mk 3 0 2 false [] [] 0) none 0 none 0),ve (.tuple #[vv (Vl.mk 2 0 0 false [] [] 1) none 0 none 0,iv 0]),ve (.tuple #[vv (Vl.mk 2 0 0 false [] [] 1) none 0 none 0,iv 0]),ve (vv (Vl.mk 2 0 0 false [] [] 1) none 0 none 0),ve (iv 0),IsNew a1 29 z7,vt,vt]
   [7] (newsCons (fun v w h=>IsNew.old h) newsNil) bt (.cons (fun _ _ _ n ⟨_,_,e,h⟩=>⟨_,_,e,h.new_ n⟩) (.cons (fun _ _ _ n ⟨_,_,e,h⟩=>⟨_,_,e,h.new_ n⟩) (.eq (.eq (.eq (.eq (.eq (.nw (.tt (.tt (.nil))))))))))) ?_ ?_ ?_
 refine .o1 (tkA rfl (noG rfl) fun _ w hn k=>(by
       exact x_bslice (k:=.u32) (ps:=[(0,.int .u32 1)]) [1] rfl (parts1 rfl) elW rfl (by omega) (by omega) (by first|kernel_rfl|(simp only [enc,List.map_cons,List.map_nil,Int.toNat_natCast,Int.toNat_of_nonneg (by omega:(0:Int)≤_)]; kernel_rfl)) fun gc gd W' hmo=>⟨gc,gd,rfl,(hmo.more hn.size)⟩)) ?_
 refine .o1 (tkC rfl (noG rfl) rfl fun _ w hn k=>(by
       obtain⟨gg,gh,gi,cL⟩:(OP a1.heap.size 56 .u32 ([1])) _ _:=k.dep 0 40 (by kernel_rfl) (by kernel_rfl)
       refine ⟨#[sv gg ([1]) gh],_,args1 gi,fun w=>by kernel_rfl,obig_c _ ([1]) _ _ cL.row,?_⟩
       rintro e w' ⟨ej,ek,rfl,hmo0,hm⟩
       exact⟨_,rfl,hm,⟨ej,ek,rfl,hmo0⟩⟩)) ?_
 refine .o1 (ck rfl rfl rfl (fun _ w hn k=>⟨#[iv 2],args1 rfl,fun _=>by kernel_rfl,owhole_c 2 _ ⟩) fun _=>rfl) ?_
 refine .o1 (tkC rfl (noG rfl) rfl fun _ w hn k=>(by
       obtain⟨el,em,en,cM⟩:(fun (v_:Value) (W:World)=>∃ (an:Option Addr) (ao:Nat),v_=vv (Vl.mk 4 0 0 false [1] [] 0) an ao none 0∧SRow W .u32 an ([1]) ao) _ _:=k.dep 1 41 (by kernel_rfl) (by kernel_rfl)
       refine ⟨#[.string ⟨#[60]⟩,vv (Vl.mk 4 0 0 false [1] [] 0) el em none 0,vv (Vl.mk 3 0 2 false [] [] 0) none 0 none 0],_,args3 rfl en (k.eq1 2 42 rfl),fun w=>by kernel_rfl,f_l _ _ _ _ _ _ _ _ _ cM (SRow.nil _ _) (SRow.nil _ _) (SRow.nil _ _),?_⟩
       rintro e w' ⟨rfl,hm⟩
       exact⟨_,rfl,hm,rfl⟩)) ?_
 refine .m (fun k=>k.eq1 3 43 rfl)<| .t (fun _ w hn k=>⟨_,v_extract rfl (k.eq1 4 39 rfl) rfl,rfl⟩) ?_
 refine .o3 ?_
 exact .o2 (step_allocN (cs:=z7) (t:=29) rfl (noG rfl) (fun _ w hn k=>rfl) (fun q _ hq hb=>⟨q,rfl,hq,hb⟩))<| .off<| .off .nil
 intro i h
 simp only [List.contains_eq_mem,List.mem_cons,List.not_mem_nil,or_false,decide_eq_true_eq] at h
 subst h
 exact eager_take rfl rfl fun _ w hn k=>⟨iv 0,fun w=>v_extract rfl (k.eq1 4 39 rfl) rfl,rfl⟩
 refine aftI bt cJ bs fun b5 gK bu cN cO a4 af=>?_
 have eo:=af.fx 1 ee
 have ep:=af.fx 2 ef
 have er:=af.fx 4 eg
 have es:=af.fx 6 eh
 have et:=af.fx 8 ei
 have b6:=af.ge 5 44 rfl
 have b7:=af.ge 6 45 rfl
 obtain⟨aR,b8,bv,a5⟩:=af.G 7 9
 have cP:=br.new_ a4
 have hne199:aT ≠ aR:=by have h1:=br.lt; have h2:=bv; omega
 have gp:=Nat.le_trans bs.size bv
 have cQ:=cH.new_ a4
 have cR:=cI.new_ a4
 obtain⟨b9,ca,cb,a6,cS⟩:=s_many (P:=Tryz.prog) (t:=29) (i:=0) [iv 2,iv 0,iv 0,.bool false,sv none ([]) 0,sv none ([]) 0,iv 1] Tryz.sizeOf29 rfl rfl rfl a5 lb
 have bw:Blk b9 aR 29 [iv 2,iv 0,iv 0,.bool false,sv none ([]) 0,sv none ([]) 0,iv 1]:=cb
 refine st_act rfl rfl fun gL cT=>a_store' rfl b8 b6 ca (cT _ _ trivial ?_)
 have cU:=cQ.fr a5 a6
 have cV:=cR.fr a5 a6
 have bx:=cS _ _ _ (hne199) cP
 have bz:=cO.trans a6 (fun _ h b=>by subst b; omega)
 refine st_take rfl rfl (y_assign (v:=iv 0) rfl b7) rfl ?_
 obtain⟨eu,ab⟩:∃ a',a'=b5.put (some 10) (iv 0):=⟨_,rfl⟩
 have bA:=pz ab bu
 have cW:=pd ab cN
 have ev:=pn ab eo (by decide)
 have ew:=pn ab ep (by decide)
 have ex:=pn ab er (by decide)
 have ey:=pn ab es (by decide)
 have ez:=pn ab et (by decide)
 have gM:=pn ab b6 (by decide)
 have gN:=pn ab b7 (by decide)
 have eA:=pn ab b8 (by decide)
 have eB:eu.eval (.tmp 10)=iv 0:=by rw [ab]; exact put_same _ _ _ (by rw [bu]; decide)
 show stepsTo _ _ _ _ _ (b5.put (some 10) (iv 0)) _
 rw [← ab]
 refine st_nil (cK _ _ (wp_seq_k fun gO cX=>?_))
 refine wp_g [true,true,true,true,true,true,false,false] [4] [(6,false),(7,true)] 99
   [ve (vv (Vl.mk 3 0 0 false [] [] 0) none 0 none 0),ve (.tuple #[vv (Vl.mk 3 1 0 false [] [] 0) none 0 none 0,iv 0]),ve (.tuple #[vv (Vl.mk 3 1 0 false [] [] 0) none 0 none 0,iv 0]),ve (vv (Vl.mk 3 1 0 false [] [] 0) none 0 none 0),ve (iv 0),IsNew b9 29 z7,vt,vt]
   [5] (newsCons (fun v w h=>IsNew.old h) newsNil) bA (.eq (.eq (.eq (.eq (.eq (.nw (.tt (.tt (.nil))))))))) ?_ ?_ ?_
 refine .o1 (ck rfl rfl rfl (fun _ w hn k=>⟨#[iv 0],args1 rfl,fun _=>by kernel_rfl,owhole_c 0 _ ⟩) fun _=>rfl)<| .o1 (ck rfl rfl rfl (fun _ w hn k=>⟨#[.string ⟨#[45]⟩,vv (Vl.mk 3 0 0 false [] [] 0) none 0 none 0],args2 rfl (k.eq1 0 47 rfl),fun _=>by kernel_rfl,f_n _ _ _ _ _ (SRow.nil _ _) (SRow.nil _ _)⟩) fun _=>rfl)<| .m (fun k=>k.eq1 1 48 rfl)<| .t (fun _ w hn k=>⟨_,v_extract rfl (k.eq1 2 46 rfl) rfl,rfl⟩) ?_
 refine .o3 ?_
 exact .o2 (step_allocN (cs:=z7) (t:=29) rfl (noG rfl) (fun _ w hn k=>rfl) (fun q _ hq hb=>⟨q,rfl,hq,hb⟩))<| .off<| .off .nil
 intro i h
 simp only [List.contains_eq_mem,List.mem_cons,List.not_mem_nil,or_false,decide_eq_true_eq] at h
 subst h
 exact eager_take rfl rfl fun _ w hn k=>⟨iv 0,fun w=>v_extract rfl (k.eq1 2 46 rfl) rfl,rfl⟩
 refine aftI bA cW bz fun cc gP bB cY cZ ay ae=>?_
 have eC:=ae.fx 1 ev
 have eD:=ae.fx 2 ew
 have eE:=ae.fx 4 ex
 have eF:=ae.fx 6 ey
 have eG:=ae.fx 8 ez
 have eH:=ae.fx 9 eA
 have eI:=ae.fx 10 eB
 have cd:=ae.ge 3 49 rfl
 have ce:=ae.ge 4 50 rfl
 obtain⟨aS,cf,a7,a8⟩:=ae.G 5 11
 have c0:=bx.new_ ay
 have c1:=bw.new_ ay
 have hne250:aT ≠ aS:=by have h1:=bx.lt; have h2:=a7; omega
 have hne251:aR ≠ aS:=by have h1:=bw.lt; have h2:=a7; omega
 have gq:=Nat.le_trans bz.size a7
 have c3:=cU.new_ ay
 have c5:=cV.new_ ay
 obtain⟨eJ,ch,ci,a9,bC⟩:=s_many (P:=Tryz.prog) (t:=29) (i:=0) [iv 3,iv 1,iv 0,.bool false,sv none ([]) 0,sv none ([]) 0,iv 0] Tryz.sizeOf29 rfl rfl rfl a8 lb
 have c8:Blk eJ aS 29 [iv 3,iv 1,iv 0,.bool false,sv none ([]) 0,sv none ([]) 0,iv 0]:=ci
 refine st_act rfl rfl fun gQ c9=>a_store' rfl cf cd ch (c9 _ _ trivial ?_)
 have da:=c3.fr a8 a9
 have db:=c5.fr a8 a9
 have dc:=bC _ _ _ (hne250) c0
 have bD:=bC _ _ _ (hne251) c1
 have dd:=cZ.trans a9 (fun _ h b=>by subst b; omega)
 refine st_take rfl rfl (y_assign (v:=iv 0) rfl ce) rfl ?_
 obtain⟨eK,aa⟩:∃ a',a'=cc.put (some 12) (iv 0):=⟨_,rfl⟩
 have bE:=pz aa bB
 have de:=pd aa cY
 have eL:=pn aa eC (by decide)
 have eM:=pn aa eD (by decide)
 have eN:=pn aa eE (by decide)
 have eO:=pn aa eF (by decide)
 have eP:=pn aa eG (by decide)
 have cj:=pn aa eH (by decide)
 have eQ:=pn aa eI (by decide)
 have gR:=pn aa cd (by decide)
 have gS:=pn aa ce (by decide)
 have eR:=pn aa cf (by decide)
 have eS:eK.eval (.tmp 12)=iv 0:=by rw [aa]; exact put_same _ _ _ (by rw [bB]; decide)
 show stepsTo _ _ _ _ _ (cc.put (some 12) (iv 0)) _
 rw [← aa]
 refine st_nil (cX _ _ (wp_seq_k fun gT df=>?_))
 have bF:(decide (((joinV (cleanV (Vl.mk 5 0 0 false [] (asc ⟨#[97]⟩) 0)) (cleanV (Vl.mk 3 0 1 false [] [] 0))).2)=0))=true:=by rw [join_a1]; rfl
 have gj:=oT bF
 have dg:(sameV ((joinV (cleanV (Vl.mk 5 0 0 false [] (asc ⟨#[97]⟩) 0)) (cleanV (Vl.mk 3 0 1 false [] [] 0))).1) (Vl.mk 5 0 0 false [] (asc ⟨#[97,49]⟩) 0))=true:=by rw [join_a1]; decide +kernel
 refine wp_g0 (.replicate 49 true) [] 99
   [ve (iv ((joinV (cleanV (Vl.mk 5 0 0 false [] (asc ⟨#[97]⟩) 0)) (cleanV (Vl.mk 3 0 1 false [] [] 0))).2)),vT,vT,ve (vv (joinV (cleanV (Vl.mk 5 0 0 false [] (asc ⟨#[97]⟩) 0)) (cleanV (Vl.mk 3 0 1 false [] [] 0))).1 aH aI ba aJ),(fun (v_:Value) (W:World)=>∃ (ap:Option Addr) (aq:Nat),v_=vv (Vl.mk 5 0 0 false [] (asc ⟨#[97,49]⟩) 0) none 0 ap aq∧SRow W .u16 ap (asc ⟨#[97,49]⟩) aq),vT,vT,vT,ve (iv 1),vT,vT,vT,ve (iv 3),vT,vT,vT,ve (iv 2),vT,vT,vT,ve (iv 0),vT,vT,vT,ve (pv aR),ve (iv 2),vT,vT,vT,ve (.pointer (some ⟨aR,6,none⟩)),ve (iv 1),vT,vT,vT,ve (iv 0),vT,vT,vT,ve (.pointer (some ⟨aS,1,none⟩)),ve (.pointer (some ⟨aS,1,none⟩)),ve (iv 1),vT,vT,vT,(fun (v_:Value) (W:World)=>∃ (ar:Option Addr) (au:Nat),v_=svT ar ([⟨#[43]⟩,⟨#[45]⟩,⟨#[42]⟩,⟨#[47]⟩,⟨#[37]⟩,⟨#[38]⟩,⟨#[124]⟩,⟨#[94]⟩,⟨#[60,60]⟩,⟨#[62,62]⟩,⟨#[62,62,62]⟩,⟨#[60]⟩,⟨#[62]⟩,⟨#[60,61]⟩,⟨#[62,61]⟩,⟨#[61,61]⟩,⟨#[33,61]⟩,⟨#[61,61,61]⟩,⟨#[33,61,61]⟩]) au∧TRow W ar ([⟨#[43]⟩,⟨#[45]⟩,⟨#[42]⟩,⟨#[47]⟩,⟨#[37]⟩,⟨#[38]⟩,⟨#[124]⟩,⟨#[94]⟩,⟨#[60,60]⟩,⟨#[62,62]⟩,⟨#[62,62,62]⟩,⟨#[60]⟩,⟨#[62]⟩,⟨#[60,61]⟩,⟨#[62,61]⟩,⟨#[61,61]⟩,⟨#[33,61]⟩,⟨#[61,61,61]⟩,⟨#[33,61,61]⟩]) au),(fun (v_:Value) (W:World)=>∃ (av:Option Addr) (aw:Nat),v_=svT av ([⟨#[43]⟩,⟨#[45]⟩,⟨#[42]⟩,⟨#[47]⟩,⟨#[37]⟩,⟨#[38]⟩,⟨#[124]⟩,⟨#[94]⟩,⟨#[60,60]⟩,⟨#[62,62]⟩,⟨#[62,62,62]⟩,⟨#[60]⟩,⟨#[62]⟩,⟨#[60,61]⟩,⟨#[62,61]⟩,⟨#[61,61]⟩,⟨#[33,61]⟩,⟨#[61,61,61]⟩,⟨#[33,61,61]⟩]) aw∧TRow W av ([⟨#[43]⟩,⟨#[45]⟩,⟨#[42]⟩,⟨#[47]⟩,⟨#[37]⟩,⟨#[38]⟩,⟨#[124]⟩,⟨#[94]⟩,⟨#[60,60]⟩,⟨#[62,62]⟩,⟨#[62,62,62]⟩,⟨#[60]⟩,⟨#[62]⟩,⟨#[60,61]⟩,⟨#[62,61]⟩,⟨#[61,61]⟩,⟨#[33,61]⟩,⟨#[61,61,61]⟩,⟨#[33,61,61]⟩]) aw),vT,vT,vT] bE (.eq (.eq (.eq (.eq (.cons (fun _ _ _ n ⟨_,_,e,h⟩=>⟨_,_,e,h.new_ n⟩) (.eq (.eq (.eq (.eq (.eq (.eq (.eq (.eq (.eq (.eq (.eq (.eq (.eq (.eq (.eq (.eq (.eq (.eq (.eq (.eq (.eq (.eq (.eq (.eq (.eq (.eq (.eq (.eq (.eq (.eq (.eq (.eq (.eq (.eq (.eq (.eq (.eq (.eq (.eq (.cons (fun _ _ _ n ⟨_,_,e,h⟩=>⟨_,_,e,h.new_ n⟩) (.cons (fun _ _ _ n ⟨_,_,e,h⟩=>⟨_,_,e,h.new_ n⟩) (.eq (.eq (.eq (.nil)))))))))))))))))))))))))))))))))))))))))))))))))) ?_ ?_
 refine .m (fun k=>k.fx 2 eM)<| .t (fun _ w hn k=>⟨_,v_bin rfl (k.eq1 0 51 rfl) rfl (fun _=>rfl) (r_eql bF),rfl⟩)<| .m (fun k=>k.eq1 1 52 rfl)<| .g (fun k=>k.eq1 2 53 rfl) (fun _ w hn k=>⟨_,v_load rfl (k.fx 1 eL) (l_agg Tryz.isAgg29 Tryz.sizeOf29 (dc.new_ hn) rfl),rfl⟩) ?_
 refine .o1 (tkC rfl (onG rfl rfl fun _ _ k=>k.eq1 2 53 rfl) rfl fun _ w hn k=>(by
       refine ⟨#[.string ⟨#[97,49]⟩],_,args1 rfl,fun w=>by kernel_rfl,ostr_c ⟨#[97,49]⟩ _ (by first|omega|(show (_:Nat)≤_; decide)),?_⟩
       rintro e w' ⟨eT,eU,rfl,hmo0,hm⟩
       exact⟨_,rfl,hm,⟨eT,eU,rfl,hmo0⟩⟩)) ?_
 refine .o1 (tkC rfl (onG rfl rfl fun _ _ k=>k.eq1 2 53 rfl) rfl fun _ w hn k=>(by
       obtain⟨eV,eW,eX,dh⟩:(fun (v_:Value) (W:World)=>∃ (ap:Option Addr) (aq:Nat),v_=vv (Vl.mk 5 0 0 false [] (asc ⟨#[97,49]⟩) 0) none 0 ap aq∧SRow W .u16 ap (asc ⟨#[97,49]⟩) aq) _ _:=k.dep 4 55 (by kernel_rfl) (by kernel_rfl)
       refine ⟨#[vv (joinV (cleanV (Vl.mk 5 0 0 false [] (asc ⟨#[97]⟩) 0)) (cleanV (Vl.mk 3 0 1 false [] [] 0))).1 aH aI ba aJ,vv (Vl.mk 5 0 0 false [] (asc ⟨#[97,49]⟩) 0) none 0 eV eW],_,args2 (k.eq1 3 54 rfl) eX,fun w=>by kernel_rfl,vsame_c ((joinV (cleanV (Vl.mk 5 0 0 false [] (asc ⟨#[97]⟩) 0)) (cleanV (Vl.mk 3 0 1 false [] [] 0))).1) _ _ _ _ (Vl.mk 5 0 0 false [] (asc ⟨#[97,49]⟩) 0) _ _ _ _ _ (da.new_ hn) (db.new_ hn) (SRow.nil _ _) dh,?_⟩
       rintro e w' ⟨rfl,hm⟩
       exact⟨_,rfl,hm,congrArg Value.bool dg⟩)) ?_
 refine .t (fun _ w hn k=>⟨_,v_pickT rfl (k.eq1 2 53 rfl) (k.eq1 5 56 rfl),rfl⟩)<| .m (fun k=>k.eq1 6 57 rfl)<| .gm (fun k=>k.eq1 7 58 rfl) (fun k=>k.fx 4 eN)<| .g (fun k=>k.eq1 7 58 rfl) (fun _ w hn k=>⟨_,v_bin rfl (k.eq1 8 59 rfl) rfl (fun _=>rfl) (fun w=>by kernel_rfl),rfl⟩)<| .t (fun _ w hn k=>⟨_,v_pickT rfl (k.eq1 7 58 rfl) (k.eq1 9 60 rfl),rfl⟩)<| .m (fun k=>k.eq1 10 61 rfl)<| .gm (fun k=>k.eq1 11 62 rfl) (fun k=>k.fx 6 eO)<| .g (fun k=>k.eq1 11 62 rfl) (fun _ w hn k=>⟨_,v_bin rfl (k.eq1 12 63 rfl) rfl (fun _=>rfl) (fun w=>by kernel_rfl),rfl⟩)<| .t (fun _ w hn k=>⟨_,v_pickT rfl (k.eq1 11 62 rfl) (k.eq1 13 64 rfl),rfl⟩)<| .m (fun k=>k.eq1 14 65 rfl)<| .gm (fun k=>k.eq1 15 66 rfl) (fun k=>k.fx 8 eP)<| .g (fun k=>k.eq1 15 66 rfl) (fun _ w hn k=>⟨_,v_bin rfl (k.eq1 16 67 rfl) rfl (fun _=>rfl) (fun w=>by kernel_rfl),rfl⟩)<| .t (fun _ w hn k=>⟨_,v_pickT rfl (k.eq1 15 66 rfl) (k.eq1 17 68 rfl),rfl⟩)<| .m (fun k=>k.eq1 18 69 rfl)<| .gm (fun k=>k.eq1 19 70 rfl) (fun k=>k.fx 10 eQ)<| .g (fun k=>k.eq1 19 70 rfl) (fun _ w hn k=>⟨_,v_bin rfl (k.eq1 20 71 rfl) rfl (fun _=>rfl) (fun w=>by kernel_rfl),rfl⟩)<| .t (fun _ w hn k=>⟨_,v_pickT rfl (k.eq1 19 70 rfl) (k.eq1 21 72 rfl),rfl⟩)<| .m (fun k=>k.eq1 22 73 rfl)<| .gf (fun k=>k.eq1 23 74 rfl) (fun k=>k.fx 9 cj)<| .g (fun k=>k.eq1 23 74 rfl) (fun _ w hn k=>⟨_,v_load rfl (k.eq1 24 75 rfl) (l_one Tryz.isAgg3 ((bD.new_ hn).cell 0)),rfl⟩)<| .g (fun k=>k.eq1 23 74 rfl) (fun _ w hn k=>⟨_,v_bin rfl (k.eq1 25 76 rfl) rfl (fun _=>rfl) (fun w=>by kernel_rfl),rfl⟩)<| .t (fun _ w hn k=>⟨_,v_pickT rfl (k.eq1 23 74 rfl) (k.eq1 26 77 rfl),rfl⟩)<| .m (fun k=>k.eq1 27 78 rfl)<| .gf (fun k=>k.eq1 28 79 rfl) (fun k=>k.fx 9 cj)<| .g (fun k=>k.eq1 28 79 rfl) (fun _ w hn k=>⟨_,v_load rfl (k.eq1 29 80 rfl) (l_one Tryz.isAgg3 ((bD.new_ hn).cell 6)),rfl⟩)<| .g (fun k=>k.eq1 28 79 rfl) (fun _ w hn k=>⟨_,v_bin rfl (k.eq1 30 81 rfl) rfl (fun _=>rfl) (fun w=>by kernel_rfl),rfl⟩)<| .t (fun _ w hn k=>⟨_,v_pickT rfl (k.eq1 28 79 rfl) (k.eq1 31 82 rfl),rfl⟩)<| .m (fun k=>k.eq1 32 83 rfl)<| .gm (fun k=>k.eq1 33 84 rfl) (fun k=>k.fx 12 eS)<| .g (fun k=>k.eq1 33 84 rfl) (fun _ w hn k=>⟨_,v_bin rfl (k.eq1 34 85 rfl) rfl (fun _=>rfl) (fun w=>by kernel_rfl),rfl⟩)<| .t (fun _ w hn k=>⟨_,v_pickT rfl (k.eq1 33 84 rfl) (k.eq1 35 86 rfl),rfl⟩)<| .m (fun k=>k.eq1 36 87 rfl)<| .gf (fun k=>k.eq1 37 88 rfl) (fun k=>k.fx 11 eR)<| .gf (fun k=>k.eq1 37 88 rfl) (fun k=>k.eq1 38 89 rfl)<| .g (fun k=>k.eq1 37 88 rfl) (fun _ w hn k=>⟨_,v_load rfl (k.eq1 39 90 rfl) (l_one Tryz.isAgg3 ((c8.new_ hn).cell 1)),rfl⟩)<| .g (fun k=>k.eq1 37 88 rfl) (fun _ w hn k=>⟨_,v_bin rfl (k.eq1 40 91 rfl) rfl (fun _=>rfl) (fun w=>by kernel_rfl),rfl⟩)<| .t (fun _ w hn k=>⟨_,v_pickT rfl (k.eq1 37 88 rfl) (k.eq1 41 92 rfl),rfl⟩)<| .m (fun k=>k.eq1 42 93 rfl) ?_
 refine .o1 (tkC rfl (onG rfl rfl fun _ _ k=>k.eq1 43 94 rfl) rfl fun _ w hn k=>(by
       refine ⟨#[],_,rfl,fun w=>by kernel_rfl,ops_c  _ ,?_⟩
       rintro e w' ⟨eY,eZ,rfl,hmo0,hm⟩
       exact⟨_,rfl,hm,⟨eY,eZ,rfl,hmo0⟩⟩)) ?_
 refine .o1 (tkC rfl (onG rfl rfl fun _ _ k=>k.eq1 43 94 rfl) rfl fun _ w hn k=>(by
       refine ⟨#[],_,rfl,fun w=>by kernel_rfl,rops_c  _ ,?_⟩
       rintro e w' ⟨e0,e1,rfl,hmo0,hm⟩
       exact⟨_,rfl,hm,⟨e0,e1,rfl,hmo0⟩⟩)) ?_
 refine .o1 (tkC rfl (onG rfl rfl fun _ _ k=>k.eq1 43 94 rfl) rfl fun _ w hn k=>(by
       obtain⟨e2,e3,e4,di⟩:(fun (v_:Value) (W:World)=>∃ (ar:Option Addr) (au:Nat),v_=svT ar ([⟨#[43]⟩,⟨#[45]⟩,⟨#[42]⟩,⟨#[47]⟩,⟨#[37]⟩,⟨#[38]⟩,⟨#[124]⟩,⟨#[94]⟩,⟨#[60,60]⟩,⟨#[62,62]⟩,⟨#[62,62,62]⟩,⟨#[60]⟩,⟨#[62]⟩,⟨#[60,61]⟩,⟨#[62,61]⟩,⟨#[61,61]⟩,⟨#[33,61]⟩,⟨#[61,61,61]⟩,⟨#[33,61,61]⟩]) au∧TRow W ar ([⟨#[43]⟩,⟨#[45]⟩,⟨#[42]⟩,⟨#[47]⟩,⟨#[37]⟩,⟨#[38]⟩,⟨#[124]⟩,⟨#[94]⟩,⟨#[60,60]⟩,⟨#[62,62]⟩,⟨#[62,62,62]⟩,⟨#[60]⟩,⟨#[62]⟩,⟨#[60,61]⟩,⟨#[62,61]⟩,⟨#[61,61]⟩,⟨#[33,61]⟩,⟨#[61,61,61]⟩,⟨#[33,61,61]⟩]) au) _ _:=k.dep 44 95 (by kernel_rfl) (by kernel_rfl)
       obtain⟨e5,e6,e8,dj⟩:(fun (v_:Value) (W:World)=>∃ (av:Option Addr) (aw:Nat),v_=svT av ([⟨#[43]⟩,⟨#[45]⟩,⟨#[42]⟩,⟨#[47]⟩,⟨#[37]⟩,⟨#[38]⟩,⟨#[124]⟩,⟨#[94]⟩,⟨#[60,60]⟩,⟨#[62,62]⟩,⟨#[62,62,62]⟩,⟨#[60]⟩,⟨#[62]⟩,⟨#[60,61]⟩,⟨#[62,61]⟩,⟨#[61,61]⟩,⟨#[33,61]⟩,⟨#[61,61,61]⟩,⟨#[33,61,61]⟩]) aw∧TRow W av ([⟨#[43]⟩,⟨#[45]⟩,⟨#[42]⟩,⟨#[47]⟩,⟨#[37]⟩,⟨#[38]⟩,⟨#[124]⟩,⟨#[94]⟩,⟨#[60,60]⟩,⟨#[62,62]⟩,⟨#[62,62,62]⟩,⟨#[60]⟩,⟨#[62]⟩,⟨#[60,61]⟩,⟨#[62,61]⟩,⟨#[61,61]⟩,⟨#[33,61]⟩,⟨#[61,61,61]⟩,⟨#[33,61,61]⟩]) aw) _ _:=k.dep 45 96 (by kernel_rfl) (by kernel_rfl)
       refine ⟨#[svT e2 ([⟨#[43]⟩,⟨#[45]⟩,⟨#[42]⟩,⟨#[47]⟩,⟨#[37]⟩,⟨#[38]⟩,⟨#[124]⟩,⟨#[94]⟩,⟨#[60,60]⟩,⟨#[62,62]⟩,⟨#[62,62,62]⟩,⟨#[60]⟩,⟨#[62]⟩,⟨#[60,61]⟩,⟨#[62,61]⟩,⟨#[61,61]⟩,⟨#[33,61]⟩,⟨#[61,61,61]⟩,⟨#[33,61,61]⟩]) e3,svT e5 ([⟨#[43]⟩,⟨#[45]⟩,⟨#[42]⟩,⟨#[47]⟩,⟨#[37]⟩,⟨#[38]⟩,⟨#[124]⟩,⟨#[94]⟩,⟨#[60,60]⟩,⟨#[62,62]⟩,⟨#[62,62,62]⟩,⟨#[60]⟩,⟨#[62]⟩,⟨#[60,61]⟩,⟨#[62,61]⟩,⟨#[61,61]⟩,⟨#[33,61]⟩,⟨#[61,61,61]⟩,⟨#[33,61,61]⟩]) e6],_,args2 e4 e8,fun w=>by kernel_rfl,texts_c _ ([⟨#[43]⟩,⟨#[45]⟩,⟨#[42]⟩,⟨#[47]⟩,⟨#[37]⟩,⟨#[38]⟩,⟨#[124]⟩,⟨#[94]⟩,⟨#[60,60]⟩,⟨#[62,62]⟩,⟨#[62,62,62]⟩,⟨#[60]⟩,⟨#[62]⟩,⟨#[60,61]⟩,⟨#[62,61]⟩,⟨#[61,61]⟩,⟨#[33,61]⟩,⟨#[61,61,61]⟩,⟨#[33,61,61]⟩]) _ _ ([⟨#[43]⟩,⟨#[45]⟩,⟨#[42]⟩,⟨#[47]⟩,⟨#[37]⟩,⟨#[38]⟩,⟨#[124]⟩,⟨#[94]⟩,⟨#[60,60]⟩,⟨#[62,62]⟩,⟨#[62,62,62]⟩,⟨#[60]⟩,⟨#[62]⟩,⟨#[60,61]⟩,⟨#[62,61]⟩,⟨#[61,61]⟩,⟨#[33,61]⟩,⟨#[61,61,61]⟩,⟨#[33,61,61]⟩]) _ _ di dj rfl,?_⟩
       rintro e w' ⟨rfl,hm⟩
       exact⟨_,rfl,hm,rfl⟩)) ?_
 exact .t (fun _ w hn k=>⟨_,v_pickT rfl (k.eq1 43 94 rfl) (k.eq1 46 97 rfl),rfl⟩)<| .a (fun k=>k.eq1 47 98 rfl) .nil
 refine aftI bE de dd fun gU gV gr dk dl gs dm=>?_
 have e9:=dm.ge 48 0 rfl
 refine st_nil (df _ _ ?_)
 refine wp_ret (ret_k dk (v:=.bool true) (res_t rfl e9 _) ?_)
 exact⟨rfl,dl⟩
def biggedV (b:Bool) (m:List Nat) (t:Bool):Vl × Int:=if t then (⟨4,0,0,b,m,[],0⟩,0) else (Vl.z,3)
def bigZ (z:Int):Vl × Int:=biggedV (decide (capI z < 0)) (canon (capI z).natAbs) (okI z)
def numV (a:Nm) (t:Bool):Vl × Int:=(⟨(numberedV a t).1,(numberedV a t).2.1.k,(numberedV a t).2.1.n,false,[],[],0⟩,(numberedV a t).2.2)
def sumsP (v u:Vl):Vl × Int :=
  if decide ((numericsV v u).2.2=0) then
    (if decide ((numericsV v u).1.k=4) then bigZ (goodI (numericsV v u).1.neg (numericsV v u).1.mag + goodI (numericsV v u).2.1.neg (numericsV v u).2.1.mag)
     else numV (addM (numericsV v u).1.num (numericsV v u).2.1.num).1 (addM (numericsV v u).1.num (numericsV v u).2.1.num).2)
  else (Vl.z,(numericsV v u).2.2)
def sumsM (v u:Vl):Vl × Int :=
  if decide ((numericsV v u).2.2=0) then
    (if decide ((numericsV v u).1.k=4) then bigZ (goodI (numericsV v u).1.neg (numericsV v u).1.mag - goodI (numericsV v u).2.1.neg (numericsV v u).2.1.mag)
     else numV (addM (numericsV v u).1.num (negM (numericsV v u).2.1.num)).1 (addM (numericsV v u).1.num (negM (numericsV v u).2.1.num)).2)
  else (Vl.z,(numericsV v u).2.2)
def stepV (v:Vl) (y:Int):Vl × Int :=
  if decide ((numericV v).2=0) then
    (if !decide (y=1) && !decide (y = -1) then (Vl.z,3)
     else if decide ((numericV v).1.k=4) then bigZ (goodI (numericV v).1.neg (numericV v).1.mag + y)
     else numV (addM (numericV v).1.num ⟨0,y⟩).1 (addM (numericV v).1.num ⟨0,y⟩).2)
  else (Vl.z,(numericV v).2)
theorem numV_yes (a:Nm):numV a true=(numVl a,0):=rfl
theorem capI_lt (z:Int):(capI z).natAbs < 2 ^ 256:=by
  unfold capI
  split
  · assumption
  · decide +kernel
theorem capI_ok {z:Int} (h:okI z=true):capI z=z:=if_pos (of_decide_eq_true h)
theorem VOk.bigZ (z:Int):VOk (bigZ z).1:=by
  unfold Go.Proofs.YtjakfchffigkkaaGreatDoor.bigZ biggedV
  split
  · exact⟨limbs_canon _,U16s.nil,(show (canon (capI z).natAbs).length≤40 by have:=(canon_len8 (capI z).natAbs).2 (capI_lt z); omega),Nat.zero_le _,(by decide:(-9223372036854775808:Int)≤0),(by decide:(0:Int)≤9223372036854775807),(by decide:(-9223372036854775808:Int)≤0),(by decide:(0:Int)≤9223372036854775807)⟩
  · exact VOk.z
theorem ofM_may {n:Int} (h:(ofM n).2=true):nmayB (ofM n).1=true:=by
  unfold ofM at h ⊢
  split at h
  · cases h
  · rename_i h2
    rw [if_neg h2]
    simp at h2
    simp [nmayB]
    omega
theorem as_of {a:Nm} (h:nmayB a=true):asM a=a:=by unfold asM; rw [if_pos h]
theorem addM_may {a b:Nm} (h:(addM a b).2=true):nmayB (addM a b).1=true:=by
  unfold addM at h ⊢
  rcases as_cases a with ⟨n,e,h1,h2⟩|e|e|e|e <;> rcases as_cases b with ⟨m,e',h3,h4⟩|e'|e'|e'|e' <;> rw [e,e'] at h ⊢
  all_goals first|decide|rfl|exact ofM_may h
theorem VOk.numV (a b:Nm):VOk (numV (addM a b).1 (addM a b).2).1:=by
  cases h:(addM a b).2 with
  | false=>exact VOk.z
  | true =>
    have h4:=as_bd (addM a b).1
    rw [as_of (addM_may h)] at h4
    exact⟨Limbs.nil,U16s.nil,Nat.zero_le _,Nat.zero_le _,(show -9223372036854775808≤(addM a b).1.n by omega),(show (addM a b).1.n≤9223372036854775807 by omega),(by decide:(-9223372036854775808:Int)≤0),(by decide:(0:Int)≤9223372036854775807)⟩
theorem VOk.sumsP (v u:Vl):VOk (sumsP v u).1:=by
  unfold Go.Proofs.YtjakfchffigkkaaGreatDoor.sumsP
  repeat' split
  · exact VOk.bigZ _
  · exact VOk.numV _ _
  · exact VOk.z
theorem VOk.stepV (v:Vl) (y:Int):VOk (stepV v y).1:=by
  unfold Go.Proofs.YtjakfchffigkkaaGreatDoor.stepV
  repeat' split
  · exact VOk.z
  · exact VOk.bigZ _
  · exact VOk.numV _ _
  · exact VOk.z
theorem bigV_numeric {b:Bool} {m:List Nat} (h:mayB b m=true):cleanV ⟨4,0,0,b,m,[],0⟩=⟨4,0,0,b,m,[],0⟩∧numericV ⟨4,0,0,b,m,[],0⟩=(⟨4,0,0,b,m,[],0⟩,0):=by
  have h1:mayV ⟨4,0,0,b,m,[],0⟩=true:=by unfold mayV; simp [zeroV,h]
  refine ⟨clean_of h1,?_⟩
  unfold numericV
  rw [clean_of h1]
  rfl
theorem numerics_big {b c:Bool} {m l:List Nat} (h:mayB b m=true) (h2:mayB c l=true):numericsV (cleanV ⟨4,0,0,b,m,[],0⟩) (cleanV ⟨4,0,0,c,l,[],0⟩)=(⟨4,0,0,b,m,[],0⟩,⟨4,0,0,c,l,[],0⟩,0):=by
  unfold numericsV
  rw [(bigV_numeric h).1,(bigV_numeric h2).1,(bigV_numeric h).2,(bigV_numeric h2).2]
  rfl
theorem numerics_num {a b:Nm} (h:nmayB a=true) (h2:nmayB b=true):numericsV (cleanV (numVl a)) (cleanV (numVl b))=(numVl a,numVl b,0):=by
  unfold numericsV
  rw [num_clean h,num_clean h2,num_numeric h,num_numeric h2]
  rfl
def addV (v u:Vl):Vl × Int:=sumsP (cleanV v) (cleanV u)
def subV (v u:Vl):Vl × Int:=sumsM (cleanV v) (cleanV u)
theorem VOk.addV (v u:Vl):VOk (addV v u).1:=VOk.sumsP _ _
theorem bigZ_cases (z:Int):(bigZ z=(⟨4,0,0,decide (z < 0),canon z.natAbs,[],0⟩,0)∧z.natAbs < 2 ^ 256) ∨ bigZ z=(Vl.z,3):=by
  unfold bigZ biggedV
  cases h:okI z with
  | false=>right; rfl
  | true=>left; rw [capI_ok h]; exact⟨rfl,of_decide_eq_true h⟩
theorem bigZ_self {b:Bool} {m:List Nat} (hl:Limbs m) (h:mayB b m=true):bigZ (goodI b m)=(⟨4,0,0,b,m,[],0⟩,0):=by
  rcases bigZ_cases (goodI b m) with ⟨h1,-⟩|h1
  · rw [h1,neg_good hl,canon_good hl,h]
    simp
  · unfold bigZ biggedV at h1
    rw [show okI (goodI b m)=true from decide_eq_true (good_lt hl)] at h1
    cases h1
theorem add_big {b c:Bool} {m l:List Nat} (h:mayB b m=true) (h2:mayB c l=true):addV ⟨4,0,0,b,m,[],0⟩ ⟨4,0,0,c,l,[],0⟩=bigZ (goodI b m + goodI c l)∧subV ⟨4,0,0,b,m,[],0⟩ ⟨4,0,0,c,l,[],0⟩=bigZ (goodI b m - goodI c l):=by
  have h1:=numerics_big h h2
  unfold addV subV sumsP sumsM
  rw [h1]
  exact⟨rfl,rfl⟩
theorem add_num {a b:Nm} (h:nmayB a=true) (h2:nmayB b=true):addV (numVl a) (numVl b)=numV (addM a b).1 (addM a b).2∧subV (numVl a) (numVl b)=numV (addM a (negM b)).1 (addM a (negM b)).2:=by
  have h1:=numerics_num h h2
  unfold addV subV sumsP sumsM
  rw [h1]
  exact⟨rfl,rfl⟩
theorem stepV_big {b:Bool} {m:List Nat} (h:mayB b m=true) {y:Int} (hy:y=1 ∨ y = -1):stepV ⟨4,0,0,b,m,[],0⟩ y=bigZ (goodI b m + y):=by
  unfold stepV
  rw [(bigV_numeric h).2]
  rcases hy with rfl|rfl <;> rfl
theorem stepV_num {a:Nm} (h:nmayB a=true) {y:Int} (hy:y=1 ∨ y = -1):stepV (numVl a) y=numV (addM a ⟨0,y⟩).1 (addM a ⟨0,y⟩).2:=by
  unfold stepV
  rw [num_numeric h]
  rcases hy with rfl|rfl <;> rfl
theorem strict_bigV {b:Bool} {m:List Nat} (h:mayB b m=true):strictV ⟨4,0,0,b,m,[],0⟩ ⟨4,0,0,b,m,[],0⟩=true:=by
  unfold strictV
  rw [(bigV_numeric h).1]
  simp [sameV]
theorem strict_whole {n:Int} (h:nmayB ⟨0,n⟩=true):strictV (numVl ⟨0,n⟩) (numVl ⟨0,n⟩)=true:=by
  unfold strictV
  rw [num_clean h]
  simp [equalM,equalA,as_of h,Vl.num]
theorem may_wholeI {n:Int}:nmayB ⟨0,n⟩=true ↔ -9007199254740991≤n∧n≤9007199254740991:=by
  unfold nmayB; simp
theorem addM_whole {n m:Int} (h:nmayB ⟨0,n⟩=true) (h2:nmayB ⟨0,m⟩=true):addM ⟨0,n⟩ ⟨0,m⟩=ofM (n + m):=by
  unfold addM addA
  rw [as_of h,as_of h2]
  rfl
theorem subM_whole {n m:Int} (h:nmayB ⟨0,n⟩=true) (h2:nmayB ⟨0,m⟩=true):addM ⟨0,n⟩ (negM ⟨0,m⟩)=ofM (n - m):=by
  unfold negM
  rw [as_of h2]
  by_cases h0:m=0
  · subst h0
    rw [show negA ⟨0,0⟩=⟨1,0⟩ from rfl,show n - 0=n + 0 from by omega]
    unfold addM addA
    rw [as_of h,as_of (show nmayB ⟨1,0⟩=true from rfl)]
    rfl
  · have h3:=may_wholeI.1 h2
    have e:negA ⟨0,m⟩=⟨0,-m⟩:=by unfold negA; simp [h0]
    rw [e,Int.sub_eq_add_neg]
    exact addM_whole h (may_wholeI.2 (by omega))
theorem ofM_cases (n:Int):(ofM n=(⟨0,n⟩,true)∧nmayB ⟨0,n⟩=true) ∨ ofM n=(⟨2,0⟩,false):=by
  unfold ofM
  split
  · right; rfl
  · rename_i h
    left
    refine ⟨rfl,may_wholeI.2 ?_⟩
    simp at h
    omega
def Plain3 (v:Vl):Prop:=(v.k=3∧v.nk=0) ∨ v.k=4
theorem plain_cases {v:Vl} (h:mayV v=true) (hp:Plain3 v):(∃ n,v=numVl ⟨0,n⟩∧nmayB ⟨0,n⟩=true) ∨ (∃ b m,v=⟨4,0,0,b,m,[],0⟩∧mayB b m=true):=by
  rcases hp with ⟨hk,hn⟩|hk
  · obtain⟨h1,h2⟩:=may_num h hk
    left
    refine ⟨v.nn,?_,?_⟩
    · rw [h2]; simp [hn]
    · rw [← hn]; exact h1
  · obtain⟨h1,h2⟩:=may_big h hk
    right
    exact⟨v.neg,v.mag,h2,h1⟩
theorem sums_undo {v u:Vl} (hv:mayV v=true) (hu:mayV u=true) (hk:v.k=u.k) (pv:Plain3 v) (pu:Plain3 u) (ov:VOk v) :
    ((addV v u).2=0∧(subV (addV v u).1 u).2=0∧strictV (subV (addV v u).1 u).1 v=true) ∨ (addV v u).2=3:=by
  rcases plain_cases hv pv with ⟨n,rfl,hn⟩|⟨b,m,rfl,hb⟩ <;> rcases plain_cases hu pu with ⟨n',rfl,hn'⟩|⟨b',m',rfl,hb'⟩
  · rw [(add_num hn hn').1,addM_whole hn hn']
    rcases ofM_cases (n + n') with ⟨e,he⟩|e
    · left
      rw [e,numV_yes]
      refine ⟨rfl,?_⟩
      show (subV (numVl ⟨0,n + n'⟩) (numVl ⟨0,n'⟩)).2=0∧strictV (subV (numVl ⟨0,n + n'⟩) (numVl ⟨0,n'⟩)).1 (numVl ⟨0,n⟩)=true
      rw [(add_num he hn').2,subM_whole he hn',show n + n' - n'=n from by omega]
      rcases ofM_cases n with ⟨e2,he2⟩|e2
      · rw [e2,numV_yes]; exact⟨rfl,strict_whole hn⟩
      · have h3:=may_wholeI.1 hn
        have:ofM n=(⟨0,n⟩,true):=by unfold ofM; rw [if_neg]; simp; omega
        rw [this] at e2; cases e2
    · right; rw [e]; rfl
  · cases hk
  · cases hk
  · rw [(add_big hb hb').1]
    rcases bigZ_cases (goodI b m + goodI b' m') with ⟨e,he⟩|e
    · left
      rw [e]
      refine ⟨rfl,?_⟩
      show (subV ⟨4,0,0,decide (goodI b m + goodI b' m' < 0),canon (goodI b m + goodI b' m').natAbs,[],0⟩ ⟨4,0,0,b',m',[],0⟩).2=0∧strictV (subV ⟨4,0,0,decide (goodI b m + goodI b' m' < 0),canon (goodI b m + goodI b' m').natAbs,[],0⟩ ⟨4,0,0,b',m',[],0⟩).1 ⟨4,0,0,b,m,[],0⟩=true
      rw [(add_big (may_canon he) hb').2,good_canon he,show goodI b m + goodI b' m' - goodI b' m'=goodI b m from by omega,bigZ_self ov.limbs hb]
      exact⟨rfl,strict_bigV hb⟩
    · right; rw [e]
theorem step_undo {v:Vl} (hv:mayV v=true) (pv:Plain3 v) (ov:VOk v) :
    ((stepV v 1).2=0∧(stepV (stepV v 1).1 (-1)).2=0∧strictV (stepV (stepV v 1).1 (-1)).1 v=true) ∨ (stepV v 1).2=3:=by
  rcases plain_cases hv pv with ⟨n,rfl,hn⟩|⟨b,m,rfl,hb⟩
  · rw [stepV_num hn (.inl rfl),addM_whole hn (by decide)]
    rcases ofM_cases (n + 1) with ⟨e,he⟩|e
    · left
      rw [e,numV_yes]
      refine ⟨rfl,?_⟩
      show (stepV (numVl ⟨0,n + 1⟩) (-1)).2=0∧strictV (stepV (numVl ⟨0,n + 1⟩) (-1)).1 (numVl ⟨0,n⟩)=true
      rw [stepV_num he (.inr rfl),addM_whole he (by decide),show n + 1 + -1=n from by omega]
      rcases ofM_cases n with ⟨e2,he2⟩|e2
      · rw [e2,numV_yes]; exact⟨rfl,strict_whole hn⟩
      · have h3:=may_wholeI.1 hn
        have:ofM n=(⟨0,n⟩,true):=by unfold ofM; rw [if_neg]; simp; omega
        rw [this] at e2; cases e2
    · right; rw [e]; rfl
  · rw [stepV_big hb (.inl rfl)]
    rcases bigZ_cases (goodI b m + 1) with ⟨e,he⟩|e
    · left
      rw [e]
      refine ⟨rfl,?_⟩
      show (stepV ⟨4,0,0,decide (goodI b m + 1 < 0),canon (goodI b m + 1).natAbs,[],0⟩ (-1)).2=0∧strictV (stepV ⟨4,0,0,decide (goodI b m + 1 < 0),canon (goodI b m + 1).natAbs,[],0⟩ (-1)).1 ⟨4,0,0,b,m,[],0⟩=true
      rw [stepV_big (may_canon he) (.inr rfl),good_canon he,show goodI b m + 1 + -1=goodI b m from by omega,bigZ_self ov.limbs hb]
      exact⟨rfl,strict_bigV hb⟩
    · right; rw [e]
theorem plain_of {v u:Vl} (hk:decide (v.k=u.k)=true) (h5:((!decide (v.k=3)) && (!decide (v.k=4)))=false) (h6:((decide (v.k=3)) && ((!decide (v.nk=0)) || (!decide (u.nk=0))))=false):Plain3 v∧Plain3 u:=by
  have hk:=of_decide_eq_true hk
  by_cases h3:v.k=3
  · simp [h3] at h6
    exact⟨.inl ⟨h3,h6.1⟩,.inl ⟨by omega,h6.2⟩⟩
  · simp [h3] at h5
    exact⟨.inr h5,.inr (by omega)⟩
theorem plain_k5 {v:Vl} (h:mayV v=true) (hp:Plain3 v):(cleanV v).k ≠ 5:=by
  rw [clean_of h]
  rcases hp with ⟨h1,-⟩|h1 <;> omega
theorem sums_leaf {v u:Vl} (hv:mayV v=true) (hu:mayV u=true) (hk:decide (v.k=u.k)=true) (hp:Plain3 v∧Plain3 u) (ov:VOk v) :
    ((((!decide (((addV v u).2)=0)) || ((decide (((subV ((addV v u).1) u).2)=0)) && (strictV ((subV ((addV v u).1) u).1) v))) && ((!decide (((stepV v 1).2)=0)) || ((decide (((stepV ((stepV v 1).1) (-1)).2)=0)) && (strictV ((stepV ((stepV v 1).1) (-1)).1) v)))) && ((decide (((addV v u).2)=0)) || (decide (((addV v u).2)=3))))=true:=by
  rcases sums_undo hv hu (of_decide_eq_true hk) hp.1 hp.2 ov with ⟨a1,a2,a3⟩|a1 <;> rcases step_undo hv hp.1 ov with ⟨b1,b2,b3⟩|b1
  · simp [a1,a2,a3,b1,b2,b3]
  · simp [a1,a2,a3,b1]
  · simp [a1,b1,b2,b3]
  · simp [a1,b1]
def fewV (o:ByteArray) (v u:Vl):Bool:=(((decide ((o.size:Int)≤100)) && (decide ((v.s.length:Int)≤20000) && decide ((v.mag.length:Int)≤40))) && (decide ((u.s.length:Int)≤20000) && decide ((u.mag.length:Int)≤40)))
theorem few_two {o:ByteArray} {v u:Vl} (h:fewV o v u=true):(decide ((v.s.length:Int)≤20000) && decide ((v.mag.length:Int)≤40))=true∧(decide ((u.s.length:Int)≤20000) && decide ((u.mag.length:Int)≤40))=true∧(o.size:Int)≤100:=by
  unfold fewV at h
  simp only [Bool.and_eq_true] at h
  exact⟨by simp only [Bool.and_eq_true]; exact h.1.2,by simp only [Bool.and_eq_true]; exact h.2,of_decide_eq_true h.1.1⟩

def bAdd_c_P (a:Bool) (Aa:Option Addr) (ma:List Nat) (ca:Nat) (b:Bool) (Ab:Option Addr) (mb:List Nat) (cb:Nat) (w:World) (en:Ending) (w':World):Prop:=∃ (Ar0:Option Addr) (cr0:Nat),en=.returned (.tuple #[.agg #[.bool (decide ((capI (goodI a ma + goodI b mb)) < 0)),sv Ar0 (canon ((capI (goodI a ma + goodI b mb))).natAbs) cr0],.bool (okI (goodI a ma + goodI b mb))])∧SRow w' .u32 Ar0 (canon ((capI (goodI a ma + goodI b mb))).natAbs) cr0∧New w w'
theorem bAdd_c (a:Bool) (Aa:Option Addr) (ma:List Nat) (ca:Nat) (b:Bool) (Ab:Option Addr) (mb:List Nat) (cb:Nat) (w:World) (hra:SRow w .u32 Aa ma ca) (hrb:SRow w .u32 Ab mb cb) (ha:Limbs ma) (hb:Limbs mb):Calls Tryz.prog 63 #[.agg #[.bool a,sv Aa ma ca],.agg #[.bool b,sv Ab mb cb]] w (bAdd_c_P a Aa ma ca b Ab mb cb w):=by
  refine (add_any _ _ _ _ w (big_in hra ha) (big_in hrb hb)).mono fun e w' h=>?_
  obtain⟨f,A',n',c',rfl,hc,hn⟩:=h
  obtain⟨rfl,rfl,hr'⟩:=hc.parts
  exact⟨A',c',rfl,hr',hn⟩
def bSub_c_P (a:Bool) (Aa:Option Addr) (ma:List Nat) (ca:Nat) (b:Bool) (Ab:Option Addr) (mb:List Nat) (cb:Nat) (w:World) (en:Ending) (w':World):Prop:=∃ (Ar0:Option Addr) (cr0:Nat),en=.returned (.tuple #[.agg #[.bool (decide ((capI (goodI a ma - goodI b mb)) < 0)),sv Ar0 (canon ((capI (goodI a ma - goodI b mb))).natAbs) cr0],.bool (okI (goodI a ma - goodI b mb))])∧SRow w' .u32 Ar0 (canon ((capI (goodI a ma - goodI b mb))).natAbs) cr0∧New w w'
theorem bSub_c (a:Bool) (Aa:Option Addr) (ma:List Nat) (ca:Nat) (b:Bool) (Ab:Option Addr) (mb:List Nat) (cb:Nat) (w:World) (hra:SRow w .u32 Aa ma ca) (hrb:SRow w .u32 Ab mb cb) (ha:Limbs ma) (hb:Limbs mb):Calls Tryz.prog 142 #[.agg #[.bool a,sv Aa ma ca],.agg #[.bool b,sv Ab mb cb]] w (bSub_c_P a Aa ma ca b Ab mb cb w):=by
  refine (sub_any _ _ _ _ w (big_in hra ha) (big_in hrb hb)).mono fun e w' h=>?_
  obtain⟨f,A',n',c',rfl,hc,hn⟩:=h
  obtain⟨rfl,rfl,hr'⟩:=hc.parts
  exact⟨A',c',rfl,hr',hn⟩
def bigged_c_P (a:Bool) (Aa:Option Addr) (ma:List Nat) (ca:Nat) (t:Bool) (w:World) (en:Ending) (w':World):Prop:=∃ (Ar0:Option Addr) (cr0:Nat) (Ar1:Option Addr) (cr1:Nat),en=.returned (.tuple #[vv (biggedV a ma t).1 Ar0 cr0 Ar1 cr1,iv ((biggedV a ma t).2)])∧SRow w' .u32 Ar0 ((biggedV a ma t).1.mag) cr0∧SRow w' .u16 Ar1 ((biggedV a ma t).1.s) cr1∧New w w'
theorem bigged_c (a:Bool) (Aa:Option Addr) (ma:List Nat) (ca:Nat) (t:Bool) (w:World) (hra:SRow w .u32 Aa ma ca):Calls Tryz.prog 62 #[.agg #[.bool a,sv Aa ma ca],.bool t] w (bigged_c_P a Aa ma ca t w):=by
 refine enter_abs Tryz.func62 rfl fun a0 ak bl hp=>?_
 have ak:a0.tmps.size=11:=ak
 have an:New w w:=Upd.refl _ _
 have hp0:a0.eval (.tmp 0)=.agg #[.bool a,sv Aa ma ca]:=hp 0 _ rfl
 have hp1:a0.eval (.tmp 1)=.bool t:=hp 1 _ rfl
 refine wp_seq_k fun K1 bm=>?_
 refine wp_g [true,true,true] [] [] 11
   [IsNew w 26 [.bool a,sv Aa ma ca],IsNew w 29 z7,ve (iv 0)]
   [0,1] (newsCons (fun v w h=>IsNew.old h) (newsCons (fun v w h=>IsNew.old h) newsNil)) ak (.nw (.nw (.eq (.nil)))) ?_ (fun i h=>by cases h) ?_
 exact .o2 (step_allocN (cs:=[.bool a,sv Aa ma ca]) (t:=26) rfl (noG rfl) (fun _ w hn k=>v_box rfl (k.fx 0 hp0) (fun w=>rfl)) (fun q _ hq hb=>⟨q,rfl,hq,hb⟩))<| .o2 (step_allocN (cs:=z7) (t:=29) rfl (noG rfl) (fun _ w hn k=>rfl) (fun q _ hq hb=>⟨q,rfl,hq,hb⟩))<| .t (fun _ w hn k=>⟨_,v_assign rfl rfl,rfl⟩) .nil
 refine aftI ak bl an fun a2 w3 aF bn aO bF al=>?_
 have h8:=al.fx 1 hp1
 obtain⟨bo,h9,aP,aQ⟩:=al.G 0 2
 obtain⟨ao,aG,aR,aS⟩:=al.G 1 4
 have hne17:bo ≠ ao:=al.ne 0 1 2 4 h9 aG
 have bz:=Nat.le_trans an.size aP
 have bA:=Nat.le_trans an.size aR
 refine st_nil (bm _ _ (wp_seq_k fun bG aT=>?_))
 refine wp_seq_k fun bH aU=>?_
 refine wp_g0 [true,true] [] 11
   [ve (.bool t),ve (.bool (!t))] aF (.eq (.eq (.nil))) ?_ ?_
 exact .m (fun k=>k.fx 1 h8)<| .t (fun _ w hn k=>⟨_,v_not rfl (k.eq1 0 6 rfl),rfl⟩) .nil
 refine aftI aF bn aO fun aH bI af ap ai aq aj=>?_
 have bp:=aj.fx 2 h9
 have aI:=aj.fx 4 aG
 have aJ:=aj.ge 1 7 rfl
 have aV:=aQ.new_ aq
 have ar:=aS.new_ aq
 refine st_nil (aU _ _ ?_)
 rcases bc (t) with aa|aa
 have aW:aH.eval (.tmp 7)=.bool false:=aJ.trans (congrArg Value.bool (by rw [aa]; rfl))
 refine wp_cond_false aW ?_
 refine wp_skip ?_
 refine aT _ _ ?_
 refine wp_seq_k fun bJ aX=>?_
 refine wp_g0 [true,true,false,false] [(2,false),(3,true)] 11
   [ve (.agg #[.bool a,sv Aa ma ca]),(fun (v_:Value) (W:World)=>∃ (A3:Option Addr) (c4:Nat),v_=vv (Vl.mk 4 0 0 a ma [] 0) A3 c4 none 0∧SRow W .u32 A3 ma c4),vt,vt] af (.eq (.cons (fun _ _ _ n ⟨_,_,e,h⟩=>⟨_,_,e,h.new_ n⟩) (.tt (.tt (.nil))))) ?_ ?_
 refine .t (fun _ w hn k=>⟨_,v_load rfl (k.fx 2 bp) (l_two Tryz.isAgg26 Tryz.sizeOf26 (aV.new_ hn)),rfl⟩) ?_
 refine .o1 (tkC rfl (noG rfl) rfl fun _ w hn k=>(by
       refine ⟨#[.agg #[.bool a,sv Aa ma ca]],_,args1 (k.eq1 0 9 rfl),fun w=>by kernel_rfl,cbig_c a _ ma _ _ (hra.new_ (ai.transNew hn)),?_⟩
       rintro e w' ⟨A1,c2,rfl,hmo0,hm⟩
       exact⟨_,rfl,hm,⟨A1,c2,rfl,hmo0⟩⟩)) ?_
 exact .off<| .off .nil
 refine aftI af ap ai fun au bK av aY aZ a1 aw=>?_
 have aK:=aw.fx 4 aI
 obtain⟨ae,ab,am,a3⟩:=aw.G 1 10
 have am:au.eval (.tmp 10)=vv (Vl.mk 4 0 0 a ma [] 0) ae ab none 0:=am
 have ax:=ar.new_ a1
 obtain⟨bq,aB,aC,ay,bB⟩:=s_many (P:=Tryz.prog) (t:=29) (i:=0) [iv 4,iv 0,iv 0,.bool a,sv ae ma ab,sv none ([]) 0,iv 0] Tryz.sizeOf29 rfl rfl rfl ax lb
 have a4:Blk bq ao 29 [iv 4,iv 0,iv 0,.bool a,sv ae ma ab,sv none ([]) 0,iv 0]:=aC
 refine st_act rfl rfl fun bL a5=>a_store' rfl aK am aB (a5 _ _ trivial ?_)
 have a6:=a3.fr ax ay
 have a7:=aZ.trans ay (fun _ h b=>by subst b; omega)
 refine st_take rfl rfl (y_assign (v:=iv 0) rfl rfl) rfl ?_
 obtain⟨br,ac⟩:∃ a',a'=au.put (some 5) (iv 0):=⟨_,rfl⟩
 have bC:=pz ac av
 have a8:=pd ac aY
 have bs:=pn ac aK (by decide)
 have bM:=pn ac am (by decide)
 have bt:br.eval (.tmp 5)=iv 0:=by rw [ac]; exact put_same _ _ _ (by rw [av]; decide)
 show stepsTo _ _ _ _ _ (au.put (some 5) (iv 0)) _
 rw [← ac]
 refine st_nil (aX _ _ ?_)
 refine wp_ret (ret_k a8 (v:=.tuple #[vv (Vl.mk 4 0 0 a ma [] 0) ae ab none 0,iv 0]) (res_ct rfl bs bt (l_agg Tryz.isAgg29 Tryz.sizeOf29 a4 rfl)) ?_)
 have ag:(biggedV a ma t).1.mag=ma:=by first|rfl|(simp only [biggedV,Vl.z,aa,bsm] <;> rfl)|(exfalso; omega)
 have ah:(biggedV a ma t).1.s=[]:=by first|rfl|(simp only [biggedV,Vl.z,aa,bsm] <;> rfl)|(exfalso; omega)
 exact⟨ae,ab,none,0,(by show Ending.returned (.tuple #[vv (Vl.mk 4 0 0 a ma [] 0) ae ab none 0,iv 0])=Ending.returned (.tuple #[vv (biggedV a ma t).1 ae ab none 0,iv ((biggedV a ma t).2)]); (first|rfl|(simp only [biggedV,Vl.z,aa,ag,ah,bsm] <;> rfl)|(exfalso; omega))),(by rw [ag]; exact a6),(by rw [ah]; exact (SRow.nil _ _)),a7⟩
 have a9:aH.eval (.tmp 7)=.bool true:=aJ.trans (congrArg Value.bool (by rw [aa]; rfl))
 refine wp_cond_true a9 ?_
 refine wp_seq_k fun bN ba=>?_
 refine wp_g0 [true,false,false] [(1,false),(2,true)] 11
   [ve (vv (Vl.mk 0 0 0 false [] [] 0) none 0 none 0),vt,vt] af (.eq (.tt (.tt (.nil)))) ?_ ?_
 exact .t (fun _ w hn k=>⟨_,v_build (ps:=[]) rfl parts0 (by kernel_rfl),rfl⟩)<| .off<| .off .nil
 refine aftI af ap ai fun aL bO az bb bd be aA=>?_
 have aM:=aA.fx 4 aI
 have aN:=aA.ge 0 8 rfl
 have bf:=ar.new_ be
 obtain⟨bu,aD,aE,bg,bD⟩:=s_many (P:=Tryz.prog) (t:=29) (i:=0) z7 Tryz.sizeOf29 rfl rfl rfl bf lb
 have bh:Blk bu ao 29 z7:=aE
 refine st_act rfl rfl fun bP bi=>a_store' rfl aM aN aD (bi _ _ trivial ?_)
 have bj:=bd.trans bg (fun _ h b=>by subst b; omega)
 refine st_take rfl rfl (y_assign (v:=iv 3) rfl rfl) rfl ?_
 obtain⟨bv,ad⟩:∃ a',a'=aL.put (some 5) (iv 3):=⟨_,rfl⟩
 have bE:=pz ad az
 have bk:=pd ad bb
 have bw:=pn ad aM (by decide)
 have bQ:=pn ad aN (by decide)
 have bx:bv.eval (.tmp 5)=iv 3:=by rw [ad]; exact put_same _ _ _ (by rw [az]; decide)
 show stepsTo _ _ _ _ _ (aL.put (some 5) (iv 3)) _
 rw [← ad]
 refine st_nil (ba _ _ ?_)
 refine wp_ret (ret_k bk (v:=.tuple #[vv (Vl.mk 0 0 0 false [] [] 0) none 0 none 0,iv 3]) (res_ct rfl bw bx (l_agg Tryz.isAgg29 Tryz.sizeOf29 bh rfl)) ?_)
 have ag:(biggedV a ma t).1.mag=[]:=by first|rfl|(simp only [biggedV,Vl.z,aa,bsm] <;> rfl)|(exfalso; omega)
 have ah:(biggedV a ma t).1.s=[]:=by first|rfl|(simp only [biggedV,Vl.z,aa,bsm] <;> rfl)|(exfalso; omega)
 exact⟨none,0,none,0,(by show Ending.returned (.tuple #[vv (Vl.mk 0 0 0 false [] [] 0) none 0 none 0,iv 3])=Ending.returned (.tuple #[vv (biggedV a ma t).1 none 0 none 0,iv ((biggedV a ma t).2)]); (first|rfl|(simp only [biggedV,Vl.z,aa,ag,ah,bsm] <;> rfl)|(exfalso; omega))),(by rw [ag]; exact (SRow.nil _ _)),(by rw [ah]; exact (SRow.nil _ _)),bj⟩
def bigsPl_c_P  (a:Bool) (Aa:Option Addr) (ma:List Nat) (ca:Nat) (b:Bool) (Ab:Option Addr) (mb:List Nat) (cb:Nat) (w:World) (en:Ending) (w':World):Prop:=∃ (Ar0:Option Addr) (cr0:Nat) (Ar1:Option Addr) (cr1:Nat),en=.returned (.tuple #[vv (bigZ (goodI a ma + goodI b mb)).1 Ar0 cr0 Ar1 cr1,iv ((bigZ (goodI a ma + goodI b mb)).2)])∧SRow w' .u32 Ar0 ((bigZ (goodI a ma + goodI b mb)).1.mag) cr0∧SRow w' .u16 Ar1 ((bigZ (goodI a ma + goodI b mb)).1.s) cr1∧New w w'
theorem bigsPl_c  (a:Bool) (Aa:Option Addr) (ma:List Nat) (ca:Nat) (b:Bool) (Ab:Option Addr) (mb:List Nat) (cb:Nat) (w:World) (hra:SRow w .u32 Aa ma ca) (hrb:SRow w .u32 Ab mb cb) (ha:Limbs ma) (hb:Limbs mb):Calls Tryz.prog 75 #[.string ⟨#[43]⟩,.agg #[.bool a,sv Aa ma ca],.agg #[.bool b,sv Ab mb cb]] w (bigsPl_c_P a Aa ma ca b Ab mb cb w):=by
 refine enter_abs Tryz.func75 rfl fun a0 az br hp=>?_
 have az:a0.tmps.size=60:=az
 have aA:New w w:=Upd.refl _ _
 have hp0:a0.eval (.tmp 0)=.string ⟨#[43]⟩:=hp 0 _ rfl
 have hp1:a0.eval (.tmp 1)=.agg #[.bool a,sv Aa ma ca]:=hp 1 _ rfl
 have hp2:a0.eval (.tmp 2)=.agg #[.bool b,sv Ab mb cb]:=hp 2 _ rfl
 refine wp_seq_k fun K1 bs=>?_
 refine wp_g [true,true,true,true] [] [] 60
   [IsNew w 26 [.bool a,sv Aa ma ca],IsNew w 26 [.bool b,sv Ab mb cb],IsNew w 29 z7,ve (iv 0)]
   [0,1,2] (newsCons (fun v w h=>IsNew.old h) (newsCons (fun v w h=>IsNew.old h) (newsCons (fun v w h=>IsNew.old h) newsNil))) az (.nw (.nw (.nw (.eq (.nil))))) ?_ (fun i h=>by cases h) ?_
 exact .o2 (step_allocN (cs:=[.bool a,sv Aa ma ca]) (t:=26) rfl (noG rfl) (fun _ w hn k=>v_box rfl (k.fx 1 hp1) (fun w=>rfl)) (fun q _ hq hb=>⟨q,rfl,hq,hb⟩))<| .o2 (step_allocN (cs:=[.bool b,sv Ab mb cb]) (t:=26) rfl (noG rfl) (fun _ w hn k=>v_box rfl (k.fx 2 hp2) (fun w=>rfl)) (fun q _ hq hb=>⟨q,rfl,hq,hb⟩))<| .o2 (step_allocN (cs:=z7) (t:=29) rfl (noG rfl) (fun _ w hn k=>rfl) (fun q _ hq hb=>⟨q,rfl,hq,hb⟩))<| .t (fun _ w hn k=>⟨_,v_assign rfl rfl,rfl⟩) .nil
 refine aftI az br aA fun a2 w3 aK bt aR b7 aq=>?_
 have h8:=aq.fx 0 hp0
 obtain⟨bu,h9,aS,aT⟩:=aq.G 0 4
 obtain⟨bv,aL,aU,aV⟩:=aq.G 1 5
 obtain⟨aC,aD,aW,aX⟩:=aq.G 2 6
 have hne21:bu ≠ aC:=aq.ne 0 2 4 6 h9 aD
 have hne22:bv ≠ aC:=aq.ne 1 2 5 6 aL aD
 have bY:=Nat.le_trans aA.size aS
 have bZ:=Nat.le_trans aA.size aU
 have b0:=Nat.le_trans aA.size aW
 refine st_nil (bs _ _ (wp_seq_k fun b8 b1=>?_))
 refine wp_seq_k fun b9 aY=>?_
 refine wp_g0 [true] [] 60
   [ve (.string ⟨#[43]⟩)] aK (.eq (.nil)) ?_ ?_
 exact .m (fun k=>k.fx 0 h8) .nil
 refine aftI aK bt aR fun cc cd aE aZ a1 ar ai=>?_
 have bw:=ai.fx 0 h8
 have bx:=ai.fx 4 h9
 have bz:=ai.fx 5 aL
 have bA:=ai.fx 6 aD
 have aM:=ai.ge 0 10 rfl
 have a3:=aT.new_ ar
 have a4:=aV.new_ ar
 have a5:=aX.new_ ar
 refine st_nil (aY _ _ ?_)
 refine wp_block ?_
 refine wp_seq_k fun ce a6=>?_
 refine wp_g0 [true,true] [] 60
   [vT,vT] aE (.eq (.eq (.nil))) ?_ ?_
 exact .t (fun _ w hn k=>⟨_,v_bin rfl (k.fx 10 aM) rfl (fun _=>rfl) (r_eqlS (r:=true) (by kernel_rfl)),rfl⟩)<| .a (fun k=>k.eq1 0 12 rfl) .nil
 refine aftI aE aZ a1 fun cf ch aF a7 au av ah=>?_
 have ci:=ah.fx 0 bw
 have bB:=ah.fx 4 bx
 have bC:=ah.fx 5 bz
 have bD:=ah.fx 6 bA
 have cj:=ah.fx 10 aM
 have bE:=ah.ge 1 11 rfl
 have a8:=a3.new_ av
 have a9:=a4.new_ av
 have ba:=a5.new_ av
 refine st_nil (a6 _ _ ?_)
 refine wp_cond_true bE ?_
 refine wp_seq_k fun cl bb=>?_
 refine wp_g0 [true,true,true,true,true,true,true,true,false,false] [(8,false),(9,true)] 60
   [ve (.agg #[.bool a,sv Aa ma ca]),ve (.agg #[.bool b,sv Ab mb cb]),(fun (v_:Value) (W:World)=>∃ (A3:Option Addr) (c4:Nat),v_=.tuple #[.agg #[.bool (decide ((capI (goodI a ma + goodI b mb)) < 0)),sv A3 (canon ((capI (goodI a ma + goodI b mb))).natAbs) c4],.bool (okI (goodI a ma + goodI b mb))]∧SRow W .u32 A3 (canon ((capI (goodI a ma + goodI b mb))).natAbs) c4),(fun (v_:Value) (W:World)=>∃ (A9:Option Addr) (aj:Nat),v_=.agg #[.bool (decide ((capI (goodI a ma + goodI b mb)) < 0)),sv A9 (canon ((capI (goodI a ma + goodI b mb))).natAbs) aj]∧SRow W .u32 A9 (canon ((capI (goodI a ma + goodI b mb))).natAbs) aj),ve (.bool (okI (goodI a ma + goodI b mb))),(TP (biggedV (decide ((capI (goodI a ma + goodI b mb)) < 0)) (canon ((capI (goodI a ma + goodI b mb))).natAbs) (okI (goodI a ma + goodI b mb))).1 ((biggedV (decide ((capI (goodI a ma + goodI b mb)) < 0)) (canon ((capI (goodI a ma + goodI b mb))).natAbs) (okI (goodI a ma + goodI b mb))).2)),(fun (v_:Value) (W:World)=>∃ (ak:Option Addr) (al:Nat) (am:Option Addr) (an:Nat),v_=vv (biggedV (decide ((capI (goodI a ma + goodI b mb)) < 0)) (canon ((capI (goodI a ma + goodI b mb))).natAbs) (okI (goodI a ma + goodI b mb))).1 ak al am an∧SRow W .u32 ak ((biggedV (decide ((capI (goodI a ma + goodI b mb)) < 0)) (canon ((capI (goodI a ma + goodI b mb))).natAbs) (okI (goodI a ma + goodI b mb))).1.mag) al∧SRow W .u16 am ((biggedV (decide ((capI (goodI a ma + goodI b mb)) < 0)) (canon ((capI (goodI a ma + goodI b mb))).natAbs) (okI (goodI a ma + goodI b mb))).1.s) an),ve (iv ((biggedV (decide ((capI (goodI a ma + goodI b mb)) < 0)) (canon ((capI (goodI a ma + goodI b mb))).natAbs) (okI (goodI a ma + goodI b mb))).2)),vt,vt] aF (.eq (.eq (.cons (fun _ _ _ n ⟨_,_,e,h⟩=>⟨_,_,e,h.new_ n⟩) (.cons (fun _ _ _ n ⟨_,_,e,h⟩=>⟨_,_,e,h.new_ n⟩) (.eq (.cons (fun _ _ _ n ⟨_,_,_,_,e,h,i⟩=>⟨_,_,_,_,e,h.new_ n,i.new_ n⟩) (.cons (fun _ _ _ n ⟨_,_,_,_,e,h,i⟩=>⟨_,_,_,_,e,h.new_ n,i.new_ n⟩) (.eq (.tt (.tt (.nil))))))))))) ?_ ?_
 refine .t (fun _ w hn k=>⟨_,v_load rfl (k.fx 4 bB) (l_two Tryz.isAgg26 Tryz.sizeOf26 (a8.new_ hn)),rfl⟩)<| .t (fun _ w hn k=>⟨_,v_load rfl (k.fx 5 bC) (l_two Tryz.isAgg26 Tryz.sizeOf26 (a9.new_ hn)),rfl⟩) ?_
 refine .o1 (tkC rfl (noG rfl) rfl fun _ w hn k=>(by
       refine ⟨#[.agg #[.bool a,sv Aa ma ca],.agg #[.bool b,sv Ab mb cb]],_,args2 (k.eq1 0 13 rfl) (k.eq1 1 14 rfl),fun w=>by kernel_rfl,bAdd_c a _ ma _ b _ mb _ _ (hra.new_ (au.transNew hn)) (hrb.new_ (au.transNew hn)) ha hb,?_⟩
       rintro e w' ⟨A1,c2,rfl,hmo0,hm⟩
       exact⟨_,rfl,hm,⟨A1,c2,rfl,hmo0⟩⟩)) ?_
 refine .o1 (tk rfl rfl fun _ w hn k=>(by
       obtain⟨A5,c6,e7,bF⟩:(fun (v_:Value) (W:World)=>∃ (A3:Option Addr) (c4:Nat),v_=.tuple #[.agg #[.bool (decide ((capI (goodI a ma + goodI b mb)) < 0)),sv A3 (canon ((capI (goodI a ma + goodI b mb))).natAbs) c4],.bool (okI (goodI a ma + goodI b mb))]∧SRow W .u32 A3 (canon ((capI (goodI a ma + goodI b mb))).natAbs) c4) _ _:=k.dep 2 15 (by kernel_rfl) (by kernel_rfl)
       exact⟨_,v_extract rfl e7 rfl,⟨A5,c6,rfl,bF⟩⟩)) ?_
 refine .o1 (tk rfl rfl fun _ w hn k=>(by
       obtain⟨cm,cn,bG,b2⟩:(fun (v_:Value) (W:World)=>∃ (A3:Option Addr) (c4:Nat),v_=.tuple #[.agg #[.bool (decide ((capI (goodI a ma + goodI b mb)) < 0)),sv A3 (canon ((capI (goodI a ma + goodI b mb))).natAbs) c4],.bool (okI (goodI a ma + goodI b mb))]∧SRow W .u32 A3 (canon ((capI (goodI a ma + goodI b mb))).natAbs) c4) _ _:=k.dep 2 15 (by kernel_rfl) (by kernel_rfl)
       exact⟨_,v_extract rfl bG rfl,rfl⟩)) ?_
 refine .o1 (tkC rfl (noG rfl) rfl fun _ w hn k=>(by
       obtain⟨bH,bI,bJ,bd⟩:(fun (v_:Value) (W:World)=>∃ (A9:Option Addr) (aj:Nat),v_=.agg #[.bool (decide ((capI (goodI a ma + goodI b mb)) < 0)),sv A9 (canon ((capI (goodI a ma + goodI b mb))).natAbs) aj]∧SRow W .u32 A9 (canon ((capI (goodI a ma + goodI b mb))).natAbs) aj) _ _:=k.dep 3 16 (by kernel_rfl) (by kernel_rfl)
       refine ⟨#[.agg #[.bool (decide ((capI (goodI a ma + goodI b mb)) < 0)),sv bH (canon ((capI (goodI a ma + goodI b mb))).natAbs) bI],.bool (okI (goodI a ma + goodI b mb))],_,args2 bJ (k.eq1 4 17 rfl),fun w=>by kernel_rfl,bigged_c (decide ((capI (goodI a ma + goodI b mb)) < 0)) _ (canon ((capI (goodI a ma + goodI b mb))).natAbs) _ (okI (goodI a ma + goodI b mb)) _ bd,?_⟩
       rintro e w' ⟨bK,bL,bM,bN,rfl,hmo0,hmo1,hm⟩
       exact⟨_,rfl,hm,⟨bK,bL,bM,bN,rfl,hmo0,hmo1⟩⟩)) ?_
 refine .o1 (tk rfl rfl fun _ w hn k=>(by
       obtain⟨bO,bP,bQ,bR,bS,be,bf⟩:(TP (biggedV (decide ((capI (goodI a ma + goodI b mb)) < 0)) (canon ((capI (goodI a ma + goodI b mb))).natAbs) (okI (goodI a ma + goodI b mb))).1 ((biggedV (decide ((capI (goodI a ma + goodI b mb)) < 0)) (canon ((capI (goodI a ma + goodI b mb))).natAbs) (okI (goodI a ma + goodI b mb))).2)) _ _:=k.dep 5 18 (by kernel_rfl) (by kernel_rfl)
       exact⟨_,v_extract rfl bS rfl,⟨bO,bP,bQ,bR,rfl,be,bf⟩⟩)) ?_
 refine .o1 (tk rfl rfl fun _ w hn k=>(by
       obtain⟨co,cp,cq,cr,bT,b3,b4⟩:(TP (biggedV (decide ((capI (goodI a ma + goodI b mb)) < 0)) (canon ((capI (goodI a ma + goodI b mb))).natAbs) (okI (goodI a ma + goodI b mb))).1 ((biggedV (decide ((capI (goodI a ma + goodI b mb)) < 0)) (canon ((capI (goodI a ma + goodI b mb))).natAbs) (okI (goodI a ma + goodI b mb))).2)) _ _:=k.dep 5 18 (by kernel_rfl) (by kernel_rfl)
       exact⟨_,v_extract rfl bT rfl,rfl⟩)) ?_
 exact .off<| .off .nil
 refine aftI aF a7 au fun aG ct aH bg bh bi aw=>?_
 have aN:=aw.fx 6 bD
 obtain⟨ao,ae,ap,af,aB,bj,bk⟩:=aw.G 6 19
 have aB:aG.eval (.tmp 19)=vv (biggedV (decide ((capI (goodI a ma + goodI b mb)) < 0)) (canon ((capI (goodI a ma + goodI b mb))).natAbs) (okI (goodI a ma + goodI b mb))).1 ao ae ap af:=aB
 have aO:=aw.ge 7 20 rfl
 have ax:=ba.new_ bi
 obtain⟨bU,aI,aJ,ay,b5⟩:=s_many (P:=Tryz.prog) (t:=29) (i:=0) (c7 (biggedV (decide ((capI (goodI a ma + goodI b mb)) < 0)) (canon ((capI (goodI a ma + goodI b mb))).natAbs) (okI (goodI a ma + goodI b mb))).1 ao ae ap af) Tryz.sizeOf29 rfl rfl rfl ax lb
 have bl:Blk bU aC 29 (c7 (biggedV (decide ((capI (goodI a ma + goodI b mb)) < 0)) (canon ((capI (goodI a ma + goodI b mb))).natAbs) (okI (goodI a ma + goodI b mb))).1 ao ae ap af):=aJ
 refine st_act rfl rfl fun cu bm=>a_store' rfl aN aB aI (bm _ _ trivial ?_)
 have bn:=bj.fr ax ay
 have bo:=bk.fr ax ay
 have bp:=bh.trans ay (fun _ h b=>by subst b; omega)
 refine st_take rfl rfl (y_assign (v:=iv ((biggedV (decide ((capI (goodI a ma + goodI b mb)) < 0)) (canon ((capI (goodI a ma + goodI b mb))).natAbs) (okI (goodI a ma + goodI b mb))).2)) rfl aO) rfl ?_
 obtain⟨bV,ag⟩:∃ a',a'=aG.put (some 7) (iv ((biggedV (decide ((capI (goodI a ma + goodI b mb)) < 0)) (canon ((capI (goodI a ma + goodI b mb))).natAbs) (okI (goodI a ma + goodI b mb))).2)):=⟨_,rfl⟩
 have b6:=pz ag aH
 have bq:=pd ag bg
 have bW:=pn ag aN (by decide)
 have cv:=pn ag aB (by decide)
 have cw:=pn ag aO (by decide)
 have bX:bV.eval (.tmp 7)=iv ((biggedV (decide ((capI (goodI a ma + goodI b mb)) < 0)) (canon ((capI (goodI a ma + goodI b mb))).natAbs) (okI (goodI a ma + goodI b mb))).2):=by rw [ag]; exact put_same _ _ _ (by rw [aH]; decide)
 show stepsTo _ _ _ _ _ (aG.put (some 7) (iv ((biggedV (decide ((capI (goodI a ma + goodI b mb)) < 0)) (canon ((capI (goodI a ma + goodI b mb))).natAbs) (okI (goodI a ma + goodI b mb))).2))) _
 rw [← ag]
 refine st_nil (bb _ _ ?_)
 refine wp_ret (ret_k bq (v:=.tuple #[vv (biggedV (decide ((capI (goodI a ma + goodI b mb)) < 0)) (canon ((capI (goodI a ma + goodI b mb))).natAbs) (okI (goodI a ma + goodI b mb))).1 ao ae ap af,iv ((biggedV (decide ((capI (goodI a ma + goodI b mb)) < 0)) (canon ((capI (goodI a ma + goodI b mb))).natAbs) (okI (goodI a ma + goodI b mb))).2)]) (res_ct rfl bW bX (l_agg Tryz.isAgg29 Tryz.sizeOf29 bl rfl)) ?_)
 have aP:(bigZ (goodI a ma + goodI b mb)).1.mag=(biggedV (decide ((capI (goodI a ma + goodI b mb)) < 0)) (canon ((capI (goodI a ma + goodI b mb))).natAbs) (okI (goodI a ma + goodI b mb))).1.mag:=by first|rfl|(simp only [bigZ,bsm] <;> rfl)|(exfalso; omega)
 have aQ:(bigZ (goodI a ma + goodI b mb)).1.s=(biggedV (decide ((capI (goodI a ma + goodI b mb)) < 0)) (canon ((capI (goodI a ma + goodI b mb))).natAbs) (okI (goodI a ma + goodI b mb))).1.s:=by first|rfl|(simp only [bigZ,bsm] <;> rfl)|(exfalso; omega)
 exact⟨ao,ae,ap,af,(by show Ending.returned (.tuple #[vv (biggedV (decide ((capI (goodI a ma + goodI b mb)) < 0)) (canon ((capI (goodI a ma + goodI b mb))).natAbs) (okI (goodI a ma + goodI b mb))).1 ao ae ap af,iv ((biggedV (decide ((capI (goodI a ma + goodI b mb)) < 0)) (canon ((capI (goodI a ma + goodI b mb))).natAbs) (okI (goodI a ma + goodI b mb))).2)])=Ending.returned (.tuple #[vv (bigZ (goodI a ma + goodI b mb)).1 ao ae ap af,iv ((bigZ (goodI a ma + goodI b mb)).2)]); (first|rfl|(simp only [bigZ,aP,aQ,bsm] <;> rfl)|(exfalso; omega))),(by rw [aP]; exact bn),(by rw [aQ]; exact bo),bp⟩
def sumsPl_c_P  (v:Vl) (Av:Option Addr) (cv:Nat) (Bv:Option Addr) (dv:Nat) (u:Vl) (Au:Option Addr) (cu:Nat) (Bu:Option Addr) (du:Nat) (w:World) (en:Ending) (w':World):Prop:=∃ (Ar0:Option Addr) (cr0:Nat) (Ar1:Option Addr) (cr1:Nat),en=.returned (.tuple #[vv (sumsP v u).1 Ar0 cr0 Ar1 cr1,iv ((sumsP v u).2)])∧SRow w' .u32 Ar0 ((sumsP v u).1.mag) cr0∧SRow w' .u16 Ar1 ((sumsP v u).1.s) cr1∧New w w'
end Go.Proofs.YtjakfchffigkkaaGreatDoor
