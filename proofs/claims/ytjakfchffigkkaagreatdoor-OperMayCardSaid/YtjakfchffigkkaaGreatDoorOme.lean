import Derived.Test.YtjakfchffigkkaaGreatDoorOmd
namespace Go.Proofs.YtjakfchffigkkaaGreatDoor
open Go.RowKit
open Tryz
set_option linter.unusedSimpArgs false
set_option linter.unusedVariables false
set_option maxHeartbeats 16000000
set_option maxRecDepth 100000
theorem omay_w (o:ByteArray) (v:Vl) (Av:Option Addr) (cv:Nat) (Bv:Option Addr) (dv:Nat) (u:Vl) (Au:Option Addr) (cu:Nat) (Bu:Option Addr) (du:Nat) (w:World) (hmv:SRow w .u32 Av v.mag cv) (hsv:SRow w .u16 Bv v.s dv) (hmu:SRow w .u32 Au u.mag cu) (hsu:SRow w .u16 Bu u.s du) (hlv:Limbs v.mag) (huv:U16s v.s) (hbv:-9223372036854775808≤v.nn∧v.nn≤9223372036854775807∧-9223372036854775808≤v.ref∧v.ref≤9223372036854775807) (hlu:Limbs u.mag) (huu:U16s u.s) (hbu:-9223372036854775808≤u.nn∧u.nn≤9223372036854775807∧-9223372036854775808≤u.ref∧u.ref≤9223372036854775807) (HT:ItoaOk w):Calls prog 3 #[.string o,vv v Av cv Bv dv,vv u Au cu Bu du] w (IsRet (.bool true) w):=by
 refine enter_abs func3 rfl fun a0 a1 cV hp=>?_
 have a1:a0.tmps.size=75:=a1
 have bg:New w w:=Upd.refl _ _
 have hp0:a0.eval (.tmp 0)=.string o:=hp 0 _ rfl
 have hp1:a0.eval (.tmp 1)=vv v Av cv Bv dv:=hp 1 _ rfl
 have hp2:a0.eval (.tmp 2)=vv u Au cu Bu du:=hp 2 _ rfl
 refine wk fun K1 cW=>?_
 refine wB tr3 [] [] 75 [IsNew w 29 (c7 v Av cv Bv dv),IsNew w 29 (c7 u Au cu Bu du),vF] [0,1] a1 ?_ heN ?_
 exact .X hp1<| .X hp2<| .c .nil
 refine aftI a1 cV bg fun a2 w3 bV cX bh d0 bi=>?_
 have h8:=bi.f1 hp0
 obtain⟨cY,h9,b5,b6⟩:=bi.G 0 4
 obtain⟨d1,cZ,b7,b8⟩:=bi.G 1 5
 have dG:=Nat.le_trans bg.size b5
 have dH:=Nat.le_trans bg.size b7
 refine cW _ _ <| wk fun d2 b9=>?_
 refine wk fun d3 ca=>?_
 refine wA tr2 [] 75 [vT,vF] bV ?_ ?_
 exact .o1 (ck rfl rfl rfl (fun _ w hn k=>⟨#[],rfl,fun _=>by kernel_rfl,first_c _ (HT.up (bh.transNew hn))⟩) fun _=>rfl)<| .T (fun k=>v_not rfl (k.eq1 0 11 rfl)) .nil
 refine aftI bV cX bh fun d4 d5 bj cb aA bk aP=>?_
 have⟨bW,bX,bY⟩:=aP.f3 h8 h9 cZ
 have c0:=aP.g 1 12
 have⟨bl,bm⟩:=nw2 bk b6 b8
 refine ca _ _ ?_
 refine wf c0<| ws ?_
 refine b9 _ _ ?_
 refine wk fun d6 cc=>wk fun d7 cd=>?_
 refine wA tr5 [] 75 [ve (.string o),ve (vv v Av cv Bv dv),ve (vv u Au cu Bu du),ve (.bool (fewV o v u)),ve (.bool (!(fewV o v u)))] bj ?_ ?_
 exact .M bW<| .L9 bX bl<| .L9 bY bm<| .D (fun k=>args3 (k.eq1 0 13 rfl) (k.eq1 1 14 rfl) (k.eq1 2 15 rfl)) (fun p=>ofew_c o v _ _ _ _ u _ _ _ _ _ (hmv.new_ (aA.transNew p)) (hsv.new_ (aA.transNew p)) (hmu.new_ (aA.transNew p)) (hsu.new_ (aA.transNew p)))<| .T (fun k=>v_not rfl (k.eq1 3 16 rfl)) .nil
 refine aftI bj cb aA fun d8 c1 aQ bn ac bo aR=>?_
 have⟨bZ,b0,c3⟩:=aR.f3 bW bX bY
 have b1:=aR.g 4 17
 have⟨aU,ce⟩:=nw2 bo bl bm
 refine cd _ _ ?_
 rcases bc ((!(fewV o v u))) with aB|aB
 have cf:=hB b1 aB
 have dI:(fewV o v u)=false:=nF aB
 refine wt cf<| wk fun d9 ch=>?_
 refine wA tr2 [] 75 [vT,vT] aQ ?_ ?_
 exact .o1 (ck rfl rfl rfl (fun _ w hn k=>⟨#[],rfl,fun _=>by kernel_rfl,first_c _ (HT.up (ac.transNew hn))⟩) fun _=>rfl)<| .B 0 .nil
 refine aftI aQ bn ac fun ea eb dJ ci cj dK cl=>?_
 have c5:=cl.g 1 6
 refine ch _ _ ?_
 refine wp_ret (ret_k ci (v:=.bool true) (res_t rfl c5 _) ?_)
 exact⟨rfl,cj⟩
 have cm:=hB b1 aB
 have cn:(fewV o v u)=true:=nT aB
 refine wf cm<| ws ?_
 refine cc _ _ ?_
 refine wk fun ec co=>?_
 have hfw:=few_two cn
 have hvv:VOk v:=few_ok hfw.1 hlv huv hbv.1 hbv.2.1 hbv.2.2.1 hbv.2.2.2
 have hvu:VOk u:=few_ok hfw.2.1 hlu huu hbu.1 hbu.2.1 hbu.2.2.1 hbu.2.2.2
 obtain⟨hgb1,hgb2,hgb3,hgb4⟩:=good_leaf (good_bin o hvv.clean hvu.clean)
 obtain⟨hgu1,hgu2,hgu3,hgu4⟩:=good_leaf (good_un o hvv)
 refine wp_gS (fun W=>True) (fun W W' hn h=>trivial) trivial [true,true,true,true,true,true,true,true,false,false] [6] [(8,false),(9,true)] 75
  [ve (.string o),ve (vv v Av cv Bv dv),ve (vv u Au cu Bu du),(TP (binG o (cleanV v) (cleanV u)).1 ((binG o (cleanV v) (cleanV u)).2)),(TP (binG o (cleanV v) (cleanV u)).1 ((binG o (cleanV v) (cleanV u)).2)),(fun (v_:Value) (W:World)=>∃ (aC:Option Addr) (aD:Nat) (aE:Option Addr) (aF:Nat),v_=vv (binG o (cleanV v) (cleanV u)).1 aC aD aE aF∧SRow W .u32 aC ((binG o (cleanV v) (cleanV u)).1.mag) aD∧SRow W .u16 aE ((binG o (cleanV v) (cleanV u)).1.s) aF),ve (iv ((binG o (cleanV v) (cleanV u)).2)),IsNew c1 29 z7,vt,vt]
  [7] (newsCons (fun v w h=>IsNew.old h) newsNil) aQ (.eq (.eq (.eq (.cons (fun _ _ _ n ⟨_,_,_,_,e,h,i⟩=>⟨_,_,_,_,e,h.new_ n,i.new_ n⟩) (.cons (fun _ _ _ n ⟨_,_,_,_,e,h,i⟩=>⟨_,_,_,_,e,h.new_ n,i.new_ n⟩) (.cons (fun _ _ _ n ⟨_,_,_,_,e,h,i⟩=>⟨_,_,_,_,e,h.new_ n,i.new_ n⟩) (.eq (.nw (.tt (.tt .nil)))))))))) ?_ ?_ ?_
 refine .M bZ<| .L9 b0 aU<| .L9 c3 ce ?_
 refine .o1 (tkC rfl (noG rfl) rfl fun _ w hn k=>(by
  refine ⟨#[.string o,vv v Av cv Bv dv,vv u Au cu Bu du],_,args3 (k.eq1 0 20 rfl) (k.eq1 1 21 rfl) (k.eq1 2 22 rfl),fun w=>by kernel_rfl,binG_c o v _ _ _ _ u _ _ _ _ _ (hmv.new_ (ac.transNew hn)) (hsv.new_ (ac.transNew hn)) (hmu.new_ (ac.transNew hn)) (hsu.new_ (ac.transNew hn)) hvv hvu (HT.up (ac.transNew hn)),?_⟩
  rintro e w' ⟨A1,c2,A3,c4,rfl,hmo0,hmo1,hm⟩
  exact⟨_,rfl,hm,⟨A1,c2,A3,c4,rfl,hmo0,hmo1⟩⟩)) ?_
 refine .o1 (tk rfl rfl fun _ w hn k=>(by
  obtain⟨A9,c9,da,db,dc,cp,cq⟩:=k.G 3 23
  exact⟨_,v_move rfl dc,⟨A9,c9,da,db,rfl,cp,cq⟩⟩)) ?_
 refine .o1 (tk rfl rfl fun _ w hn k=>(by
  obtain⟨dd,de,df,dg,dh,cr,ct⟩:=k.G 4 19
  exact⟨_,v_extract rfl dh rfl,⟨dd,de,df,dg,rfl,cr,ct⟩⟩)) ?_
 refine .o3 ?_
 exact .Y<| .off<| .off .nil
 refine eg1 ?_
 exact eager_takeG rfl (noG rfl) fun _ w hn k=>(by
  obtain⟨ed,ee,ef,eg,di,dL,dM⟩:=k.G 4 19
  exact⟨_,fun w hS=>v_extract rfl di rfl,rfl⟩)
 intro bp eh _ bq ax
 obtain⟨br,cw,cx⟩:=aft ax aQ bn ac bq
 have⟨dj,dk⟩:=ax.f2 bZ b0
 obtain⟨aG,ap,ay,aq,a3,cy,cz⟩:=ax.G 5 24
 have a3:bp.eval (.tmp 24)=vv (binG o (cleanV v) (cleanV u)).1 aG ap ay aq:=a3
 have b2:=ax.g 6 25
 obtain⟨bs,b3,bt,aV⟩:=ax.G 7 7
 have cA:=aU.new_ bq
 have hne86:cY ≠ bs:=by have h1:=aU.lt; have h2:=bt; omega
 have dN:=Nat.le_trans ac.size bt
 refine sS9 b3 a3 aV fun b4 bu aW cB=>?_
 have cD:=cy.fr aV aW
 have cE:=cz.fr aV aW
 have cF:=cB hne86 cA
 have aS:=cx.tR aW
 refine sP b2 br cw fun cG a4 bF aa cK=>?_
 have⟨cH,cI,dO⟩:=aa.q3 dj dk a3
 have⟨dP,cJ⟩:=aa.q2 b2 b3
 refine co _ _ <| wk fun dQ bG=>?_
 refine wp_gS (fun W=>True) (fun W W' hn h=>trivial) trivial [true,true,true,true,true,true,true,false,false] [5] [(7,false),(8,true)] 75
  [ve (.string o),ve (vv v Av cv Bv dv),(TP (unG o v).1 ((unG o v).2)),(TP (unG o v).1 ((unG o v).2)),(fun (v_:Value) (W:World)=>∃ (aL:Option Addr) (aM:Nat) (aN:Option Addr) (aO:Nat),v_=vv (unG o v).1 aL aM aN aO∧SRow W .u32 aL ((unG o v).1.mag) aM∧SRow W .u16 aN ((unG o v).1.s) aO),ve (iv ((unG o v).2)),IsNew b4 29 z7,vt,vt]
  [6] (newsCons (fun v w h=>IsNew.old h) newsNil) a4 (.eq (.eq (.cons (fun _ _ _ n ⟨_,_,_,_,e,h,i⟩=>⟨_,_,_,_,e,h.new_ n,i.new_ n⟩) (.cons (fun _ _ _ n ⟨_,_,_,_,e,h,i⟩=>⟨_,_,_,_,e,h.new_ n,i.new_ n⟩) (.cons (fun _ _ _ n ⟨_,_,_,_,e,h,i⟩=>⟨_,_,_,_,e,h.new_ n,i.new_ n⟩) (.eq (.nw (.tt (.tt .nil))))))))) ?_ ?_ ?_
 refine .M cH<| .L9 cI cF ?_
 refine .o1 (tkC rfl (noG rfl) rfl fun _ w hn k=>(by
  refine ⟨#[.string o,vv v Av cv Bv dv],_,args2 (k.eq1 0 27 rfl) (k.eq1 1 28 rfl),fun w=>by kernel_rfl,unG_c o v _ _ _ _ _ (hmv.new_ (aS.transNew hn)) (hsv.new_ (aS.transNew hn)) hvv,?_⟩
  rintro e w' ⟨dl,dm,dn,dp,rfl,hmo0,hmo1,hm⟩
  exact⟨_,rfl,hm,⟨dl,dm,dn,dp,rfl,hmo0,hmo1⟩⟩)) ?_
 refine .o1 (tk rfl rfl fun _ w hn k=>(by
  obtain⟨dq,dr,ds,dt,dw,cL,cM⟩:=k.G 2 29
  exact⟨_,v_move rfl dw,⟨dq,dr,ds,dt,rfl,cL,cM⟩⟩)) ?_
 refine .o1 (tk rfl rfl fun _ w hn k=>(by
  obtain⟨dx,dy,dz,dA,dB,cN,cO⟩:=k.G 3 26
  exact⟨_,v_extract rfl dB rfl,⟨dx,dy,dz,dA,rfl,cN,cO⟩⟩)) ?_
 refine .o3 ?_
 exact .Y<| .off<| .off .nil
 refine eg1 ?_
 exact eager_takeG rfl (noG rfl) fun _ w hn k=>(by
  obtain⟨ej,ek,ay,el,dC,dR,dS⟩:=k.G 3 26
  exact⟨_,fun w hS=>v_extract rfl dC rfl,rfl⟩)
 intro aX dT _ az af
 obtain⟨a5,bH,bI⟩:=aft af a4 bF aS az
 have⟨cP,cQ⟩:=af.f2 cJ cK
 obtain⟨ar,ad,au,ae,aT,bJ,bK⟩:=af.G 4 30
 have aT:aX.eval (.tmp 30)=vv (unG o v).1 ar ad au ae:=aT
 have bv:=af.g 5 31
 obtain⟨bw,bx,a6,av⟩:=af.G 6 9
 have bL:=bu.new_ az
 have hne132:bs ≠ bw:=by have h1:=bu.lt; have h2:=a6; omega
 have dD:=Nat.le_trans aS.size a6
 have⟨bM,bN⟩:=nw2 az cD cE
 refine sS9 bx aT av fun cR a7 aw bO=>?_
 have a8:=bM.fr av aw
 have a9:=bN.fr av aw
 have ba:=bJ.fr av aw
 have bb:=bK.fr av aw
 have bd:=bO hne132 bL
 have be:=bI.tR aw
 refine sP bv a5 bH fun cS bf bQ ab aZ=>?_
 have⟨bB,aY,dV⟩:=ab.q3 cP cQ aT
 have⟨dW,bC⟩:=ab.q2 bv bx
 refine bG _ _ <| wk fun dX bR=>?_
 refine wA tr44 [] 75 [vT,vT,ve (vv (binG o (cleanV v) (cleanV u)).1 aG ap ay aq),ve (.bool (mayV ((binG o (cleanV v) (cleanV u)).1))),ve (.bool (mayV ((binG o (cleanV v) (cleanV u)).1))),ve (.bool (mayV ((binG o (cleanV v) (cleanV u)).1))),ve (gq (mayV ((binG o (cleanV v) (cleanV u)).1)) (vv (unG o v).1 ar ad au ae)),ve (gq (mayV ((binG o (cleanV v) (cleanV u)).1)) (.bool (mayV ((unG o v).1)))),ve (.bool ((mayV ((binG o (cleanV v) (cleanV u)).1)) && (mayV ((unG o v).1)))),ve (.bool ((mayV ((binG o (cleanV v) (cleanV u)).1)) && (mayV ((unG o v).1)))),ve (gq ((mayV ((binG o (cleanV v) (cleanV u)).1)) && (mayV ((unG o v).1))) (iv ((binG o (cleanV v) (cleanV u)).2))),ve (gq ((mayV ((binG o (cleanV v) (cleanV u)).1)) && (mayV ((unG o v).1))) (.bool (decide (((binG o (cleanV v) (cleanV u)).2)=0)))),ve (gq ((mayV ((binG o (cleanV v) (cleanV u)).1)) && (mayV ((unG o v).1))) (.bool (decide (((binG o (cleanV v) (cleanV u)).2)=0)))),ve (gq (((mayV ((binG o (cleanV v) (cleanV u)).1)) && (mayV ((unG o v).1))) && (!(decide (((binG o (cleanV v) (cleanV u)).2)=0)))) (vv (binG o (cleanV v) (cleanV u)).1 aG ap ay aq)),ve (gq (((mayV ((binG o (cleanV v) (cleanV u)).1)) && (mayV ((unG o v).1))) && (!(decide (((binG o (cleanV v) (cleanV u)).2)=0)))) (vv (Vl.mk 0 0 0 false [] [] 0) none 0 none 0)),ve (gq (((mayV ((binG o (cleanV v) (cleanV u)).1)) && (mayV ((unG o v).1))) && (!(decide (((binG o (cleanV v) (cleanV u)).2)=0)))) (.bool (sameV ((binG o (cleanV v) (cleanV u)).1) (Vl.mk 0 0 0 false [] [] 0)))),ve (gq ((mayV ((binG o (cleanV v) (cleanV u)).1)) && (mayV ((unG o v).1))) (.bool ((decide (((binG o (cleanV v) (cleanV u)).2)=0)) || (sameV ((binG o (cleanV v) (cleanV u)).1) (Vl.mk 0 0 0 false [] [] 0))))),ve (.bool (((mayV ((binG o (cleanV v) (cleanV u)).1)) && (mayV ((unG o v).1))) && ((decide (((binG o (cleanV v) (cleanV u)).2)=0)) || (sameV ((binG o (cleanV v) (cleanV u)).1) (Vl.mk 0 0 0 false [] [] 0))))),ve (.bool (((mayV ((binG o (cleanV v) (cleanV u)).1)) && (mayV ((unG o v).1))) && ((decide (((binG o (cleanV v) (cleanV u)).2)=0)) || (sameV ((binG o (cleanV v) (cleanV u)).1) (Vl.mk 0 0 0 false [] [] 0))))),ve (gq (((mayV ((binG o (cleanV v) (cleanV u)).1)) && (mayV ((unG o v).1))) && ((decide (((binG o (cleanV v) (cleanV u)).2)=0)) || (sameV ((binG o (cleanV v) (cleanV u)).1) (Vl.mk 0 0 0 false [] [] 0)))) (iv ((unG o v).2))),ve (gq (((mayV ((binG o (cleanV v) (cleanV u)).1)) && (mayV ((unG o v).1))) && ((decide (((binG o (cleanV v) (cleanV u)).2)=0)) || (sameV ((binG o (cleanV v) (cleanV u)).1) (Vl.mk 0 0 0 false [] [] 0)))) (.bool (decide (((unG o v).2)=0)))),ve (gq (((mayV ((binG o (cleanV v) (cleanV u)).1)) && (mayV ((unG o v).1))) && ((decide (((binG o (cleanV v) (cleanV u)).2)=0)) || (sameV ((binG o (cleanV v) (cleanV u)).1) (Vl.mk 0 0 0 false [] [] 0)))) (.bool (decide (((unG o v).2)=0)))),ve (gq ((((mayV ((binG o (cleanV v) (cleanV u)).1)) && (mayV ((unG o v).1))) && ((decide (((binG o (cleanV v) (cleanV u)).2)=0)) || (sameV ((binG o (cleanV v) (cleanV u)).1) (Vl.mk 0 0 0 false [] [] 0)))) && (!(decide (((unG o v).2)=0)))) (vv (unG o v).1 ar ad au ae)),ve (gq ((((mayV ((binG o (cleanV v) (cleanV u)).1)) && (mayV ((unG o v).1))) && ((decide (((binG o (cleanV v) (cleanV u)).2)=0)) || (sameV ((binG o (cleanV v) (cleanV u)).1) (Vl.mk 0 0 0 false [] [] 0)))) && (!(decide (((unG o v).2)=0)))) (vv (Vl.mk 0 0 0 false [] [] 0) none 0 none 0)),ve (gq ((((mayV ((binG o (cleanV v) (cleanV u)).1)) && (mayV ((unG o v).1))) && ((decide (((binG o (cleanV v) (cleanV u)).2)=0)) || (sameV ((binG o (cleanV v) (cleanV u)).1) (Vl.mk 0 0 0 false [] [] 0)))) && (!(decide (((unG o v).2)=0)))) (.bool (sameV ((unG o v).1) (Vl.mk 0 0 0 false [] [] 0)))),ve (gq (((mayV ((binG o (cleanV v) (cleanV u)).1)) && (mayV ((unG o v).1))) && ((decide (((binG o (cleanV v) (cleanV u)).2)=0)) || (sameV ((binG o (cleanV v) (cleanV u)).1) (Vl.mk 0 0 0 false [] [] 0)))) (.bool ((decide (((unG o v).2)=0)) || (sameV ((unG o v).1) (Vl.mk 0 0 0 false [] [] 0))))),ve (.bool ((((mayV ((binG o (cleanV v) (cleanV u)).1)) && (mayV ((unG o v).1))) && ((decide (((binG o (cleanV v) (cleanV u)).2)=0)) || (sameV ((binG o (cleanV v) (cleanV u)).1) (Vl.mk 0 0 0 false [] [] 0)))) && ((decide (((unG o v).2)=0)) || (sameV ((unG o v).1) (Vl.mk 0 0 0 false [] [] 0))))),ve (.bool ((((mayV ((binG o (cleanV v) (cleanV u)).1)) && (mayV ((unG o v).1))) && ((decide (((binG o (cleanV v) (cleanV u)).2)=0)) || (sameV ((binG o (cleanV v) (cleanV u)).1) (Vl.mk 0 0 0 false [] [] 0)))) && ((decide (((unG o v).2)=0)) || (sameV ((unG o v).1) (Vl.mk 0 0 0 false [] [] 0))))),ve (gq ((((mayV ((binG o (cleanV v) (cleanV u)).1)) && (mayV ((unG o v).1))) && ((decide (((binG o (cleanV v) (cleanV u)).2)=0)) || (sameV ((binG o (cleanV v) (cleanV u)).1) (Vl.mk 0 0 0 false [] [] 0)))) && ((decide (((unG o v).2)=0)) || (sameV ((unG o v).1) (Vl.mk 0 0 0 false [] [] 0)))) (iv ((binG o (cleanV v) (cleanV u)).2))),ve (gq ((((mayV ((binG o (cleanV v) (cleanV u)).1)) && (mayV ((unG o v).1))) && ((decide (((binG o (cleanV v) (cleanV u)).2)=0)) || (sameV ((binG o (cleanV v) (cleanV u)).1) (Vl.mk 0 0 0 false [] [] 0)))) && ((decide (((unG o v).2)=0)) || (sameV ((unG o v).1) (Vl.mk 0 0 0 false [] [] 0)))) (.bool (!decide (((binG o (cleanV v) (cleanV u)).2) < 0)))),ve (.bool (((((mayV ((binG o (cleanV v) (cleanV u)).1)) && (mayV ((unG o v).1))) && ((decide (((binG o (cleanV v) (cleanV u)).2)=0)) || (sameV ((binG o (cleanV v) (cleanV u)).1) (Vl.mk 0 0 0 false [] [] 0)))) && ((decide (((unG o v).2)=0)) || (sameV ((unG o v).1) (Vl.mk 0 0 0 false [] [] 0)))) && (!decide (((binG o (cleanV v) (cleanV u)).2) < 0)))),ve (.bool (((((mayV ((binG o (cleanV v) (cleanV u)).1)) && (mayV ((unG o v).1))) && ((decide (((binG o (cleanV v) (cleanV u)).2)=0)) || (sameV ((binG o (cleanV v) (cleanV u)).1) (Vl.mk 0 0 0 false [] [] 0)))) && ((decide (((unG o v).2)=0)) || (sameV ((unG o v).1) (Vl.mk 0 0 0 false [] [] 0)))) && (!decide (((binG o (cleanV v) (cleanV u)).2) < 0)))),ve (gq (((((mayV ((binG o (cleanV v) (cleanV u)).1)) && (mayV ((unG o v).1))) && ((decide (((binG o (cleanV v) (cleanV u)).2)=0)) || (sameV ((binG o (cleanV v) (cleanV u)).1) (Vl.mk 0 0 0 false [] [] 0)))) && ((decide (((unG o v).2)=0)) || (sameV ((unG o v).1) (Vl.mk 0 0 0 false [] [] 0)))) && (!decide (((binG o (cleanV v) (cleanV u)).2) < 0))) (iv ((binG o (cleanV v) (cleanV u)).2))),ve (gq (((((mayV ((binG o (cleanV v) (cleanV u)).1)) && (mayV ((unG o v).1))) && ((decide (((binG o (cleanV v) (cleanV u)).2)=0)) || (sameV ((binG o (cleanV v) (cleanV u)).1) (Vl.mk 0 0 0 false [] [] 0)))) && ((decide (((unG o v).2)=0)) || (sameV ((unG o v).1) (Vl.mk 0 0 0 false [] [] 0)))) && (!decide (((binG o (cleanV v) (cleanV u)).2) < 0))) (.bool (decide (((binG o (cleanV v) (cleanV u)).2)≤3)))),ve (.bool ((((((mayV ((binG o (cleanV v) (cleanV u)).1)) && (mayV ((unG o v).1))) && ((decide (((binG o (cleanV v) (cleanV u)).2)=0)) || (sameV ((binG o (cleanV v) (cleanV u)).1) (Vl.mk 0 0 0 false [] [] 0)))) && ((decide (((unG o v).2)=0)) || (sameV ((unG o v).1) (Vl.mk 0 0 0 false [] [] 0)))) && (!decide (((binG o (cleanV v) (cleanV u)).2) < 0))) && (decide (((binG o (cleanV v) (cleanV u)).2)≤3)))),ve (.bool ((((((mayV ((binG o (cleanV v) (cleanV u)).1)) && (mayV ((unG o v).1))) && ((decide (((binG o (cleanV v) (cleanV u)).2)=0)) || (sameV ((binG o (cleanV v) (cleanV u)).1) (Vl.mk 0 0 0 false [] [] 0)))) && ((decide (((unG o v).2)=0)) || (sameV ((unG o v).1) (Vl.mk 0 0 0 false [] [] 0)))) && (!decide (((binG o (cleanV v) (cleanV u)).2) < 0))) && (decide (((binG o (cleanV v) (cleanV u)).2)≤3)))),ve (gq ((((((mayV ((binG o (cleanV v) (cleanV u)).1)) && (mayV ((unG o v).1))) && ((decide (((binG o (cleanV v) (cleanV u)).2)=0)) || (sameV ((binG o (cleanV v) (cleanV u)).1) (Vl.mk 0 0 0 false [] [] 0)))) && ((decide (((unG o v).2)=0)) || (sameV ((unG o v).1) (Vl.mk 0 0 0 false [] [] 0)))) && (!decide (((binG o (cleanV v) (cleanV u)).2) < 0))) && (decide (((binG o (cleanV v) (cleanV u)).2)≤3))) (iv ((unG o v).2))),ve (gq ((((((mayV ((binG o (cleanV v) (cleanV u)).1)) && (mayV ((unG o v).1))) && ((decide (((binG o (cleanV v) (cleanV u)).2)=0)) || (sameV ((binG o (cleanV v) (cleanV u)).1) (Vl.mk 0 0 0 false [] [] 0)))) && ((decide (((unG o v).2)=0)) || (sameV ((unG o v).1) (Vl.mk 0 0 0 false [] [] 0)))) && (!decide (((binG o (cleanV v) (cleanV u)).2) < 0))) && (decide (((binG o (cleanV v) (cleanV u)).2)≤3))) (.bool (!decide (((unG o v).2) < 0)))),ve (.bool (((((((mayV ((binG o (cleanV v) (cleanV u)).1)) && (mayV ((unG o v).1))) && ((decide (((binG o (cleanV v) (cleanV u)).2)=0)) || (sameV ((binG o (cleanV v) (cleanV u)).1) (Vl.mk 0 0 0 false [] [] 0)))) && ((decide (((unG o v).2)=0)) || (sameV ((unG o v).1) (Vl.mk 0 0 0 false [] [] 0)))) && (!decide (((binG o (cleanV v) (cleanV u)).2) < 0))) && (decide (((binG o (cleanV v) (cleanV u)).2)≤3))) && (!decide (((unG o v).2) < 0)))),ve (.bool (((((((mayV ((binG o (cleanV v) (cleanV u)).1)) && (mayV ((unG o v).1))) && ((decide (((binG o (cleanV v) (cleanV u)).2)=0)) || (sameV ((binG o (cleanV v) (cleanV u)).1) (Vl.mk 0 0 0 false [] [] 0)))) && ((decide (((unG o v).2)=0)) || (sameV ((unG o v).1) (Vl.mk 0 0 0 false [] [] 0)))) && (!decide (((binG o (cleanV v) (cleanV u)).2) < 0))) && (decide (((binG o (cleanV v) (cleanV u)).2)≤3))) && (!decide (((unG o v).2) < 0)))),ve (gq (((((((mayV ((binG o (cleanV v) (cleanV u)).1)) && (mayV ((unG o v).1))) && ((decide (((binG o (cleanV v) (cleanV u)).2)=0)) || (sameV ((binG o (cleanV v) (cleanV u)).1) (Vl.mk 0 0 0 false [] [] 0)))) && ((decide (((unG o v).2)=0)) || (sameV ((unG o v).1) (Vl.mk 0 0 0 false [] [] 0)))) && (!decide (((binG o (cleanV v) (cleanV u)).2) < 0))) && (decide (((binG o (cleanV v) (cleanV u)).2)≤3))) && (!decide (((unG o v).2) < 0))) (iv ((unG o v).2))),ve (gq (((((((mayV ((binG o (cleanV v) (cleanV u)).1)) && (mayV ((unG o v).1))) && ((decide (((binG o (cleanV v) (cleanV u)).2)=0)) || (sameV ((binG o (cleanV v) (cleanV u)).1) (Vl.mk 0 0 0 false [] [] 0)))) && ((decide (((unG o v).2)=0)) || (sameV ((unG o v).1) (Vl.mk 0 0 0 false [] [] 0)))) && (!decide (((binG o (cleanV v) (cleanV u)).2) < 0))) && (decide (((binG o (cleanV v) (cleanV u)).2)≤3))) && (!decide (((unG o v).2) < 0))) (.bool (decide (((unG o v).2)≤3)))),ve (.bool ((((((((mayV ((binG o (cleanV v) (cleanV u)).1)) && (mayV ((unG o v).1))) && ((decide (((binG o (cleanV v) (cleanV u)).2)=0)) || (sameV ((binG o (cleanV v) (cleanV u)).1) (Vl.mk 0 0 0 false [] [] 0)))) && ((decide (((unG o v).2)=0)) || (sameV ((unG o v).1) (Vl.mk 0 0 0 false [] [] 0)))) && (!decide (((binG o (cleanV v) (cleanV u)).2) < 0))) && (decide (((binG o (cleanV v) (cleanV u)).2)≤3))) && (!decide (((unG o v).2) < 0))) && (decide (((unG o v).2)≤3)))),ve (.bool ((((((((mayV ((binG o (cleanV v) (cleanV u)).1)) && (mayV ((unG o v).1))) && ((decide (((binG o (cleanV v) (cleanV u)).2)=0)) || (sameV ((binG o (cleanV v) (cleanV u)).1) (Vl.mk 0 0 0 false [] [] 0)))) && ((decide (((unG o v).2)=0)) || (sameV ((unG o v).1) (Vl.mk 0 0 0 false [] [] 0)))) && (!decide (((binG o (cleanV v) (cleanV u)).2) < 0))) && (decide (((binG o (cleanV v) (cleanV u)).2)≤3))) && (!decide (((unG o v).2) < 0))) && (decide (((unG o v).2)≤3))))] bf ?_ ?_
 exact .o1 (ck rfl rfl rfl (fun _ w hn k=>⟨#[],rfl,fun _=>by kernel_rfl,first_c _ (HT.up (be.transNew hn))⟩) fun _=>rfl)<| .N 0<| .V (fun p k=>v_load rfl (k.fx 7 bB) (l_agg isAgg29 sizeOf29 (bd.new_ p) rfl))<| .o1 (cg rfl rfl rfl (fun _ _ k=>k.eq1 1 33 rfl) rfl (fun _ w hn k=>⟨#[vv (binG o (cleanV v) (cleanV u)).1 aG ap ay aq],args1 (k.eq1 2 34 rfl),fun _=>by kernel_rfl,vmay_c ((binG o (cleanV v) (cleanV u)).1) _ _ _ _ _ (a8.new_ hn) (a9.new_ hn)⟩) fun _=>rfl)<| .T (fun k=>v_pickT rfl (k.eq1 1 33 rfl) (k.eq1 3 35 rfl))<| .N 4<| .Q (fun k=>g0 (k.eq1 5 37 rfl)) (fun hG p k=>v_load rfl (k.fx 9 bC) (l_agg isAgg29 sizeOf29 (a7.new_ p) rfl))<| .o1 (scC (G:=(mayV ((binG o (cleanV v) (cleanV u)).1))) rfl rfl rfl (fun _ _ k=>g0 (k.eq1 5 37 rfl)) rfl (fun hG _ w hn k=>⟨#[vv (unG o v).1 ar ad au ae],args1 (cT hG (k.eq1 6 38 rfl)),fun _=>by kernel_rfl,vmay_c ((unG o v).1) _ _ _ _ _ (ba.new_ hn) (bb.new_ hn)⟩))<| .O 5 7<| .N 8<| .Q (fun k=>g0 (k.eq1 9 41 rfl)) (fun hG p k=>v_move rfl (k.fx 8 aY))<| .Q (fun k=>g0 (k.eq1 9 41 rfl)) (fun hG p k=>v_bin rfl (cT hG (k.eq1 10 42 rfl)) rfl (fun _=>rfl) (r_eql rfl))<| .Q (fun k=>g0 (k.eq1 9 41 rfl)) (fun hG p k=>v_move rfl (cT hG (k.eq1 11 43 rfl)))<| .Q (fun k=>g1' (k.eq1 12 44 rfl)) (fun hG p k=>v_load rfl (k.fx 7 bB) (l_agg isAgg29 sizeOf29 (bd.new_ p) rfl))<| .Q (fun k=>g1' (k.eq1 12 44 rfl)) (fun hG p k=>v_build (ps:=[]) rfl parts0 (by kernel_rfl))<| .o1 (scC (G:=(((mayV ((binG o (cleanV v) (cleanV u)).1)) && (mayV ((unG o v).1))) && (!(decide (((binG o (cleanV v) (cleanV u)).2)=0))))) rfl rfl rfl (fun _ _ k=>g1' (k.eq1 12 44 rfl)) rfl (fun hG _ w hn k=>⟨#[vv (binG o (cleanV v) (cleanV u)).1 aG ap ay aq,vv (Vl.mk 0 0 0 false [] [] 0) none 0 none 0],args2 (cT hG (k.eq1 13 45 rfl)) (cT hG (k.eq1 14 46 rfl)),fun _=>by kernel_rfl,vsame_c ((binG o (cleanV v) (cleanV u)).1) _ _ _ _ (Vl.mk 0 0 0 false [] [] 0) _ _ _ _ _ (a8.new_ hn) (a9.new_ hn) (SRow.nil _ _) (SRow.nil _ _)⟩))<| .Q (fun k=>g0 (k.eq1 9 41 rfl)) (fun hG p k=>v_or rfl (cT hG (k.eq1 12 44 rfl)) rfl (fun hg=>(cT (aj hG (nt hg)) (k.eq1 15 47 rfl))))<| .O 9 16<| .N 17<| .Q (fun k=>g0 (k.eq1 18 50 rfl)) (fun hG p k=>v_move rfl (k.fx 10 aZ))<| .Q (fun k=>g0 (k.eq1 18 50 rfl)) (fun hG p k=>v_bin rfl (cT hG (k.eq1 19 51 rfl)) rfl (fun _=>rfl) (r_eql rfl))<| .Q (fun k=>g0 (k.eq1 18 50 rfl)) (fun hG p k=>v_move rfl (cT hG (k.eq1 20 52 rfl)))<| .Q (fun k=>g1' (k.eq1 21 53 rfl)) (fun hG p k=>v_load rfl (k.fx 9 bC) (l_agg isAgg29 sizeOf29 (a7.new_ p) rfl))<| .Q (fun k=>g1' (k.eq1 21 53 rfl)) (fun hG p k=>v_build (ps:=[]) rfl parts0 (by kernel_rfl))<| .o1 (scC (G:=((((mayV ((binG o (cleanV v) (cleanV u)).1)) && (mayV ((unG o v).1))) && ((decide (((binG o (cleanV v) (cleanV u)).2)=0)) || (sameV ((binG o (cleanV v) (cleanV u)).1) (Vl.mk 0 0 0 false [] [] 0)))) && (!(decide (((unG o v).2)=0))))) rfl rfl rfl (fun _ _ k=>g1' (k.eq1 21 53 rfl)) rfl (fun hG _ w hn k=>⟨#[vv (unG o v).1 ar ad au ae,vv (Vl.mk 0 0 0 false [] [] 0) none 0 none 0],args2 (cT hG (k.eq1 22 54 rfl)) (cT hG (k.eq1 23 55 rfl)),fun _=>by kernel_rfl,vsame_c ((unG o v).1) _ _ _ _ (Vl.mk 0 0 0 false [] [] 0) _ _ _ _ _ (ba.new_ hn) (bb.new_ hn) (SRow.nil _ _) (SRow.nil _ _)⟩))<| .Q (fun k=>g0 (k.eq1 18 50 rfl)) (fun hG p k=>v_or rfl (cT hG (k.eq1 21 53 rfl)) rfl (fun hg=>(cT (aj hG (nt hg)) (k.eq1 24 56 rfl))))<| .O 18 25<| .N 26<| .Q (fun k=>g0 (k.eq1 27 59 rfl)) (fun hG p k=>v_move rfl (k.fx 8 aY))<| .Q (fun k=>g0 (k.eq1 27 59 rfl)) (fun hG p k=>v_bin rfl (cT hG (k.eq1 28 60 rfl)) rfl (fun _=>rfl) (r_geqK rfl))<| .O 27 29<| .N 30<| .Q (fun k=>g0 (k.eq1 31 63 rfl)) (fun hG p k=>v_move rfl (k.fx 8 aY))<| .Q (fun k=>g0 (k.eq1 31 63 rfl)) (fun hG p k=>v_bin rfl (cT hG (k.eq1 32 64 rfl)) rfl (fun _=>rfl) (r_leqK rfl))<| .O 31 33<| .N 34<| .Q (fun k=>g0 (k.eq1 35 67 rfl)) (fun hG p k=>v_move rfl (k.fx 10 aZ))<| .Q (fun k=>g0 (k.eq1 35 67 rfl)) (fun hG p k=>v_bin rfl (cT hG (k.eq1 36 68 rfl)) rfl (fun _=>rfl) (r_geqK rfl))<| .O 35 37<| .N 38<| .Q (fun k=>g0 (k.eq1 39 71 rfl)) (fun hG p k=>v_move rfl (k.fx 10 aZ))<| .Q (fun k=>g0 (k.eq1 39 71 rfl)) (fun hG p k=>v_bin rfl (cT hG (k.eq1 40 72 rfl)) rfl (fun _=>rfl) (r_leqK rfl))<| .O 39 41<| .B 42 .nil
 refine aftI bf bQ be fun dY dZ dE bS bT dF bU=>?_
 have cU:=bU.g 43 6
 refine bR _ _ ?_
 refine wp_ret (ret_k bS (v:=.bool ((((((((mayV ((binG o (cleanV v) (cleanV u)).1)) && (mayV ((unG o v).1))) && ((decide (((binG o (cleanV v) (cleanV u)).2)=0)) || (sameV ((binG o (cleanV v) (cleanV u)).1) (Vl.mk 0 0 0 false [] [] 0)))) && ((decide (((unG o v).2)=0)) || (sameV ((unG o v).1) (Vl.mk 0 0 0 false [] [] 0)))) && (!decide (((binG o (cleanV v) (cleanV u)).2) < 0))) && (decide (((binG o (cleanV v) (cleanV u)).2)≤3))) && (!decide (((unG o v).2) < 0))) && (decide (((unG o v).2)≤3)))) (res_t rfl cU _) ?_)
 exact⟨congrArg (fun b=>Ending.returned (.bool b)) (show (((((((((mayV ((binG o (cleanV v) (cleanV u)).1)) && (mayV ((unG o v).1))) && ((decide (((binG o (cleanV v) (cleanV u)).2)=0)) || (sameV ((binG o (cleanV v) (cleanV u)).1) (Vl.mk 0 0 0 false [] [] 0)))) && ((decide (((unG o v).2)=0)) || (sameV ((unG o v).1) (Vl.mk 0 0 0 false [] [] 0)))) && (!decide (((binG o (cleanV v) (cleanV u)).2) < 0))) && (decide (((binG o (cleanV v) (cleanV u)).2)≤3))) && (!decide (((unG o v).2) < 0))) && (decide (((unG o v).2)≤3))))=true from by rw [hgb1,hgb2,hgb3,hgb4,hgu1,hgu2,hgu3,hgu4]; rfl),bT⟩
end Go.Proofs.YtjakfchffigkkaaGreatDoor
