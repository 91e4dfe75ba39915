import Derived.Test.YtjakfchffigkkaaGreatDoorOuc
namespace Go.Proofs.YtjakfchffigkkaaGreatDoor
open Go.RowKit
open Tryz
set_option linter.unusedSimpArgs false
set_option linter.unusedVariables false
set_option maxHeartbeats 16000000
set_option maxRecDepth 100000
theorem first_c  (w:World) (HT:ItoaOk w):Calls prog 10 #[] w (IsRet (.bool true) w):=by
 refine enter_abs func10 rfl fun a0 bi fa hp=>?_
 have bi:a0.tmps.size=99:=bi
 have fb:New w w:=Upd.refl _ _
 refine wk fun K1 fc=>?_
 refine wA tr1 [] 99 [vF] bi ?_ ?_
 exact .c .nil
 refine aftI bi fa fb fun a2 w3 dn fd bG gW gX=>?_
 refine fc _ _ <| wk fun K9 fe=>?_
 refine wp_gS (fun W=>True) (fun W W' hn h=>trivial) trivial [true,true,true,true,true,true,true,false,false] [5] [(7,false),(8,true)] 99
  [(fun (v_:Value) (W:World)=>∃ (A3:Option Addr) (c4:Nat),v_=vv (Vl.mk 5 0 0 false [] (asc ⟨#[97]⟩) 0) none 0 A3 c4∧SRow W .u16 A3 (asc ⟨#[97]⟩) c4),ve (vv (Vl.mk 3 0 1 false [] [] 0) none 0 none 0),(TP (joinV (cleanV (Vl.mk 5 0 0 false [] (asc ⟨#[97]⟩) 0)) (cleanV (Vl.mk 3 0 1 false [] [] 0))).1 ((joinV (cleanV (Vl.mk 5 0 0 false [] (asc ⟨#[97]⟩) 0)) (cleanV (Vl.mk 3 0 1 false [] [] 0))).2)),(TP (joinV (cleanV (Vl.mk 5 0 0 false [] (asc ⟨#[97]⟩) 0)) (cleanV (Vl.mk 3 0 1 false [] [] 0))).1 ((joinV (cleanV (Vl.mk 5 0 0 false [] (asc ⟨#[97]⟩) 0)) (cleanV (Vl.mk 3 0 1 false [] [] 0))).2)),(fun (v_:Value) (W:World)=>∃ (aD:Option Addr) (aE:Nat) (aF:Option Addr) (aG:Nat),v_=vv (joinV (cleanV (Vl.mk 5 0 0 false [] (asc ⟨#[97]⟩) 0)) (cleanV (Vl.mk 3 0 1 false [] [] 0))).1 aD aE aF aG∧SRow W .u32 aD ((joinV (cleanV (Vl.mk 5 0 0 false [] (asc ⟨#[97]⟩) 0)) (cleanV (Vl.mk 3 0 1 false [] [] 0))).1.mag) aE∧SRow W .u16 aF ((joinV (cleanV (Vl.mk 5 0 0 false [] (asc ⟨#[97]⟩) 0)) (cleanV (Vl.mk 3 0 1 false [] [] 0))).1.s) aG),ve (iv ((joinV (cleanV (Vl.mk 5 0 0 false [] (asc ⟨#[97]⟩) 0)) (cleanV (Vl.mk 3 0 1 false [] [] 0))).2)),IsNew w3 29 z7,vt,vt]
  [6] (newsCons (fun v w h=>IsNew.old h) newsNil) dn (.cons (fun _ _ _ n ⟨_,_,e,h⟩=>⟨_,_,e,h.new_ n⟩) (.eq (.cons (fun _ _ _ n ⟨_,_,_,_,e,h,i⟩=>⟨_,_,_,_,e,h.new_ n,i.new_ n⟩) (.cons (fun _ _ _ n ⟨_,_,_,_,e,h,i⟩=>⟨_,_,_,_,e,h.new_ n,i.new_ n⟩) (.cons (fun _ _ _ n ⟨_,_,_,_,e,h,i⟩=>⟨_,_,_,_,e,h.new_ n,i.new_ n⟩) (.eq (.nw (.tt (.tt .nil))))))))) ?_ ?_ ?_
 refine .o1 (tkC rfl (noG rfl) rfl fun _ w hn k=>(by
  refine ⟨#[.string ⟨#[97]⟩],_,args1 rfl,fun w=>by kernel_rfl,ostr_c ⟨#[97]⟩ _ (by first|omega|(show (_:Nat)≤_; decide)),?_⟩
  rintro e w' ⟨A1,c2,rfl,hmo0,hm⟩
  exact⟨_,rfl,hm,⟨A1,c2,rfl,hmo0⟩⟩)) ?_
 refine .D (fun k=>args1 rfl) (fun p=>owhole_c 1 _) ?_
 refine .o1 (tkC rfl (noG rfl) rfl fun _ w hn k=>(by
  obtain⟨A5,c6,e7,ff⟩:=k.G 0 14
  refine ⟨#[.string ⟨#[43]⟩,vv (Vl.mk 5 0 0 false [] (asc ⟨#[97]⟩) 0) none 0 A5 c6,vv (Vl.mk 3 0 1 false [] [] 0) none 0 none 0],_,args3 rfl e7 (k.eq1 1 15 rfl),fun w=>by kernel_rfl,binT_c (Vl.mk 5 0 0 false [] (asc ⟨#[97]⟩) 0) _ _ _ _ (Vl.mk 3 0 1 false [] [] 0) _ _ _ _ _ (SRow.nil _ _) ff (SRow.nil _ _) (SRow.nil _ _) (VOk.str ⟨#[97]⟩ (by first|omega|decide)) (VOk.whole (by omega) (by omega)) (by first|assumption|(rw [str_clean]; rfl)|decide +kernel) (HT.up (bG.transNew hn)),?_⟩
  rintro e w' ⟨A9,fg,fh,fi,rfl,hmo0,hmo1,hm⟩
  exact⟨_,rfl,hm,⟨A9,fg,fh,fi,rfl,hmo0,hmo1⟩⟩)) ?_
 refine .o1 (tk rfl rfl fun _ w hn k=>(by
  obtain⟨aH,fj,fk,fl,fm,dy,dz⟩:=k.G 2 16
  exact⟨_,v_move rfl fm,⟨aH,fj,fk,fl,rfl,dy,dz⟩⟩)) ?_
 refine .o1 (tk rfl rfl fun _ w hn k=>(by
  obtain⟨fn,fo,fp,fq,fs,dA,dB⟩:=k.G 3 13
  exact⟨_,v_extract rfl fs rfl,⟨fn,fo,fp,fq,rfl,dA,dB⟩⟩)) ?_
 refine .o3 ?_
 exact .Y<| .off<| .off .nil
 refine eg1 ?_
 exact eager_takeG rfl (noG rfl) fun _ w hn k=>(by
  obtain⟨gY,gZ,g0,g1,ft,gt,gu⟩:=k.G 3 13
  exact⟨_,fun w hS=>v_extract rfl ft rfl,rfl⟩)
 intro bH g2 _ dC aU
 obtain⟨bI,dD,dE⟩:=aft aU dn fd bG dC
 obtain⟨aH,aI,ba,aJ,bj,dF,dG⟩:=aU.G 4 17
 have bj:bH.eval (.tmp 17)=vv (joinV (cleanV (Vl.mk 5 0 0 false [] (asc ⟨#[97]⟩) 0)) (cleanV (Vl.mk 3 0 1 false [] [] 0))).1 aH aI ba aJ:=bj
 have dp:=aU.g 5 18
 obtain⟨aT,dq,dH,bb⟩:=aU.G 6 1
 have gv:=Nat.le_trans bG.size dH
 refine sS9 dq bj bb fun bk bJ bd gw=>?_
 have dJ:=dF.fr bb bd
 have dK:=dG.fr bb bd
 have bK:=dE.tR bd
 refine sP dp bI dD fun fu bL dL am fw=>?_
 have⟨g4,g5,fv⟩:=am.q3 bj dp dq
 refine fe _ _ <| wk fun g6 dM=>?_
 refine wp_g [true,true,true,true,true,true,true,true,false,false] [6] [(8,false),(9,true)] 99
  [(OP bk.heap.size 56 .u32 ([1])),(fun (v_:Value) (W:World)=>∃ (aK:Option Addr) (aL:Nat),v_=vv (Vl.mk 4 0 0 false [1] [] 0) aK aL none 0∧SRow W .u32 aK ([1]) aL),ve (vv (Vl.mk 3 0 1 false [] [] 0) none 0 none 0),ve (.tuple #[vv (Vl.mk 0 0 0 false [] [] 0) none 0 none 0,iv 1]),ve (.tuple #[vv (Vl.mk 0 0 0 false [] [] 0) none 0 none 0,iv 1]),ve (vv (Vl.mk 0 0 0 false [] [] 0) none 0 none 0),ve (iv 1),IsNew bk 29 z7,vt,vt]
  [7] (newsCons (fun v w h=>IsNew.old h) newsNil) bL (.cons (fun _ _ _ n ⟨_,_,e,h⟩=>⟨_,_,e,h.new_ n⟩) (.cons (fun _ _ _ n ⟨_,_,e,h⟩=>⟨_,_,e,h.new_ n⟩) (.eq (.eq (.eq (.eq (.eq (.nw (.tt (.tt .nil)))))))))) ?_ ?_ ?_
 refine .o1 (tkA rfl (noG rfl) fun _ w hn k=>(by
  exact x_bslice (k:=.u32) (ps:=[(0,.int .u32 1)]) [1] rfl (parts1 rfl) elW rfl (by omega) (by omega) (by first|kernel_rfl|(simp only [enc,List.map_cons,List.map_nil,Int.toNat_natCast,Int.toNat_of_nonneg (by omega:(0:Int)≤_)]; kernel_rfl)) fun fA fB W' hmo=>⟨fA,fB,rfl,(hmo.more hn.size)⟩)) ?_
 refine .o1 (tkC rfl (noG rfl) rfl fun _ w hn k=>(by
  obtain⟨fC,fD,fE,dN⟩:=k.G 0 20
  refine ⟨#[sv fC ([1]) fD],_,args1 fE,fun w=>by kernel_rfl,obig_c _ ([1]) _ _ dN.row,?_⟩
  rintro e w' ⟨fF,fG,rfl,hmo0,hm⟩
  exact⟨_,rfl,hm,⟨fF,fG,rfl,hmo0⟩⟩)) ?_
 refine .D (fun k=>args1 rfl) (fun p=>owhole_c 1 _) ?_
 refine .o1 (tkC rfl (noG rfl) rfl fun _ w hn k=>(by
  obtain⟨fH,fI,fJ,dO⟩:=k.G 1 21
  refine ⟨#[.string ⟨#[43]⟩,vv (Vl.mk 4 0 0 false [1] [] 0) fH fI none 0,vv (Vl.mk 3 0 1 false [] [] 0) none 0 none 0],_,args3 rfl fJ (k.eq1 2 22 rfl),fun w=>by kernel_rfl,f_m _ _ _ _ _ _ _ _ _ dO (SRow.nil _ _) (SRow.nil _ _) (SRow.nil _ _),?_⟩
  rintro e w' ⟨rfl,hm⟩
  exact⟨_,rfl,hm,rfl⟩)) ?_
 refine .N 3<| .E 4 ?_
 refine .o3 ?_
 exact .Y<| .off<| .off .nil
 refine eg1 ?_
 exact eager_take rfl rfl fun _ w hn k=>⟨iv 1,fun w=>v_extract rfl (k.eq1 4 19 rfl) rfl,rfl⟩
 refine aftI bL dL bK fun dr g7 bM dP dQ be aM=>?_
 have⟨fK,fL⟩:=aM.f2 fv fw
 have ds:=aM.g 5 24
 have dt:=aM.g 6 25
 obtain⟨du,dv,bN,bf⟩:=aM.G 7 3
 have dR:=bJ.new_ be
 have hne64:aT ≠ du:=by have h1:=bJ.lt; have h2:=bN; omega
 have gx:=Nat.le_trans bK.size bN
 have⟨dS,dT⟩:=nw2 be dJ dK
 refine sS9 dv ds bf fun dw gy bg dU=>?_
 have dW:=dS.fr bf bg
 have dX:=dT.fr bf bg
 have bO:=dU hne64 dR
 have bP:=dQ.tR bg
 refine sP dt bM dP fun fM bQ dY ag fP=>?_
 have⟨fN,fO,g9⟩:=ag.q3 fK fL ds
 have⟨ha,hc⟩:=ag.q2 dt dv
 refine dM _ _ <| wk fun hd dZ=>?_
 refine wB [true,true,true,true,true,true,true,false,false] [5] [(7,false),(8,true)] 99 [ve (vv (Vl.mk 3 0 1 false [] [] 0) none 0 none 0),ve (vv (Vl.mk 3 0 2 false [] [] 0) none 0 none 0),ve (.tuple #[vv (Vl.mk 0 0 0 false [] [] 0) none 0 none 0,iv 3]),ve (.tuple #[vv (Vl.mk 0 0 0 false [] [] 0) none 0 none 0,iv 3]),ve (vv (Vl.mk 0 0 0 false [] [] 0) none 0 none 0),ve (iv 3),IsNew dw 29 z7,vt,vt] [6] bQ ?_ ?_ ?_
 refine .D (fun k=>args1 rfl) (fun p=>owhole_c 1 _)<| .D (fun k=>args1 rfl) (fun p=>owhole_c 2 _)<| .D (fun k=>args3 rfl (k.eq1 0 27 rfl) (k.eq1 1 28 rfl)) (fun p=>f_d _ _ _ _ _ _ _ _ _ (SRow.nil _ _) (SRow.nil _ _) (SRow.nil _ _) (SRow.nil _ _))<| .N 2<| .E 3 ?_
 refine .o3 ?_
 exact .Y<| .off<| .off .nil
 refine eg1 ?_
 exact eager_take rfl rfl fun _ w hn k=>⟨iv 3,fun w=>v_extract rfl (k.eq1 3 26 rfl) rfl,rfl⟩
 refine aftI bQ dY bP fun dx hf bR d0 cp bh ax=>?_
 have⟨fQ,fR,fS⟩:=ax.f3 fN fO fP
 have bS:=ax.g 4 30
 have bT:=ax.g 5 31
 obtain⟨bU,bV,bl,aV⟩:=ax.G 6 5
 have cq:=bO.new_ bh
 have hne107:aT ≠ bU:=by have h1:=bO.lt; have h2:=bl; omega
 have gk:=Nat.le_trans bP.size bl
 have⟨cr,ct⟩:=nw2 bh dW dX
 refine sS9 bV bS aV fun aW gl aX cu=>?_
 have cw:=cr.fr aV aX
 have cx:=ct.fr aV aX
 have bm:=cu hne107 cq
 have bn:=cp.tR aX
 refine sP bT bR d0 fun d1 bo cy ad d5=>?_
 have⟨d2,d3,d4⟩:=ad.q3 fQ fR fS
 have⟨gA,gB,gC⟩:=ad.q3 bS bT bV
 refine dZ _ _ <| wk fun gD cz=>?_
 refine wp_g [true,true,true,true,true,true,true,true,false,false] [6] [(8,false),(9,true)] 99
  [(OP aW.heap.size 56 .u32 ([1])),(fun (v_:Value) (W:World)=>∃ (aN:Option Addr) (aO:Nat),v_=vv (Vl.mk 4 0 0 false [1] [] 0) aN aO none 0∧SRow W .u32 aN ([1]) aO),(fun (v_:Value) (W:World)=>∃ (aP:Option Addr) (aQ:Nat),v_=vv (Vl.mk 4 0 0 false [] [] 0) aP aQ none 0∧SRow W .u32 aP ([]) aQ),ve (.tuple #[vv (Vl.mk 0 0 0 false [] [] 0) none 0 none 0,iv 2]),ve (.tuple #[vv (Vl.mk 0 0 0 false [] [] 0) none 0 none 0,iv 2]),ve (vv (Vl.mk 0 0 0 false [] [] 0) none 0 none 0),ve (iv 2),IsNew aW 29 z7,vt,vt]
  [7] (newsCons (fun v w h=>IsNew.old h) newsNil) bo (.cons (fun _ _ _ n ⟨_,_,e,h⟩=>⟨_,_,e,h.new_ n⟩) (.cons (fun _ _ _ n ⟨_,_,e,h⟩=>⟨_,_,e,h.new_ n⟩) (.cons (fun _ _ _ n ⟨_,_,e,h⟩=>⟨_,_,e,h.new_ n⟩) (.eq (.eq (.eq (.eq (.nw (.tt (.tt .nil)))))))))) ?_ ?_ ?_
 refine .o1 (tkA rfl (noG rfl) fun _ w hn k=>(by
  exact x_bslice (k:=.u32) (ps:=[(0,.int .u32 1)]) [1] rfl (parts1 rfl) elW rfl (by omega) (by omega) (by first|kernel_rfl|(simp only [enc,List.map_cons,List.map_nil,Int.toNat_natCast,Int.toNat_of_nonneg (by omega:(0:Int)≤_)]; kernel_rfl)) fun fV fW W' hmo=>⟨fV,fW,rfl,(hmo.more hn.size)⟩)) ?_
 refine .o1 (tkC rfl (noG rfl) rfl fun _ w hn k=>(by
  obtain⟨fX,fY,fZ,d6⟩:=k.G 0 33
  refine ⟨#[sv fX ([1]) fY],_,args1 fZ,fun w=>by kernel_rfl,obig_c _ ([1]) _ _ d6.row,?_⟩
  rintro e w' ⟨f0,f1,rfl,hmo0,hm⟩
  exact⟨_,rfl,hm,⟨f0,f1,rfl,hmo0⟩⟩)) ?_
 refine .o1 (tkC rfl (noG rfl) rfl fun _ w hn k=>(by
  refine ⟨#[sv none ([]) 0],_,args1 rfl,fun w=>by kernel_rfl,obig_c _ ([]) _ _ (SRow.nil _ _),?_⟩
  rintro e w' ⟨f2,f3,rfl,hmo0,hm⟩
  exact⟨_,rfl,hm,⟨f2,f3,rfl,hmo0⟩⟩)) ?_
 refine .o1 (tkC rfl (noG rfl) rfl fun _ w hn k=>(by
  obtain⟨f4,f5,f6,d7⟩:=k.G 1 34
  obtain⟨f7,f8,f9,d8⟩:=k.G 2 35
  refine ⟨#[.string ⟨#[47]⟩,vv (Vl.mk 4 0 0 false [1] [] 0) f4 f5 none 0,vv (Vl.mk 4 0 0 false [] [] 0) f7 f8 none 0],_,args3 rfl f6 f9,fun w=>by kernel_rfl,f_b _ _ _ _ _ _ _ _ _ d7 (SRow.nil _ _) d8 (SRow.nil _ _),?_⟩
  rintro e w' ⟨rfl,hm⟩
  exact⟨_,rfl,hm,rfl⟩)) ?_
 refine .N 3<| .E 4 ?_
 refine .o3 ?_
 exact .Y<| .off<| .off .nil
 refine eg1 ?_
 exact eager_take rfl rfl fun _ w hn k=>⟨iv 2,fun w=>v_extract rfl (k.eq1 4 32 rfl) rfl,rfl⟩
 refine aftI bo cy bn fun bY gE bp cA cB aY ah=>?_
 have⟨d9,ea,eb,ec⟩:=ah.f4 d2 d3 d4 d5
 have bZ:=ah.g 5 37
 have b0:=ah.g 6 38
 obtain⟨b1,b2,bq,aZ⟩:=ah.G 7 7
 have cC:=bm.new_ aY
 have hne152:aT ≠ b1:=by have h1:=bm.lt; have h2:=bq; omega
 have gn:=Nat.le_trans bn.size bq
 have⟨cD,cE⟩:=nw2 aY cw cx
 refine sS9 b2 bZ aZ fun a1 go a3 cF=>?_
 have cH:=cD.fr aZ a3
 have cI:=cE.fr aZ a3
 have br:=cF hne152 cC
 have bs:=cB.tR a3
 refine sP b0 bp cA fun ed bt cJ ac ei=>?_
 have⟨ee,ef,eg⟩:=ac.q3 d9 ea eb
 have⟨eh,gG,gH⟩:=ac.q3 ec bZ b0
 have gI:=ac.q b2
 refine cz _ _ <| wk fun gJ cK=>?_
 refine wp_g [true,true,true,true,true,true,true,true,false,false] [6] [(8,false),(9,true)] 99
  [(OP a1.heap.size 56 .u32 ([1])),(fun (v_:Value) (W:World)=>∃ (an:Option Addr) (ao:Nat),v_=vv (Vl.mk 4 0 0 false [1] [] 0) an ao none 0∧SRow W .u32 an ([1]) ao),ve (vv (Vl.mk 3 0 2 false [] [] 0) none 0 none 0),ve (.tuple #[vv (Vl.mk 2 0 0 false [] [] 1) none 0 none 0,iv 0]),ve (.tuple #[vv (Vl.mk 2 0 0 false [] [] 1) none 0 none 0,iv 0]),ve (vv (Vl.mk 2 0 0 false [] [] 1) none 0 none 0),ve (iv 0),IsNew a1 29 z7,vt,vt]
  [7] (newsCons (fun v w h=>IsNew.old h) newsNil) bt (.cons (fun _ _ _ n ⟨_,_,e,h⟩=>⟨_,_,e,h.new_ n⟩) (.cons (fun _ _ _ n ⟨_,_,e,h⟩=>⟨_,_,e,h.new_ n⟩) (.eq (.eq (.eq (.eq (.eq (.nw (.tt (.tt .nil)))))))))) ?_ ?_ ?_
 refine .o1 (tkA rfl (noG rfl) fun _ w hn k=>(by
  exact x_bslice (k:=.u32) (ps:=[(0,.int .u32 1)]) [1] rfl (parts1 rfl) elW rfl (by omega) (by omega) (by first|kernel_rfl|(simp only [enc,List.map_cons,List.map_nil,Int.toNat_natCast,Int.toNat_of_nonneg (by omega:(0:Int)≤_)]; kernel_rfl)) fun gc gd W' hmo=>⟨gc,gd,rfl,(hmo.more hn.size)⟩)) ?_
 refine .o1 (tkC rfl (noG rfl) rfl fun _ w hn k=>(by
  obtain⟨gg,gh,gi,cL⟩:=k.G 0 40
  refine ⟨#[sv gg ([1]) gh],_,args1 gi,fun w=>by kernel_rfl,obig_c _ ([1]) _ _ cL.row,?_⟩
  rintro e w' ⟨ej,ek,rfl,hmo0,hm⟩
  exact⟨_,rfl,hm,⟨ej,ek,rfl,hmo0⟩⟩)) ?_
 refine .D (fun k=>args1 rfl) (fun p=>owhole_c 2 _) ?_
 refine .o1 (tkC rfl (noG rfl) rfl fun _ w hn k=>(by
  obtain⟨el,em,en,cM⟩:=k.G 1 41
  refine ⟨#[.string ⟨#[60]⟩,vv (Vl.mk 4 0 0 false [1] [] 0) el em none 0,vv (Vl.mk 3 0 2 false [] [] 0) none 0 none 0],_,args3 rfl en (k.eq1 2 42 rfl),fun w=>by kernel_rfl,f_l _ _ _ _ _ _ _ _ _ cM (SRow.nil _ _) (SRow.nil _ _) (SRow.nil _ _),?_⟩
  rintro e w' ⟨rfl,hm⟩
  exact⟨_,rfl,hm,rfl⟩)) ?_
 refine .N 3<| .E 4 ?_
 refine .o3 ?_
 exact .Y<| .off<| .off .nil
 refine eg1 ?_
 exact eager_take rfl rfl fun _ w hn k=>⟨iv 0,fun w=>v_extract rfl (k.eq1 4 39 rfl) rfl,rfl⟩
 refine aftI bt cJ bs fun b5 gK bu cN cO a4 af=>?_
 have⟨eo,ep,er,es⟩:=af.f4 ee ef eg eh
 have et:=af.f1 ei
 have b6:=af.g 5 44
 have b7:=af.g 6 45
 obtain⟨aR,b8,bv,a5⟩:=af.G 7 9
 have cP:=br.new_ a4
 have hne199:aT ≠ aR:=by have h1:=br.lt; have h2:=bv; omega
 have gp:=Nat.le_trans bs.size bv
 have⟨cQ,cR⟩:=nw2 a4 cH cI
 refine sS9 b8 b6 a5 fun b9 bw a6 cS=>?_
 have cU:=cQ.fr a5 a6
 have cV:=cR.fr a5 a6
 have bx:=cS hne199 cP
 have bz:=cO.tR a6
 refine sP b7 bu cN fun eu bA cW ab eB=>?_
 have⟨ev,ew,ex⟩:=ab.q3 eo ep er
 have⟨ey,ez,gM⟩:=ab.q3 es et b6
 have⟨gN,eA⟩:=ab.q2 b7 b8
 refine cK _ _ <| wk fun gO cX=>?_
 refine wB [true,true,true,true,true,true,false,false] [4] [(6,false),(7,true)] 99 [ve (vv (Vl.mk 3 0 0 false [] [] 0) none 0 none 0),ve (.tuple #[vv (Vl.mk 3 1 0 false [] [] 0) none 0 none 0,iv 0]),ve (.tuple #[vv (Vl.mk 3 1 0 false [] [] 0) none 0 none 0,iv 0]),ve (vv (Vl.mk 3 1 0 false [] [] 0) none 0 none 0),ve (iv 0),IsNew b9 29 z7,vt,vt] [5] bA ?_ ?_ ?_
 refine .D (fun k=>args1 rfl) (fun p=>owhole_c 0 _)<| .D (fun k=>args2 rfl (k.eq1 0 47 rfl)) (fun p=>f_n _ _ _ _ _ (SRow.nil _ _) (SRow.nil _ _))<| .N 1<| .E 2 ?_
 refine .o3 ?_
 exact .Y<| .off<| .off .nil
 refine eg1 ?_
 exact eager_take rfl rfl fun _ w hn k=>⟨iv 0,fun w=>v_extract rfl (k.eq1 2 46 rfl) rfl,rfl⟩
 refine aftI bA cW bz fun cc gP bB cY cZ ay ae=>?_
 have⟨eC,eD,eE,eF⟩:=ae.f4 ev ew ex ey
 have⟨eG,eH,eI⟩:=ae.f3 ez eA eB
 have cd:=ae.g 3 49
 have ce:=ae.g 4 50
 obtain⟨aS,cf,a7,a8⟩:=ae.G 5 11
 have⟨c0,c1⟩:=nw2 ay bx bw
 have hne250:aT ≠ aS:=by have h1:=bx.lt; have h2:=a7; omega
 have hne251:aR ≠ aS:=by have h1:=bw.lt; have h2:=a7; omega
 have gq:=Nat.le_trans bz.size a7
 have⟨c3,c5⟩:=nw2 ay cU cV
 refine sS9 cf cd a8 fun eJ c8 a9 bC=>?_
 have da:=c3.fr a8 a9
 have db:=c5.fr a8 a9
 have dc:=bC hne250 c0
 have bD:=bC hne251 c1
 have dd:=cZ.tR a9
 refine sP ce bB cY fun eK bE de aa eS=>?_
 have⟨eL,eM,eN⟩:=aa.q3 eC eD eE
 have⟨eO,eP,cj⟩:=aa.q3 eF eG eH
 have⟨eQ,gR,gS⟩:=aa.q3 eI cd ce
 have eR:=aa.q cf
 refine cX _ _ <| wk fun gT df=>?_
 have bF:(decide (((joinV (cleanV (Vl.mk 5 0 0 false [] (asc ⟨#[97]⟩) 0)) (cleanV (Vl.mk 3 0 1 false [] [] 0))).2)=0))=true:=by rw [join_a1]; rfl
 have gj:=oT bF
 have dg:(sameV ((joinV (cleanV (Vl.mk 5 0 0 false [] (asc ⟨#[97]⟩) 0)) (cleanV (Vl.mk 3 0 1 false [] [] 0))).1) (Vl.mk 5 0 0 false [] (asc ⟨#[97,49]⟩) 0))=true:=by rw [join_a1]; decide +kernel
 refine wp_g0 (.replicate 49 true) [] 99
  [ve (iv ((joinV (cleanV (Vl.mk 5 0 0 false [] (asc ⟨#[97]⟩) 0)) (cleanV (Vl.mk 3 0 1 false [] [] 0))).2)),vT,vT,ve (vv (joinV (cleanV (Vl.mk 5 0 0 false [] (asc ⟨#[97]⟩) 0)) (cleanV (Vl.mk 3 0 1 false [] [] 0))).1 aH aI ba aJ),(fun (v_:Value) (W:World)=>∃ (ap:Option Addr) (aq:Nat),v_=vv (Vl.mk 5 0 0 false [] (asc ⟨#[97,49]⟩) 0) none 0 ap aq∧SRow W .u16 ap (asc ⟨#[97,49]⟩) aq),vT,vT,vT,ve (iv 1),vT,vT,vT,ve (iv 3),vT,vT,vT,ve (iv 2),vT,vT,vT,ve (iv 0),vT,vT,vT,ve (pv aR),ve (iv 2),vT,vT,vT,ve (.pointer (some ⟨aR,6,none⟩)),ve (iv 1),vT,vT,vT,ve (iv 0),vT,vT,vT,ve (.pointer (some ⟨aS,1,none⟩)),ve (.pointer (some ⟨aS,1,none⟩)),ve (iv 1),vT,vT,vT,(fun (v_:Value) (W:World)=>∃ (ar:Option Addr) (au:Nat),v_=svT ar ([⟨#[43]⟩,⟨#[45]⟩,⟨#[42]⟩,⟨#[47]⟩,⟨#[37]⟩,⟨#[38]⟩,⟨#[124]⟩,⟨#[94]⟩,⟨#[60,60]⟩,⟨#[62,62]⟩,⟨#[62,62,62]⟩,⟨#[60]⟩,⟨#[62]⟩,⟨#[60,61]⟩,⟨#[62,61]⟩,⟨#[61,61]⟩,⟨#[33,61]⟩,⟨#[61,61,61]⟩,⟨#[33,61,61]⟩]) au∧TRow W ar ([⟨#[43]⟩,⟨#[45]⟩,⟨#[42]⟩,⟨#[47]⟩,⟨#[37]⟩,⟨#[38]⟩,⟨#[124]⟩,⟨#[94]⟩,⟨#[60,60]⟩,⟨#[62,62]⟩,⟨#[62,62,62]⟩,⟨#[60]⟩,⟨#[62]⟩,⟨#[60,61]⟩,⟨#[62,61]⟩,⟨#[61,61]⟩,⟨#[33,61]⟩,⟨#[61,61,61]⟩,⟨#[33,61,61]⟩]) au),(fun (v_:Value) (W:World)=>∃ (av:Option Addr) (aw:Nat),v_=svT av ([⟨#[43]⟩,⟨#[45]⟩,⟨#[42]⟩,⟨#[47]⟩,⟨#[37]⟩,⟨#[38]⟩,⟨#[124]⟩,⟨#[94]⟩,⟨#[60,60]⟩,⟨#[62,62]⟩,⟨#[62,62,62]⟩,⟨#[60]⟩,⟨#[62]⟩,⟨#[60,61]⟩,⟨#[62,61]⟩,⟨#[61,61]⟩,⟨#[33,61]⟩,⟨#[61,61,61]⟩,⟨#[33,61,61]⟩]) aw∧TRow W av ([⟨#[43]⟩,⟨#[45]⟩,⟨#[42]⟩,⟨#[47]⟩,⟨#[37]⟩,⟨#[38]⟩,⟨#[124]⟩,⟨#[94]⟩,⟨#[60,60]⟩,⟨#[62,62]⟩,⟨#[62,62,62]⟩,⟨#[60]⟩,⟨#[62]⟩,⟨#[60,61]⟩,⟨#[62,61]⟩,⟨#[61,61]⟩,⟨#[33,61]⟩,⟨#[61,61,61]⟩,⟨#[33,61,61]⟩]) aw),vT,vT,vT] bE (.eq (.eq (.eq (.eq (.cons (fun _ _ _ n ⟨_,_,e,h⟩=>⟨_,_,e,h.new_ n⟩) (.eq (.eq (.eq (.eq (.eq (.eq (.eq (.eq (.eq (.eq (.eq (.eq (.eq (.eq (.eq (.eq (.eq (.eq (.eq (.eq (.eq (.eq (.eq (.eq (.eq (.eq (.eq (.eq (.eq (.eq (.eq (.eq (.eq (.eq (.eq (.eq (.eq (.eq (.eq (.cons (fun _ _ _ n ⟨_,_,e,h⟩=>⟨_,_,e,h.new_ n⟩) (.cons (fun _ _ _ n ⟨_,_,e,h⟩=>⟨_,_,e,h.new_ n⟩) (.eq (.eq (.eq .nil))))))))))))))))))))))))))))))))))))))))))))))))) ?_ ?_
 refine .M eM<| .b 0 (r_eql bF)<| .N 1<| .V (fun p k=>v_load rfl (k.fx 1 eL) (l_agg isAgg29 sizeOf29 (dc.new_ p) rfl)) ?_
 refine .o1 (tkC rfl (onG rfl rfl fun _ _ k=>k.eq1 2 53 rfl) rfl fun _ w hn k=>(by
  refine ⟨#[.string ⟨#[97,49]⟩],_,args1 rfl,fun w=>by kernel_rfl,ostr_c ⟨#[97,49]⟩ _ (by first|omega|(show (_:Nat)≤_; decide)),?_⟩
  rintro e w' ⟨eT,eU,rfl,hmo0,hm⟩
  exact⟨_,rfl,hm,⟨eT,eU,rfl,hmo0⟩⟩)) ?_
 refine .o1 (tkC rfl (onG rfl rfl fun _ _ k=>k.eq1 2 53 rfl) rfl fun _ w hn k=>(by
  obtain⟨eV,eW,eX,dh⟩:=k.G 4 55
  refine ⟨#[vv (joinV (cleanV (Vl.mk 5 0 0 false [] (asc ⟨#[97]⟩) 0)) (cleanV (Vl.mk 3 0 1 false [] [] 0))).1 aH aI ba aJ,vv (Vl.mk 5 0 0 false [] (asc ⟨#[97,49]⟩) 0) none 0 eV eW],_,args2 (k.eq1 3 54 rfl) eX,fun w=>by kernel_rfl,vsame_c ((joinV (cleanV (Vl.mk 5 0 0 false [] (asc ⟨#[97]⟩) 0)) (cleanV (Vl.mk 3 0 1 false [] [] 0))).1) _ _ _ _ (Vl.mk 5 0 0 false [] (asc ⟨#[97,49]⟩) 0) _ _ _ _ _ (da.new_ hn) (db.new_ hn) (SRow.nil _ _) dh,?_⟩
  rintro e w' ⟨rfl,hm⟩
  exact⟨_,rfl,hm,congrArg Value.bool dg⟩)) ?_
 refine .T (fun k=>v_pickT rfl (k.eq1 2 53 rfl) (k.eq1 5 56 rfl))<| .N 6<| .gm (fun k=>k.eq1 7 58 rfl) (fun k=>k.fx 4 eN)<| .V (fun p k=>v_bin rfl (k.eq1 8 59 rfl) rfl (fun _=>rfl) (fun w=>by kernel_rfl))<| .T (fun k=>v_pickT rfl (k.eq1 7 58 rfl) (k.eq1 9 60 rfl))<| .N 10<| .gm (fun k=>k.eq1 11 62 rfl) (fun k=>k.fx 6 eO)<| .V (fun p k=>v_bin rfl (k.eq1 12 63 rfl) rfl (fun _=>rfl) (fun w=>by kernel_rfl))<| .T (fun k=>v_pickT rfl (k.eq1 11 62 rfl) (k.eq1 13 64 rfl))<| .N 14<| .gm (fun k=>k.eq1 15 66 rfl) (fun k=>k.fx 8 eP)<| .V (fun p k=>v_bin rfl (k.eq1 16 67 rfl) rfl (fun _=>rfl) (fun w=>by kernel_rfl))<| .T (fun k=>v_pickT rfl (k.eq1 15 66 rfl) (k.eq1 17 68 rfl))<| .N 18<| .gm (fun k=>k.eq1 19 70 rfl) (fun k=>k.fx 10 eQ)<| .V (fun p k=>v_bin rfl (k.eq1 20 71 rfl) rfl (fun _=>rfl) (fun w=>by kernel_rfl))<| .T (fun k=>v_pickT rfl (k.eq1 19 70 rfl) (k.eq1 21 72 rfl))<| .N 22<| .gf (fun k=>k.eq1 23 74 rfl) (fun k=>k.fx 9 cj)<| .V (fun p k=>v_load rfl (k.eq1 24 75 rfl) (l_one isAgg3 ((bD.new_ p).cell 0)))<| .V (fun p k=>v_bin rfl (k.eq1 25 76 rfl) rfl (fun _=>rfl) (fun w=>by kernel_rfl))<| .T (fun k=>v_pickT rfl (k.eq1 23 74 rfl) (k.eq1 26 77 rfl))<| .N 27<| .gf (fun k=>k.eq1 28 79 rfl) (fun k=>k.fx 9 cj)<| .V (fun p k=>v_load rfl (k.eq1 29 80 rfl) (l_one isAgg3 ((bD.new_ p).cell 6)))<| .V (fun p k=>v_bin rfl (k.eq1 30 81 rfl) rfl (fun _=>rfl) (fun w=>by kernel_rfl))<| .T (fun k=>v_pickT rfl (k.eq1 28 79 rfl) (k.eq1 31 82 rfl))<| .N 32<| .gm (fun k=>k.eq1 33 84 rfl) (fun k=>k.fx 12 eS)<| .V (fun p k=>v_bin rfl (k.eq1 34 85 rfl) rfl (fun _=>rfl) (fun w=>by kernel_rfl))<| .T (fun k=>v_pickT rfl (k.eq1 33 84 rfl) (k.eq1 35 86 rfl))<| .N 36<| .gf (fun k=>k.eq1 37 88 rfl) (fun k=>k.fx 11 eR)<| .gf (fun k=>k.eq1 37 88 rfl) (fun k=>k.eq1 38 89 rfl)<| .V (fun p k=>v_load rfl (k.eq1 39 90 rfl) (l_one isAgg3 ((c8.new_ p).cell 1)))<| .V (fun p k=>v_bin rfl (k.eq1 40 91 rfl) rfl (fun _=>rfl) (fun w=>by kernel_rfl))<| .T (fun k=>v_pickT rfl (k.eq1 37 88 rfl) (k.eq1 41 92 rfl))<| .N 42 ?_
 refine .o1 (tkC rfl (onG rfl rfl fun _ _ k=>k.eq1 43 94 rfl) rfl fun _ w hn k=>(by
  refine ⟨#[],_,rfl,fun w=>by kernel_rfl,ops_c  _ ,?_⟩
  rintro e w' ⟨eY,eZ,rfl,hmo0,hm⟩
  exact⟨_,rfl,hm,⟨eY,eZ,rfl,hmo0⟩⟩)) ?_
 refine .o1 (tkC rfl (onG rfl rfl fun _ _ k=>k.eq1 43 94 rfl) rfl fun _ w hn k=>(by
  refine ⟨#[],_,rfl,fun w=>by kernel_rfl,rops_c  _ ,?_⟩
  rintro e w' ⟨e0,e1,rfl,hmo0,hm⟩
  exact⟨_,rfl,hm,⟨e0,e1,rfl,hmo0⟩⟩)) ?_
 refine .o1 (tkC rfl (onG rfl rfl fun _ _ k=>k.eq1 43 94 rfl) rfl fun _ w hn k=>(by
  obtain⟨e2,e3,e4,di⟩:=k.G 44 95
  obtain⟨e5,e6,e8,dj⟩:=k.G 45 96
  refine ⟨#[svT e2 ([⟨#[43]⟩,⟨#[45]⟩,⟨#[42]⟩,⟨#[47]⟩,⟨#[37]⟩,⟨#[38]⟩,⟨#[124]⟩,⟨#[94]⟩,⟨#[60,60]⟩,⟨#[62,62]⟩,⟨#[62,62,62]⟩,⟨#[60]⟩,⟨#[62]⟩,⟨#[60,61]⟩,⟨#[62,61]⟩,⟨#[61,61]⟩,⟨#[33,61]⟩,⟨#[61,61,61]⟩,⟨#[33,61,61]⟩]) e3,svT e5 ([⟨#[43]⟩,⟨#[45]⟩,⟨#[42]⟩,⟨#[47]⟩,⟨#[37]⟩,⟨#[38]⟩,⟨#[124]⟩,⟨#[94]⟩,⟨#[60,60]⟩,⟨#[62,62]⟩,⟨#[62,62,62]⟩,⟨#[60]⟩,⟨#[62]⟩,⟨#[60,61]⟩,⟨#[62,61]⟩,⟨#[61,61]⟩,⟨#[33,61]⟩,⟨#[61,61,61]⟩,⟨#[33,61,61]⟩]) e6],_,args2 e4 e8,fun w=>by kernel_rfl,texts_c _ ([⟨#[43]⟩,⟨#[45]⟩,⟨#[42]⟩,⟨#[47]⟩,⟨#[37]⟩,⟨#[38]⟩,⟨#[124]⟩,⟨#[94]⟩,⟨#[60,60]⟩,⟨#[62,62]⟩,⟨#[62,62,62]⟩,⟨#[60]⟩,⟨#[62]⟩,⟨#[60,61]⟩,⟨#[62,61]⟩,⟨#[61,61]⟩,⟨#[33,61]⟩,⟨#[61,61,61]⟩,⟨#[33,61,61]⟩]) _ _ ([⟨#[43]⟩,⟨#[45]⟩,⟨#[42]⟩,⟨#[47]⟩,⟨#[37]⟩,⟨#[38]⟩,⟨#[124]⟩,⟨#[94]⟩,⟨#[60,60]⟩,⟨#[62,62]⟩,⟨#[62,62,62]⟩,⟨#[60]⟩,⟨#[62]⟩,⟨#[60,61]⟩,⟨#[62,61]⟩,⟨#[61,61]⟩,⟨#[33,61]⟩,⟨#[61,61,61]⟩,⟨#[33,61,61]⟩]) _ _ di dj rfl,?_⟩
  rintro e w' ⟨rfl,hm⟩
  exact⟨_,rfl,hm,rfl⟩)) ?_
 exact .T (fun k=>v_pickT rfl (k.eq1 43 94 rfl) (k.eq1 46 97 rfl))<| .B 47 .nil
 refine aftI bE de dd fun gU gV gr dk dl gs dm=>?_
 have e9:=dm.g 48 0
 refine df _ _<| wp_ret (ret_k dk (v:=.bool true) (res_t rfl e9 _) ?_)
 exact⟨rfl,dl⟩
def biggedV (b:Bool) (m:List Nat) (t:Bool):Vl × Int:=if t then (⟨4,0,0,b,m,[],0⟩,0) else (Vl.z,3)
def bigZ (z:Int):Vl × Int:=biggedV (decide (capI z < 0)) (canon (capI z).natAbs) (okI z)
def numV (a:Nm) (t:Bool):Vl × Int:=(⟨(numberedV a t).1,(numberedV a t).2.1.k,(numberedV a t).2.1.n,false,[],[],0⟩,(numberedV a t).2.2)
def stepV (v:Vl) (y:Int):Vl × Int :=
  if decide ((numericV v).2=0) then
    (if !decide (y=1) && !decide (y = -1) then (Vl.z,3)
     else if decide ((numericV v).1.k=4) then bigZ (goodI (numericV v).1.neg (numericV v).1.mag + y)
     else numV (addM (numericV v).1.num ⟨0,y⟩).1 (addM (numericV v).1.num ⟨0,y⟩).2)
  else (Vl.z,(numericV v).2)
theorem capI_lt (z:Int):(capI z).natAbs < 2 ^ 256:=by
  unfold capI
  split
  · assumption
  · decide +kernel
theorem goodI_lt (b:Bool) (m:List Nat) (h:Limbs m):(goodI b m).natAbs < 2 ^ 256:=good_lt h
theorem VOk.bigZ (z:Int):VOk (bigZ z).1:=by
  unfold Go.Proofs.YtjakfchffigkkaaGreatDoor.bigZ biggedV
  split
  · exact⟨limbs_canon _,U16s.nil,(show (canon (capI z).natAbs).length≤40 by have:=(canon_len8 (capI z).natAbs).2 (capI_lt z); omega),Nat.zero_le _,(by decide:(-9223372036854775808:Int)≤0),(by decide:(0:Int)≤9223372036854775807),(by decide:(-9223372036854775808:Int)≤0),(by decide:(0:Int)≤9223372036854775807)⟩
  · exact VOk.z
theorem ofM_may {n:Int} (h:(ofM n).2=true):nmayB (ofM n).1=true:=by
  unfold ofM at h ⊢
  split at h
  · cases h
  · rename_i h2
    rw [if_neg h2]
    simp at h2
    simp [nmayB]
    omega
theorem as_of {a:Nm} (h:nmayB a=true):asM a=a:=by unfold asM; rw [if_pos h]
theorem addM_may {a b:Nm} (h:(addM a b).2=true):nmayB (addM a b).1=true:=by
  unfold addM at h ⊢
  rcases as_cases a with ⟨n,e,h1,h2⟩|e|e|e|e <;> rcases as_cases b with ⟨m,e',h3,h4⟩|e'|e'|e'|e' <;> rw [e,e'] at h ⊢
  all_goals first|decide|rfl|exact ofM_may h
theorem VOk.numV (a b:Nm):VOk (numV (addM a b).1 (addM a b).2).1:=by
  cases h:(addM a b).2 with
  | false=>exact VOk.z
  | true =>
    have h4:=as_bd (addM a b).1
    rw [as_of (addM_may h)] at h4
    exact⟨Limbs.nil,U16s.nil,Nat.zero_le _,Nat.zero_le _,(show -9223372036854775808≤(addM a b).1.n by omega),(show (addM a b).1.n≤9223372036854775807 by omega),(by decide:(-9223372036854775808:Int)≤0),(by decide:(0:Int)≤9223372036854775807)⟩
theorem VOk.stepV (v:Vl) (y:Int):VOk (stepV v y).1:=by
  unfold Go.Proofs.YtjakfchffigkkaaGreatDoor.stepV
  repeat' split
  · exact VOk.z
  · exact VOk.bigZ _
  · exact VOk.numV _ _
  · exact VOk.z
theorem may_wholeI {n:Int}:nmayB ⟨0,n⟩=true ↔ -9007199254740991≤n∧n≤9007199254740991:=by
  unfold nmayB; simp
def fewV (o:ByteArray) (v u:Vl):Bool:=(((decide ((o.size:Int)≤100)) && (decide ((v.s.length:Int)≤20000) && decide ((v.mag.length:Int)≤40))) && (decide ((u.s.length:Int)≤20000) && decide ((u.mag.length:Int)≤40)))
theorem few_two {o:ByteArray} {v u:Vl} (h:fewV o v u=true):(decide ((v.s.length:Int)≤20000) && decide ((v.mag.length:Int)≤40))=true∧(decide ((u.s.length:Int)≤20000) && decide ((u.mag.length:Int)≤40))=true∧(o.size:Int)≤100:=by
  unfold fewV at h
  simp only [Bool.and_eq_true] at h
  exact⟨by simp only [Bool.and_eq_true]; exact h.1.2,by simp only [Bool.and_eq_true]; exact h.2,of_decide_eq_true h.1.1⟩

def bAdd_c_P (a:Bool) (Aa:Option Addr) (ma:List Nat) (ca:Nat) (b:Bool) (Ab:Option Addr) (mb:List Nat) (cb:Nat) (w:World) (en:Ending) (w':World):Prop:=∃ (Ar0:Option Addr) (cr0:Nat),en=.returned (.tuple #[.agg #[.bool (decide ((capI (goodI a ma + goodI b mb)) < 0)),sv Ar0 (canon ((capI (goodI a ma + goodI b mb))).natAbs) cr0],.bool (okI (goodI a ma + goodI b mb))])∧SRow w' .u32 Ar0 (canon ((capI (goodI a ma + goodI b mb))).natAbs) cr0∧New w w'
theorem bAdd_c (a:Bool) (Aa:Option Addr) (ma:List Nat) (ca:Nat) (b:Bool) (Ab:Option Addr) (mb:List Nat) (cb:Nat) (w:World) (hra:SRow w .u32 Aa ma ca) (hrb:SRow w .u32 Ab mb cb) (ha:Limbs ma) (hb:Limbs mb):Calls Tryz.prog 63 #[.agg #[.bool a,sv Aa ma ca],.agg #[.bool b,sv Ab mb cb]] w (bAdd_c_P a Aa ma ca b Ab mb cb w):=by
  refine (add_any _ _ _ _ w (big_in hra ha) (big_in hrb hb)).mono fun e w' h=>?_
  obtain⟨f,A',n',c',rfl,hc,hn⟩:=h
  obtain⟨rfl,rfl,hr'⟩:=hc.parts
  exact⟨A',c',rfl,hr',hn⟩
def bigged_c_P (a:Bool) (Aa:Option Addr) (ma:List Nat) (ca:Nat) (t:Bool) (w:World) (en:Ending) (w':World):Prop:=∃ (Ar0:Option Addr) (cr0:Nat) (Ar1:Option Addr) (cr1:Nat),en=.returned (.tuple #[vv (biggedV a ma t).1 Ar0 cr0 Ar1 cr1,iv ((biggedV a ma t).2)])∧SRow w' .u32 Ar0 ((biggedV a ma t).1.mag) cr0∧SRow w' .u16 Ar1 ((biggedV a ma t).1.s) cr1∧New w w'
theorem bigged_c (a:Bool) (Aa:Option Addr) (ma:List Nat) (ca:Nat) (t:Bool) (w:World) (hra:SRow w .u32 Aa ma ca):Calls prog 62 #[.agg #[.bool a,sv Aa ma ca],.bool t] w (bigged_c_P a Aa ma ca t w):=by
 refine enter_abs func62 rfl fun a0 ak bl hp=>?_
 have ak:a0.tmps.size=11:=ak
 have an:New w w:=Upd.refl _ _
 have hp0:a0.eval (.tmp 0)=.agg #[.bool a,sv Aa ma ca]:=hp 0 _ rfl
 have hp1:a0.eval (.tmp 1)=.bool t:=hp 1 _ rfl
 refine wk fun K1 bm=>?_
 refine wB tr3 [] [] 11 [IsNew w 26 [.bool a,sv Aa ma ca],IsNew w 29 z7,ve (iv 0)] [0,1] ak ?_ heN ?_
 exact .X hp0<| .Y<| .c .nil
 refine aftI ak bl an fun a2 w3 aF bn aO bF al=>?_
 have h8:=al.f1 hp1
 obtain⟨bo,h9,aP,aQ⟩:=al.G 0 2
 obtain⟨ao,aG,aR,aS⟩:=al.G 1 4
 have hne17:=al.ne 0 1 2 4 h9 aG
 have bz:=Nat.le_trans an.size aP
 have bA:=Nat.le_trans an.size aR
 refine bm _ _ <| wk fun bG aT=>?_
 refine wk fun bH aU=>?_
 refine wA tr2 [] 11 [ve (.bool t),ve (.bool (!t))] aF ?_ ?_
 exact .M h8<| .T (fun k=>v_not rfl (k.eq1 0 6 rfl)) .nil
 refine aftI aF bn aO fun aH bI af ap ai aq aj=>?_
 have⟨bp,aI⟩:=aj.f2 h9 aG
 have aJ:=aj.g 1 7
 have⟨aV,ar⟩:=nw2 aq aQ aS
 refine aU _ _ ?_
 rcases bc (t) with aa|aa
 have aW:aH.eval (.tmp 7)=.bool false:=aJ.trans (congrArg Value.bool (by rw [aa]; rfl))
 refine wf aW<| ws<| aT _ _<| wk fun bJ aX=>?_
 refine wp_g0 [true,true,false,false] [(2,false),(3,true)] 11
  [ve (.agg #[.bool a,sv Aa ma ca]),(fun (v_:Value) (W:World)=>∃ (A3:Option Addr) (c4:Nat),v_=vv (Vl.mk 4 0 0 a ma [] 0) A3 c4 none 0∧SRow W .u32 A3 ma c4),vt,vt] af (.eq (.cons (fun _ _ _ n ⟨_,_,e,h⟩=>⟨_,_,e,h.new_ n⟩) (.tt (.tt .nil)))) ?_ ?_
 refine .L6 bp aV ?_
 refine .o1 (tkC rfl (noG rfl) rfl fun _ w hn k=>(by
  refine ⟨#[.agg #[.bool a,sv Aa ma ca]],_,args1 (k.eq1 0 9 rfl),fun w=>by kernel_rfl,cbig_c a _ ma _ _ (hra.new_ (ai.transNew hn)),?_⟩
  rintro e w' ⟨A1,c2,rfl,hmo0,hm⟩
  exact⟨_,rfl,hm,⟨A1,c2,rfl,hmo0⟩⟩)) ?_
 exact .off<| .off .nil
 refine aftI af ap ai fun au bK av aY aZ a1 aw=>?_
 have aK:=aw.f1 aI
 obtain⟨ae,ab,am,a3⟩:=aw.G 1 10
 have am:au.eval (.tmp 10)=vv (Vl.mk 4 0 0 a ma [] 0) ae ab none 0:=am
 have ax:=ar.new_ a1
 refine sS9 aK am ax fun bq a4 ay bB=>?_
 have a6:=a3.fr ax ay
 have a7:=aZ.tR ay
 refine sP (v:=iv 0) rfl av aY fun br bC a8 ac bt=>?_
 have⟨bs,bM⟩:=ac.q2 aK am
 refine aX _ _<| wp_ret (ret_k a8 (v:=.tuple #[vv (Vl.mk 4 0 0 a ma [] 0) ae ab none 0,iv 0]) (res_ct rfl bs bt (l_agg isAgg29 sizeOf29 a4 rfl)) ?_)
 have ag:(biggedV a ma t).1.mag=ma:=by first|rfl|(simp only [biggedV,Vl.z,aa,bsm] <;> rfl)|(exfalso; omega)
 have ah:(biggedV a ma t).1.s=[]:=by first|rfl|(simp only [biggedV,Vl.z,aa,bsm] <;> rfl)|(exfalso; omega)
 exact⟨ae,ab,none,0,(by show Ending.returned (.tuple #[vv (Vl.mk 4 0 0 a ma [] 0) ae ab none 0,iv 0])=Ending.returned (.tuple #[vv (biggedV a ma t).1 ae ab none 0,iv ((biggedV a ma t).2)]); (first|rfl|(simp only [biggedV,Vl.z,aa,ag,ah,bsm] <;> rfl)|(exfalso; omega))),(by rw [ag]; exact a6),(by rw [ah]; exact (SRow.nil _ _)),a7⟩
 have a9:aH.eval (.tmp 7)=.bool true:=aJ.trans (congrArg Value.bool (by rw [aa]; rfl))
 refine wt a9<| wk fun bN ba=>?_
 refine wA [true,false,false] [(1,false),(2,true)] 11 [ve (vv (Vl.mk 0 0 0 false [] [] 0) none 0 none 0),vt,vt] af ?_ ?_
 exact .Z<| .off<| .off .nil
 refine aftI af ap ai fun aL bO az bb bd be aA=>?_
 have aM:=aA.f1 aI
 have aN:=aA.g 0 8
 have bf:=ar.new_ be
 refine sS9 aM aN bf fun bu bh bg bD=>?_
 have bj:=bd.tR bg
 refine sP (v:=iv 3) rfl az bb fun bv bE bk ad bx=>?_
 have⟨bw,bQ⟩:=ad.q2 aM aN
 refine ba _ _<| wp_ret (ret_k bk (res9 bw bx bh) ?_)
 exact rV (by first|rfl|(simp only [biggedV,Vl.z,aa,bsm] <;> rfl)|(exfalso; omega)) bj
def step_c_P (v:Vl) (Av:Option Addr) (cv:Nat) (Bv:Option Addr) (dv:Nat) (y:Int) (w:World) (en:Ending) (w':World):Prop:=∃ (Ar0:Option Addr) (cr0:Nat) (Ar1:Option Addr) (cr1:Nat),en=.returned (.tuple #[vv (stepV v y).1 Ar0 cr0 Ar1 cr1,iv ((stepV v y).2)])∧SRow w' .u32 Ar0 ((stepV v y).1.mag) cr0∧SRow w' .u16 Ar1 ((stepV v y).1.s) cr1∧New w w'
theorem step_c (v:Vl) (Av:Option Addr) (cv:Nat) (Bv:Option Addr) (dv:Nat) (y:Int) (w:World) (hmv:SRow w .u32 Av v.mag cv) (hsv:SRow w .u16 Bv v.s dv) (hvv:VOk v) (hlo:-9223372036854775808≤y) (hhi:y≤9223372036854775807):Calls prog 25 #[vv v Av cv Bv dv,iv y] w (step_c_P v Av cv Bv dv y w):=by
 refine enter_abs func25 rfl fun a0 bm eg hp=>?_
 have bm:a0.tmps.size=50:=bm
 have bC:New w w:=Upd.refl _ _
 have hp0:a0.eval (.tmp 0)=vv v Av cv Bv dv:=hp 0 _ rfl
 have hp1:a0.eval (.tmp 1)=iv y:=hp 1 _ rfl
 have ap:=(VOk.numeric hvv).mlen
 refine wk fun K1 eh=>?_
 refine wB tr3 [] [] 50 [IsNew w 29 (c7 v Av cv Bv dv),IsNew w 29 z7,ve (iv 0)] [0,1] bm ?_ heN ?_
 exact .X hp0<| .Y<| .c .nil
 refine aftI bm eg bC fun a2 w3 db ei a7 fM bn=>?_
 have h8:=bn.f1 hp1
 obtain⟨ej,h9,dm,dn⟩:=bn.G 0 2
 obtain⟨a5,dc,dp,bD⟩:=bn.G 1 4
 have hne17:=bn.ne 0 1 2 4 h9 dc
 have ff:=Nat.le_trans bC.size dm
 have fg:=Nat.le_trans bC.size dp
 refine eh _ _ <| wk fun fN dq=>?_
 refine wp_gS (fun W=>True) (fun W W' hn h=>trivial) trivial [true,true,true,true,true,true,false,false] [4] [(6,false),(7,true)] 50
  [ve (vv v Av cv Bv dv),(TP (numericV v).1 ((numericV v).2)),(TP (numericV v).1 ((numericV v).2)),(fun (v_:Value) (W:World)=>∃ (aP:Option Addr) (aQ:Nat) (aR:Option Addr) (aS:Nat),v_=vv (numericV v).1 aP aQ aR aS∧SRow W .u32 aP ((numericV v).1.mag) aQ∧SRow W .u16 aR ((numericV v).1.s) aS),ve (iv ((numericV v).2)),IsNew w3 29 z7,vt,vt]
  [5] (newsCons (fun v w h=>IsNew.old h) newsNil) db (.eq (.cons (fun _ _ _ n ⟨_,_,_,_,e,h,i⟩=>⟨_,_,_,_,e,h.new_ n,i.new_ n⟩) (.cons (fun _ _ _ n ⟨_,_,_,_,e,h,i⟩=>⟨_,_,_,_,e,h.new_ n,i.new_ n⟩) (.cons (fun _ _ _ n ⟨_,_,_,_,e,h,i⟩=>⟨_,_,_,_,e,h.new_ n,i.new_ n⟩) (.eq (.nw (.tt (.tt .nil)))))))) ?_ ?_ ?_
 refine .L9 h9 dn ?_
 refine .o1 (tkC rfl (noG rfl) rfl fun _ w hn k=>(by
  refine ⟨#[vv v Av cv Bv dv],_,args1 (k.eq1 0 9 rfl),fun w=>by kernel_rfl,cnumeric_c v _ _ _ _ _ (hmv.new_ (a7.transNew hn)) (hsv.new_ (a7.transNew hn)) hvv,?_⟩
  rintro e w' ⟨A1,c2,A3,c4,rfl,hmo0,hmo1,hm⟩
  exact⟨_,rfl,hm,⟨A1,c2,A3,c4,rfl,hmo0,hmo1⟩⟩)) ?_
 refine .o1 (tk rfl rfl fun _ w hn k=>(by
  obtain⟨A9,ek,el,em,en,dr,ds⟩:=k.G 1 10
  exact⟨_,v_move rfl en,⟨A9,ek,el,em,rfl,dr,ds⟩⟩)) ?_
 refine .o1 (tk rfl rfl fun _ w hn k=>(by
  obtain⟨eo,ep,er,es,et,dt,du⟩:=k.G 2 8
  exact⟨_,v_extract rfl et rfl,⟨eo,ep,er,es,rfl,dt,du⟩⟩)) ?_
 refine .o3 ?_
 exact .Y<| .off<| .off .nil
 refine eg1 ?_
 exact eager_takeG rfl (noG rfl) fun _ w hn k=>(by
  obtain⟨a6,fO,fP,fQ,eu,fh,fi⟩:=k.G 2 8
  exact⟨_,fun w hS=>v_extract rfl eu rfl,rfl⟩)
 intro bE fR _ bF aI
 obtain⟨bG,dw,dx⟩:=aft aI db ei a7 bF
 have⟨ev,ew⟩:=aI.f2 h8 dc
 obtain⟨a6,aT,bH,bh,bo,dy,dz⟩:=aI.G 3 11
 have bo:bE.eval (.tmp 11)=vv (numericV v).1 a6 aT bH bh:=bo
 have dd:=aI.g 4 12
 obtain⟨bg,de,bI,bi⟩:=aI.G 5 6
 have dA:=bD.new_ bF
 have hne43:a5 ≠ bg:=by have h1:=bD.lt; have h2:=bI; omega
 have fj:=Nat.le_trans a7.size bI
 refine sS9 de bo bi fun ex dC bj dB=>?_
 have dE:=dy.fr bi bj
 have dF:=dz.fr bi bj
 have dG:=dB hne43 dA
 have dH:=dx.tR bj
 refine sP dd bG dw fun ey bJ dI ae df=>?_
 have⟨ez,eA,fT⟩:=ae.q3 ev ew bo
 have⟨fU,eB⟩:=ae.q2 dd de
 refine dq _ _ <| wk fun fV dJ=>?_
 refine wb<| wk fun fW dK=>?_
 refine wA tr3 [] 50 [ve (iv ((numericV v).2)),ve (.bool (!decide (((numericV v).2)=0))),ve (.bool (!decide (((numericV v).2)=0)))] bJ ?_ ?_
 exact .M df<| .b 0 (r_neq rfl)<| .B 1 .nil
 refine aftI bJ dI dH fun fX fY a8 bK bL a9 aU=>?_
 have⟨bM,dg,eC,eD⟩:=aU.f4 ez eA eB df
 have dh:=aU.g 2 13
 have⟨bN,dL,dM,dN⟩:=nw4 a9 dG dC dE dF
 refine dK _ _ ?_
 rcases bc ((!decide (((numericV v).2)=0))) with ac|ac
 have dO:=hB dh ac
 have aF:(decide (((numericV v).2)=0))=false:=nF ac
 have e5:=oF aF
 refine wt dO<| wk fun fZ dP=>?_
 refine wB [true,true,false,false] [1] [(2,false),(3,true)] 50 [ve (vv (Vl.mk 0 0 0 false [] [] 0) none 0 none 0),ve (iv ((numericV v).2)),vt,vt] [] a8 ?_ ?_ ?_
 refine .Z ?_
 refine .o3 ?_
 exact .off<| .off .nil
 refine eg1 ?_
 exact eager_take rfl rfl fun _ w hn k=>⟨iv ((numericV v).2),fun w=>v_move rfl (k.fx 7 eD),rfl⟩
 refine aftI a8 bK bL fun di f0 bO dQ dR dS bk=>?_
 have dj:=bk.f1 dg
 have dk:=bk.g 0 16
 have dl:=bk.g 1 17
 have dT:=bN.new_ dS
 refine sS9 dj dk dT fun dU ci ch e6=>?_
 have cl:=dR.tR ch
 refine sP dl bO dQ fun dV e7 cm af dX=>?_
 have⟨dW,fl,fm⟩:=af.q3 dj dk dl
 refine dP _ _<| wp_ret (ret_k cm (res9 dW dX ci) ?_)
 exact rV (by first|rfl|(simp only [stepV,numV,Vl.z,ac,aF,good_canon (z:=y) (by omega),bsm] <;> rfl)|(exfalso; omega)) cl
 have cn:=hB dh ac
 have aa:(decide (((numericV v).2)=0))=true:=nT ac
 have eE:=oT aa
 refine wf cn<| wk fun fn co=>?_
 refine wA tr7 [] 50 [ve (iv y),ve (.bool (!decide (y=1))),ve (.bool (!decide (y=1))),ve (gq (!decide (y=1)) (iv y)),ve (gq (!decide (y=1)) (.bool (!decide (y = -1)))),ve (.bool ((!decide (y=1)) && (!decide (y = -1)))),ve (.bool ((!decide (y=1)) && (!decide (y = -1))))] a8 ?_ ?_
 exact .M bM<| .b 0 (r_neq rfl)<| .N 1<| .Q (fun k=>g0 (k.eq1 2 21 rfl)) (fun hG p k=>v_move rfl (k.fx 1 bM))<| .Q (fun k=>g0 (k.eq1 2 21 rfl)) (fun hG p k=>v_bin rfl (cT hG (k.eq1 3 22 rfl)) rfl (fun _=>rfl) (r_neq rfl))<| .O 2 4<| .B 5 .nil
 refine aftI a8 bK bL fun fo fp aJ bp bq aK aL=>?_
 have⟨dY,bR,bS⟩:=aL.f3 bM dg eC
 have bT:=aL.g 6 18
 have⟨br,bs,cp,cq⟩:=nw4 aK bN dL dM dN
 refine co _ _ ?_
 rcases bc (((!decide (y=1)) && (!decide (y = -1)))) with ab|ab
 have cr:=hB bT ab
 have ag:(!decide (y=1))=true:=al ab
 have ah:(decide (y=1))=false:=nF ag
 have eF:=oF ah
 have ai:(!decide (y = -1))=true:=ar ab
 have aj:(decide (y = -1))=false:=nF ai
 have eG:=oF aj
 refine wt cr<| wk fun fq ct=>?_
 refine wA [true,false,false] [(1,false),(2,true)] 50 [ve (vv (Vl.mk 0 0 0 false [] [] 0) none 0 none 0),vt,vt] aJ ?_ ?_
 exact .Z<| .off<| .off .nil
 refine aftI aJ bp bq fun bU fs bt cu cw cx bu=>?_
 have bV:=bu.f1 bR
 have bW:=bu.g 0 25
 have cy:=br.new_ cx
 refine sS9 bV bW cy fun dZ cA cz e8=>?_
 have cC:=cw.tR cz
 refine sP (v:=iv 3) rfl bt cu fun d0 e9 cD au d2=>?_
 have⟨d1,fu⟩:=au.q2 bV bW
 refine ct _ _<| wp_ret (ret_k cD (res9 d1 d2 cA) ?_)
 exact rV (by first|rfl|(simp only [stepV,numV,Vl.z,ac,aa,ab,ag,ah,ai,aj,good_canon (z:=y) (by omega),bsm] <;> rfl)|(exfalso; omega)) cC
 have cE:=hB bT ab
 refine wf cE<| wk fun fv cF=>?_
 refine wA tr4 [] 50 [ve (pv bg),ve (iv ((numericV v).1.k)),ve (.bool (decide (((numericV v).1.k)=4))),ve (.bool (decide (((numericV v).1.k)=4)))] aJ ?_ ?_
 exact .F bS<| .J 0 isAgg3 bs<| .b 1 (r_eql rfl)<| .B 2 .nil
 refine aftI aJ bp bq fun fw fy aM bv bw aN aO=>?_
 have⟨bZ,b0,b1⟩:=aO.f3 dY bR bS
 have b2:=aO.g 3 26
 have⟨bx,bz,cG,fa⟩:=nw4 aN br bs cp cq
 refine cF _ _ ?_
 rcases bc (decide (((numericV v).1.k)=4)) with ad|ad
 have b3:=oT ad
 have cH:=hB b2 ad
 refine wt cH<| wk fun fz cI=>?_
 refine wp_g0 [true,true,true,true,true,true,true,true,true,true,false,false] [(10,false),(11,true)] 50
  [ve (.pointer (some ⟨bg,3,none⟩)),ve (.agg #[.bool ((numericV v).1.neg),sv a6 ((numericV v).1.mag) aT]),ve (iv y),(fun (v_:Value) (W:World)=>∃ (aV:Option Addr) (aW:Nat),v_=.agg #[.bool (decide (y < 0)),sv aV (canon (y).natAbs) aW]∧SRow W .u32 aV (canon (y).natAbs) aW),(fun (v_:Value) (W:World)=>∃ (az:Option Addr) (aA:Nat),v_=.tuple #[.agg #[.bool (decide ((capI (goodI ((numericV v).1.neg) ((numericV v).1.mag) + goodI (decide (y < 0)) (canon (y).natAbs))) < 0)),sv az (canon ((capI (goodI ((numericV v).1.neg) ((numericV v).1.mag) + goodI (decide (y < 0)) (canon (y).natAbs)))).natAbs) aA],.bool (okI (goodI ((numericV v).1.neg) ((numericV v).1.mag) + goodI (decide (y < 0)) (canon (y).natAbs)))]∧SRow W .u32 az (canon ((capI (goodI ((numericV v).1.neg) ((numericV v).1.mag) + goodI (decide (y < 0)) (canon (y).natAbs)))).natAbs) aA),(fun (v_:Value) (W:World)=>∃ (aX:Option Addr) (aY:Nat),v_=.agg #[.bool (decide ((capI (goodI ((numericV v).1.neg) ((numericV v).1.mag) + goodI (decide (y < 0)) (canon (y).natAbs))) < 0)),sv aX (canon ((capI (goodI ((numericV v).1.neg) ((numericV v).1.mag) + goodI (decide (y < 0)) (canon (y).natAbs)))).natAbs) aY]∧SRow W .u32 aX (canon ((capI (goodI ((numericV v).1.neg) ((numericV v).1.mag) + goodI (decide (y < 0)) (canon (y).natAbs)))).natAbs) aY),ve (.bool (okI (goodI ((numericV v).1.neg) ((numericV v).1.mag) + goodI (decide (y < 0)) (canon (y).natAbs)))),(TP (biggedV (decide ((capI (goodI ((numericV v).1.neg) ((numericV v).1.mag) + goodI (decide (y < 0)) (canon (y).natAbs))) < 0)) (canon ((capI (goodI ((numericV v).1.neg) ((numericV v).1.mag) + goodI (decide (y < 0)) (canon (y).natAbs)))).natAbs) (okI (goodI ((numericV v).1.neg) ((numericV v).1.mag) + goodI (decide (y < 0)) (canon (y).natAbs)))).1 ((biggedV (decide ((capI (goodI ((numericV v).1.neg) ((numericV v).1.mag) + goodI (decide (y < 0)) (canon (y).natAbs))) < 0)) (canon ((capI (goodI ((numericV v).1.neg) ((numericV v).1.mag) + goodI (decide (y < 0)) (canon (y).natAbs)))).natAbs) (okI (goodI ((numericV v).1.neg) ((numericV v).1.mag) + goodI (decide (y < 0)) (canon (y).natAbs)))).2)),(fun (v_:Value) (W:World)=>∃ (aZ:Option Addr) (a1:Nat) (a3:Option Addr) (a4:Nat),v_=vv (biggedV (decide ((capI (goodI ((numericV v).1.neg) ((numericV v).1.mag) + goodI (decide (y < 0)) (canon (y).natAbs))) < 0)) (canon ((capI (goodI ((numericV v).1.neg) ((numericV v).1.mag) + goodI (decide (y < 0)) (canon (y).natAbs)))).natAbs) (okI (goodI ((numericV v).1.neg) ((numericV v).1.mag) + goodI (decide (y < 0)) (canon (y).natAbs)))).1 aZ a1 a3 a4∧SRow W .u32 aZ ((biggedV (decide ((capI (goodI ((numericV v).1.neg) ((numericV v).1.mag) + goodI (decide (y < 0)) (canon (y).natAbs))) < 0)) (canon ((capI (goodI ((numericV v).1.neg) ((numericV v).1.mag) + goodI (decide (y < 0)) (canon (y).natAbs)))).natAbs) (okI (goodI ((numericV v).1.neg) ((numericV v).1.mag) + goodI (decide (y < 0)) (canon (y).natAbs)))).1.mag) a1∧SRow W .u16 a3 ((biggedV (decide ((capI (goodI ((numericV v).1.neg) ((numericV v).1.mag) + goodI (decide (y < 0)) (canon (y).natAbs))) < 0)) (canon ((capI (goodI ((numericV v).1.neg) ((numericV v).1.mag) + goodI (decide (y < 0)) (canon (y).natAbs)))).natAbs) (okI (goodI ((numericV v).1.neg) ((numericV v).1.mag) + goodI (decide (y < 0)) (canon (y).natAbs)))).1.s) a4),ve (iv ((biggedV (decide ((capI (goodI ((numericV v).1.neg) ((numericV v).1.mag) + goodI (decide (y < 0)) (canon (y).natAbs))) < 0)) (canon ((capI (goodI ((numericV v).1.neg) ((numericV v).1.mag) + goodI (decide (y < 0)) (canon (y).natAbs)))).natAbs) (okI (goodI ((numericV v).1.neg) ((numericV v).1.mag) + goodI (decide (y < 0)) (canon (y).natAbs)))).2)),vt,vt] aM (.eq (.eq (.eq (.cons (fun _ _ _ n ⟨_,_,e,h⟩=>⟨_,_,e,h.new_ n⟩) (.cons (fun _ _ _ n ⟨_,_,e,h⟩=>⟨_,_,e,h.new_ n⟩) (.cons (fun _ _ _ n ⟨_,_,e,h⟩=>⟨_,_,e,h.new_ n⟩) (.eq (.cons (fun _ _ _ n ⟨_,_,_,_,e,h,i⟩=>⟨_,_,_,_,e,h.new_ n,i.new_ n⟩) (.cons (fun _ _ _ n ⟨_,_,_,_,e,h,i⟩=>⟨_,_,_,_,e,h.new_ n,i.new_ n⟩) (.eq (.tt (.tt .nil)))))))))))) ?_ ?_
 refine .F b1<| .K6 0 bz<| .M bZ ?_
 refine .o1 (tkC rfl (noG rfl) rfl fun _ w hn k=>(by
  refine ⟨#[iv y],_,args1 (k.eq1 2 32 rfl),fun w=>by kernel_rfl,bOf_c y _ (by omega) (by omega),?_⟩
  rintro e w' ⟨eH,eI,rfl,hmo0,hm⟩
  exact⟨_,rfl,hm,⟨eH,eI,rfl,hmo0⟩⟩)) ?_
 refine .o1 (tkC rfl (noG rfl) rfl fun _ w hn k=>(by
  obtain⟨eJ,eK,eL,d3⟩:=k.G 3 33
  refine ⟨#[.agg #[.bool ((numericV v).1.neg),sv a6 ((numericV v).1.mag) aT],.agg #[.bool (decide (y < 0)),sv eJ (canon (y).natAbs) eK]],_,args2 (k.eq1 1 31 rfl) eL,fun w=>by kernel_rfl,bAdd_c ((numericV v).1.neg) _ ((numericV v).1.mag) _ (decide (y < 0)) _ (canon (y).natAbs) _ _ (cG.new_ hn) d3 (VOk.numeric hvv).limbs (limbs_canon _),?_⟩
  rintro e w' ⟨eM,eN,rfl,hmo0,hm⟩
  exact⟨_,rfl,hm,⟨eM,eN,rfl,hmo0⟩⟩)) ?_
 refine .o1 (tk rfl rfl fun _ w hn k=>(by
  obtain⟨eO,eP,eQ,d4⟩:=k.G 4 34
  exact⟨_,v_extract rfl eQ rfl,⟨eO,eP,rfl,d4⟩⟩)) ?_
 refine .o1 (tk rfl rfl fun _ w hn k=>(by
  obtain⟨f1,f2,eR,fA⟩:=k.G 4 34
  exact⟨_,v_extract rfl eR rfl,rfl⟩)) ?_
 refine .o1 (tkC rfl (noG rfl) rfl fun _ w hn k=>(by
  obtain⟨eS,eT,eU,d5⟩:=k.G 5 35
  refine ⟨#[.agg #[.bool (decide ((capI (goodI ((numericV v).1.neg) ((numericV v).1.mag) + goodI (decide (y < 0)) (canon (y).natAbs))) < 0)),sv eS (canon ((capI (goodI ((numericV v).1.neg) ((numericV v).1.mag) + goodI (decide (y < 0)) (canon (y).natAbs)))).natAbs) eT],.bool (okI (goodI ((numericV v).1.neg) ((numericV v).1.mag) + goodI (decide (y < 0)) (canon (y).natAbs)))],_,args2 eU (k.eq1 6 36 rfl),fun w=>by kernel_rfl,bigged_c (decide ((capI (goodI ((numericV v).1.neg) ((numericV v).1.mag) + goodI (decide (y < 0)) (canon (y).natAbs))) < 0)) _ (canon ((capI (goodI ((numericV v).1.neg) ((numericV v).1.mag) + goodI (decide (y < 0)) (canon (y).natAbs)))).natAbs) _ (okI (goodI ((numericV v).1.neg) ((numericV v).1.mag) + goodI (decide (y < 0)) (canon (y).natAbs))) _ d5,?_⟩
  rintro e w' ⟨eV,eW,eX,eY,rfl,hmo0,hmo1,hm⟩
  exact⟨_,rfl,hm,⟨eV,eW,eX,eY,rfl,hmo0,hmo1⟩⟩)) ?_
 refine .o1 (tk rfl rfl fun _ w hn k=>(by
  obtain⟨eZ,e0,e1,e2,e3,d6,d7⟩:=k.G 7 37
  exact⟨_,v_extract rfl e3 rfl,⟨eZ,e0,e1,e2,rfl,d6,d7⟩⟩)) ?_
 refine .o1 (tk rfl rfl fun _ w hn k=>(by
  obtain⟨f3,f4,f5,f6,e4,fB,fC⟩:=k.G 7 37
  exact⟨_,v_extract rfl e4 rfl,rfl⟩)) ?_
 exact .off<| .off .nil
 refine aftI aM bv bw fun bl fD bA cJ cK cL ba=>?_
 have b4:=ba.f1 b0
 obtain⟨aG,ak,aH,am,bb,cM,cN⟩:=ba.G 8 38
 have bb:bl.eval (.tmp 38)=vv (biggedV (decide ((capI (goodI ((numericV v).1.neg) ((numericV v).1.mag) + goodI (decide (y < 0)) (canon (y).natAbs))) < 0)) (canon ((capI (goodI ((numericV v).1.neg) ((numericV v).1.mag) + goodI (decide (y < 0)) (canon (y).natAbs)))).natAbs) (okI (goodI ((numericV v).1.neg) ((numericV v).1.mag) + goodI (decide (y < 0)) (canon (y).natAbs)))).1 aG ak aH am:=bb
 have b5:=ba.g 9 39
 have bd:=bx.new_ cL
 refine sS9 b4 bb bd fun d8 cO be fb=>?_
 have cQ:=cM.fr bd be
 have cR:=cN.fr bd be
 have cS:=cK.tR be
 refine sP b5 bA cJ fun d9 fc cU an eb=>?_
 have⟨ea,fF,fG⟩:=an.q3 b4 bb b5
 refine cI _ _<| wp_ret (ret_k cU (v:=.tuple #[vv (biggedV (decide ((capI (goodI ((numericV v).1.neg) ((numericV v).1.mag) + goodI (decide (y < 0)) (canon (y).natAbs))) < 0)) (canon ((capI (goodI ((numericV v).1.neg) ((numericV v).1.mag) + goodI (decide (y < 0)) (canon (y).natAbs)))).natAbs) (okI (goodI ((numericV v).1.neg) ((numericV v).1.mag) + goodI (decide (y < 0)) (canon (y).natAbs)))).1 aG ak aH am,iv ((biggedV (decide ((capI (goodI ((numericV v).1.neg) ((numericV v).1.mag) + goodI (decide (y < 0)) (canon (y).natAbs))) < 0)) (canon ((capI (goodI ((numericV v).1.neg) ((numericV v).1.mag) + goodI (decide (y < 0)) (canon (y).natAbs)))).natAbs) (okI (goodI ((numericV v).1.neg) ((numericV v).1.mag) + goodI (decide (y < 0)) (canon (y).natAbs)))).2)]) (res_ct rfl ea eb (l_agg isAgg29 sizeOf29 cO rfl)) ?_)
 have aq:(stepV v y).1.mag=(biggedV (decide ((capI (goodI ((numericV v).1.neg) ((numericV v).1.mag) + goodI (decide (y < 0)) (canon (y).natAbs))) < 0)) (canon ((capI (goodI ((numericV v).1.neg) ((numericV v).1.mag) + goodI (decide (y < 0)) (canon (y).natAbs)))).natAbs) (okI (goodI ((numericV v).1.neg) ((numericV v).1.mag) + goodI (decide (y < 0)) (canon (y).natAbs)))).1.mag:=by first|rfl|(simp only [stepV,numV,Vl.z,ac,aa,aa,ab,ad,good_canon (z:=y) (by omega),bsm] <;> rfl)|(exfalso; omega)
 have ap:(stepV v y).1.s=(biggedV (decide ((capI (goodI ((numericV v).1.neg) ((numericV v).1.mag) + goodI (decide (y < 0)) (canon (y).natAbs))) < 0)) (canon ((capI (goodI ((numericV v).1.neg) ((numericV v).1.mag) + goodI (decide (y < 0)) (canon (y).natAbs)))).natAbs) (okI (goodI ((numericV v).1.neg) ((numericV v).1.mag) + goodI (decide (y < 0)) (canon (y).natAbs)))).1.s:=by first|rfl|(simp only [stepV,numV,Vl.z,ac,aa,aa,ab,ad,good_canon (z:=y) (by omega),bsm] <;> rfl)|(exfalso; omega)
 exact⟨aG,ak,aH,am,(by show Ending.returned (.tuple #[vv (biggedV (decide ((capI (goodI ((numericV v).1.neg) ((numericV v).1.mag) + goodI (decide (y < 0)) (canon (y).natAbs))) < 0)) (canon ((capI (goodI ((numericV v).1.neg) ((numericV v).1.mag) + goodI (decide (y < 0)) (canon (y).natAbs)))).natAbs) (okI (goodI ((numericV v).1.neg) ((numericV v).1.mag) + goodI (decide (y < 0)) (canon (y).natAbs)))).1 aG ak aH am,iv ((biggedV (decide ((capI (goodI ((numericV v).1.neg) ((numericV v).1.mag) + goodI (decide (y < 0)) (canon (y).natAbs))) < 0)) (canon ((capI (goodI ((numericV v).1.neg) ((numericV v).1.mag) + goodI (decide (y < 0)) (canon (y).natAbs)))).natAbs) (okI (goodI ((numericV v).1.neg) ((numericV v).1.mag) + goodI (decide (y < 0)) (canon (y).natAbs)))).2)])=Ending.returned (.tuple #[vv (stepV v y).1 aG ak aH am,iv ((stepV v y).2)]); (first|rfl|(simp only [stepV,numV,Vl.z,ac,aa,aa,ab,ad,aq,ap,good_canon (z:=y) (by omega),bsm] <;> rfl)|(exfalso; omega))),(by rw [aq]; exact cQ),(by rw [ap]; exact cR),cS⟩
 have b3:=oF ad
 have cV:=hB b2 ad
 refine wf cV<| ws<| dJ _ _<| wk fun fH cW=>?_
 refine wA [true,true,true,true,true,true,true,true,true,true,false,false] [(10,false),(11,true)] 50 [ve (.pointer (some ⟨bg,1,none⟩)),ve (nv (Nm.mk ((numericV v).1.nk) ((numericV v).1.nn))),ve (iv y),ve (nv (Nm.mk 0 y)),ve (.tuple #[nv ((addM (Nm.mk ((numericV v).1.nk) ((numericV v).1.nn)) (Nm.mk 0 y)).1),.bool ((addM (Nm.mk ((numericV v).1.nk) ((numericV v).1.nn)) (Nm.mk 0 y)).2)]),ve (nv ((addM (Nm.mk ((numericV v).1.nk) ((numericV v).1.nn)) (Nm.mk 0 y)).1)),ve (.bool ((addM (Nm.mk ((numericV v).1.nk) ((numericV v).1.nn)) (Nm.mk 0 y)).2)),ve (.tuple #[vv (Vl.mk (numberedV ((addM (Nm.mk ((numericV v).1.nk) ((numericV v).1.nn)) (Nm.mk 0 y)).1) ((addM (Nm.mk ((numericV v).1.nk) ((numericV v).1.nn)) (Nm.mk 0 y)).2)).1 (numberedV ((addM (Nm.mk ((numericV v).1.nk) ((numericV v).1.nn)) (Nm.mk 0 y)).1) ((addM (Nm.mk ((numericV v).1.nk) ((numericV v).1.nn)) (Nm.mk 0 y)).2)).2.1.k (numberedV ((addM (Nm.mk ((numericV v).1.nk) ((numericV v).1.nn)) (Nm.mk 0 y)).1) ((addM (Nm.mk ((numericV v).1.nk) ((numericV v).1.nn)) (Nm.mk 0 y)).2)).2.1.n false [] [] 0) none 0 none 0,iv ((numberedV ((addM (Nm.mk ((numericV v).1.nk) ((numericV v).1.nn)) (Nm.mk 0 y)).1) ((addM (Nm.mk ((numericV v).1.nk) ((numericV v).1.nn)) (Nm.mk 0 y)).2)).2.2)]),ve (vv (Vl.mk (numberedV ((addM (Nm.mk ((numericV v).1.nk) ((numericV v).1.nn)) (Nm.mk 0 y)).1) ((addM (Nm.mk ((numericV v).1.nk) ((numericV v).1.nn)) (Nm.mk 0 y)).2)).1 (numberedV ((addM (Nm.mk ((numericV v).1.nk) ((numericV v).1.nn)) (Nm.mk 0 y)).1) ((addM (Nm.mk ((numericV v).1.nk) ((numericV v).1.nn)) (Nm.mk 0 y)).2)).2.1.k (numberedV ((addM (Nm.mk ((numericV v).1.nk) ((numericV v).1.nn)) (Nm.mk 0 y)).1) ((addM (Nm.mk ((numericV v).1.nk) ((numericV v).1.nn)) (Nm.mk 0 y)).2)).2.1.n false [] [] 0) none 0 none 0),ve (iv ((numberedV ((addM (Nm.mk ((numericV v).1.nk) ((numericV v).1.nn)) (Nm.mk 0 y)).1) ((addM (Nm.mk ((numericV v).1.nk) ((numericV v).1.nn)) (Nm.mk 0 y)).2)).2.2)),vt,vt] aM ?_ ?_
 exact .F b1<| .K2 0 bz<| .M bZ<| .T (fun k=>v_build (ps:=[(1,iv y)]) rfl (parts1 (k.eq1 2 42 rfl)) (by kernel_rfl))<| .C2 1 3 (fun p=>nadd_c (Nm.mk ((numericV v).1.nk) ((numericV v).1.nn)) (Nm.mk 0 y) _)<| .E 4<| .E 4<| .C2 5 6 (fun p=>numbered_c ((addM (Nm.mk ((numericV v).1.nk) ((numericV v).1.nn)) (Nm.mk 0 y)).1) ((addM (Nm.mk ((numericV v).1.nk) ((numericV v).1.nn)) (Nm.mk 0 y)).2) _)<| .E 7<| .E 7<| .off<| .off .nil
 refine aftI aM bv bw fun b8 fI bB cX cY cZ bf=>?_
 have b9:=bf.f1 b0
 have ca:=bf.g 8 48
 have cb:=bf.g 9 49
 have c0:=bx.new_ cZ
 refine sS9 b9 ca c0 fun ec c3 c1 fd=>?_
 have c9:=cY.tR c1
 refine sP cb bB cX fun ed fe da ao ef=>?_
 have⟨ee,fK,fL⟩:=ao.q3 b9 ca cb
 refine cW _ _<| wp_ret (ret_k da (res9 ee ef c3) ?_)
 exact rV (by first|rfl|(simp only [stepV,numV,Vl.z,ac,aa,ab,ad,good_canon (z:=y) (by omega),bsm] <;> rfl)|(exfalso; omega)) c9
theorem neg_made {a:Bool} {m:List Nat} (hl:Limbs m):sgn (!(mayB a m && a)) (val (canon (goodI a m).natAbs)) = -(goodI a m):=by
  rw [← neg_good hl,val_canon]
  generalize goodI a m=z
  by_cases h:z < 0
  · rw [decide_eq_true h]; simp [sgn]; omega
  · rw [decide_eq_false h]; simp [sgn]; omega
def bNeg_c_P (a:Bool) (Aa:Option Addr) (ma:List Nat) (ca:Nat) (w:World) (en:Ending) (w':World):Prop:=∃ (Ar0:Option Addr) (cr0:Nat),en=.returned (.agg #[.bool (decide (-(goodI a ma) < 0)),sv Ar0 (canon (-(goodI a ma)).natAbs) cr0])∧SRow w' .u32 Ar0 (canon (-(goodI a ma)).natAbs) cr0∧New w w'
theorem bNeg_c (a:Bool) (Aa:Option Addr) (ma:List Nat) (ca:Nat) (w:World) (hra:SRow w .u32 Aa ma ca) (ha:Limbs ma) (hs:ma.length≤1000000):Calls prog 43 #[.agg #[.bool a,sv Aa ma ca]] w (bNeg_c_P a Aa ma ca w):=by
 refine enter_abs func43 rfl fun a0 af aF hp=>?_
 have af:a0.tmps.size=9:=af
 have ag:New w w:=Upd.refl _ _
 have hp0:a0.eval (.tmp 0)=.agg #[.bool a,sv Aa ma ca]:=hp 0 _ rfl
 refine wk fun K1 aG=>?_
 refine wB tr2 [] [] 9 [IsNew w 26 [.bool a,sv Aa ma ca],IsNew w 26 [.bool false,sv none ([]) 0]] [0,1] af ?_ heN ?_
 exact .X hp0<| .Y .nil
 refine aftI af aF ag fun a2 w3 ao aH ae aQ ah=>?_
 obtain⟨q9,h8,ar,ai⟩:=ah.G 0 1
 obtain⟨aI,ap,au,av⟩:=ah.G 1 2
 have hne16:=ah.ne 0 1 1 2 h8 ap
 have aM:=Nat.le_trans ag.size ar
 have aN:=Nat.le_trans ag.size au
 refine aG _ _ <| wk fun aR aw=>?_
 refine wp_g0 [true,true,true,true,true,true,false] [(6,false)] 9
  [ve (.agg #[.bool a,sv Aa ma ca]),
  (OP w3.heap.size 56 .u32 (canon (goodI a ma).natAbs)),ve (.agg #[.bool a,sv Aa ma ca]),ve (.bool (mayB a ma && a)),ve (.bool (!(mayB a ma && a))),(fun (v_:Value) (W:World)=>∃ (ab:Option Addr) (ac:Nat),v_=.agg #[.bool (decide (sgn (!(mayB a ma && a)) (val (canon (goodI a ma).natAbs)) < 0)),sv ab (canon (sgn (!(mayB a ma && a)) (val (canon (goodI a ma).natAbs))).natAbs) ac]∧SRow W .u32 ab (canon (sgn (!(mayB a ma && a)) (val (canon (goodI a ma).natAbs))).natAbs) ac),vt] ao (.eq (.cons (fun _ _ _ n ⟨_,_,e,h⟩=>⟨_,_,e,h.new_ n⟩) (.eq (.eq (.eq (.cons (fun _ _ _ n ⟨_,_,e,h⟩=>⟨_,_,e,h.new_ n⟩) (.tt .nil))))))) ?_ ?_
 refine .L6 h8 ai ?_
 refine .o1 (tkC rfl (noG rfl) rfl fun _ w hn k=>(by
  refine ⟨#[.agg #[.bool a,sv Aa ma ca]],_,args1 (k.eq1 0 3 rfl),fun w=>by kernel_rfl,bmag_c a _ ma _ _ (hra.new_ (ae.transNew hn)) ha (by first|omega|(simp only [List.length_nil,List.length_take,List.length_drop]; omega)|(simp only [List.length_cons,List.length_nil]; omega)),?_⟩
  rintro e w' ⟨A1,c2,rfl,hmo0,hm⟩
  exact⟨_,rfl,hm,⟨A1,c2,rfl,(hmo0.more hn.size)⟩⟩)) ?_
 refine .L6 h8 ai<| .C 2 (fun m=>bneg_c a _ ma _ _ (hra.new_ (ae.transNew m)))<| .T (fun k=>v_not rfl (k.eq1 3 6 rfl)) ?_
 refine .o1 (tkC rfl (noG rfl) rfl fun _ w hn k=>(by
  obtain⟨A5,c6,e7,aJ⟩:=k.G 1 4
  refine ⟨#[sv A5 (canon (goodI a ma).natAbs) c6,.bool (!(mayB a ma && a))],_,args2 e7 (k.eq1 4 7 rfl),fun w=>by kernel_rfl,bmade_c _ (canon (goodI a ma).natAbs) _ (!(mayB a ma && a)) _ aJ.row (limbs_canon _),?_⟩
  rintro e w' ⟨A9,aK,rfl,hmo0,hm⟩
  exact⟨_,rfl,hm,⟨A9,aK,rfl,hmo0⟩⟩)) ?_
 exact .off .nil
 refine aftI ao aH ae fun aL aS aO ax ay az aj=>?_
 have aq:=aj.f1 ap
 obtain⟨ad,aa,ak,aA⟩:=aj.G 5 8
 have ak:aL.eval (.tmp 8)=.agg #[.bool (decide (sgn (!(mayB a ma && a)) (val (canon (goodI a ma).natAbs)) < 0)),sv ad (canon (sgn (!(mayB a ma && a)) (val (canon (goodI a ma).natAbs))).natAbs) aa]:=ak
 have al:=av.new_ az
 refine sS6 aq ak al fun aT aB am aP=>?_
 have aD:=aA.fr al am
 have aE:=ay.tR am
 refine aw _ _<| wp_ret (ret_k ax (v:=.agg #[.bool (decide (sgn (!(mayB a ma && a)) (val (canon (goodI a ma).natAbs)) < 0)),sv ad (canon (sgn (!(mayB a ma && a)) (val (canon (goodI a ma).natAbs))).natAbs) aa]) (res_c rfl aq (l_two isAgg26 sizeOf26 aB)) ?_)
 have hz1:sgn (!(mayB a ma && a)) (val (canon (goodI a ma).natAbs)) = -(goodI a ma):=neg_made ha
 exact⟨ad,aa,congrArg (fun z:Int=>Ending.returned (Value.agg #[.bool (decide (z < 0)),sv ad (canon z.natAbs) aa])) hz1,Eq.mp (congrArg (fun z:Int=>SRow _ .u32 ad (canon z.natAbs) aa) hz1) aD,aE⟩
def ofN (t:Int × Nm × Int):Vl × Int:=(⟨t.1,t.2.1.k,t.2.1.n,false,[],[],0⟩,t.2.2)
def truthG (t:Bool):Vl × Int:=(⟨2,0,0,false,[],[],truthR t⟩,0)
def unN (o:ByteArray) (v:Vl):Vl × Int :=
  if decide ((numericV v).2=0) then
    (if strEq o ⟨#[45]⟩ && decide ((numericV v).1.k=4) then (⟨4,0,0,decide (-(goodI (numericV v).1.neg (numericV v).1.mag) < 0),canon (-(goodI (numericV v).1.neg (numericV v).1.mag)).natAbs,[],0⟩,0)
     else if strEq o ⟨#[45]⟩ then ofN (3,negM (numericV v).1.num,0)
     else if decide ((numericV v).1.k=4) then (Vl.z,3)
     else ofN (3,bitM 3 (numericV v).1.num ⟨0,-1⟩,0))
  else (Vl.z,(numericV v).2)
def unT (o:ByteArray):Bool:=strEq o ⟨#[45]⟩ || strEq o ⟨#[126]⟩
def unG (o:ByteArray) (v:Vl):Vl × Int :=
  if strEq o ⟨#[33]⟩ then truthG (!boolV v)
  else if strEq o ⟨#[118,111,105,100]⟩ then (Vl.z,0)
  else if strEq o ⟨#[43]⟩ then (if decide ((numberV v).2=0) then ofN (3,(numberV v).1,0) else (Vl.z,(numberV v).2))
  else if unT o then unN o v
  else (Vl.z,3)

def unG_c_P (o:ByteArray) (v:Vl) (Av:Option Addr) (cv:Nat) (Bv:Option Addr) (dv:Nat) (w:World) (en:Ending) (w':World):Prop:=∃ (Ar0:Option Addr) (cr0:Nat) (Ar1:Option Addr) (cr1:Nat),en=.returned (.tuple #[vv (unG o v).1 Ar0 cr0 Ar1 cr1,iv ((unG o v).2)])∧SRow w' .u32 Ar0 ((unG o v).1.mag) cr0∧SRow w' .u16 Ar1 ((unG o v).1.s) cr1∧New w w'
theorem unG_c (o:ByteArray) (v:Vl) (Av:Option Addr) (cv:Nat) (Bv:Option Addr) (dv:Nat) (w:World) (hmv:SRow w .u32 Av v.mag cv) (hsv:SRow w .u16 Bv v.s dv) (hvv:VOk v):Calls prog 13 #[.string o,vv v Av cv Bv dv] w (unG_c_P o v Av cv Bv dv w):=by
 refine enter_abs func13 rfl fun a0 bM jC hp=>?_
 have bM:a0.tmps.size=76:=bM
 have c3:New w w:=Upd.refl _ _
 have hp0:a0.eval (.tmp 0)=.string o:=hp 0 _ rfl
 have hp1:a0.eval (.tmp 1)=vv v Av cv Bv dv:=hp 1 _ rfl
 refine wk fun K1 jD=>?_
 refine wB tr3 [] [] 76 [IsNew w 29 (c7 v Av cv Bv dv),IsNew w 29 z7,ve (iv 0)] [0,1] bM ?_ heN ?_
 exact .X hp1<| .Y<| .c .nil
 refine aftI bM jC c3 fun a2 w3 hN jE hW l6 bN=>?_
 have h8:=bN.f1 hp0
 obtain⟨c5,h9,hX,hY⟩:=bN.G 0 3
 obtain⟨an,hO,hZ,h3⟩:=bN.G 1 4
 have hne17:=bN.ne 0 1 3 4 h9 hO
 have ky:=Nat.le_trans c3.size hX
 have kz:=Nat.le_trans c3.size hZ
 refine jD _ _ ?_
 refine wp_seq_j (fun (aa:Act) (ww:World)=>aa.tmps.size=76∧aa.defers=[]∧New w ww∧aa.eval (.tmp 0)=.string o∧aa.eval (.tmp 3)=pv c5∧aa.eval (.tmp 4)=pv an∧Blk ww c5 29 (c7 v Av cv Bv dv)∧Blk ww an 29 z7∧(strEq o ⟨#[33]⟩=false)∧(strEq o ⟨#[118,111,105,100]⟩=false)∧(strEq o ⟨#[43]⟩=false)∧(unT o=true)) ?_ ?_
 rintro l7 jF ⟨c9,h4,br,jG,jH,jI,h5,da,ao,ap,aq,ar⟩
 refine wk fun l8 h6=>?_
 refine wp_gS (fun W=>True) (fun W W' hn h=>trivial) trivial [true,true,true,true,true,true,false,false] [4] [(6,false),(7,true)] 76
  [ve (vv v Av cv Bv dv),(TP (numericV v).1 ((numericV v).2)),(TP (numericV v).1 ((numericV v).2)),(fun (v_:Value) (W:World)=>∃ (bg:Option Addr) (bh:Nat) (bi:Option Addr) (bj:Nat),v_=vv (numericV v).1 bg bh bi bj∧SRow W .u32 bg ((numericV v).1.mag) bh∧SRow W .u16 bi ((numericV v).1.s) bj),ve (iv ((numericV v).2)),IsNew jF 29 z7,vt,vt]
  [5] (newsCons (fun v w h=>IsNew.old h) newsNil) c9 (.eq (.cons (fun _ _ _ n ⟨_,_,_,_,e,h,i⟩=>⟨_,_,_,_,e,h.new_ n,i.new_ n⟩) (.cons (fun _ _ _ n ⟨_,_,_,_,e,h,i⟩=>⟨_,_,_,_,e,h.new_ n,i.new_ n⟩) (.cons (fun _ _ _ n ⟨_,_,_,_,e,h,i⟩=>⟨_,_,_,_,e,h.new_ n,i.new_ n⟩) (.eq (.nw (.tt (.tt .nil)))))))) ?_ ?_ ?_
 refine .L9 jH h5 ?_
 refine .o1 (tkC rfl (noG rfl) rfl fun _ w hn k=>(by
  refine ⟨#[vv v Av cv Bv dv],_,args1 (k.eq1 0 38 rfl),fun w=>by kernel_rfl,cnumeric_c v _ _ _ _ _ (hmv.new_ (br.transNew hn)) (hsv.new_ (br.transNew hn)) hvv,?_⟩
  rintro e w' ⟨A1,c2,A3,c4,rfl,hmo0,hmo1,hm⟩
  exact⟨_,rfl,hm,⟨A1,c2,A3,c4,rfl,hmo0,hmo1⟩⟩)) ?_
 refine .o1 (tk rfl rfl fun _ w hn k=>(by
  obtain⟨A9,jJ,jK,jL,jM,h7,ia⟩:=k.G 1 39
  exact⟨_,v_move rfl jM,⟨A9,jJ,jK,jL,rfl,h7,ia⟩⟩)) ?_
 refine .o1 (tk rfl rfl fun _ w hn k=>(by
  obtain⟨jN,jO,jP,jQ,jR,ib,ic⟩:=k.G 2 37
  exact⟨_,v_extract rfl jR rfl,⟨jN,jO,jP,jQ,rfl,ib,ic⟩⟩)) ?_
 refine .o3 ?_
 exact .Y<| .off<| .off .nil
 refine eg1 ?_
 exact eager_takeG rfl (noG rfl) fun _ w hn k=>(by
  obtain⟨l9,ma,mb,mc,jS,kA,kB⟩:=k.G 2 37
  exact⟨_,fun w hS=>v_extract rfl jS rfl,rfl⟩)
 intro db md _ dc aS
 obtain⟨dd,id,ie⟩:=aft aS c9 h4 br dc
 have⟨jT,jU⟩:=aS.f2 jG jI
 obtain⟨bG,bk,de,bH,bO,ig,ih⟩:=aS.G 3 40
 have bO:db.eval (.tmp 40)=vv (numericV v).1 bG bk de bH:=bO
 have hP:=aS.g 4 41
 obtain⟨bl,hQ,df,bI⟩:=aS.G 5 8
 have ii:=da.new_ dc
 have hne53:an ≠ bl:=by have h1:=da.lt; have h2:=df; omega
 have kC:=Nat.le_trans br.size df
 refine sS9 hQ bO bI fun jV dg bJ ij=>?_
 have dh:=ig.fr bI bJ
 have di:=ih.fr bI bJ
 have dj:=ij hne53 ii
 have dk:=ie.tR bJ
 refine sP hP dd id fun jW bs dl av bP=>?_
 have⟨hR,hT,mf⟩:=av.q3 jT jU bO
 have⟨mg,hU⟩:=av.q2 hP hQ
 refine h6 _ _ <| wk fun mh il=>?_
 refine wb<| wk fun mi dm=>?_
 rcases bc (decide (((numericV v).2)=0)) with ah|ah
 have eW:=oT ah
 refine wA tr3 [] 76 [ve (iv ((numericV v).2)),vF,vF] bs ?_ ?_
 exact .M bP<| .b 0 (r_neq ah)<| .B 1 .nil
 refine aftI bs dl dk fun mj ml bt dn dp bu bm=>?_
 have⟨bQ,hV,dq,mm⟩:=bm.f4 hR hT hU bP
 have jX:=bm.g 2 42
 have⟨dr,bK,ds,dt⟩:=nw4 bu dj dg dh di
 refine dm _ _<| wf jX<| wk fun mn du=>?_
 rcases bc (strEq o ⟨#[45]⟩) with aj|aj
 refine wA tr8 [] 76 [ve (.string o),vT,vT,ve (pv bl),ve (iv ((numericV v).1.k)),ve (.bool (decide (((numericV v).1.k)=4))),ve (.bool (decide (((numericV v).1.k)=4))),ve (.bool (decide (((numericV v).1.k)=4)))] bt ?_ ?_
 exact .M bQ<| .b 0 (r_eqlS aj)<| .N 1<| .gf (fun k=>k.eq1 2 50 rfl) (fun k=>k.fx 8 dq)<| .V (fun p k=>v_load rfl (k.eq1 3 51 rfl) (l_one isAgg3 ((bK.new_ p).cell 0)))<| .V (fun p k=>v_bin rfl (k.eq1 4 52 rfl) rfl (fun _=>rfl) (r_eql rfl))<| .T (fun k=>v_pickT rfl (k.eq1 2 50 rfl) (k.eq1 5 53 rfl))<| .B 6 .nil
 refine aftI bt dn dp fun mo mp aT bR bS aU aV=>?_
 have⟨im,dw,dx⟩:=aV.f3 bQ hV dq
 have dy:=aV.g 7 47
 have⟨bT,bU,bV,eX⟩:=nw4 aU dr bK ds dt
 refine du _ _ ?_
 rcases bc (decide (((numericV v).1.k)=4)) with ak|ak
 have dz:=oT ak
 have eY:=hB dy ak
 refine wt eY<| wk fun kD eZ=>?_
 have hml:=(VOk.numeric hvv).mlen
 refine wp_g0 [true,true,true,true,false,false] [(4,false),(5,true)] 76
  [ve (.pointer (some ⟨bl,3,none⟩)),ve (.agg #[.bool ((numericV v).1.neg),sv bG ((numericV v).1.mag) bk]),(fun (v_:Value) (W:World)=>∃ (bn:Option Addr) (bo:Nat),v_=.agg #[.bool (decide (-(goodI ((numericV v).1.neg) ((numericV v).1.mag)) < 0)),sv bn (canon (-(goodI ((numericV v).1.neg) ((numericV v).1.mag))).natAbs) bo]∧SRow W .u32 bn (canon (-(goodI ((numericV v).1.neg) ((numericV v).1.mag))).natAbs) bo),(fun (v_:Value) (W:World)=>∃ (bp:Option Addr) (bq:Nat),v_=vv (Vl.mk 4 0 0 (decide (-(goodI ((numericV v).1.neg) ((numericV v).1.mag)) < 0)) (canon (-(goodI ((numericV v).1.neg) ((numericV v).1.mag))).natAbs) [] 0) bp bq none 0∧SRow W .u32 bp (canon (-(goodI ((numericV v).1.neg) ((numericV v).1.mag))).natAbs) bq),vt,vt] aT (.eq (.eq (.cons (fun _ _ _ n ⟨_,_,e,h⟩=>⟨_,_,e,h.new_ n⟩) (.cons (fun _ _ _ n ⟨_,_,e,h⟩=>⟨_,_,e,h.new_ n⟩) (.tt (.tt .nil)))))) ?_ ?_
 refine .F dx<| .K6 0 bU ?_
 refine .o1 (tkC rfl (noG rfl) rfl fun _ w hn k=>(by
  refine ⟨#[.agg #[.bool ((numericV v).1.neg),sv bG ((numericV v).1.mag) bk]],_,args1 (k.eq1 1 56 rfl),fun w=>by kernel_rfl,bNeg_c ((numericV v).1.neg) _ ((numericV v).1.mag) _ _ (bV.new_ hn) (VOk.numeric hvv).limbs (by first|omega|(simp only [List.length_nil,List.length_take,List.length_drop]; omega)|(simp only [List.length_cons,List.length_nil]; omega)),?_⟩
  rintro e w' ⟨jY,jZ,rfl,hmo0,hm⟩
  exact⟨_,rfl,hm,⟨jY,jZ,rfl,hmo0⟩⟩)) ?_
 refine .o1 (tkC rfl (noG rfl) rfl fun _ w hn k=>(by
  obtain⟨j0,j1,j2,io⟩:=k.G 2 57
  refine ⟨#[.agg #[.bool (decide (-(goodI ((numericV v).1.neg) ((numericV v).1.mag)) < 0)),sv j0 (canon (-(goodI ((numericV v).1.neg) ((numericV v).1.mag))).natAbs) j1]],_,args1 j2,fun w=>by kernel_rfl,cbig_c (decide (-(goodI ((numericV v).1.neg) ((numericV v).1.mag)) < 0)) _ (canon (-(goodI ((numericV v).1.neg) ((numericV v).1.mag))).natAbs) _ _ io,?_⟩
  rintro e w' ⟨j3,j4,rfl,hmo0,hm⟩
  exact⟨_,rfl,hm,⟨j3,j4,rfl,hmo0⟩⟩)) ?_
 exact .off<| .off .nil
 refine aftI aT bR bS fun bL kE bW e0 e1 e2 bX=>?_
 have dA:=bX.f1 dw
 obtain⟨aL,aw,bv,e3⟩:=bX.G 3 58
 have bv:bL.eval (.tmp 58)=vv (Vl.mk 4 0 0 (decide (-(goodI ((numericV v).1.neg) ((numericV v).1.mag)) < 0)) (canon (-(goodI ((numericV v).1.neg) ((numericV v).1.mag))).natAbs) [] 0) aL aw none 0:=bv
 have bY:=bT.new_ e2
 refine sS9 dA bv bY fun ip e4 bZ j5=>?_
 have e6:=e3.fr bY bZ
 have e7:=e1.tR bZ
 refine sP (v:=iv 0) rfl bW e0 fun iq j6 e8 az it=>?_
 have⟨ir,kG⟩:=az.q2 dA bv
 refine eZ _ _<| wp_ret (ret_k e8 (v:=.tuple #[vv (Vl.mk 4 0 0 (decide (-(goodI ((numericV v).1.neg) ((numericV v).1.mag)) < 0)) (canon (-(goodI ((numericV v).1.neg) ((numericV v).1.mag))).natAbs) [] 0) aL aw none 0,iv 0]) (res_ct rfl ir it (l_agg isAgg29 sizeOf29 e4 rfl)) ?_)
 have af:(unG o v).1.mag=(canon (-(goodI ((numericV v).1.neg) ((numericV v).1.mag))).natAbs):=by first|rfl|(simp only [unG,unN,ofN,truthG,Vl.z,Bool.true_and,Bool.false_and,Bool.and_false,ao,ap,aq,ar,ah,aj,ak,bsm] <;> rfl)|(exfalso; omega)
 have ag:(unG o v).1.s=[]:=by first|rfl|(simp only [unG,unN,ofN,truthG,Vl.z,Bool.true_and,Bool.false_and,Bool.and_false,ao,ap,aq,ar,ah,aj,ak,bsm] <;> rfl)|(exfalso; omega)
 exact⟨aL,aw,none,0,(by show Ending.returned (.tuple #[vv (Vl.mk 4 0 0 (decide (-(goodI ((numericV v).1.neg) ((numericV v).1.mag)) < 0)) (canon (-(goodI ((numericV v).1.neg) ((numericV v).1.mag))).natAbs) [] 0) aL aw none 0,iv 0])=Ending.returned (.tuple #[vv (unG o v).1 aL aw none 0,iv ((unG o v).2)]); (first|rfl|(simp only [unG,unN,ofN,truthG,Vl.z,Bool.true_and,Bool.false_and,Bool.and_false,ao,ap,aq,ar,ah,aj,ak,af,ag,bsm] <;> rfl)|(exfalso; omega))),(by rw [af]; exact e6),(by rw [ag]; exact (SRow.nil _ _)),e7⟩
 have dz:=oF ak
 have e9:=hB dy ak
 refine wf e9<| wk fun kH fa=>?_
 refine wA tr3 [] 76 [ve (.string o),vT,vT] aT ?_ ?_
 exact .M im<| .b 0 (r_eqlS aj)<| .B 1 .nil
 refine aftI aT bR bS fun kI kJ b0 fb fc aW bw=>?_
 have⟨iu,iw⟩:=bw.f2 dw dx
 have ix:=bw.g 2 59
 have⟨fd,fe,j7,j8⟩:=nw4 aW bT bU bV eX
 refine fa _ _<| wt ix<| wk fun kK ff=>?_
 refine wA [true,true,true,true,false,false] [(4,false),(5,true)] 76 [ve (.pointer (some ⟨bl,1,none⟩)),ve (nv (Nm.mk ((numericV v).1.nk) ((numericV v).1.nn))),ve (nv (negM (Nm.mk ((numericV v).1.nk) ((numericV v).1.nn)))),ve (vv (Vl.mk 3 (negM (Nm.mk ((numericV v).1.nk) ((numericV v).1.nn))).k (negM (Nm.mk ((numericV v).1.nk) ((numericV v).1.nn))).n false [] [] 0) none 0 none 0),vt,vt] b0 ?_ ?_
 exact .F iw<| .K2 0 fe<| .C 1 (fun p=>nneg_c (Nm.mk ((numericV v).1.nk) ((numericV v).1.nn)) _)<| .C 2 (fun p=>cnum_c (negM (Nm.mk ((numericV v).1.nk) ((numericV v).1.nn))) _)<| .off<| .off .nil
 refine aftI b0 fb fc fun dD kL b1 fg fh fi b2=>?_
 have dE:=b2.f1 iu
 have dF:=b2.g 3 65
 have fj:=fd.new_ fi
 refine sS9 dE dF fj fun iy fl fk j9=>?_
 have fn:=fh.tR fk
 refine sP (v:=iv 0) rfl b1 fg fun iz ka fo aA iB=>?_
 have⟨iA,kN⟩:=aA.q2 dE dF
 refine ff _ _<| wp_ret (ret_k fo (res9 iA iB fl) ?_)
 exact rV (by first|rfl|(simp only [unG,unN,ofN,truthG,Vl.z,Bool.true_and,Bool.false_and,Bool.and_false,ao,ap,aq,ar,ah,aj,ak,bsm] <;> rfl)|(exfalso; omega)) fn
 refine wA tr8 [] 76 [ve (.string o),vF,vF,vU,vU,vU,vF,vF] bt ?_ ?_
 exact .M bQ<| .b 0 (r_eqlS aj)<| .N 1<| .S<| .S<| .S<| .T (fun k=>v_pickF rfl (k.eq1 2 50 rfl) rfl)<| .B 6 .nil
 refine aftI bt dn dp fun kO kP b3 fp fq aX aY=>?_
 have⟨iC,iD,iE⟩:=aY.f3 bQ hV dq
 have iF:=aY.g 7 47
 have⟨fs,ft,fu,fv⟩:=nw4 aX dr bK ds dt
 refine du _ _<| wf iF<| wk fun kQ fw=>?_
 refine wA tr3 [] 76 [ve (.string o),vF,vF] b3 ?_ ?_
 exact .M iC<| .b 0 (r_eqlS aj)<| .B 1 .nil
 refine aftI b3 fp fq fun kR kS b4 fy fz aZ bx=>?_
 have⟨iG,dI⟩:=bx.f2 iD iE
 have iH:=bx.g 2 59
 have⟨fA,b5,fB,fC⟩:=nw4 aZ fs ft fu fv
 refine fw _ _<| wf iH<| wk fun kT fD=>?_
 refine wA tr4 [] 76 [ve (pv bl),ve (iv ((numericV v).1.k)),ve (.bool (decide (((numericV v).1.k)=4))),ve (.bool (decide (((numericV v).1.k)=4)))] b4 ?_ ?_
 exact .F dI<| .J 0 isAgg3 b5<| .b 1 (r_eql rfl)<| .B 2 .nil
 refine aftI b4 fy fz fun kU kV a1 b6 b7 a3 bz=>?_
 have⟨dJ,iI⟩:=bz.f2 iG dI
 have dK:=bz.g 3 66
 have⟨b8,fE,kb,kc⟩:=nw4 a3 fA b5 fB fC
 refine fD _ _ ?_
 rcases bc (decide (((numericV v).1.k)=4)) with al|al
 have dL:=oT al
 have fF:=hB dK al
 refine wt fF<| wk fun kW fG=>?_
 refine wA [true,false,false] [(1,false),(2,true)] 76 [ve (vv (Vl.mk 0 0 0 false [] [] 0) none 0 none 0),vt,vt] a1 ?_ ?_
 exact .Z<| .off<| .off .nil
 refine aftI a1 b6 b7 fun dM kX b9 fH fI fJ ca=>?_
 have dN:=ca.f1 dJ
 have dO:=ca.g 0 70
 have fK:=b8.new_ fJ
 refine sS9 dN dO fK fun iJ fM fL kd=>?_
 have fO:=fI.tR fL
 refine sP (v:=iv 3) rfl b9 fH fun iK ke fP aB iM=>?_
 have⟨iL,kZ⟩:=aB.q2 dN dO
 refine fG _ _<| wp_ret (ret_k fP (res9 iL iM fM) ?_)
 exact rV (by first|rfl|(simp only [unG,unN,ofN,truthG,Vl.z,Bool.true_and,Bool.false_and,Bool.and_false,ao,ap,aq,ar,ah,aj,al,bsm] <;> rfl)|(exfalso; omega)) fO
 have dL:=oF al
 have fQ:=hB dK al
 refine wf fQ<| ws<| il _ _<| wk fun k0 fR=>?_
 refine wA [true,true,true,true,true,false,false] [(5,false),(6,true)] 76 [ve (.pointer (some ⟨bl,1,none⟩)),ve (nv (Nm.mk ((numericV v).1.nk) ((numericV v).1.nn))),ve (nv (Nm.mk 0 (-1))),ve (nv (bitM 3 (Nm.mk ((numericV v).1.nk) ((numericV v).1.nn)) (Nm.mk 0 (-1)))),ve (vv (Vl.mk 3 (bitM 3 (Nm.mk ((numericV v).1.nk) ((numericV v).1.nn)) (Nm.mk 0 (-1))).k (bitM 3 (Nm.mk ((numericV v).1.nk) ((numericV v).1.nn)) (Nm.mk 0 (-1))).n false [] [] 0) none 0 none 0),vt,vt] a1 ?_ ?_
 exact .F iI<| .K2 0 fE<| .T (fun k=>v_build (ps:=[(1,iv (-1))]) rfl (parts1 rfl) (by kernel_rfl))<| .D (fun k=>args3 rfl (k.eq1 1 72 rfl) (k.eq1 2 73 rfl)) (fun p=>bit_c 3 (Nm.mk ((numericV v).1.nk) ((numericV v).1.nn)) (Nm.mk 0 (-1)) _)<| .C 3 (fun p=>cnum_c (bitM 3 (Nm.mk ((numericV v).1.nk) ((numericV v).1.nn)) (Nm.mk 0 (-1))) _)<| .off<| .off .nil
 refine aftI a1 b6 b7 fun dR k1 cb fS fT fU cc=>?_
 have dS:=cc.f1 dJ
 have dT:=cc.g 4 75
 have fV:=b8.new_ fU
 refine sS9 dS dT fV fun iN fX fW kf=>?_
 have fZ:=fT.tR fW
 refine sP (v:=iv 0) rfl cb fS fun iO kg f0 aC iQ=>?_
 have⟨iP,k3⟩:=aC.q2 dS dT
 refine fR _ _<| wp_ret (ret_k f0 (res9 iP iQ fX) ?_)
 exact rV (by first|rfl|(simp only [unG,unN,ofN,truthG,Vl.z,Bool.true_and,Bool.false_and,Bool.and_false,ao,ap,aq,ar,ah,aj,al,bsm] <;> rfl)|(exfalso; omega)) fZ
 have eW:=oF ah
 refine wA tr3 [] 76 [ve (iv ((numericV v).2)),vT,vT] bs ?_ ?_
 exact .M bP<| .b 0 (r_neq ah)<| .B 1 .nil
 refine aftI bs dl dk fun k4 k5 cd f1 f2 a4 aM=>?_
 have⟨k6,iR,k7,iS⟩:=aM.f4 hR hT hU bP
 have iT:=aM.g 2 42
 have⟨f3,kh,ki,kj⟩:=nw4 a4 dj dg dh di
 refine dm _ _<| wt iT<| wk fun k8 f4=>?_
 refine wB [true,true,false,false] [1] [(2,false),(3,true)] 76 [ve (vv (Vl.mk 0 0 0 false [] [] 0) none 0 none 0),ve (iv ((numericV v).2)),vt,vt] [] cd ?_ ?_ ?_
 refine .Z ?_
 refine .o3 ?_
 exact .off<| .off .nil
 refine eg1 ?_
 exact eager_take rfl rfl fun _ w hn k=>⟨iv ((numericV v).2),fun w=>v_move rfl (k.fx 9 iS),rfl⟩
 refine aftI cd f1 f2 fun dW k9 ce f5 f6 f7 bA=>?_
 have dX:=bA.f1 iR
 have dY:=bA.g 0 45
 have dZ:=bA.g 1 46
 have f8:=f3.new_ f7
 refine sS9 dX dY f8 fun iU ga f9 kk=>?_
 have gc:=f6.tR f9
 refine sP dZ ce f5 fun iV kl gd ax iX=>?_
 have⟨iW,lc,ld⟩:=ax.q3 dX dY dZ
 refine f4 _ _<| wp_ret (ret_k gd (res9 iW iX ga) ?_)
 exact rV (by first|rfl|(simp only [unG,unN,ofN,truthG,Vl.z,Bool.true_and,Bool.false_and,Bool.and_false,ao,ap,aq,ar,ah,bsm] <;> rfl)|(exfalso; omega)) gc
 intro le cf
 refine wk fun lf gg=>?_
 refine wA tr1 [] 76 [ve (.string o)] hN ?_ ?_
 exact .M h8 .nil
 refine aftI hN jE hW fun lg lh ch gh gi ci a5=>?_
 have⟨iY,iZ,i0⟩:=a5.f3 h8 h9 hO
 have d2:=a5.g 0 10
 have⟨gj,gk⟩:=nw2 ci hY h3
 refine gg _ _<| wb<| wk fun li gl=>?_
 refine wA tr2 [] 76 [ve (.bool (strEq o ⟨#[33]⟩)),ve (.bool (strEq o ⟨#[33]⟩))] ch ?_ ?_
 exact .H d2 (r_eqlS rfl)<| .B 0 .nil
 refine aftI ch gh gi fun lj lk a6 cj a7 cl aN=>?_
 have⟨i1,d3,d4,d5⟩:=aN.f4 iY iZ i0 d2
 have d6:=aN.g 1 12
 have⟨cm,cn⟩:=nw2 cl gj gk
 refine gl _ _ ?_
 rcases bc (strEq o ⟨#[33]⟩) with ab|ab
 have gm:=hB d6 ab
 refine wt gm<| wk fun ll gn=>?_
 refine wA [true,true,true,true,false,false] [(4,false),(5,true)] 76 [ve (vv v Av cv Bv dv),ve (.bool (boolV v)),ve (.bool (!(boolV v))),ve (vv (Vl.mk 2 0 0 false [] [] (truthR (!(boolV v)))) none 0 none 0),vt,vt] a6 ?_ ?_
 exact .L9 d3 cm<| .C 0 (fun p=>cbool_c v _ _ _ _ _ (hmv.new_ (a7.transNew p)) (hsv.new_ (a7.transNew p)))<| .T (fun k=>v_not rfl (k.eq1 1 15 rfl))<| .C 2 (fun p=>truthN_c (!(boolV v)) _)<| .off<| .off .nil
 refine aftI a6 cj a7 fun d7 lm co go gp gq cp=>?_
 have d8:=cp.f1 d4
 have d9:=cp.g 3 17
 have gr:=cn.new_ gq
 refine sS9 d8 d9 gr fun i2 gt gs km=>?_
 have gv:=gp.tR gs
 refine sP (v:=iv 0) rfl co go fun i3 kn gw aD i5=>?_
 have⟨i4,lo⟩:=aD.q2 d8 d9
 refine gn _ _<| wp_ret (ret_k gw (res9 i4 i5 gt) ?_)
 exact rV (by first|rfl|(simp only [unG,unN,ofN,truthG,Vl.z,Bool.true_and,Bool.false_and,Bool.and_false,ab,bsm] <;> rfl)|(exfalso; omega)) gv
 have gx:=hB d6 ab
 refine wf gx<| wk fun lp gy=>?_
 refine wA tr2 [] 76 [ve (.bool (strEq o ⟨#[118,111,105,100]⟩)),ve (.bool (strEq o ⟨#[118,111,105,100]⟩))] a6 ?_ ?_
 exact .H d5 (r_eqlS rfl)<| .B 0 .nil
 refine aftI a6 cj a7 fun lq lr a8 cq cr ct aO=>?_
 have⟨i6,i7,ec,ed⟩:=aO.f4 i1 d3 d4 d5
 have ee:=aO.g 1 18
 have⟨gz,cu⟩:=nw2 ct cm cn
 refine gy _ _ ?_
 rcases bc (strEq o ⟨#[118,111,105,100]⟩) with ac|ac
 have gA:=hB ee ac
 refine wt gA<| wk fun ls gB=>?_
 refine wA [true,false,false] [(1,false),(2,true)] 76 [ve (vv (Vl.mk 0 0 0 false [] [] 0) none 0 none 0),vt,vt] a8 ?_ ?_
 exact .Z<| .off<| .off .nil
 refine aftI a8 cq cr fun ef lu cw gC gD gE cx=>?_
 have eg:=cx.f1 ec
 have eh:=cx.g 0 20
 have gF:=cu.new_ gE
 refine sS9 eg eh gF fun i8 gH gG ko=>?_
 have gJ:=gD.tR gG
 refine sP (v:=iv 0) rfl cw gC fun i9 kp gK aE jb=>?_
 have⟨ja,lw⟩:=aE.q2 eg eh
 refine gB _ _<| wp_ret (ret_k gK (res9 ja jb gH) ?_)
 exact rV (by first|rfl|(simp only [unG,unN,ofN,truthG,Vl.z,Bool.true_and,Bool.false_and,Bool.and_false,ab,ac,bsm] <;> rfl)|(exfalso; omega)) gJ
 have gL:=hB ee ac
 refine wf gL<| wk fun lx gM=>?_
 refine wA tr2 [] 76 [ve (.bool (strEq o ⟨#[43]⟩)),ve (.bool (strEq o ⟨#[43]⟩))] a8 ?_ ?_
 exact .H ed (r_eqlS rfl)<| .B 0 .nil
 refine aftI a8 cq cr fun ly jc a9 cy aP cz aQ=>?_
 have⟨jd,ek,el,em⟩:=aQ.f4 i6 i7 ec ed
 have en:=aQ.g 1 21
 have⟨cA,bB⟩:=nw2 cz gz cu
 refine gM _ _ ?_
 rcases bc (strEq o ⟨#[43]⟩) with ad|ad
 have gN:=hB en ad
 refine wt gN<| wk fun lz gO=>?_
 refine wB [true,true,true,true,true,true,false,false] [4] [(6,false),(7,true)] 76 [ve (vv v Av cv Bv dv),ve (.tuple #[nv ((numberV v).1),iv ((numberV v).2)]),ve (.tuple #[nv ((numberV v).1),iv ((numberV v).2)]),ve (nv ((numberV v).1)),ve (iv ((numberV v).2)),IsNew jc 23 [iv 0,iv 0],vt,vt] [5] a9 ?_ ?_ ?_
 refine .L9 ek cA<| .C 0 (fun p=>cnumber_c v _ _ _ _ _ (hmv.new_ (aP.transNew p)) (hsv.new_ (aP.transNew p)) hvv)<| .N 1<| .E 2 ?_
 refine .o3 ?_
 exact .Y<| .off<| .off .nil
 refine eg1 ?_
 exact eager_take rfl rfl fun _ w hn k=>⟨iv ((numberV v).2),fun w=>v_extract rfl (k.eq1 2 23 rfl) rfl,rfl⟩
 refine aftI a9 cy aP fun eo lA cB gP gQ gR ba=>?_
 have je:=ba.f1 el
 have ep:=ba.g 3 26
 have er:=ba.g 4 27
 obtain⟨jf,es,cC,gS⟩:=ba.G 5 6
 have gT:=bB.new_ gR
 have hne466:an ≠ jf:=by have h1:=bB.lt; have h2:=cC; omega
 have kq:=Nat.le_trans aP.size cC
 refine sS2 es ep gS fun lB cD gU gV=>?_
 have cE:=gV hne466 gT
 have cF:=gQ.tR gU
 refine sP er cB gP fun jg bb cG au bC=>?_
 have⟨eu,lD,lE⟩:=au.q3 je ep er
 have ev:=au.q es
 refine gO _ _ <| wk fun lF gX=>?_
 refine wk fun lG cH=>?_
 rcases bc (decide (((numberV v).2)=0)) with am|am
 have ew:=oT am
 refine wA tr2 [] 76 [ve (iv ((numberV v).2)),vF] bb ?_ ?_
 exact .M bC<| .b 0 (r_neq am) .nil
 refine aftI bb cG cF fun lH lI cI gY gZ cJ bd=>?_
 have⟨jh,ji,lJ⟩:=bd.f3 eu ev bC
 have jj:=bd.g 1 29
 have⟨g0,g1⟩:=nw2 cJ cE cD
 refine cH _ _<| wf jj<| ws ?_
 refine gX _ _<| wk fun lK g2=>?_
 refine wA [true,true,false,false] [(2,false),(3,true)] 76 [ve (nv ((numberV v).1)),ve (vv (Vl.mk 3 ((numberV v).1).k ((numberV v).1).n false [] [] 0) none 0 none 0),vt,vt] cI ?_ ?_
 exact .L2 ji g1<| .C 0 (fun p=>cnum_c ((numberV v).1) _)<| .off<| .off .nil
 refine aftI cI gY gZ fun ex lL cK g3 g4 g5 cL=>?_
 have ey:=cL.f1 jh
 have ez:=cL.g 1 33
 have g6:=g0.new_ g5
 refine sS9 ey ez g6 fun jk g8 g7 kr=>?_
 have ha:=g4.tR g7
 refine sP (v:=iv 0) rfl cK g3 fun jl ks hc aF jn=>?_
 have⟨jm,lN⟩:=aF.q2 ey ez
 refine g2 _ _<| wp_ret (ret_k hc (res9 jm jn g8) ?_)
 exact rV (by first|rfl|(simp only [unG,unN,ofN,truthG,Vl.z,Bool.true_and,Bool.false_and,Bool.and_false,ab,ac,ad,am,bsm] <;> rfl)|(exfalso; omega)) ha
 have ew:=oF am
 refine wA tr2 [] 76 [ve (iv ((numberV v).2)),vT] bb ?_ ?_
 exact .M bC<| .b 0 (r_neq am) .nil
 refine aftI bb cG cF fun lO lP cM hd hf cN be=>?_
 have⟨jo,lQ,jp⟩:=be.f3 eu ev bC
 have jq:=be.g 1 29
 have⟨hg,kt⟩:=nw2 cN cE cD
 refine cH _ _<| wt jq<| wk fun lR hh=>?_
 refine wB [true,true,false,false] [1] [(2,false),(3,true)] 76 [ve (vv (Vl.mk 0 0 0 false [] [] 0) none 0 none 0),ve (iv ((numberV v).2)),vt,vt] [] cM ?_ ?_ ?_
 refine .Z ?_
 refine .o3 ?_
 exact .off<| .off .nil
 refine eg1 ?_
 exact eager_take rfl rfl fun _ w hn k=>⟨iv ((numberV v).2),fun w=>v_move rfl (k.fx 7 jp),rfl⟩
 refine aftI cM hd hf fun eC lS cO hi hj hl bD=>?_
 have eD:=bD.f1 jo
 have eE:=bD.g 0 30
 have eF:=bD.g 1 31
 have ho:=hg.new_ hl
 refine sS9 eD eE ho fun jr hs hr ku=>?_
 have hu:=hj.tR hr
 refine sP eF cO hi fun js kv hv ay ju=>?_
 have⟨jt,lU,lV⟩:=ay.q3 eD eE eF
 refine hh _ _<| wp_ret (ret_k hv (res9 jt ju hs) ?_)
 exact rV (by first|rfl|(simp only [unG,unN,ofN,truthG,Vl.z,Bool.true_and,Bool.false_and,Bool.and_false,ab,ac,ad,am,bsm] <;> rfl)|(exfalso; omega)) hu
 have hw:=hB en ad
 refine wf hw<| wk fun lW cP=>wk fun lX hx=>?_
 refine wA tr2 [] 76 [ve (.bool (strEq o ⟨#[45]⟩)),ve (.bool (strEq o ⟨#[45]⟩))] a9 ?_ ?_
 exact .H em (r_eqlS rfl)<| .B 0 .nil
 refine aftI a9 cy aP fun lY lZ bE cQ cR cS aR=>?_
 have⟨eI,eJ,eK,jv⟩:=aR.f4 jd ek el em
 have eL:=aR.g 1 34
 have⟨cT,cU⟩:=nw2 cS cA bB
 refine hx _ _ ?_
 rcases bc (strEq o ⟨#[45]⟩) with ae|ae
 have cV:=hB eL ae
 refine wt cV<| ws<| cP _ _<| wt cV<| ws<| cf _ _ ⟨bE,cQ,cR,eI,eJ,eK,cT,cU,(by first|assumption|(unfold unT; simp only [ab,ac,ad,ae,Bool.false_or,Bool.or_false,Bool.true_or,Bool.or_true]; done)|(unfold unT; simp only [ab,ac,ad,ae,Bool.false_or,Bool.or_false,Bool.true_or,Bool.or_true] <;> rfl)),(by first|assumption|(unfold unT; simp only [ab,ac,ad,ae,Bool.false_or,Bool.or_false,Bool.true_or,Bool.or_true]; done)|(unfold unT; simp only [ab,ac,ad,ae,Bool.false_or,Bool.or_false,Bool.true_or,Bool.or_true] <;> rfl)),(by first|assumption|(unfold unT; simp only [ab,ac,ad,ae,Bool.false_or,Bool.or_false,Bool.true_or,Bool.or_true]; done)|(unfold unT; simp only [ab,ac,ad,ae,Bool.false_or,Bool.or_false,Bool.true_or,Bool.or_true] <;> rfl)),(by first|assumption|(unfold unT; simp only [ab,ac,ad,ae,Bool.false_or,Bool.or_false,Bool.true_or,Bool.or_true]; done)|(unfold unT; simp only [ab,ac,ad,ae,Bool.false_or,Bool.or_false,Bool.true_or,Bool.or_true] <;> rfl))⟩
 have hy:=hB eL ae
 refine wf hy<| wp_g0 [true,true] [] 76
  [ve (.bool (strEq o ⟨#[126]⟩)),ve (.bool (strEq o ⟨#[126]⟩))] bE (.eq (.eq .nil)) ?_ ?_
 exact .H jv (r_eqlS rfl)<| .B 0 .nil
 refine aftI bE cQ cR fun l0 l1 bF cW cX cY bf=>?_
 have⟨jw,jx,eM⟩:=bf.f3 eI eJ eK
 have eN:=bf.g 1 34
 have⟨hz,cZ⟩:=nw2 cY cT cU
 refine cP _ _ ?_
 rcases bc (strEq o ⟨#[126]⟩) with ai|ai
 have hA:=hB eN ai
 refine wt hA<| ws<| cf _ _ ⟨bF,cW,cX,jw,jx,eM,hz,cZ,(by first|assumption|(unfold unT; simp only [ab,ac,ad,ae,ai,Bool.false_or,Bool.or_false,Bool.true_or,Bool.or_true]; done)|(unfold unT; simp only [ab,ac,ad,ae,ai,Bool.false_or,Bool.or_false,Bool.true_or,Bool.or_true] <;> rfl)),(by first|assumption|(unfold unT; simp only [ab,ac,ad,ae,ai,Bool.false_or,Bool.or_false,Bool.true_or,Bool.or_true]; done)|(unfold unT; simp only [ab,ac,ad,ae,ai,Bool.false_or,Bool.or_false,Bool.true_or,Bool.or_true] <;> rfl)),(by first|assumption|(unfold unT; simp only [ab,ac,ad,ae,ai,Bool.false_or,Bool.or_false,Bool.true_or,Bool.or_true]; done)|(unfold unT; simp only [ab,ac,ad,ae,ai,Bool.false_or,Bool.or_false,Bool.true_or,Bool.or_true] <;> rfl)),(by first|assumption|(unfold unT; simp only [ab,ac,ad,ae,ai,Bool.false_or,Bool.or_false,Bool.true_or,Bool.or_true]; done)|(unfold unT; simp only [ab,ac,ad,ae,ai,Bool.false_or,Bool.or_false,Bool.true_or,Bool.or_true] <;> rfl))⟩
 have hC:=hB eN ai
 refine wf hC<| wk fun l2 hD=>?_
 have eO:unT o=false:=by unfold unT; simp only [ab,ac,ad,ae,ai,Bool.false_or,Bool.or_false,Bool.true_or,Bool.or_true]
 refine wA [true,false,false] [(1,false),(2,true)] 76 [ve (vv (Vl.mk 0 0 0 false [] [] 0) none 0 none 0),vt,vt] bF ?_ ?_
 exact .Z<| .off<| .off .nil
 refine aftI bF cW cX fun eP l3 c0 hE hF hG c1=>?_
 have eQ:=c1.f1 eM
 have eR:=c1.g 0 11
 have hH:=cZ.new_ hG
 refine sS9 eQ eR hH fun jy hJ hI kw=>?_
 have hL:=hF.tR hI
 refine sP (v:=iv 3) rfl c0 hE fun jz kx hM aG jB=>?_
 have⟨jA,l5⟩:=aG.q2 eQ eR
 refine hD _ _<| wp_ret (ret_k hM (res9 jA jB hJ) ?_)
 exact rV (by first|rfl|(simp only [unG,unN,ofN,truthG,Vl.z,Bool.true_and,Bool.false_and,Bool.and_false,ab,ac,ad,ae,ai,eO,bsm] <;> rfl)|(exfalso; omega)) hL
theorem parts5 {ac:Act} {i1 i2 i3 i4 i5:Nat} {x1 x2 x3 x4 x5:Operand} {u1 u2 u3 u4 u5:Value} (h1:ac.eval x1=u1) (h2:ac.eval x2=u2) (h3:ac.eval x3=u3) (h4:ac.eval x4=u4) (h5:ac.eval x5=u5):((#[(i1,x1),(i2,x2),(i3,x3),(i4,x4),(i5,x5)]:Array (Nat × Operand)).map fun (i,x)=>(i,ac.eval x))=[(i1,u1),(i2,u2),(i3,u3),(i4,u4),(i5,u5)].toArray:=by simp [h1,h2,h3,h4,h5]
theorem rkind_c (j:Int) (w:World):Calls prog 160 #[iv j] w (IsRet (nv (Nm.mk j 0)) w):=by
 refine enter_abs func160 rfl fun a0 aa av hp=>?_
 have aa:a0.tmps.size=5:=aa
 have ad:New w w:=Upd.refl _ _
 have hp0:a0.eval (.tmp 0)=iv j:=hp 0 _ rfl
 refine wk fun K1 aw=>?_
 refine wB tr1 [] [] 5 [IsNew w 23 [iv 0,iv 0]] [0] aa ?_ heN ?_
 exact .Y .nil
 refine aftI aa av ad fun a2 w3 ae ax ah aC af=>?_
 have h8:=af.f1 hp0
 obtain⟨aD,h9,ai,aj⟩:=af.G 0 2
 have az:=Nat.le_trans ad.size ai
 refine aw _ _ <| wk fun aE ak=>?_
 refine wA [true,true,false] [(2,false)] 5 [ve (iv j),ve (nv (Nm.mk j 0)),vt] ae ?_ ?_
 exact .M h8<| .T (fun k=>v_build (ps:=[(0,iv j)]) rfl (parts1 (k.eq1 0 3 rfl)) (by kernel_rfl))<| .off .nil
 refine aftI ae ax ah fun aF aG aA al am an ab=>?_
 have ag:=ab.f1 h9
 have ay:=ab.g 1 4
 have ao:=aj.new_ an
 refine sS2 ag ay ao fun aH ap aq aB=>?_
 have au:=am.tR aq
 refine ak _ _<| wp_ret (ret_k al (v:=nv (Nm.mk j 0)) (res_c rfl ag (l_two isAgg23 sizeOf23 ap)) ?_)
 exact⟨rfl,au⟩
theorem rNaN_c  (w:World):Calls prog 105 #[] w (IsRet (nv (Nm.mk 2 0)) w):=by
 refine enter_abs func105 rfl fun a0 aa au hp=>?_
 have aa:a0.tmps.size=2:=aa
 have ad:New w w:=Upd.refl _ _
 refine wk fun K1 av=>?_
 refine wB tr1 [] [] 2 [IsNew w 23 [iv 0,iv 0]] [0] aa ?_ heN ?_
 exact .Y .nil
 refine aftI aa au ad fun a2 w3 ae aw ag aC ax=>?_
 obtain⟨q9,h8,ah,ai⟩:=ax.G 0 0
 have az:=Nat.le_trans ad.size ah
 refine av _ _ <| wk fun aD aj=>?_
 refine wA [true,false] [(1,false)] 2 [ve (nv (Nm.mk 2 0)),vt] ae ?_ ?_
 exact .D (fun k=>args1 rfl) (fun n=>rkind_c 2 _)<| .off .nil
 refine aftI ae aw ag fun aE aF aA ak al am ab=>?_
 have af:=ab.f1 h8
 have ay:=ab.g 0 1
 have an:=ai.new_ am
 refine sS2 af ay an fun aG ao ap aB=>?_
 have ar:=al.tR ap
 refine aj _ _<| wp_ret (ret_k ak (v:=nv (Nm.mk 2 0)) (res_c rfl af (l_two isAgg23 sizeOf23 ao)) ?_)
 exact⟨rfl,ar⟩
theorem rmay_c0 (a:Nm) (w:World):Calls prog 169 #[nv a] w (IsRet (.bool (rMayB a)) w):=by
 refine enter_abs func169 rfl fun a0 ae aE hp=>?_
 have ae:a0.tmps.size=27:=ae
 have ak:New w w:=Upd.refl _ _
 have hp0:a0.eval (.tmp 0)=nv a:=hp 0 _ rfl
 refine wk fun K1 aF=>?_
 refine wB tr2 [] [] 27 [IsNew w 23 [iv a.k,iv a.n],vF] [0] ae ?_ heN ?_
 exact .X hp0<| .c .nil
 refine aftI ae aE ak fun a2 w3 al aG an aP aH=>?_
 obtain⟨q9,h8,ao,af⟩:=aH.G 0 1
 have aK:=Nat.le_trans ak.size ao
 refine aF _ _ <| wk fun aQ ap=>?_
 refine wk fun aR aq=>?_
 refine wA tr3 [] 27 [ve (pv q9),ve (iv a.k),ve (.bool (decide (a.k=0)))] al ?_ ?_
 exact .F h8<| .J 0 isAgg3 af<| .b 1 (r_eql rfl) .nil
 refine aftI al aG an fun aS aT ac ag ah ar ai=>?_
 have ad:=ai.f1 h8
 have am:=ai.g 2 5
 have ab:=af.new_ ar
 refine aq _ _ ?_
 rcases bc (decide (a.k=0)) with aa|aa
 have aj:=oT aa
 have au:=hB am aa
 refine wt au<| wk fun aU av=>?_
 refine wA tr9 [] 27 [ve (.pointer (some ⟨q9,1,none⟩)),ve (iv a.n),ve (.bool (!decide (a.n < -9007199254740991))),ve (.bool (!decide (a.n < -9007199254740991))),ve (gq (!decide (a.n < -9007199254740991)) (.pointer (some ⟨q9,1,none⟩))),ve (gq (!decide (a.n < -9007199254740991)) (iv a.n)),ve (gq (!decide (a.n < -9007199254740991)) (.bool (decide (a.n≤9007199254740991)))),ve (.bool ((!decide (a.n < -9007199254740991)) && (decide (a.n≤9007199254740991)))),ve (.bool ((!decide (a.n < -9007199254740991)) && (decide (a.n≤9007199254740991))))] ac ?_ ?_
 exact .F ad<| .J 0 isAgg3 ab<| .b 1 (r_geqK rfl)<| .N 2<| .Q (fun k=>g0 (k.eq1 3 9 rfl)) (fun hG p k=>v_field rfl (k.fx 1 ad) (fun w=>rfl))<| .Q (fun k=>g0 (k.eq1 3 9 rfl)) (fun hG p k=>v_load rfl (cT hG (k.eq1 4 10 rfl)) (l_one isAgg3 ((ab.new_ p).cell 1)))<| .Q (fun k=>g0 (k.eq1 3 9 rfl)) (fun hG p k=>v_bin rfl (cT hG (k.eq1 5 11 rfl)) rfl (fun _=>rfl) (r_leqK rfl))<| .O 3 6<| .B 7 .nil
 refine aftI ac ag ah fun aV aW aL aw ax aM ay=>?_
 have aI:=ay.g 8 2
 refine av _ _<| wp_ret (ret_k aw (v:=.bool ((!decide (a.n < -9007199254740991)) && (decide (a.n≤9007199254740991)))) (res_t rfl aI _) ?_)
 refine ⟨?_,ax⟩
 show Ending.returned (.bool ((!decide (a.n < -9007199254740991)) && (decide (a.n≤9007199254740991))))=Ending.returned (.bool (rMayB a))
 first|rfl|(simp only [rMayB,aa,bsm] <;> rfl)|(exfalso; omega)
 have aj:=oF aa
 have az:=hB am aa
 refine wf az<| ws<| ap _ _<| wk fun aX aA=>?_
 refine wA tr14 [] 27 [ve (pv q9),ve (iv a.k),ve (.bool (!decide (a.k < 1))),ve (.bool (!decide (a.k < 1))),ve (gq (!decide (a.k < 1)) (pv q9)),ve (gq (!decide (a.k < 1)) (iv a.k)),ve (gq (!decide (a.k < 1)) (.bool (decide (a.k≤4)))),ve (.bool ((!decide (a.k < 1)) && (decide (a.k≤4)))),ve (.bool ((!decide (a.k < 1)) && (decide (a.k≤4)))),ve (gq ((!decide (a.k < 1)) && (decide (a.k≤4))) (.pointer (some ⟨q9,1,none⟩))),ve (gq ((!decide (a.k < 1)) && (decide (a.k≤4))) (iv a.n)),ve (gq ((!decide (a.k < 1)) && (decide (a.k≤4))) (.bool (decide (a.n=0)))),ve (.bool (((!decide (a.k < 1)) && (decide (a.k≤4))) && (decide (a.n=0)))),ve (.bool (((!decide (a.k < 1)) && (decide (a.k≤4))) && (decide (a.n=0))))] ac ?_ ?_
 exact .F ad<| .J 0 isAgg3 ab<| .b 1 (r_geqK rfl)<| .N 2<| .Q (fun k=>g0 (k.eq1 3 17 rfl)) (fun hG p k=>v_field rfl (k.fx 1 ad) (fun w=>rfl))<| .Q (fun k=>g0 (k.eq1 3 17 rfl)) (fun hG p k=>v_load rfl (cT hG (k.eq1 4 18 rfl)) (l_one isAgg3 ((ab.new_ p).cell 0)))<| .Q (fun k=>g0 (k.eq1 3 17 rfl)) (fun hG p k=>v_bin rfl (cT hG (k.eq1 5 19 rfl)) rfl (fun _=>rfl) (r_leqK rfl))<| .O 3 6<| .N 7<| .Q (fun k=>g0 (k.eq1 8 22 rfl)) (fun hG p k=>v_field rfl (k.fx 1 ad) (fun w=>rfl))<| .Q (fun k=>g0 (k.eq1 8 22 rfl)) (fun hG p k=>v_load rfl (cT hG (k.eq1 9 23 rfl)) (l_one isAgg3 ((ab.new_ p).cell 1)))<| .Q (fun k=>g0 (k.eq1 8 22 rfl)) (fun hG p k=>v_bin rfl (cT hG (k.eq1 10 24 rfl)) rfl (fun _=>rfl) (r_eql rfl))<| .O 8 11<| .B 12 .nil
 refine aftI ac ag ah fun aY aZ aN aB aC aO aD=>?_
 have aJ:=aD.g 13 2
 refine aA _ _<| wp_ret (ret_k aB (v:=.bool (((!decide (a.k < 1)) && (decide (a.k≤4))) && (decide (a.n=0)))) (res_t rfl aJ _) ?_)
 refine ⟨?_,aC⟩
 show Ending.returned (.bool (((!decide (a.k < 1)) && (decide (a.k≤4))) && (decide (a.n=0))))=Ending.returned (.bool (rMayB a))
 first|rfl|(simp only [rMayB,aa,bsm] <;> rfl)|(exfalso; omega)
theorem rmay_c (a:Nm) (w:World):Calls Tryz.prog 169 #[nv a] w (IsRet (.bool (nmayB a)) w):=by
  have h:=rmay_c0 a w 
  rw [rMay_eq] at h
  exact h
theorem rgood_c (a:Nm) (w:World):Calls prog 112 #[nv a] w (IsRet (nv (asM a)) w):=by
 refine enter_abs func112 rfl fun a0 ad aY hp=>?_
 have ad:a0.tmps.size=7:=ad
 have ae:New w w:=Upd.refl _ _
 have hp0:a0.eval (.tmp 0)=nv a:=hp 0 _ rfl
 refine wk fun K1 aZ=>?_
 refine wB tr2 [] [] 7 [IsNew w 23 [iv a.k,iv a.n],IsNew w 23 [iv 0,iv 0]] [0,1] ad ?_ heN ?_
 exact .X hp0<| .Y .nil
 refine aftI ad aY ae fun a2 w3 ap a1 ax be af=>?_
 obtain⟨q9,h8,ay,ag⟩:=af.G 0 1
 obtain⟨a3,aq,az,aA⟩:=af.G 1 2
 have hne16:=af.ne 0 1 1 2 h8 aq
 have a7:=Nat.le_trans ae.size ay
 have a8:=Nat.le_trans ae.size az
 refine aZ _ _ <| wk fun bf aB=>?_
 refine wk fun bg aC=>?_
 refine wA tr2 [] 7 [ve (nv a),ve (.bool (nmayB a))] ap ?_ ?_
 exact .L2 h8 ag<| .C 0 (fun m=>rmay_c a _) .nil
 refine aftI ap a1 ax fun bh bi ab ah ai aj ac=>?_
 have⟨a4,ar⟩:=ac.f2 h8 aq
 have au:=ac.g 1 4
 have⟨aD,ak⟩:=nw2 aj ag aA
 refine aC _ _ ?_
 rcases bc (nmayB a) with aa|aa
 have aE:=hB au aa
 refine wt aE<| wk fun bj aF=>?_
 refine wA [true,false] [(1,false)] 7 [ve (nv a),vt] ab ?_ ?_
 exact .L2 a4 aD<| .off .nil
 refine aftI ab ah ai fun bk bl a9 aG aH aI al=>?_
 have av:=al.f1 ar
 have a5:=al.g 0 5
 have aJ:=ak.new_ aI
 refine sS2 av a5 aJ fun bm aK aL ba=>?_
 have aN:=aH.tR aL
 refine aF _ _<| wp_ret (ret_k aG (v:=nv a) (res_c rfl av (l_two isAgg23 sizeOf23 aK)) ?_)
 refine ⟨?_,aN⟩
 show Ending.returned (nv a)=Ending.returned (nv (asM a))
 first|rfl|(simp only [asM,aa,bsm] <;> rfl)|(exfalso; omega)
 have aO:=hB au aa
 refine wf aO<| ws<| aB _ _<| wk fun bo aP=>?_
 refine wA [true,false] [(1,false)] 7 [ve (nv (Nm.mk 2 0)),vt] ab ?_ ?_
 exact .D (fun k=>args1 rfl) (fun m=>rkind_c 2 _)<| .off .nil
 refine aftI ab ah ai fun bp bq bb aQ aR aS am=>?_
 have aw:=am.f1 ar
 have a6:=am.g 0 6
 have aT:=ak.new_ aS
 refine sS2 aw a6 aT fun br aU aV bd=>?_
 have aX:=aR.tR aV
 refine aP _ _<| wp_ret (ret_k aQ (v:=nv (Nm.mk 2 0)) (res_c rfl aw (l_two isAgg23 sizeOf23 aU)) ?_)
 refine ⟨?_,aX⟩
 show Ending.returned (nv (Nm.mk 2 0))=Ending.returned (nv (asM a))
 first|rfl|(simp only [asM,aa,bsm] <;> rfl)|(exfalso; omega)
theorem rnan_c (a:Nm) (w:World):Calls prog 113 #[nv a] w (IsRet (.bool (decide (a.k=2))) w):=by
 refine enter_abs func113 rfl fun a0 aa ak hp=>?_
 have aa:a0.tmps.size=6:=aa
 have ab:New w w:=Upd.refl _ _
 have hp0:a0.eval (.tmp 0)=nv a:=hp 0 _ rfl
 refine wk fun K1 al=>?_
 refine wB tr2 [] [] 6 [IsNew w 23 [iv a.k,iv a.n],vF] [0] aa ?_ heN ?_
 exact .X hp0<| .c .nil
 refine aftI aa ak ab fun a2 w3 ac am ad au an=>?_
 obtain⟨q9,h8,ae,af⟩:=an.G 0 1
 have ap:=Nat.le_trans ab.size ae
 refine al _ _ <| wk fun av ag=>?_
 refine wA tr4 [] 6 [ve (pv q9),ve (iv a.k),ve (.bool (decide (a.k=2))),ve (.bool (decide (a.k=2)))] ac ?_ ?_
 exact .F h8<| .J 0 isAgg3 af<| .b 1 (r_eql rfl)<| .B 2 .nil
 refine aftI ac am ad fun aw ax aq ah ai ar aj=>?_
 have ao:=aj.g 3 2
 refine ag _ _<| wp_ret (ret_k ah (v:=.bool (decide (a.k=2))) (res_t rfl ao _) ?_)
 exact⟨rfl,ai⟩
theorem rinf_c (a:Nm) (w:World):Calls prog 114 #[nv a] w (IsRet (.bool (infB a.k)) w):=by
 refine enter_abs func114 rfl fun a0 ac aq hp=>?_
 have ac:a0.tmps.size=11:=ac
 have ah:New w w:=Upd.refl _ _
 have hp0:a0.eval (.tmp 0)=nv a:=hp 0 _ rfl
 refine wk fun K1 ar=>?_
 refine wB tr2 [] [] 11 [IsNew w 23 [iv a.k,iv a.n],vF] [0] ac ?_ heN ?_
 exact .X hp0<| .c .nil
 refine aftI ac aq ah fun a2 w3 ad ai ae aC au=>?_
 obtain⟨q9,h8,aj,ab⟩:=au.G 0 1
 have ax:=Nat.le_trans ah.size aj
 refine ar _ _ <| wk fun aD af=>?_
 rcases bc (decide (a.k=3)) with aa|aa
 have ag:=oT aa
 refine wA tr9 [] 11 [ve (pv q9),ve (iv a.k),vT,vT,vU,vU,vU,vT,vT] ad ?_ ?_
 exact .F h8<| .J 0 isAgg3 ab<| .b 1 (r_eql aa)<| .N 2<| .S<| .S<| .S<| .T (fun k=>v_pickT rfl (k.eq1 3 6 rfl) rfl)<| .B 7 .nil
 refine aftI ad ai ae fun aE aF ay ak al az am=>?_
 have av:=am.g 8 2
 refine af _ _<| wp_ret (ret_k ak (v:=.bool true) (res_t rfl av _) ?_)
 refine ⟨?_,al⟩
 show Ending.returned (.bool true)=Ending.returned (.bool (infB a.k))
 first|rfl|(simp only [infB,aa,bsm] <;> rfl)|(exfalso; omega)
 have ag:=oF aa
 refine wA tr9 [] 11 [ve (pv q9),ve (iv a.k),vF,vF,ve (pv q9),ve (iv a.k),ve (.bool (decide (a.k=4))),ve (.bool (decide (a.k=4))),ve (.bool (decide (a.k=4)))] ad ?_ ?_
 exact .F h8<| .J 0 isAgg3 ab<| .b 1 (r_eql aa)<| .N 2<| .gf (fun k=>k.eq1 3 6 rfl) (fun k=>k.fx 1 h8)<| .V (fun p k=>v_load rfl (k.eq1 4 7 rfl) (l_one isAgg3 ((ab.new_ p).cell 0)))<| .V (fun p k=>v_bin rfl (k.eq1 5 8 rfl) rfl (fun _=>rfl) (r_eql rfl))<| .T (fun k=>v_pickF rfl (k.eq1 3 6 rfl) (k.eq1 6 9 rfl))<| .B 7 .nil
 refine aftI ad ai ae fun aG aH aA an ao aB ap=>?_
 have aw:=ap.g 8 2
 refine af _ _<| wp_ret (ret_k an (v:=.bool (decide (a.k=4))) (res_t rfl aw _) ?_)
 refine ⟨?_,ao⟩
 show Ending.returned (.bool (decide (a.k=4)))=Ending.returned (.bool (infB a.k))
 first|rfl|(simp only [infB,aa,bsm] <;> rfl)|(exfalso; omega)
theorem rnought_c (a:Nm) (w:World):Calls prog 115 #[nv a] w (IsRet (.bool (noughtB a)) w):=by
 refine enter_abs func115 rfl fun a0 ab al hp=>?_
 have ab:a0.tmps.size=16:=ab
 have ac:New w w:=Upd.refl _ _
 have hp0:a0.eval (.tmp 0)=nv a:=hp 0 _ rfl
 refine wk fun K1 am=>?_
 refine wB tr2 [] [] 16 [IsNew w 23 [iv a.k,iv a.n],vF] [0] ab ?_ heN ?_
 exact .X hp0<| .c .nil
 refine aftI ab al ac fun a2 w3 ad an ae av ao=>?_
 obtain⟨q9,h8,af,aa⟩:=ao.G 0 1
 have aq:=Nat.le_trans ac.size af
 refine am _ _ <| wk fun aw ag=>?_
 refine wA tr14 [] 16 [ve (pv q9),ve (iv a.k),ve (.bool (decide (a.k=1))),ve (.bool (decide (a.k=1))),ve (gq (!(decide (a.k=1))) (pv q9)),ve (gq (!(decide (a.k=1))) (iv a.k)),ve (gq (!(decide (a.k=1))) (.bool (decide (a.k=0)))),ve (gq (!(decide (a.k=1))) (.bool (decide (a.k=0)))),ve (gq ((!(decide (a.k=1))) && (decide (a.k=0))) (.pointer (some ⟨q9,1,none⟩))),ve (gq ((!(decide (a.k=1))) && (decide (a.k=0))) (iv a.n)),ve (gq ((!(decide (a.k=1))) && (decide (a.k=0))) (.bool (decide (a.n=0)))),ve (gq (!(decide (a.k=1))) (.bool ((decide (a.k=0)) && (decide (a.n=0))))),ve (.bool ((decide (a.k=1)) || ((decide (a.k=0)) && (decide (a.n=0))))),ve (.bool ((decide (a.k=1)) || ((decide (a.k=0)) && (decide (a.n=0)))))] ad ?_ ?_
 exact .F h8<| .J 0 isAgg3 aa<| .b 1 (r_eql rfl)<| .N 2<| .Q (fun k=>g0' (k.eq1 3 6 rfl)) (fun hG p k=>v_field rfl (k.fx 1 h8) (fun w=>rfl))<| .Q (fun k=>g0' (k.eq1 3 6 rfl)) (fun hG p k=>v_load rfl (cT hG (k.eq1 4 7 rfl)) (l_one isAgg3 ((aa.new_ p).cell 0)))<| .Q (fun k=>g0' (k.eq1 3 6 rfl)) (fun hG p k=>v_bin rfl (cT hG (k.eq1 5 8 rfl)) rfl (fun _=>rfl) (r_eql rfl))<| .Q (fun k=>g0' (k.eq1 3 6 rfl)) (fun hG p k=>v_move rfl (cT hG (k.eq1 6 9 rfl)))<| .Q (fun k=>g1 (k.eq1 7 10 rfl)) (fun hG p k=>v_field rfl (k.fx 1 h8) (fun w=>rfl))<| .Q (fun k=>g1 (k.eq1 7 10 rfl)) (fun hG p k=>v_load rfl (cT hG (k.eq1 8 11 rfl)) (l_one isAgg3 ((aa.new_ p).cell 1)))<| .Q (fun k=>g1 (k.eq1 7 10 rfl)) (fun hG p k=>v_bin rfl (cT hG (k.eq1 9 12 rfl)) rfl (fun _=>rfl) (r_eql rfl))<| .Q (fun k=>g0' (k.eq1 3 6 rfl)) (fun hG p k=>v_and rfl (cT hG (k.eq1 7 10 rfl)) (fun hg=>(cT (aj hG hg) (k.eq1 10 13 rfl))) rfl)<| .W 3 11<| .B 12 .nil
 refine aftI ad an ae fun ax ay ar ah ai au ak=>?_
 have ap:=ak.g 13 2
 refine ag _ _<| wp_ret (ret_k ah (v:=.bool ((decide (a.k=1)) || ((decide (a.k=0)) && (decide (a.n=0))))) (res_t rfl ap _) ?_)
 refine ⟨?_,ai⟩
 show Ending.returned (.bool ((decide (a.k=1)) || ((decide (a.k=0)) && (decide (a.n=0)))))=Ending.returned (.bool (noughtB a))
 first|rfl|(simp only [noughtB,bsm] <;> rfl)|(exfalso; omega)
theorem rbelow_c (a:Nm) (w:World):Calls prog 117 #[nv a] w (IsRet (.bool (belowB a)) w):=by
 refine enter_abs func117 rfl fun a0 ab al hp=>?_
 have ab:a0.tmps.size=21:=ab
 have ac:New w w:=Upd.refl _ _
 have hp0:a0.eval (.tmp 0)=nv a:=hp 0 _ rfl
 refine wk fun K1 am=>?_
 refine wB tr2 [] [] 21 [IsNew w 23 [iv a.k,iv a.n],vF] [0] ab ?_ heN ?_
 exact .X hp0<| .c .nil
 refine aftI ab al ac fun a2 w3 ad an ae av ao=>?_
 obtain⟨q9,h8,af,aa⟩:=ao.G 0 1
 have aq:=Nat.le_trans ac.size af
 refine am _ _ <| wk fun aw ag=>?_
 refine wA tr19 [] 21 [ve (pv q9),ve (iv a.k),ve (.bool (decide (a.k=1))),ve (.bool (decide (a.k=1))),ve (gq (!(decide (a.k=1))) (pv q9)),ve (gq (!(decide (a.k=1))) (iv a.k)),ve (gq (!(decide (a.k=1))) (.bool (decide (a.k=4)))),ve (.bool ((decide (a.k=1)) || (decide (a.k=4)))),ve (.bool ((decide (a.k=1)) || (decide (a.k=4)))),ve (gq (!((decide (a.k=1)) || (decide (a.k=4)))) (pv q9)),ve (gq (!((decide (a.k=1)) || (decide (a.k=4)))) (iv a.k)),ve (gq (!((decide (a.k=1)) || (decide (a.k=4)))) (.bool (decide (a.k=0)))),ve (gq (!((decide (a.k=1)) || (decide (a.k=4)))) (.bool (decide (a.k=0)))),ve (gq ((!((decide (a.k=1)) || (decide (a.k=4)))) && (decide (a.k=0))) (.pointer (some ⟨q9,1,none⟩))),ve (gq ((!((decide (a.k=1)) || (decide (a.k=4)))) && (decide (a.k=0))) (iv a.n)),ve (gq ((!((decide (a.k=1)) || (decide (a.k=4)))) && (decide (a.k=0))) (.bool (decide (a.n < 0)))),ve (gq (!((decide (a.k=1)) || (decide (a.k=4)))) (.bool ((decide (a.k=0)) && (decide (a.n < 0))))),ve (.bool (((decide (a.k=1)) || (decide (a.k=4))) || ((decide (a.k=0)) && (decide (a.n < 0))))),ve (.bool (((decide (a.k=1)) || (decide (a.k=4))) || ((decide (a.k=0)) && (decide (a.n < 0)))))] ad ?_ ?_
 exact .F h8<| .J 0 isAgg3 aa<| .b 1 (r_eql rfl)<| .N 2<| .Q (fun k=>g0' (k.eq1 3 6 rfl)) (fun hG p k=>v_field rfl (k.fx 1 h8) (fun w=>rfl))<| .Q (fun k=>g0' (k.eq1 3 6 rfl)) (fun hG p k=>v_load rfl (cT hG (k.eq1 4 7 rfl)) (l_one isAgg3 ((aa.new_ p).cell 0)))<| .Q (fun k=>g0' (k.eq1 3 6 rfl)) (fun hG p k=>v_bin rfl (cT hG (k.eq1 5 8 rfl)) rfl (fun _=>rfl) (r_eql rfl))<| .W 3 6<| .N 7<| .Q (fun k=>g0' (k.eq1 8 11 rfl)) (fun hG p k=>v_field rfl (k.fx 1 h8) (fun w=>rfl))<| .Q (fun k=>g0' (k.eq1 8 11 rfl)) (fun hG p k=>v_load rfl (cT hG (k.eq1 9 12 rfl)) (l_one isAgg3 ((aa.new_ p).cell 0)))<| .Q (fun k=>g0' (k.eq1 8 11 rfl)) (fun hG p k=>v_bin rfl (cT hG (k.eq1 10 13 rfl)) rfl (fun _=>rfl) (r_eql rfl))<| .Q (fun k=>g0' (k.eq1 8 11 rfl)) (fun hG p k=>v_move rfl (cT hG (k.eq1 11 14 rfl)))<| .Q (fun k=>g1 (k.eq1 12 15 rfl)) (fun hG p k=>v_field rfl (k.fx 1 h8) (fun w=>rfl))<| .Q (fun k=>g1 (k.eq1 12 15 rfl)) (fun hG p k=>v_load rfl (cT hG (k.eq1 13 16 rfl)) (l_one isAgg3 ((aa.new_ p).cell 1)))<| .Q (fun k=>g1 (k.eq1 12 15 rfl)) (fun hG p k=>v_bin rfl (cT hG (k.eq1 14 17 rfl)) rfl (fun _=>rfl) (r_lssK rfl))<| .Q (fun k=>g0' (k.eq1 8 11 rfl)) (fun hG p k=>v_and rfl (cT hG (k.eq1 12 15 rfl)) (fun hg=>(cT (aj hG hg) (k.eq1 15 18 rfl))) rfl)<| .W 8 16<| .B 17 .nil
 refine aftI ad an ae fun ax ay ar ah ai au ak=>?_
 have ap:=ak.g 18 2
 refine ag _ _<| wp_ret (ret_k ah (v:=.bool (((decide (a.k=1)) || (decide (a.k=4))) || ((decide (a.k=0)) && (decide (a.n < 0))))) (res_t rfl ap _) ?_)
 refine ⟨?_,ai⟩
 show Ending.returned (.bool (((decide (a.k=1)) || (decide (a.k=4))) || ((decide (a.k=0)) && (decide (a.n < 0)))))=Ending.returned (.bool (belowB a))
 first|rfl|(simp only [belowB,bsm] <;> rfl)|(exfalso; omega)
theorem rsigned_c (x:Bool) (d:Bool) (w:World):Calls prog 116 #[.bool x,.bool d] w (IsRet (nv (signedR x d)) w):=by
 refine enter_abs func116 rfl fun a0 aj b4 hp=>?_
 have aj:a0.tmps.size=18:=aj
 have bj:New w w:=Upd.refl _ _
 have hp0:a0.eval (.tmp 0)=.bool x:=hp 0 _ rfl
 have hp1:a0.eval (.tmp 1)=.bool d:=hp 1 _ rfl
 refine wk fun K1 b5=>?_
 refine wB tr1 [] [] 18 [IsNew w 23 [iv 0,iv 0]] [0] aj ?_ heN ?_
 exact .Y .nil
 refine aftI aj b4 bj fun a2 w3 ak bk au cI av=>?_
 have⟨h8,h9⟩:=av.f2 hp0 hp1
 obtain⟨cJ,bl,br,aw⟩:=av.G 0 4
 have cl:=Nat.le_trans bj.size br
 refine b5 _ _ <| wk fun cK bs=>?_
 refine wb<| wk fun cL ax=>?_
 rcases bc (x) with aa|aa
 have ay:=hB h8 aa
 refine wA tr5 [] 18 [vT,vT,ve (.bool d),ve (.bool d),ve (.bool d)] ak ?_ ?_
 exact .M ay<| .N 0<| .gm (fun k=>k.eq1 1 7 rfl) (fun k=>k.fx 1 h9)<| .T (fun k=>v_pickT rfl (k.eq1 1 7 rfl) (k.eq1 2 8 rfl))<| .B 3 .nil
 refine aftI ak bk au fun cM cN ae az aA bt af=>?_
 have⟨b6,bm,bn⟩:=af.f3 ay h9 bl
 have bo:=af.g 4 5
 have aB:=aw.new_ bt
 refine ax _ _ ?_
 rcases bc (d) with ab|ab
 have cm:=hB bm ab
 have bu:=hB bo ab
 refine wt bu<| wk fun cO bv=>?_
 refine wA [true,false] [(1,false)] 18 [ve (nv (Nm.mk 4 0)),vt] ae ?_ ?_
 exact .D (fun k=>args1 rfl) (fun n=>rkind_c 4 _)<| .off .nil
 refine aftI ae az aA fun cP cQ cn bw bx bz aC=>?_
 have bp:=aC.f1 bn
 have b7:=aC.g 0 10
 have bA:=aB.new_ bz
 refine sS2 bp b7 bA fun cR bB bC co=>?_
 have bE:=bx.tR bC
 refine bv _ _<| wp_ret (ret_k bw (v:=nv (Nm.mk 4 0)) (res_c rfl bp (l_two isAgg23 sizeOf23 bB)) ?_)
 refine ⟨?_,bE⟩
 show Ending.returned (nv (Nm.mk 4 0))=Ending.returned (nv (signedR x d))
 first|rfl|(simp only [signedR,aa,ab,bsm] <;> rfl)|(exfalso; omega)
 have bF:=hB bm ab
 have bG:=hB bo ab
 refine wf bG<| wk fun cT bH=>?_
 refine wA tr2 [] 18 [vT,vT] ae ?_ ?_
 exact .M b6<| .B 0 .nil
 refine aftI ae az aA fun cU cV aD bI bJ bK ai=>?_
 have⟨cW,b8⟩:=ai.f2 bF bn
 have b9:=ai.g 1 11
 have bL:=aB.new_ bK
 refine bH _ _<| wt b9<| wk fun cX bM=>?_
 refine wA [true,false] [(1,false)] 18 [ve (nv (Nm.mk 3 0)),vt] aD ?_ ?_
 exact .D (fun k=>args1 rfl) (fun n=>rkind_c 3 _)<| .off .nil
 refine aftI aD bI bJ fun cY cZ cp bN bO bP aE=>?_
 have bq:=aE.f1 b8
 have ca:=aE.g 0 13
 have bQ:=bL.new_ bP
 refine sS2 bq ca bQ fun c0 bR bS cq=>?_
 have bU:=bO.tR bS
 refine bM _ _<| wp_ret (ret_k bN (v:=nv (Nm.mk 3 0)) (res_c rfl bq (l_two isAgg23 sizeOf23 bR)) ?_)
 refine ⟨?_,bU⟩
 show Ending.returned (nv (Nm.mk 3 0))=Ending.returned (nv (signedR x d))
 first|rfl|(simp only [signedR,aa,ab,bsm] <;> rfl)|(exfalso; omega)
 have aF:=hB h8 aa
 refine wA tr5 [] 18 [vF,vF,vU,vF,vF] ak ?_ ?_
 exact .M aF<| .N 0<| .S<| .T (fun k=>v_pickF rfl (k.eq1 1 7 rfl) rfl)<| .B 3 .nil
 refine aftI ak bk au fun c2 c3 aG bV bW bX ag=>?_
 have⟨cb,cc,cd⟩:=ag.f3 aF h9 bl
 have ce:=ag.g 4 5
 have bY:=aw.new_ bX
 refine ax _ _<| wf ce<| wk fun cr aP=>?_
 refine wA tr2 [] 18 [vF,vF] aG ?_ ?_
 exact .M cb<| .B 0 .nil
 refine aftI aG bV bW fun ct cu al aQ aR aS ah=>?_
 have⟨bZ,b0⟩:=ah.f2 cc cd
 have b1:=ah.g 1 11
 have aT:=bY.new_ aS
 refine aP _ _<| wf b1<| wk fun cv aU=>?_
 refine wA tr2 [] 18 [ve (.bool d),ve (.bool d)] al ?_ ?_
 exact .M bZ<| .B 0 .nil
 refine aftI al aQ aR fun cw cx ad am an aV ao=>?_
 have aH:=ao.f1 b0
 have aI:=ao.g 1 14
 have ap:=aT.new_ aV
 refine aU _ _ ?_
 rcases bc (d) with ac|ac
 have aW:=hB aI ac
 refine wt aW<| wk fun cy aX=>?_
 refine wA [true,false] [(1,false)] 18 [ve (nv (Nm.mk 1 0)),vt] ad ?_ ?_
 exact .D (fun k=>args1 rfl) (fun n=>rkind_c 1 _)<| .off .nil
 refine aftI ad am an fun cz cA cf aY aZ a1 aq=>?_
 have aJ:=aq.f1 aH
 have b2:=aq.g 0 16
 have a3:=ap.new_ a1
 refine sS2 aJ b2 a3 fun cB a4 a5 ch=>?_
 have a7:=aZ.tR a5
 refine aX _ _<| wp_ret (ret_k aY (v:=nv (Nm.mk 1 0)) (res_c rfl aJ (l_two isAgg23 sizeOf23 a4)) ?_)
 refine ⟨?_,a7⟩
 show Ending.returned (nv (Nm.mk 1 0))=Ending.returned (nv (signedR x d))
 first|rfl|(simp only [signedR,aa,ac,bsm] <;> rfl)|(exfalso; omega)
 have a8:=hB aI ac
 refine wf a8<| ws<| bs _ _<| wk fun cD a9=>?_
 refine wA [true,false] [(1,false)] 18 [ve (nv (Nm.mk 0 0)),vt] ad ?_ ?_
 exact .Z<| .off .nil
 refine aftI ad am an fun cE cF ci ba bb bd ar=>?_
 have aL:=ar.f1 aH
 have b3:=ar.g 0 17
 have be:=ap.new_ bd
 refine sS2 aL b3 be fun cG bf bg cj=>?_
 have bi:=bb.tR bg
 refine a9 _ _<| wp_ret (ret_k ba (v:=nv (Nm.mk 0 0)) (res_c rfl aL (l_two isAgg23 sizeOf23 bf)) ?_)
 refine ⟨?_,bi⟩
 show Ending.returned (nv (Nm.mk 0 0))=Ending.returned (nv (signedR x d))
 first|rfl|(simp only [signedR,aa,ac,bsm] <;> rfl)|(exfalso; omega)
theorem rneg_c0 (a:Nm) (w:World):Calls prog 61 #[nv a] w (IsRet (nv (rNegM a)) w):=by
 refine enter_abs func61 rfl fun a0 aq cb hp=>?_
 have aq:a0.tmps.size=27:=aq
 have aA:New w w:=Upd.refl _ _
 have hp0:a0.eval (.tmp 0)=nv a:=hp 0 _ rfl
 refine wk fun K1 cc=>?_
 refine wB tr2 [] [] 27 [IsNew w 23 [iv a.k,iv a.n],IsNew w 23 [iv 0,iv 0]] [0,1] aq ?_ heN ?_
 exact .X hp0<| .Y .nil
 refine aftI aq cb aA fun a2 w3 bu cd aB cL aC=>?_
 obtain⟨q9,h8,bC,bD⟩:=aC.G 0 1
 obtain⟨bv,bw,bE,aD⟩:=aC.G 1 2
 have hne16:=aC.ne 0 1 1 2 h8 bw
 have cr:=Nat.le_trans aA.size bC
 have ct:=Nat.le_trans aA.size bE
 refine cc _ _ <| wk fun cM bF=>?_
 refine wB [true,true,true,false] [] [(3,false)] 27 [ve (nv a),ve (nv (asM a)),IsNew w3 23 [iv 0,iv 0],vt] [2] bu ?_ heN ?_
 exact .L2 h8 bD<| .C 0 (fun p=>rgood_c a _)<| .Y<| .off .nil
 refine aftI bu cd aB fun cN cO aE bG bH bI aj=>?_
 have ce:=aj.f1 bw
 have cf:=aj.g 1 5
 obtain⟨bx,aF,aG,bJ⟩:=aj.G 2 3
 have bK:=aD.new_ bI
 have hne34:bv ≠ bx:=by have h1:=aD.lt; have h2:=aG; omega
 have cu:=Nat.le_trans aB.size aG
 have hbd_a:=as_bd a
 refine sS2 aF cf bJ fun cP aH bL bM=>?_
 have bO:=bM hne34 bK
 have bP:=bH.tR bL
 refine bF _ _ <| wk fun cR bQ=>?_
 refine wb<| wk fun cS bR=>?_
 refine wA tr3 [] 27 [ve (nv (asM a)),ve (.bool (decide ((asM a).k=2))),ve (.bool (decide ((asM a).k=2)))] aE ?_ ?_
 exact .L2 aF aH<| .C 0 (fun p=>rnan_c (asM a) _)<| .B 1 .nil
 refine aftI aE bG bP fun cT cU ad ak al aI am=>?_
 have⟨aJ,ag⟩:=am.f2 ce aF
 have bz:=am.g 2 6
 have⟨an,ae⟩:=nw2 aI bO aH
 refine bR _ _ ?_
 rcases bc (decide ((asM a).k=2)) with aa|aa
 have aY:=oT aa
 have bS:=hB bz aa
 refine wt bS<| wk fun cV bT=>?_
 refine wA [true,false] [(1,false)] 27 [ve (nv (asM a)),vt] ad ?_ ?_
 exact .L2 ag ae<| .off .nil
 refine aftI ad ak al fun cW cX cv bU bV bW aK=>?_
 have bA:=aK.f1 aJ
 have ch:=aK.g 0 9
 have bX:=an.new_ bW
 refine sS2 bA ch bX fun cY bY bZ cw=>?_
 have b1:=bV.tR bZ
 refine bT _ _<| wp_ret (ret_k bU (v:=nv (asM a)) (res_c rfl bA (l_two isAgg23 sizeOf23 bY)) ?_)
 refine ⟨?_,b1⟩
 show Ending.returned (nv (asM a))=Ending.returned (nv (rNegM a))
 first|rfl|(simp only [rNegM,aa,bsm] <;> rfl)|(exfalso; omega)
 have aY:=oF aa
 have b2:=hB bz aa
 refine wf b2<| wk fun c0 aL=>?_
 rcases bc (infB (asM a).k) with ab|ab
 refine wA tr7 [] 27 [ve (nv (asM a)),vT,vT,vU,vU,vT,vT] ad ?_ ?_
 exact .L2 ag ae<| .o1 (ck rfl rfl rfl (fun _ w hn k=>⟨#[nv (asM a)],args1 (k.eq1 0 11 rfl),fun _=>by kernel_rfl,rinf_c (asM a) _ ⟩) fun _=>congrArg Value.bool ab)<| .N 1<| .S<| .S<| .T (fun k=>v_pickT rfl (k.eq1 2 13 rfl) rfl)<| .B 5 .nil
 refine aftI ad ak al fun c1 c2 aM b3 b4 aN ao=>?_
 have⟨ci,bB⟩:=ao.f2 aJ ag
 have cj:=ao.g 6 10
 have⟨b5,aO⟩:=nw2 aN an ae
 refine aL _ _<| wt cj<| wk fun c3 b6=>?_
 refine wA [true,true,true,true,true,true,false] [(6,false)] 27 [ve (nv (asM a)),vT,ve (nv (asM a)),ve (.bool (belowB (asM a))),ve (.bool (!(belowB (asM a)))),ve (nv (signedR true (!(belowB (asM a))))),vt] aM ?_ ?_
 exact .L2 bB aO<| .o1 (ck rfl rfl rfl (fun _ w hn k=>⟨#[nv (asM a)],args1 (k.eq1 0 17 rfl),fun _=>by kernel_rfl,rinf_c (asM a) _ ⟩) fun _=>congrArg Value.bool ab)<| .L2 bB aO<| .C 2 (fun p=>rbelow_c (asM a) _)<| .T (fun k=>v_not rfl (k.eq1 3 20 rfl))<| .C2 1 4 (fun p=>rsigned_c true (!(belowB (asM a))) _)<| .off .nil
 refine aftI aM b3 b4 fun c4 c5 cl a1 a3 b7 ar=>?_
 have aP:=ar.f1 ci
 have b8:=ar.g 5 22
 have a4:=b5.new_ b7
 refine sS2 aP b8 a4 fun cx a5 a6 cm=>?_
 have a8:=a3.tR a6
 refine b6 _ _<| wp_ret (ret_k a1 (v:=nv (signedR true (!(belowB (asM a))))) (res_c rfl aP (l_two isAgg23 sizeOf23 a5)) ?_)
 refine ⟨?_,a8⟩
 show Ending.returned (nv (signedR true (!(belowB (asM a)))))=Ending.returned (nv (rNegM a))
 first|rfl|(simp only [rNegM,aa,ab,bsm] <;> rfl)|(exfalso; omega)
 refine wA tr7 [] 27 [ve (nv (asM a)),vF,vF,ve (nv (asM a)),ve (.bool (noughtB (asM a))),ve (.bool (noughtB (asM a))),ve (.bool (noughtB (asM a)))] ad ?_ ?_
 exact .L2 ag ae<| .o1 (ck rfl rfl rfl (fun _ w hn k=>⟨#[nv (asM a)],args1 (k.eq1 0 11 rfl),fun _=>by kernel_rfl,rinf_c (asM a) _ ⟩) fun _=>congrArg Value.bool ab)<| .N 1<| .V (fun p k=>v_load rfl (k.fx 3 ag) (l_two isAgg23 sizeOf23 (ae.new_ p)))<| .o1 (cg rfl rfl rfl (fun _ _ k=>k.eq1 2 13 rfl) rfl (fun _ w hn k=>⟨#[nv (asM a)],args1 (k.eq1 3 14 rfl),fun _=>by kernel_rfl,rnought_c (asM a) _ ⟩) fun _=>rfl)<| .T (fun k=>v_pickF rfl (k.eq1 2 13 rfl) (k.eq1 4 15 rfl))<| .B 5 .nil
 refine aftI ad ak al fun cz cA af au av aw ah=>?_
 have⟨aR,ap⟩:=ah.f2 aJ ag
 have aS:=ah.g 6 10
 have⟨ax,ai⟩:=nw2 aw an ae
 refine aL _ _ ?_
 rcases bc (noughtB (asM a)) with ac|ac
 have a9:=hB aS ac
 refine wt a9<| wk fun cB ba=>?_
 refine wA [true,true,true,true,true,true,false] [(6,false)] 27 [ve (nv (asM a)),vF,ve (nv (asM a)),ve (.bool (belowB (asM a))),ve (.bool (!(belowB (asM a)))),ve (nv (signedR false (!(belowB (asM a))))),vt] af ?_ ?_
 exact .L2 ap ai<| .o1 (ck rfl rfl rfl (fun _ w hn k=>⟨#[nv (asM a)],args1 (k.eq1 0 17 rfl),fun _=>by kernel_rfl,rinf_c (asM a) _ ⟩) fun _=>congrArg Value.bool ab)<| .L2 ap ai<| .C 2 (fun p=>rbelow_c (asM a) _)<| .T (fun k=>v_not rfl (k.eq1 3 20 rfl))<| .C2 1 4 (fun p=>rsigned_c false (!(belowB (asM a))) _)<| .off .nil
 refine aftI af au av fun cC cD cn bb bd be ay=>?_
 have aT:=ay.f1 aR
 have b9:=ay.g 5 22
 have bf:=ax.new_ be
 refine sS2 aT b9 bf fun cE bg bh co=>?_
 have bj:=bd.tR bh
 refine ba _ _<| wp_ret (ret_k bb (v:=nv (signedR false (!(belowB (asM a))))) (res_c rfl aT (l_two isAgg23 sizeOf23 bg)) ?_)
 refine ⟨?_,bj⟩
 show Ending.returned (nv (signedR false (!(belowB (asM a)))))=Ending.returned (nv (rNegM a))
 first|rfl|(simp only [rNegM,aa,ab,ac,bsm] <;> rfl)|(exfalso; omega)
 have bk:=hB aS ac
 refine wf bk<| ws<| bQ _ _<| wk fun cG bl=>?_
 refine wA [true,true,true,true,false] [(4,false)] 27 [ve (.pointer (some ⟨bx,1,none⟩)),ve (iv ((asM a).n)),ve (iv (-((asM a).n))),ve (nv (Nm.mk 0 (-((asM a).n)))),vt] af ?_ ?_
 exact .F ap<| .J 0 isAgg3 ai<| .R (fun k=>v_neg rfl (k.eq1 1 24 rfl) (by omega)) (fun _=>rfl)<| .T (fun k=>v_build (ps:=[(1,iv (-((asM a).n)))]) rfl (parts1 (k.eq1 2 25 rfl)) (by kernel_rfl))<| .off .nil
 refine aftI af au av fun cH cI cp bm bn bo az=>?_
 have aV:=az.f1 aR
 have ca:=az.g 3 26
 have bp:=ax.new_ bo
 refine sS2 aV ca bp fun cJ bq br cq=>?_
 have bt:=bn.tR br
 refine bl _ _<| wp_ret (ret_k bm (v:=nv (Nm.mk 0 (-((asM a).n)))) (res_c rfl aV (l_two isAgg23 sizeOf23 bq)) ?_)
 refine ⟨?_,bt⟩
 show Ending.returned (nv (Nm.mk 0 (-((asM a).n))))=Ending.returned (nv (rNegM a))
 first|rfl|(simp only [rNegM,aa,ab,ac,bsm] <;> rfl)|(exfalso; omega)
theorem rneg_c (a:Nm) (w:World):Calls Tryz.prog 61 #[nv a] w (IsRet (nv (negM a)) w):=by
  have h:=rneg_c0 a w 
  rw [rNeg_eq] at h
  exact h
theorem rnum_c (a:Nm) (b:Nm) (w:World):Calls prog 135 #[nv a,nv b] w (IsRet (.bool (decide (a.k=b.k) && decide (a.n=b.n))) w):=by
 refine enter_abs func135 rfl fun a0 aa ap hp=>?_
 have aa:a0.tmps.size=17:=aa
 have ab:New w w:=Upd.refl _ _
 have hp0:a0.eval (.tmp 0)=nv a:=hp 0 _ rfl
 have hp1:a0.eval (.tmp 1)=nv b:=hp 1 _ rfl
 refine wk fun K1 aq=>?_
 refine wB tr3 [] [] 17 [IsNew w 23 [iv a.k,iv a.n],IsNew w 23 [iv b.k,iv b.n],vF] [0,1] aa ?_ heN ?_
 exact .X hp0<| .X hp1<| .c .nil
 refine aftI aa ap ab fun a2 w3 ae ar ai az af=>?_
 obtain⟨q9,h8,aj,ac⟩:=af.G 0 2
 obtain⟨ag,ah,ak,ad⟩:=af.G 1 3
 have av:=Nat.le_trans ab.size aj
 have aw:=Nat.le_trans ab.size ak
 refine aq _ _ <| wk fun aA al=>?_
 refine wA tr13 [] 17 [ve (pv q9),ve (iv a.k),ve (pv ag),ve (iv b.k),ve (.bool (decide (a.k=b.k))),ve (.bool (decide (a.k=b.k))),ve (gq (decide (a.k=b.k)) (.pointer (some ⟨q9,1,none⟩))),ve (gq (decide (a.k=b.k)) (iv a.n)),ve (gq (decide (a.k=b.k)) (.pointer (some ⟨ag,1,none⟩))),ve (gq (decide (a.k=b.k)) (iv b.n)),ve (gq (decide (a.k=b.k)) (.bool (decide (a.n=b.n)))),ve (.bool ((decide (a.k=b.k)) && (decide (a.n=b.n)))),ve (.bool ((decide (a.k=b.k)) && (decide (a.n=b.n))))] ae ?_ ?_
 exact .F h8<| .J 0 isAgg3 ac<| .F ah<| .J 2 isAgg3 ad<| .T (fun k=>v_bin rfl (k.eq1 1 6 rfl) (k.eq1 3 8 rfl) (fun _=>rfl) (r_eql rfl))<| .N 4<| .Q (fun k=>g0 (k.eq1 5 10 rfl)) (fun hG p k=>v_field rfl (k.fx 2 h8) (fun w=>rfl))<| .Q (fun k=>g0 (k.eq1 5 10 rfl)) (fun hG p k=>v_load rfl (cT hG (k.eq1 6 11 rfl)) (l_one isAgg3 ((ac.new_ p).cell 1)))<| .Q (fun k=>g0 (k.eq1 5 10 rfl)) (fun hG p k=>v_field rfl (k.fx 3 ah) (fun w=>rfl))<| .Q (fun k=>g0 (k.eq1 5 10 rfl)) (fun hG p k=>v_load rfl (cT hG (k.eq1 8 13 rfl)) (l_one isAgg3 ((ad.new_ p).cell 1)))<| .Q (fun k=>g0 (k.eq1 5 10 rfl)) (fun hG p k=>v_bin rfl (cT hG (k.eq1 7 12 rfl)) (cT hG (k.eq1 9 14 rfl)) (fun _=>rfl) (r_eql rfl))<| .O 5 10<| .B 11 .nil
 refine aftI ae ar ai fun aB aC ax am an ay ao=>?_
 have au:=ao.g 12 4
 refine al _ _<| wp_ret (ret_k am (v:=.bool ((decide (a.k=b.k)) && (decide (a.n=b.n)))) (res_t rfl au _) ?_)
 refine ⟨?_,an⟩
 show Ending.returned (.bool ((decide (a.k=b.k)) && (decide (a.n=b.n))))=Ending.returned (.bool (decide (a.k=b.k) && decide (a.n=b.n)))
 first|rfl|(simp only [bsm] <;> rfl)|(exfalso; omega)
theorem sMay_c (a:Bool) (Aa:Option Addr) (ma:List Nat) (ca:Nat) (w:World) (hra:SRow w .u32 Aa ma ca):Calls prog 167 #[.agg #[.bool a,sv Aa ma ca]] w (IsRet (.bool (mayB a ma)) w):=by
 refine enter_abs func167 rfl fun a0 aq a9 hp=>?_
 have aq:a0.tmps.size=31:=aq
 have az:New w w:=Upd.refl _ _
 have hp0:a0.eval (.tmp 0)=.agg #[.bool a,sv Aa ma ca]:=hp 0 _ rfl
 have hmx:=hra.max
 refine wk fun K1 ba=>?_
 refine wB tr2 [] [] 31 [IsNew w 26 [.bool a,sv Aa ma ca],vF] [0] aq ?_ heN ?_
 exact .X hp0<| .c .nil
 refine aftI aq a9 az fun a2 w3 aA bb aB bX bd=>?_
 obtain⟨q9,h8,aC,ar⟩:=bd.G 0 1
 have bG:=Nat.le_trans az.size aC
 refine ba _ _ <| wk fun bY aD=>?_
 refine wA tr4 [] 31 [ve (.pointer (some ⟨q9,1,none⟩)),ve (sv Aa ma ca),ve (iv (ma.length:Int)),ve (iv (ma.length:Int))] aA ?_ ?_
 exact .F h8<| .J 0 isAgg24 ar<| .T (fun k=>v_lenR rfl elW (k.eq1 1 5 rfl))<| .B 2 .nil
 refine aftI aA bb aB fun bZ b0 ab ag ac aE au=>?_
 have al:=au.f1 h8
 have aa:=au.g 3 3
 have ah:=ar.new_ aE
 refine aD _ _ <| wk fun b1 ai=>?_
 rcases bc (decide ((ma.length:Int)≤8)) with ad|ad
 have av:=oT ad
 rcases bc (decide ((ma.length:Int)=0)) with ae|ae
 have aw:=oT ae
 rcases bc (a) with af|af
 rcases bc (decide ((ma.length:Int)≤0)) with aj|aj
 have ax:=oT aj
 refine wA tr25 [] 31 [ve (iv (ma.length:Int)),vT,vT,ve (iv (ma.length:Int)),vT,vT,ve (pv q9),vT,vF,vF,vF,ve (iv (ma.length:Int)),vF,vF,vU,vU,vU,vU,vU,vU,vU,vF,vF,vF,vF] ab ?_ ?_
 exact .M aa<| .b 0 (r_leqK ad)<| .N 1<| .gm (fun k=>k.eq1 2 9 rfl) (fun k=>k.fx 3 aa)<| .V (fun p k=>v_bin rfl (k.eq1 3 10 rfl) rfl (fun _=>rfl) (r_eql ae))<| .gm (fun k=>k.eq1 2 9 rfl) (fun k=>k.eq1 4 11 rfl)<| .gf (fun k=>k.eq1 5 12 rfl) (fun k=>k.fx 1 al)<| .o1 (tg rfl rfl rfl (fun _ _ k=>k.eq1 5 12 rfl) fun _ w hn k=>⟨_,v_load rfl (k.eq1 6 13 rfl) (l_one isAgg4 ((ah.new_ hn).cell 0)),congrArg Value.bool af⟩)<| .V (fun p k=>v_not rfl (k.eq1 7 14 rfl))<| .V (fun p k=>v_pickT rfl (k.eq1 5 12 rfl) (k.eq1 8 15 rfl))<| .gm (fun k=>k.eq1 2 9 rfl) (fun k=>k.eq1 9 16 rfl)<| .gm (fun k=>k.eq1 10 17 rfl) (fun k=>k.fx 3 aa)<| .V (fun p k=>v_bin rfl (k.eq1 11 18 rfl) rfl (fun _=>rfl) (r_gtrK aj))<| .gm (fun k=>k.eq1 10 17 rfl) (fun k=>k.eq1 12 19 rfl)<| .S<| .S<| .S<| .S<| .S<| .S<| .S<| .V (fun p k=>v_pickF rfl (k.eq1 13 20 rfl) rfl)<| .V (fun p k=>v_pickF rfl (k.eq1 10 17 rfl) (k.eq1 21 28 rfl))<| .T (fun k=>v_pickT rfl (k.eq1 2 9 rfl) (k.eq1 22 29 rfl))<| .B 23 .nil
 refine aftI ab ag ac fun b2 b3 bH aF aG bI aH=>?_
 have be:=aH.g 24 2
 refine ai _ _<| wp_ret (ret_k aF (v:=.bool false) (res_t rfl be _) ?_)
 have hix:((ma.length:Int) - 1).toNat=ma.length - 1:=by omega
 have q8:decide (ma.length≤8)=true:=decide_eq_true (by omega)
 have q0:decide (ma.length=0)=true:=decide_eq_true (by omega)
 have q1:decide (0 < ma.length)=false:=decide_eq_false (by omega)
 refine ⟨?_,aG⟩
 rw [show mayB a ma=false from by unfold mayB; simp only [q8,q0,q1,af]; first|rfl|(exfalso; omega)]
 have ax:=oF aj
 rcases bc (decide (((ma.getD (((ma.length:Int) - 1:Int).toNat) 0:Nat):Int)=0)) with am|am
 have ao:=oT am
 refine wp_g0 (.replicate 25 true) [] 31
  [ve (iv (ma.length:Int)),vT,vT,ve (iv (ma.length:Int)),vT,vT,ve (pv q9),vT,vF,vF,vF,ve (iv (ma.length:Int)),vT,vT,ve (.pointer (some ⟨q9,1,none⟩)),ve (sv Aa ma ca),ve (iv (ma.length:Int)),ve (iv ((ma.length:Int) - 1)),
  (EP (.int .u32 ((ma.getD (((ma.length:Int) - 1:Int).toNat) 0:Nat):Int))),ve (.int .u32 ((ma.getD (((ma.length:Int) - 1:Int).toNat) 0:Nat):Int)),vF,vF,vF,vF,vF] ab (.eq (.eq (.eq (.eq (.eq (.eq (.eq (.eq (.eq (.eq (.eq (.eq (.eq (.eq (.eq (.eq (.eq (.eq (.cons (fun _ _ _ n ⟨_,_,e,h⟩=>⟨_,_,e,h.new_ n⟩) (.eq (.eq (.eq (.eq (.eq (.eq .nil))))))))))))))))))))))))) ?_ ?_
 refine .M aa<| .b 0 (r_leqK ad)<| .N 1<| .gm (fun k=>k.eq1 2 9 rfl) (fun k=>k.fx 3 aa)<| .V (fun p k=>v_bin rfl (k.eq1 3 10 rfl) rfl (fun _=>rfl) (r_eql ae))<| .gm (fun k=>k.eq1 2 9 rfl) (fun k=>k.eq1 4 11 rfl)<| .gf (fun k=>k.eq1 5 12 rfl) (fun k=>k.fx 1 al)<| .o1 (tg rfl rfl rfl (fun _ _ k=>k.eq1 5 12 rfl) fun _ w hn k=>⟨_,v_load rfl (k.eq1 6 13 rfl) (l_one isAgg4 ((ah.new_ hn).cell 0)),congrArg Value.bool af⟩)<| .V (fun p k=>v_not rfl (k.eq1 7 14 rfl))<| .V (fun p k=>v_pickT rfl (k.eq1 5 12 rfl) (k.eq1 8 15 rfl))<| .gm (fun k=>k.eq1 2 9 rfl) (fun k=>k.eq1 9 16 rfl)<| .gm (fun k=>k.eq1 10 17 rfl) (fun k=>k.fx 3 aa)<| .V (fun p k=>v_bin rfl (k.eq1 11 18 rfl) rfl (fun _=>rfl) (r_gtrK aj))<| .gm (fun k=>k.eq1 10 17 rfl) (fun k=>k.eq1 12 19 rfl)<| .gf (fun k=>k.eq1 13 20 rfl) (fun k=>k.fx 1 al)<| .V (fun p k=>v_load rfl (k.eq1 14 21 rfl) (l_one isAgg24 ((ah.new_ p).cell 1)))<| .gm (fun k=>k.eq1 13 20 rfl) (fun k=>k.fx 3 aa)<| .V (fun p k=>v_bin rfl (k.eq1 16 23 rfl) rfl (fun _=>rfl) (r_sub rfl (by omega))) ?_
 refine .o1 (tg rfl rfl rfl (fun _ _ k=>k.eq1 13 20 rfl) fun _ w hn k=>(by
  exact x_eaddr (k:=.u32) rfl elW (k.eq1 15 22 rfl) (k.eq1 17 24 rfl) (hra.new_ (ac.transNew hn)) (by omega) fun b9 bh hme=>⟨b9,bh,rfl,hme⟩)) ?_
 refine .o1 (tg rfl rfl rfl (fun _ _ k=>k.eq1 13 20 rfl) fun _ w hn k=>(by
  obtain⟨b4,b5,bi,aI⟩:=k.G 18 25
  exact⟨_,v_load rfl bi (l_one isAgg56 aI.1),rfl⟩)) ?_
 exact .V (fun p k=>v_bin rfl (k.eq1 19 26 rfl) rfl (fun _=>rfl) (r_neq am))<| .V (fun p k=>v_pickT rfl (k.eq1 13 20 rfl) (k.eq1 20 27 rfl))<| .V (fun p k=>v_pickF rfl (k.eq1 10 17 rfl) (k.eq1 21 28 rfl))<| .T (fun k=>v_pickT rfl (k.eq1 2 9 rfl) (k.eq1 22 29 rfl))<| .B 23 .nil
 refine aftI ab ag ac fun b6 b7 bJ aJ aK bK aL=>?_
 have bj:=aL.g 24 2
 refine ai _ _<| wp_ret (ret_k aJ (v:=.bool false) (res_t rfl bj _) ?_)
 have hix:((ma.length:Int) - 1).toNat=ma.length - 1:=by omega
 have q8:decide (ma.length≤8)=true:=decide_eq_true (by omega)
 have q0:decide (ma.length=0)=true:=decide_eq_true (by omega)
 have q1:decide (0 < ma.length)=false:=decide_eq_false (by omega)
 rw [hix] at ao
 have q2:decide (ma.getD (ma.length - 1) 0 ≠ 0)=false:=decide_eq_false (by omega)
 refine ⟨?_,aK⟩
 rw [show mayB a ma=false from by unfold mayB; simp only [q8,q0,q1,af,q2]; first|rfl|(exfalso; omega)]
 have ao:=oF am
 refine wp_g0 (.replicate 25 true) [] 31
  [ve (iv (ma.length:Int)),vT,vT,ve (iv (ma.length:Int)),vT,vT,ve (pv q9),vT,vF,vF,vF,ve (iv (ma.length:Int)),vT,vT,ve (.pointer (some ⟨q9,1,none⟩)),ve (sv Aa ma ca),ve (iv (ma.length:Int)),ve (iv ((ma.length:Int) - 1)),
  (EP (.int .u32 ((ma.getD (((ma.length:Int) - 1:Int).toNat) 0:Nat):Int))),ve (.int .u32 ((ma.getD (((ma.length:Int) - 1:Int).toNat) 0:Nat):Int)),vT,vT,vT,vT,vT] ab (.eq (.eq (.eq (.eq (.eq (.eq (.eq (.eq (.eq (.eq (.eq (.eq (.eq (.eq (.eq (.eq (.eq (.eq (.cons (fun _ _ _ n ⟨_,_,e,h⟩=>⟨_,_,e,h.new_ n⟩) (.eq (.eq (.eq (.eq (.eq (.eq .nil))))))))))))))))))))))))) ?_ ?_
 refine .M aa<| .b 0 (r_leqK ad)<| .N 1<| .gm (fun k=>k.eq1 2 9 rfl) (fun k=>k.fx 3 aa)<| .V (fun p k=>v_bin rfl (k.eq1 3 10 rfl) rfl (fun _=>rfl) (r_eql ae))<| .gm (fun k=>k.eq1 2 9 rfl) (fun k=>k.eq1 4 11 rfl)<| .gf (fun k=>k.eq1 5 12 rfl) (fun k=>k.fx 1 al)<| .o1 (tg rfl rfl rfl (fun _ _ k=>k.eq1 5 12 rfl) fun _ w hn k=>⟨_,v_load rfl (k.eq1 6 13 rfl) (l_one isAgg4 ((ah.new_ hn).cell 0)),congrArg Value.bool af⟩)<| .V (fun p k=>v_not rfl (k.eq1 7 14 rfl))<| .V (fun p k=>v_pickT rfl (k.eq1 5 12 rfl) (k.eq1 8 15 rfl))<| .gm (fun k=>k.eq1 2 9 rfl) (fun k=>k.eq1 9 16 rfl)<| .gm (fun k=>k.eq1 10 17 rfl) (fun k=>k.fx 3 aa)<| .V (fun p k=>v_bin rfl (k.eq1 11 18 rfl) rfl (fun _=>rfl) (r_gtrK aj))<| .gm (fun k=>k.eq1 10 17 rfl) (fun k=>k.eq1 12 19 rfl)<| .gf (fun k=>k.eq1 13 20 rfl) (fun k=>k.fx 1 al)<| .V (fun p k=>v_load rfl (k.eq1 14 21 rfl) (l_one isAgg24 ((ah.new_ p).cell 1)))<| .gm (fun k=>k.eq1 13 20 rfl) (fun k=>k.fx 3 aa)<| .V (fun p k=>v_bin rfl (k.eq1 16 23 rfl) rfl (fun _=>rfl) (r_sub rfl (by omega))) ?_
 refine .o1 (tg rfl rfl rfl (fun _ _ k=>k.eq1 13 20 rfl) fun _ w hn k=>(by
  exact x_eaddr (k:=.u32) rfl elW (k.eq1 15 22 rfl) (k.eq1 17 24 rfl) (hra.new_ (ac.transNew hn)) (by omega) fun bm bn hme=>⟨bm,bn,rfl,hme⟩)) ?_
 refine .o1 (tg rfl rfl rfl (fun _ _ k=>k.eq1 13 20 rfl) fun _ w hn k=>(by
  obtain⟨b8,cb,bo,aM⟩:=k.G 18 25
  exact⟨_,v_load rfl bo (l_one isAgg56 aM.1),rfl⟩)) ?_
 exact .V (fun p k=>v_bin rfl (k.eq1 19 26 rfl) rfl (fun _=>rfl) (r_neq am))<| .V (fun p k=>v_pickT rfl (k.eq1 13 20 rfl) (k.eq1 20 27 rfl))<| .V (fun p k=>v_pickF rfl (k.eq1 10 17 rfl) (k.eq1 21 28 rfl))<| .T (fun k=>v_pickT rfl (k.eq1 2 9 rfl) (k.eq1 22 29 rfl))<| .B 23 .nil
 refine aftI ab ag ac fun cc cd bL aN aO bM aP=>?_
 have bp:=aP.g 24 2
 refine ai _ _<| wp_ret (ret_k aN (v:=.bool true) (res_t rfl bp _) ?_)
 have hix:((ma.length:Int) - 1).toNat=ma.length - 1:=by omega
 have q8:decide (ma.length≤8)=true:=decide_eq_true (by omega)
 have q0:decide (ma.length=0)=true:=decide_eq_true (by omega)
 have q1:decide (0 < ma.length)=false:=decide_eq_false (by omega)
 rw [hix] at ao
 have q2:decide (ma.getD (ma.length - 1) 0 ≠ 0)=true:=decide_eq_true (by omega)
 refine ⟨?_,aO⟩
 rw [show mayB a ma=true from by unfold mayB; simp only [q8,q0,q1,af,q2]; first|rfl|(exfalso; omega)]
 refine wA tr25 [] 31 [ve (iv (ma.length:Int)),vT,vT,ve (iv (ma.length:Int)),vT,vT,ve (pv q9),vF,vT,vT,vT,vU,vU,vU,vU,vU,vU,vU,vU,vU,vU,vU,vT,vT,vT] ab ?_ ?_
 exact .M aa<| .b 0 (r_leqK ad)<| .N 1<| .gm (fun k=>k.eq1 2 9 rfl) (fun k=>k.fx 3 aa)<| .V (fun p k=>v_bin rfl (k.eq1 3 10 rfl) rfl (fun _=>rfl) (r_eql ae))<| .gm (fun k=>k.eq1 2 9 rfl) (fun k=>k.eq1 4 11 rfl)<| .gf (fun k=>k.eq1 5 12 rfl) (fun k=>k.fx 1 al)<| .o1 (tg rfl rfl rfl (fun _ _ k=>k.eq1 5 12 rfl) fun _ w hn k=>⟨_,v_load rfl (k.eq1 6 13 rfl) (l_one isAgg4 ((ah.new_ hn).cell 0)),congrArg Value.bool af⟩)<| .V (fun p k=>v_not rfl (k.eq1 7 14 rfl))<| .V (fun p k=>v_pickT rfl (k.eq1 5 12 rfl) (k.eq1 8 15 rfl))<| .gm (fun k=>k.eq1 2 9 rfl) (fun k=>k.eq1 9 16 rfl)<| .S<| .S<| .S<| .o1 (su rfl rfl rfl (fun _ _ _ k=>k.eq1 13 20 rfl) (fun _=>rfl))<| .o1 (su rfl rfl rfl (fun _ _ _ k=>k.eq1 13 20 rfl) (fun _=>rfl))<| .o1 (su rfl rfl rfl (fun _ _ _ k=>k.eq1 13 20 rfl) (fun _=>rfl))<| .o1 (su rfl rfl rfl (fun _ _ _ k=>k.eq1 13 20 rfl) (fun _=>rfl))<| .o1 (su rfl rfl rfl (fun _ _ _ k=>k.eq1 13 20 rfl) (fun _=>rfl))<| .o1 (su rfl rfl rfl (fun _ _ _ k=>k.eq1 13 20 rfl) (fun _=>rfl))<| .o1 (su rfl rfl rfl (fun _ _ _ k=>k.eq1 13 20 rfl) (fun _=>rfl))<| .S<| .V (fun p k=>v_pickT rfl (k.eq1 10 17 rfl) rfl)<| .T (fun k=>v_pickT rfl (k.eq1 2 9 rfl) (k.eq1 22 29 rfl))<| .B 23 .nil
 refine aftI ab ag ac fun ce cf bN aQ aR bO aS=>?_
 have bq:=aS.g 24 2
 refine ai _ _<| wp_ret (ret_k aQ (v:=.bool true) (res_t rfl bq _) ?_)
 have hix:((ma.length:Int) - 1).toNat=ma.length - 1:=by omega
 have q8:decide (ma.length≤8)=true:=decide_eq_true (by omega)
 have q0:decide (ma.length=0)=true:=decide_eq_true (by omega)
 have q1:decide (0 < ma.length)=false:=decide_eq_false (by omega)
 refine ⟨?_,aR⟩
 rw [show mayB a ma=true from by unfold mayB; simp only [q8,q0,q1,af]; first|rfl|(exfalso; omega)]
 have aw:=oF ae
 rcases bc (decide ((ma.length:Int)≤0)) with ak|ak
 have ay:=oT ak
 refine wA tr25 [] 31 [ve (iv (ma.length:Int)),vT,vT,ve (iv (ma.length:Int)),vF,vF,vU,vU,vU,vF,vF,ve (iv (ma.length:Int)),vF,vF,vU,vU,vU,vU,vU,vU,vU,vF,vF,vF,vF] ab ?_ ?_
 exact .M aa<| .b 0 (r_leqK ad)<| .N 1<| .gm (fun k=>k.eq1 2 9 rfl) (fun k=>k.fx 3 aa)<| .V (fun p k=>v_bin rfl (k.eq1 3 10 rfl) rfl (fun _=>rfl) (r_eql ae))<| .gm (fun k=>k.eq1 2 9 rfl) (fun k=>k.eq1 4 11 rfl)<| .S<| .S<| .S<| .V (fun p k=>v_pickF rfl (k.eq1 5 12 rfl) rfl)<| .gm (fun k=>k.eq1 2 9 rfl) (fun k=>k.eq1 9 16 rfl)<| .gm (fun k=>k.eq1 10 17 rfl) (fun k=>k.fx 3 aa)<| .V (fun p k=>v_bin rfl (k.eq1 11 18 rfl) rfl (fun _=>rfl) (r_gtrK ak))<| .gm (fun k=>k.eq1 10 17 rfl) (fun k=>k.eq1 12 19 rfl)<| .S<| .S<| .S<| .S<| .S<| .S<| .S<| .V (fun p k=>v_pickF rfl (k.eq1 13 20 rfl) rfl)<| .V (fun p k=>v_pickF rfl (k.eq1 10 17 rfl) (k.eq1 21 28 rfl))<| .T (fun k=>v_pickT rfl (k.eq1 2 9 rfl) (k.eq1 22 29 rfl))<| .B 23 .nil
 refine aftI ab ag ac fun ch ci bP aT aU bQ aV=>?_
 have br:=aV.g 24 2
 refine ai _ _<| wp_ret (ret_k aT (v:=.bool false) (res_t rfl br _) ?_)
 have hix:((ma.length:Int) - 1).toNat=ma.length - 1:=by omega
 have q8:decide (ma.length≤8)=true:=decide_eq_true (by omega)
 have q0:decide (ma.length=0)=false:=decide_eq_false (by omega)
 have q1:decide (0 < ma.length)=true:=decide_eq_true (by omega)
 refine ⟨?_,aU⟩
 rw [show mayB a ma=false from by unfold mayB; simp only [q8,q0,q1]; first|rfl|(exfalso; omega)]
 have ay:=oF ak
 rcases bc (decide (((ma.getD (((ma.length:Int) - 1:Int).toNat) 0:Nat):Int)=0)) with an|an
 have ap:=oT an
 refine wp_g0 (.replicate 25 true) [] 31
  [ve (iv (ma.length:Int)),vT,vT,ve (iv (ma.length:Int)),vF,vF,vU,vU,vU,vF,vF,ve (iv (ma.length:Int)),vT,vT,ve (.pointer (some ⟨q9,1,none⟩)),ve (sv Aa ma ca),ve (iv (ma.length:Int)),ve (iv ((ma.length:Int) - 1)),
  (EP (.int .u32 ((ma.getD (((ma.length:Int) - 1:Int).toNat) 0:Nat):Int))),ve (.int .u32 ((ma.getD (((ma.length:Int) - 1:Int).toNat) 0:Nat):Int)),vF,vF,vF,vF,vF] ab (.eq (.eq (.eq (.eq (.eq (.eq (.eq (.eq (.eq (.eq (.eq (.eq (.eq (.eq (.eq (.eq (.eq (.eq (.cons (fun _ _ _ n ⟨_,_,e,h⟩=>⟨_,_,e,h.new_ n⟩) (.eq (.eq (.eq (.eq (.eq (.eq .nil))))))))))))))))))))))))) ?_ ?_
 refine .M aa<| .b 0 (r_leqK ad)<| .N 1<| .gm (fun k=>k.eq1 2 9 rfl) (fun k=>k.fx 3 aa)<| .V (fun p k=>v_bin rfl (k.eq1 3 10 rfl) rfl (fun _=>rfl) (r_eql ae))<| .gm (fun k=>k.eq1 2 9 rfl) (fun k=>k.eq1 4 11 rfl)<| .S<| .S<| .S<| .V (fun p k=>v_pickF rfl (k.eq1 5 12 rfl) rfl)<| .gm (fun k=>k.eq1 2 9 rfl) (fun k=>k.eq1 9 16 rfl)<| .gm (fun k=>k.eq1 10 17 rfl) (fun k=>k.fx 3 aa)<| .V (fun p k=>v_bin rfl (k.eq1 11 18 rfl) rfl (fun _=>rfl) (r_gtrK ak))<| .gm (fun k=>k.eq1 10 17 rfl) (fun k=>k.eq1 12 19 rfl)<| .gf (fun k=>k.eq1 13 20 rfl) (fun k=>k.fx 1 al)<| .V (fun p k=>v_load rfl (k.eq1 14 21 rfl) (l_one isAgg24 ((ah.new_ p).cell 1)))<| .gm (fun k=>k.eq1 13 20 rfl) (fun k=>k.fx 3 aa)<| .V (fun p k=>v_bin rfl (k.eq1 16 23 rfl) rfl (fun _=>rfl) (r_sub rfl (by omega))) ?_
 refine .o1 (tg rfl rfl rfl (fun _ _ k=>k.eq1 13 20 rfl) fun _ w hn k=>(by
  exact x_eaddr (k:=.u32) rfl elW (k.eq1 15 22 rfl) (k.eq1 17 24 rfl) (hra.new_ (ac.transNew hn)) (by omega) fun bu bv hme=>⟨bu,bv,rfl,hme⟩)) ?_
 refine .o1 (tg rfl rfl rfl (fun _ _ k=>k.eq1 13 20 rfl) fun _ w hn k=>(by
  obtain⟨cj,cl,bw,aW⟩:=k.G 18 25
  exact⟨_,v_load rfl bw (l_one isAgg56 aW.1),rfl⟩)) ?_
 exact .V (fun p k=>v_bin rfl (k.eq1 19 26 rfl) rfl (fun _=>rfl) (r_neq an))<| .V (fun p k=>v_pickT rfl (k.eq1 13 20 rfl) (k.eq1 20 27 rfl))<| .V (fun p k=>v_pickF rfl (k.eq1 10 17 rfl) (k.eq1 21 28 rfl))<| .T (fun k=>v_pickT rfl (k.eq1 2 9 rfl) (k.eq1 22 29 rfl))<| .B 23 .nil
 refine aftI ab ag ac fun cm cn bR aX aY bS aZ=>?_
 have bx:=aZ.g 24 2
 refine ai _ _<| wp_ret (ret_k aX (v:=.bool false) (res_t rfl bx _) ?_)
 have hix:((ma.length:Int) - 1).toNat=ma.length - 1:=by omega
 have q8:decide (ma.length≤8)=true:=decide_eq_true (by omega)
 have q0:decide (ma.length=0)=false:=decide_eq_false (by omega)
 have q1:decide (0 < ma.length)=true:=decide_eq_true (by omega)
 rw [hix] at ap
 have q2:decide (ma.getD (ma.length - 1) 0 ≠ 0)=false:=decide_eq_false (by omega)
 refine ⟨?_,aY⟩
 rw [show mayB a ma=false from by unfold mayB; simp only [q8,q0,q1,q2]; first|rfl|(exfalso; omega)]
 have ap:=oF an
 refine wp_g0 (.replicate 25 true) [] 31
  [ve (iv (ma.length:Int)),vT,vT,ve (iv (ma.length:Int)),vF,vF,vU,vU,vU,vF,vF,ve (iv (ma.length:Int)),vT,vT,ve (.pointer (some ⟨q9,1,none⟩)),ve (sv Aa ma ca),ve (iv (ma.length:Int)),ve (iv ((ma.length:Int) - 1)),
  (EP (.int .u32 ((ma.getD (((ma.length:Int) - 1:Int).toNat) 0:Nat):Int))),ve (.int .u32 ((ma.getD (((ma.length:Int) - 1:Int).toNat) 0:Nat):Int)),vT,vT,vT,vT,vT] ab (.eq (.eq (.eq (.eq (.eq (.eq (.eq (.eq (.eq (.eq (.eq (.eq (.eq (.eq (.eq (.eq (.eq (.eq (.cons (fun _ _ _ n ⟨_,_,e,h⟩=>⟨_,_,e,h.new_ n⟩) (.eq (.eq (.eq (.eq (.eq (.eq .nil))))))))))))))))))))))))) ?_ ?_
 refine .M aa<| .b 0 (r_leqK ad)<| .N 1<| .gm (fun k=>k.eq1 2 9 rfl) (fun k=>k.fx 3 aa)<| .V (fun p k=>v_bin rfl (k.eq1 3 10 rfl) rfl (fun _=>rfl) (r_eql ae))<| .gm (fun k=>k.eq1 2 9 rfl) (fun k=>k.eq1 4 11 rfl)<| .S<| .S<| .S<| .V (fun p k=>v_pickF rfl (k.eq1 5 12 rfl) rfl)<| .gm (fun k=>k.eq1 2 9 rfl) (fun k=>k.eq1 9 16 rfl)<| .gm (fun k=>k.eq1 10 17 rfl) (fun k=>k.fx 3 aa)<| .V (fun p k=>v_bin rfl (k.eq1 11 18 rfl) rfl (fun _=>rfl) (r_gtrK ak))<| .gm (fun k=>k.eq1 10 17 rfl) (fun k=>k.eq1 12 19 rfl)<| .gf (fun k=>k.eq1 13 20 rfl) (fun k=>k.fx 1 al)<| .V (fun p k=>v_load rfl (k.eq1 14 21 rfl) (l_one isAgg24 ((ah.new_ p).cell 1)))<| .gm (fun k=>k.eq1 13 20 rfl) (fun k=>k.fx 3 aa)<| .V (fun p k=>v_bin rfl (k.eq1 16 23 rfl) rfl (fun _=>rfl) (r_sub rfl (by omega))) ?_
 refine .o1 (tg rfl rfl rfl (fun _ _ k=>k.eq1 13 20 rfl) fun _ w hn k=>(by
  exact x_eaddr (k:=.u32) rfl elW (k.eq1 15 22 rfl) (k.eq1 17 24 rfl) (hra.new_ (ac.transNew hn)) (by omega) fun bB bC hme=>⟨bB,bC,rfl,hme⟩)) ?_
 refine .o1 (tg rfl rfl rfl (fun _ _ k=>k.eq1 13 20 rfl) fun _ w hn k=>(by
  obtain⟨co,cp,bD,a1⟩:=k.G 18 25
  exact⟨_,v_load rfl bD (l_one isAgg56 a1.1),rfl⟩)) ?_
 exact .V (fun p k=>v_bin rfl (k.eq1 19 26 rfl) rfl (fun _=>rfl) (r_neq an))<| .V (fun p k=>v_pickT rfl (k.eq1 13 20 rfl) (k.eq1 20 27 rfl))<| .V (fun p k=>v_pickF rfl (k.eq1 10 17 rfl) (k.eq1 21 28 rfl))<| .T (fun k=>v_pickT rfl (k.eq1 2 9 rfl) (k.eq1 22 29 rfl))<| .B 23 .nil
 refine aftI ab ag ac fun cq cr bT a3 a4 bU a5=>?_
 have bE:=a5.g 24 2
 refine ai _ _<| wp_ret (ret_k a3 (v:=.bool true) (res_t rfl bE _) ?_)
 have hix:((ma.length:Int) - 1).toNat=ma.length - 1:=by omega
 have q8:decide (ma.length≤8)=true:=decide_eq_true (by omega)
 have q0:decide (ma.length=0)=false:=decide_eq_false (by omega)
 have q1:decide (0 < ma.length)=true:=decide_eq_true (by omega)
 rw [hix] at ap
 have q2:decide (ma.getD (ma.length - 1) 0 ≠ 0)=true:=decide_eq_true (by omega)
 refine ⟨?_,a4⟩
 rw [show mayB a ma=true from by unfold mayB; simp only [q8,q0,q1,q2]; first|rfl|(exfalso; omega)]
 have av:=oF ad
 refine wA tr25 [] 31 [ve (iv (ma.length:Int)),vF,vF,vU,vU,vU,vU,vU,vU,vU,vU,vU,vU,vU,vU,vU,vU,vU,vU,vU,vU,vU,vU,vF,vF] ab ?_ ?_
 exact .M aa<| .b 0 (r_leqK ad)<| .N 1<| .S<| .S<| .S<| .o1 (su rfl rfl rfl (fun _ _ _ k=>k.eq1 5 12 rfl) (fun _=>rfl))<| .o1 (su rfl rfl rfl (fun _ _ _ k=>k.eq1 5 12 rfl) (fun _=>rfl))<| .o1 (su rfl rfl rfl (fun _ _ _ k=>k.eq1 5 12 rfl) (fun _=>rfl))<| .S<| .S<| .o1 (su rfl rfl rfl (fun _ _ _ k=>k.eq1 10 17 rfl) (fun _=>rfl))<| .o1 (su rfl rfl rfl (fun _ _ _ k=>k.eq1 10 17 rfl) (fun _=>rfl))<| .o1 (su rfl rfl rfl (fun _ _ _ k=>k.eq1 10 17 rfl) (fun _=>rfl))<| .o1 (su rfl rfl rfl (fun _ _ _ k=>k.eq1 13 20 rfl) (fun _=>rfl))<| .o1 (su rfl rfl rfl (fun _ _ _ k=>k.eq1 13 20 rfl) (fun _=>rfl))<| .o1 (su rfl rfl rfl (fun _ _ _ k=>k.eq1 13 20 rfl) (fun _=>rfl))<| .o1 (su rfl rfl rfl (fun _ _ _ k=>k.eq1 13 20 rfl) (fun _=>rfl))<| .o1 (su rfl rfl rfl (fun _ _ _ k=>k.eq1 13 20 rfl) (fun _=>rfl))<| .o1 (su rfl rfl rfl (fun _ _ _ k=>k.eq1 13 20 rfl) (fun _=>rfl))<| .o1 (su rfl rfl rfl (fun _ _ _ k=>k.eq1 13 20 rfl) (fun _=>rfl))<| .o1 (su rfl rfl rfl (fun _ _ _ k=>k.eq1 10 17 rfl) (fun _=>rfl))<| .S<| .T (fun k=>v_pickF rfl (k.eq1 2 9 rfl) rfl)<| .B 23 .nil
 refine aftI ab ag ac fun ct cu bV a6 a7 bW a8=>?_
 have bF:=a8.g 24 2
 refine ai _ _<| wp_ret (ret_k a6 (v:=.bool false) (res_t rfl bF _) ?_)
 have hix:((ma.length:Int) - 1).toNat=ma.length - 1:=by omega
 have q8:decide (ma.length≤8)=false:=decide_eq_false (by omega)
 refine ⟨?_,a7⟩
 rw [show mayB a ma=false from by unfold mayB; simp only [q8]; first|rfl|(exfalso; omega)]
def sgood_c_P (a:Bool) (Aa:Option Addr) (ma:List Nat) (ca:Nat) (w:World) (en:Ending) (w':World):Prop:=∃ (Ar0:Option Addr) (cr0:Nat),en=.returned (.agg #[.bool (decide (goodI a ma < 0)),sv Ar0 (canon (goodI a ma).natAbs) cr0])∧SRow w' .u32 Ar0 (canon (goodI a ma).natAbs) cr0∧New w w'
theorem sgood_c (a:Bool) (Aa:Option Addr) (ma:List Nat) (ca:Nat) (w:World) (hra:SRow w .u32 Aa ma ca) (ha:Limbs ma):Calls prog 110 #[.agg #[.bool a,sv Aa ma ca]] w (sgood_c_P a Aa ma ca w):=by
 refine enter_abs func110 rfl fun a0 ad aY hp=>?_
 have ad:a0.tmps.size=7:=ad
 have ae:New w w:=Upd.refl _ _
 have hp0:a0.eval (.tmp 0)=.agg #[.bool a,sv Aa ma ca]:=hp 0 _ rfl
 refine wk fun K1 aZ=>?_
 refine wB tr2 [] [] 7 [IsNew w 26 [.bool a,sv Aa ma ca],IsNew w 26 [.bool false,sv none ([]) 0]] [0,1] ad ?_ heN ?_
 exact .X hp0<| .Y .nil
 refine aftI ad aY ae fun a2 w3 ar a1 af be ag=>?_
 obtain⟨q9,h8,az,ah⟩:=ag.G 0 1
 obtain⟨a3,au,aA,aB⟩:=ag.G 1 2
 have hne16:=ag.ne 0 1 1 2 h8 au
 have a7:=Nat.le_trans ae.size az
 have a8:=Nat.le_trans ae.size aA
 refine aZ _ _ <| wk fun bf aC=>?_
 refine wk fun bg aD=>?_
 refine wA tr2 [] 7 [ve (.agg #[.bool a,sv Aa ma ca]),ve (.bool (mayB a ma))] ar ?_ ?_
 exact .L6 h8 ah<| .C 0 (fun n=>sMay_c a _ ma _ _ (hra.new_ (af.transNew n))) .nil
 refine aftI ar a1 af fun bh bi ab ai aj ak ac=>?_
 have⟨a4,av⟩:=ac.f2 h8 au
 have aw:=ac.g 1 4
 have⟨aE,al⟩:=nw2 ak ah aB
 refine aD _ _ ?_
 rcases bc (mayB a ma) with aa|aa
 have aF:=hB aw aa
 refine wt aF<| wk fun bj aG=>?_
 refine wA [true,false] [(1,false)] 7 [ve (.agg #[.bool a,sv Aa ma ca]),vt] ab ?_ ?_
 exact .L6 a4 aE<| .off .nil
 refine aftI ab ai aj fun bk bl a9 aH aI aJ am=>?_
 have ax:=am.f1 av
 have a5:=am.g 0 5
 have aK:=al.new_ aJ
 refine sS6 ax a5 aK fun bm aL aM ba=>?_
 have an:=aI.tR aM
 refine aG _ _<| wp_ret (ret_k aH (v:=.agg #[.bool a,sv Aa ma ca]) (res_c rfl ax (l_two isAgg26 sizeOf26 aL)) ?_)
 have hz1:(decide (goodI a ma < 0))=a:=by rw [neg_good ha,aa]; rfl
 have hz2:canon (goodI a ma).natAbs=ma:=by rw [canon_good ha,aa]; rfl
 exact⟨Aa,ca,by rw [hz1,hz2],by rw [hz2]; exact (hra.new_ an),an⟩
 have aO:=hB aw aa
 refine wf aO<| ws<| aC _ _<| wk fun bo aP=>?_
 refine wA [true,false] [(1,false)] 7 [ve (.agg #[.bool false,sv none ([]) 0]),vt] ab ?_ ?_
 exact .Z<| .off .nil
 refine aftI ab ai aj fun bp bq bb aQ aR aS ao=>?_
 have ay:=ao.f1 av
 have a6:=ao.g 0 6
 have aT:=al.new_ aS
 refine sS6 ay a6 aT fun br aU aV bd=>?_
 have aX:=aR.tR aV
 refine aP _ _<| wp_ret (ret_k aQ (v:=.agg #[.bool false,sv none ([]) 0]) (res_c rfl ay (l_two isAgg26 sizeOf26 aU)) ?_)
 have hz1:(decide (goodI a ma < 0))=false:=by rw [neg_good ha,aa]; rfl
 have hz2:canon (goodI a ma).natAbs=[]:=by rw [canon_good ha,aa]; rfl
 exact⟨none,0,by rw [hz1,hz2],by rw [hz2]; exact (SRow.nil _ _),aX⟩
theorem sword_c (Am:Option Addr) (m:List Nat) (cm:Nat) (i:Int) (w:World) (hrm:SRow w .u32 Am m cm) (hl:Limbs m) (hi:0≤i):Calls prog 189 #[sv Am m cm,iv i] w (IsRet (.int .u64 ((m.getD i.toNat 0:Nat):Int)) w):=by
 refine enter_abs func189 rfl fun a0 ae az hp=>?_
 have ae:a0.tmps.size=14:=ae
 have aA:New w w:=Upd.refl _ _
 have hp0:a0.eval (.tmp 0)=sv Am m cm:=hp 0 _ rfl
 have hp1:a0.eval (.tmp 1)=iv i:=hp 1 _ rfl
 have hb:=hl.at i.toNat
 refine wk fun K1 aB=>?_
 refine wA tr1 [] 14 [ve (.int .u64 0)] ae ?_ ?_
 exact .c .nil
 refine aftI ae az aA fun a2 w3 ah aC ak aN ai=>?_
 have⟨h8,h9⟩:=ai.f2 hp0 hp1
 refine aB _ _ <| wk fun aO al=>?_
 refine wk fun aP am=>?_
 refine wA tr4 [] 14 [ve (iv i),ve (sv Am m cm),ve (iv (m.length:Int)),ve (.bool (decide (i < (m.length:Int))))] ah ?_ ?_
 exact .M h9<| .M h8<| .T (fun k=>v_lenR rfl elW (k.eq1 1 6 rfl))<| .T (fun k=>v_bin rfl (k.eq1 0 5 rfl) (k.eq1 2 7 rfl) (fun _=>rfl) (r_lssK rfl)) .nil
 refine aftI ah aC ak fun aQ aR ab af ac aI ad=>?_
 have⟨aD,aE⟩:=ad.f2 h8 h9
 have aj:=ad.g 3 8
 refine am _ _ ?_
 rcases bc (decide (i < (m.length:Int))) with aa|aa
 have ag:=oT aa
 have an:=hB aj aa
 refine wt an<| wk fun aS ao=>?_
 refine wp_g0 [true,true,true,true,true,true] [] 14
  [ve (sv Am m cm),ve (iv i),
  (EP (.int .u32 ((m.getD ((i:Int).toNat) 0:Nat):Int))),ve (.int .u32 ((m.getD ((i:Int).toNat) 0:Nat):Int)),ve (.int .u64 ((m.getD ((i:Int).toNat) 0:Nat):Int)),ve (.int .u64 ((m.getD ((i:Int).toNat) 0:Nat):Int))] ab (.eq (.eq (.cons (fun _ _ _ n ⟨_,_,e,h⟩=>⟨_,_,e,h.new_ n⟩) (.eq (.eq (.eq .nil)))))) ?_ ?_
 refine .M aD<| .M aE ?_
 refine .o1 (tk rfl rfl fun _ w hn k=>(by
  exact x_eaddr (k:=.u32) rfl elW (k.eq1 0 9 rfl) (k.eq1 1 10 rfl) (hrm.new_ (ac.transNew hn)) (by omega) fun b1 o2 hme=>⟨b1,o2,rfl,hme⟩)) ?_
 refine .o1 (tk rfl rfl fun _ w hn k=>(by
  obtain⟨b5,o6,e7,aF⟩:=k.G 2 11
  exact⟨_,v_load rfl e7 (l_one isAgg56 aF.1),rfl⟩)) ?_
 exact .R (fun k=>v_conv rfl (k.eq1 3 12 rfl) (n_conv (by kernel_rfl) (by kernel_rfl) (by kernel_rfl) (IntWalk.u64_in _ (by omega)))) (fun _=>rfl)<| .B 4 .nil
 refine aftI ab af ac fun aT aU aJ ap aq aK ar=>?_
 have aG:=ar.g 5 4
 refine ao _ _<| wp_ret (ret_k ap (v:=.int .u64 ((m.getD ((i:Int).toNat) 0:Nat):Int)) (res_t rfl aG _) ?_)
 exact⟨rfl,aq⟩
 have ag:=oF aa
 have au:=hB aj aa
 refine wf au<| ws<| al _ _<| wk fun aV av=>?_
 refine wA tr1 [] 14 [ve (.int .u64 0)] ab ?_ ?_
 exact .c .nil
 refine aftI ab af ac fun aW aX aL aw ax aM ay=>?_
 have aH:=ay.g 0 4
 refine av _ _<| wp_ret (ret_k aw (v:=.int .u64 0) (res_t rfl aH _) ?_)
 have hz:m.getD i.toNat 0=0:=zgetD_far (by omega)
 exact⟨by rw [hz]; rfl,ax⟩
def strim_c_P (Am:Option Addr) (m:List Nat) (cm:Nat) (w:World) (en:Ending) (w':World):Prop:=∃ (Ar0:Option Addr) (cr0:Nat),en=.returned (sv Ar0 (canon (val m)) cr0)∧SOwn w' w.heap.size 56 .u32 Ar0 (canon (val m)) cr0∧New w w'
theorem strim_c (Am:Option Addr) (m:List Nat) (cm:Nat) (w:World) (hrm:SRow w .u32 Am m cm) (hl:Limbs m) (hs:m.length≤1000000):Calls prog 168 #[sv Am m cm] w (strim_c_P Am m cm w):=by
 refine enter_abs func168 rfl fun a0 aB bU hp=>?_
 have aB:a0.tmps.size=23:=aB
 have bV:New w w:=Upd.refl _ _
 have hp0:a0.eval (.tmp 0)=sv Am m cm:=hp 0 _ rfl
 refine wk fun K1 bW=>?_
 refine wA tr1 [] 23 [ve (sv none ([]) 0)] aB ?_ ?_
 exact .c .nil
 refine aftI aB bU bV fun a2 w3 bj bX bY cE bZ=>?_
 have h8:=bZ.f1 hp0
 refine bW _ _ <| wk fun cF br=>?_
 refine wA tr3 [] 23 [ve (sv Am m cm),ve (iv (m.length:Int)),ve (iv (m.length:Int))] bj ?_ ?_
 exact .M h8<| .T (fun k=>v_lenR rfl elW (k.eq1 0 4 rfl))<| .B 1 .nil
 refine aftI bj bX bY fun cG cH bs bt bu cs aI=>?_
 have b0:=aI.f1 h8
 have b1:=aI.g 2 3
 refine br _ _ <| wk fun cI aJ=>?_
 refine wb<| wp_loopX (fun (mm:Nat) (aa:Act) (ww:World)=>∃ (kk:Nat),mm=kk∧aa.tmps.size=23∧aa.defers=[]∧New w ww∧aa.eval (.tmp 3)=iv (kk:Int)∧aa.eval (.tmp 0)=sv Am m cm∧(kk≤m.length)∧(val (m.take kk)=val m)) (fun mm=>mm) ⟨_,⟨m.length,rfl,bs,bt,bu,b1,b0,(Nat.le_refl _),(by rw [List.take_length])⟩⟩ ?_
 rintro mm cJ cK ⟨kk,hmm,al,aK,ar,aq,aL,hk,hv⟩
 refine wk fun cL bv=>wk fun cM aM=>?_
 rcases bc (decide ((kk:Int)≤0)) with aj|aj
 have a1:=oT aj
 refine wA tr10 [] 23 [ve (iv (kk:Int)),vF,vF,vU,vU,vU,vU,vU,vU,vF] al ?_ ?_
 exact .M aq<| .b 0 (r_gtrK aj)<| .N 1<| .S<| .S<| .S<| .S<| .S<| .S<| .T (fun k=>v_pickF rfl (k.eq1 2 8 rfl) rfl) .nil
 refine aftI al aK ar fun cN bk aN bw au ct av=>?_
 have⟨b2,b3⟩:=av.f2 aq aL
 have b4:=av.g 9 15
 refine aM _ _<| wf b4<| wp_exit ?_
 refine aJ _ _<| wk fun cO bx=>?_
 refine wp_g0 [true,true,true,true,false,false] [(4,false),(5,true)] 23
  [(OP bk.heap.size 56 .u32 ([])),ve (sv Am m cm),ve (iv (kk:Int)),
  (RP .u32 (m.take kk)),vt,vt] aN (.cons (fun _ _ _ n ⟨_,_,e,h⟩=>⟨_,_,e,h.new_ n⟩) (.eq (.eq (.cons (fun _ _ _ n ⟨_,_,e,h⟩=>⟨_,_,e,h.new_ n⟩) (.tt (.tt .nil)))))) ?_ ?_
 refine .o1 (tkA rfl (noG rfl) fun _ w hn k=>(by
  exact x_bslice0 .u32 rfl parts0 elW fun A1 c2 W' hmo=>⟨A1,c2,rfl,(hmo.more hn.size)⟩)) ?_
 refine .M b3<| .M b2 ?_
 refine .o1 (tk rfl rfl fun _ w hn k=>(by
  exact x_cutH (k:=.u32) rfl elW (k.eq1 1 19 rfl) (k.eq1 2 20 rfl) (hrm.new_ (au.transNew hn)) (by omega) fun A5 c6 hmr=>⟨A5,c6,rfl,hmr⟩)) ?_
 exact .off<| .off .nil
 refine aftI aN bw au fun aC cP aO bz aP cu aQ=>?_
 obtain⟨b5,bA,aR,bB⟩:=aQ.G 0 18
 have aR:aC.eval (.tmp 18)=sv b5 ([]) bA:=aR
 obtain⟨b6,bC,aS,bD⟩:=aQ.G 3 21
 have aS:aC.eval (.tmp 21)=sv b6 (m.take kk) bC:=aS
 have aT:=bB.more au.size
 have hw66:=aP.size
 refine st_act rfl rfl fun cQ bE=>a_append (k:=.u32) (b:=w.heap.size) rfl elW aR aT aS bD (by first|omega|(simp only [List.length_nil,List.length_cons,List.length_append,List.length_take,List.length_drop,List.length_replicate,List.length_set]; omega)) (by first|omega|(simp only [List.length_nil,List.length_cons,List.length_append,List.length_take,List.length_drop,List.length_replicate,List.length_set]; omega)) hw66 fun ag ac cR bF hg62=>bE _ _ trivial ?_
 have bG:=aP.ownGrown aT hg62
 obtain⟨aU,am⟩:∃ a',a'=aC.put (some 22) (sv ag ([] ++ (m.take kk)) ac):=⟨_,rfl⟩
 have⟨aV,bH⟩:=pz2 am aO bz
 have bl:=s7 am aO
 show stepsTo _ _ _ _ _ (aC.put (some 22) (sv ag ([] ++ (m.take kk)) ac)) _
 rw [← am]
 refine sP bl aV bH fun b7 cv bI ak b8=>?_
 have cS:=ak.q bl
 refine bx _ _<| wp_ret (ret_k bI (v:=sv ag ([] ++ (m.take kk)) ac) (res_t rfl b8 _) ?_)
 have hsp:([] ++ (m.take kk))=canon (val m):=ztrim_end hl hk hv (Or.inl (by omega))
 exact⟨ag,ac,by rw [← hsp],by rw [← hsp]; exact bF,bG⟩
 have a1:=oF aj
 refine wp_g0 (.replicate 10 true) [] 23
  [ve (iv (kk:Int)),vT,vT,ve (sv Am m cm),ve (iv (kk:Int)),ve (iv ((kk:Int) - 1)),
  (EP (.int .u32 ((m.getD (((kk:Int) - 1:Int).toNat) 0:Nat):Int))),ve (.int .u32 ((m.getD (((kk:Int) - 1:Int).toNat) 0:Nat):Int)),ve (.bool (decide (((m.getD (((kk:Int) - 1:Int).toNat) 0:Nat):Int)=0))),ve (.bool (decide (((m.getD (((kk:Int) - 1:Int).toNat) 0:Nat):Int)=0)))] al (.eq (.eq (.eq (.eq (.eq (.eq (.cons (fun _ _ _ n ⟨_,_,e,h⟩=>⟨_,_,e,h.new_ n⟩) (.eq (.eq (.eq .nil)))))))))) ?_ ?_
 refine .M aq<| .b 0 (r_gtrK aj)<| .N 1<| .gm (fun k=>k.eq1 2 8 rfl) (fun k=>k.fx 0 aL)<| .gm (fun k=>k.eq1 2 8 rfl) (fun k=>k.fx 3 aq)<| .V (fun p k=>v_bin rfl (k.eq1 4 10 rfl) rfl (fun _=>rfl) (r_sub rfl (by omega))) ?_
 refine .o1 (tg rfl rfl rfl (fun _ _ k=>k.eq1 2 8 rfl) fun _ w hn k=>(by
  exact x_eaddr (k:=.u32) rfl elW (k.eq1 3 9 rfl) (k.eq1 5 11 rfl) (hrm.new_ (ar.transNew hn)) (by omega) fun b9 cc hme=>⟨b9,cc,rfl,hme⟩)) ?_
 refine .o1 (tg rfl rfl rfl (fun _ _ k=>k.eq1 2 8 rfl) fun _ w hn k=>(by
  obtain⟨cT,cU,cd,bJ⟩:=k.G 6 12
  exact⟨_,v_load rfl cd (l_one isAgg56 bJ.1),rfl⟩)) ?_
 exact .V (fun p k=>v_bin rfl (k.eq1 7 13 rfl) rfl (fun _=>rfl) (r_eql rfl))<| .T (fun k=>v_pickT rfl (k.eq1 2 8 rfl) (k.eq1 8 14 rfl)) .nil
 refine aftI al aK ar fun cV bm an aW ao cw aw=>?_
 have⟨aX,bn⟩:=aw.f2 aq aL
 have bo:=aw.g 9 15
 refine aM _ _ ?_
 rcases bc (decide (((m.getD (((kk:Int) - 1:Int).toNat) 0:Nat):Int)=0)) with af|af
 have a3:=oT af
 have bK:=hB bo af
 refine wt bK<| ws<| bv _ _<| wb<| wp_g0 [true,true,false] [(2,true)] 23
  [ve (iv (kk:Int)),ve (iv ((kk:Int) - 1)),vt] an (.eq (.eq (.tt .nil))) ?_ ?_
 exact .M aX<| .R (fun k=>v_bin rfl (k.eq1 0 16 rfl) rfl (fun _=>rfl) (r_sub rfl (by omega))) (fun _=>rfl)<| .off .nil
 refine aftI an aW ao fun bp cW aY bL bM cx ax=>?_
 have⟨cX,ce⟩:=ax.f2 aX bn
 have bq:=ax.g 1 17
 refine sP bq aY bL fun bN a4 a5 ae bP=>?_
 have⟨bO,cy⟩:=ae.q2 ce bq
 refine st_nil ?_
 refine blk_n ?_
 refine then_n ?_
 exact⟨_,⟨kk - 1,rfl,a4,a5,bM,(bP.trans (congrArg (Value.int .i64) (by omega))),bO,(by omega),(ztrim_dn (by omega) af hv)⟩,(by omega)⟩
 have a3:=oF af
 have a6:=hB bo af
 refine wf a6<| wp_exit ?_
 refine aJ _ _<| wk fun cz a7=>?_
 refine wp_g0 [true,true,true,true,false,false] [(4,false),(5,true)] 23
  [(OP bm.heap.size 56 .u32 ([])),ve (sv Am m cm),ve (iv (kk:Int)),
  (RP .u32 (m.take kk)),vt,vt] an (.cons (fun _ _ _ n ⟨_,_,e,h⟩=>⟨_,_,e,h.new_ n⟩) (.eq (.eq (.cons (fun _ _ _ n ⟨_,_,e,h⟩=>⟨_,_,e,h.new_ n⟩) (.tt (.tt .nil)))))) ?_ ?_
 refine .o1 (tkA rfl (noG rfl) fun _ w hn k=>(by
  exact x_bslice0 .u32 rfl parts0 elW fun cl cn W' hmo=>⟨cl,cn,rfl,(hmo.more hn.size)⟩)) ?_
 refine .M bn<| .M aX ?_
 refine .o1 (tk rfl rfl fun _ w hn k=>(by
  exact x_cutH (k:=.u32) rfl elW (k.eq1 1 19 rfl) (k.eq1 2 20 rfl) (hrm.new_ (ao.transNew hn)) (by omega) fun co cp hmr=>⟨co,cp,rfl,hmr⟩)) ?_
 exact .off<| .off .nil
 refine aftI an aW ao fun ap cA aD a8 aE cq aF=>?_
 obtain⟨bQ,a9,ay,ba⟩:=aF.G 0 18
 have ay:ap.eval (.tmp 18)=sv bQ ([]) a9:=ay
 obtain⟨bR,bb,az,bd⟩:=aF.G 3 21
 have az:ap.eval (.tmp 21)=sv bR (m.take kk) bb:=az
 have aG:=ba.more ao.size
 have hw133:=aE.size
 refine st_act rfl rfl fun cB be=>a_append (k:=.u32) (b:=w.heap.size) rfl elW ay aG az bd (by first|omega|(simp only [List.length_nil,List.length_cons,List.length_append,List.length_take,List.length_drop,List.length_replicate,List.length_set]; omega)) (by first|omega|(simp only [List.length_nil,List.length_cons,List.length_append,List.length_take,List.length_drop,List.length_replicate,List.length_set]; omega)) hw133 fun ad ab cC bf hg129=>be _ _ trivial ?_
 have bg:=aE.ownGrown aG hg129
 obtain⟨aA,ai⟩:∃ a',a'=ap.put (some 22) (sv ad ([] ++ (m.take kk)) ab):=⟨_,rfl⟩
 have⟨aH,bh⟩:=pz2 ai aD a8
 have aZ:=s7 ai aD
 show stepsTo _ _ _ _ _ (ap.put (some 22) (sv ad ([] ++ (m.take kk)) ab)) _
 rw [← ai]
 refine sP aZ aH bh fun bS cr bi ah bT=>?_
 have cD:=ah.q aZ
 refine a7 _ _<| wp_ret (ret_k bi (v:=sv ad ([] ++ (m.take kk)) ab) (res_t rfl bT _) ?_)
 have hsp:([] ++ (m.take kk))=canon (val m):=ztrim_end hl hk hv (Or.inr (ztrim_nz af))
 exact⟨ad,ab,by rw [← hsp],by rw [← hsp]; exact bf,bg⟩
def smade_c_P (d:Bool) (Am:Option Addr) (m:List Nat) (cm:Nat) (w:World) (en:Ending) (w':World):Prop:=∃ (Ar0:Option Addr) (cr0:Nat),en=.returned (.agg #[.bool (decide (sgn d (val m) < 0)),sv Ar0 (canon (sgn d (val m)).natAbs) cr0])∧SRow w' .u32 Ar0 (canon (sgn d (val m)).natAbs) cr0∧New w w'
theorem smade_c (d:Bool) (Am:Option Addr) (m:List Nat) (cm:Nat) (w:World) (hrm:SRow w .u32 Am m cm) (hl:Limbs m) (hs:m.length≤1000000):Calls prog 111 #[.bool d,sv Am m cm] w (smade_c_P d Am m cm w):=by
 refine enter_abs func111 rfl fun a0 an bj hp=>?_
 have an:a0.tmps.size=16:=an
 have aJ:New w w:=Upd.refl _ _
 have hp0:a0.eval (.tmp 0)=.bool d:=hp 0 _ rfl
 have hp1:a0.eval (.tmp 1)=sv Am m cm:=hp 1 _ rfl
 refine wk fun K1 bk=>?_
 refine wB tr1 [] [] 16 [IsNew w 26 [.bool false,sv none ([]) 0]] [0] an ?_ heN ?_
 exact .Y .nil
 refine aftI an bj aJ fun a2 w3 aK bl ag bB ao=>?_
 have⟨h8,h9⟩:=ao.f2 hp0 hp1
 obtain⟨bC,bm,aP,aQ⟩:=ao.G 0 4
 have bt:=Nat.le_trans aJ.size aP
 refine bk _ _ <| wk fun bD aR=>?_
 refine wp_g0 [true,true,true] [] 16
  [ve (sv Am m cm),
  (OP w3.heap.size 56 .u32 (canon (val m))),
  (OP w3.heap.size 56 .u32 (canon (val m)))] aK (.eq (.cons (fun _ _ _ n ⟨_,_,e,h⟩=>⟨_,_,e,h.new_ n⟩) (.cons (fun _ _ _ n ⟨_,_,e,h⟩=>⟨_,_,e,h.new_ n⟩) .nil))) ?_ ?_
 refine .M h9 ?_
 refine .o1 (tkC rfl (noG rfl) rfl fun _ w hn k=>(by
  refine ⟨#[sv Am m cm],_,args1 (k.eq1 0 6 rfl),fun w=>by kernel_rfl,strim_c _ m _ _ (hrm.new_ (ag.transNew hn)) hl (by first|omega|(simp only [List.length_nil,List.length_take,List.length_drop]; omega)|(simp only [List.length_cons,List.length_nil]; omega)),?_⟩
  rintro e w' ⟨A1,c2,rfl,hmo0,hm⟩
  exact⟨_,rfl,hm,⟨A1,c2,rfl,(hmo0.more hn.size)⟩⟩)) ?_
 refine .o1 (tk rfl rfl fun _ w hn k=>(by
  obtain⟨A5,c6,e7,bo⟩:=k.G 1 7
  exact⟨_,v_assign rfl e7,⟨A5,c6,rfl,bo⟩⟩)) ?_
 exact .nil
 refine aftI aK bl ag fun bp bE ad ah ai aS aj=>?_
 have⟨aL,ap⟩:=aj.f2 h8 bm
 obtain⟨ab,aa,ae,aT⟩:=aj.G 2 5
 have ae:bp.eval (.tmp 5)=sv ab (canon (val m)) aa:=ae
 have ak:=aQ.new_ aS
 have al:=aT.more ag.size
 refine aR _ _ <| wk fun bF am=>?_
 rcases bc (d) with af|af
 have aq:=hB aL af
 rcases bc (decide (((canon (val m)).length:Int)≤0)) with ac|ac
 have aF:=oT ac
 refine wA [true,true,true,true,true,true,true,true,false] [(8,false)] 16 [vT,vT,ve (sv ab (canon (val m)) aa),ve (iv ((canon (val m)).length:Int)),vF,vF,ve (sv ab (canon (val m)) aa),ve (.agg #[.bool false,sv ab (canon (val m)) aa]),vt] ad ?_ ?_
 exact .M aq<| .N 0<| .gm (fun k=>k.eq1 1 9 rfl) (fun k=>k.fx 5 ae)<| .V (fun p k=>v_lenR rfl elW (k.eq1 2 10 rfl))<| .V (fun p k=>v_bin rfl (k.eq1 3 11 rfl) rfl (fun _=>rfl) (r_gtrK ac))<| .T (fun k=>v_pickT rfl (k.eq1 1 9 rfl) (k.eq1 4 12 rfl))<| .M ae<| .T (fun k=>v_build (ps:=[(0,.bool false),(1,sv ab (canon (val m)) aa)]) rfl (parts2 (k.eq1 5 13 rfl) (k.eq1 6 14 rfl)) (by kernel_rfl))<| .off .nil
 refine aftI ad ah ai fun bG bH bu aU aV ar au=>?_
 have aM:=au.f1 ap
 have bq:=au.g 7 15
 have⟨av,aW⟩:=nw2 ar ak al
 refine sS6 aM bq av fun bI aX aw bv=>?_
 have aZ:=aW.far av aw (by decide)
 have a1:=aV.tR aw
 refine am _ _<| wp_ret (ret_k aU (v:=.agg #[.bool false,sv ab (canon (val m)) aa]) (res_c rfl aM (l_two isAgg26 sizeOf26 aX)) ?_)
 have hz1:(decide (sgn d (val m) < 0))=false:=zmade_b2 ac
 have hz2:canon (sgn d (val m)).natAbs=(canon (val m)):=by rw [natAbs_sgn]
 exact⟨ab,aa,by rw [hz1,hz2],by rw [hz2]; exact aZ.row,a1⟩
 have aF:=oF ac
 refine wA [true,true,true,true,true,true,true,true,false] [(8,false)] 16 [vT,vT,ve (sv ab (canon (val m)) aa),ve (iv ((canon (val m)).length:Int)),vT,vT,ve (sv ab (canon (val m)) aa),ve (.agg #[.bool true,sv ab (canon (val m)) aa]),vt] ad ?_ ?_
 exact .M aq<| .N 0<| .gm (fun k=>k.eq1 1 9 rfl) (fun k=>k.fx 5 ae)<| .V (fun p k=>v_lenR rfl elW (k.eq1 2 10 rfl))<| .V (fun p k=>v_bin rfl (k.eq1 3 11 rfl) rfl (fun _=>rfl) (r_gtrK ac))<| .T (fun k=>v_pickT rfl (k.eq1 1 9 rfl) (k.eq1 4 12 rfl))<| .M ae<| .T (fun k=>v_build (ps:=[(0,.bool true),(1,sv ab (canon (val m)) aa)]) rfl (parts2 (k.eq1 5 13 rfl) (k.eq1 6 14 rfl)) (by kernel_rfl))<| .off .nil
 refine aftI ad ah ai fun bK bL bw a3 a4 ax ay=>?_
 have aN:=ay.f1 ap
 have br:=ay.g 7 15
 have⟨az,a5⟩:=nw2 ax ak al
 refine sS6 aN br az fun bM a6 aA bx=>?_
 have a8:=a5.far az aA (by decide)
 have a9:=a4.tR aA
 refine am _ _<| wp_ret (ret_k a3 (v:=.agg #[.bool true,sv ab (canon (val m)) aa]) (res_c rfl aN (l_two isAgg26 sizeOf26 a6)) ?_)
 have hz1:(decide (sgn d (val m) < 0))=true:=zmade_b3 af ac
 have hz2:canon (sgn d (val m)).natAbs=(canon (val m)):=by rw [natAbs_sgn]
 exact⟨ab,aa,by rw [hz1,hz2],by rw [hz2]; exact a8.row,a9⟩
 have ba:=hB aL af
 refine wA [true,true,true,true,true,true,true,true,false] [(8,false)] 16 [vF,vF,vU,vU,vU,vF,ve (sv ab (canon (val m)) aa),ve (.agg #[.bool false,sv ab (canon (val m)) aa]),vt] ad ?_ ?_
 exact .M ba<| .N 0<| .S<| .S<| .S<| .T (fun k=>v_pickF rfl (k.eq1 1 9 rfl) rfl)<| .M ae<| .T (fun k=>v_build (ps:=[(0,.bool false),(1,sv ab (canon (val m)) aa)]) rfl (parts2 (k.eq1 5 13 rfl) (k.eq1 6 14 rfl)) (by kernel_rfl))<| .off .nil
 refine aftI ad ah ai fun bO bP bz bb bd aB aC=>?_
 have aO:=aC.f1 ap
 have bs:=aC.g 7 15
 have⟨aD,be⟩:=nw2 aB ak al
 refine sS6 aO bs aD fun bQ bf aE bA=>?_
 have bh:=be.far aD aE (by decide)
 have bi:=bd.tR aE
 refine am _ _<| wp_ret (ret_k bb (v:=.agg #[.bool false,sv ab (canon (val m)) aa]) (res_c rfl aO (l_two isAgg26 sizeOf26 bf)) ?_)
 have hz1:(decide (sgn d (val m) < 0))=false:=zmade_b1 af
 have hz2:canon (sgn d (val m)).natAbs=(canon (val m)):=by rw [natAbs_sgn]
 exact⟨ab,aa,by rw [hz1,hz2],by rw [hz2]; exact bh.row,bi⟩
theorem wcmp_c (Aa:Option Addr) (a:List Nat) (ca:Nat) (Ab:Option Addr) (b:List Nat) (cb:Nat) (w:World) (hra:SRow w .u32 Aa a ca) (hrb:SRow w .u32 Ab b cb) (ha:Limbs a) (hb:Limbs b) (hsa:a.length≤900000) (hsb:b.length≤900000):Calls prog 187 #[sv Aa a ca,sv Ab b cb] w (IsRet (iv (cmpI (val a) (val b))) w):=by
 refine enter_abs func187 rfl fun a0 au bT hp=>?_
 have au:a0.tmps.size=30:=au
 have bU:New w w:=Upd.refl _ _
 have hp0:a0.eval (.tmp 0)=sv Aa a ca:=hp 0 _ rfl
 have hp1:a0.eval (.tmp 1)=sv Ab b cb:=hp 1 _ rfl
 refine wk fun K1 bV=>?_
 refine wA tr1 [] 30 [ve (iv 0)] au ?_ ?_
 exact .c .nil
 refine aftI au bT bU fun a2 w3 a5 bW bk cC a6=>?_
 have⟨h8,h9⟩:=a6.f2 hp0 hp1
 refine bV _ _ <| wk fun cD bl=>?_
 refine wk fun cE bm=>?_
 refine wA tr7 [] 30 [ve (sv Aa a ca),ve (iv (a.length:Int)),ve (sv Ab b cb),ve (iv (b.length:Int)),ve (iv (max (a.length:Int) (b.length:Int))),ve (iv ((max (a.length:Int) (b.length:Int)) - 1)),ve (iv ((max (a.length:Int) (b.length:Int)) - 1))] a5 ?_ ?_
 exact .M h8<| .T (fun k=>v_lenR rfl elW (k.eq1 0 8 rfl))<| .M h9<| .T (fun k=>v_lenR rfl elW (k.eq1 2 10 rfl))<| .T (fun k=>v_max rfl (k.eq1 1 9 rfl) (k.eq1 3 11 rfl))<| .R (fun k=>v_bin rfl (k.eq1 4 12 rfl) rfl (fun _=>rfl) (r_sub rfl (by omega))) (fun _=>rfl)<| .B 5 .nil
 refine aftI a5 bW bk fun cF cG bn bo bp ce ao=>?_
 have⟨bX,bY⟩:=ao.f2 h8 h9
 have bZ:=ao.g 6 5
 refine bm _ _<| wb<| wp_loopX (fun (mm:Nat) (aa:Act) (ww:World)=>∃ (n:Nat),mm=n∧aa.tmps.size=30∧aa.defers=[]∧New w ww∧aa.eval (.tmp 5)=iv ((n:Int) - 1)∧aa.eval (.tmp 0)=sv Aa a ca∧aa.eval (.tmp 1)=sv Ab b cb∧(n≤max a.length b.length)∧(Above a b n)) (fun mm=>mm) ⟨_,⟨(max a.length b.length),rfl,bn,bo,bp,(bZ.trans (congrArg (Value.int .i64) (by omega))),bX,bY,(Nat.le_refl _),above_of_len⟩⟩ ?_
 rintro mm cH cI ⟨n,hmm,al,aA,aB,av,a7,a8,hn,hab⟩
 refine wk fun cJ bq=>wk fun cK aC=>?_
 rcases bc (decide (((n:Int) - 1) < 0)) with aj|aj
 have aL:=oT aj
 refine wA tr2 [] 30 [ve (iv ((n:Int) - 1)),vF] al ?_ ?_
 exact .M av<| .b 0 (r_geqK aj) .nil
 refine aftI al aA aB fun cL cM aD br bs cf am=>?_
 have⟨cN,cO,cP⟩:=am.f3 av a7 a8
 have b0:=am.g 1 15
 refine aC _ _<| wf b0<| wp_exit ?_
 refine bl _ _<| wk fun cQ bt=>?_
 refine wA tr1 [] 30 [ve (iv 0)] aD ?_ ?_
 exact .c .nil
 refine aftI aD br bs fun cR cS ch bu bv ci bw=>?_
 have b1:=bw.g 0 4
 refine bt _ _<| wp_ret (ret_k bu (v:=iv 0) (res_t rfl b1 _) ?_)
 exact⟨by rw [show cmpI (val a) (val b)=0 from zcmp_eq hab (by omega)],bv⟩
 have aL:=oF aj
 refine wA tr2 [] 30 [ve (iv ((n:Int) - 1)),vT] al ?_ ?_
 exact .M av<| .b 0 (r_geqK aj) .nil
 refine aftI al aA aB fun cT cU aE bx ap cj an=>?_
 have⟨aF,a9,ba⟩:=an.f3 av a7 a8
 have b2:=an.g 1 15
 refine aC _ _<| wt b2<| ws ?_
 refine bq _ _<| wk fun cV bz=>wb ?_
 refine wk fun cW bA=>?_
 refine wA tr8 [] 30 [ve (sv Aa a ca),ve (iv ((n:Int) - 1)),ve (.int .u64 ((a.getD (((n:Int) - 1:Int).toNat) 0:Nat):Int)),ve (sv Ab b cb),ve (iv ((n:Int) - 1)),ve (.int .u64 ((b.getD (((n:Int) - 1:Int).toNat) 0:Nat):Int)),ve (.int .u64 ((a.getD (((n:Int) - 1:Int).toNat) 0:Nat):Int)),ve (.int .u64 ((b.getD (((n:Int) - 1:Int).toNat) 0:Nat):Int))] aE ?_ ?_
 exact .M a9<| .M aF<| .C2 0 1 (fun p=>sword_c _ _ _ ((n:Int) - 1) _ (hra.new_ (ap.transNew p)) ha (by omega))<| .M ba<| .M aF<| .C2 3 4 (fun p=>sword_c _ _ _ ((n:Int) - 1) _ (hrb.new_ (ap.transNew p)) hb (by omega))<| .B 2<| .B 5 .nil
 refine aftI aE bx ap fun cX cY aG bB bC cl ak=>?_
 have⟨b3,b4,b5⟩:=ak.f3 aF a9 ba
 have bb:=ak.g 6 6
 have bd:=ak.g 7 7
 refine bA _ _ <| wk fun cZ bD=>?_
 refine wk fun c0 bE=>?_
 refine wA tr3 [] 30 [ve (.int .u64 ((a.getD (((n:Int) - 1:Int).toNat) 0:Nat):Int)),ve (.int .u64 ((b.getD (((n:Int) - 1:Int).toNat) 0:Nat):Int)),ve (.bool (decide (((a.getD (((n:Int) - 1:Int).toNat) 0:Nat):Int) < ((b.getD (((n:Int) - 1:Int).toNat) 0:Nat):Int))))] aG ?_ ?_
 exact .M bb<| .M bd<| .T (fun k=>v_bin rfl (k.eq1 0 24 rfl) (k.eq1 1 25 rfl) (fun _=>rfl) (r_lssK rfl)) .nil
 refine aftI aG bB bC fun c1 c2 ae aq ar cm af=>?_
 have⟨be,bf,bg,bh⟩:=af.f4 b3 b4 b5 bb
 have bi:=af.f1 bd
 have bj:=af.g 2 26
 refine bE _ _ ?_
 rcases bc (decide (((a.getD (((n:Int) - 1:Int).toNat) 0:Nat):Int) < ((b.getD (((n:Int) - 1:Int).toNat) 0:Nat):Int))) with ad|ad
 have aM:=oT ad
 have bF:=hB bj ad
 refine wt bF<| wk fun c3 bG=>?_
 refine wA tr1 [] 30 [ve (iv (-1))] ae ?_ ?_
 exact .c .nil
 refine aftI ae aq ar fun c4 c5 b6 aN aO cn aP=>?_
 have bH:=aP.g 0 4
 refine bG _ _<| wp_ret (ret_k aN (v:=iv (-1)) (res_t rfl bH _) ?_)
 exact⟨by rw [show cmpI (val a) (val b) = -1 from zcmp_lt ha hab (by omega) ad],aO⟩
 have aM:=oF ad
 have aQ:=hB bj ad
 refine wf aQ<| ws<| bD _ _<| wk fun co aw=>?_
 rcases bc (decide (((a.getD (((n:Int) - 1:Int).toNat) 0:Nat):Int)≤((b.getD (((n:Int) - 1:Int).toNat) 0:Nat):Int))) with ab|ab
 have aH:=oT ab
 refine wA tr3 [] 30 [ve (.int .u64 ((a.getD (((n:Int) - 1:Int).toNat) 0:Nat):Int)),ve (.int .u64 ((b.getD (((n:Int) - 1:Int).toNat) 0:Nat):Int)),vF] ae ?_ ?_
 exact .M bh<| .M bi<| .T (fun k=>v_bin rfl (k.eq1 0 27 rfl) (k.eq1 1 28 rfl) (fun _=>rfl) (r_gtrK ab)) .nil
 refine aftI ae aq ar fun cp cq ax aR aS b7 ag=>?_
 have⟨aI,bI,bJ⟩:=ag.f3 be bf bg
 have bK:=ag.g 2 29
 refine aw _ _<| wf bK<| ws ?_
 refine bz _ _<| wA [true,true,false] [(2,true)] 30 [ve (iv ((n:Int) - 1)),ve (iv (((n:Int) - 1) - 1)),vt] ax ?_ ?_
 exact .M aI<| .R (fun k=>v_bin rfl (k.eq1 0 16 rfl) rfl (fun _=>rfl) (r_sub rfl (by omega))) (fun _=>rfl)<| .off .nil
 refine aftI ax aR aS fun aJ cr ay aT aU b8 ah=>?_
 have⟨cs,bL,bM⟩:=ah.f3 aI bI bJ
 have aK:=ah.g 1 17
 refine sP aK ay aT fun bN aV aW ac bQ=>?_
 have⟨bO,bP,ct⟩:=ac.q3 bL bM aK
 refine st_nil ?_
 refine then_n ?_
 exact⟨_,⟨n - 1,rfl,aV,aW,aU,(bQ.trans (congrArg (Value.int .i64) (by omega))),bO,bP,(by omega),(zabove_dn hab (by omega) ad ab)⟩,(by omega)⟩
 have aH:=oF ab
 refine wA tr3 [] 30 [ve (.int .u64 ((a.getD (((n:Int) - 1:Int).toNat) 0:Nat):Int)),ve (.int .u64 ((b.getD (((n:Int) - 1:Int).toNat) 0:Nat):Int)),vT] ae ?_ ?_
 exact .M bh<| .M bi<| .T (fun k=>v_bin rfl (k.eq1 0 27 rfl) (k.eq1 1 28 rfl) (fun _=>rfl) (r_gtrK ab)) .nil
 refine aftI ae aq ar fun cu cv az aX aY b9 ai=>?_
 have⟨cw,cx,cy⟩:=ai.f3 be bf bg
 have bR:=ai.g 2 29
 refine aw _ _<| wt bR<| wk fun cz aZ=>?_
 refine wA tr1 [] 30 [ve (iv 1)] az ?_ ?_
 exact .c .nil
 refine aftI az aX aY fun cA cB cc a1 a3 cd a4=>?_
 have bS:=a4.g 0 4
 refine aZ _ _<| wp_ret (ret_k a1 (v:=iv 1) (res_t rfl bS _) ?_)
 exact⟨by rw [show cmpI (val a) (val b)=1 from zcmp_gt hb hab (by omega) ab],a3⟩
def sOf_c_P (n:Int) (w:World) (en:Ending) (w':World):Prop:=∃ (Ar0:Option Addr) (cr0:Nat),en=.returned (.agg #[.bool (decide (n < 0)),sv Ar0 (canon (n).natAbs) cr0])∧SRow w' .u32 Ar0 (canon (n).natAbs) cr0∧New w w'
theorem sOf_c (n:Int) (w:World) (hlo:-9223372036854775808≤n) (hhi:n≤9223372036854775807):Calls prog 68 #[iv n] w (sOf_c_P n w):=by
 refine enter_abs func68 rfl fun a0 ao bC hp=>?_
 have ao:a0.tmps.size=20:=ao
 have aP:New w w:=Upd.refl _ _
 have hp0:a0.eval (.tmp 0)=iv n:=hp 0 _ rfl
 have hmd:0≤n % 18446744073709551616∧n % 18446744073709551616 < 18446744073709551616:=by omega
 refine wk fun K1 bD=>?_
 refine wB tr1 [] [] 20 [IsNew w 26 [.bool false,sv none ([]) 0]] [0] ao ?_ heN ?_
 exact .Y .nil
 refine aftI ao bC aP fun a2 w3 aQ bE a5 b6 aR=>?_
 have h8:=aR.f1 hp0
 obtain⟨b7,h9,a6,a7⟩:=aR.G 0 2
 have b0:=Nat.le_trans aP.size a6
 refine bD _ _ <| wk fun b8 a8=>?_
 refine wA tr3 [] 20 [ve (iv n),ve (.int .u64 (((n % 18446744073709551616).toNat:Nat):Int)),ve (.int .u64 (((n % 18446744073709551616).toNat:Nat):Int))] aQ ?_ ?_
 exact .M h8<| .T (fun k=>v_conv rfl (k.eq1 0 4 rfl) (n_conv (by kernel_rfl) (by kernel_rfl) (by kernel_rfl) (of_conv n)))<| .B 1 .nil
 refine aftI aQ bE a5 fun b9 ca ar a9 ba bb an=>?_
 have⟨aS,bF⟩:=an.f2 h8 h9
 have bG:=an.g 2 3
 have bd:=a7.new_ bb
 refine a8 _ _ <| wk fun cb au=>?_
 refine wk fun cc be=>?_
 refine wA tr2 [] 20 [ve (iv n),ve (.bool (decide (n < 0)))] ar ?_ ?_
 exact .M aS<| .b 0 (r_lssK rfl) .nil
 refine aftI ar a9 ba fun cd aT ak av aw bf al=>?_
 have⟨aU,aV,ap⟩:=al.f3 aS bF bG
 have aW:=al.g 1 7
 have ax:=bd.new_ bf
 refine be _ _ ?_
 rcases bc (decide (n < 0)) with aa|aa
 have aI:=oT aa
 have bg:=hB aW aa
 refine wt bg<| wp_g0 [true,true,false] [(2,true)] 20
  [ve (.int .u64 (((n % 18446744073709551616).toNat:Nat):Int)),ve (.int .u64 (((-n).toNat:Nat):Int)),vt] ak (.eq (.eq (.tt .nil))) ?_ ?_
 exact .M ap<| .T (fun k=>v_negU rfl (k.eq1 0 8 rfl) (of_neg hlo (oT aa)))<| .off .nil
 refine aftI ak av aw fun aX aY ay bh bi bj am=>?_
 have⟨bH,bI,ce⟩:=am.f3 aU aV ap
 have aZ:=am.g 1 9
 have bk:=ax.new_ bj
 refine sP aZ ay bh fun bJ az bl ab a1=>?_
 have⟨bK,bL,cf⟩:=ab.q3 bH bI aZ
 refine au _ _ <| wk fun ch bm=>?_
 refine wp_g0 [true,true,true,true,true,true,true,true,true,true,false] [(10,false)] 20
  [ve (iv n),vT,ve (.int .u64 (((-n).toNat:Nat):Int)),ve (.int .u64 ((((-n).toNat) % 4294967296:Nat):Int)),ve (.int .u32 ((((-n).toNat) % 4294967296:Nat):Int)),ve (.int .u64 (((-n).toNat:Nat):Int)),ve (.int .u64 ((((-n).toNat) / 4294967296:Nat):Int)),ve (.int .u32 (((((-n).toNat) / 4294967296) % 4294967296:Nat):Int)),
  (OP aY.heap.size 56 .u32 ([(((-n).toNat) % 4294967296),((((-n).toNat) / 4294967296) % 4294967296)])),(fun (v_:Value) (W:World)=>∃ (ae:Option Addr) (af:Nat),v_=.agg #[.bool (decide (sgn true (val ([(((-n).toNat) % 4294967296),((((-n).toNat) / 4294967296) % 4294967296)])) < 0)),sv ae (canon (sgn true (val ([(((-n).toNat) % 4294967296),((((-n).toNat) / 4294967296) % 4294967296)]))).natAbs) af]∧SRow W .u32 ae (canon (sgn true (val ([(((-n).toNat) % 4294967296),((((-n).toNat) / 4294967296) % 4294967296)]))).natAbs) af),vt] az (.eq (.eq (.eq (.eq (.eq (.eq (.eq (.eq (.cons (fun _ _ _ n ⟨_,_,e,h⟩=>⟨_,_,e,h.new_ n⟩) (.cons (fun _ _ _ n ⟨_,_,e,h⟩=>⟨_,_,e,h.new_ n⟩) (.tt .nil))))))))))) ?_ ?_
 refine .M bK<| .b 0 (r_lssK aa)<| .M a1<| .R (fun k=>v_bin rfl (k.eq1 2 12 rfl) rfl (fun _=>rfl) (n_andMask64 ((-n).toNat) (by omega))) (fun _=>rfl)<| .R (fun k=>v_conv rfl (k.eq1 3 13 rfl) (n_conv (by kernel_rfl) (by kernel_rfl) (by kernel_rfl) (IntWalk.u32_in _ (by omega)))) (fun _=>rfl)<| .M a1<| .T (fun k=>v_bin rfl (k.eq1 5 15 rfl) rfl (fun _=>rfl) (n_shr ((-n).toNat) 32 (by decide)))<| .T (fun k=>v_conv rfl (k.eq1 6 16 rfl) (n_conv (by kernel_rfl) (by kernel_rfl) (by kernel_rfl) (n_wrap32 _))) ?_
 refine .o1 (tkA rfl (noG rfl) fun _ w hn k=>(by
  exact x_bslice (k:=.u32) (ps:=[(0,.int .u32 ((((-n).toNat) % 4294967296:Nat):Int)),(1,.int .u32 (((((-n).toNat) / 4294967296) % 4294967296:Nat):Int))]) [(((-n).toNat) % 4294967296),((((-n).toNat) / 4294967296) % 4294967296)] rfl (parts2 (k.eq1 4 14 rfl) (k.eq1 7 17 rfl)) elW rfl (by omega) (by omega) (by first|kernel_rfl|(simp only [enc,List.map_cons,List.map_nil,Int.toNat_natCast,Int.toNat_of_nonneg (by omega:(0:Int)≤_)]; kernel_rfl)) fun A1 c2 W' hmo=>⟨A1,c2,rfl,(hmo.more hn.size)⟩)) ?_
 refine .o1 (tkC rfl (noG rfl) rfl fun _ w hn k=>(by
  obtain⟨A5,c6,e7,bM⟩:=k.G 8 18
  refine ⟨#[.bool true,sv A5 ([(((-n).toNat) % 4294967296),((((-n).toNat) / 4294967296) % 4294967296)]) c6],_,args2 (k.eq1 1 11 rfl) e7,fun w=>by kernel_rfl,smade_c true _ ([(((-n).toNat) % 4294967296),((((-n).toNat) / 4294967296) % 4294967296)]) _ _ bM.row (two_limbs_m _) (by first|omega|(simp only [List.length_nil,List.length_take,List.length_drop]; omega)|(simp only [List.length_cons,List.length_nil]; omega)),?_⟩
  rintro e w' ⟨A9,bN,rfl,hmo0,hm⟩
  exact⟨_,rfl,hm,⟨A9,bN,rfl,hmo0⟩⟩)) ?_
 exact .off .nil
 refine aftI az bl bi fun bO ci b1 bn bo bp aA=>?_
 have a3:=aA.f1 bL
 obtain⟨ai,ac,aB,bq⟩:=aA.G 9 19
 have aB:bO.eval (.tmp 19)=.agg #[.bool (decide (sgn true (val ([(((-n).toNat) % 4294967296),((((-n).toNat) / 4294967296) % 4294967296)])) < 0)),sv ai (canon (sgn true (val ([(((-n).toNat) % 4294967296),((((-n).toNat) / 4294967296) % 4294967296)]))).natAbs) ac]:=aB
 have aC:=bk.new_ bp
 refine sS6 a3 aB aC fun cj br aD b2=>?_
 have bt:=bq.fr aC aD
 have bu:=bo.tR aD
 refine bm _ _<| wp_ret (ret_k bn (v:=.agg #[.bool (decide (sgn true (val ([(((-n).toNat) % 4294967296),((((-n).toNat) / 4294967296) % 4294967296)])) < 0)),sv ai (canon (sgn true (val ([(((-n).toNat) % 4294967296),((((-n).toNat) / 4294967296) % 4294967296)]))).natAbs) ac]) (res_c rfl a3 (l_two isAgg26 sizeOf26 br)) ?_)
 have hz1:sgn true (val ([(((-n).toNat) % 4294967296),((((-n).toNat) / 4294967296) % 4294967296)]))=n:=of_yes hlo aa
 exact⟨ai,ac,congrArg (fun z:Int=>Ending.returned (Value.agg #[.bool (decide (z < 0)),sv ai (canon z.natAbs) ac])) hz1,Eq.mp (congrArg (fun z:Int=>SRow _ .u32 ai (canon z.natAbs) ac) hz1) bt,bu⟩
 have aI:=oF aa
 have bv:=hB aW aa
 refine wf bv<| ws<| au _ _<| wk fun cm bw=>?_
 refine wp_g0 [true,true,true,true,true,true,true,true,true,true,false] [(10,false)] 20
  [ve (iv n),vF,ve (.int .u64 (((n % 18446744073709551616).toNat:Nat):Int)),ve (.int .u64 ((((n % 18446744073709551616).toNat) % 4294967296:Nat):Int)),ve (.int .u32 ((((n % 18446744073709551616).toNat) % 4294967296:Nat):Int)),ve (.int .u64 (((n % 18446744073709551616).toNat:Nat):Int)),ve (.int .u64 ((((n % 18446744073709551616).toNat) / 4294967296:Nat):Int)),ve (.int .u32 (((((n % 18446744073709551616).toNat) / 4294967296) % 4294967296:Nat):Int)),
  (OP aT.heap.size 56 .u32 ([(((n % 18446744073709551616).toNat) % 4294967296),((((n % 18446744073709551616).toNat) / 4294967296) % 4294967296)])),(fun (v_:Value) (W:World)=>∃ (ag:Option Addr) (ah:Nat),v_=.agg #[.bool (decide (sgn false (val ([(((n % 18446744073709551616).toNat) % 4294967296),((((n % 18446744073709551616).toNat) / 4294967296) % 4294967296)])) < 0)),sv ag (canon (sgn false (val ([(((n % 18446744073709551616).toNat) % 4294967296),((((n % 18446744073709551616).toNat) / 4294967296) % 4294967296)]))).natAbs) ah]∧SRow W .u32 ag (canon (sgn false (val ([(((n % 18446744073709551616).toNat) % 4294967296),((((n % 18446744073709551616).toNat) / 4294967296) % 4294967296)]))).natAbs) ah),vt] ak (.eq (.eq (.eq (.eq (.eq (.eq (.eq (.eq (.cons (fun _ _ _ n ⟨_,_,e,h⟩=>⟨_,_,e,h.new_ n⟩) (.cons (fun _ _ _ n ⟨_,_,e,h⟩=>⟨_,_,e,h.new_ n⟩) (.tt .nil))))))))))) ?_ ?_
 refine .M aU<| .b 0 (r_lssK aa)<| .M ap<| .R (fun k=>v_bin rfl (k.eq1 2 12 rfl) rfl (fun _=>rfl) (n_andMask64 ((n % 18446744073709551616).toNat) (by omega))) (fun _=>rfl)<| .R (fun k=>v_conv rfl (k.eq1 3 13 rfl) (n_conv (by kernel_rfl) (by kernel_rfl) (by kernel_rfl) (IntWalk.u32_in _ (by omega)))) (fun _=>rfl)<| .M ap<| .T (fun k=>v_bin rfl (k.eq1 5 15 rfl) rfl (fun _=>rfl) (n_shr ((n % 18446744073709551616).toNat) 32 (by decide)))<| .T (fun k=>v_conv rfl (k.eq1 6 16 rfl) (n_conv (by kernel_rfl) (by kernel_rfl) (by kernel_rfl) (n_wrap32 _))) ?_
 refine .o1 (tkA rfl (noG rfl) fun _ w hn k=>(by
  exact x_bslice (k:=.u32) (ps:=[(0,.int .u32 ((((n % 18446744073709551616).toNat) % 4294967296:Nat):Int)),(1,.int .u32 (((((n % 18446744073709551616).toNat) / 4294967296) % 4294967296:Nat):Int))]) [(((n % 18446744073709551616).toNat) % 4294967296),((((n % 18446744073709551616).toNat) / 4294967296) % 4294967296)] rfl (parts2 (k.eq1 4 14 rfl) (k.eq1 7 17 rfl)) elW rfl (by omega) (by omega) (by first|kernel_rfl|(simp only [enc,List.map_cons,List.map_nil,Int.toNat_natCast,Int.toNat_of_nonneg (by omega:(0:Int)≤_)]; kernel_rfl)) fun bR bS W' hmo=>⟨bR,bS,rfl,(hmo.more hn.size)⟩)) ?_
 refine .o1 (tkC rfl (noG rfl) rfl fun _ w hn k=>(by
  obtain⟨bT,bU,bV,bx⟩:=k.G 8 18
  refine ⟨#[.bool false,sv bT ([(((n % 18446744073709551616).toNat) % 4294967296),((((n % 18446744073709551616).toNat) / 4294967296) % 4294967296)]) bU],_,args2 (k.eq1 1 11 rfl) bV,fun w=>by kernel_rfl,smade_c false _ ([(((n % 18446744073709551616).toNat) % 4294967296),((((n % 18446744073709551616).toNat) / 4294967296) % 4294967296)]) _ _ bx.row (two_limbs_m _) (by first|omega|(simp only [List.length_nil,List.length_take,List.length_drop]; omega)|(simp only [List.length_cons,List.length_nil]; omega)),?_⟩
  rintro e w' ⟨bW,bX,rfl,hmo0,hm⟩
  exact⟨_,rfl,hm,⟨bW,bX,rfl,hmo0⟩⟩)) ?_
 exact .off .nil
 refine aftI ak av aw fun bY cn b3 bz aK bA aE=>?_
 have a4:=aE.f1 aV
 obtain⟨aj,ad,aF,bB⟩:=aE.G 9 19
 have aF:bY.eval (.tmp 19)=.agg #[.bool (decide (sgn false (val ([(((n % 18446744073709551616).toNat) % 4294967296),((((n % 18446744073709551616).toNat) / 4294967296) % 4294967296)])) < 0)),sv aj (canon (sgn false (val ([(((n % 18446744073709551616).toNat) % 4294967296),((((n % 18446744073709551616).toNat) / 4294967296) % 4294967296)]))).natAbs) ad]:=aF
 have aG:=ax.new_ bA
 refine sS6 a4 aF aG fun b4 aL aq bZ=>?_
 have aN:=bB.fr aG aq
 have aO:=aK.tR aq
 refine bw _ _<| wp_ret (ret_k bz (v:=.agg #[.bool (decide (sgn false (val ([(((n % 18446744073709551616).toNat) % 4294967296),((((n % 18446744073709551616).toNat) / 4294967296) % 4294967296)])) < 0)),sv aj (canon (sgn false (val ([(((n % 18446744073709551616).toNat) % 4294967296),((((n % 18446744073709551616).toNat) / 4294967296) % 4294967296)]))).natAbs) ad]) (res_c rfl a4 (l_two isAgg26 sizeOf26 aL)) ?_)
 have hz1:sgn false (val ([(((n % 18446744073709551616).toNat) % 4294967296),((((n % 18446744073709551616).toNat) / 4294967296) % 4294967296)]))=n:=of_no hhi aa
 exact⟨aj,ad,congrArg (fun z:Int=>Ending.returned (Value.agg #[.bool (decide (z < 0)),sv aj (canon z.natAbs) ad])) hz1,Eq.mp (congrArg (fun z:Int=>SRow _ .u32 aj (canon z.natAbs) ad) hz1) aN,aO⟩
theorem rbig_c (a:Bool) (Aa:Option Addr) (ma:List Nat) (ca:Nat) (b:Bool) (Ab:Option Addr) (mb:List Nat) (cb:Nat) (w:World) (hra:SRow w .u32 Aa ma ca) (hrb:SRow w .u32 Ab mb cb):Calls prog 136 #[.agg #[.bool a,sv Aa ma ca],.agg #[.bool b,sv Ab mb cb]] w (IsRet (.bool (decide (a=b) && decide (ma=mb))) w):=by
 refine enter_abs func136 rfl fun a0 ab ap hp=>?_
 have ab:a0.tmps.size=17:=ab
 have ac:New w w:=Upd.refl _ _
 have hp0:a0.eval (.tmp 0)=.agg #[.bool a,sv Aa ma ca]:=hp 0 _ rfl
 have hp1:a0.eval (.tmp 1)=.agg #[.bool b,sv Ab mb cb]:=hp 1 _ rfl
 refine wk fun K1 aq=>?_
 refine wB tr3 [] [] 17 [IsNew w 26 [.bool a,sv Aa ma ca],IsNew w 26 [.bool b,sv Ab mb cb],vF] [0,1] ab ?_ heN ?_
 exact .X hp0<| .X hp1<| .c .nil
 refine aftI ab ap ac fun a2 w3 af ar aa az ag=>?_
 obtain⟨q9,h8,aj,ad⟩:=ag.G 0 2
 obtain⟨ah,ai,ak,ae⟩:=ag.G 1 3
 have av:=Nat.le_trans ac.size aj
 have aw:=Nat.le_trans ac.size ak
 refine aq _ _ <| wk fun aA al=>?_
 refine wA tr13 [] 17 [ve (pv q9),ve (.bool a),ve (pv ah),ve (.bool b),ve (.bool (a == b)),ve (.bool (a == b)),ve (gq (a == b) (.pointer (some ⟨q9,1,none⟩))),ve (gq (a == b) (sv Aa ma ca)),ve (gq (a == b) (.pointer (some ⟨ah,1,none⟩))),ve (gq (a == b) (sv Ab mb cb)),ve (gq (a == b) (.bool (decide (ma=mb)))),ve (.bool ((a == b) && (decide (ma=mb)))),ve (.bool ((a == b) && (decide (ma=mb))))] af ?_ ?_
 exact .F h8<| .J 0 isAgg4 ad<| .F ai<| .J 2 isAgg4 ae<| .T (fun k=>v_bin rfl (k.eq1 1 6 rfl) (k.eq1 3 8 rfl) (fun _=>rfl) (r_eqlB _ _))<| .N 4<| .Q (fun k=>g0 (k.eq1 5 10 rfl)) (fun hG n k=>v_field rfl (k.fx 2 h8) (fun w=>rfl))<| .Q (fun k=>g0 (k.eq1 5 10 rfl)) (fun hG n k=>v_load rfl (cT hG (k.eq1 6 11 rfl)) (l_one isAgg24 ((ad.new_ n).cell 1)))<| .Q (fun k=>g0 (k.eq1 5 10 rfl)) (fun hG n k=>v_field rfl (k.fx 3 ai) (fun w=>rfl))<| .Q (fun k=>g0 (k.eq1 5 10 rfl)) (fun hG n k=>v_load rfl (cT hG (k.eq1 8 13 rfl)) (l_one isAgg24 ((ae.new_ n).cell 1)))<| .o1 (scC (G:=(a == b)) rfl rfl rfl (fun _ _ k=>g0 (k.eq1 5 10 rfl)) rfl (fun hG _ w hn k=>⟨#[sv Aa ma ca,sv Ab mb cb],args2 (cT hG (k.eq1 7 12 rfl)) (cT hG (k.eq1 9 14 rfl)),fun _=>by kernel_rfl,rlist32_c _ ma _ _ mb _ _ (hra.new_ (aa.transNew hn)) (hrb.new_ (aa.transNew hn))⟩))<| .O 5 10<| .B 11 .nil
 refine aftI af ar aa fun aB aC ax am an ay ao=>?_
 have au:=ao.g 12 4
 refine al _ _<| wp_ret (ret_k am (v:=.bool ((a == b) && (decide (ma=mb)))) (res_t rfl au _) ?_)
 refine ⟨?_,an⟩
 show Ending.returned (.bool ((a == b) && (decide (ma=mb))))=Ending.returned (.bool (decide (a=b) && decide (ma=mb)))
 first|rfl|(simp only [bsm] <;> rfl)|(exfalso; omega)
def cunits_c_P (Au:Option Addr) (u:List Nat) (cu:Nat) (w:World) (en:Ending) (w':World):Prop:=∃ (Ar0:Option Addr) (cr0:Nat),en=.returned (sv Ar0 u cr0)∧SOwn w' w.heap.size 74 .u16 Ar0 u cr0∧New w w'
theorem cunits_c (Au:Option Addr) (u:List Nat) (cu:Nat) (w:World) (hru:SRow w .u16 Au u cu) (hs:u.length≤1000000):Calls prog 165 #[sv Au u cu] w (cunits_c_P Au u cu w):=by
 refine enter_abs func165 rfl fun a0 af aC hp=>?_
 have af:a0.tmps.size=6:=af
 have aD:New w w:=Upd.refl _ _
 have hp0:a0.eval (.tmp 0)=sv Au u cu:=hp 0 _ rfl
 refine wk fun K1 aE=>?_
 refine wA tr1 [] 6 [ve (sv none ([]) 0)] af ?_ ?_
 exact .c .nil
 refine aftI af aC aD fun a2 w3 an aF ao aN aG=>?_
 have h8:=aG.f1 hp0
 refine aE _ _ <| wk fun aO ar=>?_
 refine wp_g0 [true,true,false,false] [(2,false),(3,true)] 6
  [(OP w3.heap.size 74 .u16 ([])),ve (sv Au u cu),vt,vt] an (.cons (fun _ _ _ n ⟨_,_,e,h⟩=>⟨_,_,e,h.new_ n⟩) (.eq (.tt (.tt .nil)))) ?_ ?_
 refine .o1 (tkA rfl (noG rfl) fun _ w hn k=>(by
  exact x_bslice0 .u16 rfl parts0 elU fun A1 c2 W' hmo=>⟨A1,c2,rfl,(hmo.more hn.size)⟩)) ?_
 exact .M h8<| .off<| .off .nil
 refine aftI an aF ao fun ag aP ah au ae aL ai=>?_
 obtain⟨aH,av,aj,aw⟩:=ai.G 0 3
 have aj:ag.eval (.tmp 3)=sv aH ([]) av:=aj
 have ap:=ai.g 1 4
 have ak:=aw.more ao.size
 have hw32:=ae.size
 refine st_act rfl rfl fun aQ ax=>a_append (k:=.u16) (b:=w.heap.size) rfl elU aj ak ap (hru.new_ ae) (by first|omega|(simp only [List.length_nil,List.length_cons,List.length_append,List.length_take,List.length_drop,List.length_replicate,List.length_set]; omega)) (by first|omega|(simp only [List.length_nil,List.length_cons,List.length_append,List.length_take,List.length_drop,List.length_replicate,List.length_set]; omega)) hw32 fun ab aa aR ay hg28=>ax _ _ trivial ?_
 have az:=ae.ownGrown ak hg28
 obtain⟨al,ad⟩:∃ a',a'=ag.put (some 5) (sv ab ([] ++ u) aa):=⟨_,rfl⟩
 have⟨am,aA⟩:=pz2 ad ah au
 have aI:=pN ad ap
 have aq:=s7 ad ah
 show stepsTo _ _ _ _ _ (ag.put (some 5) (sv ab ([] ++ u) aa)) _
 rw [← ad]
 refine sP aq am aA fun aJ aM aB ac aK=>?_
 have⟨aS,aT⟩:=ac.q2 aI aq
 refine ar _ _<| wp_ret (ret_k aB (v:=sv ab ([] ++ u) aa) (res_t rfl aK _) ?_)
 have hsp:([] ++ u)=u:=by simp
 exact⟨ab,aa,congrArg (fun l=>Ending.returned (sv ab l aa)) hsp,Eq.mp (congrArg (fun l=>SOwn _ _ _ _ ab l aa) hsp) ay,az⟩
theorem qsame_c (v:Vl) (Av:Option Addr) (cv:Nat) (Bv:Option Addr) (dv:Nat) (u:Vl) (Au:Option Addr) (cu:Nat) (Bu:Option Addr) (du:Nat) (w:World) (hmv:SRow w .u32 Av v.mag cv) (hsv:SRow w .u16 Bv v.s dv) (hmu:SRow w .u32 Au u.mag cu) (hsu:SRow w .u16 Bu u.s du):Calls prog 70 #[vv v Av cv Bv dv,vv u Au cu Bu du] w (IsRet (.bool (sameV v u)) w):=by
 refine enter_abs func70 rfl fun a0 af ap hp=>?_
 have af:a0.tmps.size=38:=af
 have ag:New w w:=Upd.refl _ _
 have hp0:a0.eval (.tmp 0)=vv v Av cv Bv dv:=hp 0 _ rfl
 have hp1:a0.eval (.tmp 1)=vv u Au cu Bu du:=hp 1 _ rfl
 refine wk fun K1 aq=>?_
 refine wB tr3 [] [] 38 [IsNew w 46 (c7 v Av cv Bv dv),IsNew w 46 (c7 u Au cu Bu du),vF] [0,1] af ?_ heN ?_
 exact .X hp0<| .X hp1<| .c .nil
 refine aftI af ap ag fun a2 w3 ah ar aa az ai=>?_
 obtain⟨q9,h8,aj,ab⟩:=ai.G 0 2
 obtain⟨ad,ae,ak,ac⟩:=ai.G 1 3
 have av:=Nat.le_trans ag.size aj
 have aw:=Nat.le_trans ag.size ak
 refine aq _ _ <| wk fun aA al=>?_
 refine wA tr34 [] 38 [ve (pv q9),ve (iv v.k),ve (pv ad),ve (iv u.k),ve (.bool (decide (v.k=u.k))),ve (.bool (decide (v.k=u.k))),ve (gq (decide (v.k=u.k)) (.pointer (some ⟨q9,1,none⟩))),ve (gq (decide (v.k=u.k)) (nv (Nm.mk v.nk v.nn))),ve (gq (decide (v.k=u.k)) (.pointer (some ⟨ad,1,none⟩))),ve (gq (decide (v.k=u.k)) (nv (Nm.mk u.nk u.nn))),ve (gq (decide (v.k=u.k)) (.bool (decide ((Nm.mk v.nk v.nn).k=(Nm.mk u.nk u.nn).k) && decide ((Nm.mk v.nk v.nn).n=(Nm.mk u.nk u.nn).n)))),ve (.bool ((decide (v.k=u.k)) && (decide ((Nm.mk v.nk v.nn).k=(Nm.mk u.nk u.nn).k) && decide ((Nm.mk v.nk v.nn).n=(Nm.mk u.nk u.nn).n)))),ve (.bool ((decide (v.k=u.k)) && (decide ((Nm.mk v.nk v.nn).k=(Nm.mk u.nk u.nn).k) && decide ((Nm.mk v.nk v.nn).n=(Nm.mk u.nk u.nn).n)))),ve (gq ((decide (v.k=u.k)) && (decide ((Nm.mk v.nk v.nn).k=(Nm.mk u.nk u.nn).k) && decide ((Nm.mk v.nk v.nn).n=(Nm.mk u.nk u.nn).n))) (.pointer (some ⟨q9,3,none⟩))),ve (gq ((decide (v.k=u.k)) && (decide ((Nm.mk v.nk v.nn).k=(Nm.mk u.nk u.nn).k) && decide ((Nm.mk v.nk v.nn).n=(Nm.mk u.nk u.nn).n))) (.agg #[.bool v.neg,sv Av v.mag cv])),ve (gq ((decide (v.k=u.k)) && (decide ((Nm.mk v.nk v.nn).k=(Nm.mk u.nk u.nn).k) && decide ((Nm.mk v.nk v.nn).n=(Nm.mk u.nk u.nn).n))) (.pointer (some ⟨ad,3,none⟩))),ve (gq ((decide (v.k=u.k)) && (decide ((Nm.mk v.nk v.nn).k=(Nm.mk u.nk u.nn).k) && decide ((Nm.mk v.nk v.nn).n=(Nm.mk u.nk u.nn).n))) (.agg #[.bool u.neg,sv Au u.mag cu])),ve (gq ((decide (v.k=u.k)) && (decide ((Nm.mk v.nk v.nn).k=(Nm.mk u.nk u.nn).k) && decide ((Nm.mk v.nk v.nn).n=(Nm.mk u.nk u.nn).n))) (.bool (decide (v.neg=u.neg) && decide (v.mag=u.mag)))),ve (.bool (((decide (v.k=u.k)) && (decide ((Nm.mk v.nk v.nn).k=(Nm.mk u.nk u.nn).k) && decide ((Nm.mk v.nk v.nn).n=(Nm.mk u.nk u.nn).n))) && (decide (v.neg=u.neg) && decide (v.mag=u.mag)))),ve (.bool (((decide (v.k=u.k)) && (decide ((Nm.mk v.nk v.nn).k=(Nm.mk u.nk u.nn).k) && decide ((Nm.mk v.nk v.nn).n=(Nm.mk u.nk u.nn).n))) && (decide (v.neg=u.neg) && decide (v.mag=u.mag)))),ve (gq (((decide (v.k=u.k)) && (decide ((Nm.mk v.nk v.nn).k=(Nm.mk u.nk u.nn).k) && decide ((Nm.mk v.nk v.nn).n=(Nm.mk u.nk u.nn).n))) && (decide (v.neg=u.neg) && decide (v.mag=u.mag))) (.pointer (some ⟨q9,5,none⟩))),ve (gq (((decide (v.k=u.k)) && (decide ((Nm.mk v.nk v.nn).k=(Nm.mk u.nk u.nn).k) && decide ((Nm.mk v.nk v.nn).n=(Nm.mk u.nk u.nn).n))) && (decide (v.neg=u.neg) && decide (v.mag=u.mag))) (sv Bv v.s dv)),ve (gq (((decide (v.k=u.k)) && (decide ((Nm.mk v.nk v.nn).k=(Nm.mk u.nk u.nn).k) && decide ((Nm.mk v.nk v.nn).n=(Nm.mk u.nk u.nn).n))) && (decide (v.neg=u.neg) && decide (v.mag=u.mag))) (.pointer (some ⟨ad,5,none⟩))),ve (gq (((decide (v.k=u.k)) && (decide ((Nm.mk v.nk v.nn).k=(Nm.mk u.nk u.nn).k) && decide ((Nm.mk v.nk v.nn).n=(Nm.mk u.nk u.nn).n))) && (decide (v.neg=u.neg) && decide (v.mag=u.mag))) (sv Bu u.s du)),ve (gq (((decide (v.k=u.k)) && (decide ((Nm.mk v.nk v.nn).k=(Nm.mk u.nk u.nn).k) && decide ((Nm.mk v.nk v.nn).n=(Nm.mk u.nk u.nn).n))) && (decide (v.neg=u.neg) && decide (v.mag=u.mag))) (.bool (decide (v.s=u.s)))),ve (.bool ((((decide (v.k=u.k)) && (decide ((Nm.mk v.nk v.nn).k=(Nm.mk u.nk u.nn).k) && decide ((Nm.mk v.nk v.nn).n=(Nm.mk u.nk u.nn).n))) && (decide (v.neg=u.neg) && decide (v.mag=u.mag))) && (decide (v.s=u.s)))),ve (.bool ((((decide (v.k=u.k)) && (decide ((Nm.mk v.nk v.nn).k=(Nm.mk u.nk u.nn).k) && decide ((Nm.mk v.nk v.nn).n=(Nm.mk u.nk u.nn).n))) && (decide (v.neg=u.neg) && decide (v.mag=u.mag))) && (decide (v.s=u.s)))),ve (gq ((((decide (v.k=u.k)) && (decide ((Nm.mk v.nk v.nn).k=(Nm.mk u.nk u.nn).k) && decide ((Nm.mk v.nk v.nn).n=(Nm.mk u.nk u.nn).n))) && (decide (v.neg=u.neg) && decide (v.mag=u.mag))) && (decide (v.s=u.s))) (.pointer (some ⟨q9,6,none⟩))),ve (gq ((((decide (v.k=u.k)) && (decide ((Nm.mk v.nk v.nn).k=(Nm.mk u.nk u.nn).k) && decide ((Nm.mk v.nk v.nn).n=(Nm.mk u.nk u.nn).n))) && (decide (v.neg=u.neg) && decide (v.mag=u.mag))) && (decide (v.s=u.s))) (iv v.ref)),ve (gq ((((decide (v.k=u.k)) && (decide ((Nm.mk v.nk v.nn).k=(Nm.mk u.nk u.nn).k) && decide ((Nm.mk v.nk v.nn).n=(Nm.mk u.nk u.nn).n))) && (decide (v.neg=u.neg) && decide (v.mag=u.mag))) && (decide (v.s=u.s))) (.pointer (some ⟨ad,6,none⟩))),ve (gq ((((decide (v.k=u.k)) && (decide ((Nm.mk v.nk v.nn).k=(Nm.mk u.nk u.nn).k) && decide ((Nm.mk v.nk v.nn).n=(Nm.mk u.nk u.nn).n))) && (decide (v.neg=u.neg) && decide (v.mag=u.mag))) && (decide (v.s=u.s))) (iv u.ref)),ve (gq ((((decide (v.k=u.k)) && (decide ((Nm.mk v.nk v.nn).k=(Nm.mk u.nk u.nn).k) && decide ((Nm.mk v.nk v.nn).n=(Nm.mk u.nk u.nn).n))) && (decide (v.neg=u.neg) && decide (v.mag=u.mag))) && (decide (v.s=u.s))) (.bool (decide (v.ref=u.ref)))),ve (.bool (((((decide (v.k=u.k)) && (decide ((Nm.mk v.nk v.nn).k=(Nm.mk u.nk u.nn).k) && decide ((Nm.mk v.nk v.nn).n=(Nm.mk u.nk u.nn).n))) && (decide (v.neg=u.neg) && decide (v.mag=u.mag))) && (decide (v.s=u.s))) && (decide (v.ref=u.ref)))),ve (.bool (((((decide (v.k=u.k)) && (decide ((Nm.mk v.nk v.nn).k=(Nm.mk u.nk u.nn).k) && decide ((Nm.mk v.nk v.nn).n=(Nm.mk u.nk u.nn).n))) && (decide (v.neg=u.neg) && decide (v.mag=u.mag))) && (decide (v.s=u.s))) && (decide (v.ref=u.ref))))] ah ?_ ?_
 exact .F h8<| .J 0 isAgg3 ab<| .F ae<| .J 2 isAgg3 ac<| .T (fun k=>v_bin rfl (k.eq1 1 6 rfl) (k.eq1 3 8 rfl) (fun _=>rfl) (r_eql rfl))<| .N 4<| .Q (fun k=>g0 (k.eq1 5 10 rfl)) (fun hG p k=>v_field rfl (k.fx 2 h8) (fun w=>rfl))<| .Q (fun k=>g0 (k.eq1 5 10 rfl)) (fun hG p k=>v_load rfl (cT hG (k.eq1 6 11 rfl)) (l_part isAgg23 sizeOf23 (ab.new_ p) lb))<| .Q (fun k=>g0 (k.eq1 5 10 rfl)) (fun hG p k=>v_field rfl (k.fx 3 ae) (fun w=>rfl))<| .Q (fun k=>g0 (k.eq1 5 10 rfl)) (fun hG p k=>v_load rfl (cT hG (k.eq1 8 13 rfl)) (l_part isAgg23 sizeOf23 (ac.new_ p) lb))<| .o1 (scC (G:=(decide (v.k=u.k))) rfl rfl rfl (fun _ _ k=>g0 (k.eq1 5 10 rfl)) rfl (fun hG _ w hn k=>⟨#[nv (Nm.mk v.nk v.nn),nv (Nm.mk u.nk u.nn)],args2 (cT hG (k.eq1 7 12 rfl)) (cT hG (k.eq1 9 14 rfl)),fun _=>by kernel_rfl,rnum_c (Nm.mk v.nk v.nn) (Nm.mk u.nk u.nn) _ ⟩))<| .O 5 10<| .N 11<| .Q (fun k=>g0 (k.eq1 12 17 rfl)) (fun hG p k=>v_field rfl (k.fx 2 h8) (fun w=>rfl))<| .Q (fun k=>g0 (k.eq1 12 17 rfl)) (fun hG p k=>v_load rfl (cT hG (k.eq1 13 18 rfl)) (l_part isAgg26 sizeOf26 (ab.new_ p) lb))<| .Q (fun k=>g0 (k.eq1 12 17 rfl)) (fun hG p k=>v_field rfl (k.fx 3 ae) (fun w=>rfl))<| .Q (fun k=>g0 (k.eq1 12 17 rfl)) (fun hG p k=>v_load rfl (cT hG (k.eq1 15 20 rfl)) (l_part isAgg26 sizeOf26 (ac.new_ p) lb))<| .o1 (scC (G:=((decide (v.k=u.k)) && (decide ((Nm.mk v.nk v.nn).k=(Nm.mk u.nk u.nn).k) && decide ((Nm.mk v.nk v.nn).n=(Nm.mk u.nk u.nn).n)))) rfl rfl rfl (fun _ _ k=>g0 (k.eq1 12 17 rfl)) rfl (fun hG _ w hn k=>⟨#[.agg #[.bool v.neg,sv Av v.mag cv],.agg #[.bool u.neg,sv Au u.mag cu]],args2 (cT hG (k.eq1 14 19 rfl)) (cT hG (k.eq1 16 21 rfl)),fun _=>by kernel_rfl,rbig_c v.neg _ v.mag _ u.neg _ u.mag _ _ (hmv.new_ (aa.transNew hn)) (hmu.new_ (aa.transNew hn))⟩))<| .O 12 17<| .N 18<| .Q (fun k=>g0 (k.eq1 19 24 rfl)) (fun hG p k=>v_field rfl (k.fx 2 h8) (fun w=>rfl))<| .Q (fun k=>g0 (k.eq1 19 24 rfl)) (fun hG p k=>v_load rfl (cT hG (k.eq1 20 25 rfl)) (l_one isAgg27 ((ab.new_ p).cell 5)))<| .Q (fun k=>g0 (k.eq1 19 24 rfl)) (fun hG p k=>v_field rfl (k.fx 3 ae) (fun w=>rfl))<| .Q (fun k=>g0 (k.eq1 19 24 rfl)) (fun hG p k=>v_load rfl (cT hG (k.eq1 22 27 rfl)) (l_one isAgg27 ((ac.new_ p).cell 5)))<| .o1 (scC (G:=(((decide (v.k=u.k)) && (decide ((Nm.mk v.nk v.nn).k=(Nm.mk u.nk u.nn).k) && decide ((Nm.mk v.nk v.nn).n=(Nm.mk u.nk u.nn).n))) && (decide (v.neg=u.neg) && decide (v.mag=u.mag)))) rfl rfl rfl (fun _ _ k=>g0 (k.eq1 19 24 rfl)) rfl (fun hG _ w hn k=>⟨#[sv Bv v.s dv,sv Bu u.s du],args2 (cT hG (k.eq1 21 26 rfl)) (cT hG (k.eq1 23 28 rfl)),fun _=>by kernel_rfl,rlist16_c _ v.s _ _ u.s _ _ (hsv.new_ (aa.transNew hn)) (hsu.new_ (aa.transNew hn))⟩))<| .O 19 24<| .N 25<| .Q (fun k=>g0 (k.eq1 26 31 rfl)) (fun hG p k=>v_field rfl (k.fx 2 h8) (fun w=>rfl))<| .Q (fun k=>g0 (k.eq1 26 31 rfl)) (fun hG p k=>v_load rfl (cT hG (k.eq1 27 32 rfl)) (l_one isAgg3 ((ab.new_ p).cell 6)))<| .Q (fun k=>g0 (k.eq1 26 31 rfl)) (fun hG p k=>v_field rfl (k.fx 3 ae) (fun w=>rfl))<| .Q (fun k=>g0 (k.eq1 26 31 rfl)) (fun hG p k=>v_load rfl (cT hG (k.eq1 29 34 rfl)) (l_one isAgg3 ((ac.new_ p).cell 6)))<| .Q (fun k=>g0 (k.eq1 26 31 rfl)) (fun hG p k=>v_bin rfl (cT hG (k.eq1 28 33 rfl)) (cT hG (k.eq1 30 35 rfl)) (fun _=>rfl) (r_eql rfl))<| .O 26 31<| .B 32 .nil
 refine aftI ah ar aa fun aB aC ax am an ay ao=>?_
 have au:=ao.g 33 4
 refine al _ _<| wp_ret (ret_k am (v:=.bool (((((decide (v.k=u.k)) && (decide ((Nm.mk v.nk v.nn).k=(Nm.mk u.nk u.nn).k) && decide ((Nm.mk v.nk v.nn).n=(Nm.mk u.nk u.nn).n))) && (decide (v.neg=u.neg) && decide (v.mag=u.mag))) && (decide (v.s=u.s))) && (decide (v.ref=u.ref)))) (res_t rfl au _) ?_)
 refine ⟨?_,an⟩
 show Ending.returned (.bool (((((decide (v.k=u.k)) && (decide ((Nm.mk v.nk v.nn).k=(Nm.mk u.nk u.nn).k) && decide ((Nm.mk v.nk v.nn).n=(Nm.mk u.nk u.nn).n))) && (decide (v.neg=u.neg) && decide (v.mag=u.mag))) && (decide (v.s=u.s))) && (decide (v.ref=u.ref))))=Ending.returned (.bool (sameV v u))
 first|rfl|(simp only [sameV,Bool.and_assoc,bsm] <;> rfl)|(exfalso; omega)
theorem qmay_c0 (v:Vl) (Av:Option Addr) (cv:Nat) (Bv:Option Addr) (dv:Nat) (w:World) (hmv:SRow w .u32 Av v.mag cv) (hsv:SRow w .u16 Bv v.s dv):Calls prog 159 #[vv v Av cv Bv dv] w (IsRet (.bool (mayR v)) w):=by
 refine enter_abs func159 rfl fun a0 bs gO hp=>?_
 have bs:a0.tmps.size=63:=bs
 have fv:New w w:=Upd.refl _ _
 have hp0:a0.eval (.tmp 0)=vv v Av cv Bv dv:=hp 0 _ rfl
 refine wk fun K1 gP=>?_
 refine wB tr2 [] [] 63 [IsNew w 46 (c7 v Av cv Bv dv),vF] [0] bs ?_ heN ?_
 exact .X hp0<| .c .nil
 refine aftI bs gO fv fun a2 w3 fw gQ ci i7 gR=>?_
 obtain⟨q9,h8,fJ,bg⟩:=gR.G 0 1
 have hv:=Nat.le_trans fv.size fJ
 refine gP _ _ <| wk fun i8 fK=>?_
 refine wB [true,true,true,true,false] [] [(4,false)] 63 [ve (pv q9),ve (iv v.k),ve (vv (Vl.mk v.k 0 0 false [] [] 0) none 0 none 0),IsNew w3 46 z7,vt] [3] fw ?_ heN ?_
 exact .F h8<| .J 0 isAgg3 bg<| .T (fun k=>v_build (ps:=[(0,iv v.k)]) rfl (parts1 (k.eq1 1 5 rfl)) (by kernel_rfl))<| .Y<| .off .nil
 refine aftI fw gQ ci fun i9 ja cj fL fM fN bh=>?_
 have fy:=bh.f1 h8
 have gS:=bh.g 2 6
 obtain⟨ao,fz,cl,fO⟩:=bh.G 3 3
 have fP:=bg.new_ fN
 have hne28:q9 ≠ ao:=by have h1:=bg.lt; have h2:=cl; omega
 have hw:=Nat.le_trans ci.size cl
 refine sS8 fz gS fO fun gT fS fQ fR=>?_
 have cm:=fR hne28 fP
 have fU:=fM.tR fQ
 refine fK _ _ <| wk fun jc an=>?_
 refine wk fun jd fV=>?_
 refine wA tr2 [] 63 [ve (pv q9),ve (iv v.k)] cj ?_ ?_
 exact .F fy<| .J 0 isAgg3 cm .nil
 refine aftI cj fL fU fun je jf cn fW fX co bi=>?_
 have⟨gU,gV⟩:=bi.f2 fy fz
 have fA:=bi.g 1 8
 have⟨fY,fZ⟩:=nw2 co cm fS
 refine fV _ _<| wb<| wk fun jg cp=>wk fun jh f0=>?_
 refine wA tr2 [] 63 [ve (.bool (decide (v.k=0))),ve (.bool (decide (v.k=0)))] cn ?_ ?_
 exact .H fA (r_eql rfl)<| .B 0 .nil
 refine aftI cn fW fX fun ji jj aQ cq aR cr aS=>?_
 have⟨fB,fC,fD⟩:=aS.f3 gU gV fA
 have fE:=aS.g 1 9
 have⟨ct,cu⟩:=nw2 cr fY fZ
 refine f0 _ _ ?_
 rcases bc (decide (v.k=0)) with ab|ab
 have db:=oT ab
 have cw:=hB fE ab
 refine wt cw<| ws<| cp _ _<| wt cw<| ws<| an _ _<| wk fun jk f1=>?_
 refine wA tr4 [] 63 [ve (vv v Av cv Bv dv),ve (vv (Vl.mk v.k 0 0 false [] [] 0) none 0 none 0),ve (.bool (sameV v (Vl.mk v.k 0 0 false [] [] 0))),ve (.bool (sameV v (Vl.mk v.k 0 0 false [] [] 0)))] aQ ?_ ?_
 exact .L8 fB ct<| .L8 fC cu<| .C2 0 1 (fun n=>qsame_c v _ _ _ _ (Vl.mk v.k 0 0 false [] [] 0) _ _ _ _ _ (hmv.new_ (aR.transNew n)) (hsv.new_ (aR.transNew n)) (SRow.nil _ _) (SRow.nil _ _))<| .B 2 .nil
 refine aftI aQ cq aR fun jl jm hx f2 f3 hy f4=>?_
 have gW:=f4.g 3 2
 refine f1 _ _<| wp_ret (ret_k f2 (v:=.bool (sameV v (Vl.mk v.k 0 0 false [] [] 0))) (res_t rfl gW _) ?_)
 refine ⟨?_,f3⟩
 show Ending.returned (.bool (sameV v (Vl.mk v.k 0 0 false [] [] 0)))=Ending.returned (.bool (mayR v))
 first|rfl|(simp only [mayR,Vl.num,ab,bsm] <;> rfl)|(exfalso; omega)
 have db:=oF ab
 have f5:=hB fE ab
 refine wf f5<| wp_g0 [true,true] [] 63
  [ve (.bool (decide (v.k=1))),ve (.bool (decide (v.k=1)))] aQ (.eq (.eq .nil)) ?_ ?_
 exact .H fD (r_eql rfl)<| .B 0 .nil
 refine aftI aQ cq aR fun jn jo aT cx aU cy aV=>?_
 have⟨fF,fG,fH⟩:=aV.f3 fB fC fD
 have fI:=aV.g 1 9
 have⟨cz,cA⟩:=nw2 cy ct cu
 refine cp _ _ ?_
 rcases bc (decide (v.k=1)) with ad|ad
 have dc:=oT ad
 have f6:=hB fI ad
 refine wt f6<| ws<| an _ _<| wk fun jp f7=>?_
 refine wA tr4 [] 63 [ve (vv v Av cv Bv dv),ve (vv (Vl.mk v.k 0 0 false [] [] 0) none 0 none 0),ve (.bool (sameV v (Vl.mk v.k 0 0 false [] [] 0))),ve (.bool (sameV v (Vl.mk v.k 0 0 false [] [] 0)))] aT ?_ ?_
 exact .L8 fF cz<| .L8 fG cA<| .C2 0 1 (fun n=>qsame_c v _ _ _ _ (Vl.mk v.k 0 0 false [] [] 0) _ _ _ _ _ (hmv.new_ (aU.transNew n)) (hsv.new_ (aU.transNew n)) (SRow.nil _ _) (SRow.nil _ _))<| .B 2 .nil
 refine aftI aT cx aU fun jq jr g2 dd de hz df=>?_
 have f8:=df.g 3 2
 refine f7 _ _<| wp_ret (ret_k dd (v:=.bool (sameV v (Vl.mk v.k 0 0 false [] [] 0))) (res_t rfl f8 _) ?_)
 refine ⟨?_,de⟩
 show Ending.returned (.bool (sameV v (Vl.mk v.k 0 0 false [] [] 0)))=Ending.returned (.bool (mayR v))
 first|rfl|(simp only [mayR,Vl.num,ab,ad,bsm] <;> rfl)|(exfalso; omega)
 have dc:=oF ad
 have dg:=hB fI ad
 refine wf dg<| wk fun hA dh=>?_
 refine wA tr2 [] 63 [ve (.bool (decide (v.k=2))),ve (.bool (decide (v.k=2)))] aT ?_ ?_
 exact .H fH (r_eql rfl)<| .B 0 .nil
 refine aftI aT cx aU fun hC hD au bt bu bv av=>?_
 have⟨bj,bk,cB⟩:=av.f3 fF fG fH
 have cC:=av.g 1 12
 have⟨aW,bw⟩:=nw2 bv cz cA
 refine dh _ _ ?_
 rcases bc (decide (v.k=2)) with aa|aa
 have cD:=oT aa
 have di:=hB cC aa
 refine wt di<| wk fun hE dj=>?_
 refine wA [true,true,true,false] [(3,false)] 63 [ve (.pointer (some ⟨q9,6,none⟩)),ve (iv v.ref),ve (.pointer (some ⟨ao,6,none⟩)),vt] au ?_ ?_
 exact .F bj<| .J 0 isAgg3 aW<| .F bk<| .off .nil
 refine aftI au bt bu fun hF hH bx dk dl bz aw=>?_
 have⟨bl,f9⟩:=aw.f2 bj bk
 have ga:=aw.g 1 15
 have gb:=aw.g 2 16
 have⟨dm,dn⟩:=nw2 bz aW bw
 obtain⟨hI,-,cE,dp,dq,dr⟩:=s_one (v:=iv v.ref) (i:=6) sizeOf3 rfl rfl dn lb
 refine st_act rfl rfl fun hJ ds=>a_store' rfl gb ga cE (ds _ _ trivial ?_)
 have aX:=dr _ _ _ (hne28) dm
 have dt:=dl.tR dq
 refine dj _ _ <| wk fun hK du=>?_
 refine wA tr8 [] 63 [ve (.pointer (some ⟨q9,6,none⟩)),ve (iv v.ref),ve (.bool (!decide (v.ref=0))),ve (.bool (!decide (v.ref=0))),ve (gq (!decide (v.ref=0)) (.pointer (some ⟨q9,6,none⟩))),ve (gq (!decide (v.ref=0)) (iv v.ref)),ve (gq (!decide (v.ref=0)) (.bool (!decide (v.ref=1)))),ve (.bool ((!decide (v.ref=0)) && (!decide (v.ref=1))))] bx ?_ ?_
 exact .F bl<| .J 0 isAgg3 aX<| .b 1 (r_neq rfl)<| .N 2<| .Q (fun k=>g0 (k.eq1 3 20 rfl)) (fun hG n k=>v_field rfl (k.fx 1 bl) (fun w=>rfl))<| .Q (fun k=>g0 (k.eq1 3 20 rfl)) (fun hG n k=>v_load rfl (cT hG (k.eq1 4 21 rfl)) (l_one isAgg3 ((aX.new_ n).cell 6)))<| .Q (fun k=>g0 (k.eq1 3 20 rfl)) (fun hG n k=>v_bin rfl (cT hG (k.eq1 5 22 rfl)) rfl (fun _=>rfl) (r_neq rfl))<| .O 3 6 .nil
 refine aftI bx dk dt fun hL hM ax bA ay bB aY=>?_
 have⟨gc,gd⟩:=aY.f2 bl f9
 have cF:=aY.g 7 24
 have⟨dw,dx⟩:=nw2 bB aX dp
 refine du _ _ ?_
 rcases bc (((!decide (v.ref=0)) && (!decide (v.ref=1)))) with ah|ah
 have dy:=hB cF ah
 have aZ:(!decide (v.ref=0))=true:=al ah
 have a1:(decide (v.ref=0))=false:=nF aZ
 have gX:=oF a1
 have a3:(!decide (v.ref=1))=true:=ar ah
 have a4:(decide (v.ref=1))=false:=nF a3
 have gY:=oF a4
 refine wt dy<| wk fun hN dz=>?_
 refine wA tr1 [] 63 [vF] ax ?_ ?_
 exact .c .nil
 refine aftI ax bA ay fun hO hP g3 dA dB g4 dC=>?_
 have gf:=dC.g 0 2
 refine dz _ _<| wp_ret (ret_k dA (v:=.bool false) (res_t rfl gf _) ?_)
 refine ⟨?_,dB⟩
 show Ending.returned (.bool false)=Ending.returned (.bool (mayR v))
 first|rfl|(simp only [mayR,Vl.num,ab,ad,aa,ah,aZ,aZ,a1,a1,a3,a3,a4,a4,bsm] <;> rfl)|(exfalso; omega)
 have dD:=hB cF ah
 refine wf dD<| ws<| an _ _<| wk fun hQ dE=>?_
 refine wA tr4 [] 63 [ve (vv v Av cv Bv dv),ve (vv (Vl.mk v.k 0 0 false [] [] v.ref) none 0 none 0),ve (.bool (sameV v (Vl.mk v.k 0 0 false [] [] v.ref))),ve (.bool (sameV v (Vl.mk v.k 0 0 false [] [] v.ref)))] ax ?_ ?_
 exact .L8 gc dw<| .L8 gd dx<| .C2 0 1 (fun n=>qsame_c v _ _ _ _ (Vl.mk v.k 0 0 false [] [] v.ref) _ _ _ _ _ (hmv.new_ (ay.transNew n)) (hsv.new_ (ay.transNew n)) (SRow.nil _ _) (SRow.nil _ _))<| .B 2 .nil
 refine aftI ax bA ay fun hR hS g5 dF dG g6 dH=>?_
 have gg:=dH.g 3 2
 refine dE _ _<| wp_ret (ret_k dF (v:=.bool (sameV v (Vl.mk v.k 0 0 false [] [] v.ref))) (res_t rfl gg _) ?_)
 refine ⟨?_,dG⟩
 show Ending.returned (.bool (sameV v (Vl.mk v.k 0 0 false [] [] v.ref)))=Ending.returned (.bool (mayR v))
 first|rfl|(simp only [mayR,Vl.num,ab,ad,aa,ah,bsm] <;> rfl)|(exfalso; omega)
 have cD:=oF aa
 have dI:=hB cC aa
 refine wf dI<| wk fun hT dJ=>?_
 refine wA tr2 [] 63 [ve (.bool (decide (v.k=3))),ve (.bool (decide (v.k=3)))] au ?_ ?_
 exact .H cB (r_eql rfl)<| .B 0 .nil
 refine aftI au bt bu fun hU hV az bC bD bE aA=>?_
 have⟨bm,bn,cG⟩:=aA.f3 bj bk cB
 have cH:=aA.g 1 25
 have⟨a5,bF⟩:=nw2 bE aW bw
 refine dJ _ _ ?_
 rcases bc (decide (v.k=3)) with ac|ac
 have cI:=oT ac
 have dK:=hB cH ac
 refine wt dK<| wk fun hW dL=>?_
 refine wA [true,true,true,false] [(3,false)] 63 [ve (.pointer (some ⟨q9,1,none⟩)),ve (nv (Nm.mk v.nk v.nn)),ve (.pointer (some ⟨ao,1,none⟩)),vt] az ?_ ?_
 exact .F bm<| .K2 0 a5<| .F bn<| .off .nil
 refine aftI az bC bD fun hX hY bG dM dN bH aB=>?_
 have⟨cJ,gh⟩:=aB.f2 bm bn
 have gi:=aB.g 1 28
 have gj:=aB.g 2 29
 have⟨dO,dP⟩:=nw2 bH a5 bF
 obtain⟨gk,cK,cL,dQ,dR⟩:=s_many (P:=prog) (t:=23) (i:=1) [iv v.nk,iv v.nn] sizeOf23 rfl rfl rfl dP lb
 have dS:Blk gk ao 46 [iv v.k,iv v.nk,iv v.nn,.bool false,sv none ([]) 0,sv none ([]) 0,iv 0]:=cL
 refine st_act rfl rfl fun hZ dT=>a_store' rfl gj gi cK (dT _ _ trivial ?_)
 have bI:=dR _ _ _ (hne28) dO
 have dU:=dN.tR dQ
 refine dL _ _ <| wk fun h0 dV=>?_
 refine wA tr4 [] 63 [ve (.pointer (some ⟨q9,1,none⟩)),ve (nv (Nm.mk v.nk v.nn)),ve (.bool (nmayB (Nm.mk v.nk v.nn))),ve (.bool (!(nmayB (Nm.mk v.nk v.nn))))] bG ?_ ?_
 exact .F cJ<| .K2 0 bI<| .C 1 (fun n=>rmay_c (Nm.mk v.nk v.nn) _)<| .T (fun k=>v_not rfl (k.eq1 2 32 rfl)) .nil
 refine aftI bG dM dU fun h3 h4 aC bJ aD bK a6=>?_
 have⟨gl,gm⟩:=a6.f2 cJ gh
 have cM:=a6.g 3 33
 have⟨dW,dX⟩:=nw2 bK bI dS
 refine dV _ _ ?_
 rcases bc ((!(nmayB (Nm.mk v.nk v.nn)))) with ai|ai
 have dY:=hB cM ai
 have bL:(nmayB (Nm.mk v.nk v.nn))=false:=nF ai
 refine wt dY<| wk fun h5 dZ=>?_
 refine wA tr1 [] 63 [vF] aC ?_ ?_
 exact .c .nil
 refine aftI aC bJ aD fun h6 h7 g7 d0 d1 g8 d2=>?_
 have gn:=d2.g 0 2
 refine dZ _ _<| wp_ret (ret_k d0 (v:=.bool false) (res_t rfl gn _) ?_)
 refine ⟨?_,d1⟩
 show Ending.returned (.bool false)=Ending.returned (.bool (mayR v))
 first|rfl|(simp only [mayR,Vl.num,ab,ad,aa,ac,ai,bL,bL,bsm] <;> rfl)|(exfalso; omega)
 have d3:=hB cM ai
 have bM:(nmayB (Nm.mk v.nk v.nn))=true:=nT ai
 refine wf d3<| ws<| an _ _<| wk fun h9 d4=>?_
 refine wA tr4 [] 63 [ve (vv v Av cv Bv dv),ve (vv (Vl.mk v.k v.nk v.nn false [] [] 0) none 0 none 0),ve (.bool (sameV v (Vl.mk v.k v.nk v.nn false [] [] 0))),ve (.bool (sameV v (Vl.mk v.k v.nk v.nn false [] [] 0)))] aC ?_ ?_
 exact .L8 gl dW<| .L8 gm dX<| .C2 0 1 (fun n=>qsame_c v _ _ _ _ (Vl.mk v.k v.nk v.nn false [] [] 0) _ _ _ _ _ (hmv.new_ (aD.transNew n)) (hsv.new_ (aD.transNew n)) (SRow.nil _ _) (SRow.nil _ _))<| .B 2 .nil
 refine aftI aC bJ aD fun ia ib g9 d5 d6 ha d7=>?_
 have go:=d7.g 3 2
 refine d4 _ _<| wp_ret (ret_k d5 (v:=.bool (sameV v (Vl.mk v.k v.nk v.nn false [] [] 0))) (res_t rfl go _) ?_)
 refine ⟨?_,d6⟩
 show Ending.returned (.bool (sameV v (Vl.mk v.k v.nk v.nn false [] [] 0)))=Ending.returned (.bool (mayR v))
 first|rfl|(simp only [mayR,Vl.num,ab,ad,aa,ac,ai,bM,bM,bsm] <;> rfl)|(exfalso; omega)
 have cI:=oF ac
 have d8:=hB cH ac
 refine wf d8<| wk fun ic d9=>?_
 refine wA tr2 [] 63 [ve (.bool (decide (v.k=4))),ve (.bool (decide (v.k=4)))] az ?_ ?_
 exact .H cG (r_eql rfl)<| .B 0 .nil
 refine aftI az bC bD fun id ie aE bN bO bP aF=>?_
 have⟨bo,bp,cN⟩:=aF.f3 bm bn cG
 have cO:=aF.g 1 34
 have⟨a7,bQ⟩:=nw2 bP a5 bF
 refine d9 _ _ ?_
 rcases bc (decide (v.k=4)) with ae|ae
 have cP:=oT ae
 have ea:=hB cO ae
 refine wt ea<| wk fun ig eb=>?_
 refine wA [true,true,true,false] [(3,false)] 63 [ve (.pointer (some ⟨q9,3,none⟩)),ve (.agg #[.bool v.neg,sv Av v.mag cv]),ve (.pointer (some ⟨ao,3,none⟩)),vt] aE ?_ ?_
 exact .F bo<| .K6 0 a7<| .F bp<| .off .nil
 refine aftI aE bN bO fun ih ii bR ec ed bS aG=>?_
 have⟨cQ,gp⟩:=aG.f2 bo bp
 have gr:=aG.g 1 37
 have gs:=aG.g 2 38
 have⟨ee,ef⟩:=nw2 bS a7 bQ
 obtain⟨gt,cR,cS,eg,eh⟩:=s_many (P:=prog) (t:=26) (i:=3) [.bool v.neg,sv Av v.mag cv] sizeOf26 rfl rfl rfl ef lb
 have ei:Blk gt ao 46 [iv v.k,iv 0,iv 0,.bool v.neg,sv Av v.mag cv,sv none ([]) 0,iv 0]:=cS
 refine st_act rfl rfl fun ij ej=>a_store' rfl gs gr cR (ej _ _ trivial ?_)
 have bT:=eh _ _ _ (hne28) ee
 have bU:=ed.tR eg
 refine eb _ _ <| wk fun ik ek=>?_
 refine wA tr4 [] 63 [ve (.pointer (some ⟨q9,3,none⟩)),ve (.agg #[.bool v.neg,sv Av v.mag cv]),ve (.bool (mayB v.neg v.mag)),ve (.bool (!(mayB v.neg v.mag)))] bR ?_ ?_
 exact .F cQ<| .K6 0 bT<| .C 1 (fun n=>sMay_c v.neg _ v.mag _ _ (hmv.new_ (bU.transNew n)))<| .T (fun k=>v_not rfl (k.eq1 2 41 rfl)) .nil
 refine aftI bR ec bU fun il im aH bV ap bW a8=>?_
 have⟨gu,gv⟩:=a8.f2 cQ gp
 have cU:=a8.g 3 42
 have⟨el,em⟩:=nw2 bW bT ei
 refine ek _ _ ?_
 rcases bc ((!(mayB v.neg v.mag))) with aj|aj
 have en:=hB cU aj
 have bX:(mayB v.neg v.mag)=false:=nF aj
 refine wt en<| wk fun io eo=>?_
 refine wA tr1 [] 63 [vF] aH ?_ ?_
 exact .c .nil
 refine aftI aH bV ap fun ip iq hc ep er hd es=>?_
 have gw:=es.g 0 2
 refine eo _ _<| wp_ret (ret_k ep (v:=.bool false) (res_t rfl gw _) ?_)
 refine ⟨?_,er⟩
 show Ending.returned (.bool false)=Ending.returned (.bool (mayR v))
 first|rfl|(simp only [mayR,Vl.num,ab,ad,aa,ac,ae,aj,bX,bX,bsm] <;> rfl)|(exfalso; omega)
 have et:=hB cU aj
 have bY:(mayB v.neg v.mag)=true:=nT aj
 refine wf et<| ws<| an _ _<| wk fun ir eu=>?_
 refine wA tr4 [] 63 [ve (vv v Av cv Bv dv),ve (vv (Vl.mk v.k 0 0 v.neg v.mag [] 0) Av cv none 0),ve (.bool (sameV v (Vl.mk v.k 0 0 v.neg v.mag [] 0))),ve (.bool (sameV v (Vl.mk v.k 0 0 v.neg v.mag [] 0)))] aH ?_ ?_
 exact .L8 gu el<| .L8 gv em<| .C2 0 1 (fun n=>qsame_c v _ _ _ _ (Vl.mk v.k 0 0 v.neg v.mag [] 0) _ _ _ _ _ (hmv.new_ (ap.transNew n)) (hsv.new_ (ap.transNew n)) (hmv.new_ (ap.transNew n)) (SRow.nil _ _))<| .B 2 .nil
 refine aftI aH bV ap fun it iu he ev ew hf ex=>?_
 have gx:=ex.g 3 2
 refine eu _ _<| wp_ret (ret_k ev (v:=.bool (sameV v (Vl.mk v.k 0 0 v.neg v.mag [] 0))) (res_t rfl gx _) ?_)
 refine ⟨?_,ew⟩
 show Ending.returned (.bool (sameV v (Vl.mk v.k 0 0 v.neg v.mag [] 0)))=Ending.returned (.bool (mayR v))
 first|rfl|(simp only [mayR,Vl.num,ab,ad,aa,ac,ae,aj,bY,bY,bsm] <;> rfl)|(exfalso; omega)
 have cP:=oF ae
 have ey:=hB cO ae
 refine wf ey<| wk fun iw ez=>?_
 refine wA tr2 [] 63 [ve (.bool (decide (v.k=5))),ve (.bool (decide (v.k=5)))] aE ?_ ?_
 exact .H cN (r_eql rfl)<| .B 0 .nil
 refine aftI aE bN bO fun ix iy aI bZ b0 b1 aJ=>?_
 have⟨bq,br,gy⟩:=aJ.f3 bo bp cN
 have cV:=aJ.g 1 43
 have⟨a9,b2⟩:=nw2 b1 a7 bQ
 refine ez _ _ ?_
 rcases bc (decide (v.k=5)) with af|af
 have cW:=oT af
 have eA:=hB cV af
 refine wt eA<| wk fun iz eB=>?_
 refine wA [true,true,true,false] [(3,false)] 63 [ve (.pointer (some ⟨q9,5,none⟩)),ve (sv Bv v.s dv),ve (.pointer (some ⟨ao,5,none⟩)),vt] aI ?_ ?_
 exact .F bq<| .J 0 isAgg27 a9<| .F br<| .off .nil
 refine aftI aI bZ b0 fun iA iB b3 eC eD b4 aK=>?_
 have⟨cX,gz⟩:=aK.f2 bq br
 have gA:=aK.g 1 46
 have gB:=aK.g 2 47
 have⟨eE,eF⟩:=nw2 b4 a9 b2
 obtain⟨iC,-,cY,eG,eH,eI⟩:=s_one (v:=sv Bv v.s dv) (i:=5) sizeOf27 rfl rfl eF lb
 refine st_act rfl rfl fun iD eJ=>a_store' rfl gB gA cY (eJ _ _ trivial ?_)
 have b5:=eI _ _ _ (hne28) eE
 have eK:=eD.tR eH
 refine eB _ _ <| wk fun iE eL=>?_
 refine wA tr4 [] 63 [ve (.pointer (some ⟨q9,5,none⟩)),ve (sv Bv v.s dv),ve (iv (v.s.length:Int)),ve (.bool (!decide ((v.s.length:Int)≤4096)))] b3 ?_ ?_
 exact .F cX<| .J 0 isAgg27 b5<| .T (fun k=>v_lenR rfl elU (k.eq1 1 49 rfl))<| .b 2 (r_gtrK rfl) .nil
 refine aftI b3 eC eK fun iF iG aL b6 aq b7 ba=>?_
 have⟨gC,gD⟩:=ba.f2 cX gz
 have cZ:=ba.g 3 51
 have⟨eM,eN⟩:=nw2 b7 b5 eG
 refine eL _ _ ?_
 rcases bc ((!decide ((v.s.length:Int)≤4096))) with ak|ak
 have eO:=hB cZ ak
 have bb:(decide ((v.s.length:Int)≤4096))=false:=nF ak
 have gZ:=oF bb
 refine wt eO<| wk fun iH eP=>?_
 refine wA tr1 [] 63 [vF] aL ?_ ?_
 exact .c .nil
 refine aftI aL b6 aq fun iI iJ hh eQ eR hi eS=>?_
 have gE:=eS.g 0 2
 refine eP _ _<| wp_ret (ret_k eQ (v:=.bool false) (res_t rfl gE _) ?_)
 refine ⟨?_,eR⟩
 show Ending.returned (.bool false)=Ending.returned (.bool (mayR v))
 first|rfl|(simp only [mayR,Vl.num,ab,ad,aa,ac,ae,af,ak,bb,bb,bsm] <;> rfl)|(exfalso; omega)
 have eT:=hB cZ ak
 have bd:(decide ((v.s.length:Int)≤4096))=true:=nT ak
 have g1:=oT bd
 refine wf eT<| ws<| an _ _<| wk fun iK eU=>?_
 refine wA tr4 [] 63 [ve (vv v Av cv Bv dv),ve (vv (Vl.mk v.k 0 0 false [] v.s 0) none 0 Bv dv),ve (.bool (sameV v (Vl.mk v.k 0 0 false [] v.s 0))),ve (.bool (sameV v (Vl.mk v.k 0 0 false [] v.s 0)))] aL ?_ ?_
 exact .L8 gC eM<| .L8 gD eN<| .C2 0 1 (fun n=>qsame_c v _ _ _ _ (Vl.mk v.k 0 0 false [] v.s 0) _ _ _ _ _ (hmv.new_ (aq.transNew n)) (hsv.new_ (aq.transNew n)) (SRow.nil _ _) (hsv.new_ (aq.transNew n)))<| .B 2 .nil
 refine aftI aL b6 aq fun iL iM hj eV eW hl eX=>?_
 have gF:=eX.g 3 2
 refine eU _ _<| wp_ret (ret_k eV (v:=.bool (sameV v (Vl.mk v.k 0 0 false [] v.s 0))) (res_t rfl gF _) ?_)
 refine ⟨?_,eW⟩
 show Ending.returned (.bool (sameV v (Vl.mk v.k 0 0 false [] v.s 0)))=Ending.returned (.bool (mayR v))
 first|rfl|(simp only [mayR,Vl.num,ab,ad,aa,ac,ae,af,ak,bd,bd,bsm] <;> rfl)|(exfalso; omega)
 have cW:=oF af
 have eY:=hB cV af
 refine wf eY<| wk fun iN eZ=>?_
 refine wA tr2 [] 63 [ve (.bool (decide (v.k=6))),ve (.bool (decide (v.k=6)))] aI ?_ ?_
 exact .H gy (r_eql rfl)<| .B 0 .nil
 refine aftI aI bZ b0 fun iO iP aM b8 b9 ca be=>?_
 have⟨c0,c1⟩:=be.f2 bq br
 have c2:=be.g 1 52
 have⟨cb,e0⟩:=nw2 ca a9 b2
 refine eZ _ _ ?_
 rcases bc (decide (v.k=6)) with ag|ag
 have c3:=oT ag
 have e1:=hB c2 ag
 refine wt e1<| wk fun iQ e2=>?_
 refine wA [true,true,true,false] [(3,false)] 63 [ve (.pointer (some ⟨q9,6,none⟩)),ve (iv v.ref),ve (.pointer (some ⟨ao,6,none⟩)),vt] aM ?_ ?_
 exact .F c0<| .J 0 isAgg3 cb<| .F c1<| .off .nil
 refine aftI aM b8 b9 fun iR iS cc e3 e4 cd aN=>?_
 have⟨c4,gG⟩:=aN.f2 c0 c1
 have gH:=aN.g 1 55
 have gI:=aN.g 2 56
 have⟨e5,e6⟩:=nw2 cd cb e0
 obtain⟨iT,-,c5,e7,e8,e9⟩:=s_one (v:=iv v.ref) (i:=6) sizeOf3 rfl rfl e6 lb
 refine st_act rfl rfl fun iU fa=>a_store' rfl gI gH c5 (fa _ _ trivial ?_)
 have ce:=e9 _ _ _ (hne28) e5
 have fb:=e4.tR e8
 refine e2 _ _ <| wk fun iV fc=>?_
 refine wA tr3 [] 63 [ve (.pointer (some ⟨q9,6,none⟩)),ve (iv v.ref),ve (.bool (decide (v.ref < 0)))] cc ?_ ?_
 exact .F c4<| .J 0 isAgg3 ce<| .b 1 (r_lssK rfl) .nil
 refine aftI cc e3 fb fun iW iX aO cf aP ch bf=>?_
 have⟨gJ,gK⟩:=bf.f2 c4 gG
 have c6:=bf.g 2 59
 have⟨fd,fe⟩:=nw2 ch ce e7
 refine fc _ _ ?_
 rcases bc (decide (v.ref < 0)) with am|am
 have c8:=oT am
 have ff:=hB c6 am
 refine wt ff<| wk fun iY fg=>?_
 refine wA tr1 [] 63 [vF] aO ?_ ?_
 exact .c .nil
 refine aftI aO cf aP fun iZ i0 hm fh fi ho fj=>?_
 have gL:=fj.g 0 2
 refine fg _ _<| wp_ret (ret_k fh (v:=.bool false) (res_t rfl gL _) ?_)
 refine ⟨?_,fi⟩
 show Ending.returned (.bool false)=Ending.returned (.bool (mayR v))
 first|rfl|(simp only [mayR,Vl.num,ab,ad,aa,ac,ae,af,ag,am,bsm] <;> rfl)|(exfalso; omega)
 have c8:=oF am
 have fk:=hB c6 am
 refine wf fk<| ws<| an _ _<| wk fun i1 fl=>?_
 refine wA tr4 [] 63 [ve (vv v Av cv Bv dv),ve (vv (Vl.mk v.k 0 0 false [] [] v.ref) none 0 none 0),ve (.bool (sameV v (Vl.mk v.k 0 0 false [] [] v.ref))),ve (.bool (sameV v (Vl.mk v.k 0 0 false [] [] v.ref)))] aO ?_ ?_
 exact .L8 gJ fd<| .L8 gK fe<| .C2 0 1 (fun n=>qsame_c v _ _ _ _ (Vl.mk v.k 0 0 false [] [] v.ref) _ _ _ _ _ (hmv.new_ (aP.transNew n)) (hsv.new_ (aP.transNew n)) (SRow.nil _ _) (SRow.nil _ _))<| .B 2 .nil
 refine aftI aO cf aP fun i2 i3 hr fm fn hs fo=>?_
 have gM:=fo.g 3 2
 refine fl _ _<| wp_ret (ret_k fm (v:=.bool (sameV v (Vl.mk v.k 0 0 false [] [] v.ref))) (res_t rfl gM _) ?_)
 refine ⟨?_,fn⟩
 show Ending.returned (.bool (sameV v (Vl.mk v.k 0 0 false [] [] v.ref)))=Ending.returned (.bool (mayR v))
 first|rfl|(simp only [mayR,Vl.num,ab,ad,aa,ac,ae,af,ag,am,bsm] <;> rfl)|(exfalso; omega)
 have c3:=oF ag
 have fp:=hB c2 ag
 refine wf fp<| wk fun i4 fq=>?_
 refine wA tr1 [] 63 [vF] aM ?_ ?_
 exact .c .nil
 refine aftI aM b8 b9 fun i5 i6 ht fs ft hu fu=>?_
 have gN:=fu.g 0 2
 refine fq _ _<| wp_ret (ret_k fs (v:=.bool false) (res_t rfl gN _) ?_)
 refine ⟨?_,ft⟩
 show Ending.returned (.bool false)=Ending.returned (.bool (mayR v))
 first|rfl|(simp only [mayR,Vl.num,ab,ad,aa,ac,ae,af,ag,bsm] <;> rfl)|(exfalso; omega)
theorem qmay_c (v:Vl) (Av:Option Addr) (cv:Nat) (Bv:Option Addr) (dv:Nat) (w:World) (hmv:SRow w .u32 Av v.mag cv) (hsv:SRow w .u16 Bv v.s dv):Calls Tryz.prog 159 #[vv v Av cv Bv dv] w (IsRet (.bool (mayV v)) w):=by
  have h:=qmay_c0 v Av cv Bv dv w hmv hsv
  rw [mayR_eq] at h
  exact h
def qgood_c_P (v:Vl) (Av:Option Addr) (cv:Nat) (Bv:Option Addr) (dv:Nat) (w:World) (en:Ending) (w':World):Prop:=∃ (Ar0:Option Addr) (cr0:Nat) (Ar1:Option Addr) (cr1:Nat),en=.returned (vv (cleanV v) Ar0 cr0 Ar1 cr1)∧SRow w' .u32 Ar0 ((cleanV v).mag) cr0∧SRow w' .u16 Ar1 ((cleanV v).s) cr1∧New w w'
theorem qgood_c (v:Vl) (Av:Option Addr) (cv:Nat) (Bv:Option Addr) (dv:Nat) (w:World) (hmv:SRow w .u32 Av v.mag cv) (hsv:SRow w .u16 Bv v.s dv):Calls prog 103 #[vv v Av cv Bv dv] w (qgood_c_P v Av cv Bv dv w):=by
 refine enter_abs func103 rfl fun a0 ah a5 hp=>?_
 have ah:a0.tmps.size=7:=ah
 have ai:New w w:=Upd.refl _ _
 have hp0:a0.eval (.tmp 0)=vv v Av cv Bv dv:=hp 0 _ rfl
 refine wk fun K1 a6=>?_
 refine wB tr2 [] [] 7 [IsNew w 46 (c7 v Av cv Bv dv),IsNew w 46 z7] [0,1] ah ?_ heN ?_
 exact .X hp0<| .Y .nil
 refine aftI ah a5 ai fun a2 w3 ay a7 ae bk aj=>?_
 obtain⟨q9,h8,aE,ak⟩:=aj.G 0 1
 obtain⟨al,az,aF,aG⟩:=aj.G 1 2
 have hne16:=aj.ne 0 1 1 2 h8 az
 have be:=Nat.le_trans ai.size aE
 have bf:=Nat.le_trans ai.size aF
 refine a6 _ _ <| wk fun bl aH=>?_
 refine wk fun bm aI=>?_
 refine wA tr2 [] 7 [ve (vv v Av cv Bv dv),ve (.bool (mayV v))] ay ?_ ?_
 exact .L8 h8 ak<| .C 0 (fun n=>qmay_c v _ _ _ _ _ (hmv.new_ (ae.transNew n)) (hsv.new_ (ae.transNew n))) .nil
 refine aftI ay a7 ae fun bn bo ab am an ao af=>?_
 have⟨a8,aA⟩:=af.f2 h8 az
 have aB:=af.g 1 4
 have⟨aJ,ap⟩:=nw2 ao ak aG
 refine aI _ _ ?_
 rcases bc (mayV v) with aa|aa
 have aK:=hB aB aa
 refine wt aK<| wk fun bp aL=>?_
 refine wA [true,false] [(1,false)] 7 [ve (vv v Av cv Bv dv),vt] ab ?_ ?_
 exact .L8 a8 aJ<| .off .nil
 refine aftI ab am an fun bq br bg aM aN aO aq=>?_
 have aC:=aq.f1 aA
 have a9:=aq.g 0 5
 have aP:=ap.new_ aO
 refine sS8 aC a9 aP fun ba aR aQ bh=>?_
 have ag:=aN.tR aQ
 refine aL _ _<| wp_ret (ret_k aM (v:=vv v Av cv Bv dv) (res_c rfl aC (l_agg isAgg46 sizeOf46 aR rfl)) ?_)
 have ac:(cleanV v).mag=v.mag:=by first|rfl|(simp only [cleanV,Vl.z,aa,bsm] <;> rfl)|(exfalso; omega)
 have ad:(cleanV v).s=v.s:=by first|rfl|(simp only [cleanV,Vl.z,aa,bsm] <;> rfl)|(exfalso; omega)
 exact⟨Av,cv,Bv,dv,(by show Ending.returned (vv v Av cv Bv dv)=Ending.returned (vv (cleanV v) Av cv Bv dv); (first|rfl|(simp only [cleanV,Vl.z,aa,ac,ad,bsm] <;> rfl)|(exfalso; omega))),(by rw [ac]; exact (hmv.new_ ag)),(by rw [ad]; exact (hsv.new_ ag)),ag⟩
 have aT:=hB aB aa
 refine wf aT<| ws<| aH _ _<| wk fun bt aU=>?_
 refine wA [true,false] [(1,false)] 7 [ve (vv (Vl.mk 0 0 0 false [] [] 0) none 0 none 0),vt] ab ?_ ?_
 exact .Z<| .off .nil
 refine aftI ab am an fun bu bv bi aV aW aX ar=>?_
 have aD:=ar.f1 aA
 have bb:=ar.g 0 6
 have aY:=ap.new_ aX
 refine sS8 aD bb aY fun bd a1 aZ bj=>?_
 have a4:=aW.tR aZ
 refine aU _ _<| wp_ret (ret_k aV (v:=vv (Vl.mk 0 0 0 false [] [] 0) none 0 none 0) (res_c rfl aD (l_agg isAgg46 sizeOf46 a1 rfl)) ?_)
 exact rW (by first|rfl|(simp only [cleanV,Vl.z,aa,bsm] <;> rfl)|(exfalso; omega)) a4
def qtruth_c_P (t:Bool) (w:World) (en:Ending) (w':World):Prop:=∃ (Ar0:Option Addr) (cr0:Nat) (Ar1:Option Addr) (cr1:Nat),en=.returned (vv (truthV t) Ar0 cr0 Ar1 cr1)∧SRow w' .u32 Ar0 ((truthV t).mag) cr0∧SRow w' .u16 Ar1 ((truthV t).s) cr1∧New w w'
theorem qtruth_c (t:Bool) (w:World):Calls prog 54 #[.bool t] w (qtruth_c_P t w):=by
 refine enter_abs func54 rfl fun a0 ae aZ hp=>?_
 have ae:a0.tmps.size=6:=ae
 have ap:New w w:=Upd.refl _ _
 have hp0:a0.eval (.tmp 0)=.bool t:=hp 0 _ rfl
 refine wk fun K1 a1=>?_
 refine wB tr1 [] [] 6 [IsNew w 46 z7] [0] ae ?_ heN ?_
 exact .Y .nil
 refine aftI ae aZ ap fun a2 w3 aq a3 az be ar=>?_
 have h8:=ar.f1 hp0
 obtain⟨au,h9,aA,aB⟩:=ar.G 0 2
 have a8:=Nat.le_trans ap.size aA
 refine a1 _ _ <| wk fun bf aC=>?_
 refine wk fun bg aD=>?_
 refine wA tr1 [] 6 [ve (.bool t)] aq ?_ ?_
 exact .M h8 .nil
 refine aftI aq a3 az fun bh bi ab af ag aE ah=>?_
 have av:=ah.f1 h9
 have aw:=ah.g 0 3
 have ai:=aB.new_ aE
 refine aD _ _ ?_
 rcases bc (t) with aa|aa
 have aF:=hB aw aa
 refine wt aF<| wk fun bj aG=>?_
 refine wA [true,false] [(1,false)] 6 [ve (vv (Vl.mk 2 0 0 false [] [] 1) none 0 none 0),vt] ab ?_ ?_
 exact .T (fun k=>v_build (ps:=[(0,iv 2),(4,iv 1)]) rfl (parts2 rfl rfl) (by kernel_rfl))<| .off .nil
 refine aftI ab af ag fun bk bl a9 aH aI aJ aj=>?_
 have ax:=aj.f1 av
 have a4:=aj.g 0 4
 have aK:=ai.new_ aJ
 refine sS8 ax a4 aK fun a5 aM aL ba=>?_
 have aO:=aI.tR aL
 refine aG _ _<| wp_ret (ret_k aH (v:=vv (Vl.mk 2 0 0 false [] [] 1) none 0 none 0) (res_c rfl ax (l_agg isAgg46 sizeOf46 aM rfl)) ?_)
 exact rW (by first|rfl|(simp only [truthV,aa,bsm] <;> rfl)|(exfalso; omega)) aO
 have aP:=hB aw aa
 refine wf aP<| ws<| aC _ _<| wk fun bn aQ=>?_
 refine wA [true,false] [(1,false)] 6 [ve (vv (Vl.mk 2 0 0 false [] [] 0) none 0 none 0),vt] ab ?_ ?_
 exact .T (fun k=>v_build (ps:=[(0,iv 2)]) rfl (parts1 rfl) (by kernel_rfl))<| .off .nil
 refine aftI ab af ag fun bo bp bb aR aS aT ak=>?_
 have ay:=ak.f1 av
 have a6:=ak.g 0 5
 have aU:=ai.new_ aT
 refine sS8 ay a6 aU fun a7 aW aV bd=>?_
 have aY:=aS.tR aV
 refine aQ _ _<| wp_ret (ret_k aR (v:=vv (Vl.mk 2 0 0 false [] [] 0) none 0 none 0) (res_c rfl ay (l_agg isAgg46 sizeOf46 aW rfl)) ?_)
 exact rW (by first|rfl|(simp only [truthV,aa,bsm] <;> rfl)|(exfalso; omega)) aY
theorem qnum_c (a:Nm) (w:World):Calls prog 57 #[nv a] w (IsRet (vv (Vl.mk 3 a.k a.n false [] [] 0) none 0 none 0) w):=by
 refine enter_abs func57 rfl fun a0 aa aA hp=>?_
 have aa:a0.tmps.size=5:=aa
 have ab:New w w:=Upd.refl _ _
 have hp0:a0.eval (.tmp 0)=nv a:=hp 0 _ rfl
 refine wk fun K1 aB=>?_
 refine wB tr2 [] [] 5 [IsNew w 23 [iv a.k,iv a.n],IsNew w 46 z7] [0,1] aa ?_ heN ?_
 exact .X hp0<| .Y .nil
 refine aftI aa aA ab fun a2 w3 ag aC ak aJ ac=>?_
 obtain⟨q9,h8,al,am⟩:=ac.G 0 1
 obtain⟨ah,ai,an,ao⟩:=ac.G 1 2
 have hne16:=ac.ne 0 1 1 2 h8 ai
 have aF:=Nat.le_trans ab.size al
 have aG:=Nat.le_trans ab.size an
 refine aB _ _ <| wk fun aK ap=>?_
 refine wA [true,true,false] [(2,false)] 5 [ve (nv a),ve (vv (Vl.mk 3 a.k a.n false [] [] 0) none 0 none 0),vt] ag ?_ ?_
 exact .L2 h8 am<| .T (fun k=>v_build (ps:=[(0,iv 3),(1,nv a)]) rfl (parts2 rfl (k.eq1 0 3 rfl)) (by kernel_rfl))<| .off .nil
 refine aftI ag aC ak fun aL aM aH aq ar au ad=>?_
 have aj:=ad.f1 ai
 have aD:=ad.g 1 4
 have av:=ao.new_ au
 refine sS8 aj aD av fun aE ax aw aI=>?_
 have az:=ar.tR aw
 refine ap _ _<| wp_ret (ret_k aq (v:=vv (Vl.mk 3 a.k a.n false [] [] 0) none 0 none 0) (res_c rfl aj (l_agg isAgg46 sizeOf46 ax rfl)) ?_)
 exact⟨rfl,az⟩
theorem plain_c (v:Vl) (Av:Option Addr) (cv:Nat) (Bv:Option Addr) (dv:Nat) (w:World) (hmv:SRow w .u32 Av v.mag cv) (hsv:SRow w .u16 Bv v.s dv):Calls prog 23 #[vv v Av cv Bv dv] w (IsRet (vv v Av cv Bv dv) w):=by
 refine enter_abs func23 rfl fun a0 ab aA hp=>?_
 have ab:a0.tmps.size=14:=ab
 have ac:New w w:=Upd.refl _ _
 have hp0:a0.eval (.tmp 0)=vv v Av cv Bv dv:=hp 0 _ rfl
 refine wk fun K1 aB=>?_
 refine wB tr2 [] [] 14 [IsNew w 29 (c7 v Av cv Bv dv),IsNew w 46 z7] [0,1] ab ?_ heN ?_
 exact .X hp0<| .Y .nil
 refine aftI ab aA ac fun a2 w3 ah aC al aJ ad=>?_
 obtain⟨q9,h8,am,aa⟩:=ad.G 0 1
 obtain⟨ai,aj,an,ao⟩:=ad.G 1 2
 have hne16:=ad.ne 0 1 1 2 h8 aj
 have aF:=Nat.le_trans ac.size am
 have aG:=Nat.le_trans ac.size an
 refine aB _ _ <| wk fun aK ap=>?_
 refine wA [true,true,true,true,true,true,true,true,true,true,true,false] [(11,false)] 14 [ve (pv q9),ve (iv v.k),ve (.pointer (some ⟨q9,1,none⟩)),ve (nv (Nm.mk v.nk v.nn)),ve (.pointer (some ⟨q9,3,none⟩)),ve (.agg #[.bool v.neg,sv Av v.mag cv]),ve (.pointer (some ⟨q9,5,none⟩)),ve (sv Bv v.s dv),ve (.pointer (some ⟨q9,6,none⟩)),ve (iv v.ref),ve (vv v Av cv Bv dv),vt] ah ?_ ?_
 exact .F h8<| .J 0 isAgg3 aa<| .F h8<| .K2 2 aa<| .F h8<| .K6 4 aa<| .F h8<| .J 6 isAgg27 aa<| .F h8<| .J 8 isAgg3 aa<| .T (fun k=>v_build (ps:=[(0,iv v.k),(1,nv (Nm.mk v.nk v.nn)),(2,.agg #[.bool v.neg,sv Av v.mag cv]),(3,sv Bv v.s dv),(4,iv v.ref)]) rfl (parts5 (k.eq1 1 4 rfl) (k.eq1 3 6 rfl) (k.eq1 5 8 rfl) (k.eq1 7 10 rfl) (k.eq1 9 12 rfl)) (by kernel_rfl))<| .off .nil
 refine aftI ah aC al fun aL aM aH aq ar au ae=>?_
 have ak:=ae.f1 aj
 have aD:=ae.g 10 13
 have av:=ao.new_ au
 refine sS8 ak aD av fun aE ax aw aI=>?_
 have az:=ar.tR aw
 refine ap _ _<| wp_ret (ret_k aq (v:=vv v Av cv Bv dv) (res_c rfl ak (l_agg isAgg46 sizeOf46 ax rfl)) ?_)
 exact⟨rfl,az⟩
theorem is_c (v:Vl) (Av:Option Addr) (cv:Nat) (Bv:Option Addr) (dv:Nat) (u:Vl) (Au:Option Addr) (cu:Nat) (Bu:Option Addr) (du:Nat) (w:World) (hmv:SRow w .u32 Av v.mag cv) (hsv:SRow w .u16 Bv v.s dv) (hmu:SRow w .u32 Au u.mag cu) (hsu:SRow w .u16 Bu u.s du):Calls prog 27 #[vv v Av cv Bv dv,vv u Au cu Bu du] w (IsRet (.bool (sameV v u)) w):=by
 refine enter_abs func27 rfl fun a0 ab an hp=>?_
 have ab:a0.tmps.size=9:=ab
 have ac:New w w:=Upd.refl _ _
 have hp0:a0.eval (.tmp 0)=vv v Av cv Bv dv:=hp 0 _ rfl
 have hp1:a0.eval (.tmp 1)=vv u Au cu Bu du:=hp 1 _ rfl
 refine wk fun K1 ao=>?_
 refine wB tr3 [] [] 9 [IsNew w 29 (c7 v Av cv Bv dv),IsNew w 46 (c7 u Au cu Bu du),vF] [0,1] ab ?_ heN ?_
 exact .X hp0<| .X hp1<| .c .nil
 refine aftI ab an ac fun a2 w3 ad ap aa ay ae=>?_
 obtain⟨q9,h8,af,ag⟩:=ae.G 0 2
 obtain⟨az,aq,ah,ai⟩:=ae.G 1 3
 have au:=Nat.le_trans ac.size af
 have av:=Nat.le_trans ac.size ah
 refine ao _ _ <| wk fun aA aj=>?_
 refine wA tr5 [] 9 [ve (vv v Av cv Bv dv),ve (vv v Av cv Bv dv),ve (vv u Au cu Bu du),ve (.bool (sameV v u)),ve (.bool (sameV v u))] ad ?_ ?_
 exact .L9 h8 ag<| .C 0 (fun n=>plain_c v _ _ _ _ _ (hmv.new_ (aa.transNew n)) (hsv.new_ (aa.transNew n)))<| .L8 aq ai<| .C2 1 2 (fun n=>qsame_c v _ _ _ _ u _ _ _ _ _ (hmv.new_ (aa.transNew n)) (hsv.new_ (aa.transNew n)) (hmu.new_ (aa.transNew n)) (hsu.new_ (aa.transNew n)))<| .B 3 .nil
 refine aftI ad ap aa fun aB aC aw ak al ax am=>?_
 have ar:=am.g 4 4
 refine aj _ _<| wp_ret (ret_k ak (v:=.bool (sameV v u)) (res_t rfl ar _) ?_)
 exact⟨rfl,al⟩
theorem rblank_c (x:Nat) (w:World) (hx:x < 65536):Calls prog 184 #[.int .u16 (x:Int)] w (IsRet (.bool (blankN x)) w):=by
 refine enter_abs func184 rfl fun a0 aa ag hp=>?_
 have aa:a0.tmps.size=17:=aa
 have ah:New w w:=Upd.refl _ _
 have hp0:a0.eval (.tmp 0)=.int .u16 (x:Int):=hp 0 _ rfl
 refine wk fun K1 ai=>?_
 refine wA tr1 [] 17 [vF] aa ?_ ?_
 exact .c .nil
 refine aftI aa ag ah fun a2 w3 ab aj ak ap al=>?_
 have h8:=al.f1 hp0
 refine ai _ _ <| wk fun aq ac=>?_
 refine wA tr15 [] 17 [ve (.int .u16 (x:Int)),ve (.bool (decide ((x:Int)=32))),ve (.bool (decide ((x:Int)=32))),ve (gq (!(decide ((x:Int)=32))) (.int .u16 (x:Int))),ve (gq (!(decide ((x:Int)=32))) (.bool (decide ((x:Int)=9)))),ve (.bool ((decide ((x:Int)=32)) || (decide ((x:Int)=9)))),ve (.bool ((decide ((x:Int)=32)) || (decide ((x:Int)=9)))),ve (gq (!((decide ((x:Int)=32)) || (decide ((x:Int)=9)))) (.int .u16 (x:Int))),ve (gq (!((decide ((x:Int)=32)) || (decide ((x:Int)=9)))) (.bool (decide ((x:Int)=10)))),ve (.bool (((decide ((x:Int)=32)) || (decide ((x:Int)=9))) || (decide ((x:Int)=10)))),ve (.bool (((decide ((x:Int)=32)) || (decide ((x:Int)=9))) || (decide ((x:Int)=10)))),ve (gq (!(((decide ((x:Int)=32)) || (decide ((x:Int)=9))) || (decide ((x:Int)=10)))) (.int .u16 (x:Int))),ve (gq (!(((decide ((x:Int)=32)) || (decide ((x:Int)=9))) || (decide ((x:Int)=10)))) (.bool (decide ((x:Int)=13)))),ve (.bool ((((decide ((x:Int)=32)) || (decide ((x:Int)=9))) || (decide ((x:Int)=10))) || (decide ((x:Int)=13)))),ve (.bool ((((decide ((x:Int)=32)) || (decide ((x:Int)=9))) || (decide ((x:Int)=10))) || (decide ((x:Int)=13))))] ab ?_ ?_
 exact .M h8<| .b 0 (r_eql rfl)<| .N 1<| .Q (fun k=>g0' (k.eq1 2 5 rfl)) (fun hG n k=>v_move rfl (k.fx 0 h8))<| .Q (fun k=>g0' (k.eq1 2 5 rfl)) (fun hG n k=>v_bin rfl (cT hG (k.eq1 3 6 rfl)) rfl (fun _=>rfl) (r_eql rfl))<| .W 2 4<| .N 5<| .Q (fun k=>g0' (k.eq1 6 9 rfl)) (fun hG n k=>v_move rfl (k.fx 0 h8))<| .Q (fun k=>g0' (k.eq1 6 9 rfl)) (fun hG n k=>v_bin rfl (cT hG (k.eq1 7 10 rfl)) rfl (fun _=>rfl) (r_eql rfl))<| .W 6 8<| .N 9<| .Q (fun k=>g0' (k.eq1 10 13 rfl)) (fun hG n k=>v_move rfl (k.fx 0 h8))<| .Q (fun k=>g0' (k.eq1 10 13 rfl)) (fun hG n k=>v_bin rfl (cT hG (k.eq1 11 14 rfl)) rfl (fun _=>rfl) (r_eql rfl))<| .W 10 12<| .B 13 .nil
 refine aftI ab aj ak fun ar au an ad ae ao af=>?_
 have am:=af.g 14 2
 refine ac _ _<| wp_ret (ret_k ad (v:=.bool ((((decide ((x:Int)=32)) || (decide ((x:Int)=9))) || (decide ((x:Int)=10))) || (decide ((x:Int)=13)))) (res_t rfl am _) ?_)
 refine ⟨?_,ae⟩
 show Ending.returned (.bool ((((decide ((x:Int)=32)) || (decide ((x:Int)=9))) || (decide ((x:Int)=10))) || (decide ((x:Int)=13))))=Ending.returned (.bool (blankN x))
 first|rfl|(simp only [blankN,bsm] <;> rfl)|(exfalso; omega)
theorem rdigit_c (x:Nat) (w:World) (hx:x < 65536):Calls prog 185 #[.int .u16 (x:Int)] w (IsRet (.bool (dgtN x)) w):=by
 refine enter_abs func185 rfl fun a0 aa ag hp=>?_
 have aa:a0.tmps.size=9:=aa
 have ah:New w w:=Upd.refl _ _
 have hp0:a0.eval (.tmp 0)=.int .u16 (x:Int):=hp 0 _ rfl
 refine wk fun K1 ai=>?_
 refine wA tr1 [] 9 [vF] aa ?_ ?_
 exact .c .nil
 refine aftI aa ag ah fun a2 w3 ab aj ak ap al=>?_
 have h8:=al.f1 hp0
 refine ai _ _ <| wk fun aq ac=>?_
 refine wA tr7 [] 9 [ve (.int .u16 (x:Int)),ve (.bool (!decide ((x:Int) < 48))),ve (.bool (!decide ((x:Int) < 48))),ve (gq (!decide ((x:Int) < 48)) (.int .u16 (x:Int))),ve (gq (!decide ((x:Int) < 48)) (.bool (decide ((x:Int)≤57)))),ve (.bool ((!decide ((x:Int) < 48)) && (decide ((x:Int)≤57)))),ve (.bool ((!decide ((x:Int) < 48)) && (decide ((x:Int)≤57))))] ab ?_ ?_
 exact .M h8<| .b 0 (r_geqK rfl)<| .N 1<| .Q (fun k=>g0 (k.eq1 2 5 rfl)) (fun hG n k=>v_move rfl (k.fx 0 h8))<| .Q (fun k=>g0 (k.eq1 2 5 rfl)) (fun hG n k=>v_bin rfl (cT hG (k.eq1 3 6 rfl)) rfl (fun _=>rfl) (r_leqK rfl))<| .O 2 4<| .B 5 .nil
 refine aftI ab aj ak fun ar au an ad ae ao af=>?_
 have am:=af.g 6 2
 refine ac _ _<| wp_ret (ret_k ad (v:=.bool ((!decide ((x:Int) < 48)) && (decide ((x:Int)≤57)))) (res_t rfl am _) ?_)
 refine ⟨?_,ae⟩
 show Ending.returned (.bool ((!decide ((x:Int) < 48)) && (decide ((x:Int)≤57))))=Ending.returned (.bool (dgtN x))
 first|rfl|(simp only [dgtN,bsm] <;> rfl)|(exfalso; omega)
def rtrim_c_P (Au:Option Addr) (u:List Nat) (cu:Nat) (w:World) (en:Ending) (w':World):Prop:=∃ (Ar0:Option Addr) (cr0:Nat),en=.returned (sv Ar0 (trimN u) cr0)∧SRow w' .u16 Ar0 (trimN u) cr0∧New w w'
theorem rtrim_c (Au:Option Addr) (u:List Nat) (cu:Nat) (w:World) (hru:SRow w .u16 Au u cu) (hu:U16s u):Calls prog 161 #[sv Au u cu] w (rtrim_c_P Au u cu w):=by
 refine enter_abs func161 rfl fun a0 aZ db hp=>?_
 have aZ:a0.tmps.size=36:=aZ
 have dc:New w w:=Upd.refl _ _
 have hp0:a0.eval (.tmp 0)=sv Au u cu:=hp 0 _ rfl
 have hmx:=hru.max
 refine wk fun K1 dd=>?_
 refine wA tr1 [] 36 [ve (sv none ([]) 0)] aZ ?_ ?_
 exact .c .nil
 refine aftI aZ db dc fun a2 w3 ci de df eY dg=>?_
 have h8:=dg.f1 hp0
 refine dd _ _ <| wk fun eZ cp=>?_
 refine wA tr4 [] 36 [ve (sv Au u cu),ve (iv (u.length:Int)),ve (iv 0),ve (iv (u.length:Int))] ci ?_ ?_
 exact .M h8<| .T (fun k=>v_lenR rfl elU (k.eq1 0 5 rfl))<| .c<| .B 1 .nil
 refine aftI ci de df fun e0 e1 cq cr cs et aP=>?_
 have dh:=aP.f1 h8
 have di:=aP.g 2 3
 have dj:=aP.g 3 4
 refine cp _ _ <| wk fun e2 be=>?_
 refine wb<| wp_loopX (fun (mm:Nat) (aa:Act) (ww:World)=>∃ (i:Nat),mm=u.length - i∧aa.tmps.size=36∧aa.defers=[]∧New w ww∧aa.eval (.tmp 3)=iv (i:Int)∧aa.eval (.tmp 0)=sv Au u cu∧aa.eval (.tmp 4)=iv (u.length:Int)∧(i≤u.length)∧((u.drop i).dropWhile blankN=u.dropWhile blankN)) (fun mm=>mm) ⟨_,⟨0,rfl,cq,cr,cs,di,dh,dj,(Nat.zero_le _),(by rw [List.drop_zero])⟩⟩ ?_
 rintro mm e3 e4 ⟨i,hmm,aD,bf,aQ,aM,bg,a1,hi,hcd⟩
 refine wk fun e5 ct=>wk fun e6 bh=>?_
 rcases bc (decide ((i:Int) < (u.length:Int))) with av|av
 have bF:=oT av
 have hb:=hu.at16 i
 refine wp_g0 (.replicate 10 true) [] 36
  [ve (iv (i:Int)),ve (iv (u.length:Int)),vT,vT,ve (sv Au u cu),ve (iv (i:Int)),
  (EP (.int .u16 ((u.getD i 0:Nat):Int))),ve (.int .u16 ((u.getD i 0:Nat):Int)),ve (.bool (blankN (u.getD i 0))),ve (.bool (blankN (u.getD i 0)))] aD (.eq (.eq (.eq (.eq (.eq (.eq (.cons (fun _ _ _ n ⟨_,_,e,h⟩=>⟨_,_,e,h.new_ n⟩) (.eq (.eq (.eq .nil)))))))))) ?_ ?_
 refine .M aM<| .M a1<| .T (fun k=>v_bin rfl (k.eq1 0 7 rfl) (k.eq1 1 8 rfl) (fun _=>rfl) (r_lssK av))<| .N 2<| .gm (fun k=>k.eq1 3 10 rfl) (fun k=>k.fx 0 bg)<| .gm (fun k=>k.eq1 3 10 rfl) (fun k=>k.fx 3 aM) ?_
 refine .o1 (tg rfl rfl rfl (fun _ _ k=>k.eq1 3 10 rfl) fun _ w hn k=>(by
  exact x_eaddr (k:=.u16) rfl elU (k.eq1 4 11 rfl) (k.eq1 5 12 rfl) (hru.new_ (aQ.transNew hn)) (by omega) fun b1 o2 hme=>⟨b1,o2,rfl,hme⟩)) ?_
 refine .o1 (tg rfl rfl rfl (fun _ _ k=>k.eq1 3 10 rfl) fun _ w hn k=>(by
  obtain⟨b5,o6,e7,dk⟩:=k.G 6 13
  exact⟨_,v_load rfl e7 (l_one isAgg74 dk.1),rfl⟩)) ?_
 exact .o1 (cg rfl rfl rfl (fun _ _ k=>k.eq1 3 10 rfl) rfl (fun _ w hn k=>⟨#[.int .u16 ((u.getD i 0:Nat):Int)],args1 (k.eq1 7 14 rfl),fun _=>by kernel_rfl,rblank_c (u.getD i 0) _ (by omega)⟩) fun _=>rfl)<| .T (fun k=>v_pickT rfl (k.eq1 3 10 rfl) (k.eq1 8 15 rfl)) .nil
 refine aftI aD bf aQ fun e8 e9 aR bi bj eu aE=>?_
 have⟨bk,cj,cl⟩:=aE.f3 aM bg a1
 have cm:=aE.g 9 16
 refine bh _ _ ?_
 rcases bc (blankN (u.getD i 0)) with aw|aw
 have cv:=hB cm aw
 refine wt cv<| ws<| ct _ _<| wb<| wp_g0 [true,true,false] [(2,true)] 36
  [ve (iv (i:Int)),ve (iv ((i + 1:Nat):Int)),vt] aR (.eq (.eq (.tt .nil))) ?_ ?_
 exact .M bk<| .R (fun k=>v_bin rfl (k.eq1 0 17 rfl) rfl (fun _=>rfl) (n_add (by omega) (IntWalk.i64_in _ (by omega)))) (fun _=>rfl)<| .off .nil
 refine aftI aR bi bj fun cn fa bl cw cx ev aF=>?_
 have⟨fb,dl,dm⟩:=aF.f3 bk cj cl
 have co:=aF.g 1 18
 refine sP co bl cw fun dn cy cz ad dr=>?_
 have⟨dp,dq,fc⟩:=ad.q3 dl dm co
 refine st_nil ?_
 refine blk_n ?_
 refine then_n ?_
 exact⟨_,⟨i + 1,rfl,cy,cz,cx,(dr.trans (congrArg (Value.int .i64) (by omega))),dp,dq,(by omega),((tr_up (by omega) aw).trans hcd)⟩,(by omega)⟩
 have cA:=hB cm aw
 refine wf cA<| wp_exit ?_
 refine be _ _<| wk fun fd bm=>wb ?_
 refine wp_loopX (fun (mm:Nat) (aa:Act) (ww:World)=>∃ (jj:Nat),mm=jj∧aa.tmps.size=36∧aa.defers=[]∧New w ww∧aa.eval (.tmp 4)=iv (jj:Int)∧aa.eval (.tmp 0)=sv Au u cu∧aa.eval (.tmp 3)=iv (i:Int)∧(i≤jj)∧(jj≤u.length)∧(rtrimN ((u.take jj).drop i)=trimN u)) (fun mm=>mm) ⟨_,⟨u.length,rfl,aR,bi,bj,cl,cj,bk,(by omega),(Nat.le_refl _),(by rw [List.take_length]; exact tr_mid hcd (Or.inr ⟨by omega,aw⟩))⟩⟩ ?_
 rintro mm fe ff ⟨jj,hmm,aG,bn,aS,aN,bo,a3,hij,hjl,hc2⟩
 refine wk fun fg cB=>wk fun fh bp=>?_
 rcases bc (decide ((jj:Int)≤(i:Int))) with ax|ax
 have bG:=oT ax
 have hb:=hu.at16 ((jj:Int) - 1).toNat
 refine wA tr11 [] 36 [ve (iv (jj:Int)),ve (iv (i:Int)),vF,vF,vU,vU,vU,vU,vU,vU,vF] aG ?_ ?_
 exact .M aN<| .M a3<| .T (fun k=>v_bin rfl (k.eq1 0 19 rfl) (k.eq1 1 20 rfl) (fun _=>rfl) (r_gtrK ax))<| .N 2<| .S<| .S<| .S<| .S<| .S<| .S<| .T (fun k=>v_pickF rfl (k.eq1 3 22 rfl) rfl) .nil
 refine aftI aG bn aS fun fi fj bq cC br ew aH=>?_
 have⟨ds,dt,du⟩:=aH.f3 aN bo a3
 have dv:=aH.g 10 29
 refine bp _ _<| wf dv<| wp_exit ?_
 refine bm _ _<| wk fun fk cD=>?_
 refine wp_g0 [true,true,true,true,true] [] 36
  [ve (sv Au u cu),ve (iv (i:Int)),ve (iv (jj:Int)),
  (RP .u16 ((u.take jj).drop i)),
  (RP .u16 ((u.take jj).drop i))] bq (.eq (.eq (.eq (.cons (fun _ _ _ n ⟨_,_,e,h⟩=>⟨_,_,e,h.new_ n⟩) (.cons (fun _ _ _ n ⟨_,_,e,h⟩=>⟨_,_,e,h.new_ n⟩) .nil))))) ?_ ?_
 refine .M dt<| .M du<| .M ds ?_
 refine .o1 (tk rfl rfl fun _ w hn k=>(by
  exact x_cutLH (k:=.u16) rfl elU (k.eq1 0 32 rfl) (k.eq1 1 33 rfl) (k.eq1 2 34 rfl) (hru.new_ (br.transNew hn)) (by omega) fun A9 dA hmr=>⟨A9,dA,rfl,hmr⟩)) ?_
 refine .o1 (tk rfl rfl fun _ w hn k=>(by
  obtain⟨dB,dC,dD,cE⟩:=k.G 3 35
  exact⟨_,v_assign rfl dD,⟨dB,dC,rfl,cE⟩⟩)) ?_
 exact .nil
 refine aftI bq cC br fun dE fl ex cF bH ey cG=>?_
 obtain⟨aO,ay,bs,cH⟩:=cG.G 4 2
 have bs:dE.eval (.tmp 2)=sv aO ((u.take jj).drop i) ay:=bs
 refine cD _ _<| wp_ret (ret_k cF (v:=sv aO ((u.take jj).drop i) ay) (res_t rfl bs _) ?_)
 have hsp:((u.take jj).drop i)=trimN u:=tr_end hjl hc2 (Or.inl (by omega))
 exact⟨aO,ay,congrArg (fun l=>Ending.returned (sv aO l ay)) hsp,Eq.mp (congrArg (fun l=>SRow _ _ aO l ay) hsp) cH,bH⟩
 have bG:=oF ax
 have hb:=hu.at16 ((jj:Int) - 1).toNat
 refine wp_g0 (.replicate 11 true) [] 36
  [ve (iv (jj:Int)),ve (iv (i:Int)),vT,vT,ve (sv Au u cu),ve (iv (jj:Int)),ve (iv ((jj:Int) - 1)),
  (EP (.int .u16 ((u.getD (((jj:Int) - 1:Int).toNat) 0:Nat):Int))),ve (.int .u16 ((u.getD (((jj:Int) - 1:Int).toNat) 0:Nat):Int)),ve (.bool (blankN (u.getD (((jj:Int) - 1:Int).toNat) 0))),ve (.bool (blankN (u.getD (((jj:Int) - 1:Int).toNat) 0)))] aG (.eq (.eq (.eq (.eq (.eq (.eq (.eq (.cons (fun _ _ _ n ⟨_,_,e,h⟩=>⟨_,_,e,h.new_ n⟩) (.eq (.eq (.eq .nil))))))))))) ?_ ?_
 refine .M aN<| .M a3<| .T (fun k=>v_bin rfl (k.eq1 0 19 rfl) (k.eq1 1 20 rfl) (fun _=>rfl) (r_gtrK ax))<| .N 2<| .gm (fun k=>k.eq1 3 22 rfl) (fun k=>k.fx 0 bo)<| .gm (fun k=>k.eq1 3 22 rfl) (fun k=>k.fx 4 aN)<| .V (fun p k=>v_bin rfl (k.eq1 5 24 rfl) rfl (fun _=>rfl) (r_sub rfl (by omega))) ?_
 refine .o1 (tg rfl rfl rfl (fun _ _ k=>k.eq1 3 22 rfl) fun _ w hn k=>(by
  exact x_eaddr (k:=.u16) rfl elU (k.eq1 4 23 rfl) (k.eq1 6 25 rfl) (hru.new_ (aS.transNew hn)) (by omega) fun dH dI hme=>⟨dH,dI,rfl,hme⟩)) ?_
 refine .o1 (tg rfl rfl rfl (fun _ _ k=>k.eq1 3 22 rfl) fun _ w hn k=>(by
  obtain⟨fm,fn,dJ,cI⟩:=k.G 7 26
  exact⟨_,v_load rfl dJ (l_one isAgg74 cI.1),rfl⟩)) ?_
 exact .o1 (cg rfl rfl rfl (fun _ _ k=>k.eq1 3 22 rfl) rfl (fun _ w hn k=>⟨#[.int .u16 ((u.getD (((jj:Int) - 1:Int).toNat) 0:Nat):Int)],args1 (k.eq1 8 27 rfl),fun _=>by kernel_rfl,rblank_c (u.getD (((jj:Int) - 1:Int).toNat) 0) _ (by omega)⟩) fun _=>rfl)<| .T (fun k=>v_pickT rfl (k.eq1 3 22 rfl) (k.eq1 9 28 rfl)) .nil
 refine aftI aG bn aS fun ez eA ak a4 aI eg al=>?_
 have⟨aT,bt,bu⟩:=al.f3 aN bo a3
 have bv:=al.g 10 29
 refine bp _ _ ?_
 rcases bc (blankN (u.getD (((jj:Int) - 1:Int).toNat) 0)) with ae|ae
 have bI:=hB bv ae
 refine wt bI<| ws<| cB _ _<| wb<| wp_g0 [true,true,false] [(2,true)] 36
  [ve (iv (jj:Int)),ve (iv ((jj:Int) - 1)),vt] ak (.eq (.eq (.tt .nil))) ?_ ?_
 exact .M aT<| .R (fun k=>v_bin rfl (k.eq1 0 30 rfl) rfl (fun _=>rfl) (r_sub rfl (by omega))) (fun _=>rfl)<| .off .nil
 refine aftI ak a4 aI fun bw eB a5 bJ bK eh am=>?_
 have⟨eC,cJ,cK⟩:=am.f3 aT bt bu
 have bx:=am.g 1 31
 refine sP bx a5 bJ fun cL bL bM ab cO=>?_
 have⟨cM,cN,eD⟩:=ab.q3 cJ cK bx
 refine st_nil ?_
 refine blk_n ?_
 refine then_n ?_
 exact⟨_,⟨jj - 1,rfl,bL,bM,bK,(cO.trans (congrArg (Value.int .i64) (by omega))),cM,cN,(by omega),(by omega),((tr_dn (by omega) hjl ae).trans hc2)⟩,(by omega)⟩
 have bN:=hB bv ae
 refine wf bN<| wp_exit ?_
 refine bm _ _<| wk fun eE bO=>?_
 refine wp_g0 [true,true,true,true,true] [] 36
  [ve (sv Au u cu),ve (iv (i:Int)),ve (iv (jj:Int)),
  (RP .u16 ((u.take jj).drop i)),
  (RP .u16 ((u.take jj).drop i))] ak (.eq (.eq (.eq (.cons (fun _ _ _ n ⟨_,_,e,h⟩=>⟨_,_,e,h.new_ n⟩) (.cons (fun _ _ _ n ⟨_,_,e,h⟩=>⟨_,_,e,h.new_ n⟩) .nil))))) ?_ ?_
 refine .M bt<| .M bu<| .M aT ?_
 refine .o1 (tk rfl rfl fun _ w hn k=>(by
  exact x_cutLH (k:=.u16) rfl elU (k.eq1 0 32 rfl) (k.eq1 1 33 rfl) (k.eq1 2 34 rfl) (hru.new_ (aI.transNew hn)) (by omega) fun dO dP hmr=>⟨dO,dP,rfl,hmr⟩)) ?_
 refine .o1 (tk rfl rfl fun _ w hn k=>(by
  obtain⟨dQ,dR,dS,cP⟩:=k.G 3 35
  exact⟨_,v_assign rfl dS,⟨dQ,dR,rfl,cP⟩⟩)) ?_
 exact .nil
 refine aftI ak a4 aI fun cQ eF ei bP bQ ej bR=>?_
 obtain⟨az,af,aU,bS⟩:=bR.G 4 2
 have aU:cQ.eval (.tmp 2)=sv az ((u.take jj).drop i) af:=aU
 refine bO _ _<| wp_ret (ret_k bP (v:=sv az ((u.take jj).drop i) af) (res_t rfl aU _) ?_)
 have hsp:((u.take jj).drop i)=trimN u:=tr_end hjl hc2 (Or.inr ⟨by omega,ae⟩)
 exact⟨az,af,congrArg (fun l=>Ending.returned (sv az l af)) hsp,Eq.mp (congrArg (fun l=>SRow _ _ az l af) hsp) bS,bQ⟩
 have bF:=oF av
 have hb:=hu.at16 i
 refine wA tr10 [] 36 [ve (iv (i:Int)),ve (iv (u.length:Int)),vF,vF,vU,vU,vU,vU,vU,vF] aD ?_ ?_
 exact .M aM<| .M a1<| .T (fun k=>v_bin rfl (k.eq1 0 7 rfl) (k.eq1 1 8 rfl) (fun _=>rfl) (r_lssK av))<| .N 2<| .S<| .S<| .S<| .S<| .S<| .T (fun k=>v_pickF rfl (k.eq1 3 10 rfl) rfl) .nil
 refine aftI aD bf aQ fun eG eH bT bU bV ek an=>?_
 have⟨cR,cS,cT⟩:=an.f3 aM bg a1
 have cU:=an.g 9 16
 refine bh _ _<| wf cU<| wp_exit ?_
 refine be _ _<| wk fun eI a6=>wb ?_
 refine wp_loopX (fun (mm:Nat) (aa:Act) (ww:World)=>∃ (jj:Nat),mm=jj∧aa.tmps.size=36∧aa.defers=[]∧New w ww∧aa.eval (.tmp 4)=iv (jj:Int)∧aa.eval (.tmp 0)=sv Au u cu∧aa.eval (.tmp 3)=iv (i:Int)∧(i≤jj)∧(jj≤u.length)∧(rtrimN ((u.take jj).drop i)=trimN u)) (fun mm=>mm) ⟨_,⟨u.length,rfl,bT,bU,bV,cT,cS,cR,(by omega),(Nat.le_refl _),(by rw [List.take_length]; exact tr_mid hcd (Or.inl (by omega)))⟩⟩ ?_
 rintro mm eJ eK ⟨jj,hmm,ao,a7,aJ,aA,aV,aK,hij,hjl,hc2⟩
 refine wk fun eL bW=>wk fun eM a8=>?_
 rcases bc (decide ((jj:Int)≤(i:Int))) with ag|ag
 have bz:=oT ag
 have hb:=hu.at16 ((jj:Int) - 1).toNat
 refine wA tr11 [] 36 [ve (iv (jj:Int)),ve (iv (i:Int)),vF,vF,vU,vU,vU,vU,vU,vU,vF] ao ?_ ?_
 exact .M aA<| .M aK<| .T (fun k=>v_bin rfl (k.eq1 0 19 rfl) (k.eq1 1 20 rfl) (fun _=>rfl) (r_gtrK ag))<| .N 2<| .S<| .S<| .S<| .S<| .S<| .S<| .T (fun k=>v_pickF rfl (k.eq1 3 22 rfl) rfl) .nil
 refine aftI ao a7 aJ fun eN eO a9 bX ba el ap=>?_
 have⟨cV,cW,cX⟩:=ap.f3 aA aV aK
 have cY:=ap.g 10 29
 refine a8 _ _<| wf cY<| wp_exit ?_
 refine a6 _ _<| wk fun eP bY=>?_
 refine wp_g0 [true,true,true,true,true] [] 36
  [ve (sv Au u cu),ve (iv (i:Int)),ve (iv (jj:Int)),
  (RP .u16 ((u.take jj).drop i)),
  (RP .u16 ((u.take jj).drop i))] a9 (.eq (.eq (.eq (.cons (fun _ _ _ n ⟨_,_,e,h⟩=>⟨_,_,e,h.new_ n⟩) (.cons (fun _ _ _ n ⟨_,_,e,h⟩=>⟨_,_,e,h.new_ n⟩) .nil))))) ?_ ?_
 refine .M cW<| .M cX<| .M cV ?_
 refine .o1 (tk rfl rfl fun _ w hn k=>(by
  exact x_cutLH (k:=.u16) rfl elU (k.eq1 0 32 rfl) (k.eq1 1 33 rfl) (k.eq1 2 34 rfl) (hru.new_ (ba.transNew hn)) (by omega) fun dX dY hmr=>⟨dX,dY,rfl,hmr⟩)) ?_
 refine .o1 (tk rfl rfl fun _ w hn k=>(by
  obtain⟨dZ,d0,d1,cZ⟩:=k.G 3 35
  exact⟨_,v_assign rfl d1,⟨dZ,d0,rfl,cZ⟩⟩)) ?_
 exact .nil
 refine aftI a9 bX ba fun c0 eQ em bZ b0 en b2=>?_
 obtain⟨aB,ah,aW,b4⟩:=b2.G 4 2
 have aW:c0.eval (.tmp 2)=sv aB ((u.take jj).drop i) ah:=aW
 refine bY _ _<| wp_ret (ret_k bZ (v:=sv aB ((u.take jj).drop i) ah) (res_t rfl aW _) ?_)
 have hsp:((u.take jj).drop i)=trimN u:=tr_end hjl hc2 (Or.inl (by omega))
 exact⟨aB,ah,congrArg (fun l=>Ending.returned (sv aB l ah)) hsp,Eq.mp (congrArg (fun l=>SRow _ _ aB l ah) hsp) b4,b0⟩
 have bz:=oF ag
 have hb:=hu.at16 ((jj:Int) - 1).toNat
 refine wp_g0 (.replicate 11 true) [] 36
  [ve (iv (jj:Int)),ve (iv (i:Int)),vT,vT,ve (sv Au u cu),ve (iv (jj:Int)),ve (iv ((jj:Int) - 1)),
  (EP (.int .u16 ((u.getD (((jj:Int) - 1:Int).toNat) 0:Nat):Int))),ve (.int .u16 ((u.getD (((jj:Int) - 1:Int).toNat) 0:Nat):Int)),ve (.bool (blankN (u.getD (((jj:Int) - 1:Int).toNat) 0))),ve (.bool (blankN (u.getD (((jj:Int) - 1:Int).toNat) 0)))] ao (.eq (.eq (.eq (.eq (.eq (.eq (.eq (.cons (fun _ _ _ n ⟨_,_,e,h⟩=>⟨_,_,e,h.new_ n⟩) (.eq (.eq (.eq .nil))))))))))) ?_ ?_
 refine .M aA<| .M aK<| .T (fun k=>v_bin rfl (k.eq1 0 19 rfl) (k.eq1 1 20 rfl) (fun _=>rfl) (r_gtrK ag))<| .N 2<| .gm (fun k=>k.eq1 3 22 rfl) (fun k=>k.fx 0 aV)<| .gm (fun k=>k.eq1 3 22 rfl) (fun k=>k.fx 4 aA)<| .V (fun p k=>v_bin rfl (k.eq1 5 24 rfl) rfl (fun _=>rfl) (r_sub rfl (by omega))) ?_
 refine .o1 (tg rfl rfl rfl (fun _ _ k=>k.eq1 3 22 rfl) fun _ w hn k=>(by
  exact x_eaddr (k:=.u16) rfl elU (k.eq1 4 23 rfl) (k.eq1 6 25 rfl) (hru.new_ (aJ.transNew hn)) (by omega) fun d4 d5 hme=>⟨d4,d5,rfl,hme⟩)) ?_
 refine .o1 (tg rfl rfl rfl (fun _ _ k=>k.eq1 3 22 rfl) fun _ w hn k=>(by
  obtain⟨fo,fp,d6,c1⟩:=k.G 7 26
  exact⟨_,v_load rfl d6 (l_one isAgg74 c1.1),rfl⟩)) ?_
 exact .o1 (cg rfl rfl rfl (fun _ _ k=>k.eq1 3 22 rfl) rfl (fun _ w hn k=>⟨#[.int .u16 ((u.getD (((jj:Int) - 1:Int).toNat) 0:Nat):Int)],args1 (k.eq1 8 27 rfl),fun _=>by kernel_rfl,rblank_c (u.getD (((jj:Int) - 1:Int).toNat) 0) _ (by omega)⟩) fun _=>rfl)<| .T (fun k=>v_pickT rfl (k.eq1 3 22 rfl) (k.eq1 9 28 rfl)) .nil
 refine aftI ao a7 aJ fun eR eS aq bb aL eo ar=>?_
 have⟨aX,bA,bB⟩:=ar.f3 aA aV aK
 have bC:=ar.g 10 29
 refine a8 _ _ ?_
 rcases bc (blankN (u.getD (((jj:Int) - 1:Int).toNat) 0)) with ai|ai
 have b6:=hB bC ai
 refine wt b6<| ws<| bW _ _<| wb<| wp_g0 [true,true,false] [(2,true)] 36
  [ve (iv (jj:Int)),ve (iv ((jj:Int) - 1)),vt] aq (.eq (.eq (.tt .nil))) ?_ ?_
 exact .M aX<| .R (fun k=>v_bin rfl (k.eq1 0 30 rfl) rfl (fun _=>rfl) (r_sub rfl (by omega))) (fun _=>rfl)<| .off .nil
 refine aftI aq bb aL fun bD eT bd b7 b8 ep au=>?_
 have⟨eU,c2,c3⟩:=au.f3 aX bA bB
 have bE:=au.g 1 31
 refine sP bE bd b7 fun c4 b9 ca ac c8=>?_
 have⟨c5,c6,eV⟩:=ac.q3 c2 c3 bE
 refine st_nil ?_
 refine blk_n ?_
 refine then_n ?_
 exact⟨_,⟨jj - 1,rfl,b9,ca,b8,(c8.trans (congrArg (Value.int .i64) (by omega))),c5,c6,(by omega),(by omega),((tr_dn (by omega) hjl ai).trans hc2)⟩,(by omega)⟩
 have cb:=hB bC ai
 refine wf cb<| wp_exit ?_
 refine a6 _ _<| wk fun eW cc=>?_
 refine wp_g0 [true,true,true,true,true] [] 36
  [ve (sv Au u cu),ve (iv (i:Int)),ve (iv (jj:Int)),
  (RP .u16 ((u.take jj).drop i)),
  (RP .u16 ((u.take jj).drop i))] aq (.eq (.eq (.eq (.cons (fun _ _ _ n ⟨_,_,e,h⟩=>⟨_,_,e,h.new_ n⟩) (.cons (fun _ _ _ n ⟨_,_,e,h⟩=>⟨_,_,e,h.new_ n⟩) .nil))))) ?_ ?_
 refine .M bA<| .M bB<| .M aX ?_
 refine .o1 (tk rfl rfl fun _ w hn k=>(by
  exact x_cutLH (k:=.u16) rfl elU (k.eq1 0 32 rfl) (k.eq1 1 33 rfl) (k.eq1 2 34 rfl) (hru.new_ (aL.transNew hn)) (by omega) fun eb ec hmr=>⟨eb,ec,rfl,hmr⟩)) ?_
 refine .o1 (tk rfl rfl fun _ w hn k=>(by
  obtain⟨ed,ee,ef,c9⟩:=k.G 3 35
  exact⟨_,v_assign rfl ef,⟨ed,ee,rfl,c9⟩⟩)) ?_
 exact .nil
 refine aftI aq bb aL fun da eX er cd ce es cf=>?_
 obtain⟨aC,aj,aY,ch⟩:=cf.G 4 2
 have aY:da.eval (.tmp 2)=sv aC ((u.take jj).drop i) aj:=aY
 refine cc _ _<| wp_ret (ret_k cd (v:=sv aC ((u.take jj).drop i) aj) (res_t rfl aY _) ?_)
 have hsp:((u.take jj).drop i)=trimN u:=tr_end hjl hc2 (Or.inr ⟨by omega,ai⟩)
 exact⟨aC,aj,congrArg (fun l=>Ending.returned (sv aC l aj)) hsp,Eq.mp (congrArg (fun l=>SRow _ _ aC l aj) hsp) ch,ce⟩
theorem rdigits_c (Au:Option Addr) (u:List Nat) (cu:Nat) (w:World) (hru:SRow w .u16 Au u cu) (hu:U16s u):Calls prog 162 #[sv Au u cu] w (IsRet (.bool (digitsT u)) w):=by
 refine enter_abs func162 rfl fun a0 an bi hp=>?_
 have an:a0.tmps.size=19:=an
 have bj:New w w:=Upd.refl _ _
 have hp0:a0.eval (.tmp 0)=sv Au u cu:=hp 0 _ rfl
 have hmx:=hru.max
 refine wk fun K1 bk=>?_
 refine wA tr1 [] 19 [vF] an ?_ ?_
 exact .c .nil
 refine aftI an bi bj fun a2 w3 aE bl bm bV bn=>?_
 have h8:=bn.f1 hp0
 refine bk _ _ <| wk fun bW aL=>?_
 refine wk fun bX aM=>?_
 refine wA tr1 [] 19 [ve (iv 0)] aE ?_ ?_
 exact .c .nil
 refine aftI aE bl bm fun bY bZ aN aO aP bK ap=>?_
 have bo:=ap.f1 h8
 have bp:=ap.g 0 3
 refine aM _ _<| wb<| wp_loopX (fun (mm:Nat) (aa:Act) (ww:World)=>∃ (i:Nat),mm=u.length - i∧aa.tmps.size=19∧aa.defers=[]∧New w ww∧aa.eval (.tmp 3)=iv (i:Int)∧aa.eval (.tmp 0)=sv Au u cu∧(i≤u.length)∧(∀ j,j < i→(fun y:Nat=>!dgtN y) (u.getD j 0)=false)) (fun mm=>mm) ⟨_,⟨0,rfl,aN,aO,aP,bp,bo,(Nat.zero_le _),(fun j h=>absurd h (Nat.not_lt_zero _))⟩⟩ ?_
 rintro mm b0 b1 ⟨i,hmm,aq,aQ,aR,aF,aG,hi,hno⟩
 refine wk fun b2 aS=>wk fun b3 aT=>?_
 refine wA tr4 [] 19 [ve (iv (i:Int)),ve (sv Au u cu),ve (iv (u.length:Int)),ve (.bool (decide ((i:Int) < (u.length:Int))))] aq ?_ ?_
 exact .M aF<| .M aG<| .T (fun k=>v_lenR rfl elU (k.eq1 1 5 rfl))<| .T (fun k=>v_bin rfl (k.eq1 0 4 rfl) (k.eq1 2 6 rfl) (fun _=>rfl) (r_lssK rfl)) .nil
 refine aftI aq aQ aR fun b4 b5 ab ai ad bL aj=>?_
 have⟨ao,ah⟩:=aj.f2 aF aG
 have aH:=aj.g 3 7
 refine aT _ _ ?_
 rcases bc (decide ((i:Int) < (u.length:Int))) with af|af
 have ay:=oT af
 have aU:=hB aH af
 refine wt aU<| ws<| aS _ _<| wk fun b6 aV=>wb ?_
 refine wk fun b7 ar=>?_
 rcases bc (dgtN (u.getD i 0)) with ag|ag
 have hb:=hu.at16 i
 refine wp_g0 [true,true,true,true,true,true] [] 19
  [ve (sv Au u cu),ve (iv (i:Int)),
  (EP (.int .u16 ((u.getD i 0:Nat):Int))),ve (.int .u16 ((u.getD i 0:Nat):Int)),vT,vF] ab (.eq (.eq (.cons (fun _ _ _ n ⟨_,_,e,h⟩=>⟨_,_,e,h.new_ n⟩) (.eq (.eq (.eq .nil)))))) ?_ ?_
 refine .M ah<| .M ao ?_
 refine .o1 (tk rfl rfl fun _ w hn k=>(by
  exact x_eaddr (k:=.u16) rfl elU (k.eq1 0 10 rfl) (k.eq1 1 11 rfl) (hru.new_ (ad.transNew hn)) (by omega) fun b9 bs hme=>⟨b9,bs,rfl,hme⟩)) ?_
 refine .o1 (tk rfl rfl fun _ w hn k=>(by
  obtain⟨b8,ca,bt,aW⟩:=k.G 2 12
  exact⟨_,v_load rfl bt (l_one isAgg74 aW.1),rfl⟩)) ?_
 exact .o1 (ck rfl rfl rfl (fun _ w hn k=>⟨#[.int .u16 ((u.getD i 0:Nat):Int)],args1 (k.eq1 3 13 rfl),fun _=>by kernel_rfl,rdigit_c (u.getD i 0) _ (by omega)⟩) fun _=>congrArg Value.bool ag)<| .T (fun k=>v_not rfl (k.eq1 4 14 rfl)) .nil
 refine aftI ab ai ad fun cb cc au aX aY bM ak=>?_
 have⟨aI,bu⟩:=ak.f2 ao ah
 have bv:=ak.g 5 15
 refine ar _ _<| wf bv<| ws ?_
 refine aV _ _<| wA [true,true,false] [(2,true)] 19 [ve (iv (i:Int)),ve (iv ((i + 1:Nat):Int)),vt] au ?_ ?_
 exact .M aI<| .R (fun k=>v_bin rfl (k.eq1 0 8 rfl) rfl (fun _=>rfl) (n_add (by omega) (IntWalk.i64_in _ (by omega)))) (fun _=>rfl)<| .off .nil
 refine aftI au aX aY fun aJ cd av aZ a1 bN al=>?_
 have⟨ce,bw⟩:=al.f2 aI bu
 have aK:=al.g 1 9
 refine sP aK av aZ fun bx a3 a4 ae bA=>?_
 have⟨bz,cf⟩:=ae.q2 bw aK
 refine st_nil ?_
 refine then_n ?_
 exact⟨_,⟨i + 1,rfl,a3,a4,a1,(bA.trans (congrArg (Value.int .i64) (by omega))),bz,(by omega),(up_false (p:=(fun y:Nat=>!dgtN y)) hno (by show (!dgtN (u.getD i 0))=false; rw [ag]; rfl))⟩,(by omega)⟩
 have hb:=hu.at16 i
 refine wp_g0 [true,true,true,true,true,true] [] 19
  [ve (sv Au u cu),ve (iv (i:Int)),
  (EP (.int .u16 ((u.getD i 0:Nat):Int))),ve (.int .u16 ((u.getD i 0:Nat):Int)),vF,vT] ab (.eq (.eq (.cons (fun _ _ _ n ⟨_,_,e,h⟩=>⟨_,_,e,h.new_ n⟩) (.eq (.eq (.eq .nil)))))) ?_ ?_
 refine .M ah<| .M ao ?_
 refine .o1 (tk rfl rfl fun _ w hn k=>(by
  exact x_eaddr (k:=.u16) rfl elU (k.eq1 0 10 rfl) (k.eq1 1 11 rfl) (hru.new_ (ad.transNew hn)) (by omega) fun bD bE hme=>⟨bD,bE,rfl,hme⟩)) ?_
 refine .o1 (tk rfl rfl fun _ w hn k=>(by
  obtain⟨ch,ci,bF,a5⟩:=k.G 2 12
  exact⟨_,v_load rfl bF (l_one isAgg74 a5.1),rfl⟩)) ?_
 exact .o1 (ck rfl rfl rfl (fun _ w hn k=>⟨#[.int .u16 ((u.getD i 0:Nat):Int)],args1 (k.eq1 3 13 rfl),fun _=>by kernel_rfl,rdigit_c (u.getD i 0) _ (by omega)⟩) fun _=>congrArg Value.bool ag)<| .T (fun k=>v_not rfl (k.eq1 4 14 rfl)) .nil
 refine aftI ab ai ad fun cj cl aw a6 a7 bO am=>?_
 have⟨cm,cn⟩:=am.f2 ao ah
 have bG:=am.g 5 15
 refine ar _ _<| wt bG<| wk fun co a8=>?_
 refine wA tr1 [] 19 [vF] aw ?_ ?_
 exact .c .nil
 refine aftI aw a6 a7 fun cp cq bP a9 ba bQ bb=>?_
 have bH:=bb.g 0 2
 refine a8 _ _<| wp_ret (ret_k a9 (v:=.bool false) (res_t rfl bH _) ?_)
 exact⟨by rw [show digitsT u=false from by unfold digitsT; rw [any_true (p:=(fun y:Nat=>!dgtN y)) (i:=i) (by omega) (by show (!dgtN (u.getD i 0))=true; rw [ag]; rfl)]; simp],ba⟩
 have ay:=oF af
 have bd:=hB aH af
 refine wf bd<| wp_exit ?_
 refine aL _ _<| wk fun cr ax=>?_
 rcases bc (decide ((u.length:Int)≤0)) with ac|ac
 have az:=oT ac
 refine wA tr4 [] 19 [ve (sv Au u cu),ve (iv (u.length:Int)),vF,vF] ab ?_ ?_
 exact .M ah<| .T (fun k=>v_lenR rfl elU (k.eq1 0 16 rfl))<| .b 1 (r_gtrK ac)<| .B 2 .nil
 refine aftI ab ai ad fun cs ct bR be aA bS bf=>?_
 have bg:=bf.g 3 2
 refine ax _ _<| wp_ret (ret_k be (v:=.bool false) (res_t rfl bg _) ?_)
 exact⟨by rw [show digitsT u=false from by unfold digitsT; rw [any_false (p:=(fun y:Nat=>!dgtN y)) (fun j hj=>hno j (by omega))]; simp only [ac]; rfl],aA⟩
 have az:=oF ac
 refine wA tr4 [] 19 [ve (sv Au u cu),ve (iv (u.length:Int)),vT,vT] ab ?_ ?_
 exact .M ah<| .T (fun k=>v_lenR rfl elU (k.eq1 0 16 rfl))<| .b 1 (r_gtrK ac)<| .B 2 .nil
 refine aftI ab ai ad fun bT bU bI aB aC bJ aD=>?_
 have bh:=aD.g 3 2
 refine ax _ _<| wp_ret (ret_k aB (v:=.bool true) (res_t rfl bh _) ?_)
 exact⟨by rw [show digitsT u=true from by unfold digitsT; rw [any_false (p:=(fun y:Nat=>!dgtN y)) (fun j hj=>hno j (by omega))]; simp only [ac]; rfl],aC⟩
theorem rwhole3_c (Au:Option Addr) (u:List Nat) (cu:Nat) (w:World) (hru:SRow w .u16 Au u cu) (hu:U16s u) (hd:∀ j,j < u.length→48≤u.getD j 0∧u.getD j 0≤57):Calls prog 163 #[sv Au u cu] w (IsRet (iv (wholeR u 0)) w):=by
 refine enter_abs func163 rfl fun a0 ao bB hp=>?_
 have ao:a0.tmps.size=23:=ao
 have bC:New w w:=Upd.refl _ _
 have hp0:a0.eval (.tmp 0)=sv Au u cu:=hp 0 _ rfl
 have hmx:=hru.max
 refine wk fun K1 bD=>?_
 refine wA tr1 [] 23 [ve (iv 0)] ao ?_ ?_
 exact .c .nil
 refine aftI ao bB bC fun a2 w3 aT bE bF co bG=>?_
 have h8:=bG.f1 hp0
 refine bD _ _ <| wk fun cp a8=>?_
 refine wA tr1 [] 23 [ve (iv 0)] aT ?_ ?_
 exact .c .nil
 refine aftI aT bE bF fun cq cr ar a9 ba b2 au=>?_
 have bH:=au.f1 h8
 have bI:=au.g 0 3
 refine a8 _ _ <| wk fun cs bb=>?_
 refine wk fun ct bd=>?_
 refine wA tr1 [] 23 [ve (iv 0)] ar ?_ ?_
 exact .c .nil
 refine aftI ar a9 ba fun cv cw be bf bg b4 am=>?_
 have⟨bJ,bK⟩:=am.f2 bH bI
 have bL:=am.g 0 4
 refine bd _ _<| wb<| wp_loopX (fun (mm:Nat) (aa:Act) (ww:World)=>∃ (i:Nat) (n:Int),mm=u.length - i∧aa.tmps.size=23∧aa.defers=[]∧New w ww∧aa.eval (.tmp 3)=iv n∧aa.eval (.tmp 4)=iv (i:Int)∧aa.eval (.tmp 0)=sv Au u cu∧(i≤u.length)∧(0≤n∧n≤9007199254740991)∧(wholeR u 0=wholeR (u.drop i) n)) (fun mm=>mm) ⟨_,⟨0,0,rfl,be,bf,bg,bK,bL,bJ,(Nat.zero_le _),(by omega),(by rw [List.drop_zero])⟩⟩ ?_
 rintro mm cx cy ⟨i,n,hmm,av,bh,bi,bM,aU,aV,hi,hn,hv⟩
 refine wk fun cz bj=>wk fun cA bk=>?_
 refine wA tr4 [] 23 [ve (iv (i:Int)),ve (sv Au u cu),ve (iv (u.length:Int)),ve (.bool (decide ((i:Int) < (u.length:Int))))] av ?_ ?_
 exact .M aU<| .M aV<| .T (fun k=>v_lenR rfl elU (k.eq1 1 6 rfl))<| .T (fun k=>v_bin rfl (k.eq1 0 5 rfl) (k.eq1 2 7 rfl) (fun _=>rfl) (r_lssK rfl)) .nil
 refine aftI av bh bi fun cB cC ag aw an b6 ah=>?_
 have⟨ax,aW,aX⟩:=ah.f3 bM aU aV
 have aY:=ah.g 3 8
 refine bk _ _ ?_
 rcases bc (decide ((i:Int) < (u.length:Int))) with ae|ae
 have aE:=oT ae
 have bl:=hB aY ae
 refine wt bl<| ws<| bj _ _<| wk fun cD bm=>wb ?_
 refine wk fun cE bn=>?_
 have hdg:=hd i (by omega)
 have hb:=hu.at16 i
 refine wp_g0 [true,true,true,true,true,true,true,true,true,false] [(9,true)] 23
  [ve (iv n),ve (iv (10 * n)),ve (sv Au u cu),ve (iv (i:Int)),
  (EP (.int .u16 ((u.getD i 0:Nat):Int))),ve (.int .u16 ((u.getD i 0:Nat):Int)),ve (.int .u16 (((u.getD i 0) - 48:Nat):Int)),ve (iv (((u.getD i 0) - 48:Nat):Int)),ve (iv ((10 * n) + (((u.getD i 0) - 48:Nat):Int))),vt] ag (.eq (.eq (.eq (.eq (.cons (fun _ _ _ n ⟨_,_,e,h⟩=>⟨_,_,e,h.new_ n⟩) (.eq (.eq (.eq (.eq (.tt .nil)))))))))) ?_ ?_
 refine .M ax<| .R (fun k=>v_bin rfl rfl (k.eq1 0 11 rfl) (fun _=>rfl) (n_mul rfl (IntWalk.i64_in _ (by omega)))) (fun _=>rfl)<| .M aX<| .M aW ?_
 refine .o1 (tk rfl rfl fun _ w hn k=>(by
  exact x_eaddr (k:=.u16) rfl elU (k.eq1 2 13 rfl) (k.eq1 3 14 rfl) (hru.new_ (an.transNew hn)) (by omega) fun b1 o2 hme=>⟨b1,o2,rfl,hme⟩)) ?_
 refine .o1 (tk rfl rfl fun _ w hn k=>(by
  obtain⟨b5,o6,e7,bN⟩:=k.G 4 15
  exact⟨_,v_load rfl e7 (l_one isAgg74 bN.1),rfl⟩)) ?_
 exact .R (fun k=>v_bin rfl (k.eq1 5 16 rfl) rfl (fun _=>rfl) (n_sub (by omega) (IntWalk.u16_in _ (by omega)))) (fun _=>rfl)<| .R (fun k=>v_conv rfl (k.eq1 6 17 rfl) (n_conv (by kernel_rfl) (by kernel_rfl) (by kernel_rfl) (IntWalk.i64_in _ (by omega)))) (fun _=>rfl)<| .R (fun k=>v_bin rfl (k.eq1 1 12 rfl) (k.eq1 7 18 rfl) (fun _=>rfl) (r_add rfl (by omega))) (fun _=>rfl)<| .off .nil
 refine aftI ag aw an fun aZ cF ay bo az b7 ai=>?_
 have⟨cG,bO,bP⟩:=ai.f3 ax aW aX
 have a1:=ai.g 8 19
 refine sP a1 ay bo fun bQ aj aA ac ap=>?_
 have⟨a3,a4,cH⟩:=ac.q3 bO bP a1
 refine bn _ _ <| wk fun cI aB=>?_
 rcases bc (decide (((10 * n) + (((u.getD i 0) - 48:Nat):Int))≤9007199254740991)) with af|af
 have aF:=oT af
 refine wA tr2 [] 23 [ve (iv ((10 * n) + (((u.getD i 0) - 48:Nat):Int))),vF] aj ?_ ?_
 exact .M ap<| .b 0 (r_gtrK af) .nil
 refine aftI aj aA az fun cJ cK aC bp bq b8 ak=>?_
 have⟨a5,bR,bS⟩:=ak.f3 a3 a4 ap
 have bT:=ak.g 1 21
 refine aB _ _<| wf bT<| ws ?_
 refine bm _ _<| wA [true,true,false] [(2,true)] 23 [ve (iv (i:Int)),ve (iv ((i + 1:Nat):Int)),vt] aC ?_ ?_
 exact .M a5<| .R (fun k=>v_bin rfl (k.eq1 0 9 rfl) rfl (fun _=>rfl) (n_add (by omega) (IntWalk.i64_in _ (by omega)))) (fun _=>rfl)<| .off .nil
 refine aftI aC bp bq fun a6 cL aD br bs b9 al=>?_
 have⟨cM,bU,bV⟩:=al.f3 a5 bR bS
 have a7:=al.g 1 10
 refine sP a7 aD br fun bt aG aH ab bw=>?_
 have⟨bu,bv,ca⟩:=ab.q3 bU bV a7
 refine st_nil ?_
 refine then_n ?_
 exact⟨_,⟨i + 1,10 * n + (((u.getD i 0:Nat):Int) - 48),rfl,aG,aH,bs,(bv.trans (congrArg (Value.int .i64) (by omega))),(bw.trans (congrArg (Value.int .i64) (by omega))),bu,(by omega),(by omega),(hv.trans (by rw [drop_at (by omega),wholeR,if_pos (decide_eq_true (by omega))]))⟩,(by omega)⟩
 have aF:=oF af
 refine wA tr2 [] 23 [ve (iv ((10 * n) + (((u.getD i 0) - 48:Nat):Int))),vT] aj ?_ ?_
 exact .M ap<| .b 0 (r_gtrK af) .nil
 refine aftI aj aA az fun cb cc aq aI aJ bW ad=>?_
 have⟨cd,ce,cf⟩:=ad.f3 a3 a4 ap
 have bx:=ad.g 1 21
 refine aB _ _<| wt bx<| wk fun ch aK=>?_
 refine wA tr1 [] 23 [ve (iv (-1))] aq ?_ ?_
 exact .c .nil
 refine aftI aq aI aJ fun ci cj bX aL aM bY aN=>?_
 have bz:=aN.g 0 2
 refine aK _ _<| wp_ret (ret_k aL (v:=iv (-1)) (res_t rfl bz _) ?_)
 exact⟨by rw [show wholeR u 0 = -1 from hv.trans (by rw [drop_at (by omega),wholeR,if_neg (show ¬ (decide (10 * n + (((u.getD i 0:Nat):Int) - 48)≤9007199254740991)=true) by simp only [decide_eq_true_eq]; omega)])],aM⟩
 have aE:=oF ae
 have aO:=hB aY ae
 refine wf aO<| wp_exit ?_
 refine bb _ _<| wk fun cl aP=>?_
 refine wA tr2 [] 23 [ve (iv n),ve (iv n)] ag ?_ ?_
 exact .M ax<| .B 0 .nil
 refine aftI ag aw an fun cm cn bZ aQ aR b0 aS=>?_
 have bA:=aS.g 1 2
 refine aP _ _<| wp_ret (ret_k aQ (v:=iv n) (res_t rfl bA _) ?_)
 exact⟨by rw [show wholeR u 0=n from hv.trans (by rw [List.drop_eq_nil_of_le (by omega)]; rfl)],aR⟩
theorem rnumeric_c (Au:Option Addr) (u:List Nat) (cu:Nat) (s:ByteArray) (w:World) (hru:SRow w .u16 Au u cu) (hu:U16s u) (hss:s.size≤1000000):Calls prog 164 #[sv Au u cu,.string s] w (IsRet (.bool (numericN s u)) w):=by
 refine enter_abs func164 rfl fun a0 aF dM hp=>?_
 have aF:a0.tmps.size=61:=aF
 have dN:New w w:=Upd.refl _ _
 have hp0:a0.eval (.tmp 0)=sv Au u cu:=hp 0 _ rfl
 have hp1:a0.eval (.tmp 1)=.string s:=hp 1 _ rfl
 have hmx:=hru.max
 refine wk fun K1 dO=>?_
 refine wA tr1 [] 61 [vF] aF ?_ ?_
 exact .c .nil
 refine aftI aF dM dN fun a2 w3 b6 dP ce e4 b7=>?_
 have⟨h8,h9⟩:=b7.f2 hp0 hp1
 refine dO _ _ <| wk fun e5 cf=>?_
 refine wA tr1 [] 61 [vF] b6 ?_ ?_
 exact .c .nil
 refine aftI b6 dP ce fun e6 e8 aR ch ci eu aA=>?_
 have⟨dQ,dR⟩:=aA.f2 h8 h9
 have dS:=aA.g 0 5
 refine cf _ _ <| wk fun e9 cj=>?_
 refine wk fun fa cl=>?_
 refine wA tr1 [] 61 [ve (iv 0)] aR ?_ ?_
 exact .c .nil
 refine aftI aR ch ci fun fb fc cm cn co ev ax=>?_
 have⟨dT,dU,dV⟩:=ax.f3 dQ dR dS
 have dW:=ax.g 0 6
 refine cl _ _<| wb<| wp_loopX (fun (mm:Nat) (aa:Act) (ww:World)=>∃ (i:Nat),mm=u.length - i∧aa.tmps.size=61∧aa.defers=[]∧New w ww∧aa.eval (.tmp 5)=.bool ((u.take i).any dgtN)∧aa.eval (.tmp 6)=iv (i:Int)∧aa.eval (.tmp 0)=sv Au u cu∧aa.eval (.tmp 1)=.string s∧(i≤u.length)∧((u.take i).all (okS s)=true)) (fun mm=>mm) ⟨_,⟨0,rfl,cm,cn,co,(dV.trans rfl),dW,dT,dU,(Nat.zero_le _),rfl⟩⟩ ?_
 rintro mm fd fe ⟨i,hmm,aS,cp,cq,dX,b8,b9,dY,hi,hall⟩
 refine wk fun ff cr=>wk fun fg cs=>?_
 refine wA tr4 [] 61 [ve (iv (i:Int)),ve (sv Au u cu),ve (iv (u.length:Int)),ve (.bool (decide ((i:Int) < (u.length:Int))))] aS ?_ ?_
 exact .M b8<| .M b9<| .T (fun k=>v_lenR rfl elU (k.eq1 1 11 rfl))<| .T (fun k=>v_bin rfl (k.eq1 0 10 rfl) (k.eq1 2 12 rfl) (fun _=>rfl) (r_lssK rfl)) .nil
 refine aftI aS cp cq fun fh fi ay aT aB ew ar=>?_
 have⟨ca,cb,cc,dZ⟩:=ar.f4 dX b8 b9 dY
 have cd:=ar.g 3 13
 refine cs _ _ ?_
 rcases bc (decide ((i:Int) < (u.length:Int))) with au|au
 have bk:=oT au
 have ct:=hB cd au
 refine wt ct<| ws<| cr _ _<| wk fun fj cv=>wb ?_
 refine wk fun fk cw=>?_
 have hb:=hu.at16 i
 refine wp_g0 [true,true,true,true,true] [] 61
  [ve (sv Au u cu),ve (iv (i:Int)),
  (EP (.int .u16 ((u.getD i 0:Nat):Int))),ve (.int .u16 ((u.getD i 0:Nat):Int)),ve (.int .u16 ((u.getD i 0:Nat):Int))] ay (.eq (.eq (.cons (fun _ _ _ n ⟨_,_,e,h⟩=>⟨_,_,e,h.new_ n⟩) (.eq (.eq .nil))))) ?_ ?_
 refine .M cc<| .M cb ?_
 refine .o1 (tk rfl rfl fun _ w hn k=>(by
  exact x_eaddr (k:=.u16) rfl elU (k.eq1 0 16 rfl) (k.eq1 1 17 rfl) (hru.new_ (aB.transNew hn)) (by omega) fun b1 o2 hme=>⟨b1,o2,rfl,hme⟩)) ?_
 refine .o1 (tk rfl rfl fun _ w hn k=>(by
  obtain⟨b5,o6,e7,d0⟩:=k.G 2 18
  exact⟨_,v_load rfl e7 (l_one isAgg74 d0.1),rfl⟩)) ?_
 exact .B 3 .nil
 refine aftI ay aT aB fun fl fm aU cx cy ex av=>?_
 have⟨d1,d2,d3,d4⟩:=av.f4 ca cb cc dZ
 have aw:=av.g 4 7
 refine cw _ _ ?_
 refine wp_seq_j (fun (aa:Act) (ww:World)=>aa.tmps.size=61∧aa.defers=[]∧New w ww∧aa.eval (.tmp 8)=.bool (okbN (u.getD i 0))∧aa.eval (.tmp 0)=sv Au u cu∧aa.eval (.tmp 1)=.string s∧aa.eval (.tmp 5)=.bool ((u.take i).any dgtN)∧aa.eval (.tmp 6)=iv (i:Int)∧aa.eval (.tmp 7)=.int .u16 ((u.getD i 0:Nat):Int)) ?_ ?_
 rintro fn fo ⟨aV,cz,cA,d5,d6,d7,d8,d9,ea⟩
 refine wp_seq_j (fun (aa:Act) (ww:World)=>aa.tmps.size=61∧aa.defers=[]∧New w ww∧aa.eval (.tmp 8)=.bool (okS s (u.getD i 0))∧aa.eval (.tmp 0)=sv Au u cu∧aa.eval (.tmp 1)=.string s∧aa.eval (.tmp 5)=.bool ((u.take i).any dgtN)∧aa.eval (.tmp 6)=iv (i:Int)∧aa.eval (.tmp 7)=.int .u16 ((u.getD i 0:Nat):Int)) ?_ ?_
 rintro fp fq ⟨aW,cB,cC,eb,ec,ed,ee,ef,eg⟩
 refine wk fun fs cD=>wk fun ft cE=>?_
 refine wA tr2 [] 61 [ve (.bool (okS s (u.getD i 0))),ve (.bool (!(okS s (u.getD i 0))))] aW ?_ ?_
 exact .M eb<| .T (fun k=>v_not rfl (k.eq1 0 53 rfl)) .nil
 refine aftI aW cB cC fun fu fv aq aG aH eh ak=>?_
 have⟨cF,cG,aX,cH⟩:=ak.f4 ec ed ee ef
 have cI:=ak.f1 eg
 have aY:=ak.g 1 54
 refine cE _ _ ?_
 rcases bc ((!(okS s (u.getD i 0)))) with am|am
 have bl:=hB aY am
 have bm:(okS s (u.getD i 0))=false:=nF am
 refine wt bl<| wk fun ey bn=>?_
 refine wA tr1 [] 61 [vF] aq ?_ ?_
 exact .c .nil
 refine aftI aq aG aH fun ez eA ei bo bp ej bq=>?_
 have cJ:=bq.g 0 4
 refine bn _ _<| wp_ret (ret_k bo (v:=.bool false) (res_t rfl cJ _) ?_)
 exact⟨by rw [show numericN s u=false from by unfold numericN; rw [all_bad (i:=i) (by omega) bm,Bool.false_and]],bp⟩
 have br:=hB aY am
 have bs:(okS s (u.getD i 0))=true:=nT am
 refine wf br<| ws<| cD _ _ ?_
 have hb:=hu.at16 i
 refine wA [true,true,true,true,true,false] [(5,true)] 61 [ve (.bool ((u.take i).any dgtN)),ve (.bool ((u.take i).any dgtN)),ve (gq (!((u.take i).any dgtN)) (.int .u16 ((u.getD i 0:Nat):Int))),ve (gq (!((u.take i).any dgtN)) (.bool (dgtN (u.getD i 0)))),ve (.bool (((u.take i).any dgtN) || (dgtN (u.getD i 0)))),vt] aq ?_ ?_
 exact .M aX<| .N 0<| .Q (fun k=>g0' (k.eq1 1 56 rfl)) (fun hG p k=>v_move rfl (k.fx 7 cI))<| .o1 (scC (G:=(!((u.take i).any dgtN))) rfl rfl rfl (fun _ _ k=>g0' (k.eq1 1 56 rfl)) rfl (fun hG _ w hn k=>⟨#[.int .u16 ((u.getD i 0:Nat):Int)],args1 (cT hG (k.eq1 2 57 rfl)),fun _=>by kernel_rfl,rdigit_c (u.getD i 0) _ (by omega)⟩))<| .W 1 3<| .off .nil
 refine aftI aq aG aH fun aZ eB aI bt bu ek an=>?_
 have⟨cK,cL,eC,cM⟩:=an.f4 cF cG aX cH
 have a1:=an.g 4 59
 refine sP a1 aI bt fun cN aJ bv ad cQ=>?_
 have⟨cO,cP,a3⟩:=ad.q3 cK cL cM
 have eD:=ad.q a1
 refine cv _ _<| wA [true,true,false] [(2,true)] 61 [ve (iv (i:Int)),ve (iv ((i + 1:Nat):Int)),vt] aJ ?_ ?_
 exact .M a3<| .R (fun k=>v_bin rfl (k.eq1 0 14 rfl) rfl (fun _=>rfl) (n_add (by omega) (IntWalk.i64_in _ (by omega)))) (fun _=>rfl)<| .off .nil
 refine aftI aJ bv bu fun a4 eE aK bw bx el ao=>?_
 have⟨cR,cS,eF,cU⟩:=ao.f4 cO cP a3 cQ
 have a5:=ao.g 1 15
 refine sP a5 aK bw fun cV bz bA ae cZ=>?_
 have⟨cW,cX,cY⟩:=ae.q3 cR cS cU
 have eG:=ae.q a5
 refine st_nil ?_
 refine then_n ?_
 exact⟨_,⟨i + 1,rfl,bz,bA,bx,(cY.trans (congrArg Value.bool (by rw [any_up (by omega)]))),(cZ.trans (congrArg (Value.int .i64) (by omega))),cW,cX,(by omega),(all_up (by omega) hall bs)⟩,(by omega)⟩
 intro eH bB
 refine wk fun eI bC=>?_
 refine wA tr1 [] 61 [ve (iv 0)] aV ?_ ?_
 exact .c .nil
 refine aftI aV cz cA fun eJ eK bD bE bF em ai=>?_
 have⟨c0,c1,c2,c3⟩:=ai.f4 d5 d6 d7 d8
 have⟨c4,c5⟩:=ai.f2 d9 ea
 have c6:=ai.g 0 9
 refine bC _ _<| wb<| wp_loopX (fun (mm:Nat) (aa:Act) (ww:World)=>∃ (jj:Nat),mm=s.size - jj∧aa.tmps.size=61∧aa.defers=[]∧New w ww∧aa.eval (.tmp 8)=.bool (okbN (u.getD i 0) || hasN s jj (u.getD i 0))∧aa.eval (.tmp 9)=iv (jj:Int)∧aa.eval (.tmp 0)=sv Au u cu∧aa.eval (.tmp 1)=.string s∧aa.eval (.tmp 5)=.bool ((u.take i).any dgtN)∧aa.eval (.tmp 6)=iv (i:Int)∧aa.eval (.tmp 7)=.int .u16 ((u.getD i 0:Nat):Int)∧(jj≤s.size)) (fun mm=>mm) ⟨_,⟨0,rfl,bD,bE,bF,(c0.trans (congrArg Value.bool (by rw [has0,Bool.or_false]))),c6,c1,c2,c3,c4,c5,(Nat.zero_le _)⟩⟩ ?_
 rintro mm eL eM ⟨jj,hmm,aL,bG,bH,c8,a6,c9,a7,da,db,dc,hj⟩
 refine wk fun eN bI=>wk fun eO bJ=>?_
 refine wA tr4 [] 61 [ve (iv (jj:Int)),ve (.string s),ve (iv (s.size:Int)),ve (.bool (decide ((jj:Int) < (s.size:Int))))] aL ?_ ?_
 exact .M a6<| .M a7<| .T (fun k=>v_lenS rfl (k.eq1 1 39 rfl) (by kernel_rfl))<| .T (fun k=>v_bin rfl (k.eq1 0 38 rfl) (k.eq1 2 40 rfl) (fun _=>rfl) (r_lssK rfl)) .nil
 refine aftI aL bG bH fun eP eQ az aM aN en af=>?_
 have⟨aC,a8,a9,aD⟩:=af.f4 c8 a6 c9 a7
 have⟨ba,bb,aE⟩:=af.f3 da db dc
 have bd:=af.g 3 41
 refine bJ _ _ ?_
 rcases bc (decide ((jj:Int) < (s.size:Int))) with ap|ap
 have be:=oT ap
 have bK:=hB bd ap
 refine wt bK<| ws<| bI _ _<| wk fun eR bL=>wb ?_
 have hb:=hu.at16 i
 have fw:=bAt_lt s jj
 refine wA [true,true,true,true,true,true,true,true,true,false] [(9,true)] 61 [ve (.bool (okbN (u.getD i 0) || hasN s jj (u.getD i 0))),ve (.bool (okbN (u.getD i 0) || hasN s jj (u.getD i 0))),ve (gq (!(okbN (u.getD i 0) || hasN s jj (u.getD i 0))) (.int .u16 ((u.getD i 0:Nat):Int))),ve (gq (!(okbN (u.getD i 0) || hasN s jj (u.getD i 0))) (.string s)),ve (gq (!(okbN (u.getD i 0) || hasN s jj (u.getD i 0))) (iv (jj:Int))),ve (gq (!(okbN (u.getD i 0) || hasN s jj (u.getD i 0))) (.int .u8 ((bAt s jj:Nat):Int))),ve (gq (!(okbN (u.getD i 0) || hasN s jj (u.getD i 0))) (.int .u16 ((bAt s jj:Nat):Int))),ve (gq (!(okbN (u.getD i 0) || hasN s jj (u.getD i 0))) (.bool (decide (((u.getD i 0:Nat):Int)=((bAt s jj:Nat):Int))))),ve (.bool ((okbN (u.getD i 0) || hasN s jj (u.getD i 0)) || (decide (((u.getD i 0:Nat):Int)=((bAt s jj:Nat):Int))))),vt] az ?_ ?_
 exact .M aC<| .N 0<| .Q (fun k=>g0' (k.eq1 1 45 rfl)) (fun hG p k=>v_move rfl (k.fx 7 aE))<| .Q (fun k=>g0' (k.eq1 1 45 rfl)) (fun hG p k=>v_move rfl (k.fx 1 aD))<| .Q (fun k=>g0' (k.eq1 1 45 rfl)) (fun hG p k=>v_move rfl (k.fx 9 a8))<| .Q (fun k=>g0' (k.eq1 1 45 rfl)) (fun hG p k=>v_idxN rfl (cT hG (k.eq1 3 47 rfl)) (cT hG (k.eq1 4 48 rfl)) (by kernel_rfl) (by omega))<| .Q (fun k=>g0' (k.eq1 1 45 rfl)) (fun hG p k=>v_conv rfl (cT hG (k.eq1 5 49 rfl)) (n_conv (by kernel_rfl) (by kernel_rfl) (by kernel_rfl) (IntWalk.u16_in _ (by omega))))<| .Q (fun k=>g0' (k.eq1 1 45 rfl)) (fun hG p k=>v_bin rfl (cT hG (k.eq1 2 46 rfl)) (cT hG (k.eq1 6 50 rfl)) (fun _=>rfl) (r_eql rfl))<| .W 1 7<| .off .nil
 refine aftI az aM aN fun bf eS aO bM bN eo ag=>?_
 have⟨eT,dd,de,df⟩:=ag.f4 aC a8 a9 aD
 have⟨dg,dh,di⟩:=ag.f3 ba bb aE
 have bg:=ag.g 8 52
 refine sP bg aO bM fun dj aP bO ab dq=>?_
 have⟨bh,dk,dl⟩:=ab.q3 dd de df
 have⟨dm,dn,dp⟩:=ab.q3 dg dh di
 have eU:=ab.q bg
 refine bL _ _<| wA [true,true,false] [(2,true)] 61 [ve (iv (jj:Int)),ve (iv ((jj + 1:Nat):Int)),vt] aP ?_ ?_
 exact .M bh<| .R (fun k=>v_bin rfl (k.eq1 0 42 rfl) rfl (fun _=>rfl) (n_add (by omega) (IntWalk.i64_in _ (by omega)))) (fun _=>rfl)<| .off .nil
 refine aftI aP bO bN fun bi eV aQ bP bQ ep ah=>?_
 have⟨eW,dr,ds,dt⟩:=ah.f4 bh dk dl dm
 have⟨du,dv,dw⟩:=ah.f3 dn dp dq
 have bj:=ah.g 1 43
 refine sP bj aQ bP fun dx bR bS ac dE=>?_
 have⟨dy,dz,dA⟩:=ac.q3 dr ds dt
 have⟨dB,dC,dD⟩:=ac.q3 du dv dw
 have eX:=ac.q bj
 refine st_nil ?_
 refine then_n ?_
 exact⟨_,⟨jj + 1,rfl,bR,bS,bQ,(dD.trans (congrArg Value.bool (by rw [has_up (by omega),← Bool.or_assoc]))),(dE.trans (congrArg (Value.int .i64) (by omega))),dy,dz,dA,dB,dC,(by omega)⟩,(by omega)⟩
 have be:=oF ap
 have bT:=hB bd ap
 refine wf bT<| wp_exit ?_
 exact bB _ _ ⟨az,aM,aN,(aC.trans (congrArg Value.bool (has_end (by omega)))),a9,aD,ba,bb,aE⟩
 intro eY bU
 have hb:=hu.at16 i
 refine wA tr19 [] 61 [ve (.int .u16 ((u.getD i 0:Nat):Int)),ve (.bool (dgtN (u.getD i 0))),ve (.bool (dgtN (u.getD i 0))),ve (gq (!(dgtN (u.getD i 0))) (.int .u16 ((u.getD i 0:Nat):Int))),ve (gq (!(dgtN (u.getD i 0))) (.bool (!decide (((u.getD i 0:Nat):Int) < 97)))),ve (gq (!(dgtN (u.getD i 0))) (.bool (!decide (((u.getD i 0:Nat):Int) < 97)))),ve (gq ((!(dgtN (u.getD i 0))) && (!decide (((u.getD i 0:Nat):Int) < 97))) (.int .u16 ((u.getD i 0:Nat):Int))),ve (gq ((!(dgtN (u.getD i 0))) && (!decide (((u.getD i 0:Nat):Int) < 97))) (.bool (decide (((u.getD i 0:Nat):Int)≤102)))),ve (gq (!(dgtN (u.getD i 0))) (.bool ((!decide (((u.getD i 0:Nat):Int) < 97)) && (decide (((u.getD i 0:Nat):Int)≤102))))),ve (.bool ((dgtN (u.getD i 0)) || ((!decide (((u.getD i 0:Nat):Int) < 97)) && (decide (((u.getD i 0:Nat):Int)≤102))))),ve (.bool ((dgtN (u.getD i 0)) || ((!decide (((u.getD i 0:Nat):Int) < 97)) && (decide (((u.getD i 0:Nat):Int)≤102))))),ve (gq (!((dgtN (u.getD i 0)) || ((!decide (((u.getD i 0:Nat):Int) < 97)) && (decide (((u.getD i 0:Nat):Int)≤102))))) (.int .u16 ((u.getD i 0:Nat):Int))),ve (gq (!((dgtN (u.getD i 0)) || ((!decide (((u.getD i 0:Nat):Int) < 97)) && (decide (((u.getD i 0:Nat):Int)≤102))))) (.bool (!decide (((u.getD i 0:Nat):Int) < 65)))),ve (gq (!((dgtN (u.getD i 0)) || ((!decide (((u.getD i 0:Nat):Int) < 97)) && (decide (((u.getD i 0:Nat):Int)≤102))))) (.bool (!decide (((u.getD i 0:Nat):Int) < 65)))),ve (gq ((!((dgtN (u.getD i 0)) || ((!decide (((u.getD i 0:Nat):Int) < 97)) && (decide (((u.getD i 0:Nat):Int)≤102))))) && (!decide (((u.getD i 0:Nat):Int) < 65))) (.int .u16 ((u.getD i 0:Nat):Int))),ve (gq ((!((dgtN (u.getD i 0)) || ((!decide (((u.getD i 0:Nat):Int) < 97)) && (decide (((u.getD i 0:Nat):Int)≤102))))) && (!decide (((u.getD i 0:Nat):Int) < 65))) (.bool (decide (((u.getD i 0:Nat):Int)≤70)))),ve (gq (!((dgtN (u.getD i 0)) || ((!decide (((u.getD i 0:Nat):Int) < 97)) && (decide (((u.getD i 0:Nat):Int)≤102))))) (.bool ((!decide (((u.getD i 0:Nat):Int) < 65)) && (decide (((u.getD i 0:Nat):Int)≤70))))),ve (.bool (((dgtN (u.getD i 0)) || ((!decide (((u.getD i 0:Nat):Int) < 97)) && (decide (((u.getD i 0:Nat):Int)≤102)))) || ((!decide (((u.getD i 0:Nat):Int) < 65)) && (decide (((u.getD i 0:Nat):Int)≤70))))),ve (.bool (((dgtN (u.getD i 0)) || ((!decide (((u.getD i 0:Nat):Int) < 97)) && (decide (((u.getD i 0:Nat):Int)≤102)))) || ((!decide (((u.getD i 0:Nat):Int) < 65)) && (decide (((u.getD i 0:Nat):Int)≤70)))))] aU ?_ ?_
 exact .M aw<| .C 0 (fun p=>rdigit_c (u.getD i 0) _ (by omega))<| .N 1<| .Q (fun k=>g0' (k.eq1 2 22 rfl)) (fun hG p k=>v_move rfl (k.fx 7 aw))<| .Q (fun k=>g0' (k.eq1 2 22 rfl)) (fun hG p k=>v_bin rfl (cT hG (k.eq1 3 23 rfl)) rfl (fun _=>rfl) (r_geqK rfl))<| .Q (fun k=>g0' (k.eq1 2 22 rfl)) (fun hG p k=>v_move rfl (cT hG (k.eq1 4 24 rfl)))<| .Q (fun k=>g1 (k.eq1 5 25 rfl)) (fun hG p k=>v_move rfl (k.fx 7 aw))<| .Q (fun k=>g1 (k.eq1 5 25 rfl)) (fun hG p k=>v_bin rfl (cT hG (k.eq1 6 26 rfl)) rfl (fun _=>rfl) (r_leqK rfl))<| .Q (fun k=>g0' (k.eq1 2 22 rfl)) (fun hG p k=>v_and rfl (cT hG (k.eq1 5 25 rfl)) (fun hg=>(cT (aj hG hg) (k.eq1 7 27 rfl))) rfl)<| .W 2 8<| .N 9<| .Q (fun k=>g0' (k.eq1 10 30 rfl)) (fun hG p k=>v_move rfl (k.fx 7 aw))<| .Q (fun k=>g0' (k.eq1 10 30 rfl)) (fun hG p k=>v_bin rfl (cT hG (k.eq1 11 31 rfl)) rfl (fun _=>rfl) (r_geqK rfl))<| .Q (fun k=>g0' (k.eq1 10 30 rfl)) (fun hG p k=>v_move rfl (cT hG (k.eq1 12 32 rfl)))<| .Q (fun k=>g1 (k.eq1 13 33 rfl)) (fun hG p k=>v_move rfl (k.fx 7 aw))<| .Q (fun k=>g1 (k.eq1 13 33 rfl)) (fun hG p k=>v_bin rfl (cT hG (k.eq1 14 34 rfl)) rfl (fun _=>rfl) (r_leqK rfl))<| .Q (fun k=>g0' (k.eq1 10 30 rfl)) (fun hG p k=>v_and rfl (cT hG (k.eq1 13 33 rfl)) (fun hg=>(cT (aj hG hg) (k.eq1 15 35 rfl))) rfl)<| .W 10 16<| .B 17 .nil
 refine aftI aU cx cy fun eZ e0 bV bW bX er al=>?_
 have⟨dF,dG,dH,dI⟩:=al.f4 d1 d2 d3 d4
 have dJ:=al.f1 aw
 have dK:=al.g 18 8
 refine st_nil ?_
 exact bU _ _ ⟨bV,bW,bX,(dK.trans (congrArg Value.bool (by unfold okbN; simp only [bsm]))),dH,dI,dF,dG,dJ⟩
 have bk:=oF au
 have bY:=hB cd au
 refine wf bY<| wp_exit ?_
 refine cj _ _<| wk fun e1 bZ=>?_
 refine wA tr2 [] 61 [ve (.bool ((u.take i).any dgtN)),ve (.bool ((u.take i).any dgtN))] ay ?_ ?_
 exact .M ca<| .B 0 .nil
 refine aftI ay aT aB fun e2 e3 es b0 b2 et b4=>?_
 have dL:=b4.g 1 4
 refine bZ _ _<| wp_ret (ret_k b0 (v:=.bool ((u.take i).any dgtN)) (res_t rfl dL _) ?_)
 exact⟨by rw [show numericN s u=((u.take i).any dgtN) from by unfold numericN; rw [List.take_of_length_le (by omega)] at hall; rw [hall,Bool.true_and,List.take_of_length_le (by omega)]],b2⟩
end Go.Proofs.YtjakfchffigkkaaGreatDoor
