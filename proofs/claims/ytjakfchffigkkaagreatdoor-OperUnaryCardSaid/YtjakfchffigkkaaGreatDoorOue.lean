import Derived.Test.YtjakfchffigkkaaGreatDoorOud
namespace Go.Proofs.YtjakfchffigkkaaGreatDoor
open Go.RowKit
open Tryz
set_option linter.unusedSimpArgs false
set_option linter.unusedVariables false
set_option maxHeartbeats 16000000
set_option maxRecDepth 100000
theorem rnumber3_c0 (Au:Option Addr) (u:List Nat) (cu:Nat) (w:World) (hru:SRow w .u16 Au u cu) (hu:U16s u):Calls prog 106 #[sv Au u cu] w (IsRet (.tuple #[nv ((numR u).1),.bool ((numR u).2)]) w):=by
 refine enter_abs func106 rfl fun a0 bd ip hp=>?_
 have bd:a0.tmps.size=53:=bd
 have gs:New w w:=Upd.refl _ _
 have hp0:a0.eval (.tmp 0)=sv Au u cu:=hp 0 _ rfl
 have hut:=hu.trim
 have hb:=hut.at16 0
 refine wk fun K1 iq=>?_
 refine wB tr2 [] [] 53 [IsNew w 23 [iv 0,iv 0],vF] [0] bd ?_ heN ?_
 exact .Y<| .c .nil
 refine aftI bd ip gs fun a2 w3 gt ir cm kM gu=>?_
 have h8:=gu.f1 hp0
 obtain⟨cn,h9,gF,gG⟩:=gu.G 0 2
 have jp:=Nat.le_trans gs.size gF
 refine iq _ _ <| wk fun kN gH=>?_
 refine wp_g0 [true,true,true] [] 53
  [ve (sv Au u cu),
  (RP .u16 (trimN u)),
  (RP .u16 (trimN u))] gt (.eq (.cons (fun _ _ _ n ⟨_,_,e,h⟩=>⟨_,_,e,h.new_ n⟩) (.cons (fun _ _ _ n ⟨_,_,e,h⟩=>⟨_,_,e,h.new_ n⟩) .nil))) ?_ ?_
 refine .M h8 ?_
 refine .o1 (tkC rfl (noG rfl) rfl fun _ w hn k=>(by
  refine ⟨#[sv Au u cu],_,args1 (k.eq1 0 9 rfl),fun w=>by kernel_rfl,rtrim_c _ u _ _ (hru.new_ (cm.transNew hn)) hu,?_⟩
  rintro e w' ⟨A1,c2,rfl,hmo0,hm⟩
  exact⟨_,rfl,hm,⟨A1,c2,rfl,hmo0⟩⟩)) ?_
 refine .o1 (tk rfl rfl fun _ w hn k=>(by
  obtain⟨A5,c6,e7,iu⟩:=k.G 1 10
  exact⟨_,v_assign rfl e7,⟨A5,c6,rfl,iu⟩⟩)) ?_
 exact .nil
 refine aftI gt ir cm fun iw kO co gI gJ gK cp=>?_
 have ix:=cp.f1 h9
 obtain⟨ah,ad,be,gL⟩:=cp.G 2 4
 have be:iw.eval (.tmp 4)=sv ah (trimN u) ad:=be
 have gM:=gG.new_ gK
 refine gH _ _ <| wk fun kP gN=>?_
 refine wk fun kQ gO=>?_
 refine wA tr3 [] 53 [ve (sv ah (trimN u) ad),ve (iv ((trimN u).length:Int)),ve (.bool (decide (((trimN u).length:Int)=0)))] co ?_ ?_
 exact .M be<| .T (fun k=>v_lenR rfl elU (k.eq1 0 11 rfl))<| .b 1 (r_eql rfl) .nil
 refine aftI co gI gJ fun kR kS aN cq cr ct a4=>?_
 have⟨gv,gw⟩:=a4.f2 ix be
 have gx:=a4.g 2 13
 have⟨cv,cw⟩:=nw2 ct gM gL
 refine gO _ _ ?_
 rcases bc (decide (((trimN u).length:Int)=0)) with ab|ab
 have dO:=oT ab
 have gP:=hB gx ab
 refine wt gP<| wk fun kT gQ=>?_
 refine wA [true,false,false] [(1,false),(2,true)] 53 [ve (nv (Nm.mk 0 0)),vt,vt] aN ?_ ?_
 exact .Z<| .off<| .off .nil
 refine aftI aN cq cr fun gy kU cx gR gS gT cy=>?_
 have gz:=cy.f1 gv
 have gA:=cy.g 0 14
 have gU:=cv.new_ gT
 refine sS2 gz gA gU fun kV gV gW jq=>?_
 have gY:=gS.tR gW
 refine sP (v:=.bool true) rfl cx gR fun iy jr gZ az iA=>?_
 have⟨iz,kX⟩:=az.q2 gz gA
 refine gQ _ _<| wp_ret (ret_k gZ (v:=.tuple #[nv (Nm.mk 0 0),.bool true]) (res_ct rfl iz iA (l_two isAgg23 sizeOf23 gV)) ?_)
 refine ⟨?_,gY⟩
 show Ending.returned (.tuple #[nv (Nm.mk 0 0),.bool true])=Ending.returned (.tuple #[nv ((numR u).1),.bool ((numR u).2)])
 first|rfl|(simp only [numR,bodyR,ab,bsm] <;> rfl)|(exfalso; omega)
 have dO:=oF ab
 have g0:=hB gx ab
 refine wf g0<| ws<| gN _ _<| wk fun kY g1=>?_
 refine wp_g0 [true,true,true,true,true] [] 53
  [ve (sv ah (trimN u) ad),
  (EP (.int .u16 (((trimN u).getD 0 0:Nat):Int))),ve (.int .u16 (((trimN u).getD 0 0:Nat):Int)),ve (.bool (decide ((((trimN u).getD 0 0:Nat):Int)=45))),ve (.bool (decide ((((trimN u).getD 0 0:Nat):Int)=45)))] aN (.eq (.cons (fun _ _ _ n ⟨_,_,e,h⟩=>⟨_,_,e,h.new_ n⟩) (.eq (.eq (.eq .nil))))) ?_ ?_
 refine .M gw ?_
 refine .o1 (tk rfl rfl fun _ w hn k=>(by
  exact x_eaddr (k:=.u16) rfl elU (k.eq1 0 15 rfl) rfl (cw.new_ hn) (by omega) fun iD iE hme=>⟨iD,iE,rfl,hme⟩)) ?_
 refine .o1 (tk rfl rfl fun _ w hn k=>(by
  obtain⟨kZ,k0,iF,g2⟩:=k.G 1 16
  exact⟨_,v_load rfl iF (l_one isAgg74 g2.1),rfl⟩)) ?_
 exact .b 2 (r_eql rfl)<| .B 3 .nil
 refine aftI aN cq cr fun k1 k2 cz g3 g4 cA a5=>?_
 have⟨iG,gB⟩:=a5.f2 gv gw
 have iH:=a5.g 4 5
 have⟨g5,g6⟩:=nw2 cA cv cw
 refine g1 _ _ <| wk fun k3 g7=>?_
 refine wA tr2 [] 53 [ve (sv ah (trimN u) ad),ve (sv ah (trimN u) ad)] cz ?_ ?_
 exact .M gB<| .B 0 .nil
 refine aftI cz g3 g4 fun k4 k5 aO cB cC cD aP=>?_
 have⟨gC,cE,gD⟩:=aP.f3 iG gB iH
 have gE:=aP.g 1 6
 have⟨cF,a6⟩:=nw2 cD g5 g6
 refine g7 _ _ ?_
 refine wp_seq_j (fun (aa:Act) (ww:World)=>∃ (ng:Bool),∃ (dd:List Nat),∃ (A5:Option Addr),∃ (c5:Nat),aa.tmps.size=53∧aa.defers=[]∧New w ww∧aa.eval (.tmp 5)=.bool ng∧aa.eval (.tmp 6)=sv A5 dd c5∧aa.eval (.tmp 2)=pv cn∧aa.eval (.tmp 4)=sv ah (trimN u) ad∧Blk ww cn 23 [iv 0,iv 0]∧SRow ww .u16 A5 dd c5∧SRow ww .u16 ah (trimN u) ad∧(numR u=bodyR (trimN u) dd ng)∧(U16s dd)) ?_ ?_
 rintro k6 g8 ⟨ng,dd,A5,c5,bf,dQ,bg,g9,ha,hc,hd,bh,dR,dS,hbody,hdd⟩
 refine wk fun js dT=>?_
 refine wB [true,true,false] [] [(2,false)] 53 [ve (nv (Nm.mk 2 0)),IsNew g8 23 [iv 0,iv 0],vt] [1] bf ?_ heN ?_
 exact .o1 (ck rfl rfl rfl (fun _ w hn k=>⟨#[],rfl,fun _=>by kernel_rfl,rNaN_c  _ ⟩) fun _=>rfl)<| .Y<| .off .nil
 refine aftI bf dQ bg fun jt ju bi dU dV aQ ak=>?_
 have⟨hf,cG,hg,hh⟩:=ak.f4 g9 ha hc hd
 have hi:=ak.g 0 29
 obtain⟨hj,cH,bj,aR⟩:=ak.G 1 7
 have dW:=bh.new_ aQ
 have hne128:cn ≠ hj:=by have h1:=bh.lt; have h2:=bj; omega
 have jc:=Nat.le_trans bg.size bj
 have⟨dX,dY⟩:=nw2 aQ dR dS
 refine sS2 cH hi aR fun cI dZ aS d0=>?_
 have bk:=dX.fr aR aS
 have d2:=dY.fr aR aS
 have d3:=d0 hne128 dW
 have d4:=dV.tR aS
 refine dT _ _ <| wk fun jw bl=>?_
 refine wb<| wk fun jx d5=>?_
 refine wp_g0 [true,true,true,true] [] 53
  [ve (sv A5 dd c5),
  (OP cI.heap.size 74 .u16 (asc ⟨#[73,110,102,105,110,105,116,121]⟩)),ve (.bool (decide (dd=(asc ⟨#[73,110,102,105,110,105,116,121]⟩)))),ve (.bool (decide (dd=(asc ⟨#[73,110,102,105,110,105,116,121]⟩))))] bi (.eq (.cons (fun _ _ _ n ⟨_,_,e,h⟩=>⟨_,_,e,h.new_ n⟩) (.eq (.eq .nil)))) ?_ ?_
 refine .M cG ?_
 refine .o1 (tkC rfl (noG rfl) rfl fun _ w hn k=>(by
  refine ⟨#[.string ⟨#[73,110,102,105,110,105,116,121]⟩],_,args1 rfl,fun w=>by kernel_rfl,rascii_c ⟨#[73,110,102,105,110,105,116,121]⟩ _ (by first|omega|(show (_:Nat)≤_; decide)),?_⟩
  rintro e w' ⟨iK,iL,rfl,hmo0,hm⟩
  exact⟨_,rfl,hm,⟨iK,iL,rfl,(hmo0.more hn.size)⟩⟩)) ?_
 refine .o1 (tkC rfl (noG rfl) rfl fun _ w hn k=>(by
  obtain⟨iM,iN,iO,hl⟩:=k.G 1 36
  refine ⟨#[sv A5 dd c5,sv iM (asc ⟨#[73,110,102,105,110,105,116,121]⟩) iN],_,args2 (k.eq1 0 35 rfl) iO,fun w=>by kernel_rfl,rlist16_c _ dd _ _ (asc ⟨#[73,110,102,105,110,105,116,121]⟩) _ _ (bk.new_ hn) hl.row,?_⟩
  rintro e w' ⟨rfl,hm⟩
  exact⟨_,rfl,hm,rfl⟩)) ?_
 exact .B 2 .nil
 refine aftI bi dU d4 fun jy jz aA bm bn aB al=>?_
 have⟨cK,cL,cM,ho⟩:=al.f4 hf cG hg hh
 have cN:=al.f1 cH
 have cO:=al.g 3 34
 have⟨bo,bp,bq,d6⟩:=nw4 aB d3 dZ bk d2
 refine d5 _ _ ?_
 rcases bc (decide (dd=(asc ⟨#[73,110,102,105,110,105,116,121]⟩))) with ac|ac
 have cP:=oT ac
 have d7:=hB cO ac
 refine wt d7<| wp_g0 [true,false] [(1,false)] 53
  [ve (nv (Nm.mk 3 0)),vt] aA (.eq (.tt .nil)) ?_ ?_
 exact .T (fun k=>v_build (ps:=[(0,iv 3)]) rfl (parts1 rfl) (by kernel_rfl))<| .off .nil
 refine aftI aA bm bn fun jA jB br d8 d9 bs aC=>?_
 have⟨hr,hs,cQ⟩:=aC.f3 cK cM cN
 have ht:=aC.g 0 38
 have⟨ea,eb⟩:=nw2 bs bo bp
 refine sS2 cQ ht eb fun jC ec ed ee=>?_
 have eg:=ee hne128 ea
 have eh:=d9.tR ed
 refine bl _ _ <| wk fun jE bt=>?_
 refine wk fun jF ei=>?_
 refine wA tr1 [] 53 [ve (.bool ng)] br ?_ ?_
 exact .M hr .nil
 refine aftI br d8 eh fun jG jH aD bu bv bw aT=>?_
 have⟨cS,a7⟩:=aT.f2 hs cQ
 have cT:=aT.g 0 49
 have⟨bx,aU⟩:=nw2 bw eg ec
 refine ei _ _ ?_
 rcases bc (ng) with au|au
 have ej:=hB cT au
 refine wt ej<| wp_g0 [true,true,false] [(2,false)] 53
  [ve (nv (Nm.mk 3 0)),ve (nv (negM (Nm.mk 3 0))),vt] aD (.eq (.eq (.tt .nil))) ?_ ?_
 exact .L2 a7 aU<| .C 0 (fun p=>rneg_c (Nm.mk 3 0) _)<| .off .nil
 refine aftI aD bu bv fun jI jJ bz ek el bA aV=>?_
 have⟨hv,cU⟩:=aV.f2 cS a7
 have hw:=aV.g 1 51
 have⟨em,en⟩:=nw2 bA bx aU
 refine sS2 cU hw en fun jK eo ep er=>?_
 have et:=er hne128 em
 have eu:=el.tR ep
 refine bt _ _ <| wk fun jM ev=>?_
 refine wA [true,false,false] [(1,false),(2,true)] 53 [ve (nv (negM (Nm.mk 3 0))),vt,vt] bz ?_ ?_
 exact .L2 cU eo<| .off<| .off .nil
 refine aftI bz ek eu fun cW jN bB ew ex ey bC=>?_
 have cX:=bC.f1 hv
 have cY:=bC.g 0 52
 have ez:=et.new_ ey
 refine sS2 cX cY ez fun jO eA eB jd=>?_
 have eD:=ex.tR eB
 refine sP (v:=.bool true) rfl bB ew fun hx je eE am hz=>?_
 have⟨hy,jQ⟩:=am.q2 cX cY
 refine ev _ _<| wp_ret (ret_k eE (v:=.tuple #[nv (negM (Nm.mk 3 0)),.bool true]) (res_ct rfl hy hz (l_two isAgg23 sizeOf23 eA)) ?_)
 refine ⟨?_,eD⟩
 show Ending.returned (.tuple #[nv (negM (Nm.mk 3 0)),.bool true])=Ending.returned (.tuple #[nv ((numR u).1),.bool ((numR u).2)])
 first|rfl|(simp only [hbody,bodyR,ab,ac,au,bsm] <;> rfl)|(exfalso; omega)
 have eF:=hB cT au
 refine wf eF<| ws<| bt _ _<| wk fun jR eG=>?_
 refine wA [true,false,false] [(1,false),(2,true)] 53 [ve (nv (Nm.mk 3 0)),vt,vt] aD ?_ ?_
 exact .L2 a7 aU<| .off<| .off .nil
 refine aftI aD bu bv fun c0 jS bD eH eI eJ bE=>?_
 have c1:=bE.f1 cS
 have c3:=bE.g 0 52
 have eK:=bx.new_ eJ
 refine sS2 c1 c3 eK fun jT eL eM jf=>?_
 have eO:=eI.tR eM
 refine sP (v:=.bool true) rfl bD eH fun hA jg eP an hD=>?_
 have⟨hC,jV⟩:=an.q2 c1 c3
 refine eG _ _<| wp_ret (ret_k eP (v:=.tuple #[nv (Nm.mk 3 0),.bool true]) (res_ct rfl hC hD (l_two isAgg23 sizeOf23 eL)) ?_)
 refine ⟨?_,eO⟩
 show Ending.returned (.tuple #[nv (Nm.mk 3 0),.bool true])=Ending.returned (.tuple #[nv ((numR u).1),.bool ((numR u).2)])
 first|rfl|(simp only [hbody,bodyR,ab,ac,au,bsm] <;> rfl)|(exfalso; omega)
 have cP:=oF ac
 have eQ:=hB cO ac
 refine wf eQ<| wk fun jW eR=>?_
 refine wA tr3 [] 53 [ve (sv A5 dd c5),ve (.bool (digitsT dd)),ve (.bool (digitsT dd))] aA ?_ ?_
 exact .M cL<| .C 0 (fun p=>rdigits_c _ dd _ _ (bq.new_ p) hdd)<| .B 1 .nil
 refine aftI aA bm bn fun jX jY aE bF bG aF ao=>?_
 have⟨hE,hF,c9,hG⟩:=ao.f4 cK cL cM ho
 have da:=ao.f1 cN
 have db:=ao.g 2 39
 have⟨bH,bI,eS,eT⟩:=nw4 aF bo bp bq d6
 refine eR _ _ ?_
 rcases bc (digitsT dd) with ae|ae
 have eU:=hB db ae
 refine wt eU<| wk fun jZ eV=>?_
 refine wA tr3 [] 53 [ve (sv A5 dd c5),ve (iv (wholeR dd 0)),ve (iv (wholeR dd 0))] aE ?_ ?_
 exact .M hF<| .C 0 (fun p=>rwhole3_c _ dd _ _ (eS.new_ p) hdd (digs_of2 ae))<| .B 1 .nil
 refine aftI aE bF bG fun j0 j1 bJ eW eX bK aG=>?_
 have⟨hH,hI,hJ⟩:=aG.f3 hE c9 da
 have dc:=aG.g 2 8
 have⟨eY,eZ⟩:=nw2 bK bH bI
 refine eV _ _ <| wk fun j2 e0=>?_
 refine wk fun j3 e1=>?_
 refine wA tr2 [] 53 [ve (iv (wholeR dd 0)),ve (.bool (decide ((wholeR dd 0) < 0)))] bJ ?_ ?_
 exact .M dc<| .b 0 (r_lssK rfl) .nil
 refine aftI bJ eW eX fun j4 j5 aH bL bM bN av=>?_
 have⟨hK,de,df,hL⟩:=av.f4 hH hI hJ dc
 have dg:=av.g 1 45
 have⟨bO,bP⟩:=nw2 bN eY eZ
 refine e1 _ _ ?_
 rcases bc (decide ((wholeR dd 0) < 0)) with af|af
 have dh:=oT af
 have e2:=hB dg af
 refine wt e2<| wk fun j6 e3=>?_
 refine wA [true,false,false] [(1,false),(2,true)] 53 [ve (nv (Nm.mk 2 0)),vt,vt] aH ?_ ?_
 exact .L2 df bP<| .off<| .off .nil
 refine aftI aH bL bM fun di j7 bQ e4 e5 e6 bR=>?_
 have dj:=bR.f1 de
 have dk:=bR.g 0 46
 have e8:=bO.new_ e6
 refine sS2 dj dk e8 fun j8 e9 fa jh=>?_
 have fc:=e5.tR fa
 refine sP (v:=.bool false) rfl bQ e4 fun hM ji fd ap hO=>?_
 have⟨hN,ka⟩:=ap.q2 dj dk
 refine e3 _ _<| wp_ret (ret_k fd (v:=.tuple #[nv (Nm.mk 2 0),.bool false]) (res_ct rfl hN hO (l_two isAgg23 sizeOf23 e9)) ?_)
 refine ⟨?_,fc⟩
 show Ending.returned (.tuple #[nv (Nm.mk 2 0),.bool false])=Ending.returned (.tuple #[nv ((numR u).1),.bool ((numR u).2)])
 first|rfl|(simp only [hbody,bodyR,ab,ac,ae,af,bsm] <;> rfl)|(exfalso; omega)
 have dh:=oF af
 have fe:=hB dg af
 refine wf fe<| ws<| e0 _ _<| wA [true,true,false] [(2,false)] 53 [ve (iv (wholeR dd 0)),ve (nv (Nm.mk 0 (wholeR dd 0))),vt] aH ?_ ?_
 exact .M hL<| .T (fun k=>v_build (ps:=[(1,iv (wholeR dd 0))]) rfl (parts1 (k.eq1 0 47 rfl)) (by kernel_rfl))<| .off .nil
 refine aftI aH bL bM fun kb kc bS ff fg bT aI=>?_
 have⟨hP,hQ,dm⟩:=aI.f3 hK de df
 have hR:=aI.g 1 48
 have⟨fh,fi⟩:=nw2 bT bO bP
 refine sS2 dm hR fi fun kd fj fk fl=>?_
 have fn:=fl hne128 fh
 have fo:=fg.tR fk
 refine bl _ _ <| wk fun kf bU=>?_
 refine wk fun kg fp=>?_
 refine wA tr1 [] 53 [ve (.bool ng)] bS ?_ ?_
 exact .M hP .nil
 refine aftI bS ff fo fun kh ki aJ bV bW bX aW=>?_
 have⟨dp,a8⟩:=aW.f2 hQ dm
 have dq:=aW.g 0 49
 have⟨bY,aX⟩:=nw2 bX fn fj
 refine fp _ _ ?_
 rcases bc (ng) with aw|aw
 have fq:=hB dq aw
 refine wt fq<| wp_g0 [true,true,false] [(2,false)] 53
  [ve (nv (Nm.mk 0 (wholeR dd 0))),ve (nv (negM (Nm.mk 0 (wholeR dd 0)))),vt] aJ (.eq (.eq (.tt .nil))) ?_ ?_
 exact .L2 a8 aX<| .C 0 (fun p=>rneg_c (Nm.mk 0 (wholeR dd 0)) _)<| .off .nil
 refine aftI aJ bV bW fun kj kk bZ fs ft b0 aY=>?_
 have⟨hS,dr⟩:=aY.f2 dp a8
 have hT:=aY.g 1 51
 have⟨fu,fv⟩:=nw2 b0 bY aX
 refine sS2 dr hT fv fun kl fw fy fz=>?_
 have fB:=fz hne128 fu
 have fC:=ft.tR fy
 refine bU _ _ <| wk fun kn fD=>?_
 refine wA [true,false,false] [(1,false),(2,true)] 53 [ve (nv (negM (Nm.mk 0 (wholeR dd 0)))),vt,vt] bZ ?_ ?_
 exact .L2 dr fw<| .off<| .off .nil
 refine aftI bZ fs fC fun dt ko b1 fE fF fG b2=>?_
 have du:=b2.f1 hS
 have dv:=b2.g 0 52
 have fH:=fB.new_ fG
 refine sS2 du dv fH fun kp fI fJ jj=>?_
 have fL:=fF.tR fJ
 refine sP (v:=.bool true) rfl b1 fE fun hU jk fM aq hW=>?_
 have⟨hV,kr⟩:=aq.q2 du dv
 refine fD _ _<| wp_ret (ret_k fM (v:=.tuple #[nv (negM (Nm.mk 0 (wholeR dd 0))),.bool true]) (res_ct rfl hV hW (l_two isAgg23 sizeOf23 fI)) ?_)
 refine ⟨?_,fL⟩
 show Ending.returned (.tuple #[nv (negM (Nm.mk 0 (wholeR dd 0))),.bool true])=Ending.returned (.tuple #[nv ((numR u).1),.bool ((numR u).2)])
 first|rfl|(simp only [hbody,bodyR,ab,ac,ae,af,aw,bsm] <;> rfl)|(exfalso; omega)
 have fN:=hB dq aw
 refine wf fN<| ws<| bU _ _<| wk fun ks fO=>?_
 refine wA [true,false,false] [(1,false),(2,true)] 53 [ve (nv (Nm.mk 0 (wholeR dd 0))),vt,vt] aJ ?_ ?_
 exact .L2 a8 aX<| .off<| .off .nil
 refine aftI aJ bV bW fun dx kt b3 fP fQ fR b4=>?_
 have dy:=b4.f1 dp
 have dz:=b4.g 0 52
 have fS:=bY.new_ fR
 refine sS2 dy dz fS fun ku fT fU jl=>?_
 have fW:=fQ.tR fU
 refine sP (v:=.bool true) rfl b3 fP fun hX jm fX ar hZ=>?_
 have⟨hY,kw⟩:=ar.q2 dy dz
 refine fO _ _<| wp_ret (ret_k fX (v:=.tuple #[nv (Nm.mk 0 (wholeR dd 0)),.bool true]) (res_ct rfl hY hZ (l_two isAgg23 sizeOf23 fT)) ?_)
 refine ⟨?_,fW⟩
 show Ending.returned (.tuple #[nv (Nm.mk 0 (wholeR dd 0)),.bool true])=Ending.returned (.tuple #[nv ((numR u).1),.bool ((numR u).2)])
 first|rfl|(simp only [hbody,bodyR,ab,ac,ae,af,aw,bsm] <;> rfl)|(exfalso; omega)
 have fY:=hB db ae
 refine wf fY<| wk fun kx fZ=>?_
 refine wB [true,true,true,true,false,false] [3] [(4,false),(5,true)] 53 [ve (nv (Nm.mk 2 0)),ve (sv ah (trimN u) ad),ve (.bool (numericN ⟨#[120,88,111,79,46,43,45,95]⟩ (trimN u))),ve (.bool (!(numericN ⟨#[120,88,111,79,46,43,45,95]⟩ (trimN u)))),vt,vt] [] aE ?_ ?_ ?_
 refine .L2 da bI<| .M hG<| .D (fun k=>args2 (k.eq1 1 31 rfl) rfl) (fun p=>rnumeric_c _ (trimN u) _ ⟨#[120,88,111,79,46,43,45,95]⟩ _ (eT.new_ p) hut (by first|omega|(show (_:Nat)≤_; decide))) ?_
 refine .o3 ?_
 exact .off<| .off .nil
 refine eg1 ?_
 exact eager_take rfl rfl fun _ w hn k=>⟨.bool (!(numericN ⟨#[120,88,111,79,46,43,45,95]⟩ (trimN u))),fun w=>v_not rfl (k.eq1 2 32 rfl),rfl⟩
 refine aftI aE bF bG fun dB ky b5 f0 f1 f2 aZ=>?_
 have dC:=aZ.f1 c9
 have dD:=aZ.g 0 30
 have dE:=aZ.g 3 33
 have f3:=bH.new_ f2
 refine sS2 dC dD f3 fun kz f4 f5 jn=>?_
 have f7:=f1.tR f5
 refine sP dE b5 f0 fun h3 jo f8 ai h5=>?_
 have⟨h4,kB,kC⟩:=ai.q3 dC dD dE
 refine fZ _ _<| wp_ret (ret_k f8 (v:=.tuple #[nv (Nm.mk 2 0),.bool (!(numericN ⟨#[120,88,111,79,46,43,45,95]⟩ (trimN u)))]) (res_ct rfl h4 h5 (l_two isAgg23 sizeOf23 f4)) ?_)
 refine ⟨?_,f7⟩
 show Ending.returned (.tuple #[nv (Nm.mk 2 0),.bool (!(numericN ⟨#[120,88,111,79,46,43,45,95]⟩ (trimN u)))])=Ending.returned (.tuple #[nv ((numR u).1),.bool ((numR u).2)])
 first|rfl|(simp only [hbody,bodyR,ab,ac,ae,bsm] <;> rfl)|(exfalso; omega)
 intro kD a1
 refine wk fun kE b6=>?_
 rcases bc (decide ((((trimN u).getD 0 0:Nat):Int)=45)) with ag|ag
 have dG:=oT ag
 have b7:=hB gD ag
 refine wA tr7 [] 53 [vT,vT,vU,vU,vU,vU,vT] aO ?_ ?_
 exact .M b7<| .N 0<| .S<| .S<| .S<| .S<| .T (fun k=>v_pickT rfl (k.eq1 1 21 rfl) rfl) .nil
 refine aftI aO cB cC fun kF kG b8 f9 ga b9 ax=>?_
 have⟨h6,dH,h7,kH⟩:=ax.f4 gC cE b7 gE
 have ia:=ax.g 6 26
 have⟨gb,ca⟩:=nw2 b9 cF a6
 refine b6 _ _<| wt ia<| wp_g0 [true,true,true] [] 53
  [ve (sv ah (trimN u) ad),
  (RP .u16 ((trimN u).drop 1)),
  (RP .u16 ((trimN u).drop 1))] b8 (.eq (.cons (fun _ _ _ n ⟨_,_,e,h⟩=>⟨_,_,e,h.new_ n⟩) (.cons (fun _ _ _ n ⟨_,_,e,h⟩=>⟨_,_,e,h.new_ n⟩) .nil))) ?_ ?_
 refine .M dH ?_
 refine .o1 (tk rfl rfl fun _ w hn k=>(by
  exact x_cutL (k:=.u16) rfl elU (k.eq1 0 27 rfl) rfl (ca.new_ hn) (by omega) fun iT iU hmr=>⟨iT,iU,rfl,hmr⟩)) ?_
 refine .o1 (tk rfl rfl fun _ w hn k=>(by
  obtain⟨iV,iW,iX,ib⟩:=k.G 1 28
  exact⟨_,v_assign rfl iX,⟨iV,iW,rfl,ib⟩⟩)) ?_
 exact .nil
 refine aftI b8 f9 ga fun ic kI gc gd gf cb aK=>?_
 have⟨id,ie,ig⟩:=aK.f3 h6 dH h7
 obtain⟨dI,cc,a9,gg⟩:=aK.G 2 6
 have a9:ic.eval (.tmp 6)=sv dI ((trimN u).drop 1) cc:=a9
 have⟨gh,gi⟩:=nw2 cb gb ca
 refine st_nil ?_
 exact a1 _ _ ⟨true,((trimN u).drop 1),dI,cc,gc,gd,gf,ig,a9,id,ie,gh,gg,gi,(by unfold numR; simp only [ab,ag,bsm]),(hut.drop 1)⟩
 have dG:=oF ag
 have cd:=hB gD ag
 refine wp_g0 [true,true,true,true,true,true,true] [] 53
  [vF,vF,ve (sv ah (trimN u) ad),
  (EP (.int .u16 (((trimN u).getD 0 0:Nat):Int))),ve (.int .u16 (((trimN u).getD 0 0:Nat):Int)),ve (.bool (decide ((((trimN u).getD 0 0:Nat):Int)=43))),ve (.bool (decide ((((trimN u).getD 0 0:Nat):Int)=43)))] aO (.eq (.eq (.eq (.cons (fun _ _ _ n ⟨_,_,e,h⟩=>⟨_,_,e,h.new_ n⟩) (.eq (.eq (.eq .nil))))))) ?_ ?_
 refine .M cd<| .N 0<| .gm (fun k=>k.eq1 1 21 rfl) (fun k=>k.fx 4 cE) ?_
 refine .o1 (tg rfl rfl rfl (fun _ _ k=>k.eq1 1 21 rfl) fun _ w hn k=>(by
  exact x_eaddr (k:=.u16) rfl elU (k.eq1 2 22 rfl) rfl (a6.new_ hn) (by omega) fun i0 i1 hme=>⟨i0,i1,rfl,hme⟩)) ?_
 refine .o1 (tg rfl rfl rfl (fun _ _ k=>k.eq1 1 21 rfl) fun _ w hn k=>(by
  obtain⟨k7,k8,i2,ih⟩:=k.G 3 23
  exact⟨_,v_load rfl i2 (l_one isAgg74 ih.1),rfl⟩)) ?_
 exact .V (fun p k=>v_bin rfl (k.eq1 4 24 rfl) rfl (fun _=>rfl) (r_eql rfl))<| .T (fun k=>v_pickF rfl (k.eq1 1 21 rfl) (k.eq1 5 25 rfl)) .nil
 refine aftI aO cB cC fun kJ kK a3 ce cf ch ay=>?_
 have⟨dJ,ba,dK,ii⟩:=ay.f4 gC cE cd gE
 have dL:=ay.g 6 26
 have⟨ci,aL⟩:=nw2 ch cF a6
 refine b6 _ _ ?_
 rcases bc (decide ((((trimN u).getD 0 0:Nat):Int)=43)) with aj|aj
 have dM:=oT aj
 have gj:=hB dL aj
 refine wt gj<| wp_g0 [true,true,true] [] 53
  [ve (sv ah (trimN u) ad),
  (RP .u16 ((trimN u).drop 1)),
  (RP .u16 ((trimN u).drop 1))] a3 (.eq (.cons (fun _ _ _ n ⟨_,_,e,h⟩=>⟨_,_,e,h.new_ n⟩) (.cons (fun _ _ _ n ⟨_,_,e,h⟩=>⟨_,_,e,h.new_ n⟩) .nil))) ?_ ?_
 refine .M ba ?_
 refine .o1 (tk rfl rfl fun _ w hn k=>(by
  exact x_cutL (k:=.u16) rfl elU (k.eq1 0 27 rfl) rfl (aL.new_ hn) (by omega) fun i7 i8 hmr=>⟨i7,i8,rfl,hmr⟩)) ?_
 refine .o1 (tk rfl rfl fun _ w hn k=>(by
  obtain⟨i9,ja,jb,ij⟩:=k.G 1 28
  exact⟨_,v_assign rfl jb,⟨i9,ja,rfl,ij⟩⟩)) ?_
 exact .nil
 refine aftI a3 ce cf fun ik kL gk gl gn cj aM=>?_
 have⟨il,im,io⟩:=aM.f3 dJ ba dK
 obtain⟨dN,cl,bb,go⟩:=aM.G 2 6
 have bb:ik.eval (.tmp 6)=sv dN ((trimN u).drop 1) cl:=bb
 have⟨gp,gq⟩:=nw2 cj ci aL
 refine st_nil ?_
 exact a1 _ _ ⟨false,((trimN u).drop 1),dN,cl,gk,gl,gn,io,bb,il,im,gp,go,gq,(by unfold numR; simp only [ab,ag,aj,bsm]),(hut.drop 1)⟩
 have dM:=oF aj
 have gr:=hB dL aj
 refine wf gr<| ws<| a1 _ _ ⟨false,(trimN u),ah,ad,a3,ce,cf,dK,ii,dJ,ba,ci,aL,aL,(by unfold numR; simp only [ab,ag,aj,bsm]),hut⟩
theorem rnumber3_c (Au:Option Addr) (u:List Nat) (cu:Nat) (w:World) (hru:SRow w .u16 Au u cu) (hu:U16s u):Calls Tryz.prog 106 #[sv Au u cu] w (IsRet (.tuple #[nv ((numT u).1),.bool ((numT u).2)]) w):=by
  have h:=rnumber3_c0 Au u cu w hru hu
  rw [numR_eq] at h
  exact h

theorem qnumber_c0 (v:Vl) (Av:Option Addr) (cv:Nat) (Bv:Option Addr) (dv:Nat) (w:World) (hmv:SRow w .u32 Av v.mag cv) (hsv:SRow w .u16 Bv v.s dv) (hvv:VOk v):Calls prog 56 #[vv v Av cv Bv dv] w (IsRet (.tuple #[nv ((numberR v).1),iv ((numberR v).2)]) w):=by
 refine enter_abs func56 rfl fun a0 aZ gj hp=>?_
 have aZ:a0.tmps.size=40:=aZ
 have bE:New w w:=Upd.refl _ _
 have hp0:a0.eval (.tmp 0)=vv v Av cv Bv dv:=hp 0 _ rfl
 refine wk fun K1 gk=>?_
 refine wB tr3 [] [] 40 [IsNew w 46 (c7 v Av cv Bv dv),IsNew w 23 [iv 0,iv 0],ve (iv 0)] [0,1] aZ ?_ heN ?_
 exact .X hp0<| .Y<| .c .nil
 refine aftI aZ gj bE fun a2 w3 e0 gl aK hT bF=>?_
 obtain⟨q9,h8,e9,fa⟩:=bF.G 0 1
 obtain⟨bG,e1,fb,bH⟩:=bF.G 1 2
 have hne16:=bF.ne 0 1 1 2 h8 e1
 have gK:=Nat.le_trans bE.size e9
 have gL:=Nat.le_trans bE.size fb
 refine gk _ _ <| wk fun hU fc=>?_
 refine wp_g [true,true,true,false] [] [(3,false)] 40
  [ve (vv v Av cv Bv dv),
  (VP (cleanV v)),IsNew w3 46 z7,vt]
  [2] (newsCons (fun v w h=>IsNew.old h) newsNil) e0 (.eq (.cons (fun _ _ _ n ⟨_,_,_,_,e,h,i⟩=>⟨_,_,_,_,e,h.new_ n,i.new_ n⟩) (.nw (.tt .nil)))) ?_ (fun i h=>by cases h) ?_
 refine .L8 h8 fa ?_
 refine .o1 (tkC rfl (noG rfl) rfl fun _ w hn k=>(by
  refine ⟨#[vv v Av cv Bv dv],_,args1 (k.eq1 0 7 rfl),fun w=>by kernel_rfl,qgood_c v _ _ _ _ _ (hmv.new_ (aK.transNew hn)) (hsv.new_ (aK.transNew hn)),?_⟩
  rintro e w' ⟨A1,c2,A3,c4,rfl,hmo0,hmo1,hm⟩
  exact⟨_,rfl,hm,⟨A1,c2,A3,c4,rfl,hmo0,hmo1⟩⟩)) ?_
 exact .Y<| .off .nil
 refine aftI e0 gl aK fun gm hV bI fd fe ff aU=>?_
 have gn:=aU.f1 e1
 obtain⟨bJ,aV,aT,aI,bK,fg,fh⟩:=aU.G 1 8
 have bK:gm.eval (.tmp 8)=vv (cleanV v) bJ aV aT aI:=bK
 obtain⟨aJ,bL,bM,aW⟩:=aU.G 2 4
 have fi:=bH.new_ ff
 have hne40:bG ≠ aJ:=by have h1:=bH.lt; have h2:=bM; omega
 have gM:=Nat.le_trans aK.size bM
 refine sS8 bL bK aW fun go bN aX fj=>?_
 have fl:=fg.fr aW aX
 have fm:=fh.fr aW aX
 have fn:=fj hne40 fi
 have fo:=fe.tR aX
 refine fc _ _ <| wk fun hX bO=>?_
 refine wk fun hY fp=>?_
 refine wA tr2 [] 40 [ve (pv aJ),ve (iv ((cleanV v).k))] bI ?_ ?_
 exact .F bL<| .J 0 isAgg3 bN .nil
 refine aftI bI fd fo fun hZ h3 bP fq fs aL aY=>?_
 have⟨gp,gq⟩:=aY.f2 gn bL
 have e2:=aY.g 1 10
 have⟨ft,fu,fv,fw⟩:=nw4 aL fn bN fl fm
 refine fp _ _<| wb<| wk fun h4 fy=>?_
 refine wA tr2 [] 40 [ve (.bool (decide (((cleanV v).k)=0))),ve (.bool (decide (((cleanV v).k)=0)))] bP ?_ ?_
 exact .H e2 (r_eql rfl)<| .B 0 .nil
 refine aftI bP fq fs fun h5 h6 aM bQ bR aN aO=>?_
 have⟨e3,gr,e4⟩:=aO.f3 gp gq e2
 have e5:=aO.g 1 11
 have⟨bS,fz,fA,fB⟩:=nw4 aN ft fu fv fw
 refine fy _ _ ?_
 rcases bc (decide (((cleanV v).k)=0)) with ac|ac
 have cV:=oT ac
 have fC:=hB e5 ac
 refine wt fC<| wk fun h7 fD=>?_
 refine wA [true,false,false] [(1,false),(2,true)] 40 [ve (nv (Nm.mk 2 0)),vt,vt] aM ?_ ?_
 exact .o1 (ck rfl rfl rfl (fun _ w hn k=>⟨#[],rfl,fun _=>by kernel_rfl,rNaN_c  _ ⟩) fun _=>rfl)<| .off<| .off .nil
 refine aftI aM bQ bR fun e6 h9 bT fE fF fG bU=>?_
 have e7:=bU.f1 e3
 have e8:=bU.g 0 13
 have fH:=bS.new_ fG
 refine sS2 e7 e8 fH fun ia cW cX gs=>?_
 have cZ:=fF.tR cX
 refine sP (v:=iv 0) rfl bT fE fun fI gt c0 ah fK=>?_
 have⟨fJ,gO⟩:=ah.q2 e7 e8
 refine fD _ _<| wp_ret (ret_k c0 (v:=.tuple #[nv (Nm.mk 2 0),iv 0]) (res_ct rfl fJ fK (l_two isAgg23 sizeOf23 cW)) ?_)
 refine ⟨?_,cZ⟩
 show Ending.returned (.tuple #[nv (Nm.mk 2 0),iv 0])=Ending.returned (.tuple #[nv ((numberR v).1),iv ((numberR v).2)])
 first|rfl|(simp only [numberR,ac,bsm] <;> rfl)|(exfalso; omega)
 have cV:=oF ac
 have c1:=hB e5 ac
 refine wf c1<| wk fun gP c3=>?_
 refine wA tr2 [] 40 [ve (.bool (decide (((cleanV v).k)=1))),ve (.bool (decide (((cleanV v).k)=1)))] aM ?_ ?_
 exact .H e4 (r_eql rfl)<| .B 0 .nil
 refine aftI aM bQ bR fun gQ gR aq a1 a3 ar au=>?_
 have⟨bW,fL,bX⟩:=au.f3 e3 gr e4
 have bY:=au.g 1 14
 have⟨a4,c5,c9,da⟩:=nw4 ar bS fz fA fB
 refine c3 _ _ ?_
 rcases bc (decide (((cleanV v).k)=1)) with aa|aa
 have bZ:=oT aa
 have db:=hB bY aa
 refine wt db<| wk fun gS dc=>?_
 refine wA [true,false,false] [(1,false),(2,true)] 40 [ve (nv (Nm.mk 0 0)),vt,vt] aq ?_ ?_
 exact .Z<| .off<| .off .nil
 refine aftI aq a1 a3 fun b0 gT a5 dd de df a6=>?_
 have b1:=a6.f1 bW
 have b2:=a6.g 0 16
 have dg:=a4.new_ df
 refine sS2 b1 b2 dg fun gU dh di gu=>?_
 have dk:=de.tR di
 refine sP (v:=iv 0) rfl a5 dd fun fM gv dl ai fO=>?_
 have⟨fN,gW⟩:=ai.q2 b1 b2
 refine dc _ _<| wp_ret (ret_k dl (v:=.tuple #[nv (Nm.mk 0 0),iv 0]) (res_ct rfl fN fO (l_two isAgg23 sizeOf23 dh)) ?_)
 refine ⟨?_,dk⟩
 show Ending.returned (.tuple #[nv (Nm.mk 0 0),iv 0])=Ending.returned (.tuple #[nv ((numberR v).1),iv ((numberR v).2)])
 first|rfl|(simp only [numberR,ac,aa,bsm] <;> rfl)|(exfalso; omega)
 have bZ:=oF aa
 have dm:=hB bY aa
 refine wf dm<| wk fun gX dn=>?_
 refine wA tr2 [] 40 [ve (.bool (decide (((cleanV v).k)=2))),ve (.bool (decide (((cleanV v).k)=2)))] aq ?_ ?_
 exact .H bX (r_eql rfl)<| .B 0 .nil
 refine aftI aq a1 a3 fun gY gZ av a7 a8 aw ax=>?_
 have⟨b4,b5,b6⟩:=ax.f3 bW fL bX
 have b7:=ax.g 1 17
 have⟨a9,ba,dp,dq⟩:=nw4 aw a4 c5 c9 da
 refine dn _ _ ?_
 rcases bc (decide (((cleanV v).k)=2)) with ab|ab
 have b8:=oT ab
 have dr:=hB b7 ab
 refine wt dr<| wk fun g0 ds=>?_
 refine wA [true,true,true,false,false] [(3,false),(4,true)] 40 [ve (.pointer (some ⟨aJ,6,none⟩)),ve (iv ((cleanV v).ref)),ve (nv (Nm.mk 0 ((cleanV v).ref))),vt,vt] av ?_ ?_
 exact .F b5<| .J 0 isAgg3 ba<| .T (fun k=>v_build (ps:=[(1,iv ((cleanV v).ref))]) rfl (parts1 (k.eq1 1 20 rfl)) (by kernel_rfl))<| .off<| .off .nil
 refine aftI av a7 a8 fun b9 g1 bb dt du dw bd=>?_
 have ca:=bd.f1 b4
 have cb:=bd.g 2 21
 have dx:=a9.new_ dw
 refine sS2 ca cb dx fun g2 dy dz gw=>?_
 have dB:=du.tR dz
 refine sP (v:=iv 0) rfl bb dt fun fP gx dC aj fR=>?_
 have⟨fQ,g4⟩:=aj.q2 ca cb
 refine ds _ _<| wp_ret (ret_k dC (v:=.tuple #[nv (Nm.mk 0 ((cleanV v).ref)),iv 0]) (res_ct rfl fQ fR (l_two isAgg23 sizeOf23 dy)) ?_)
 refine ⟨?_,dB⟩
 show Ending.returned (.tuple #[nv (Nm.mk 0 ((cleanV v).ref)),iv 0])=Ending.returned (.tuple #[nv ((numberR v).1),iv ((numberR v).2)])
 first|rfl|(simp only [numberR,ac,aa,ab,bsm] <;> rfl)|(exfalso; omega)
 have b8:=oF ab
 have dD:=hB b7 ab
 refine wf dD<| wk fun g5 dE=>?_
 refine wA tr2 [] 40 [ve (.bool (decide (((cleanV v).k)=3))),ve (.bool (decide (((cleanV v).k)=3)))] av ?_ ?_
 exact .H b6 (r_eql rfl)<| .B 0 .nil
 refine aftI av a7 a8 fun g6 g7 ay be bf az aA=>?_
 have⟨cd,ce,cf⟩:=aA.f3 b4 b5 b6
 have ch:=aA.g 1 22
 have⟨bg,bh,dF,dG⟩:=nw4 az a9 ba dp dq
 refine dE _ _ ?_
 rcases bc (decide (((cleanV v).k)=3)) with ad|ad
 have ci:=oT ad
 have dH:=hB ch ad
 refine wt dH<| wk fun g8 dI=>?_
 refine wA [true,true,false,false] [(2,false),(3,true)] 40 [ve (.pointer (some ⟨aJ,1,none⟩)),ve (nv (Nm.mk ((cleanV v).nk) ((cleanV v).nn))),vt,vt] ay ?_ ?_
 exact .F ce<| .K2 0 bh<| .off<| .off .nil
 refine aftI ay be bf fun cj g9 bi dJ dK dL bj=>?_
 have cl:=bj.f1 cd
 have cm:=bj.g 1 25
 have dM:=bg.new_ dL
 refine sS2 cl cm dM fun ha dN dO gy=>?_
 have dQ:=dK.tR dO
 refine sP (v:=iv 0) rfl bi dJ fun fS gz dR ak fU=>?_
 have⟨fT,hd⟩:=ak.q2 cl cm
 refine dI _ _<| wp_ret (ret_k dR (v:=.tuple #[nv (Nm.mk ((cleanV v).nk) ((cleanV v).nn)),iv 0]) (res_ct rfl fT fU (l_two isAgg23 sizeOf23 dN)) ?_)
 refine ⟨?_,dQ⟩
 show Ending.returned (.tuple #[nv (Nm.mk ((cleanV v).nk) ((cleanV v).nn)),iv 0])=Ending.returned (.tuple #[nv ((numberR v).1),iv ((numberR v).2)])
 first|rfl|(simp only [numberR,ac,aa,ab,ad,bsm] <;> rfl)|(exfalso; omega)
 have ci:=oF ad
 have dS:=hB ch ad
 refine wf dS<| wk fun hf dT=>?_
 refine wA tr2 [] 40 [ve (.bool (decide (((cleanV v).k)=4))),ve (.bool (decide (((cleanV v).k)=4)))] ay ?_ ?_
 exact .H cf (r_eql rfl)<| .B 0 .nil
 refine aftI ay be bf fun hg hh aB bk bl aC aD=>?_
 have⟨co,fV,fW⟩:=aD.f3 cd ce cf
 have cp:=aD.g 1 26
 have⟨bm,dU,dV,dW⟩:=nw4 aC bg bh dF dG
 refine dT _ _ ?_
 rcases bc (decide (((cleanV v).k)=4)) with ae|ae
 have cq:=oT ae
 have dX:=hB cp ae
 refine wt dX<| wk fun hi dY=>?_
 refine wA [true,false,false] [(1,false),(2,true)] 40 [ve (nv (Nm.mk 0 0)),vt,vt] aB ?_ ?_
 exact .Z<| .off<| .off .nil
 refine aftI aB bk bl fun cr hj bn dZ d0 d1 bo=>?_
 have ct:=bo.f1 co
 have cu:=bo.g 0 28
 have d2:=bm.new_ d1
 refine sS2 ct cu d2 fun hl d3 d4 gA=>?_
 have d6:=d0.tR d4
 refine sP (v:=iv 1) rfl bn dZ fun fX gB d7 al fZ=>?_
 have⟨fY,hr⟩:=al.q2 ct cu
 refine dY _ _<| wp_ret (ret_k d7 (v:=.tuple #[nv (Nm.mk 0 0),iv 1]) (res_ct rfl fY fZ (l_two isAgg23 sizeOf23 d3)) ?_)
 refine ⟨?_,d6⟩
 show Ending.returned (.tuple #[nv (Nm.mk 0 0),iv 1])=Ending.returned (.tuple #[nv ((numberR v).1),iv ((numberR v).2)])
 first|rfl|(simp only [numberR,ac,aa,ab,ad,ae,bsm] <;> rfl)|(exfalso; omega)
 have cq:=oF ae
 have d8:=hB cp ae
 refine wf d8<| wk fun hs d9=>?_
 refine wA tr2 [] 40 [ve (.bool (decide (((cleanV v).k)=5))),ve (.bool (decide (((cleanV v).k)=5)))] aB ?_ ?_
 exact .H fW (r_eql rfl)<| .B 0 .nil
 refine aftI aB bk bl fun ht f0 aE bp aP aF aQ=>?_
 have⟨cx,f1⟩:=aQ.f2 co fV
 have cy:=aQ.g 1 29
 have⟨aR,ea,gC,eb⟩:=nw4 aF bm dU dV dW
 refine d9 _ _ ?_
 rcases bc (decide (((cleanV v).k)=5)) with af|af
 have cz:=oT af
 have ec:=hB cy af
 refine wt ec<| wk fun hu ed=>?_
 refine wB [true,true,true,true,true,true,true,false,false] [5] [(7,false),(8,true)] 40 [ve (.pointer (some ⟨aJ,5,none⟩)),ve (sv aT ((cleanV v).s) aI),ve (.tuple #[nv ((numT ((cleanV v).s)).1),.bool ((numT ((cleanV v).s)).2)]),ve (.tuple #[nv ((numT ((cleanV v).s)).1),.bool ((numT ((cleanV v).s)).2)]),ve (nv ((numT ((cleanV v).s)).1)),ve (.bool ((numT ((cleanV v).s)).2)),IsNew f0 23 [iv 0,iv 0],vt,vt] [6] aE ?_ ?_ ?_
 refine .F f1<| .J 0 isAgg27 ea<| .C 1 (fun p=>rnumber3_c _ ((cleanV v).s) _ _ (eb.new_ p) hvv.clean.units)<| .N 2<| .E 3 ?_
 refine .o3 ?_
 exact .Y<| .off<| .off .nil
 refine eg1 ?_
 exact eager_take rfl rfl fun _ w hn k=>⟨.bool ((numT ((cleanV v).s)).2),fun w=>v_extract rfl (k.eq1 3 31 rfl) rfl,rfl⟩
 refine aftI aE bp aP fun cA hv bq ee ef eg aG=>?_
 have f2:=aG.f1 cx
 have cB:=aG.g 4 35
 have cC:=aG.g 5 36
 obtain⟨f3,cD,br,eh⟩:=aG.G 6 5
 have ei:=aR.new_ eg
 have hne327:bG ≠ f3:=by have h1:=aR.lt; have h2:=br; omega
 have gD:=Nat.le_trans aP.size br
 refine sS2 cD cB eh fun hw ej ek el=>?_
 have en:=el hne327 ei
 have eo:=ef.tR ek
 refine sP cC bq ee fun f4 bs ep ag f7=>?_
 have⟨f5,hy,hz⟩:=ag.q3 f2 cB cC
 have f6:=ag.q cD
 refine ed _ _ <| wk fun hA er=>?_
 refine wA tr1 [] 40 [ve (.bool ((numT ((cleanV v).s)).2))] bs ?_ ?_
 exact .M f7 .nil
 refine aftI bs ep eo fun hC hD aH bt bu bv aS=>?_
 have⟨cF,f8⟩:=aS.f2 f5 f6
 have cG:=aS.g 0 37
 have⟨bw,es⟩:=nw2 bv en ej
 refine er _ _ ?_
 rcases bc ((numT ((cleanV v).s)).2) with ap|ap
 have et:=hB cG ap
 refine wt et<| wk fun hE eu=>?_
 refine wA [true,false,false] [(1,false),(2,true)] 40 [ve (nv ((numT ((cleanV v).s)).1)),vt,vt] aH ?_ ?_
 exact .L2 f8 es<| .off<| .off .nil
 refine aftI aH bt bu fun cH hF bx ev ew ex bz=>?_
 have cI:=bz.f1 cF
 have cJ:=bz.g 0 38
 have ey:=bw.new_ ex
 refine sS2 cI cJ ey fun hG ez eA gE=>?_
 have eC:=ew.tR eA
 refine sP (v:=iv 0) rfl bx ev fun f9 gF eD am gb=>?_
 have⟨ga,hI⟩:=am.q2 cI cJ
 refine eu _ _<| wp_ret (ret_k eD (v:=.tuple #[nv ((numT ((cleanV v).s)).1),iv 0]) (res_ct rfl ga gb (l_two isAgg23 sizeOf23 ez)) ?_)
 refine ⟨?_,eC⟩
 show Ending.returned (.tuple #[nv ((numT ((cleanV v).s)).1),iv 0])=Ending.returned (.tuple #[nv ((numberR v).1),iv ((numberR v).2)])
 first|rfl|(simp only [numberR,ac,aa,ab,ad,ae,af,ap,bsm] <;> rfl)|(exfalso; omega)
 have eE:=hB cG ap
 refine wf eE<| ws<| bO _ _<| wk fun hJ eF=>?_
 refine wA [true,false,false] [(1,false),(2,true)] 40 [ve (nv (Nm.mk 0 0)),vt,vt] aH ?_ ?_
 exact .Z<| .off<| .off .nil
 refine aftI aH bt bu fun cL hK bA eG eH eI bB=>?_
 have cM:=bB.f1 cF
 have cN:=bB.g 0 39
 have eJ:=bw.new_ eI
 refine sS2 cM cN eJ fun hL eK eL gG=>?_
 have eN:=eH.tR eL
 refine sP (v:=iv 3) rfl bA eG fun gc gH eO an gf=>?_
 have⟨gd,hN⟩:=an.q2 cM cN
 refine eF _ _<| wp_ret (ret_k eO (v:=.tuple #[nv (Nm.mk 0 0),iv 3]) (res_ct rfl gd gf (l_two isAgg23 sizeOf23 eK)) ?_)
 refine ⟨?_,eN⟩
 show Ending.returned (.tuple #[nv (Nm.mk 0 0),iv 3])=Ending.returned (.tuple #[nv ((numberR v).1),iv ((numberR v).2)])
 first|rfl|(simp only [numberR,ac,aa,ab,ad,ae,af,ap,bsm] <;> rfl)|(exfalso; omega)
 have cz:=oF af
 have eP:=hB cy af
 refine wf eP<| ws<| bO _ _<| wk fun hO eQ=>?_
 refine wA [true,false,false] [(1,false),(2,true)] 40 [ve (nv (Nm.mk 0 0)),vt,vt] aE ?_ ?_
 exact .Z<| .off<| .off .nil
 refine aftI aE bp aP fun cP hP bC eR eS eT bD=>?_
 have cQ:=bD.f1 cx
 have cR:=bD.g 0 39
 have eU:=aR.new_ eT
 refine sS2 cQ cR eU fun hQ eV eW gI=>?_
 have eY:=eS.tR eW
 refine sP (v:=iv 3) rfl bC eR fun gg gJ eZ ao gi=>?_
 have⟨gh,hS⟩:=ao.q2 cQ cR
 refine eQ _ _<| wp_ret (ret_k eZ (v:=.tuple #[nv (Nm.mk 0 0),iv 3]) (res_ct rfl gh gi (l_two isAgg23 sizeOf23 eV)) ?_)
 refine ⟨?_,eY⟩
 show Ending.returned (.tuple #[nv (Nm.mk 0 0),iv 3])=Ending.returned (.tuple #[nv ((numberR v).1),iv ((numberR v).2)])
 first|rfl|(simp only [numberR,ac,aa,ab,ad,ae,af,bsm] <;> rfl)|(exfalso; omega)
theorem qnumber_c (v:Vl) (Av:Option Addr) (cv:Nat) (Bv:Option Addr) (dv:Nat) (w:World) (hmv:SRow w .u32 Av v.mag cv) (hsv:SRow w .u16 Bv v.s dv) (hvv:VOk v):Calls Tryz.prog 56 #[vv v Av cv Bv dv] w (IsRet (.tuple #[nv ((numberV v).1),iv ((numberV v).2)]) w):=by
  have h:=qnumber_c0 v Av cv Bv dv w hmv hsv hvv
  rw [numberR_eq] at h
  exact h

theorem as_ofN {a:Nm} (h:nmayB a=true):asM a=a:=by unfold asM; rw [if_pos h]
def noughtN (a:Nm):Bool:=(decide (a.k=2) || decide (a.k=1)) || (decide (a.k=0) && decide (a.n=0))
theorem noughtN_eq {a:Nm} (h:nmayB a=true):(!noughtN a)=(!decide (a.k=2) && !equalM a ⟨0,0⟩):=by
  have e:asM ⟨0,0⟩=⟨0,0⟩:=rfl
  unfold equalM
  rw [as_ofN h,e]
  rcases as_cases a with ⟨n,e,h1,h2⟩|e|e|e|e <;> (rw [as_ofN h] at e; rw [e]; simp [noughtN,equalA,rankM])
def boolR (v:Vl):Bool :=
  if decide ((cleanV v).k=2) then decide ((cleanV v).ref=1)
  else if decide ((cleanV v).k=3) then !noughtN (cleanV v).num
  else if decide ((cleanV v).k=4) then !decide (((cleanV v).mag.length:Int)≤0)
  else if decide ((cleanV v).k=5) then !decide (((cleanV v).s.length:Int)≤0)
  else decide ((cleanV v).k=6)
theorem boolR_eq (v:Vl):boolR v=boolV v:=by
  unfold boolR boolV
  by_cases h3:(cleanV v).k=3
  · have hm:=(may_num (may_clean v) h3).1
    rw [noughtN_eq hm]
  · simp [h3]
def numericR (v:Vl):Vl × Int :=
  if decide ((cleanV v).k=4) then (cleanV v,0)
  else if decide ((numberV (cleanV v)).2=0) then (⟨3,(numberV (cleanV v)).1.k,(numberV (cleanV v)).1.n,false,[],[],0⟩,0)
  else (Vl.z,(numberV (cleanV v)).2)
theorem numericR_eq (v:Vl):numericR v=numericV v:=by
  unfold numericR numericV
  split
  · rename_i h
    rw [← (may_big (may_clean v) (of_decide_eq_true h)).2]
  · rfl

def rU32 (a:Nm):Int:=if decide ((asM a).k=0) then ((asM a).n.tmod 4294967296 + 4294967296).tmod 4294967296 else 0
theorem tmod_cast (n:Int):-4294967296 < n.tmod 4294967296∧n.tmod 4294967296 < 4294967296:=by
  rcases Int.le_total 0 n with h|h
  · obtain⟨m,rfl⟩:∃ m:Nat,n=m:=⟨n.toNat,by omega⟩
    have e:((m:Int).tmod 4294967296)=((m % 4294967296:Nat):Int):=rfl
    rw [e]; omega
  · obtain⟨m,rfl⟩:∃ m:Nat,n = -(m:Int):=⟨n.natAbs,by omega⟩
    have e:((-(m:Int)).tmod 4294967296) = -((m % 4294967296:Nat):Int):=by rw [Int.neg_tmod]; rfl
    rw [e]; omega
theorem rU32_eq (a:Nm):rU32 a=u32M a:=by
  unfold rU32 u32M
  split
  · generalize (asM a).n=n
    have hb:=tmod_cast n
    obtain⟨m,hm⟩:∃ m:Nat,n.tmod 4294967296 + 4294967296=m:=⟨(n.tmod 4294967296 + 4294967296).toNat,by omega⟩
    rw [hm]
    have e:((m:Int).tmod 4294967296)=((m % 4294967296:Nat):Int):=rfl
    rw [e]
    have h2:=Int.tmod_add_mul_tdiv n 4294967296
    generalize n.tdiv 4294967296=q at h2
    omega
  · rfl
def rI32 (a:Nm):Int:=if !decide (u32M a < 2147483648) then u32M a - 4294967296 else u32M a
theorem rI32_eq (a:Nm):rI32 a=i32M a:=by
  have h:=u32_bd a
  unfold rI32 i32M i32of
  have e:u32M a % 4294967296=u32M a:=by omega
  rw [e]
  by_cases hl:u32M a < 2147483648 <;> simp [hl]
theorem i32of_nat (n:Nat) (h:n < 4294967296):i32of (n:Int)=(BitVec.ofNat 32 n).toInt:=by
  rw [BitVec.toInt_eq_toNat_cond,BitVec.toNat_ofNat]
  unfold i32of
  have e:(n:Int) % 4294967296=n:=by omega
  have e2:n % 2 ^ 32=n:=by omega
  rw [e,e2]
  by_cases hl:n < 2147483648
  · rw [if_pos (by simpa using (by omega:(n:Int) < 2147483648)),if_pos (by omega)]
  · rw [if_neg (by simp; omega),if_neg (by omega)]; rfl
theorem ofInt_ext (v:BitVec 32):BitVec.ofInt 64 v.toInt=v.signExtend 64:=rfl
theorem ofInt_nat64 (n:Nat):BitVec.ofInt 64 (n:Int)=BitVec.ofNat 64 n:=by rw [BitVec.ofInt_natCast]
theorem toInt_small {v:BitVec 64} (h:v.toNat < 9223372036854775808):v.toInt=v.toNat:=by
  rw [BitVec.toInt_eq_toNat_cond,if_pos (by omega)]
section
variable {u v:Nat} (hu:u < 4294967296) (hv:v < 4294967296)
include hu hv
theorem bxor_nat:bxorM (u:Int) (v:Int)=((u ^^^ v:Nat):Int):=by
  have h:u ^^^ v < 2 ^ 32:=Nat.xor_lt_two_pow (by omega) (by omega)
  have e:(BitVec.ofNat 64 u ^^^ BitVec.ofNat 64 v).toNat=u ^^^ v:=by
    rw [BitVec.toNat_xor,BitVec.toNat_ofNat,BitVec.toNat_ofNat,Nat.mod_eq_of_lt (by omega),Nat.mod_eq_of_lt (by omega)]
  unfold bxorM
  rw [ofInt_nat64,ofInt_nat64,toInt_small (by omega),e]
theorem bxor_i32:bxorM (i32of u) (i32of v)=i32of ((u ^^^ v:Nat):Int):=by
  have h:u ^^^ v < 2 ^ 32:=Nat.xor_lt_two_pow (by omega) (by omega)
  rw [i32of_nat u hu,i32of_nat v hv,i32of_nat _ (by omega)]
  unfold bxorM
  rw [ofInt_ext,ofInt_ext,← BitVec.signExtend_xor,BitVec.toInt_signExtend_of_le (by omega)]
  congr 1
  apply BitVec.eq_of_toNat_eq
  rw [BitVec.toNat_xor]
  simp only [BitVec.toNat_ofNat]
  rw [Nat.mod_eq_of_lt (by omega),Nat.mod_eq_of_lt (by omega),Nat.mod_eq_of_lt (by omega)]
end
theorem u32_nat (a:Nm):∃ u:Nat,u32M a=u∧u < 4294967296:=⟨(u32M a).toNat,by have:=u32_bd a; omega,by have:=u32_bd a; omega⟩
theorem plus_end {a b ds:List Nat} {i c:Nat} (ha:Limbs a) (hb:Limbs b) (hd:Limbs ds) (hl:ds.length=i) (hc:c≤1) (hi:max a.length b.length + 1≤i) (h:val ds + 4294967296 ^ i * c=val (a.take i) + val (b.take i)):val ds=val a + val b:=by
  rw [List.take_of_length_le (by omega),List.take_of_length_le (by omega)] at h
  obtain⟨n,rfl⟩:∃ n,i=n + 1:=⟨i - 1,by omega⟩
  have h1:=val_lt ha
  have h2:=val_lt hb
  have h3:4294967296 ^ a.length≤4294967296 ^ n:=Nat.pow_le_pow_right (by omega) (by omega)
  have h4:4294967296 ^ b.length≤4294967296 ^ n:=Nat.pow_le_pow_right (by omega) (by omega)
  rw [Nat.pow_succ] at h
  generalize 4294967296 ^ n=p at *
  generalize 4294967296 ^ a.length=p1 at *
  generalize 4294967296 ^ b.length=p2 at *
  rcases Nat.eq_zero_or_pos c with h0|h0
  · rw [h0,Nat.mul_zero] at h; omega
  · have e:c=1:=by omega
    rw [e,Nat.mul_one] at h
    omega
theorem minus_step {a b ds:List Nat} {i c:Nat} (ha:Limbs a) (hb:Limbs b) (hd:Limbs ds) (hl:ds.length=i) (hc:c≤1) (h:val ds + val (b.take i)=val (a.take i) + 4294967296 ^ i * c) :
    Limbs (ds ++ [(a.getD i 0 + 4294967296 - b.getD i 0 - c) % 4294967296])∧val (ds ++ [(a.getD i 0 + 4294967296 - b.getD i 0 - c) % 4294967296]) + val (b.take (i + 1))=val (a.take (i + 1)) + 4294967296 ^ (i + 1) * (1 - (a.getD i 0 + 4294967296 - b.getD i 0 - c) / 4294967296):=by
  have h1:=ha.at i
  have h2:=hb.at i
  exact less_step hd hl (by omega) (by omega) h
theorem minus_end {a b ds:List Nat} {i c:Nat} (ha:Limbs a) (hb:Limbs b) (hd:Limbs ds) (hi:ds.length=i∧i=a.length) (hle:val b≤val a) (h:val ds + val (b.take i)=val (a.take i) + 4294967296 ^ i * c):val ds=val a - val b:=by
  obtain⟨hl,rfl⟩:=hi
  rw [List.take_of_length_le (Nat.le_refl a.length)] at h
  have h1:=val_lt hd
  rw [hl] at h1
  have h2:val (b.take a.length)≤val b:=by
    have:=val_app (b.take a.length) (b.drop a.length)
    rw [List.take_append_drop] at this
    omega
  have h3:val (b.take a.length)=val b:=by
    have h5:=val_app (b.take a.length) (b.drop a.length)
    rw [List.take_append_drop] at h5
    rcases Nat.eq_zero_or_pos (val (b.drop a.length)) with h6|h6
    · rw [h6] at h5; omega
    · have h7:=val_lt ha
      rcases Nat.lt_or_ge b.length a.length with h8|h8
      · rw [List.take_of_length_le (by omega)]
      · have h9:(b.take a.length).length=a.length:=by simp; omega
        rw [h9] at h5
        have:4294967296 ^ a.length≤4294967296 ^ a.length * val (b.drop a.length):=Nat.le_mul_of_pos_right _ h6
        omega
  rw [h3] at h
  rcases Nat.eq_zero_or_pos c with rfl|hc
  · omega
  · have:4294967296 ^ a.length≤4294967296 ^ a.length * c:=Nat.le_mul_of_pos_right _ hc
    omega
theorem cmpI_ge {a b:Nat} (h:decide (cmpI a b < 0)=false):b≤a:=by
  have:=of_decide_eq_false h
  unfold cmpI at this
  split at this
  · omega
  · split at this <;> omega
theorem cmpI_lt {a b:Nat} (h:decide (cmpI a b < 0)=true):a < b:=by
  have:=of_decide_eq_true h
  unfold cmpI at this
  split at this
  · omega
  · split at this <;> omega
theorem fits_yes {z:Int} (h:decide (((canon z.natAbs).length:Int)≤8)=true):capI z=z∧okI z=true:=by
  have h1:=of_decide_eq_true h
  have h2:=(canon_len8 z.natAbs).1 (by omega)
  exact⟨by unfold capI; rw [if_pos h2],decide_eq_true h2⟩
theorem fits_no {z:Int} (h:decide (((canon z.natAbs).length:Int)≤8)=false):capI z=0∧okI z=false:=by
  have h1:=of_decide_eq_false h
  have h2:¬ z.natAbs < 2 ^ 256:=fun h3=>h1 (by have:=(canon_len8 z.natAbs).2 h3; omega)
  exact⟨by unfold capI; rw [if_neg h2],decide_eq_false h2⟩
theorem sum_len {x y:Int} (hx:x.natAbs < 2 ^ 256) (hy:y.natAbs < 2 ^ 256):(canon (val (canon x.natAbs) + val (canon y.natAbs))).length≤9:=by
  rw [val_canon,val_canon]
  exact canon_len_le (by omega)
theorem dif_len {x y:Int} (hx:x.natAbs < 2 ^ 256):(canon (val (canon x.natAbs) - val (canon y.natAbs))).length≤8:=by
  rw [val_canon,val_canon]
  exact (canon_len8 _).2 (by omega)
theorem sum_same {x y:Int} {d:Bool} (hx:decide (x < 0)=d) (hy:decide (y < 0)=d):sgn d (val (canon (val (canon x.natAbs) + val (canon y.natAbs))))=x + y:=by
  rw [val_canon,val_canon,val_canon]; exact add_same hx.symm hy.symm
theorem sum_gt {x y:Int} {d d':Bool} (hx:decide (x < 0)=d) (hy:decide (y < 0)=d') (hne:d ≠ d') (h:decide (cmpI (val (canon x.natAbs)) (val (canon y.natAbs)) < 0)=false):sgn d (val (canon (val (canon x.natAbs) - val (canon y.natAbs))))=x + y:=by
  have h1:=cmpI_ge h
  rw [val_canon,val_canon] at h1
  rw [val_canon,val_canon,val_canon]; exact add_diff hx.symm hy.symm hne h1
theorem sum_lt {x y:Int} {d d':Bool} (hx:decide (x < 0)=d) (hy:decide (y < 0)=d') (hne:d ≠ d') (h:decide (cmpI (val (canon x.natAbs)) (val (canon y.natAbs)) < 0)=true):sgn d' (val (canon (val (canon y.natAbs) - val (canon x.natAbs))))=x + y:=by
  have h1:=cmpI_lt h
  rw [val_canon,val_canon] at h1
  rw [val_canon,val_canon,val_canon,Int.add_comm]; exact add_diff hy.symm hx.symm (Ne.symm hne) (Nat.le_of_lt h1)
theorem neg_sgn {z:Int} {d:Bool} (h:decide (z < 0)=d):sgn (!d) (val (canon z.natAbs)) = -z:=by
  rw [val_canon]
  cases d
  · have:=of_decide_eq_false h
    show -((z.natAbs:Nat):Int) = -z
    omega
  · have:=of_decide_eq_true h
    show ((z.natAbs:Nat):Int) = -z
    omega
theorem u32_le (a:Nm):0≤u32M a∧u32M a≤4294967295:=by unfold u32M; split <;> omega
def xorR (a b:Nm):Nm:=⟨0,i32M ⟨0,bxorM (u32M a) (u32M b)⟩⟩
theorem xorR_eq (a b:Nm):xorR a b=bitM 3 a b:=by
  obtain⟨u,hu,hu2⟩:=u32_nat a
  obtain⟨v,hv,hv2⟩:=u32_nat b
  have hlt:u ^^^ v < 2 ^ 32:=Nat.xor_lt_two_pow (by omega) (by omega)
  have e:i32M ⟨0,((u ^^^ v:Nat):Int)⟩=i32of ((u ^^^ v:Nat):Int):=by
    have h1:asM ⟨0,((u ^^^ v:Nat):Int)⟩=⟨0,((u ^^^ v:Nat):Int)⟩:=as_of (may_wholeI.2 ⟨by omega,by omega⟩)
    unfold i32M u32M
    rw [h1]
    simp [i32of]
  unfold xorR bitM
  rw [hu,hv,bxor_nat hu2 hv2,e,← bxor_i32 hu2 hv2]
  unfold i32M
  rw [hu,hv]
  rfl
theorem xor_bd (a b:Nm):0≤bxorM (u32M a) (u32M b)∧bxorM (u32M a) (u32M b)≤4294967295:=by
  obtain⟨u,hu,hu2⟩:=u32_nat a
  obtain⟨v,hv,hv2⟩:=u32_nat b
  have hlt:u ^^^ v < 2 ^ 32:=Nat.xor_lt_two_pow (by omega) (by omega)
  rw [hu,hv,bxor_nat hu2 hv2]
  omega
theorem str_ne {o:ByteArray} (h:strEq o ⟨#[126]⟩=true):strEq o ⟨#[45]⟩=false:=by
  unfold strEq at h ⊢
  rw [eq_of_beq h]
  decide +kernel
theorem str_is {o:ByteArray} (h:unT o=true) (h2:strEq o ⟨#[126]⟩=false):strEq o ⟨#[45]⟩=true:=by
  unfold unT at h
  rw [h2,Bool.or_false] at h
  exact h
def unNR (o:ByteArray) (v:Vl):Vl × Int :=
  if decide ((numericV v).2=0) then
    (if strEq o ⟨#[126]⟩ && decide ((numericV v).1.k=4) then (Vl.z,3)
     else if strEq o ⟨#[126]⟩ then ofN (3,bitM 3 (numericV v).1.num ⟨0,-1⟩,0)
     else if decide ((numericV v).1.k=4) then (⟨4,0,0,decide (-(goodI (numericV v).1.neg (numericV v).1.mag) < 0),canon (-(goodI (numericV v).1.neg (numericV v).1.mag)).natAbs,[],0⟩,0)
     else ofN (3,negM (numericV v).1.num,0))
  else (Vl.z,(numericV v).2)
theorem unNR_eq {o:ByteArray} (h:unT o=true) (v:Vl):unNR o v=unN o v:=by
  unfold unNR unN
  cases h2:strEq o ⟨#[126]⟩ with
  | true=>rw [str_ne h2]; rfl
  | false=>rw [str_is h h2]; rfl
theorem truth_two (t:Bool):((truthV t,0):Vl × Int)=truthG t:=by cases t <;> rfl
def unR (o:ByteArray) (v:Vl):Vl × Int :=
  if strEq o ⟨#[33]⟩ then (truthV (!boolV v),0)
  else if strEq o ⟨#[118,111,105,100]⟩ then (Vl.z,0)
  else if strEq o ⟨#[43]⟩ then (if decide ((numberV v).2=0) then ofN (3,(numberV v).1,0) else (Vl.z,(numberV v).2))
  else if unT o then unNR o v
  else (Vl.z,3)
theorem unR_eq (o:ByteArray) (v:Vl):unR o v=unG o v:=by
  unfold unR unG
  rw [truth_two]
  cases h:unT o with
  | true=>rw [unNR_eq h]
  | false=>rfl

def cbigs_c_P (a:Bool) (Aa:Option Addr) (ma:List Nat) (ca:Nat) (w:World) (en:Ending) (w':World):Prop:=∃ (Ar0:Option Addr) (cr0:Nat),en=.returned (.agg #[.bool a,sv Ar0 ma cr0])∧SRow w' .u32 Ar0 ma cr0∧New w w'
theorem cbigs_c (a:Bool) (Aa:Option Addr) (ma:List Nat) (ca:Nat) (w:World) (hra:SRow w .u32 Aa ma ca) (hs:ma.length≤1000000):Calls prog 166 #[.agg #[.bool a,sv Aa ma ca]] w (cbigs_c_P a Aa ma ca w):=by
 refine enter_abs func166 rfl fun a0 aj aX hp=>?_
 have aj:a0.tmps.size=10:=aj
 have ak:New w w:=Upd.refl _ _
 have hp0:a0.eval (.tmp 0)=.agg #[.bool a,sv Aa ma ca]:=hp 0 _ rfl
 refine wk fun K1 aY=>?_
 refine wB tr2 [] [] 10 [IsNew w 26 [.bool a,sv Aa ma ca],IsNew w 26 [.bool false,sv none ([]) 0]] [0,1] aj ?_ heN ?_
 exact .X hp0<| .Y .nil
 refine aftI aj aX ak fun a2 w3 aA aZ al bf am=>?_
 obtain⟨q9,h8,aG,ag⟩:=am.G 0 1
 obtain⟨a1,aB,aH,aI⟩:=am.G 1 2
 have hne16:=am.ne 0 1 1 2 h8 aB
 have ba:=Nat.le_trans ak.size aG
 have bb:=Nat.le_trans ak.size aH
 refine aY _ _ <| wk fun bg aJ=>?_
 refine wp_gS (fun W=>Blk W q9 26 [.bool a,sv Aa ma ca]∧True) (fun W W' hn h=>⟨Blk.new_ h.1 hn,trivial⟩) ⟨ag,trivial⟩ [true,true,true,true,true,false,false,false] [0,1] [(5,false),(6,true),(7,false)] 10
  [ve (pv q9),ve (.bool a),
  (OP w3.heap.size 56 .u32 ([])),ve (.pointer (some ⟨q9,1,none⟩)),ve (sv Aa ma ca),vt,vt,vt]
  [] newsNil aA (.eq (.eq (.cons (fun _ _ _ n ⟨_,_,e,h⟩=>⟨_,_,e,h.new_ n⟩) (.eq (.eq (.tt (.tt (.tt .nil)))))))) ?_ ?_ ?_
 refine .o3 ?_
 refine .o3 ?_
 refine .o1 (tkA rfl (noG rfl) fun _ w hn k=>(by
  exact x_bslice0 .u32 rfl parts0 elW fun A1 c2 W' hmo=>⟨A1,c2,rfl,(hmo.more hn.size)⟩)) ?_
 exact .F h8<| .J 3 isAgg24 ag<| .off<| .off<| .off .nil
 refine eg2 ?_ ?_
 exact eager_takeG rfl (noG rfl) fun _ w hn k=>(by
  exact⟨_,fun w hS=>v_field rfl (k.fx 1 h8) (fun w=>rfl),rfl⟩)
 exact eager_takeG rfl (noG rfl) fun _ w hn k=>(by
  exact⟨_,fun w hS=>v_load rfl (k.eq1 0 3 rfl) (l_one isAgg4 (hS.1.cell 0)),rfl⟩)
 intro an bh _ ah ae
 obtain⟨ao,aK,ai⟩:=aft ae aA aZ al ah
 have a3:=ae.f1 aB
 have a4:=ae.g 1 4
 obtain⟨a5,aL,ap,aM⟩:=ae.G 2 5
 have ap:an.eval (.tmp 5)=sv a5 ([]) aL:=ap
 have aC:=ae.g 4 7
 have⟨aq,aN⟩:=nw2 ah ag aI
 have af:=aM.more al.size
 have hw46:=ai.size
 refine st_act rfl rfl fun bi aO=>a_append (k:=.u32) (b:=w.heap.size) rfl elW ap af aC (hra.new_ ai) (by first|omega|(simp only [List.length_nil,List.length_cons,List.length_append,List.length_take,List.length_drop,List.length_replicate,List.length_set]; omega)) (by first|omega|(simp only [List.length_nil,List.length_cons,List.length_append,List.length_take,List.length_drop,List.length_replicate,List.length_set]; omega)) hw46 fun ab aa bj aP hg42=>aO _ _ ⟨(aq.ownGrown af (by decide) hg42),trivial⟩ ?_
 have aQ:=ai.ownGrown af hg42
 have ar:=aq.ownGrown af (by decide) hg42
 have au:=aN.ownGrown af (by decide) hg42
 obtain⟨av,ad⟩:∃ a',a'=an.put (some 8) (sv ab ([] ++ ma) aa):=⟨_,rfl⟩
 have⟨aw,aR⟩:=pz2 ad ao aK
 have⟨a6,aD,a7⟩:=pN3 ad a3 a4 aC
 have aE:=s7 ad ao
 show stepsTo _ _ _ _ _ (an.put (some 8) (sv ab ([] ++ ma) aa)) _
 rw [← ad]
 refine st_take rfl rfl (fun w _=>v_build (w:=w) (cells:=#[.bool a,sv ab ([] ++ ma) aa]) (ps:=[(0,.bool a),(1,sv ab ([] ++ ma) aa)]) rfl (parts2 aD aE) (by kernel_rfl)) rfl ?_
 obtain⟨a8,ac⟩:∃ a',a'=av.put (some 9) (.agg #[.bool a,sv ab ([] ++ ma) aa]):=⟨_,rfl⟩
 have⟨bd,aS⟩:=pz2 ac aw aR
 have⟨aF,bk,bl⟩:=pN3 ac a6 aD a7
 have bm:=pN ac aE
 have a9:=s7 ac aw
 show stepsTo _ _ _ _ _ (av.put (some 9) (.agg #[.bool a,sv ab ([] ++ ma) aa])) _
 rw [← ac]
 obtain⟨bn,-,az,aT,ax,ay⟩:=s_two (v0:=.bool a) (v1:=sv ab ([] ++ ma) aa) sizeOf26 rfl rfl rfl au
 refine st_act rfl rfl fun bo aU=>a_store' rfl aF a9 az (aU _ _ ⟨(ay _ _ _ (hne16) ar),trivial⟩ ?_)
 have aV:=aP.far au ax (by decide)
 have be:=ay _ _ _ (hne16) ar
 have aW:=aQ.tR ax
 refine aJ _ _<| wp_ret (ret_k aS (v:=.agg #[.bool a,sv ab ([] ++ ma) aa]) (res_c rfl aF (l_two isAgg26 sizeOf26 aT)) ?_)
 have hsp:([] ++ ma)=ma:=by simp
 exact⟨ab,aa,congrArg (fun l=>Ending.returned (Value.agg #[.bool a,sv ab l aa])) hsp,Eq.mp (congrArg (fun l=>SRow _ _ ab l aa) hsp) aV.row,aW⟩
def qcopied_c_P (v:Vl) (Av:Option Addr) (cv:Nat) (Bv:Option Addr) (dv:Nat) (w:World) (en:Ending) (w':World):Prop:=∃ (Ar0:Option Addr) (cr0:Nat) (Ar1:Option Addr) (cr1:Nat),en=.returned (vv v Ar0 cr0 Ar1 cr1)∧SRow w' .u32 Ar0 v.mag cr0∧SRow w' .u16 Ar1 v.s cr1∧New w w'
theorem qcopied_c (v:Vl) (Av:Option Addr) (cv:Nat) (Bv:Option Addr) (dv:Nat) (w:World) (hmv:SRow w .u32 Av v.mag cv) (hsv:SRow w .u16 Bv v.s dv) (hml:v.mag.length≤1000000) (hsl:v.s.length≤1000000):Calls prog 107 #[vv v Av cv Bv dv] w (qcopied_c_P v Av cv Bv dv w):=by
 refine enter_abs func107 rfl fun a0 ap bs hp=>?_
 have ap:a0.tmps.size=12:=ap
 have aq:New w w:=Upd.refl _ _
 have hp0:a0.eval (.tmp 0)=vv v Av cv Bv dv:=hp 0 _ rfl
 refine wk fun K1 bt=>?_
 refine wB tr2 [] [] 12 [IsNew w 46 (c7 v Av cv Bv dv),IsNew w 46 z7] [0,1] ap ?_ heN ?_
 exact .X hp0<| .Y .nil
 refine aftI ap bs aq fun a2 w3 aL bu ai bL ar=>?_
 obtain⟨q9,h8,aP,au⟩:=ar.G 0 1
 obtain⟨aM,aN,aQ,aR⟩:=ar.G 1 2
 have hne16:=ar.ne 0 1 1 2 h8 aN
 have bH:=Nat.le_trans aq.size aP
 have bI:=Nat.le_trans aq.size aQ
 refine bt _ _ <| wk fun bM aS=>?_
 refine wp_g0 [true,true,true,true,false] [(4,false)] 12
  [ve (.pointer (some ⟨q9,5,none⟩)),ve (sv Bv v.s dv),(fun (v_:Value) (W:World)=>∃ (A3:Option Addr) (c4:Nat),v_=sv A3 v.s c4∧SOwn W w3.heap.size 74 .u16 A3 v.s c4),ve (.pointer (some ⟨q9,5,none⟩)),vt] aL (.eq (.eq (.cons (fun _ _ _ n ⟨_,_,e,h⟩=>⟨_,_,e,h.new_ n⟩) (.eq (.tt .nil))))) ?_ ?_
 refine .F h8<| .J 0 isAgg27 au ?_
 refine .o1 (tkC rfl (noG rfl) rfl fun _ w hn k=>(by
  refine ⟨#[sv Bv v.s dv],_,args1 (k.eq1 1 4 rfl),fun w=>by kernel_rfl,cunits_c _ v.s _ _ (hsv.new_ (ai.transNew hn)) (by first|omega|(simp only [List.length_nil,List.length_take,List.length_drop]; omega)|(simp only [List.length_cons,List.length_nil]; omega)),?_⟩
  rintro e w' ⟨A1,c2,rfl,hmo0,hm⟩
  exact⟨_,rfl,hm,⟨A1,c2,rfl,(hmo0.more hn.size)⟩⟩)) ?_
 exact .F h8<| .off .nil
 refine aftI aL bu ai fun bv bN av aT aU aw ag=>?_
 have⟨ax,bw⟩:=ag.f2 h8 aN
 obtain⟨ac,aa,ay,aV⟩:=ag.G 2 5
 have ay:bv.eval (.tmp 5)=sv ac v.s aa:=ay
 have bx:=ag.g 3 6
 have⟨az,aW⟩:=nw2 aw au aR
 have aX:=aV.more ai.size
 obtain⟨bO,-,aG,aA,aB,aY⟩:=s_one (v:=sv ac v.s aa) (i:=5) sizeOf27 rfl rfl az lb
 refine st_act rfl rfl fun bP aZ=>a_store' rfl bx ay aG (aZ _ _ trivial ?_)
 have a1:=aX.far az aB (by decide)
 have a3:=aY _ _ _ (fun h=>hne16 h.symm) aW
 have aC:=aU.tR aB
 refine aS _ _ <| wk fun bQ a4=>?_
 refine wp_g0 [true,true,true,true,false] [(4,false)] 12
  [ve (.pointer (some ⟨q9,3,none⟩)),ve (.agg #[.bool v.neg,sv Av v.mag cv]),(fun (v_:Value) (W:World)=>∃ (ae:Option Addr) (af:Nat),v_=.agg #[.bool v.neg,sv ae v.mag af]∧SRow W .u32 ae v.mag af),ve (.pointer (some ⟨q9,3,none⟩)),vt] av (.eq (.eq (.cons (fun _ _ _ n ⟨_,_,e,h⟩=>⟨_,_,e,h.new_ n⟩) (.eq (.tt .nil))))) ?_ ?_
 refine .F ax<| .K6 0 aA ?_
 refine .o1 (tkC rfl (noG rfl) rfl fun _ w hn k=>(by
  refine ⟨#[.agg #[.bool v.neg,sv Av v.mag cv]],_,args1 (k.eq1 1 8 rfl),fun w=>by kernel_rfl,cbigs_c v.neg _ v.mag _ _ (hmv.new_ (aC.transNew hn)) (by first|omega|(simp only [List.length_nil,List.length_take,List.length_drop]; omega)|(simp only [List.length_cons,List.length_nil]; omega)),?_⟩
  rintro e w' ⟨A9,bz,rfl,hmo0,hm⟩
  exact⟨_,rfl,hm,⟨A9,bz,rfl,hmo0⟩⟩)) ?_
 exact .F ax<| .off .nil
 refine aftI av aT aC fun bA bR aD a5 a6 aj ah=>?_
 have⟨bB,bC⟩:=ah.f2 ax bw
 obtain⟨ad,ab,aE,a7⟩:=ah.G 2 9
 have aE:bA.eval (.tmp 9)=.agg #[.bool v.neg,sv ad v.mag ab]:=aE
 have bD:=ah.g 3 10
 have⟨ak,a8,a9⟩:=nw3 aj aA a3 a1
 obtain⟨bE,aH,aI,al,ba⟩:=s_many (P:=prog) (t:=26) (i:=3) [.bool v.neg,sv ad v.mag ab] sizeOf26 rfl rfl rfl ak lb
 have bb:Blk bE q9 46 (c7 v ad ab ac aa):=aI
 refine st_act rfl rfl fun bS bd=>a_store' rfl bD aE aH (bd _ _ trivial ?_)
 have be:=a9.far ak al (by decide)
 have bf:=a7.fr ak al
 have bg:=ba _ _ _ (fun h=>hne16 h.symm) a8
 have bh:=a6.tR al
 refine a4 _ _ <| wk fun bT bi=>?_
 refine wA [true,false] [(1,false)] 12 [ve (vv v ad ab ac aa),vt] aD ?_ ?_
 exact .L8 bB bb<| .off .nil
 refine aftI aD a5 bh fun bU bV bJ bj bk am aF=>?_
 have aO:=aF.f1 bC
 have bF:=aF.g 0 11
 have⟨an,bl,bm⟩:=nw3 am bg be bf
 refine sS8 aO bF an fun bG bn ao bK=>?_
 have bp:=bl.far an ao (by decide)
 have bq:=bm.fr an ao
 have br:=bk.tR ao
 refine bi _ _<| wp_ret (ret_k bj (v:=vv v ad ab ac aa) (res_c rfl aO (l_agg isAgg46 sizeOf46 bn rfl)) ?_)
 exact⟨ad,ab,ac,aa,rfl,bq,bp.row,br⟩
theorem qnought_c (a:Nm) (w:World):Calls prog 104 #[nv a] w (IsRet (.bool (noughtN a)) w):=by
 refine enter_abs func104 rfl fun a0 ab al hp=>?_
 have ab:a0.tmps.size=21:=ab
 have ac:New w w:=Upd.refl _ _
 have hp0:a0.eval (.tmp 0)=nv a:=hp 0 _ rfl
 refine wk fun K1 am=>?_
 refine wB tr2 [] [] 21 [IsNew w 23 [iv a.k,iv a.n],vF] [0] ab ?_ heN ?_
 exact .X hp0<| .c .nil
 refine aftI ab al ac fun a2 w3 ad an ae av ao=>?_
 obtain⟨q9,h8,af,aa⟩:=ao.G 0 1
 have aq:=Nat.le_trans ac.size af
 refine am _ _ <| wk fun aw ag=>?_
 refine wA tr19 [] 21 [ve (pv q9),ve (iv a.k),ve (.bool (decide (a.k=2))),ve (.bool (decide (a.k=2))),ve (gq (!(decide (a.k=2))) (pv q9)),ve (gq (!(decide (a.k=2))) (iv a.k)),ve (gq (!(decide (a.k=2))) (.bool (decide (a.k=1)))),ve (.bool ((decide (a.k=2)) || (decide (a.k=1)))),ve (.bool ((decide (a.k=2)) || (decide (a.k=1)))),ve (gq (!((decide (a.k=2)) || (decide (a.k=1)))) (pv q9)),ve (gq (!((decide (a.k=2)) || (decide (a.k=1)))) (iv a.k)),ve (gq (!((decide (a.k=2)) || (decide (a.k=1)))) (.bool (decide (a.k=0)))),ve (gq (!((decide (a.k=2)) || (decide (a.k=1)))) (.bool (decide (a.k=0)))),ve (gq ((!((decide (a.k=2)) || (decide (a.k=1)))) && (decide (a.k=0))) (.pointer (some ⟨q9,1,none⟩))),ve (gq ((!((decide (a.k=2)) || (decide (a.k=1)))) && (decide (a.k=0))) (iv a.n)),ve (gq ((!((decide (a.k=2)) || (decide (a.k=1)))) && (decide (a.k=0))) (.bool (decide (a.n=0)))),ve (gq (!((decide (a.k=2)) || (decide (a.k=1)))) (.bool ((decide (a.k=0)) && (decide (a.n=0))))),ve (.bool (((decide (a.k=2)) || (decide (a.k=1))) || ((decide (a.k=0)) && (decide (a.n=0))))),ve (.bool (((decide (a.k=2)) || (decide (a.k=1))) || ((decide (a.k=0)) && (decide (a.n=0)))))] ad ?_ ?_
 exact .F h8<| .J 0 isAgg3 aa<| .b 1 (r_eql rfl)<| .N 2<| .Q (fun k=>g0' (k.eq1 3 6 rfl)) (fun hG p k=>v_field rfl (k.fx 1 h8) (fun w=>rfl))<| .Q (fun k=>g0' (k.eq1 3 6 rfl)) (fun hG p k=>v_load rfl (cT hG (k.eq1 4 7 rfl)) (l_one isAgg3 ((aa.new_ p).cell 0)))<| .Q (fun k=>g0' (k.eq1 3 6 rfl)) (fun hG p k=>v_bin rfl (cT hG (k.eq1 5 8 rfl)) rfl (fun _=>rfl) (r_eql rfl))<| .W 3 6<| .N 7<| .Q (fun k=>g0' (k.eq1 8 11 rfl)) (fun hG p k=>v_field rfl (k.fx 1 h8) (fun w=>rfl))<| .Q (fun k=>g0' (k.eq1 8 11 rfl)) (fun hG p k=>v_load rfl (cT hG (k.eq1 9 12 rfl)) (l_one isAgg3 ((aa.new_ p).cell 0)))<| .Q (fun k=>g0' (k.eq1 8 11 rfl)) (fun hG p k=>v_bin rfl (cT hG (k.eq1 10 13 rfl)) rfl (fun _=>rfl) (r_eql rfl))<| .Q (fun k=>g0' (k.eq1 8 11 rfl)) (fun hG p k=>v_move rfl (cT hG (k.eq1 11 14 rfl)))<| .Q (fun k=>g1 (k.eq1 12 15 rfl)) (fun hG p k=>v_field rfl (k.fx 1 h8) (fun w=>rfl))<| .Q (fun k=>g1 (k.eq1 12 15 rfl)) (fun hG p k=>v_load rfl (cT hG (k.eq1 13 16 rfl)) (l_one isAgg3 ((aa.new_ p).cell 1)))<| .Q (fun k=>g1 (k.eq1 12 15 rfl)) (fun hG p k=>v_bin rfl (cT hG (k.eq1 14 17 rfl)) rfl (fun _=>rfl) (r_eql rfl))<| .Q (fun k=>g0' (k.eq1 8 11 rfl)) (fun hG p k=>v_and rfl (cT hG (k.eq1 12 15 rfl)) (fun hg=>(cT (aj hG hg) (k.eq1 15 18 rfl))) rfl)<| .W 8 16<| .B 17 .nil
 refine aftI ad an ae fun ax ay ar ah ai au ak=>?_
 have ap:=ak.g 18 2
 refine ag _ _<| wp_ret (ret_k ah (v:=.bool (((decide (a.k=2)) || (decide (a.k=1))) || ((decide (a.k=0)) && (decide (a.n=0))))) (res_t rfl ap _) ?_)
 refine ⟨?_,ai⟩
 show Ending.returned (.bool (((decide (a.k=2)) || (decide (a.k=1))) || ((decide (a.k=0)) && (decide (a.n=0)))))=Ending.returned (.bool (noughtN a))
 first|rfl|(simp only [noughtN,bsm] <;> rfl)|(exfalso; omega)
theorem qbool_c0 (v:Vl) (Av:Option Addr) (cv:Nat) (Bv:Option Addr) (dv:Nat) (w:World) (hmv:SRow w .u32 Av v.mag cv) (hsv:SRow w .u16 Bv v.s dv):Calls prog 55 #[vv v Av cv Bv dv] w (IsRet (.bool (boolR v)) w):=by
 refine enter_abs func55 rfl fun a0 aK cy hp=>?_
 have aK:a0.tmps.size=35:=aK
 have bI:New w w:=Upd.refl _ _
 have hp0:a0.eval (.tmp 0)=vv v Av cv Bv dv:=hp 0 _ rfl
 refine wk fun K1 cz=>?_
 refine wB tr2 [] [] 35 [IsNew w 46 (c7 v Av cv Bv dv),vF] [0] aK ?_ heN ?_
 exact .X hp0<| .c .nil
 refine aftI aK cy bI fun a2 w3 bJ cA al ds cB=>?_
 obtain⟨q9,h8,bR,bS⟩:=cB.G 0 1
 have cU:=Nat.le_trans bI.size bR
 refine cz _ _ <| wk fun dt bT=>?_
 refine wp_g [true,true,true,false] [] [(3,false)] 35
  [ve (vv v Av cv Bv dv),
  (VP (cleanV v)),IsNew w3 46 z7,vt]
  [2] (newsCons (fun v w h=>IsNew.old h) newsNil) bJ (.eq (.cons (fun _ _ _ n ⟨_,_,_,_,e,h,i⟩=>⟨_,_,_,_,e,h.new_ n,i.new_ n⟩) (.nw (.tt .nil)))) ?_ (fun i h=>by cases h) ?_
 refine .L8 h8 bS ?_
 refine .o1 (tkC rfl (noG rfl) rfl fun _ w hn k=>(by
  refine ⟨#[vv v Av cv Bv dv],_,args1 (k.eq1 0 4 rfl),fun w=>by kernel_rfl,qgood_c v _ _ _ _ _ (hmv.new_ (al.transNew hn)) (hsv.new_ (al.transNew hn)),?_⟩
  rintro e w' ⟨A1,c2,A3,c4,rfl,hmo0,hmo1,hm⟩
  exact⟨_,rfl,hm,⟨A1,c2,A3,c4,rfl,hmo0,hmo1⟩⟩)) ?_
 exact .Y<| .off .nil
 refine aftI bJ cA al fun cC du aO bU bV cV aP=>?_
 obtain⟨az,aj,aA,ak,aQ,bW,bX⟩:=aP.G 1 5
 have aQ:cC.eval (.tmp 5)=vv (cleanV v) az aj aA ak:=aQ
 obtain⟨ag,aR,bY,aB⟩:=aP.G 2 3
 have cW:=Nat.le_trans al.size bY
 refine sS8 aR aQ aB fun cD aS aC cX=>?_
 have b0:=bW.fr aB aC
 have b1:=bX.fr aB aC
 have b2:=bV.tR aC
 refine bT _ _ <| wk fun dx b3=>?_
 refine wk fun dy b4=>?_
 refine wA tr2 [] 35 [ve (pv ag),ve (iv ((cleanV v).k))] aO ?_ ?_
 exact .F aR<| .J 0 isAgg3 aS .nil
 refine aftI aO bU b2 fun dz dA aT b5 b6 aD aU=>?_
 have cE:=aU.f1 aR
 have bK:=aU.g 1 7
 have⟨b7,b8,b9⟩:=nw3 aD aS b0 b1
 refine b4 _ _<| wb<| wk fun dB ca=>?_
 refine wA tr2 [] 35 [ve (.bool (decide (((cleanV v).k)=2))),ve (.bool (decide (((cleanV v).k)=2)))] aT ?_ ?_
 exact .H bK (r_eql rfl)<| .B 0 .nil
 refine aftI aT b5 b6 fun dC dD am aV aW aE aF=>?_
 have⟨bL,bM⟩:=aF.f2 cE bK
 have bN:=aF.g 1 8
 have⟨aX,cb,cc⟩:=nw3 aE b7 b8 b9
 refine ca _ _ ?_
 rcases bc (decide (((cleanV v).k)=2)) with ab|ab
 have bb:=oT ab
 have cd:=hB bN ab
 refine wt cd<| wk fun dE ce=>?_
 refine wA tr4 [] 35 [ve (.pointer (some ⟨ag,6,none⟩)),ve (iv ((cleanV v).ref)),ve (.bool (decide (((cleanV v).ref)=1))),ve (.bool (decide (((cleanV v).ref)=1)))] am ?_ ?_
 exact .F bL<| .J 0 isAgg3 aX<| .b 1 (r_eql rfl)<| .B 2 .nil
 refine aftI am aV aW fun dF dG cY cf ch cZ ci=>?_
 have cF:=ci.g 3 2
 refine ce _ _<| wp_ret (ret_k cf (v:=.bool (decide (((cleanV v).ref)=1))) (res_t rfl cF _) ?_)
 refine ⟨?_,ch⟩
 show Ending.returned (.bool (decide (((cleanV v).ref)=1)))=Ending.returned (.bool (boolR v))
 first|rfl|(simp only [boolR,ab,bsm] <;> rfl)|(exfalso; omega)
 have bb:=oF ab
 have cj:=hB bN ab
 refine wf cj<| wk fun dH cl=>?_
 refine wA tr2 [] 35 [ve (.bool (decide (((cleanV v).k)=3))),ve (.bool (decide (((cleanV v).k)=3)))] am ?_ ?_
 exact .H bM (r_eql rfl)<| .B 0 .nil
 refine aftI am aV aW fun dI dJ an aY aZ aG aH=>?_
 have⟨bO,bP⟩:=aH.f2 bL bM
 have bQ:=aH.g 1 13
 have⟨a1,cm,cn⟩:=nw3 aG aX cb cc
 refine cl _ _ ?_
 rcases bc (decide (((cleanV v).k)=3)) with ac|ac
 have bd:=oT ac
 have co:=hB bQ ac
 refine wt co<| wk fun c0 be=>?_
 refine wA tr5 [] 35 [ve (.pointer (some ⟨ag,1,none⟩)),ve (nv (Nm.mk ((cleanV v).nk) ((cleanV v).nn))),ve (.bool (noughtN (Nm.mk ((cleanV v).nk) ((cleanV v).nn)))),ve (.bool (!(noughtN (Nm.mk ((cleanV v).nk) ((cleanV v).nn))))),ve (.bool (!(noughtN (Nm.mk ((cleanV v).nk) ((cleanV v).nn)))))] an ?_ ?_
 exact .F bO<| .K2 0 a1<| .C 1 (fun m=>qnought_c (Nm.mk ((cleanV v).nk) ((cleanV v).nn)) _)<| .T (fun k=>v_not rfl (k.eq1 2 17 rfl))<| .B 3 .nil
 refine aftI an aY aZ fun c1 c3 cG bf bg cH bh=>?_
 have cp:=bh.g 4 2
 refine be _ _<| wp_ret (ret_k bf (v:=.bool (!(noughtN (Nm.mk ((cleanV v).nk) ((cleanV v).nn))))) (res_t rfl cp _) ?_)
 refine ⟨?_,bg⟩
 show Ending.returned (.bool (!(noughtN (Nm.mk ((cleanV v).nk) ((cleanV v).nn)))))=Ending.returned (.bool (boolR v))
 first|rfl|(simp only [boolR,ab,ac,bsm] <;> rfl)|(exfalso; omega)
 have bd:=oF ac
 have bi:=hB bQ ac
 refine wf bi<| wk fun c5 bj=>?_
 refine wA tr2 [] 35 [ve (.bool (decide (((cleanV v).k)=4))),ve (.bool (decide (((cleanV v).k)=4)))] an ?_ ?_
 exact .H bP (r_eql rfl)<| .B 0 .nil
 refine aftI an aY aZ fun c9 da ah ao ap aq ar=>?_
 have⟨aI,cq⟩:=ar.f2 bO bP
 have a3:=ar.g 1 19
 have⟨au,bk,bl⟩:=nw3 aq a1 cm cn
 refine bj _ _ ?_
 rcases bc (decide (((cleanV v).k)=4)) with aa|aa
 have a4:=oT aa
 have bm:=hB a3 aa
 refine wt bm<| wk fun db aL=>?_
 rcases bc (decide ((((cleanV v).mag).length:Int)≤0)) with ae|ae
 have a5:=oT ae
 refine wA tr6 [] 35 [ve (.pointer (some ⟨ag,3,none⟩)),ve (.pointer (some ⟨ag,4,none⟩)),ve (sv az ((cleanV v).mag) aj),ve (iv (((cleanV v).mag).length:Int)),vF,vF] ah ?_ ?_
 exact .F aI<| .f (fun k=>k.eq1 0 21 rfl)<| .J 1 isAgg24 au<| .T (fun k=>v_lenR rfl elW (k.eq1 2 23 rfl))<| .b 3 (r_gtrK ae)<| .B 4 .nil
 refine aftI ah ao ap fun dc dd cI bn bo cJ bp=>?_
 have cr:=bp.g 5 2
 refine aL _ _<| wp_ret (ret_k bn (v:=.bool false) (res_t rfl cr _) ?_)
 refine ⟨?_,bo⟩
 show Ending.returned (.bool false)=Ending.returned (.bool (boolR v))
 first|rfl|(simp only [boolR,ab,ac,aa,ae,bsm] <;> rfl)|(exfalso; omega)
 have a5:=oF ae
 refine wA tr6 [] 35 [ve (.pointer (some ⟨ag,3,none⟩)),ve (.pointer (some ⟨ag,4,none⟩)),ve (sv az ((cleanV v).mag) aj),ve (iv (((cleanV v).mag).length:Int)),vT,vT] ah ?_ ?_
 exact .F aI<| .f (fun k=>k.eq1 0 21 rfl)<| .J 1 isAgg24 au<| .T (fun k=>v_lenR rfl elW (k.eq1 2 23 rfl))<| .b 3 (r_gtrK ae)<| .B 4 .nil
 refine aftI ah ao ap fun de df cK bq br cL bs=>?_
 have ct:=bs.g 5 2
 refine aL _ _<| wp_ret (ret_k bq (v:=.bool true) (res_t rfl ct _) ?_)
 refine ⟨?_,br⟩
 show Ending.returned (.bool true)=Ending.returned (.bool (boolR v))
 first|rfl|(simp only [boolR,ab,ac,aa,ae,bsm] <;> rfl)|(exfalso; omega)
 have a4:=oF aa
 have bt:=hB a3 aa
 refine wf bt<| wk fun dg bu=>?_
 refine wA tr2 [] 35 [ve (.bool (decide (((cleanV v).k)=5))),ve (.bool (decide (((cleanV v).k)=5)))] ah ?_ ?_
 exact .H cq (r_eql rfl)<| .B 0 .nil
 refine aftI ah ao ap fun dh di ai av aw ax aM=>?_
 have aJ:=aM.f1 aI
 have a6:=aM.g 1 26
 have⟨ay,cM,cN⟩:=nw3 ax au bk bl
 refine bu _ _ ?_
 rcases bc (decide (((cleanV v).k)=5)) with ad|ad
 have a7:=oT ad
 have bv:=hB a6 ad
 refine wt bv<| wk fun dj aN=>?_
 rcases bc (decide ((((cleanV v).s).length:Int)≤0)) with af|af
 have a8:=oT af
 refine wA tr5 [] 35 [ve (.pointer (some ⟨ag,5,none⟩)),ve (sv aA ((cleanV v).s) ak),ve (iv (((cleanV v).s).length:Int)),vF,vF] ai ?_ ?_
 exact .F aJ<| .J 0 isAgg27 ay<| .T (fun k=>v_lenR rfl elU (k.eq1 1 29 rfl))<| .b 2 (r_gtrK af)<| .B 3 .nil
 refine aftI ai av aw fun dk dl cO bw bx cP bz=>?_
 have cu:=bz.g 4 2
 refine aN _ _<| wp_ret (ret_k bw (v:=.bool false) (res_t rfl cu _) ?_)
 refine ⟨?_,bx⟩
 show Ending.returned (.bool false)=Ending.returned (.bool (boolR v))
 first|rfl|(simp only [boolR,ab,ac,aa,ad,af,bsm] <;> rfl)|(exfalso; omega)
 have a8:=oF af
 refine wA tr5 [] 35 [ve (.pointer (some ⟨ag,5,none⟩)),ve (sv aA ((cleanV v).s) ak),ve (iv (((cleanV v).s).length:Int)),vT,vT] ai ?_ ?_
 exact .F aJ<| .J 0 isAgg27 ay<| .T (fun k=>v_lenR rfl elU (k.eq1 1 29 rfl))<| .b 2 (r_gtrK af)<| .B 3 .nil
 refine aftI ai av aw fun dm dn cQ bA bB cR bC=>?_
 have cw:=bC.g 4 2
 refine aN _ _<| wp_ret (ret_k bA (v:=.bool true) (res_t rfl cw _) ?_)
 refine ⟨?_,bB⟩
 show Ending.returned (.bool true)=Ending.returned (.bool (boolR v))
 first|rfl|(simp only [boolR,ab,ac,aa,ad,af,bsm] <;> rfl)|(exfalso; omega)
 have a7:=oF ad
 have bD:=hB a6 ad
 refine wf bD<| ws<| b3 _ _<| wk fun dp bE=>?_
 refine wA tr4 [] 35 [ve (pv ag),ve (iv ((cleanV v).k)),ve (.bool (decide (((cleanV v).k)=6))),ve (.bool (decide (((cleanV v).k)=6)))] ai ?_ ?_
 exact .F aJ<| .J 0 isAgg3 ay<| .b 1 (r_eql rfl)<| .B 2 .nil
 refine aftI ai av aw fun dq dr cS bF bG cT bH=>?_
 have cx:=bH.g 3 2
 refine bE _ _<| wp_ret (ret_k bF (v:=.bool (decide (((cleanV v).k)=6))) (res_t rfl cx _) ?_)
 refine ⟨?_,bG⟩
 show Ending.returned (.bool (decide (((cleanV v).k)=6)))=Ending.returned (.bool (boolR v))
 first|rfl|(simp only [boolR,ab,ac,aa,ad,bsm] <;> rfl)|(exfalso; omega)
theorem qbool_c (v:Vl) (Av:Option Addr) (cv:Nat) (Bv:Option Addr) (dv:Nat) (w:World) (hmv:SRow w .u32 Av v.mag cv) (hsv:SRow w .u16 Bv v.s dv):Calls Tryz.prog 55 #[vv v Av cv Bv dv] w (IsRet (.bool (boolV v)) w):=by
  have h:=qbool_c0 v Av cv Bv dv w hmv hsv
  rw [boolR_eq] at h
  exact h
def qnumeric_c0_P (v:Vl) (Av:Option Addr) (cv:Nat) (Bv:Option Addr) (dv:Nat) (w:World) (en:Ending) (w':World):Prop:=∃ (Ar0:Option Addr) (cr0:Nat) (Ar1:Option Addr) (cr1:Nat),en=.returned (.tuple #[vv (numericR v).1 Ar0 cr0 Ar1 cr1,iv ((numericR v).2)])∧SRow w' .u32 Ar0 ((numericR v).1.mag) cr0∧SRow w' .u16 Ar1 ((numericR v).1.s) cr1∧New w w'
theorem qnumeric_c0 (v:Vl) (Av:Option Addr) (cv:Nat) (Bv:Option Addr) (dv:Nat) (w:World) (hmv:SRow w .u32 Av v.mag cv) (hsv:SRow w .u16 Bv v.s dv) (hvv:VOk v):Calls prog 58 #[vv v Av cv Bv dv] w (qnumeric_c0_P v Av cv Bv dv w):=by
 refine enter_abs func58 rfl fun a0 aK dn hp=>?_
 have aK:a0.tmps.size=25:=aK
 have a1:New w w:=Upd.refl _ _
 have hp0:a0.eval (.tmp 0)=vv v Av cv Bv dv:=hp 0 _ rfl
 refine wk fun K1 dp=>?_
 refine wB tr3 [] [] 25 [IsNew w 46 (c7 v Av cv Bv dv),IsNew w 46 z7,ve (iv 0)] [0,1] aK ?_ heN ?_
 exact .X hp0<| .Y<| .c .nil
 refine aftI aK dn a1 fun a2 w3 cn dq ax ef a3=>?_
 obtain⟨q9,h8,cu,cw⟩:=a3.G 0 1
 obtain⟨aw,co,cx,a4⟩:=a3.G 1 2
 have hne16:=a3.ne 0 1 1 2 h8 co
 have dN:=Nat.le_trans a1.size cu
 have dO:=Nat.le_trans a1.size cx
 refine dp _ _ <| wk fun eg cy=>?_
 refine wp_g [true,true,true,false] [] [(3,false)] 25
  [ve (vv v Av cv Bv dv),
  (VP (cleanV v)),IsNew w3 46 z7,vt]
  [2] (newsCons (fun v w h=>IsNew.old h) newsNil) cn (.eq (.cons (fun _ _ _ n ⟨_,_,_,_,e,h,i⟩=>⟨_,_,_,_,e,h.new_ n,i.new_ n⟩) (.nw (.tt .nil)))) ?_ (fun i h=>by cases h) ?_
 refine .L8 h8 cw ?_
 refine .o1 (tkC rfl (noG rfl) rfl fun _ w hn k=>(by
  refine ⟨#[vv v Av cv Bv dv],_,args1 (k.eq1 0 7 rfl),fun w=>by kernel_rfl,qgood_c v _ _ _ _ _ (hmv.new_ (ax.transNew hn)) (hsv.new_ (ax.transNew hn)),?_⟩
  rintro e w' ⟨A1,c2,A3,c4,rfl,hmo0,hmo1,hm⟩
  exact⟨_,rfl,hm,⟨A1,c2,A3,c4,rfl,hmo0,hmo1⟩⟩)) ?_
 exact .Y<| .off .nil
 refine aftI cn dq ax fun dr eh a5 cz cA cB aC=>?_
 have ds:=aC.f1 co
 obtain⟨aq,ag,ar,ah,a6,cC,cD⟩:=aC.G 1 8
 have a6:dr.eval (.tmp 8)=vv (cleanV v) aq ag ar ah:=a6
 obtain⟨a7,a8,a9,aD⟩:=aC.G 2 4
 have cE:=a4.new_ cB
 have hne40:aw ≠ a7:=by have h1:=a4.lt; have h2:=a9; omega
 have dP:=Nat.le_trans ax.size a9
 refine sS8 a8 a6 aD fun dt ba aE cF=>?_
 have cH:=cC.fr aD aE
 have cI:=cD.fr aD aE
 have cJ:=cF hne40 cE
 have cK:=cA.tR aE
 refine cy _ _ <| wk fun ej cL=>?_
 refine wk fun ek cM=>?_
 refine wA tr3 [] 25 [ve (pv a7),ve (iv ((cleanV v).k)),ve (.bool (decide (((cleanV v).k)=4)))] a5 ?_ ?_
 exact .F a8<| .J 0 isAgg3 ba<| .b 1 (r_eql rfl) .nil
 refine aftI a5 cz cK fun el du ay bb aF az aG=>?_
 have⟨cp,cq⟩:=aG.f2 ds a8
 have cr:=aG.g 2 11
 have⟨aH,bd,be,bf⟩:=nw4 az cJ ba cH cI
 refine cM _ _ ?_
 rcases bc (decide (((cleanV v).k)=4)) with aa|aa
 have bF:=oT aa
 have cN:=hB cr aa
 refine wt cN<| wk fun em cO=>?_
 refine wp_g0 [true,true,false,false] [(2,false),(3,true)] 25
  [ve (vv (cleanV v) aq ag ar ah),
  (VP (cleanV v)),vt,vt] ay (.eq (.cons (fun _ _ _ n ⟨_,_,_,_,e,h,i⟩=>⟨_,_,_,_,e,h.new_ n,i.new_ n⟩) (.tt (.tt .nil)))) ?_ ?_
 refine .L8 cq bd ?_
 refine .o1 (tkC rfl (noG rfl) rfl fun _ w hn k=>(by
  refine ⟨#[vv (cleanV v) aq ag ar ah],_,args1 (k.eq1 0 12 rfl),fun w=>by kernel_rfl,qcopied_c (cleanV v) _ _ _ _ _ (be.new_ hn) (bf.new_ hn) (Nat.le_trans hvv.clean.mlen (by decide)) (Nat.le_trans hvv.clean.slen (by decide)),?_⟩
  rintro e w' ⟨dA,dB,dC,dD,rfl,hmo0,hmo1,hm⟩
  exact⟨_,rfl,hm,⟨dA,dB,dC,dD,rfl,hmo0,hmo1⟩⟩)) ?_
 exact .off<| .off .nil
 refine aftI ay bb aF fun bg en bh cP cQ cR bi=>?_
 have ct:=bi.f1 cp
 obtain⟨au,ai,av,aj,aL,cS,cT⟩:=bi.G 1 13
 have aL:bg.eval (.tmp 13)=vv (cleanV v) au ai av aj:=aL
 have aI:=aH.new_ cR
 refine sS8 ct aL aI fun dE cU aJ dQ=>?_
 have cW:=cS.fr aI aJ
 have cX:=cT.fr aI aJ
 have cY:=cQ.tR aJ
 refine sP (v:=iv 0) rfl bh cP fun dF dG bI ae c0=>?_
 have⟨cZ,dR⟩:=ae.q2 ct aL
 refine cO _ _<| wp_ret (ret_k bI (v:=.tuple #[vv (cleanV v) au ai av aj,iv 0]) (res_ct rfl cZ c0 (l_agg isAgg46 sizeOf46 cU rfl)) ?_)
 have ak:(numericR v).1.mag=(cleanV v).mag:=by first|rfl|(simp only [numericR,Vl.z,aa,bsm] <;> rfl)|(exfalso; omega)
 have al:(numericR v).1.s=(cleanV v).s:=by first|rfl|(simp only [numericR,Vl.z,aa,bsm] <;> rfl)|(exfalso; omega)
 exact⟨au,ai,av,aj,(by show Ending.returned (.tuple #[vv (cleanV v) au ai av aj,iv 0])=Ending.returned (.tuple #[vv (numericR v).1 au ai av aj,iv ((numericR v).2)]); (first|rfl|(simp only [numericR,Vl.z,aa,ak,al,bsm] <;> rfl)|(exfalso; omega))),(by rw [ak]; exact cW),(by rw [al]; exact cX),cY⟩
 have bF:=oF aa
 have bJ:=hB cr aa
 refine wf bJ<| ws<| cL _ _<| wk fun dS bK=>?_
 refine wB [true,true,true,true,true,true,false,false] [4] [(6,false),(7,true)] 25 [ve (vv (cleanV v) aq ag ar ah),ve (.tuple #[nv ((numberV (cleanV v)).1),iv ((numberV (cleanV v)).2)]),ve (.tuple #[nv ((numberV (cleanV v)).1),iv ((numberV (cleanV v)).2)]),ve (nv ((numberV (cleanV v)).1)),ve (iv ((numberV (cleanV v)).2)),IsNew du 23 [iv 0,iv 0],vt,vt] [5] ay ?_ ?_ ?_
 refine .L8 cq bd<| .C 0 (fun p=>qnumber_c (cleanV v) _ _ _ _ _ (be.new_ p) (bf.new_ p) hvv.clean)<| .N 1<| .E 2 ?_
 refine .o3 ?_
 exact .Y<| .off<| .off .nil
 refine eg1 ?_
 exact eager_take rfl rfl fun _ w hn k=>⟨iv ((numberV (cleanV v)).2),fun w=>v_extract rfl (k.eq1 2 14 rfl) rfl,rfl⟩
 refine aftI ay bb aF fun bj dT aM bL bM bN am=>?_
 have c1:=am.f1 cp
 have bk:=am.g 3 17
 have bl:=am.g 4 18
 obtain⟨c3,bm,aN,bO⟩:=am.G 5 5
 have bP:=aH.new_ bN
 have hne122:aw ≠ c3:=by have h1:=aH.lt; have h2:=aN; omega
 have dH:=Nat.le_trans aF.size aN
 refine sS2 bm bk bO fun dU aO bQ bR=>?_
 have aP:=bR hne122 bP
 have aQ:=bM.tR bQ
 refine sP bl aM bL fun c5 an aR ac aA=>?_
 have⟨bo,dW,dX⟩:=ac.q3 c1 bk bl
 have bp:=ac.q bm
 refine bK _ _ <| wk fun dY bT=>?_
 refine wk fun dZ aS=>?_
 rcases bc (decide (((numberV (cleanV v)).2)=0)) with ab|ab
 have bq:=oT ab
 refine wA tr2 [] 25 [ve (iv ((numberV (cleanV v)).2)),vF] an ?_ ?_
 exact .M aA<| .b 0 (r_neq ab) .nil
 refine aftI an aR aQ fun d0 d1 aT bU bV aU ao=>?_
 have⟨c9,da,d2⟩:=ao.f3 bo bp aA
 have db:=ao.g 1 20
 have⟨bW,bX⟩:=nw2 aU aP aO
 refine aS _ _<| wf db<| ws ?_
 refine bT _ _<| wk fun d3 bY=>?_
 refine wA [true,true,false,false] [(2,false),(3,true)] 25 [ve (nv ((numberV (cleanV v)).1)),ve (vv (Vl.mk 3 ((numberV (cleanV v)).1).k ((numberV (cleanV v)).1).n false [] [] 0) none 0 none 0),vt,vt] aT ?_ ?_
 exact .L2 da bX<| .C 0 (fun p=>qnum_c ((numberV (cleanV v)).1) _)<| .off<| .off .nil
 refine aftI aT bU bV fun br d4 aV bZ b0 b1 aW=>?_
 have bs:=aW.f1 c9
 have bt:=aW.g 1 24
 have b2:=bW.new_ b1
 refine sS8 bs bt b2 fun dc b4 b3 dI=>?_
 have b6:=b0.tR b3
 refine sP (v:=iv 0) rfl aV bZ fun dd dJ b7 af df=>?_
 have⟨de,d6⟩:=af.q2 bs bt
 refine bY _ _<| wp_ret (ret_k b7 (res8 de df b4) ?_)
 exact rV (by first|rfl|(simp only [numericR,Vl.z,aa,ab,bsm] <;> rfl)|(exfalso; omega)) b6
 have bq:=oF ab
 refine wA tr2 [] 25 [ve (iv ((numberV (cleanV v)).2)),vT] an ?_ ?_
 exact .M aA<| .b 0 (r_neq ab) .nil
 refine aftI an aR aQ fun d7 d8 aX b8 b9 aY ap=>?_
 have⟨dg,d9,dh⟩:=ap.f3 bo bp aA
 have di:=ap.g 1 20
 have⟨ca,dK⟩:=nw2 aY aP aO
 refine aS _ _<| wt di<| wk fun ea cb=>?_
 refine wB [true,true,false,false] [1] [(2,false),(3,true)] 25 [ve (vv (Vl.mk 0 0 0 false [] [] 0) none 0 none 0),ve (iv ((numberV (cleanV v)).2)),vt,vt] [] aX ?_ ?_ ?_
 refine .Z ?_
 refine .o3 ?_
 exact .off<| .off .nil
 refine eg1 ?_
 exact eager_take rfl rfl fun _ w hn k=>⟨iv ((numberV (cleanV v)).2),fun w=>v_move rfl (k.fx 6 dh),rfl⟩
 refine aftI aX b8 b9 fun bw eb aZ cc cd ce aB=>?_
 have bx:=aB.f1 dg
 have bz:=aB.g 0 21
 have bA:=aB.g 1 22
 have cf:=ca.new_ ce
 refine sS8 bx bz cf fun dj ci ch dL=>?_
 have cl:=cd.tR ch
 refine sP bA aZ cc fun dk dM cm ad dm=>?_
 have⟨dl,ed,ee⟩:=ad.q3 bx bz bA
 refine cb _ _<| wp_ret (ret_k cm (res8 dl dm ci) ?_)
 exact rV (by first|rfl|(simp only [numericR,Vl.z,aa,ab,bsm] <;> rfl)|(exfalso; omega)) cl
def qnumeric_c_P (v:Vl) (Av:Option Addr) (cv:Nat) (Bv:Option Addr) (dv:Nat) (w:World) (en:Ending) (w':World):Prop:=∃ (Ar0:Option Addr) (cr0:Nat) (Ar1:Option Addr) (cr1:Nat),en=.returned (.tuple #[vv (numericV v).1 Ar0 cr0 Ar1 cr1,iv ((numericV v).2)])∧SRow w' .u32 Ar0 ((numericV v).1.mag) cr0∧SRow w' .u16 Ar1 ((numericV v).1.s) cr1∧New w w'
theorem qnumeric_c (v:Vl) (Av:Option Addr) (cv:Nat) (Bv:Option Addr) (dv:Nat) (w:World) (hmv:SRow w .u32 Av v.mag cv) (hsv:SRow w .u16 Bv v.s dv) (hvv:VOk v):Calls Tryz.prog 58 #[vv v Av cv Bv dv] w (qnumeric_c_P v Av cv Bv dv w):=by
  have h:=qnumeric_c0 v Av cv Bv dv w hmv hsv hvv
  unfold qnumeric_c0_P at h
  rw [numericR_eq] at h
  exact h

theorem rof_c (n:Int) (w:World):Calls prog 176 #[iv n] w (IsRet (.tuple #[nv ((ofM n).1),.bool ((ofM n).2)]) w):=by
 refine enter_abs func176 rfl fun a0 am bG hp=>?_
 have am:a0.tmps.size=13:=am
 have aT:New w w:=Upd.refl _ _
 have hp0:a0.eval (.tmp 0)=iv n:=hp 0 _ rfl
 refine wk fun K1 bH=>?_
 refine wB tr2 [] [] 13 [IsNew w 23 [iv 0,iv 0],vF] [0] am ?_ heN ?_
 exact .Y<| .c .nil
 refine aftI am bG aT fun a2 w3 af ap ag b5 aU=>?_
 have h8:=aU.f1 hp0
 obtain⟨b6,h9,a3,ah⟩:=aU.G 0 2
 have bV:=Nat.le_trans aT.size a3
 refine bH _ _ <| wk fun b7 a4=>?_
 refine wk fun b8 ai=>?_
 rcases bc (decide (n < -9007199254740991)) with aa|aa
 have aD:=oT aa
 refine wA tr6 [] 13 [ve (iv n),vT,vT,vU,vU,vT] af ?_ ?_
 exact .M h8<| .b 0 (r_lssK aa)<| .N 1<| .S<| .S<| .T (fun k=>v_pickT rfl (k.eq1 2 6 rfl) rfl) .nil
 refine aftI af ap ag fun b9 ca aq a5 a6 a7 aj=>?_
 have⟨cb,bI⟩:=aj.f2 h8 h9
 have bJ:=aj.g 5 9
 have a8:=ah.new_ a7
 refine ai _ _<| wt bJ<| wk fun cc a9=>?_
 refine wA [true,false,false] [(1,false),(2,true)] 13 [ve (nv (Nm.mk 2 0)),vt,vt] aq ?_ ?_
 exact .o1 (ck rfl rfl rfl (fun _ w hn k=>⟨#[],rfl,fun _=>by kernel_rfl,rNaN_c  _ ⟩) fun _=>rfl)<| .off<| .off .nil
 refine aftI aq a5 a6 fun aV cd ar ba bb bd au=>?_
 have aW:=au.f1 bI
 have aX:=au.g 0 10
 have be:=a8.new_ bd
 refine sS2 aW aX be fun ce bf bg bW=>?_
 have bi:=bb.tR bg
 refine sP (v:=.bool false) rfl ar ba fun bK bX bj ad bM=>?_
 have⟨bL,ch⟩:=ad.q2 aW aX
 refine a9 _ _<| wp_ret (ret_k bj (v:=.tuple #[nv (Nm.mk 2 0),.bool false]) (res_ct rfl bL bM (l_two isAgg23 sizeOf23 bf)) ?_)
 refine ⟨?_,bi⟩
 show Ending.returned (.tuple #[nv (Nm.mk 2 0),.bool false])=Ending.returned (.tuple #[nv ((ofM n).1),.bool ((ofM n).2)])
 first|rfl|(simp only [ofM,aa,bsm] <;> rfl)|(exfalso; omega)
 have aD:=oF aa
 rcases bc (decide (n≤9007199254740991)) with ac|ac
 have aF:=oT ac
 refine wA tr6 [] 13 [ve (iv n),vF,vF,ve (iv n),vF,vF] af ?_ ?_
 exact .M h8<| .b 0 (r_lssK aa)<| .N 1<| .gm (fun k=>k.eq1 2 6 rfl) (fun k=>k.fx 0 h8)<| .V (fun p k=>v_bin rfl (k.eq1 3 7 rfl) rfl (fun _=>rfl) (r_gtrK ac))<| .T (fun k=>v_pickF rfl (k.eq1 2 6 rfl) (k.eq1 4 8 rfl)) .nil
 refine aftI af ap ag fun ci cj av bk bl bm ak=>?_
 have⟨bN,bO⟩:=ak.f2 h8 h9
 have bP:=ak.g 5 9
 have bn:=ah.new_ bm
 refine ai _ _<| wf bP<| ws ?_
 refine a4 _ _<| wk fun cl bo=>?_
 refine wA [true,true,false,false] [(2,false),(3,true)] 13 [ve (iv n),ve (nv (Nm.mk 0 n)),vt,vt] av ?_ ?_
 exact .M bN<| .T (fun k=>v_build (ps:=[(1,iv n)]) rfl (parts1 (k.eq1 0 11 rfl)) (by kernel_rfl))<| .off<| .off .nil
 refine aftI av bk bl fun aY cm aw bp bq br ax=>?_
 have aZ:=ax.f1 bO
 have a1:=ax.g 1 12
 have bs:=bn.new_ br
 refine sS2 aZ a1 bs fun cn bt bu bY=>?_
 have bw:=bq.tR bu
 refine sP (v:=.bool true) rfl aw bp fun bQ bZ bx ae bS=>?_
 have⟨bR,cp⟩:=ae.q2 aZ a1
 refine bo _ _<| wp_ret (ret_k bx (v:=.tuple #[nv (Nm.mk 0 n),.bool true]) (res_ct rfl bR bS (l_two isAgg23 sizeOf23 bt)) ?_)
 refine ⟨?_,bw⟩
 show Ending.returned (.tuple #[nv (Nm.mk 0 n),.bool true])=Ending.returned (.tuple #[nv ((ofM n).1),.bool ((ofM n).2)])
 first|rfl|(simp only [ofM,aa,ac,bsm] <;> rfl)|(exfalso; omega)
 have aF:=oF ac
 refine wA tr6 [] 13 [ve (iv n),vF,vF,ve (iv n),vT,vT] af ?_ ?_
 exact .M h8<| .b 0 (r_lssK aa)<| .N 1<| .gm (fun k=>k.eq1 2 6 rfl) (fun k=>k.fx 0 h8)<| .V (fun p k=>v_bin rfl (k.eq1 3 7 rfl) rfl (fun _=>rfl) (r_gtrK ac))<| .T (fun k=>v_pickF rfl (k.eq1 2 6 rfl) (k.eq1 4 8 rfl)) .nil
 refine aftI af ap ag fun cq cr ay bz aH bA al=>?_
 have⟨ct,bB⟩:=al.f2 h8 h9
 have bC:=al.g 5 9
 have aI:=ah.new_ bA
 refine ai _ _<| wt bC<| wk fun b0 aJ=>?_
 refine wA [true,false,false] [(1,false),(2,true)] 13 [ve (nv (Nm.mk 2 0)),vt,vt] ay ?_ ?_
 exact .o1 (ck rfl rfl rfl (fun _ w hn k=>⟨#[],rfl,fun _=>by kernel_rfl,rNaN_c  _ ⟩) fun _=>rfl)<| .off<| .off .nil
 refine aftI ay bz aH fun az b1 an aK aL aM ao=>?_
 have aA:=ao.f1 bB
 have aB:=ao.g 0 10
 have aN:=aI.new_ aM
 refine sS2 aA aB aN fun b2 aO aP bT=>?_
 have aR:=aL.tR aP
 refine sP (v:=.bool false) rfl an aK fun bD bU aS ab bF=>?_
 have⟨bE,b4⟩:=ab.q2 aA aB
 refine aJ _ _<| wp_ret (ret_k aS (v:=.tuple #[nv (Nm.mk 2 0),.bool false]) (res_ct rfl bE bF (l_two isAgg23 sizeOf23 aO)) ?_)
 refine ⟨?_,aR⟩
 show Ending.returned (.tuple #[nv (Nm.mk 2 0),.bool false])=Ending.returned (.tuple #[nv ((ofM n).1),.bool ((ofM n).2)])
 first|rfl|(simp only [ofM,aa,ac,bsm] <;> rfl)|(exfalso; omega)
theorem radd_c (a:Nm) (b:Nm) (w:World):Calls prog 130 #[nv a,nv b] w (IsRet (.tuple #[nv ((addM a b).1),.bool ((addM a b).2)]) w):=by
 refine enter_abs func130 rfl fun a0 aR dT hp=>?_
 have aR:a0.tmps.size=61:=aR
 have aS:New w w:=Upd.refl _ _
 have hp0:a0.eval (.tmp 0)=nv a:=hp 0 _ rfl
 have hp1:a0.eval (.tmp 1)=nv b:=hp 1 _ rfl
 refine wk fun K1 dU=>?_
 refine wB tr4 [] [] 61 [IsNew w 23 [iv a.k,iv a.n],IsNew w 23 [iv b.k,iv b.n],IsNew w 23 [iv 0,iv 0],vF] [0,1,2] aR ?_ heN ?_
 exact .X hp0<| .X hp1<| .Y<| .c .nil
 refine aftI aR dT aS fun a2 w3 cY dV aN eS aK=>?_
 obtain⟨q9,h8,c6,c8⟩:=aK.G 0 2
 obtain⟨dW,cZ,c9,da⟩:=aK.G 1 3
 obtain⟨aT,bj,db,aO⟩:=aK.G 2 4
 have hne20:=aK.ne 0 2 2 4 h8 bj
 have hne21:=aK.ne 1 2 3 4 cZ bj
 have ef:=Nat.le_trans aS.size c6
 have eg:=Nat.le_trans aS.size c9
 have eh:=Nat.le_trans aS.size db
 refine dU _ _ <| wk fun eT dc=>?_
 refine wB [true,true,true,true,true,true,false,false] [] [(6,false),(7,false)] 61 [ve (nv a),ve (nv (asM a)),ve (nv b),ve (nv (asM b)),IsNew w3 23 [iv 0,iv 0],IsNew w3 23 [iv 0,iv 0],vt,vt] [4,5] cY ?_ heN ?_
 exact .L2 h8 c8<| .C 0 (fun p=>rgood_c a _)<| .L2 cZ da<| .C 2 (fun p=>rgood_c b _)<| .Y<| .Y<| .off<| .off .nil
 refine aftI cY dV aN fun eU eV bk dd de df ap=>?_
 have dX:=ap.f1 bj
 have dY:=ap.g 1 9
 have dZ:=ap.g 3 11
 obtain⟨aL,az,bl,dg⟩:=ap.G 4 6
 obtain⟨aM,aA,bm,dh⟩:=ap.G 5 7
 have di:=aO.new_ df
 have hne45:=ap.ne 4 5 6 7 az aA
 have hne46:aT ≠ aL:=by have h1:=aO.lt; have h2:=bl; omega
 have hne47:aT ≠ aM:=by have h1:=aO.lt; have h2:=bm; omega
 have ei:=Nat.le_trans aN.size bl
 have ej:=Nat.le_trans aN.size bm
 have hbd_a:=as_bd a
 have hbd_b:=as_bd b
 refine sS2 az dY dg fun eW dj dk bn=>?_
 have dm:=bn hne46 di
 have dn:=bn hne45.symm dh
 have dp:=de.tR dk
 refine sS2 aA dZ dn fun eY aB dq bo=>?_
 have ds:=bo hne47 dm
 have aC:=bo hne45 dj
 have dt:=dp.tR dq
 refine dc _ _ <| wk fun e0 du=>?_
 refine wb<| wk fun e1 dv=>?_
 refine wA tr22 [] 61 [ve (nv (asM a)),ve (.bool (decide ((asM a).k=2))),ve (.bool (decide ((asM a).k=2))),ve (gq (!(decide ((asM a).k=2))) (nv (asM b))),ve (gq (!(decide ((asM a).k=2))) (.bool (decide ((asM b).k=2)))),ve (.bool ((decide ((asM a).k=2)) || (decide ((asM b).k=2)))),ve (.bool ((decide ((asM a).k=2)) || (decide ((asM b).k=2)))),ve (gq (!((decide ((asM a).k=2)) || (decide ((asM b).k=2)))) (nv (asM a))),ve (gq (!((decide ((asM a).k=2)) || (decide ((asM b).k=2)))) (.bool (infB (asM a).k))),ve (gq (!((decide ((asM a).k=2)) || (decide ((asM b).k=2)))) (.bool (infB (asM a).k))),ve (gq ((!((decide ((asM a).k=2)) || (decide ((asM b).k=2)))) && (infB (asM a).k)) (nv (asM b))),ve (gq ((!((decide ((asM a).k=2)) || (decide ((asM b).k=2)))) && (infB (asM a).k)) (.bool (infB (asM b).k))),ve (gq (!((decide ((asM a).k=2)) || (decide ((asM b).k=2)))) (.bool ((infB (asM a).k) && (infB (asM b).k)))),ve (gq (!((decide ((asM a).k=2)) || (decide ((asM b).k=2)))) (.bool ((infB (asM a).k) && (infB (asM b).k)))),ve (gq ((!((decide ((asM a).k=2)) || (decide ((asM b).k=2)))) && ((infB (asM a).k) && (infB (asM b).k))) (pv aL)),ve (gq ((!((decide ((asM a).k=2)) || (decide ((asM b).k=2)))) && ((infB (asM a).k) && (infB (asM b).k))) (iv ((asM a).k))),ve (gq ((!((decide ((asM a).k=2)) || (decide ((asM b).k=2)))) && ((infB (asM a).k) && (infB (asM b).k))) (pv aM)),ve (gq ((!((decide ((asM a).k=2)) || (decide ((asM b).k=2)))) && ((infB (asM a).k) && (infB (asM b).k))) (iv ((asM b).k))),ve (gq ((!((decide ((asM a).k=2)) || (decide ((asM b).k=2)))) && ((infB (asM a).k) && (infB (asM b).k))) (.bool (!decide (((asM a).k)=((asM b).k))))),ve (gq (!((decide ((asM a).k=2)) || (decide ((asM b).k=2)))) (.bool (((infB (asM a).k) && (infB (asM b).k)) && (!decide (((asM a).k)=((asM b).k)))))),ve (.bool (((decide ((asM a).k=2)) || (decide ((asM b).k=2))) || (((infB (asM a).k) && (infB (asM b).k)) && (!decide (((asM a).k)=((asM b).k)))))),ve (.bool (((decide ((asM a).k=2)) || (decide ((asM b).k=2))) || (((infB (asM a).k) && (infB (asM b).k)) && (!decide (((asM a).k)=((asM b).k))))))] bk ?_ ?_
 exact .L2 az aC<| .C 0 (fun p=>rnan_c (asM a) _)<| .N 1<| .Q (fun k=>g0' (k.eq1 2 15 rfl)) (fun hG p k=>v_load rfl (k.fx 7 aA) (l_two isAgg23 sizeOf23 (aB.new_ p)))<| .o1 (scC (G:=(!(decide ((asM a).k=2)))) rfl rfl rfl (fun _ _ k=>g0' (k.eq1 2 15 rfl)) rfl (fun hG _ w hn k=>⟨#[nv (asM b)],args1 (cT hG (k.eq1 3 16 rfl)),fun _=>by kernel_rfl,rnan_c (asM b) _ ⟩))<| .W 2 4<| .N 5<| .Q (fun k=>g0' (k.eq1 6 19 rfl)) (fun hG p k=>v_load rfl (k.fx 6 az) (l_two isAgg23 sizeOf23 (aC.new_ p)))<| .o1 (scC (G:=(!((decide ((asM a).k=2)) || (decide ((asM b).k=2))))) rfl rfl rfl (fun _ _ k=>g0' (k.eq1 6 19 rfl)) rfl (fun hG _ w hn k=>⟨#[nv (asM a)],args1 (cT hG (k.eq1 7 20 rfl)),fun _=>by kernel_rfl,rinf_c (asM a) _ ⟩))<| .Q (fun k=>g0' (k.eq1 6 19 rfl)) (fun hG p k=>v_move rfl (cT hG (k.eq1 8 21 rfl)))<| .Q (fun k=>g1 (k.eq1 9 22 rfl)) (fun hG p k=>v_load rfl (k.fx 7 aA) (l_two isAgg23 sizeOf23 (aB.new_ p)))<| .o1 (scC (G:=((!((decide ((asM a).k=2)) || (decide ((asM b).k=2)))) && (infB (asM a).k))) rfl rfl rfl (fun _ _ k=>g1 (k.eq1 9 22 rfl)) rfl (fun hG _ w hn k=>⟨#[nv (asM b)],args1 (cT hG (k.eq1 10 23 rfl)),fun _=>by kernel_rfl,rinf_c (asM b) _ ⟩))<| .Q (fun k=>g0' (k.eq1 6 19 rfl)) (fun hG p k=>v_and rfl (cT hG (k.eq1 9 22 rfl)) (fun hg=>(cT (aj hG hg) (k.eq1 11 24 rfl))) rfl)<| .Q (fun k=>g0' (k.eq1 6 19 rfl)) (fun hG p k=>v_move rfl (cT hG (k.eq1 12 25 rfl)))<| .Q (fun k=>g1 (k.eq1 13 26 rfl)) (fun hG p k=>v_field rfl (k.fx 6 az) (fun w=>rfl))<| .Q (fun k=>g1 (k.eq1 13 26 rfl)) (fun hG p k=>v_load rfl (cT hG (k.eq1 14 27 rfl)) (l_one isAgg3 ((aC.new_ p).cell 0)))<| .Q (fun k=>g1 (k.eq1 13 26 rfl)) (fun hG p k=>v_field rfl (k.fx 7 aA) (fun w=>rfl))<| .Q (fun k=>g1 (k.eq1 13 26 rfl)) (fun hG p k=>v_load rfl (cT hG (k.eq1 16 29 rfl)) (l_one isAgg3 ((aB.new_ p).cell 0)))<| .Q (fun k=>g1 (k.eq1 13 26 rfl)) (fun hG p k=>v_bin rfl (cT hG (k.eq1 15 28 rfl)) (cT hG (k.eq1 17 30 rfl)) (fun _=>rfl) (r_neq rfl))<| .Q (fun k=>g0' (k.eq1 6 19 rfl)) (fun hG p k=>v_and rfl (cT hG (k.eq1 13 26 rfl)) (fun hg=>(cT (aj hG hg) (k.eq1 18 31 rfl))) rfl)<| .W 6 19<| .B 20 .nil
 refine aftI bk dd dt fun e2 e3 aD bp bq aP aE=>?_
 have⟨c0,c1,d0⟩:=aE.f3 dX az aA
 have c2:=aE.g 21 12
 have⟨br,bs,dw⟩:=nw3 aP ds aC aB
 refine dv _ _ ?_
 rcases bc ((((decide ((asM a).k=2)) || (decide ((asM b).k=2))) || (((infB (asM a).k) && (infB (asM b).k)) && (!decide (((asM a).k)=((asM b).k)))))) with aa|aa
 have dx:=hB c2 aa
 refine wt dx<| wk fun e4 dy=>?_
 refine wA [true,false,false] [(1,false),(2,true)] 61 [ve (nv (Nm.mk 2 0)),vt,vt] aD ?_ ?_
 exact .o1 (ck rfl rfl rfl (fun _ w hn k=>⟨#[],rfl,fun _=>by kernel_rfl,rNaN_c  _ ⟩) fun _=>rfl)<| .off<| .off .nil
 refine aftI aD bp bq fun c3 e5 bt dz dA dB bu=>?_
 have c4:=bu.f1 c0
 have c5:=bu.g 0 34
 have dC:=br.new_ dB
 refine sS2 c4 c5 dC fun ek b0 b1 d5=>?_
 have b3:=dA.tR b1
 refine sP (v:=.bool true) rfl bt dz fun dD d6 b4 ag dF=>?_
 have⟨dE,em⟩:=ag.q2 c4 c5
 refine dy _ _<| wp_ret (ret_k b4 (v:=.tuple #[nv (Nm.mk 2 0),.bool true]) (res_ct rfl dE dF (l_two isAgg23 sizeOf23 b0)) ?_)
 refine ⟨?_,b3⟩
 show Ending.returned (.tuple #[nv (Nm.mk 2 0),.bool true])=Ending.returned (.tuple #[nv ((addM a b).1),.bool ((addM a b).2)])
 first|rfl|(simp only [addM,addA,aa,bsm] <;> first|rfl|(simp only [addM,addA,aa,bsm] <;> rfl))|(exfalso; omega)
 have b5:=hB c2 aa
 have ab:((decide ((asM a).k=2)) || (decide ((asM b).k=2)))=false:=ol aa
 have an:(decide ((asM a).k=2))=false:=ol ab
 have d1:=oF an
 have ao:(decide ((asM b).k=2))=false:=or_ ab
 have d2:=oF ao
 have ad:(((infB (asM a).k) && (infB (asM b).k)) && (!decide (((asM a).k)=((asM b).k))))=false:=or_ aa
 refine wf b5<| wk fun en b6=>?_
 refine wA tr3 [] 61 [ve (nv (asM a)),ve (.bool (infB (asM a).k)),ve (.bool (infB (asM a).k))] aD ?_ ?_
 exact .L2 c1 bs<| .C 0 (fun p=>rinf_c (asM a) _)<| .B 1 .nil
 refine aftI aD bp bq fun eo ep aq aU aV aF au=>?_
 have⟨bw,bx,bz⟩:=au.f3 c0 c1 d0
 have bA:=au.g 2 35
 have⟨aW,aX,aY⟩:=nw3 aF br bs dw
 refine b6 _ _ ?_
 rcases bc (infB (asM a).k) with ae|ae
 have b7:=hB bA ae
 refine wt b7<| wk fun er b8=>?_
 refine wA [true,false,false] [(1,false),(2,true)] 61 [ve (nv (asM a)),vt,vt] aq ?_ ?_
 exact .L2 bx aX<| .off<| .off .nil
 refine aftI aq aU aV fun bB es aZ b9 ca cb a1=>?_
 have bC:=a1.f1 bw
 have bD:=a1.g 0 38
 have cc:=aW.new_ cb
 refine sS2 bC bD cc fun et cd ce d7=>?_
 have ch:=ca.tR ce
 refine sP (v:=.bool true) rfl aZ b9 fun dG d8 ci ah dI=>?_
 have⟨dH,ev⟩:=ah.q2 bC bD
 refine b8 _ _<| wp_ret (ret_k ci (v:=.tuple #[nv (asM a),.bool true]) (res_ct rfl dH dI (l_two isAgg23 sizeOf23 cd)) ?_)
 refine ⟨?_,ch⟩
 show Ending.returned (.tuple #[nv (asM a),.bool true])=Ending.returned (.tuple #[nv ((addM a b).1),.bool ((addM a b).2)])
 first|rfl|(simp only [addM,addA,aa,ab,ad,bsm] <;> first|rfl|(simp only [addM,addA,aa,ab,an,ao,ad,ae,bsm] <;> rfl))|(exfalso; omega)
 have cj:=hB bA ae
 refine wf cj<| wk fun ew cl=>?_
 refine wA tr3 [] 61 [ve (nv (asM b)),ve (.bool (infB (asM b).k)),ve (.bool (infB (asM b).k))] aq ?_ ?_
 exact .L2 bz aY<| .C 0 (fun p=>rinf_c (asM b) _)<| .B 1 .nil
 refine aftI aq aU aV fun ex ey av a3 a4 aG aw=>?_
 have⟨bF,bG,aQ⟩:=aw.f3 bw bx bz
 have bH:=aw.g 2 39
 have⟨a5,a6,aH⟩:=nw3 aG aW aX aY
 refine cl _ _ ?_
 rcases bc (infB (asM b).k) with ai|ai
 have cm:=hB bH ai
 refine wt cm<| wk fun ez cn=>?_
 refine wA [true,false,false] [(1,false),(2,true)] 61 [ve (nv (asM b)),vt,vt] av ?_ ?_
 exact .L2 aQ aH<| .off<| .off .nil
 refine aftI av a3 a4 fun bI eA a7 co cp cq a8=>?_
 have bJ:=a8.f1 bF
 have bK:=a8.g 0 42
 have cr:=a5.new_ cq
 refine sS2 bJ bK cr fun eB ct cu d9=>?_
 have cw:=cp.tR cu
 refine sP (v:=.bool true) rfl a7 co fun dJ ea cx ak dL=>?_
 have⟨dK,eD⟩:=ak.q2 bJ bK
 refine cn _ _<| wp_ret (ret_k cx (v:=.tuple #[nv (asM b),.bool true]) (res_ct rfl dK dL (l_two isAgg23 sizeOf23 ct)) ?_)
 refine ⟨?_,cw⟩
 show Ending.returned (.tuple #[nv (asM b),.bool true])=Ending.returned (.tuple #[nv ((addM a b).1),.bool ((addM a b).2)])
 first|rfl|(simp only [addM,addA,aa,ab,ad,bsm] <;> first|rfl|(simp only [addM,addA,aa,ab,an,ao,ad,ae,ai,bsm] <;> rfl))|(exfalso; omega)
 have cy:=hB bH ai
 refine wf cy<| wk fun eE cz=>?_
 refine wA tr9 [] 61 [ve (pv aL),ve (iv ((asM a).k)),ve (.bool (decide (((asM a).k)=1))),ve (.bool (decide (((asM a).k)=1))),ve (gq (decide (((asM a).k)=1)) (pv aM)),ve (gq (decide (((asM a).k)=1)) (iv ((asM b).k))),ve (gq (decide (((asM a).k)=1)) (.bool (decide (((asM b).k)=1)))),ve (.bool ((decide (((asM a).k)=1)) && (decide (((asM b).k)=1)))),ve (.bool ((decide (((asM a).k)=1)) && (decide (((asM b).k)=1))))] av ?_ ?_
 exact .F bG<| .J 0 isAgg3 a6<| .b 1 (r_eql rfl)<| .N 2<| .Q (fun k=>g0 (k.eq1 3 47 rfl)) (fun hG p k=>v_field rfl (k.fx 7 aQ) (fun w=>rfl))<| .Q (fun k=>g0 (k.eq1 3 47 rfl)) (fun hG p k=>v_load rfl (cT hG (k.eq1 4 48 rfl)) (l_one isAgg3 ((aH.new_ p).cell 0)))<| .Q (fun k=>g0 (k.eq1 3 47 rfl)) (fun hG p k=>v_bin rfl (cT hG (k.eq1 5 49 rfl)) rfl (fun _=>rfl) (r_eql rfl))<| .O 3 6<| .B 7 .nil
 refine aftI av a3 a4 fun eF eG ax a9 ba aI ay=>?_
 have⟨bM,bN,dM⟩:=ay.f3 bF bG aQ
 have bO:=ay.g 8 43
 have⟨bb,bd,cA⟩:=nw3 aI a5 a6 aH
 refine cz _ _ ?_
 rcases bc (((decide (((asM a).k)=1)) && (decide (((asM b).k)=1)))) with ac|ac
 have cB:=hB bO ac
 have be:(decide (((asM a).k)=1))=true:=al ac
 have d3:=oT be
 have bf:(decide (((asM b).k)=1))=true:=ar ac
 have d4:=oT bf
 refine wt cB<| wk fun eH cC=>?_
 refine wA [true,false,false] [(1,false),(2,true)] 61 [ve (nv (asM a)),vt,vt] ax ?_ ?_
 exact .L2 bN bd<| .off<| .off .nil
 refine aftI ax a9 ba fun bP eI bg cD cE cF bh=>?_
 have bQ:=bh.f1 bM
 have bR:=bh.g 0 52
 have cG:=bb.new_ cF
 refine sS2 bQ bR cG fun eJ cH cI eb=>?_
 have cK:=cE.tR cI
 refine sP (v:=.bool true) rfl bg cD fun dN ec cL am dP=>?_
 have⟨dO,eL⟩:=am.q2 bQ bR
 refine cC _ _<| wp_ret (ret_k cL (v:=.tuple #[nv (asM a),.bool true]) (res_ct rfl dO dP (l_two isAgg23 sizeOf23 cH)) ?_)
 refine ⟨?_,cK⟩
 show Ending.returned (.tuple #[nv (asM a),.bool true])=Ending.returned (.tuple #[nv ((addM a b).1),.bool ((addM a b).2)])
 first|rfl|(simp only [addM,addA,aa,ab,ad,ac,bsm] <;> first|rfl|(simp only [addM,addA,aa,ab,an,ao,ad,ae,ai,ac,be,bf,bsm] <;> rfl))|(exfalso; omega)
 have cM:=hB bO ac
 refine wf cM<| ws<| du _ _<| wk fun eM cN=>?_
 refine wA [true,true,true,true,true,true,true,true,false,false] [(8,false),(9,true)] 61 [ve (.pointer (some ⟨aL,1,none⟩)),ve (iv ((asM a).n)),ve (.pointer (some ⟨aM,1,none⟩)),ve (iv ((asM b).n)),ve (iv (((asM a).n) + ((asM b).n))),ve (.tuple #[nv ((ofM (((asM a).n) + ((asM b).n))).1),.bool ((ofM (((asM a).n) + ((asM b).n))).2)]),ve (nv ((ofM (((asM a).n) + ((asM b).n))).1)),ve (.bool ((ofM (((asM a).n) + ((asM b).n))).2)),vt,vt] ax ?_ ?_
 exact .F bN<| .J 0 isAgg3 bd<| .F dM<| .J 2 isAgg3 cA<| .R (fun k=>v_bin rfl (k.eq1 1 54 rfl) (k.eq1 3 56 rfl) (fun _=>rfl) (r_add rfl (by omega))) (fun _=>rfl)<| .C 4 (fun p=>rof_c (((asM a).n) + ((asM b).n)) _)<| .E 5<| .E 5<| .off<| .off .nil
 refine aftI ax a9 ba fun bT eN bi cO cP cQ aJ=>?_
 have bU:=aJ.f1 bM
 have bV:=aJ.g 6 59
 have bW:=aJ.g 7 60
 have cR:=bb.new_ cQ
 refine sS2 bU bV cR fun eO cS cU ed=>?_
 have cW:=cP.tR cU
 refine sP bW bi cO fun dQ ee cX af dS=>?_
 have⟨dR,eQ,eR⟩:=af.q3 bU bV bW
 refine cN _ _<| wp_ret (ret_k cX (v:=.tuple #[nv ((ofM (((asM a).n) + ((asM b).n))).1),.bool ((ofM (((asM a).n) + ((asM b).n))).2)]) (res_ct rfl dR dS (l_two isAgg23 sizeOf23 cS)) ?_)
 refine ⟨?_,cW⟩
 show Ending.returned (.tuple #[nv ((ofM (((asM a).n) + ((asM b).n))).1),.bool ((ofM (((asM a).n) + ((asM b).n))).2)])=Ending.returned (.tuple #[nv ((addM a b).1),.bool ((addM a b).2)])
 first|rfl|(simp only [addM,addA,aa,ab,ad,ac,bsm] <;> first|rfl|(simp only [addM,addA,aa,ab,an,ao,ad,ae,ai,ac,bsm] <;> rfl))|(exfalso; omega)
theorem ru32_c0 (a:Nm) (w:World):Calls prog 108 #[nv a] w (IsRet (iv (rU32 a)) w):=by
 refine enter_abs func108 rfl fun a0 ae aT hp=>?_
 have ae:a0.tmps.size=14:=ae
 have ar:New w w:=Upd.refl _ _
 have hp0:a0.eval (.tmp 0)=nv a:=hp 0 _ rfl
 have htb:=tmod_cast (asM a).n
 refine wk fun K1 aU=>?_
 refine wB tr2 [] [] 14 [IsNew w 23 [iv a.k,iv a.n],ve (iv 0)] [0] ae ?_ heN ?_
 exact .X hp0<| .c .nil
 refine aftI ae aT ar fun a2 w3 au aV af bf aW=>?_
 obtain⟨q9,h8,av,aw⟩:=aW.G 0 1
 have a5:=Nat.le_trans ar.size av
 refine aU _ _ <| wk fun bg ax=>?_
 refine wB [true,true,true,false] [] [(3,false)] 14 [ve (nv a),ve (nv (asM a)),IsNew w3 23 [iv 0,iv 0],vt] [2] au ?_ heN ?_
 exact .L2 h8 aw<| .C 0 (fun m=>rgood_c a _)<| .Y<| .off .nil
 refine aftI au aV af fun bh bi ab ag ay a6 ah=>?_
 have aX:=ah.g 1 5
 obtain⟨ai,ad,az,aA⟩:=ah.G 2 3
 have a7:=Nat.le_trans af.size az
 have hbd_a:=as_bd a
 refine sS2 ad aX aA fun bj ac aB a8=>?_
 have aj:=ay.tR aB
 refine ax _ _ <| wk fun bl aD=>?_
 refine wk fun bm ak=>?_
 rcases bc (decide (((asM a).k)=0)) with aa|aa
 have aq:=oT aa
 refine wA tr3 [] 14 [ve (pv ai),ve (iv ((asM a).k)),vF] ab ?_ ?_
 exact .F ad<| .J 0 isAgg3 ac<| .b 1 (r_neq aa) .nil
 refine aftI ab ag aj fun bn bo al aE aF aG am=>?_
 have aY:=am.f1 ad
 have aZ:=am.g 2 8
 have aH:=ac.new_ aG
 refine ak _ _<| wf aZ<| ws ?_
 refine aD _ _<| wk fun bp aI=>?_
 refine wA tr6 [] 14 [ve (.pointer (some ⟨ai,1,none⟩)),ve (iv ((asM a).n)),ve (iv (((asM a).n).tmod 4294967296)),ve (iv ((((asM a).n).tmod 4294967296) + 4294967296)),ve (iv (((((asM a).n).tmod 4294967296) + 4294967296).tmod 4294967296)),ve (iv (((((asM a).n).tmod 4294967296) + 4294967296).tmod 4294967296))] al ?_ ?_
 exact .F aY<| .J 0 isAgg3 aH<| .R (fun k=>v_bin rfl (k.eq1 1 10 rfl) rfl (fun _=>rfl) (r_remI rfl (by omega))) (fun _=>rfl)<| .R (fun k=>v_bin rfl (k.eq1 2 11 rfl) rfl (fun _=>rfl) (r_add rfl (by omega))) (fun _=>rfl)<| .R (fun k=>v_bin rfl (k.eq1 3 12 rfl) rfl (fun _=>rfl) (r_remI rfl (by omega))) (fun _=>rfl)<| .B 4 .nil
 refine aftI al aE aF fun bq br a9 aJ aK ba aL=>?_
 have a1:=aL.g 5 2
 refine aI _ _<| wp_ret (ret_k aJ (v:=iv (((((asM a).n).tmod 4294967296) + 4294967296).tmod 4294967296)) (res_t rfl a1 _) ?_)
 refine ⟨?_,aK⟩
 show Ending.returned (iv (((((asM a).n).tmod 4294967296) + 4294967296).tmod 4294967296))=Ending.returned (iv (rU32 a))
 first|rfl|(simp only [rU32,aa,bsm] <;> rfl)|(exfalso; omega)
 have aq:=oF aa
 refine wA tr3 [] 14 [ve (pv ai),ve (iv ((asM a).k)),vT] ab ?_ ?_
 exact .F ad<| .J 0 isAgg3 ac<| .b 1 (r_neq aa) .nil
 refine aftI ab ag aj fun bs bt an aM aN aO ao=>?_
 have bu:=ao.f1 ad
 have a3:=ao.g 2 8
 have bb:=ac.new_ aO
 refine ak _ _<| wt a3<| wk fun bv aP=>?_
 refine wA tr1 [] 14 [ve (iv 0)] an ?_ ?_
 exact .c .nil
 refine aftI an aM aN fun bw bx bd aQ aR be aS=>?_
 have a4:=aS.g 0 2
 refine aP _ _<| wp_ret (ret_k aQ (v:=iv 0) (res_t rfl a4 _) ?_)
 refine ⟨?_,aR⟩
 show Ending.returned (iv 0)=Ending.returned (iv (rU32 a))
 first|rfl|(simp only [rU32,aa,bsm] <;> rfl)|(exfalso; omega)
theorem ru32_c (a:Nm) (w:World):Calls Tryz.prog 108 #[nv a] w (IsRet (iv (u32M a)) w):=by
  have h:=ru32_c0 a w 
  rw [rU32_eq] at h
  exact h
theorem ri32_c0 (a:Nm) (w:World):Calls prog 109 #[nv a] w (IsRet (iv (rI32 a)) w):=by
 refine enter_abs func109 rfl fun a0 ac aI hp=>?_
 have ac:a0.tmps.size=11:=ac
 have am:New w w:=Upd.refl _ _
 have hp0:a0.eval (.tmp 0)=nv a:=hp 0 _ rfl
 refine wk fun K1 aJ=>?_
 refine wB tr2 [] [] 11 [IsNew w 23 [iv a.k,iv a.n],ve (iv 0)] [0] ac ?_ heN ?_
 exact .X hp0<| .c .nil
 refine aftI ac aI am fun a2 w3 an aK ao a1 aL=>?_
 obtain⟨q9,h8,ap,aq⟩:=aL.G 0 1
 have aS:=Nat.le_trans am.size ap
 refine aJ _ _ <| wk fun a3 ar=>?_
 refine wA tr3 [] 11 [ve (nv a),ve (iv (u32M a)),ve (iv (u32M a))] an ?_ ?_
 exact .L2 h8 aq<| .C 0 (fun p=>ru32_c a _)<| .B 1 .nil
 refine aftI an aK ao fun a4 a5 ab ae af aT au=>?_
 have ad:=au.g 2 3
 have hu32_a:=u32_le a
 refine ar _ _ <| wk fun a6 av=>?_
 refine wk fun a7 ag=>?_
 rcases bc (decide ((u32M a) < 2147483648)) with aa|aa
 have al:=oT aa
 refine wA tr2 [] 11 [ve (iv (u32M a)),vF] ab ?_ ?_
 exact .M ad<| .b 0 (r_geqK aa) .nil
 refine aftI ab ae af fun a8 a9 ah aw ax aU ai=>?_
 have aM:=ai.f1 ad
 have aN:=ai.g 1 7
 refine ag _ _<| wf aN<| ws ?_
 refine av _ _<| wk fun ba ay=>?_
 refine wA tr2 [] 11 [ve (iv (u32M a)),ve (iv (u32M a))] ah ?_ ?_
 exact .M aM<| .B 0 .nil
 refine aftI ah aw ax fun bb bd aV az aA aW aB=>?_
 have aO:=aB.g 1 2
 refine ay _ _<| wp_ret (ret_k az (v:=iv (u32M a)) (res_t rfl aO _) ?_)
 refine ⟨?_,aA⟩
 show Ending.returned (iv (u32M a))=Ending.returned (iv (rI32 a))
 first|rfl|(simp only [rI32,aa,bsm] <;> rfl)|(exfalso; omega)
 have al:=oF aa
 refine wA tr2 [] 11 [ve (iv (u32M a)),vT] ab ?_ ?_
 exact .M ad<| .b 0 (r_geqK aa) .nil
 refine aftI ab ae af fun be bf aj aC aD aX ak=>?_
 have aP:=ak.f1 ad
 have aQ:=ak.g 1 7
 refine ag _ _<| wt aQ<| wk fun bg aE=>?_
 refine wA tr3 [] 11 [ve (iv (u32M a)),ve (iv ((u32M a) - 4294967296)),ve (iv ((u32M a) - 4294967296))] aj ?_ ?_
 exact .M aP<| .R (fun k=>v_bin rfl (k.eq1 0 8 rfl) rfl (fun _=>rfl) (r_sub rfl (by omega))) (fun _=>rfl)<| .B 1 .nil
 refine aftI aj aC aD fun bh bi aY aF aG aZ aH=>?_
 have aR:=aH.g 2 2
 refine aE _ _<| wp_ret (ret_k aF (v:=iv ((u32M a) - 4294967296)) (res_t rfl aR _) ?_)
 refine ⟨?_,aG⟩
 show Ending.returned (iv ((u32M a) - 4294967296))=Ending.returned (iv (rI32 a))
 first|rfl|(simp only [rI32,aa,bsm] <;> rfl)|(exfalso; omega)
theorem ri32_c (a:Nm) (w:World):Calls Tryz.prog 109 #[nv a] w (IsRet (iv (i32M a)) w):=by
  have h:=ri32_c0 a w 
  rw [rI32_eq] at h
  exact h
theorem rbit_c0  (a:Nm) (b:Nm) (w:World):Calls prog 59 #[iv 3,nv a,nv b] w (IsRet (nv (xorR a b)) w):=by
 refine enter_abs func59 rfl fun a0 ah bO hp=>?_
 have ah:a0.tmps.size=61:=ah
 have ai:New w w:=Upd.refl _ _
 have hp0:a0.eval (.tmp 0)=iv 3:=hp 0 _ rfl
 have hp1:a0.eval (.tmp 1)=nv a:=hp 1 _ rfl
 have hp2:a0.eval (.tmp 2)=nv b:=hp 2 _ rfl
 have hxa:=u32_le a
 have hxb:=u32_le b
 have hxx:=xor_bd a b
 refine wk fun K1 bP=>?_
 refine wB tr3 [] [] 61 [IsNew w 23 [iv a.k,iv a.n],IsNew w 23 [iv b.k,iv b.n],IsNew w 23 [iv 0,iv 0]] [0,1,2] ah ?_ heN ?_
 exact .X hp1<| .X hp2<| .Y .nil
 refine aftI ah bO ai fun a2 w3 a3 bQ a7 cC ag=>?_
 have h8:=ag.f1 hp0
 obtain⟨bR,h9,a8,ao⟩:=ag.G 0 4
 obtain⟨bS,ap,a9,aq⟩:=ag.G 1 5
 obtain⟨a4,ar,ba,bb⟩:=ag.G 2 6
 have hne21:=ag.ne 0 2 4 6 h9 ar
 have hne22:=ag.ne 1 2 5 6 ap ar
 have cl:=Nat.le_trans ai.size a8
 have cm:=Nat.le_trans ai.size a9
 have cn:=Nat.le_trans ai.size ba
 refine bP _ _ <| wk fun cD bd=>?_
 refine wA tr10 [] 61 [ve (nv a),ve (iv (u32M a)),ve (nv b),ve (iv (u32M b)),ve (nv b),ve (iv (u32M b)),ve (iv ((u32M b).tmod 32)),ve (iv (u32M a)),ve (iv (u32M b)),ve (iv ((u32M b).tmod 32))] a3 ?_ ?_
 exact .L2 h9 ao<| .C 0 (fun p=>ru32_c a _)<| .L2 ap aq<| .C 2 (fun p=>ru32_c b _)<| .L2 ap aq<| .C 4 (fun p=>ru32_c b _)<| .R (fun k=>v_bin rfl (k.eq1 5 16 rfl) rfl (fun _=>rfl) (r_remI rfl (by omega))) (fun _=>rfl)<| .B 1<| .B 3<| .B 6 .nil
 refine aftI a3 bQ a7 fun cE cF au be bf av ad=>?_
 have⟨bT,bU,bV⟩:=ad.f3 h8 h9 ar
 have bW:=ad.g 7 7
 have bX:=ad.g 8 8
 have bY:=ad.g 9 9
 have⟨bg,bh⟩:=nw2 av ao bb
 have hu32_a:=u32_le a
 have hu32_b:=u32_le b
 refine bd _ _ <| wk fun cG bi=>?_
 refine wA tr1 [] 61 [ve (iv 0)] au ?_ ?_
 exact .c .nil
 refine aftI au be bf fun cH cI aw bj bk ax ae=>?_
 have⟨bZ,b0,b1,b2⟩:=ae.f4 bT bU bV bW
 have⟨b3,b4⟩:=ae.f2 bX bY
 have⟨bl,bm⟩:=nw2 ax bg bh
 refine bi _ _ <| wk fun cJ bn=>?_
 refine wk fun cK bo=>?_
 refine wA tr1 [] 61 [ve (iv 3)] aw ?_ ?_
 exact .M bZ .nil
 refine aftI aw bj bk fun cL cM ay bp bq az af=>?_
 have⟨b5,b6,b7,b8⟩:=af.f4 b0 b1 b2 b3
 have b9:=af.f1 b4
 have a5:=af.g 0 18
 have⟨br,bs⟩:=nw2 az bl bm
 refine bo _ _<| wb<| wk fun cN bt=>?_
 refine wA tr2 [] 61 [vF,vF] ay ?_ ?_
 exact .T (fun k=>v_bin rfl (k.fx 18 a5) rfl (fun _=>rfl) (fun w=>by kernel_rfl))<| .B 0 .nil
 refine aftI ay bp bq fun cO cP aA bu bv aB ab=>?_
 have⟨ca,cb,cc,cd⟩:=ab.f4 b5 b6 b7 b8
 have⟨ce,a6⟩:=ab.f2 b9 a5
 have cf:=ab.g 1 20
 have⟨bw,bx⟩:=nw2 aB br bs
 refine bt _ _<| wf cf<| wk fun cQ bz=>?_
 refine wA tr2 [] 61 [vF,vF] aA ?_ ?_
 exact .T (fun k=>v_bin rfl (k.fx 18 a6) rfl (fun _=>rfl) (fun w=>by kernel_rfl))<| .B 0 .nil
 refine aftI aA bu bv fun cR cS aC bA aH aD ac=>?_
 have⟨bB,bC,bD,bE⟩:=ac.f4 ca cb cc cd
 have⟨bF,aE⟩:=ac.f2 ce a6
 have bG:=ac.g 1 25
 have⟨aI,aJ⟩:=nw2 aD bw bx
 refine bz _ _<| wf bG<| wk fun co aK=>?_
 refine wA tr2 [] 61 [vT,vT] aC ?_ ?_
 exact .T (fun k=>v_bin rfl (k.fx 18 aE) rfl (fun _=>rfl) (fun w=>by kernel_rfl))<| .B 0 .nil
 refine aftI aC bA aH fun cp cq aj aL aM ak aa=>?_
 have⟨cr,bH,bI,bJ⟩:=aa.f4 bB bC bD bE
 have⟨ct,cu⟩:=aa.f2 bF aE
 have bK:=aa.g 1 30
 have⟨ch,aN⟩:=nw2 ak aI aJ
 refine aK _ _<| wt bK<| wp_g0 [true,true,true,true] [] 61
  [ve (iv (u32M a)),ve (iv (u32M b)),ve (iv (bxorM (u32M a) (u32M b))),ve (iv (bxorM (u32M a) (u32M b)))] aj (.eq (.eq (.eq (.eq .nil)))) ?_ ?_
 exact .M bI<| .M bJ<| .T (fun k=>v_bin rfl (k.eq1 0 32 rfl) (k.eq1 1 33 rfl) (fun _=>rfl) (r_xorI _ _))<| .B 2 .nil
 refine aftI aj aL aM fun cv cw al aO aP aQ am=>?_
 have bL:=am.f1 bH
 have bM:=am.g 3 10
 have aR:=aN.new_ aQ
 refine bn _ _ <| wk fun cx aS=>?_
 refine wA [true,true,true,true,false] [(4,false)] 61 [ve (iv (bxorM (u32M a) (u32M b))),ve (nv (Nm.mk 0 (bxorM (u32M a) (u32M b)))),ve (iv (i32M (Nm.mk 0 (bxorM (u32M a) (u32M b))))),ve (nv (Nm.mk 0 (i32M (Nm.mk 0 (bxorM (u32M a) (u32M b)))))),vt] al ?_ ?_
 exact .M bM<| .T (fun k=>v_build (ps:=[(1,iv (bxorM (u32M a) (u32M b)))]) rfl (parts1 (k.eq1 0 57 rfl)) (by kernel_rfl))<| .C 1 (fun p=>ri32_c (Nm.mk 0 (bxorM (u32M a) (u32M b))) _)<| .T (fun k=>v_build (ps:=[(1,iv (i32M (Nm.mk 0 (bxorM (u32M a) (u32M b)))))]) rfl (parts1 (k.eq1 2 59 rfl)) (by kernel_rfl))<| .off .nil
 refine aftI al aO aP fun cy cz ci aT aU aV an=>?_
 have aF:=an.f1 bL
 have bN:=an.g 3 60
 have aW:=aR.new_ aV
 refine sS2 aF bN aW fun cA aX aY cj=>?_
 have a1:=aU.tR aY
 refine aS _ _<| wp_ret (ret_k aT (v:=nv (Nm.mk 0 (i32M (Nm.mk 0 (bxorM (u32M a) (u32M b)))))) (res_c rfl aF (l_two isAgg23 sizeOf23 aX)) ?_)
 refine ⟨?_,a1⟩
 show Ending.returned (nv (Nm.mk 0 (i32M (Nm.mk 0 (bxorM (u32M a) (u32M b))))))=Ending.returned (nv (xorR a b))
 first|rfl|(simp only [xorR,bsm] <;> rfl)|(exfalso; omega)
theorem rbit_c  (a:Nm) (b:Nm) (w:World):Calls Tryz.prog 59 #[iv 3,nv a,nv b] w (IsRet (nv (bitM 3 a b)) w):=by
  have h:=rbit_c0 a b w 
  rw [xorR_eq] at h
  exact h
def wplus_c_P (Aa:Option Addr) (a:List Nat) (ca:Nat) (Ab:Option Addr) (b:List Nat) (cb:Nat) (w:World) (en:Ending) (w':World):Prop:=∃ (Ar0:Option Addr) (cr0:Nat),en=.returned (sv Ar0 (canon (val a + val b)) cr0)∧SOwn w' w.heap.size 56 .u32 Ar0 (canon (val a + val b)) cr0∧New w w'
theorem wplus_c (Aa:Option Addr) (a:List Nat) (ca:Nat) (Ab:Option Addr) (b:List Nat) (cb:Nat) (w:World) (hra:SRow w .u32 Aa a ca) (hrb:SRow w .u32 Ab b cb) (ha:Limbs a) (hb:Limbs b) (hsa:a.length≤900000) (hsb:b.length≤900000):Calls prog 186 #[sv Aa a ca,sv Ab b cb] w (wplus_c_P Aa a ca Ab b cb w):=by
 refine enter_abs func186 rfl fun a0 aB cT hp=>?_
 have aB:a0.tmps.size=37:=aB
 have cU:New w w:=Upd.refl _ _
 have hp0:a0.eval (.tmp 0)=sv Aa a ca:=hp 0 _ rfl
 have hp1:a0.eval (.tmp 1)=sv Ab b cb:=hp 1 _ rfl
 refine wk fun K1 cV=>?_
 refine wA tr1 [] 37 [ve (sv none ([]) 0)] aB ?_ ?_
 exact .c .nil
 refine aftI aB cT cU fun a2 w3 bA cW bO dO bB=>?_
 have⟨h8,h9⟩:=bB.f2 hp0 hp1
 refine cV _ _ <| wk fun dP bP=>?_
 refine wA tr1 [] 37 [ve (sv none ([]) 0)] bA ?_ ?_
 exact .c .nil
 refine aftI bA cW bO fun dQ dR aL bQ bR dw aw=>?_
 have⟨cX,cY⟩:=aw.f2 h8 h9
 have cZ:=aw.g 0 5
 refine bP _ _ <| wk fun dS bS=>?_
 refine wA tr1 [] 37 [ve (.int .u64 0)] aL ?_ ?_
 exact .c .nil
 refine aftI aL bQ bR fun dT dU aM bT bU dx au=>?_
 have⟨c0,c3,c5⟩:=au.f3 cX cY cZ
 have c9:=au.g 0 6
 refine bS _ _ <| wk fun dV bV=>?_
 refine wk fun dW bW=>?_
 refine wA tr1 [] 37 [ve (iv 0)] aM ?_ ?_
 exact .c .nil
 refine aftI aM bT bU fun dX dY bX bY bZ dy ao=>?_
 have⟨da,db,dc,dd⟩:=ao.f4 c0 c3 c5 c9
 have de:=ao.g 0 7
 refine bW _ _<| wb<| wp_loopX (fun (mm:Nat) (aa:Act) (ww:World)=>∃ (i:Nat) (ds:List Nat) (cc:Nat) (A1:Option Addr) (c1:Nat),mm=max a.length b.length + 1 - i∧aa.tmps.size=37∧aa.defers=[]∧New w ww∧aa.eval (.tmp 5)=sv A1 ds c1∧aa.eval (.tmp 6)=.int .u64 (cc:Int)∧aa.eval (.tmp 7)=iv (i:Int)∧aa.eval (.tmp 0)=sv Aa a ca∧aa.eval (.tmp 1)=sv Ab b cb∧SOwn ww w.heap.size 56 .u32 A1 ds c1∧(i≤max a.length b.length + 1)∧(cc≤1)∧(ds.length=i)∧(Limbs ds)∧(val ds + 4294967296 ^ i * cc=val (a.take i) + val (b.take i))) (fun mm=>mm) ⟨_,⟨0,[],0,none,0,rfl,bX,bY,bZ,dc,dd,de,da,db,SOwn.nil _ _ _ _,(by omega),(by omega),rfl,Limbs.nil,(by simp [val])⟩⟩ ?_
 rintro mm dZ d0 ⟨i,ds,cc,A1,c1,hmm,aN,b0,b1,df,dg,bC,bD,bE,b2,hi,hc,hln,hd,hv⟩
 refine wk fun d1 b3=>wk fun d2 b4=>?_
 refine wA tr8 [] 37 [ve (iv (i:Int)),ve (sv Aa a ca),ve (iv (a.length:Int)),ve (sv Ab b cb),ve (iv (b.length:Int)),ve (iv (max (a.length:Int) (b.length:Int))),ve (iv ((max (a.length:Int) (b.length:Int)) + 1)),ve (.bool (decide ((i:Int) < ((max (a.length:Int) (b.length:Int)) + 1))))] aN ?_ ?_
 exact .M bC<| .M bD<| .T (fun k=>v_lenR rfl elW (k.eq1 1 9 rfl))<| .M bE<| .T (fun k=>v_lenR rfl elW (k.eq1 3 11 rfl))<| .T (fun k=>v_max rfl (k.eq1 2 10 rfl) (k.eq1 4 12 rfl))<| .R (fun k=>v_bin rfl (k.eq1 5 13 rfl) rfl (fun _=>rfl) (r_add rfl (by omega))) (fun _=>rfl)<| .T (fun k=>v_bin rfl (k.eq1 0 8 rfl) (k.eq1 6 14 rfl) (fun _=>rfl) (r_lssK rfl)) .nil
 refine aftI aN b0 b1 fun d3 aC av aO ap b5 am=>?_
 have⟨bF,bG,aP,bH⟩:=am.f4 df dg bC bD
 have bI:=am.f1 bE
 have bJ:=am.g 7 15
 have aQ:=b2.new_ b5
 refine b4 _ _ ?_
 rcases bc (decide ((i:Int) < ((max (a.length:Int) (b.length:Int)) + 1))) with aq|aq
 have a4:=oT aq
 have b6:=hB bJ aq
 refine wt b6<| ws<| b3 _ _<| wk fun d4 b7=>wb ?_
 refine wk fun d5 b8=>?_
 have hai:=ha.at i
 have hbi:=hb.at i
 have hst:=plus_step (i:=i) ha hb hd hln hc hv
 refine wA [true,true,true,true,true,true,true,true,true,false] [(9,true)] 37 [ve (.int .u64 (cc:Int)),ve (sv Aa a ca),ve (iv (i:Int)),ve (.int .u64 ((a.getD i 0:Nat):Int)),ve (.int .u64 ((cc + (a.getD i 0):Nat):Int)),ve (sv Ab b cb),ve (iv (i:Int)),ve (.int .u64 ((b.getD i 0:Nat):Int)),ve (.int .u64 (((cc + (a.getD i 0)) + (b.getD i 0):Nat):Int)),vt] av ?_ ?_
 exact .M bG<| .M bH<| .M aP<| .C2 1 2 (fun p=>sword_c _ _ _ (i:Int) _ (hra.new_ (ap.transNew p)) ha (by omega))<| .R (fun k=>v_bin rfl (k.eq1 0 18 rfl) (k.eq1 3 21 rfl) (fun _=>rfl) (n_add (by omega) (IntWalk.u64_in _ (by omega)))) (fun _=>rfl)<| .M bI<| .M aP<| .C2 5 6 (fun p=>sword_c _ _ _ (i:Int) _ (hrb.new_ (ap.transNew p)) hb (by omega))<| .R (fun k=>v_bin rfl (k.eq1 4 22 rfl) (k.eq1 7 25 rfl) (fun _=>rfl) (n_add (by omega) (IntWalk.u64_in _ (by omega)))) (fun _=>rfl)<| .off .nil
 refine aftI av aO ap fun bK bL aR b9 aS cd an=>?_
 have⟨dh,d6,di,dj⟩:=an.f4 bF bG aP bH
 have dk:=an.f1 bI
 have bM:=an.g 8 26
 have ce:=aQ.new_ cd
 refine sP bM aR b9 fun dl aT cf ag aU=>?_
 have⟨bN,dm,dn⟩:=ag.q3 dh di dj
 have⟨ch,dz⟩:=ag.q2 dk bM
 refine b8 _ _ <| wk fun dA a5=>?_
 refine wp_g0 [true,true,true,true,true,false,false] [(5,false),(6,true)] 37
  [ve (sv A1 ds c1),ve (.int .u64 (((cc + (a.getD i 0)) + (b.getD i 0):Nat):Int)),ve (.int .u64 ((((cc + (a.getD i 0)) + (b.getD i 0)) % 4294967296:Nat):Int)),ve (.int .u32 ((((cc + (a.getD i 0)) + (b.getD i 0)) % 4294967296:Nat):Int)),
  (OP bL.heap.size 56 .u32 ([(((cc + (a.getD i 0)) + (b.getD i 0)) % 4294967296)])),vt,vt] aT (.eq (.eq (.eq (.eq (.cons (fun _ _ _ n ⟨_,_,e,h⟩=>⟨_,_,e,h.new_ n⟩) (.tt (.tt .nil))))))) ?_ ?_
 refine .M bN<| .M aU<| .R (fun k=>v_bin rfl (k.eq1 1 28 rfl) rfl (fun _=>rfl) (n_andMask64 ((cc + (a.getD i 0)) + (b.getD i 0)) (by omega))) (fun _=>rfl)<| .R (fun k=>v_conv rfl (k.eq1 2 29 rfl) (n_conv (by kernel_rfl) (by kernel_rfl) (by kernel_rfl) (IntWalk.u32_in _ (by omega)))) (fun _=>rfl) ?_
 refine .o1 (tkA rfl (noG rfl) fun _ w hn k=>(by
  exact x_bslice (k:=.u32) (ps:=[(0,.int .u32 ((((cc + (a.getD i 0)) + (b.getD i 0)) % 4294967296:Nat):Int))]) [(((cc + (a.getD i 0)) + (b.getD i 0)) % 4294967296)] rfl (parts1 (k.eq1 3 30 rfl)) elW rfl (by omega) (by omega) (by first|kernel_rfl|(simp only [enc,List.map_cons,List.map_nil,Int.toNat_natCast,Int.toNat_of_nonneg (by omega:(0:Int)≤_)]; kernel_rfl)) fun A1 c2 W' hmo=>⟨A1,c2,rfl,(hmo.more hn.size)⟩)) ?_
 exact .off<| .off .nil
 refine aftI aT cf aS fun ax dB aD a6 aE a7 ah=>?_
 have⟨dC,ci,cj,cl⟩:=ah.f4 bN dm dn ch
 have cm:=ah.f1 aU
 have cn:=ah.g 0 27
 obtain⟨co,a8,ay,a9⟩:=ah.G 4 31
 have ay:ax.eval (.tmp 31)=sv co ([(((cc + (a.getD i 0)) + (b.getD i 0)) % 4294967296)]) a8:=ay
 have aF:=ce.new_ a7
 have ba:=a9.more aS.size
 have hw131:=aE.size
 refine st_act rfl rfl fun dD bb=>a_append (k:=.u32) (b:=w.heap.size) rfl elW cn aF ay ba.row (by first|omega|(simp only [List.length_nil,List.length_cons,List.length_append,List.length_take,List.length_drop,List.length_replicate,List.length_set]; omega)) (by first|omega|(simp only [List.length_nil,List.length_cons,List.length_append,List.length_take,List.length_drop,List.length_replicate,List.length_set]; omega)) hw131 fun ai ae dE bd hg127=>bb _ _ trivial ?_
 have be:=aE.ownGrown aF hg127
 obtain⟨az,af⟩:∃ a',a'=ax.put (some 32) (sv ai (ds ++ [(((cc + (a.getD i 0)) + (b.getD i 0)) % 4294967296)]) ae):=⟨_,rfl⟩
 have⟨aG,bf⟩:=pz2 af aD a6
 have⟨cp,cq,cr⟩:=pN3 af ci cj cl
 have cs:=pN af cm
 have aV:=s7 af aD
 show stepsTo _ _ _ _ _ (ax.put (some 32) (sv ai (ds ++ [(((cc + (a.getD i 0)) + (b.getD i 0)) % 4294967296)]) ae)) _
 rw [← af]
 refine sP aV aG bf fun ct aH bg ab cx=>?_
 have⟨cu,cv,cw⟩:=ab.q3 cp cq cr
 have⟨aW,dF⟩:=ab.q2 cs aV
 refine a5 _ _<| wA [true,true,false] [(2,true)] 37 [ve (.int .u64 (((cc + (a.getD i 0)) + (b.getD i 0):Nat):Int)),ve (.int .u64 ((((cc + (a.getD i 0)) + (b.getD i 0)) / 4294967296:Nat):Int)),vt] aH ?_ ?_
 exact .M aW<| .T (fun k=>v_bin rfl (k.eq1 0 33 rfl) rfl (fun _=>rfl) (n_shr ((cc + (a.getD i 0)) + (b.getD i 0)) 32 (by decide)))<| .off .nil
 refine aftI aH bg be fun aX dG aI bh bi bj aj=>?_
 have⟨cy,cz,cA,dH⟩:=aj.f4 cu cv cw aW
 have cB:=aj.f1 cx
 have aY:=aj.g 1 34
 have bk:=bd.new_ bj
 refine sP aY aI bh fun cC aJ bl ac cG=>?_
 have⟨aZ,cD,cE⟩:=ac.q3 cy cz cA
 have⟨cF,dI⟩:=ac.q2 cB aY
 refine b7 _ _<| wA [true,true,false] [(2,true)] 37 [ve (iv (i:Int)),ve (iv ((i + 1:Nat):Int)),vt] aJ ?_ ?_
 exact .M aZ<| .R (fun k=>v_bin rfl (k.eq1 0 16 rfl) rfl (fun _=>rfl) (n_add (by omega) (IntWalk.i64_in _ (by omega)))) (fun _=>rfl)<| .off .nil
 refine aftI aJ bl bi fun a1 dJ aK bm bn bo ak=>?_
 have⟨dK,cH,cI,cJ⟩:=ak.f4 aZ cD cE cF
 have cK:=ak.f1 cG
 have a3:=ak.g 1 17
 have bp:=bk.new_ bo
 refine sP a3 aK bm fun cL bq br ad cQ=>?_
 have⟨cM,cN,cO⟩:=ad.q3 cH cI cJ
 have⟨cP,dL⟩:=ad.q2 cK a3
 refine st_nil ?_
 refine then_n ?_
 exact⟨_,⟨i + 1,(ds ++ [(((cc + (a.getD i 0)) + (b.getD i 0)) % 4294967296)]),(cc + a.getD i 0 + b.getD i 0) / 4294967296,ai,ae,rfl,bq,br,bn,cO,(cP.trans (congrArg (Value.int .u64) (by omega))),(cQ.trans (congrArg (Value.int .i64) (by omega))),cM,cN,bp,(by omega),hst.2.1,(by simp; omega),hst.1,hst.2.2⟩,(by omega)⟩
 have a4:=oF aq
 have bs:=hB bJ aq
 refine wf bs<| wp_exit ?_
 refine bV _ _<| wk fun dM bt=>?_
 refine wp_g0 [true,true,true] [] 37
  [ve (sv A1 ds c1),
  (OP aC.heap.size 56 .u32 (canon (val ds))),
  (OP aC.heap.size 56 .u32 (canon (val ds)))] av (.eq (.cons (fun _ _ _ n ⟨_,_,e,h⟩=>⟨_,_,e,h.new_ n⟩) (.cons (fun _ _ _ n ⟨_,_,e,h⟩=>⟨_,_,e,h.new_ n⟩) .nil))) ?_ ?_
 refine .M bF ?_
 refine .o1 (tkC rfl (noG rfl) rfl fun _ w hn k=>(by
  refine ⟨#[sv A1 ds c1],_,args1 (k.eq1 0 35 rfl),fun w=>by kernel_rfl,strim_c _ ds _ _ (aQ.new_ hn).row hd (by first|omega|(simp only [List.length_nil,List.length_take,List.length_drop]; omega)|(simp only [List.length_cons,List.length_nil]; omega)),?_⟩
  rintro e w' ⟨A5,c6,rfl,hmo0,hm⟩
  exact⟨_,rfl,hm,⟨A5,c6,rfl,(hmo0.more hn.size)⟩⟩)) ?_
 refine .o1 (tk rfl rfl fun _ w hn k=>(by
  obtain⟨A9,dr,dt,cR⟩:=k.G 1 36
  exact⟨_,v_assign rfl dt,⟨A9,dr,rfl,cR⟩⟩)) ?_
 exact .nil
 refine aftI av aO ap fun cS dN du bu bv dv bw=>?_
 obtain⟨ar,al,aA,bx⟩:=bw.G 2 4
 have aA:cS.eval (.tmp 4)=sv ar (canon (val ds)) al:=aA
 have bz:=bx.more ap.size
 refine bt _ _<| wp_ret (ret_k bu (v:=sv ar (canon (val ds)) al) (res_t rfl aA _) ?_)
 have hsp:(canon (val ds))=(canon (val a + val b)):=congrArg canon (plus_end ha hb hd hln hc (by omega) hv)
 exact⟨ar,al,congrArg (fun l=>Ending.returned (sv ar l al)) hsp,Eq.mp (congrArg (fun l=>SOwn _ _ _ _ ar l al) hsp) bz,bv⟩
def wminus_c_P (Aa:Option Addr) (a:List Nat) (ca:Nat) (Ab:Option Addr) (b:List Nat) (cb:Nat) (w:World) (en:Ending) (w':World):Prop:=∃ (Ar0:Option Addr) (cr0:Nat),en=.returned (sv Ar0 (canon (val a - val b)) cr0)∧SOwn w' w.heap.size 56 .u32 Ar0 (canon (val a - val b)) cr0∧New w w'
theorem wminus_c (Aa:Option Addr) (a:List Nat) (ca:Nat) (Ab:Option Addr) (b:List Nat) (cb:Nat) (w:World) (hra:SRow w .u32 Aa a ca) (hrb:SRow w .u32 Ab b cb) (ha:Limbs a) (hb:Limbs b) (hsa:a.length≤900000) (hsb:b.length≤900000) (hle:val b≤val a):Calls prog 188 #[sv Aa a ca,sv Ab b cb] w (wminus_c_P Aa a ca Ab b cb w):=by
 refine enter_abs func188 rfl fun a0 ay cB hp=>?_
 have ay:a0.tmps.size=36:=ay
 have cC:New w w:=Upd.refl _ _
 have hp0:a0.eval (.tmp 0)=sv Aa a ca:=hp 0 _ rfl
 have hp1:a0.eval (.tmp 1)=sv Ab b cb:=hp 1 _ rfl
 refine wk fun K1 cD=>?_
 refine wA tr1 [] 36 [ve (sv none ([]) 0)] ay ?_ ?_
 exact .c .nil
 refine aftI ay cB cC fun a2 w3 bn cE bz dn bo=>?_
 have⟨h8,h9⟩:=bo.f2 hp0 hp1
 refine cD _ _ <| wk fun dp bA=>?_
 refine wA tr1 [] 36 [ve (sv none ([]) 0)] bn ?_ ?_
 exact .c .nil
 refine aftI bn cE bz fun dq dr aG bB bC da au=>?_
 have⟨cF,cG⟩:=au.f2 h8 h9
 have cH:=au.g 0 5
 refine bA _ _ <| wk fun dt bD=>?_
 refine wA tr1 [] 36 [ve (.int .u64 0)] aG ?_ ?_
 exact .c .nil
 refine aftI aG bB bC fun du dv aH bE bF db aq=>?_
 have⟨cI,cJ,cK⟩:=aq.f3 cF cG cH
 have cL:=aq.g 0 6
 refine bD _ _ <| wk fun dw bG=>?_
 refine wk fun dx bH=>?_
 refine wA tr1 [] 36 [ve (iv 0)] aH ?_ ?_
 exact .c .nil
 refine aftI aH bE bF fun dy dz bI bJ bK dc al=>?_
 have⟨cM,cN,cO,cP⟩:=al.f4 cI cJ cK cL
 have cQ:=al.g 0 7
 refine bH _ _<| wb<| wp_loopX (fun (mm:Nat) (aa:Act) (ww:World)=>∃ (i:Nat) (ds:List Nat) (cc:Nat) (A1:Option Addr) (c1:Nat),mm=a.length - i∧aa.tmps.size=36∧aa.defers=[]∧New w ww∧aa.eval (.tmp 5)=sv A1 ds c1∧aa.eval (.tmp 6)=.int .u64 (cc:Int)∧aa.eval (.tmp 7)=iv (i:Int)∧aa.eval (.tmp 0)=sv Aa a ca∧aa.eval (.tmp 1)=sv Ab b cb∧SOwn ww w.heap.size 56 .u32 A1 ds c1∧(i≤a.length)∧(cc≤1)∧(ds.length=i)∧(Limbs ds)∧(val ds + val (b.take i)=val (a.take i) + 4294967296 ^ i * cc)) (fun mm=>mm) ⟨_,⟨0,[],0,none,0,rfl,bI,bJ,bK,cO,cP,cQ,cM,cN,SOwn.nil _ _ _ _,(by omega),(by omega),rfl,Limbs.nil,(by simp [val])⟩⟩ ?_
 rintro mm dA dB ⟨i,ds,cc,A1,c1,hmm,aI,bL,bM,cR,cS,bp,bq,cT,bN,hi,hc,hln,hd,hv⟩
 refine wk fun dC bO=>wk fun dD bP=>?_
 refine wA tr4 [] 36 [ve (iv (i:Int)),ve (sv Aa a ca),ve (iv (a.length:Int)),ve (.bool (decide ((i:Int) < (a.length:Int))))] aI ?_ ?_
 exact .M bp<| .M bq<| .T (fun k=>v_lenR rfl elW (k.eq1 1 10 rfl))<| .T (fun k=>v_bin rfl (k.eq1 0 9 rfl) (k.eq1 2 11 rfl) (fun _=>rfl) (r_lssK rfl)) .nil
 refine aftI aI bL bM fun dE az ar aJ am bQ ak=>?_
 have⟨br,cU,aK,bs⟩:=ak.f4 cR cS bp bq
 have bt:=ak.f1 cT
 have bu:=ak.g 3 12
 have aL:=bN.new_ bQ
 refine bP _ _ ?_
 rcases bc (decide ((i:Int) < (a.length:Int))) with an|an
 have aU:=oT an
 have bR:=hB bu an
 refine wt bR<| ws<| bO _ _<| wk fun dF bS=>wb ?_
 refine wk fun dG bT=>?_
 have hai:=ha.at i
 have hbi:=hb.at i
 have hst:=minus_step (i:=i) ha hb hd hln hc hv
 refine wA tr11 [] 36 [ve (sv Aa a ca),ve (iv (i:Int)),ve (.int .u64 ((a.getD i 0:Nat):Int)),ve (.int .u64 (((a.getD i 0) + 4294967296:Nat):Int)),ve (sv Ab b cb),ve (iv (i:Int)),ve (.int .u64 ((b.getD i 0:Nat):Int)),ve (.int .u64 ((((a.getD i 0) + 4294967296) - (b.getD i 0):Nat):Int)),ve (.int .u64 (cc:Int)),ve (.int .u64 (((((a.getD i 0) + 4294967296) - (b.getD i 0)) - cc:Nat):Int)),ve (.int .u64 (((((a.getD i 0) + 4294967296) - (b.getD i 0)) - cc:Nat):Int))] ar ?_ ?_
 exact .M bs<| .M aK<| .C2 0 1 (fun p=>sword_c _ _ _ (i:Int) _ (hra.new_ (am.transNew p)) ha (by omega))<| .R (fun k=>v_bin rfl (k.eq1 2 17 rfl) rfl (fun _=>rfl) (n_add (by omega) (IntWalk.u64_in _ (by omega)))) (fun _=>rfl)<| .M bt<| .M aK<| .C2 4 5 (fun p=>sword_c _ _ _ (i:Int) _ (hrb.new_ (am.transNew p)) hb (by omega))<| .R (fun k=>v_bin rfl (k.eq1 3 18 rfl) (k.eq1 6 21 rfl) (fun _=>rfl) (n_sub (by omega) (IntWalk.u64_in _ (by omega)))) (fun _=>rfl)<| .M cU<| .R (fun k=>v_bin rfl (k.eq1 7 22 rfl) (k.eq1 8 23 rfl) (fun _=>rfl) (n_sub (by omega) (IntWalk.u64_in _ (by omega)))) (fun _=>rfl)<| .B 9 .nil
 refine aftI ar aJ am fun dH bv aM bU aN bV ao=>?_
 have⟨bw,cV,cW,cX⟩:=ao.f4 br aK bs bt
 have bx:=ao.g 10 8
 have bW:=aL.new_ bV
 refine bT _ _ <| wk fun dI bX=>?_
 refine wp_g0 [true,true,true,true,true,false,false] [(5,false),(6,true)] 36
  [ve (sv A1 ds c1),ve (.int .u64 (((((a.getD i 0) + 4294967296) - (b.getD i 0)) - cc:Nat):Int)),ve (.int .u64 ((((((a.getD i 0) + 4294967296) - (b.getD i 0)) - cc) % 4294967296:Nat):Int)),ve (.int .u32 ((((((a.getD i 0) + 4294967296) - (b.getD i 0)) - cc) % 4294967296:Nat):Int)),
  (OP bv.heap.size 56 .u32 ([(((((a.getD i 0) + 4294967296) - (b.getD i 0)) - cc) % 4294967296)])),vt,vt] aM (.eq (.eq (.eq (.eq (.cons (fun _ _ _ n ⟨_,_,e,h⟩=>⟨_,_,e,h.new_ n⟩) (.tt (.tt .nil))))))) ?_ ?_
 refine .M bw<| .M bx<| .R (fun k=>v_bin rfl (k.eq1 1 26 rfl) rfl (fun _=>rfl) (n_andMask64 ((((a.getD i 0) + 4294967296) - (b.getD i 0)) - cc) (by omega))) (fun _=>rfl)<| .R (fun k=>v_conv rfl (k.eq1 2 27 rfl) (n_conv (by kernel_rfl) (by kernel_rfl) (by kernel_rfl) (IntWalk.u32_in _ (by omega)))) (fun _=>rfl) ?_
 refine .o1 (tkA rfl (noG rfl) fun _ w hn k=>(by
  exact x_bslice (k:=.u32) (ps:=[(0,.int .u32 ((((((a.getD i 0) + 4294967296) - (b.getD i 0)) - cc) % 4294967296:Nat):Int))]) [(((((a.getD i 0) + 4294967296) - (b.getD i 0)) - cc) % 4294967296)] rfl (parts1 (k.eq1 3 28 rfl)) elW rfl (by omega) (by omega) (by first|kernel_rfl|(simp only [enc,List.map_cons,List.map_nil,Int.toNat_natCast,Int.toNat_of_nonneg (by omega:(0:Int)≤_)]; kernel_rfl)) fun A1 c2 W' hmo=>⟨A1,c2,rfl,(hmo.more hn.size)⟩)) ?_
 exact .off<| .off .nil
 refine aftI aM bU aN fun aO dJ aP bY aA bZ ah=>?_
 have⟨dK,b0,b1,b2⟩:=ah.f4 bw cV cW cX
 have b3:=ah.f1 bx
 have b4:=ah.g 0 25
 obtain⟨b5,aV,av,aW⟩:=ah.G 4 29
 have av:aO.eval (.tmp 29)=sv b5 ([(((((a.getD i 0) + 4294967296) - (b.getD i 0)) - cc) % 4294967296)]) aV:=av
 have aB:=bW.new_ bZ
 have aX:=aW.more aN.size
 have hw120:=aA.size
 refine st_act rfl rfl fun dd aY=>a_append (k:=.u32) (b:=w.heap.size) rfl elW b4 aB av aX.row (by first|omega|(simp only [List.length_nil,List.length_cons,List.length_append,List.length_take,List.length_drop,List.length_replicate,List.length_set]; omega)) (by first|omega|(simp only [List.length_nil,List.length_cons,List.length_append,List.length_take,List.length_drop,List.length_replicate,List.length_set]; omega)) hw120 fun af ad de aZ hg116=>aY _ _ trivial ?_
 have a1:=aA.ownGrown aB hg116
 obtain⟨aw,ae⟩:∃ a',a'=aO.put (some 30) (sv af (ds ++ [(((((a.getD i 0) + 4294967296) - (b.getD i 0)) - cc) % 4294967296)]) ad):=⟨_,rfl⟩
 have⟨aC,a3⟩:=pz2 ae aP bY
 have⟨b6,b7,b8⟩:=pN3 ae b0 b1 b2
 have b9:=pN ae b3
 have aQ:=s7 ae aP
 show stepsTo _ _ _ _ _ (aO.put (some 30) (sv af (ds ++ [(((((a.getD i 0) + 4294967296) - (b.getD i 0)) - cc) % 4294967296)]) ad)) _
 rw [← ae]
 refine sP aQ aC a3 fun cd aD a4 ab cj=>?_
 have⟨ce,cf,ch⟩:=ab.q3 b6 b7 b8
 have⟨ci,df⟩:=ab.q2 b9 aQ
 refine bX _ _<| wA tr4 [] 36 [ve (.int .u64 (((((a.getD i 0) + 4294967296) - (b.getD i 0)) - cc:Nat):Int)),ve (.int .u64 ((((((a.getD i 0) + 4294967296) - (b.getD i 0)) - cc) / 4294967296:Nat):Int)),ve (.int .u64 ((1 - (((((a.getD i 0) + 4294967296) - (b.getD i 0)) - cc) / 4294967296):Nat):Int)),ve (.int .u64 ((1 - (((((a.getD i 0) + 4294967296) - (b.getD i 0)) - cc) / 4294967296):Nat):Int))] aD ?_ ?_
 exact .M ci<| .T (fun k=>v_bin rfl (k.eq1 0 31 rfl) rfl (fun _=>rfl) (n_shr ((((a.getD i 0) + 4294967296) - (b.getD i 0)) - cc) 32 (by decide)))<| .R (fun k=>v_bin rfl rfl (k.eq1 1 32 rfl) (fun _=>rfl) (n_sub (by omega) (IntWalk.u64_in _ (by omega)))) (fun _=>rfl)<| .B 2 .nil
 refine aftI aD a4 a1 fun dg dh aE a5 a6 a7 ai=>?_
 have⟨aR,cl,cm,cn⟩:=ai.f4 ce cf ch cj
 have co:=ai.g 3 6
 have a8:=aZ.new_ a7
 refine bS _ _<| wA [true,true,false] [(2,true)] 36 [ve (iv (i:Int)),ve (iv ((i + 1:Nat):Int)),vt] aE ?_ ?_
 exact .M aR<| .R (fun k=>v_bin rfl (k.eq1 0 13 rfl) rfl (fun _=>rfl) (n_add (by omega) (IntWalk.i64_in _ (by omega)))) (fun _=>rfl)<| .off .nil
 refine aftI aE a5 a6 fun aS di aF a9 ba bb ag=>?_
 have⟨dj,cp,cq,cr⟩:=ag.f4 aR cl cm cn
 have cs:=ag.f1 co
 have aT:=ag.g 1 14
 have bd:=a8.new_ bb
 refine sP aT aF a9 fun ct be bf ac cy=>?_
 have⟨cu,cv,cw⟩:=ac.q3 cp cq cr
 have⟨cx,dk⟩:=ac.q2 cs aT
 refine st_nil ?_
 refine then_n ?_
 exact⟨_,⟨i + 1,(ds ++ [(((((a.getD i 0) + 4294967296) - (b.getD i 0)) - cc) % 4294967296)]),1 - (a.getD i 0 + 4294967296 - b.getD i 0 - cc) / 4294967296,af,ad,rfl,be,bf,ba,cw,(cx.trans (congrArg (Value.int .u64) (by omega))),(cy.trans (congrArg (Value.int .i64) (by omega))),cu,cv,bd,(by omega),(by omega),(by simp; omega),hst.1,hst.2⟩,(by omega)⟩
 have aU:=oF an
 have bg:=hB bu an
 refine wf bg<| wp_exit ?_
 refine bG _ _<| wk fun dl bh=>?_
 refine wp_g0 [true,true,true] [] 36
  [ve (sv A1 ds c1),
  (OP az.heap.size 56 .u32 (canon (val ds))),
  (OP az.heap.size 56 .u32 (canon (val ds)))] ar (.eq (.cons (fun _ _ _ n ⟨_,_,e,h⟩=>⟨_,_,e,h.new_ n⟩) (.cons (fun _ _ _ n ⟨_,_,e,h⟩=>⟨_,_,e,h.new_ n⟩) .nil))) ?_ ?_
 refine .M br ?_
 refine .o1 (tkC rfl (noG rfl) rfl fun _ w hn k=>(by
  refine ⟨#[sv A1 ds c1],_,args1 (k.eq1 0 34 rfl),fun w=>by kernel_rfl,strim_c _ ds _ _ (aL.new_ hn).row hd (by first|omega|(simp only [List.length_nil,List.length_take,List.length_drop]; omega)|(simp only [List.length_cons,List.length_nil]; omega)),?_⟩
  rintro e w' ⟨A5,c6,rfl,hmo0,hm⟩
  exact⟨_,rfl,hm,⟨A5,c6,rfl,(hmo0.more hn.size)⟩⟩)) ?_
 refine .o1 (tk rfl rfl fun _ w hn k=>(by
  obtain⟨A9,c0,c3,cz⟩:=k.G 1 35
  exact⟨_,v_assign rfl c3,⟨A9,c0,rfl,cz⟩⟩)) ?_
 exact .nil
 refine aftI ar aJ am fun cA dm c5 bi bj c9 bk=>?_
 obtain⟨ap,aj,ax,bl⟩:=bk.G 2 4
 have ax:cA.eval (.tmp 4)=sv ap (canon (val ds)) aj:=ax
 have bm:=bl.more am.size
 refine bh _ _<| wp_ret (ret_k bi (v:=sv ap (canon (val ds)) aj) (res_t rfl ax _) ?_)
 have hsp:(canon (val ds))=(canon (val a - val b)):=congrArg canon (minus_end ha hb hd (by omega) hle hv)
 exact⟨ap,aj,congrArg (fun l=>Ending.returned (sv ap l aj)) hsp,Eq.mp (congrArg (fun l=>SOwn _ _ _ _ ap l aj) hsp) bm,bj⟩
def wfits_c_P (z:Int) (Az:Option Addr) (cz:Nat) (w:World) (en:Ending) (w':World):Prop:=∃ (Ar0:Option Addr) (cr0:Nat),en=.returned (.tuple #[.agg #[.bool (decide (capI z < 0)),sv Ar0 (canon (capI z).natAbs) cr0],.bool (okI z)])∧SRow w' .u32 Ar0 (canon (capI z).natAbs) cr0∧New w w'
theorem wfits_c (z:Int) (Az:Option Addr) (cz:Nat) (w:World) (hrz:SRow w .u32 Az (canon z.natAbs) cz):Calls prog 172 #[.agg #[.bool (decide (z < 0)),sv Az (canon z.natAbs) cz]] w (wfits_c_P z Az cz w):=by
 refine enter_abs func172 rfl fun a0 ag bf hp=>?_
 have ag:a0.tmps.size=10:=ag
 have ai:New w w:=Upd.refl _ _
 have hp0:a0.eval (.tmp 0)=.agg #[.bool (decide (z < 0)),sv Az (canon z.natAbs) cz]:=hp 0 _ rfl
 refine wk fun K1 bg=>?_
 refine wB tr3 [] [] 10 [IsNew w 26 [.bool (decide (z < 0)),sv Az (canon z.natAbs) cz],IsNew w 26 [.bool false,sv none ([]) 0],vF] [0,1] ag ?_ heN ?_
 exact .X hp0<| .Y<| .c .nil
 refine aftI ag bf ai fun a2 w3 ah aC aj bB ak=>?_
 obtain⟨q9,h8,aJ,ad⟩:=ak.G 0 1
 obtain⟨bh,al,aK,am⟩:=ak.G 1 2
 have hne16:=ak.ne 0 1 1 2 h8 al
 have bt:=Nat.le_trans ai.size aJ
 have bu:=Nat.le_trans ai.size aK
 refine bg _ _ <| wk fun bC aL=>?_
 refine wk fun bD an=>?_
 rcases bc (decide (((canon z.natAbs).length:Int)≤8)) with aa|aa
 have az:=oT aa
 refine wA tr4 [] 10 [ve (.pointer (some ⟨q9,1,none⟩)),ve (sv Az (canon z.natAbs) cz),ve (iv ((canon z.natAbs).length:Int)),vF] ah ?_ ?_
 exact .F h8<| .J 0 isAgg24 ad<| .T (fun k=>v_lenR rfl elW (k.eq1 1 5 rfl))<| .b 2 (r_gtrK aa) .nil
 refine aftI ah aC aj fun bE bF ao aM aN ap ae=>?_
 have⟨bi,bj⟩:=ae.f2 h8 al
 have bk:=ae.g 3 7
 have⟨aO,aP⟩:=nw2 ap ad am
 refine an _ _<| wf bk<| ws ?_
 refine aL _ _<| wk fun bG aQ=>?_
 refine wA [true,false,false] [(1,false),(2,true)] 10 [ve (.agg #[.bool (decide (z < 0)),sv Az (canon z.natAbs) cz]),vt,vt] ao ?_ ?_
 exact .L6 bi aO<| .off<| .off .nil
 refine aftI ao aM aN fun aD bH aq aR aS aT ar=>?_
 have aE:=ar.f1 bj
 have aF:=ar.g 0 9
 have aU:=aP.new_ aT
 refine sS6 aE aF aU fun bI aV aW bv=>?_
 have au:=aS.tR aW
 refine sP (v:=.bool true) rfl aq aR fun bl bw aY ab bn=>?_
 have⟨bm,bK⟩:=ab.q2 aE aF
 refine aQ _ _<| wp_ret (ret_k aY (v:=.tuple #[.agg #[.bool (decide (z < 0)),sv Az (canon z.natAbs) cz],.bool true]) (res_ct rfl bm bn (l_two isAgg26 sizeOf26 aV)) ?_)
 have hz0:=(fits_yes aa).2
 have hz1:(decide (capI z < 0))=decide (z < 0):=by rw [(fits_yes aa).1]
 have hz2:canon (capI z).natAbs=(canon z.natAbs):=by rw [(fits_yes aa).1]
 exact⟨Az,cz,by rw [hz0,hz1,hz2],by rw [hz2]; exact (hrz.new_ au),au⟩
 have az:=oF aa
 refine wA tr4 [] 10 [ve (.pointer (some ⟨q9,1,none⟩)),ve (sv Az (canon z.natAbs) cz),ve (iv ((canon z.natAbs).length:Int)),vT] ah ?_ ?_
 exact .F h8<| .J 0 isAgg24 ad<| .T (fun k=>v_lenR rfl elW (k.eq1 1 5 rfl))<| .b 2 (r_gtrK aa) .nil
 refine aftI ah aC aj fun bL bM av aZ a1 aw af=>?_
 have⟨bN,bo⟩:=af.f2 h8 al
 have bp:=af.g 3 7
 have⟨bx,a3⟩:=nw2 aw ad am
 refine an _ _<| wt bp<| wk fun bO a4=>?_
 refine wA [true,false,false] [(1,false),(2,true)] 10 [ve (.agg #[.bool false,sv none ([]) 0]),vt,vt] av ?_ ?_
 exact .Z<| .off<| .off .nil
 refine aftI av aZ a1 fun aG bP ax a5 a6 a7 ay=>?_
 have aH:=ay.f1 bo
 have aI:=ay.g 0 8
 have a8:=a3.new_ a7
 refine sS6 aH aI a8 fun bQ a9 ba bz=>?_
 have bd:=a6.tR ba
 refine sP (v:=.bool false) rfl ax a5 fun bq bA be ac bs=>?_
 have⟨br,bS⟩:=ac.q2 aH aI
 refine a4 _ _<| wp_ret (ret_k be (v:=.tuple #[.agg #[.bool false,sv none ([]) 0],.bool false]) (res_ct rfl br bs (l_two isAgg26 sizeOf26 a9)) ?_)
 have hz0:=(fits_no aa).2
 have hz1:(decide (capI z < 0))=false:=by rw [(fits_no aa).1]; rfl
 have hz2:canon (capI z).natAbs=[]:=by rw [(fits_no aa).1]; exact canon_zero
 exact⟨none,0,by rw [hz0,hz1,hz2],by rw [hz2]; exact (SRow.nil _ _),bd⟩
def wsum_c_P (x:Int) (Ax:Option Addr) (cx:Nat) (y:Int) (Ay:Option Addr) (cy:Nat) (w:World) (en:Ending) (w':World):Prop:=∃ (Ar0:Option Addr) (cr0:Nat),en=.returned (.agg #[.bool (decide (x + y < 0)),sv Ar0 (canon (x + y).natAbs) cr0])∧SRow w' .u32 Ar0 (canon (x + y).natAbs) cr0∧New w w'
theorem wsum_c (x:Int) (Ax:Option Addr) (cx:Nat) (y:Int) (Ay:Option Addr) (cy:Nat) (w:World) (hrx:SRow w .u32 Ax (canon x.natAbs) cx) (hry:SRow w .u32 Ay (canon y.natAbs) cy) (hx:x.natAbs < 2 ^ 256) (hy:y.natAbs < 2 ^ 256):Calls prog 173 #[.agg #[.bool (decide (x < 0)),sv Ax (canon x.natAbs) cx],.agg #[.bool (decide (y < 0)),sv Ay (canon y.natAbs) cy]] w (wsum_c_P x Ax cx y Ay cy w):=by
 refine enter_abs func173 rfl fun a0 bt et hp=>?_
 have bt:a0.tmps.size=40:=bt
 have bu:New w w:=Upd.refl _ _
 have hp0:a0.eval (.tmp 0)=.agg #[.bool (decide (x < 0)),sv Ax (canon x.natAbs) cx]:=hp 0 _ rfl
 have hp1:a0.eval (.tmp 1)=.agg #[.bool (decide (y < 0)),sv Ay (canon y.natAbs) cy]:=hp 1 _ rfl
 have h8x:=(canon_len8 _).2 hx
 have h8y:=(canon_len8 _).2 hy
 have hsx:(canon (val (canon x.natAbs) + val (canon y.natAbs))).length≤9:=sum_len hx hy
 have hdx:(canon (val (canon x.natAbs) - val (canon y.natAbs))).length≤8:=dif_len hx
 have hdy:(canon (val (canon y.natAbs) - val (canon x.natAbs))).length≤8:=dif_len hy
 refine wk fun K1 eu=>?_
 refine wB tr3 [] [] 40 [IsNew w 26 [.bool (decide (x < 0)),sv Ax (canon x.natAbs) cx],IsNew w 26 [.bool (decide (y < 0)),sv Ay (canon y.natAbs) cy],IsNew w 26 [.bool false,sv none ([]) 0]] [0,1,2] bt ?_ heN ?_
 exact .X hp0<| .X hp1<| .Y .nil
 refine aftI bt et bu fun a2 w3 ay bv aV f7 bi=>?_
 obtain⟨q9,h8,dM,ag⟩:=bi.G 0 2
 obtain⟨ab,ao,dN,ah⟩:=bi.G 1 3
 obtain⟨dF,aU,dO,aW⟩:=bi.G 2 4
 have hne20:=bi.ne 0 2 2 4 h8 aU
 have hne21:=bi.ne 1 2 3 4 ao aU
 have fB:=Nat.le_trans bu.size dM
 have fC:=Nat.le_trans bu.size dN
 have fD:=Nat.le_trans bu.size dO
 refine eu _ _ <| wk fun f8 bZ=>?_
 refine wk fun f9 aX=>?_
 rcases bc (decide (x < 0)) with aa|aa
 have cB:=oT aa
 rcases bc (decide (y < 0)) with ae|ae
 have cC:=oT ae
 refine wA tr5 [] 40 [ve (pv q9),vT,ve (pv ab),vT,vT] ay ?_ ?_
 exact .F h8<| .o1 (tk rfl rfl fun _ w hn k=>⟨_,v_load rfl (k.eq1 0 5 rfl) (l_one isAgg4 ((ag.new_ hn).cell 0)),congrArg Value.bool aa⟩)<| .F ao<| .o1 (tk rfl rfl fun _ w hn k=>⟨_,v_load rfl (k.eq1 2 7 rfl) (l_one isAgg4 ((ah.new_ hn).cell 0)),congrArg Value.bool ae⟩)<| .T (fun k=>v_bin rfl (k.eq1 1 6 rfl) (k.eq1 3 8 rfl) (fun _=>rfl) (fun w=>by kernel_rfl)) .nil
 refine aftI ay bv aV fun ga dG b0 dP bj bk aY=>?_
 have⟨dH,ev,ew⟩:=aY.f3 h8 ao aU
 have ex:=aY.g 4 9
 have⟨b1,dQ,dR⟩:=nw3 bk ag ah aW
 refine aX _ _<| wt ex<| wk fun gb dS=>?_
 refine wp_g0 [true,true,true,true,true,true,true,true,false] [(8,false)] 40
  [ve (pv q9),vT,ve (.pointer (some ⟨q9,1,none⟩)),ve (sv Ax (canon x.natAbs) cx),ve (.pointer (some ⟨ab,1,none⟩)),ve (sv Ay (canon y.natAbs) cy),
  (OP dG.heap.size 56 .u32 (canon (val (canon x.natAbs) + val (canon y.natAbs)))),(fun (v_:Value) (W:World)=>∃ (aI:Option Addr) (aJ:Nat),v_=.agg #[.bool (decide (sgn true (val (canon (val (canon x.natAbs) + val (canon y.natAbs)))) < 0)),sv aI (canon (sgn true (val (canon (val (canon x.natAbs) + val (canon y.natAbs))))).natAbs) aJ]∧SRow W .u32 aI (canon (sgn true (val (canon (val (canon x.natAbs) + val (canon y.natAbs))))).natAbs) aJ),vt] b0 (.eq (.eq (.eq (.eq (.eq (.eq (.cons (fun _ _ _ n ⟨_,_,e,h⟩=>⟨_,_,e,h.new_ n⟩) (.cons (fun _ _ _ n ⟨_,_,e,h⟩=>⟨_,_,e,h.new_ n⟩) (.tt .nil))))))))) ?_ ?_
 refine .F dH<| .o1 (tk rfl rfl fun _ w hn k=>⟨_,v_load rfl (k.eq1 0 10 rfl) (l_one isAgg4 ((b1.new_ hn).cell 0)),congrArg Value.bool aa⟩)<| .F dH<| .J 2 isAgg24 b1<| .F ev<| .J 4 isAgg24 dQ ?_
 refine .o1 (tkC rfl (noG rfl) rfl fun _ w hn k=>(by
  refine ⟨#[sv Ax (canon x.natAbs) cx,sv Ay (canon y.natAbs) cy],_,args2 (k.eq1 3 13 rfl) (k.eq1 5 15 rfl),fun w=>by kernel_rfl,wplus_c _ (canon x.natAbs) _ _ (canon y.natAbs) _ _ (hrx.new_ (bj.transNew hn)) (hry.new_ (bj.transNew hn)) (limbs_canon _) (limbs_canon _) (by first|omega|(simp only [List.length_nil,List.length_take,List.length_drop]; omega)|(simp only [List.length_cons,List.length_nil]; omega)) (by first|omega|(simp only [List.length_nil,List.length_take,List.length_drop]; omega)|(simp only [List.length_cons,List.length_nil]; omega)),?_⟩
  rintro e w' ⟨A1,c2,rfl,hmo0,hm⟩
  exact⟨_,rfl,hm,⟨A1,c2,rfl,(hmo0.more hn.size)⟩⟩)) ?_
 refine .o1 (tkC rfl (noG rfl) rfl fun _ w hn k=>(by
  obtain⟨A5,c6,e7,ey⟩:=k.G 6 16
  refine ⟨#[.bool true,sv A5 (canon (val (canon x.natAbs) + val (canon y.natAbs))) c6],_,args2 (k.eq1 1 11 rfl) e7,fun w=>by kernel_rfl,smade_c true _ (canon (val (canon x.natAbs) + val (canon y.natAbs))) _ _ ey.row (limbs_canon _) (by first|omega|(simp only [List.length_nil,List.length_take,List.length_drop]; omega)|(simp only [List.length_cons,List.length_nil]; omega)),?_⟩
  rintro e w' ⟨A9,ez,rfl,hmo0,hm⟩
  exact⟨_,rfl,hm,⟨A9,ez,rfl,hmo0⟩⟩)) ?_
 exact .off .nil
 refine aftI b0 dP bj fun eA gc fE dT dU dV b2=>?_
 have dI:=b2.f1 ew
 obtain⟨az,ap,b3,dW⟩:=b2.G 7 17
 have b3:eA.eval (.tmp 17)=.agg #[.bool (decide (sgn true (val (canon (val (canon x.natAbs) + val (canon y.natAbs)))) < 0)),sv az (canon (sgn true (val (canon (val (canon x.natAbs) + val (canon y.natAbs))))).natAbs) ap]:=b3
 have b4:=dR.new_ dV
 refine sS6 dI b3 b4 fun gd dX b5 fF=>?_
 have dZ:=dW.fr b4 b5
 have d0:=dU.tR b5
 refine dS _ _<| wp_ret (ret_k dT (v:=.agg #[.bool (decide (sgn true (val (canon (val (canon x.natAbs) + val (canon y.natAbs)))) < 0)),sv az (canon (sgn true (val (canon (val (canon x.natAbs) + val (canon y.natAbs))))).natAbs) ap]) (res_c rfl dI (l_two isAgg26 sizeOf26 dX)) ?_)
 have hz1:sgn true (val (canon (val (canon x.natAbs) + val (canon y.natAbs))))=x + y:=sum_same (d:=true) aa ae
 exact⟨az,ap,congrArg (fun z:Int=>Ending.returned (Value.agg #[.bool (decide (z < 0)),sv az (canon z.natAbs) ap])) hz1,Eq.mp (congrArg (fun z:Int=>SRow _ .u32 az (canon z.natAbs) ap) hz1) dZ,d0⟩
 have cC:=oF ae
 refine wA tr5 [] 40 [ve (pv q9),vT,ve (pv ab),vF,vF] ay ?_ ?_
 exact .F h8<| .o1 (tk rfl rfl fun _ w hn k=>⟨_,v_load rfl (k.eq1 0 5 rfl) (l_one isAgg4 ((ag.new_ hn).cell 0)),congrArg Value.bool aa⟩)<| .F ao<| .o1 (tk rfl rfl fun _ w hn k=>⟨_,v_load rfl (k.eq1 2 7 rfl) (l_one isAgg4 ((ah.new_ hn).cell 0)),congrArg Value.bool ae⟩)<| .T (fun k=>v_bin rfl (k.eq1 1 6 rfl) (k.eq1 3 8 rfl) (fun _=>rfl) (fun w=>by kernel_rfl)) .nil
 refine aftI ay bv aV fun gg gh aZ b6 aq bl a1=>?_
 have⟨bw,bx,dJ⟩:=a1.f3 h8 ao aU
 have eB:=a1.g 4 9
 have⟨a3,a4,b7⟩:=nw3 bl ag ah aW
 refine aX _ _<| wf eB<| ws ?_
 refine bZ _ _<| wk fun gi d1=>wk fun gj b8=>?_
 rcases bc (decide ((cmpI (val (canon x.natAbs)) (val (canon y.natAbs))) < 0)) with af|af
 have cE:=oT af
 refine wA tr6 [] 40 [ve (.pointer (some ⟨q9,1,none⟩)),ve (sv Ax (canon x.natAbs) cx),ve (.pointer (some ⟨ab,1,none⟩)),ve (sv Ay (canon y.natAbs) cy),ve (iv (cmpI (val (canon x.natAbs)) (val (canon y.natAbs)))),vF] aZ ?_ ?_
 exact .F bw<| .J 0 isAgg24 a3<| .F bx<| .J 2 isAgg24 a4<| .C2 1 3 (fun m=>wcmp_c _ (canon x.natAbs) _ _ (canon y.natAbs) _ _ (hrx.new_ (aq.transNew m)) (hry.new_ (aq.transNew m)) (limbs_canon _) (limbs_canon _) (by first|omega|(simp only [List.length_nil,List.length_take,List.length_drop]; omega)|(simp only [List.length_cons,List.length_nil]; omega)) (by first|omega|(simp only [List.length_nil,List.length_take,List.length_drop]; omega)|(simp only [List.length_cons,List.length_nil]; omega)))<| .b 4 (r_geqK af) .nil
 refine aftI aZ b6 aq fun gk dK b9 d2 bm bn a5=>?_
 have⟨eC,dL,eD⟩:=a5.f3 bw bx dJ
 have eE:=a5.g 5 23
 have⟨d3,ca,d4⟩:=nw3 bn a3 a4 b7
 refine b8 _ _<| wf eE<| ws ?_
 refine d1 _ _<| wk fun gl d5=>?_
 refine wp_g0 [true,true,true,true,true,true,true,true,false] [(8,false)] 40
  [ve (pv ab),vF,ve (.pointer (some ⟨ab,1,none⟩)),ve (sv Ay (canon y.natAbs) cy),ve (.pointer (some ⟨q9,1,none⟩)),ve (sv Ax (canon x.natAbs) cx),
  (OP dK.heap.size 56 .u32 (canon (val (canon y.natAbs) - val (canon x.natAbs)))),(fun (v_:Value) (W:World)=>∃ (aK:Option Addr) (aL:Nat),v_=.agg #[.bool (decide (sgn false (val (canon (val (canon y.natAbs) - val (canon x.natAbs)))) < 0)),sv aK (canon (sgn false (val (canon (val (canon y.natAbs) - val (canon x.natAbs))))).natAbs) aL]∧SRow W .u32 aK (canon (sgn false (val (canon (val (canon y.natAbs) - val (canon x.natAbs))))).natAbs) aL),vt] b9 (.eq (.eq (.eq (.eq (.eq (.eq (.cons (fun _ _ _ n ⟨_,_,e,h⟩=>⟨_,_,e,h.new_ n⟩) (.cons (fun _ _ _ n ⟨_,_,e,h⟩=>⟨_,_,e,h.new_ n⟩) (.tt .nil))))))))) ?_ ?_
 refine .F dL<| .o1 (tk rfl rfl fun _ w hn k=>⟨_,v_load rfl (k.eq1 0 32 rfl) (l_one isAgg4 ((ca.new_ hn).cell 0)),congrArg Value.bool ae⟩)<| .F dL<| .J 2 isAgg24 ca<| .F eC<| .J 4 isAgg24 d3 ?_
 refine .o1 (tkC rfl (noG rfl) rfl fun _ w hn k=>(by
  refine ⟨#[sv Ay (canon y.natAbs) cy,sv Ax (canon x.natAbs) cx],_,args2 (k.eq1 3 35 rfl) (k.eq1 5 37 rfl),fun w=>by kernel_rfl,wminus_c _ (canon y.natAbs) _ _ (canon x.natAbs) _ _ (hry.new_ (bm.transNew hn)) (hrx.new_ (bm.transNew hn)) (limbs_canon _) (limbs_canon _) (by first|omega|(simp only [List.length_nil,List.length_take,List.length_drop]; omega)|(simp only [List.length_cons,List.length_nil]; omega)) (by first|omega|(simp only [List.length_nil,List.length_take,List.length_drop]; omega)|(simp only [List.length_cons,List.length_nil]; omega)) (Nat.le_of_lt (cmpI_lt af)),?_⟩
  rintro e w' ⟨eH,eI,rfl,hmo0,hm⟩
  exact⟨_,rfl,hm,⟨eH,eI,rfl,(hmo0.more hn.size)⟩⟩)) ?_
 refine .o1 (tkC rfl (noG rfl) rfl fun _ w hn k=>(by
  obtain⟨eJ,eK,eL,d6⟩:=k.G 6 38
  refine ⟨#[.bool false,sv eJ (canon (val (canon y.natAbs) - val (canon x.natAbs))) eK],_,args2 (k.eq1 1 33 rfl) eL,fun w=>by kernel_rfl,smade_c false _ (canon (val (canon y.natAbs) - val (canon x.natAbs))) _ _ d6.row (limbs_canon _) (by first|omega|(simp only [List.length_nil,List.length_take,List.length_drop]; omega)|(simp only [List.length_cons,List.length_nil]; omega)),?_⟩
  rintro e w' ⟨eM,eN,rfl,hmo0,hm⟩
  exact⟨_,rfl,hm,⟨eM,eN,rfl,hmo0⟩⟩)) ?_
 exact .off .nil
 refine aftI b9 d2 bm fun eO fG fp cF cG cH bz=>?_
 have cb:=bz.f1 eD
 obtain⟨ar,ai,bo,cI⟩:=bz.G 7 39
 have bo:eO.eval (.tmp 39)=.agg #[.bool (decide (sgn false (val (canon (val (canon y.natAbs) - val (canon x.natAbs)))) < 0)),sv ar (canon (sgn false (val (canon (val (canon y.natAbs) - val (canon x.natAbs))))).natAbs) ai]:=bo
 have bA:=d4.new_ cH
 refine sS6 cb bo bA fun fH cJ bB fq=>?_
 have cL:=cI.fr bA bB
 have cM:=cG.tR bB
 refine d5 _ _<| wp_ret (ret_k cF (v:=.agg #[.bool (decide (sgn false (val (canon (val (canon y.natAbs) - val (canon x.natAbs)))) < 0)),sv ar (canon (sgn false (val (canon (val (canon y.natAbs) - val (canon x.natAbs))))).natAbs) ai]) (res_c rfl cb (l_two isAgg26 sizeOf26 cJ)) ?_)
 have hz1:sgn false (val (canon (val (canon y.natAbs) - val (canon x.natAbs))))=x + y:=sum_lt (d:=true) (d':=false) aa ae (by decide) af
 exact⟨ar,ai,congrArg (fun z:Int=>Ending.returned (Value.agg #[.bool (decide (z < 0)),sv ar (canon z.natAbs) ai])) hz1,Eq.mp (congrArg (fun z:Int=>SRow _ .u32 ar (canon z.natAbs) ai) hz1) cL,cM⟩
 have cE:=oF af
 refine wA tr6 [] 40 [ve (.pointer (some ⟨q9,1,none⟩)),ve (sv Ax (canon x.natAbs) cx),ve (.pointer (some ⟨ab,1,none⟩)),ve (sv Ay (canon y.natAbs) cy),ve (iv (cmpI (val (canon x.natAbs)) (val (canon y.natAbs)))),vT] aZ ?_ ?_
 exact .F bw<| .J 0 isAgg24 a3<| .F bx<| .J 2 isAgg24 a4<| .C2 1 3 (fun m=>wcmp_c _ (canon x.natAbs) _ _ (canon y.natAbs) _ _ (hrx.new_ (aq.transNew m)) (hry.new_ (aq.transNew m)) (limbs_canon _) (limbs_canon _) (by first|omega|(simp only [List.length_nil,List.length_take,List.length_drop]; omega)|(simp only [List.length_cons,List.length_nil]; omega)) (by first|omega|(simp only [List.length_nil,List.length_take,List.length_drop]; omega)|(simp only [List.length_cons,List.length_nil]; omega)))<| .b 4 (r_geqK af) .nil
 refine aftI aZ b6 aq fun fJ cd bC cN a6 a7 aA=>?_
 have⟨ce,d7,d8⟩:=aA.f3 bw bx dJ
 have d9:=aA.g 5 23
 have⟨bD,cO,cP⟩:=nw3 a7 a3 a4 b7
 refine b8 _ _<| wt d9<| wk fun fK cQ=>?_
 refine wp_g0 [true,true,true,true,true,true,true,true,false] [(8,false)] 40
  [ve (pv q9),vT,ve (.pointer (some ⟨q9,1,none⟩)),ve (sv Ax (canon x.natAbs) cx),ve (.pointer (some ⟨ab,1,none⟩)),ve (sv Ay (canon y.natAbs) cy),
  (OP cd.heap.size 56 .u32 (canon (val (canon x.natAbs) - val (canon y.natAbs)))),(fun (v_:Value) (W:World)=>∃ (aM:Option Addr) (aN:Nat),v_=.agg #[.bool (decide (sgn true (val (canon (val (canon x.natAbs) - val (canon y.natAbs)))) < 0)),sv aM (canon (sgn true (val (canon (val (canon x.natAbs) - val (canon y.natAbs))))).natAbs) aN]∧SRow W .u32 aM (canon (sgn true (val (canon (val (canon x.natAbs) - val (canon y.natAbs))))).natAbs) aN),vt] bC (.eq (.eq (.eq (.eq (.eq (.eq (.cons (fun _ _ _ n ⟨_,_,e,h⟩=>⟨_,_,e,h.new_ n⟩) (.cons (fun _ _ _ n ⟨_,_,e,h⟩=>⟨_,_,e,h.new_ n⟩) (.tt .nil))))))))) ?_ ?_
 refine .F ce<| .o1 (tk rfl rfl fun _ w hn k=>⟨_,v_load rfl (k.eq1 0 24 rfl) (l_one isAgg4 ((bD.new_ hn).cell 0)),congrArg Value.bool aa⟩)<| .F ce<| .J 2 isAgg24 bD<| .F d7<| .J 4 isAgg24 cO ?_
 refine .o1 (tkC rfl (noG rfl) rfl fun _ w hn k=>(by
  refine ⟨#[sv Ax (canon x.natAbs) cx,sv Ay (canon y.natAbs) cy],_,args2 (k.eq1 3 27 rfl) (k.eq1 5 29 rfl),fun w=>by kernel_rfl,wminus_c _ (canon x.natAbs) _ _ (canon y.natAbs) _ _ (hrx.new_ (a6.transNew hn)) (hry.new_ (a6.transNew hn)) (limbs_canon _) (limbs_canon _) (by first|omega|(simp only [List.length_nil,List.length_take,List.length_drop]; omega)|(simp only [List.length_cons,List.length_nil]; omega)) (by first|omega|(simp only [List.length_nil,List.length_take,List.length_drop]; omega)|(simp only [List.length_cons,List.length_nil]; omega)) (cmpI_ge af),?_⟩
  rintro e w' ⟨eR,eS,rfl,hmo0,hm⟩
  exact⟨_,rfl,hm,⟨eR,eS,rfl,(hmo0.more hn.size)⟩⟩)) ?_
 refine .o1 (tkC rfl (noG rfl) rfl fun _ w hn k=>(by
  obtain⟨eT,eU,eV,ea⟩:=k.G 6 30
  refine ⟨#[.bool true,sv eT (canon (val (canon x.natAbs) - val (canon y.natAbs))) eU],_,args2 (k.eq1 1 25 rfl) eV,fun w=>by kernel_rfl,smade_c true _ (canon (val (canon x.natAbs) - val (canon y.natAbs))) _ _ ea.row (limbs_canon _) (by first|omega|(simp only [List.length_nil,List.length_take,List.length_drop]; omega)|(simp only [List.length_cons,List.length_nil]; omega)),?_⟩
  rintro e w' ⟨eW,eX,rfl,hmo0,hm⟩
  exact⟨_,rfl,hm,⟨eW,eX,rfl,hmo0⟩⟩)) ?_
 exact .off .nil
 refine aftI bC cN a6 fun eb fL fs cR cS cT bE=>?_
 have cf:=bE.f1 d8
 obtain⟨au,aj,bp,cU⟩:=bE.G 7 31
 have bp:eb.eval (.tmp 31)=.agg #[.bool (decide (sgn true (val (canon (val (canon x.natAbs) - val (canon y.natAbs)))) < 0)),sv au (canon (sgn true (val (canon (val (canon x.natAbs) - val (canon y.natAbs))))).natAbs) aj]:=bp
 have bF:=cP.new_ cT
 refine sS6 cf bp bF fun fM cV bG ft=>?_
 have cX:=cU.fr bF bG
 have cY:=cS.tR bG
 refine cQ _ _<| wp_ret (ret_k cR (v:=.agg #[.bool (decide (sgn true (val (canon (val (canon x.natAbs) - val (canon y.natAbs)))) < 0)),sv au (canon (sgn true (val (canon (val (canon x.natAbs) - val (canon y.natAbs))))).natAbs) aj]) (res_c rfl cf (l_two isAgg26 sizeOf26 cV)) ?_)
 have hz1:sgn true (val (canon (val (canon x.natAbs) - val (canon y.natAbs))))=x + y:=sum_gt (d:=true) (d':=false) aa ae (by decide) af
 exact⟨au,aj,congrArg (fun z:Int=>Ending.returned (Value.agg #[.bool (decide (z < 0)),sv au (canon z.natAbs) aj])) hz1,Eq.mp (congrArg (fun z:Int=>SRow _ .u32 au (canon z.natAbs) aj) hz1) cX,cY⟩
 have cB:=oF aa
 rcases bc (decide (y < 0)) with ac|ac
 have ci:=oT ac
 refine wA tr5 [] 40 [ve (pv q9),vF,ve (pv ab),vT,vF] ay ?_ ?_
 exact .F h8<| .o1 (tk rfl rfl fun _ w hn k=>⟨_,v_load rfl (k.eq1 0 5 rfl) (l_one isAgg4 ((ag.new_ hn).cell 0)),congrArg Value.bool aa⟩)<| .F ao<| .o1 (tk rfl rfl fun _ w hn k=>⟨_,v_load rfl (k.eq1 2 7 rfl) (l_one isAgg4 ((ah.new_ hn).cell 0)),congrArg Value.bool ac⟩)<| .T (fun k=>v_bin rfl (k.eq1 1 6 rfl) (k.eq1 3 8 rfl) (fun _=>rfl) (fun w=>by kernel_rfl)) .nil
 refine aftI ay bv aV fun fO fP aB bH ak a8 aC=>?_
 have⟨a9,ba,cj⟩:=aC.f3 h8 ao aU
 have ec:=aC.g 4 9
 have⟨aD,aE,bI⟩:=nw3 a8 ag ah aW
 refine aX _ _<| wf ec<| ws ?_
 refine bZ _ _<| wk fun fQ cZ=>wk fun fR bJ=>?_
 rcases bc (decide ((cmpI (val (canon x.natAbs)) (val (canon y.natAbs))) < 0)) with ad|ad
 have cl:=oT ad
 refine wA tr6 [] 40 [ve (.pointer (some ⟨q9,1,none⟩)),ve (sv Ax (canon x.natAbs) cx),ve (.pointer (some ⟨ab,1,none⟩)),ve (sv Ay (canon y.natAbs) cy),ve (iv (cmpI (val (canon x.natAbs)) (val (canon y.natAbs)))),vF] aB ?_ ?_
 exact .F a9<| .J 0 isAgg24 aD<| .F ba<| .J 2 isAgg24 aE<| .C2 1 3 (fun m=>wcmp_c _ (canon x.natAbs) _ _ (canon y.natAbs) _ _ (hrx.new_ (ak.transNew m)) (hry.new_ (ak.transNew m)) (limbs_canon _) (limbs_canon _) (by first|omega|(simp only [List.length_nil,List.length_take,List.length_drop]; omega)|(simp only [List.length_cons,List.length_nil]; omega)) (by first|omega|(simp only [List.length_nil,List.length_take,List.length_drop]; omega)|(simp only [List.length_cons,List.length_nil]; omega)))<| .b 4 (r_geqK ad) .nil
 refine aftI aB bH ak fun fS cm bK c0 bb bd aF=>?_
 have⟨ed,cn,ee⟩:=aF.f3 a9 ba cj
 have ef:=aF.g 5 23
 have⟨c1,bL,c3⟩:=nw3 bd aD aE bI
 refine bJ _ _<| wf ef<| ws ?_
 refine cZ _ _<| wk fun fT c5=>?_
 refine wp_g0 [true,true,true,true,true,true,true,true,false] [(8,false)] 40
  [ve (pv ab),vT,ve (.pointer (some ⟨ab,1,none⟩)),ve (sv Ay (canon y.natAbs) cy),ve (.pointer (some ⟨q9,1,none⟩)),ve (sv Ax (canon x.natAbs) cx),
  (OP cm.heap.size 56 .u32 (canon (val (canon y.natAbs) - val (canon x.natAbs)))),(fun (v_:Value) (W:World)=>∃ (aO:Option Addr) (aP:Nat),v_=.agg #[.bool (decide (sgn true (val (canon (val (canon y.natAbs) - val (canon x.natAbs)))) < 0)),sv aO (canon (sgn true (val (canon (val (canon y.natAbs) - val (canon x.natAbs))))).natAbs) aP]∧SRow W .u32 aO (canon (sgn true (val (canon (val (canon y.natAbs) - val (canon x.natAbs))))).natAbs) aP),vt] bK (.eq (.eq (.eq (.eq (.eq (.eq (.cons (fun _ _ _ n ⟨_,_,e,h⟩=>⟨_,_,e,h.new_ n⟩) (.cons (fun _ _ _ n ⟨_,_,e,h⟩=>⟨_,_,e,h.new_ n⟩) (.tt .nil))))))))) ?_ ?_
 refine .F cn<| .o1 (tk rfl rfl fun _ w hn k=>⟨_,v_load rfl (k.eq1 0 32 rfl) (l_one isAgg4 ((bL.new_ hn).cell 0)),congrArg Value.bool ac⟩)<| .F cn<| .J 2 isAgg24 bL<| .F ed<| .J 4 isAgg24 c1 ?_
 refine .o1 (tkC rfl (noG rfl) rfl fun _ w hn k=>(by
  refine ⟨#[sv Ay (canon y.natAbs) cy,sv Ax (canon x.natAbs) cx],_,args2 (k.eq1 3 35 rfl) (k.eq1 5 37 rfl),fun w=>by kernel_rfl,wminus_c _ (canon y.natAbs) _ _ (canon x.natAbs) _ _ (hry.new_ (bb.transNew hn)) (hrx.new_ (bb.transNew hn)) (limbs_canon _) (limbs_canon _) (by first|omega|(simp only [List.length_nil,List.length_take,List.length_drop]; omega)|(simp only [List.length_cons,List.length_nil]; omega)) (by first|omega|(simp only [List.length_nil,List.length_take,List.length_drop]; omega)|(simp only [List.length_cons,List.length_nil]; omega)) (Nat.le_of_lt (cmpI_lt ad)),?_⟩
  rintro e w' ⟨e0,e1,rfl,hmo0,hm⟩
  exact⟨_,rfl,hm,⟨e0,e1,rfl,(hmo0.more hn.size)⟩⟩)) ?_
 refine .o1 (tkC rfl (noG rfl) rfl fun _ w hn k=>(by
  obtain⟨az,e2,e3,eg⟩:=k.G 6 38
  refine ⟨#[.bool true,sv az (canon (val (canon y.natAbs) - val (canon x.natAbs))) e2],_,args2 (k.eq1 1 33 rfl) e3,fun w=>by kernel_rfl,smade_c true _ (canon (val (canon y.natAbs) - val (canon x.natAbs))) _ _ eg.row (limbs_canon _) (by first|omega|(simp only [List.length_nil,List.length_take,List.length_drop]; omega)|(simp only [List.length_cons,List.length_nil]; omega)),?_⟩
  rintro e w' ⟨e4,e5,rfl,hmo0,hm⟩
  exact⟨_,rfl,hm,⟨e4,e5,rfl,hmo0⟩⟩)) ?_
 exact .off .nil
 refine aftI bK c0 bb fun eh fU fu c8 c9 da bM=>?_
 have co:=bM.f1 ee
 obtain⟨av,al,bq,db⟩:=bM.G 7 39
 have bq:eh.eval (.tmp 39)=.agg #[.bool (decide (sgn true (val (canon (val (canon y.natAbs) - val (canon x.natAbs)))) < 0)),sv av (canon (sgn true (val (canon (val (canon y.natAbs) - val (canon x.natAbs))))).natAbs) al]:=bq
 have bN:=c3.new_ da
 refine sS6 co bq bN fun fV dc bO fv=>?_
 have de:=db.fr bN bO
 have df:=c9.tR bO
 refine c5 _ _<| wp_ret (ret_k c8 (v:=.agg #[.bool (decide (sgn true (val (canon (val (canon y.natAbs) - val (canon x.natAbs)))) < 0)),sv av (canon (sgn true (val (canon (val (canon y.natAbs) - val (canon x.natAbs))))).natAbs) al]) (res_c rfl co (l_two isAgg26 sizeOf26 dc)) ?_)
 have hz1:sgn true (val (canon (val (canon y.natAbs) - val (canon x.natAbs))))=x + y:=sum_lt (d:=false) (d':=true) aa ac (by decide) ad
 exact⟨av,al,congrArg (fun z:Int=>Ending.returned (Value.agg #[.bool (decide (z < 0)),sv av (canon z.natAbs) al])) hz1,Eq.mp (congrArg (fun z:Int=>SRow _ .u32 av (canon z.natAbs) al) hz1) de,df⟩
 have cl:=oF ad
 refine wA tr6 [] 40 [ve (.pointer (some ⟨q9,1,none⟩)),ve (sv Ax (canon x.natAbs) cx),ve (.pointer (some ⟨ab,1,none⟩)),ve (sv Ay (canon y.natAbs) cy),ve (iv (cmpI (val (canon x.natAbs)) (val (canon y.natAbs)))),vT] aB ?_ ?_
 exact .F a9<| .J 0 isAgg24 aD<| .F ba<| .J 2 isAgg24 aE<| .C2 1 3 (fun m=>wcmp_c _ (canon x.natAbs) _ _ (canon y.natAbs) _ _ (hrx.new_ (ak.transNew m)) (hry.new_ (ak.transNew m)) (limbs_canon _) (limbs_canon _) (by first|omega|(simp only [List.length_nil,List.length_take,List.length_drop]; omega)|(simp only [List.length_cons,List.length_nil]; omega)) (by first|omega|(simp only [List.length_nil,List.length_take,List.length_drop]; omega)|(simp only [List.length_cons,List.length_nil]; omega)))<| .b 4 (r_geqK ad) .nil
 refine aftI aB bH ak fun fX cq bP dg be bf aG=>?_
 have⟨cr,ei,ej⟩:=aG.f3 a9 ba cj
 have ek:=aG.g 5 23
 have⟨bQ,dh,di⟩:=nw3 bf aD aE bI
 refine bJ _ _<| wt ek<| wk fun fY dj=>?_
 refine wp_g0 [true,true,true,true,true,true,true,true,false] [(8,false)] 40
  [ve (pv q9),vF,ve (.pointer (some ⟨q9,1,none⟩)),ve (sv Ax (canon x.natAbs) cx),ve (.pointer (some ⟨ab,1,none⟩)),ve (sv Ay (canon y.natAbs) cy),
  (OP cq.heap.size 56 .u32 (canon (val (canon x.natAbs) - val (canon y.natAbs)))),(fun (v_:Value) (W:World)=>∃ (aQ:Option Addr) (aR:Nat),v_=.agg #[.bool (decide (sgn false (val (canon (val (canon x.natAbs) - val (canon y.natAbs)))) < 0)),sv aQ (canon (sgn false (val (canon (val (canon x.natAbs) - val (canon y.natAbs))))).natAbs) aR]∧SRow W .u32 aQ (canon (sgn false (val (canon (val (canon x.natAbs) - val (canon y.natAbs))))).natAbs) aR),vt] bP (.eq (.eq (.eq (.eq (.eq (.eq (.cons (fun _ _ _ n ⟨_,_,e,h⟩=>⟨_,_,e,h.new_ n⟩) (.cons (fun _ _ _ n ⟨_,_,e,h⟩=>⟨_,_,e,h.new_ n⟩) (.tt .nil))))))))) ?_ ?_
 refine .F cr<| .o1 (tk rfl rfl fun _ w hn k=>⟨_,v_load rfl (k.eq1 0 24 rfl) (l_one isAgg4 ((bQ.new_ hn).cell 0)),congrArg Value.bool aa⟩)<| .F cr<| .J 2 isAgg24 bQ<| .F ei<| .J 4 isAgg24 dh ?_
 refine .o1 (tkC rfl (noG rfl) rfl fun _ w hn k=>(by
  refine ⟨#[sv Ax (canon x.natAbs) cx,sv Ay (canon y.natAbs) cy],_,args2 (k.eq1 3 27 rfl) (k.eq1 5 29 rfl),fun w=>by kernel_rfl,wminus_c _ (canon x.natAbs) _ _ (canon y.natAbs) _ _ (hrx.new_ (be.transNew hn)) (hry.new_ (be.transNew hn)) (limbs_canon _) (limbs_canon _) (by first|omega|(simp only [List.length_nil,List.length_take,List.length_drop]; omega)|(simp only [List.length_cons,List.length_nil]; omega)) (by first|omega|(simp only [List.length_nil,List.length_take,List.length_drop]; omega)|(simp only [List.length_cons,List.length_nil]; omega)) (cmpI_ge ad),?_⟩
  rintro e w' ⟨e9,fa,rfl,hmo0,hm⟩
  exact⟨_,rfl,hm,⟨e9,fa,rfl,(hmo0.more hn.size)⟩⟩)) ?_
 refine .o1 (tkC rfl (noG rfl) rfl fun _ w hn k=>(by
  obtain⟨fb,fc,fd,el⟩:=k.G 6 30
  refine ⟨#[.bool false,sv fb (canon (val (canon x.natAbs) - val (canon y.natAbs))) fc],_,args2 (k.eq1 1 25 rfl) fd,fun w=>by kernel_rfl,smade_c false _ (canon (val (canon x.natAbs) - val (canon y.natAbs))) _ _ el.row (limbs_canon _) (by first|omega|(simp only [List.length_nil,List.length_take,List.length_drop]; omega)|(simp only [List.length_cons,List.length_nil]; omega)),?_⟩
  rintro e w' ⟨fe,ff,rfl,hmo0,hm⟩
  exact⟨_,rfl,hm,⟨fe,ff,rfl,hmo0⟩⟩)) ?_
 exact .off .nil
 refine aftI bP dg be fun em fZ fw dk dl dm bR=>?_
 have ct:=bR.f1 ej
 obtain⟨aw,am,br,dn⟩:=bR.G 7 31
 have br:em.eval (.tmp 31)=.agg #[.bool (decide (sgn false (val (canon (val (canon x.natAbs) - val (canon y.natAbs)))) < 0)),sv aw (canon (sgn false (val (canon (val (canon x.natAbs) - val (canon y.natAbs))))).natAbs) am]:=br
 have bS:=di.new_ dm
 refine sS6 ct br bS fun f0 dp bT fy=>?_
 have dr:=dn.fr bS bT
 have ds:=dl.tR bT
 refine dj _ _<| wp_ret (ret_k dk (v:=.agg #[.bool (decide (sgn false (val (canon (val (canon x.natAbs) - val (canon y.natAbs)))) < 0)),sv aw (canon (sgn false (val (canon (val (canon x.natAbs) - val (canon y.natAbs))))).natAbs) am]) (res_c rfl ct (l_two isAgg26 sizeOf26 dp)) ?_)
 have hz1:sgn false (val (canon (val (canon x.natAbs) - val (canon y.natAbs))))=x + y:=sum_gt (d:=false) (d':=true) aa ac (by decide) ad
 exact⟨aw,am,congrArg (fun z:Int=>Ending.returned (Value.agg #[.bool (decide (z < 0)),sv aw (canon z.natAbs) am])) hz1,Eq.mp (congrArg (fun z:Int=>SRow _ .u32 aw (canon z.natAbs) am) hz1) dr,ds⟩
 have ci:=oF ac
 refine wA tr5 [] 40 [ve (pv q9),vF,ve (pv ab),vF,vT] ay ?_ ?_
 exact .F h8<| .o1 (tk rfl rfl fun _ w hn k=>⟨_,v_load rfl (k.eq1 0 5 rfl) (l_one isAgg4 ((ag.new_ hn).cell 0)),congrArg Value.bool aa⟩)<| .F ao<| .o1 (tk rfl rfl fun _ w hn k=>⟨_,v_load rfl (k.eq1 2 7 rfl) (l_one isAgg4 ((ah.new_ hn).cell 0)),congrArg Value.bool ac⟩)<| .T (fun k=>v_bin rfl (k.eq1 1 6 rfl) (k.eq1 3 8 rfl) (fun _=>rfl) (fun w=>by kernel_rfl)) .nil
 refine aftI ay bv aV fun f2 cv bU dt bg bh aH=>?_
 have⟨cw,en,eo⟩:=aH.f3 h8 ao aU
 have ep:=aH.g 4 9
 have⟨bV,du,dv⟩:=nw3 bh ag ah aW
 refine aX _ _<| wt ep<| wk fun f3 dw=>?_
 refine wp_g0 [true,true,true,true,true,true,true,true,false] [(8,false)] 40
  [ve (pv q9),vF,ve (.pointer (some ⟨q9,1,none⟩)),ve (sv Ax (canon x.natAbs) cx),ve (.pointer (some ⟨ab,1,none⟩)),ve (sv Ay (canon y.natAbs) cy),
  (OP cv.heap.size 56 .u32 (canon (val (canon x.natAbs) + val (canon y.natAbs)))),(fun (v_:Value) (W:World)=>∃ (aS:Option Addr) (aT:Nat),v_=.agg #[.bool (decide (sgn false (val (canon (val (canon x.natAbs) + val (canon y.natAbs)))) < 0)),sv aS (canon (sgn false (val (canon (val (canon x.natAbs) + val (canon y.natAbs))))).natAbs) aT]∧SRow W .u32 aS (canon (sgn false (val (canon (val (canon x.natAbs) + val (canon y.natAbs))))).natAbs) aT),vt] bU (.eq (.eq (.eq (.eq (.eq (.eq (.cons (fun _ _ _ n ⟨_,_,e,h⟩=>⟨_,_,e,h.new_ n⟩) (.cons (fun _ _ _ n ⟨_,_,e,h⟩=>⟨_,_,e,h.new_ n⟩) (.tt .nil))))))))) ?_ ?_
 refine .F cw<| .o1 (tk rfl rfl fun _ w hn k=>⟨_,v_load rfl (k.eq1 0 10 rfl) (l_one isAgg4 ((bV.new_ hn).cell 0)),congrArg Value.bool aa⟩)<| .F cw<| .J 2 isAgg24 bV<| .F en<| .J 4 isAgg24 du ?_
 refine .o1 (tkC rfl (noG rfl) rfl fun _ w hn k=>(by
  refine ⟨#[sv Ax (canon x.natAbs) cx,sv Ay (canon y.natAbs) cy],_,args2 (k.eq1 3 13 rfl) (k.eq1 5 15 rfl),fun w=>by kernel_rfl,wplus_c _ (canon x.natAbs) _ _ (canon y.natAbs) _ _ (hrx.new_ (bg.transNew hn)) (hry.new_ (bg.transNew hn)) (limbs_canon _) (limbs_canon _) (by first|omega|(simp only [List.length_nil,List.length_take,List.length_drop]; omega)|(simp only [List.length_cons,List.length_nil]; omega)) (by first|omega|(simp only [List.length_nil,List.length_take,List.length_drop]; omega)|(simp only [List.length_cons,List.length_nil]; omega)),?_⟩
  rintro e w' ⟨fi,fj,rfl,hmo0,hm⟩
  exact⟨_,rfl,hm,⟨fi,fj,rfl,(hmo0.more hn.size)⟩⟩)) ?_
 refine .o1 (tkC rfl (noG rfl) rfl fun _ w hn k=>(by
  obtain⟨fk,fl,fm,er⟩:=k.G 6 16
  refine ⟨#[.bool false,sv fk (canon (val (canon x.natAbs) + val (canon y.natAbs))) fl],_,args2 (k.eq1 1 11 rfl) fm,fun w=>by kernel_rfl,smade_c false _ (canon (val (canon x.natAbs) + val (canon y.natAbs))) _ _ er.row (limbs_canon _) (by first|omega|(simp only [List.length_nil,List.length_take,List.length_drop]; omega)|(simp only [List.length_cons,List.length_nil]; omega)),?_⟩
  rintro e w' ⟨fn,fo,rfl,hmo0,hm⟩
  exact⟨_,rfl,hm,⟨fn,fo,rfl,hmo0⟩⟩)) ?_
 exact .off .nil
 refine aftI bU dt bg fun es f4 fz dx dy dz bW=>?_
 have cz:=bW.f1 eo
 obtain⟨ax,an,bs,dA⟩:=bW.G 7 17
 have bs:es.eval (.tmp 17)=.agg #[.bool (decide (sgn false (val (canon (val (canon x.natAbs) + val (canon y.natAbs)))) < 0)),sv ax (canon (sgn false (val (canon (val (canon x.natAbs) + val (canon y.natAbs))))).natAbs) an]:=bs
 have bX:=dv.new_ dz
 refine sS6 cz bs bX fun f5 dB bY fA=>?_
 have dD:=dA.fr bX bY
 have dE:=dy.tR bY
 refine dw _ _<| wp_ret (ret_k dx (v:=.agg #[.bool (decide (sgn false (val (canon (val (canon x.natAbs) + val (canon y.natAbs)))) < 0)),sv ax (canon (sgn false (val (canon (val (canon x.natAbs) + val (canon y.natAbs))))).natAbs) an]) (res_c rfl cz (l_two isAgg26 sizeOf26 dB)) ?_)
 have hz1:sgn false (val (canon (val (canon x.natAbs) + val (canon y.natAbs))))=x + y:=sum_same (d:=false) aa ac
 exact⟨ax,an,congrArg (fun z:Int=>Ending.returned (Value.agg #[.bool (decide (z < 0)),sv ax (canon z.natAbs) an])) hz1,Eq.mp (congrArg (fun z:Int=>SRow _ .u32 ax (canon z.natAbs) an) hz1) dD,dE⟩
def wAdd_c_P (a:Bool) (Aa:Option Addr) (ma:List Nat) (ca:Nat) (b:Bool) (Ab:Option Addr) (mb:List Nat) (cb:Nat) (w:World) (en:Ending) (w':World):Prop:=∃ (Ar0:Option Addr) (cr0:Nat),en=.returned (.tuple #[.agg #[.bool (decide (capI (goodI a ma + goodI b mb) < 0)),sv Ar0 (canon (capI (goodI a ma + goodI b mb)).natAbs) cr0],.bool (okI (goodI a ma + goodI b mb))])∧SRow w' .u32 Ar0 (canon (capI (goodI a ma + goodI b mb)).natAbs) cr0∧New w w'
theorem wAdd_c (a:Bool) (Aa:Option Addr) (ma:List Nat) (ca:Nat) (b:Bool) (Ab:Option Addr) (mb:List Nat) (cb:Nat) (w:World) (hra:SRow w .u32 Aa ma ca) (hrb:SRow w .u32 Ab mb cb) (ha:Limbs ma) (hb:Limbs mb):Calls prog 125 #[.agg #[.bool a,sv Aa ma ca],.agg #[.bool b,sv Ab mb cb]] w (wAdd_c_P a Aa ma ca b Ab mb cb w):=by
 refine enter_abs func125 rfl fun a0 am aW hp=>?_
 have am:a0.tmps.size=14:=am
 have an:New w w:=Upd.refl _ _
 have hp0:a0.eval (.tmp 0)=.agg #[.bool a,sv Aa ma ca]:=hp 0 _ rfl
 have hp1:a0.eval (.tmp 1)=.agg #[.bool b,sv Ab mb cb]:=hp 1 _ rfl
 refine wk fun K1 aX=>?_
 refine wB tr4 [] [] 14 [IsNew w 26 [.bool a,sv Aa ma ca],IsNew w 26 [.bool b,sv Ab mb cb],IsNew w 26 [.bool false,sv none ([]) 0],vF] [0,1,2] am ?_ heN ?_
 exact .X hp0<| .X hp1<| .Y<| .c .nil
 refine aftI am aW an fun a2 w3 ax aY ak bs ai=>?_
 obtain⟨q9,h8,aC,aD⟩:=ai.G 0 2
 obtain⟨aZ,ay,aE,aF⟩:=ai.G 1 3
 obtain⟨az,ap,aG,aH⟩:=ai.G 2 4
 have hne20:=ai.ne 0 2 2 4 h8 ap
 have hne21:=ai.ne 1 2 3 4 ay ap
 have bm:=Nat.le_trans an.size aC
 have bn:=Nat.le_trans an.size aE
 have bo:=Nat.le_trans an.size aG
 refine aX _ _ <| wk fun bt aI=>?_
 refine wp_g0 [true,true,true,true,true,true,true,true,false,false] [(8,false),(9,true)] 14
  [ve (.agg #[.bool a,sv Aa ma ca]),(fun (v_:Value) (W:World)=>∃ (A3:Option Addr) (c4:Nat),v_=.agg #[.bool (decide (goodI a ma < 0)),sv A3 (canon (goodI a ma).natAbs) c4]∧SRow W .u32 A3 (canon (goodI a ma).natAbs) c4),ve (.agg #[.bool b,sv Ab mb cb]),(fun (v_:Value) (W:World)=>∃ (A7:Option Addr) (c8:Nat),v_=.agg #[.bool (decide (goodI b mb < 0)),sv A7 (canon (goodI b mb).natAbs) c8]∧SRow W .u32 A7 (canon (goodI b mb).natAbs) c8),(fun (v_:Value) (W:World)=>∃ (ad:Option Addr) (ae:Nat),v_=.agg #[.bool (decide ((goodI a ma) + (goodI b mb) < 0)),sv ad (canon ((goodI a ma) + (goodI b mb)).natAbs) ae]∧SRow W .u32 ad (canon ((goodI a ma) + (goodI b mb)).natAbs) ae),(fun (v_:Value) (W:World)=>∃ (aa:Option Addr) (ab:Nat),v_=.tuple #[.agg #[.bool (decide (capI ((goodI a ma) + (goodI b mb)) < 0)),sv aa (canon (capI ((goodI a ma) + (goodI b mb))).natAbs) ab],.bool (okI ((goodI a ma) + (goodI b mb)))]∧SRow W .u32 aa (canon (capI ((goodI a ma) + (goodI b mb))).natAbs) ab),(fun (v_:Value) (W:World)=>∃ (af:Option Addr) (ag:Nat),v_=.agg #[.bool (decide (capI ((goodI a ma) + (goodI b mb)) < 0)),sv af (canon (capI ((goodI a ma) + (goodI b mb))).natAbs) ag]∧SRow W .u32 af (canon (capI ((goodI a ma) + (goodI b mb))).natAbs) ag),ve (.bool (okI ((goodI a ma) + (goodI b mb)))),vt,vt] ax (.eq (.cons (fun _ _ _ n ⟨_,_,e,h⟩=>⟨_,_,e,h.new_ n⟩) (.eq (.cons (fun _ _ _ n ⟨_,_,e,h⟩=>⟨_,_,e,h.new_ n⟩) (.cons (fun _ _ _ n ⟨_,_,e,h⟩=>⟨_,_,e,h.new_ n⟩) (.cons (fun _ _ _ n ⟨_,_,e,h⟩=>⟨_,_,e,h.new_ n⟩) (.cons (fun _ _ _ n ⟨_,_,e,h⟩=>⟨_,_,e,h.new_ n⟩) (.eq (.tt (.tt .nil)))))))))) ?_ ?_
 refine .L6 h8 aD ?_
 refine .o1 (tkC rfl (noG rfl) rfl fun _ w hn k=>(by
  refine ⟨#[.agg #[.bool a,sv Aa ma ca]],_,args1 (k.eq1 0 6 rfl),fun w=>by kernel_rfl,sgood_c a _ ma _ _ (hra.new_ (ak.transNew hn)) ha,?_⟩
  rintro e w' ⟨A1,c2,rfl,hmo0,hm⟩
  exact⟨_,rfl,hm,⟨A1,c2,rfl,hmo0⟩⟩)) ?_
 refine .L6 ay aF ?_
 refine .o1 (tkC rfl (noG rfl) rfl fun _ w hn k=>(by
  refine ⟨#[.agg #[.bool b,sv Ab mb cb]],_,args1 (k.eq1 2 8 rfl),fun w=>by kernel_rfl,sgood_c b _ mb _ _ (hrb.new_ (ak.transNew hn)) hb,?_⟩
  rintro e w' ⟨A5,c6,rfl,hmo0,hm⟩
  exact⟨_,rfl,hm,⟨A5,c6,rfl,hmo0⟩⟩)) ?_
 refine .o1 (tkC rfl (noG rfl) rfl fun _ w hn k=>(by
  obtain⟨A9,a1,a3,aJ⟩:=k.G 1 7
  obtain⟨a4,a5,a6,aK⟩:=k.G 3 9
  refine ⟨#[.agg #[.bool (decide (goodI a ma < 0)),sv A9 (canon (goodI a ma).natAbs) a1],.agg #[.bool (decide (goodI b mb < 0)),sv a4 (canon (goodI b mb).natAbs) a5]],_,args2 a3 a6,fun w=>by kernel_rfl,wsum_c (goodI a ma) _ _ (goodI b mb) _ _ _ aJ aK (goodI_lt _ _ ha) (goodI_lt _ _ hb),?_⟩
  rintro e w' ⟨a7,a8,rfl,hmo0,hm⟩
  exact⟨_,rfl,hm,⟨a7,a8,rfl,hmo0⟩⟩)) ?_
 refine .o1 (tkC rfl (noG rfl) rfl fun _ w hn k=>(by
  obtain⟨a9,ba,bb,aL⟩:=k.G 4 10
  refine ⟨#[.agg #[.bool (decide ((goodI a ma) + (goodI b mb) < 0)),sv a9 (canon ((goodI a ma) + (goodI b mb)).natAbs) ba]],_,args1 bb,fun w=>by kernel_rfl,wfits_c ((goodI a ma) + (goodI b mb)) _ _ _ aL,?_⟩
  rintro e w' ⟨bd,be,rfl,hmo0,hm⟩
  exact⟨_,rfl,hm,⟨bd,be,rfl,hmo0⟩⟩)) ?_
 refine .o1 (tk rfl rfl fun _ w hn k=>(by
  obtain⟨bf,bg,bh,aM⟩:=k.G 5 11
  exact⟨_,v_extract rfl bh rfl,⟨bf,bg,rfl,aM⟩⟩)) ?_
 refine .o1 (tk rfl rfl fun _ w hn k=>(by
  obtain⟨aj,bu,bi,bp⟩:=k.G 5 11
  exact⟨_,v_extract rfl bi rfl,rfl⟩)) ?_
 exact .off<| .off .nil
 refine aftI ax aY ak fun aq bv ar aN aO aP al=>?_
 have aA:=al.f1 ap
 obtain⟨aj,ah,ao,aQ⟩:=al.G 6 12
 have ao:aq.eval (.tmp 12)=.agg #[.bool (decide (capI ((goodI a ma) + (goodI b mb)) < 0)),sv aj (canon (capI ((goodI a ma) + (goodI b mb))).natAbs) ah]:=ao
 have aB:=al.g 7 13
 have au:=aH.new_ aP
 refine sS6 aA ao au fun bw aR av bq=>?_
 have aT:=aQ.fr au av
 have aU:=aO.tR av
 refine sP aB ar aN fun bj br aV ac bl=>?_
 have⟨bk,bz,bA⟩:=ac.q3 aA ao aB
 refine aI _ _<| wp_ret (ret_k aV (v:=.tuple #[.agg #[.bool (decide (capI ((goodI a ma) + (goodI b mb)) < 0)),sv aj (canon (capI ((goodI a ma) + (goodI b mb))).natAbs) ah],.bool (okI ((goodI a ma) + (goodI b mb)))]) (res_ct rfl bk bl (l_two isAgg26 sizeOf26 aR)) ?_)
 exact⟨aj,ah,rfl,aT,aU⟩
def wNeg_c_P (a:Bool) (Aa:Option Addr) (ma:List Nat) (ca:Nat) (w:World) (en:Ending) (w':World):Prop:=∃ (Ar0:Option Addr) (cr0:Nat),en=.returned (.agg #[.bool (decide (-(goodI a ma) < 0)),sv Ar0 (canon (-(goodI a ma)).natAbs) cr0])∧SRow w' .u32 Ar0 (canon (-(goodI a ma)).natAbs) cr0∧New w w'
theorem wNeg_c (a:Bool) (Aa:Option Addr) (ma:List Nat) (ca:Nat) (w:World) (hra:SRow w .u32 Aa ma ca) (ha:Limbs ma):Calls prog 60 #[.agg #[.bool a,sv Aa ma ca]] w (wNeg_c_P a Aa ma ca w):=by
 refine enter_abs func60 rfl fun a0 ah a5 hp=>?_
 have ah:a0.tmps.size=12:=ah
 have aj:New w w:=Upd.refl _ _
 have hp0:a0.eval (.tmp 0)=.agg #[.bool a,sv Aa ma ca]:=hp 0 _ rfl
 have h8:=(canon_len8 _).2 (good_lt (b:=a) ha)
 refine wk fun K1 a6=>?_
 refine wB tr2 [] [] 12 [IsNew w 26 [.bool a,sv Aa ma ca],IsNew w 26 [.bool false,sv none ([]) 0]] [0,1] ah ?_ heN ?_
 exact .X hp0<| .Y .nil
 refine aftI ah a5 aj fun a2 w3 aC a7 af bi ak=>?_
 obtain⟨q9,h8,aG,aH⟩:=ak.G 0 1
 obtain⟨aD,aE,aI,al⟩:=ak.G 1 2
 have hne16:=ak.ne 0 1 1 2 h8 aE
 have bd:=Nat.le_trans aj.size aG
 have be:=Nat.le_trans aj.size aI
 refine a6 _ _ <| wk fun bj aJ=>?_
 refine wp_g [true,true,true,false] [] [(3,false)] 12
  [ve (.agg #[.bool a,sv Aa ma ca]),(fun (v_:Value) (W:World)=>∃ (A3:Option Addr) (c4:Nat),v_=.agg #[.bool (decide (goodI a ma < 0)),sv A3 (canon (goodI a ma).natAbs) c4]∧SRow W .u32 A3 (canon (goodI a ma).natAbs) c4),IsNew w3 26 [.bool false,sv none ([]) 0],vt]
  [2] (newsCons (fun v w h=>IsNew.old h) newsNil) aC (.eq (.cons (fun _ _ _ n ⟨_,_,e,h⟩=>⟨_,_,e,h.new_ n⟩) (.nw (.tt .nil)))) ?_ (fun i h=>by cases h) ?_
 refine .L6 h8 aH ?_
 refine .o1 (tkC rfl (noG rfl) rfl fun _ w hn k=>(by
  refine ⟨#[.agg #[.bool a,sv Aa ma ca]],_,args1 (k.eq1 0 4 rfl),fun w=>by kernel_rfl,sgood_c a _ ma _ _ (hra.new_ (af.transNew hn)) ha,?_⟩
  rintro e w' ⟨A1,c2,rfl,hmo0,hm⟩
  exact⟨_,rfl,hm,⟨A1,c2,rfl,hmo0⟩⟩)) ?_
 exact .Y<| .off .nil
 refine aftI aC a7 af fun a8 bk am aK aL aM ag=>?_
 have a9:=ag.f1 aE
 obtain⟨ai,ae,an,aN⟩:=ag.G 1 5
 have an:a8.eval (.tmp 5)=.agg #[.bool (decide (goodI a ma < 0)),sv ai (canon (goodI a ma).natAbs) ae]:=an
 obtain⟨ao,ap,aq,ar⟩:=ag.G 2 3
 have aO:=al.new_ aM
 have hne37:aD ≠ ao:=by have h1:=al.lt; have h2:=aq; omega
 have bf:=Nat.le_trans af.size aq
 refine sS6 ap an ar fun bl au av aP=>?_
 have aR:=aN.fr ar av
 have aS:=aP hne37 aO
 have aT:=aL.tR av
 refine aJ _ _ <| wk fun bn aU=>?_
 refine wp_g0 [true,true,true,true,true,true,false] [(6,false)] 12
  [ve (pv ao),ve (.bool (decide (goodI a ma < 0))),ve (.bool (!(decide (goodI a ma < 0)))),ve (.pointer (some ⟨ao,1,none⟩)),ve (sv ai (canon (goodI a ma).natAbs) ae),(fun (v_:Value) (W:World)=>∃ (ab:Option Addr) (ac:Nat),v_=.agg #[.bool (decide (sgn (!(decide (goodI a ma < 0))) (val (canon (goodI a ma).natAbs)) < 0)),sv ab (canon (sgn (!(decide (goodI a ma < 0))) (val (canon (goodI a ma).natAbs))).natAbs) ac]∧SRow W .u32 ab (canon (sgn (!(decide (goodI a ma < 0))) (val (canon (goodI a ma).natAbs))).natAbs) ac),vt] am (.eq (.eq (.eq (.eq (.eq (.cons (fun _ _ _ n ⟨_,_,e,h⟩=>⟨_,_,e,h.new_ n⟩) (.tt .nil))))))) ?_ ?_
 refine .F ap<| .J 0 isAgg4 au<| .T (fun k=>v_not rfl (k.eq1 1 7 rfl))<| .F ap<| .J 3 isAgg24 au ?_
 refine .o1 (tkC rfl (noG rfl) rfl fun _ w hn k=>(by
  refine ⟨#[.bool (!(decide (goodI a ma < 0))),sv ai (canon (goodI a ma).natAbs) ae],_,args2 (k.eq1 2 8 rfl) (k.eq1 4 10 rfl),fun w=>by kernel_rfl,smade_c (!(decide (goodI a ma < 0))) _ (canon (goodI a ma).natAbs) _ _ (aR.new_ hn) (limbs_canon _) (by first|omega|(simp only [List.length_nil,List.length_take,List.length_drop]; omega)|(simp only [List.length_cons,List.length_nil]; omega)),?_⟩
  rintro e w' ⟨A9,ba,rfl,hmo0,hm⟩
  exact⟨_,rfl,hm,⟨A9,ba,rfl,hmo0⟩⟩)) ?_
 exact .off .nil
 refine aftI am aK aT fun bb bo bg aV aW aX aw=>?_
 have aF:=aw.f1 a9
 obtain⟨ad,aa,ax,aY⟩:=aw.G 5 11
 have ax:bb.eval (.tmp 11)=.agg #[.bool (decide (sgn (!(decide (goodI a ma < 0))) (val (canon (goodI a ma).natAbs)) < 0)),sv ad (canon (sgn (!(decide (goodI a ma < 0))) (val (canon (goodI a ma).natAbs))).natAbs) aa]:=ax
 have ay:=aS.new_ aX
 refine sS6 aF ax ay fun bp aZ az bh=>?_
 have a3:=aY.fr ay az
 have a4:=aW.tR az
 refine aU _ _<| wp_ret (ret_k aV (v:=.agg #[.bool (decide (sgn (!(decide (goodI a ma < 0))) (val (canon (goodI a ma).natAbs)) < 0)),sv ad (canon (sgn (!(decide (goodI a ma < 0))) (val (canon (goodI a ma).natAbs))).natAbs) aa]) (res_c rfl aF (l_two isAgg26 sizeOf26 aZ)) ?_)
 have hz1:sgn (!(decide (goodI a ma < 0))) (val (canon (goodI a ma).natAbs)) = -(goodI a ma):=neg_sgn rfl
 exact⟨ad,aa,congrArg (fun z:Int=>Ending.returned (Value.agg #[.bool (decide (z < 0)),sv ad (canon z.natAbs) aa])) hz1,Eq.mp (congrArg (fun z:Int=>SRow _ .u32 ad (canon z.natAbs) aa) hz1) a3,a4⟩
def qnums_c_P  (a:Nm) (b:Nm) (w:World) (en:Ending) (w':World):Prop:=∃ (Ar0:Option Addr) (cr0:Nat) (Ar1:Option Addr) (cr1:Nat),en=.returned (.tuple #[vv (numV (addM a b).1 (addM a b).2).1 Ar0 cr0 Ar1 cr1,iv ((numV (addM a b).1 (addM a b).2).2)])∧SRow w' .u32 Ar0 ((numV (addM a b).1 (addM a b).2).1.mag) cr0∧SRow w' .u16 Ar1 ((numV (addM a b).1 (addM a b).2).1.s) cr1∧New w w'
theorem qnums_c  (a:Nm) (b:Nm) (w:World):Calls prog 69 #[.string ⟨#[43]⟩,nv a,nv b] w (qnums_c_P a b w):=by
 refine enter_abs func69 rfl fun a0 aw cI hp=>?_
 have aw:a0.tmps.size=51:=aw
 have ax:New w w:=Upd.refl _ _
 have hp0:a0.eval (.tmp 0)=.string ⟨#[43]⟩:=hp 0 _ rfl
 have hp1:a0.eval (.tmp 1)=nv a:=hp 1 _ rfl
 have hp2:a0.eval (.tmp 2)=nv b:=hp 2 _ rfl
 refine wk fun K1 cJ=>?_
 refine wB tr4 [] [] 51 [IsNew w 23 [iv a.k,iv a.n],IsNew w 23 [iv b.k,iv b.n],IsNew w 46 z7,ve (iv 0)] [0,1,2] aw ?_ heN ?_
 exact .X hp1<| .X hp2<| .Y<| .c .nil
 refine aftI aw cI ax fun a2 w3 bU cK aJ dx ak=>?_
 have h8:=ak.f1 hp0
 obtain⟨bV,h9,bZ,aK⟩:=ak.G 0 4
 obtain⟨bW,bX,b0,aL⟩:=ak.G 1 5
 obtain⟨aq,aM,b1,aN⟩:=ak.G 2 6
 have hne21:=ak.ne 0 2 4 6 h9 aM
 have hne22:=ak.ne 1 2 5 6 bX aM
 have db:=Nat.le_trans ax.size bZ
 have dc:=Nat.le_trans ax.size b0
 have dd:=Nat.le_trans ax.size b1
 refine cJ _ _ <| wk fun dy b2=>?_
 refine wB tr1 [] [] 51 [IsNew w3 23 [iv 0,iv 0]] [0] bU ?_ heN ?_
 exact .Y .nil
 refine aftI bU cK aJ fun dz dA aO b3 b4 av aj=>?_
 have⟨cL,cM,cN,cO⟩:=aj.f4 h8 h9 bX aM
 obtain⟨aP,cP,al,b5⟩:=aj.G 0 8
 have⟨b6,b7,b8⟩:=nw3 av aK aL aN
 have hne45:bV ≠ aP:=by have h1:=aK.lt; have h2:=al; omega
 have hne46:bW ≠ aP:=by have h1:=aL.lt; have h2:=al; omega
 have hne47:aq ≠ aP:=by have h1:=aN.lt; have h2:=al; omega
 have de:=Nat.le_trans aJ.size al
 refine b2 _ _ <| wk fun dB b9=>?_
 refine wA tr1 [] 51 [vT] aO ?_ ?_
 exact .c .nil
 refine aftI aO b3 b4 fun dC dD aQ ca cb am ag=>?_
 have⟨cQ,cR,cS,cT⟩:=ag.f4 cL cM cN cO
 have cU:=ag.f1 cP
 have cV:=ag.g 0 9
 have⟨cc,cd,ce,cf⟩:=nw4 am b6 b7 b8 b5
 refine b9 _ _ <| wk fun dE ch=>?_
 refine wk fun dF ci=>?_
 refine wA tr1 [] 51 [ve (.string ⟨#[43]⟩)] aQ ?_ ?_
 exact .M cQ .nil
 refine aftI aQ ca cb fun dG dH aR cj cl an ah=>?_
 have⟨cW,cX,cY,cZ⟩:=ah.f4 cR cS cT cU
 have c0:=ah.f1 cV
 have bY:=ah.g 0 10
 have⟨cm,cn,co,cp⟩:=nw4 an cc cd ce cf
 refine ci _ _<| wb<| wk fun dI cq=>?_
 refine wA tr2 [] 51 [vT,vT] aR ?_ ?_
 exact .T (fun k=>v_bin rfl (k.fx 10 bY) rfl (fun _=>rfl) (r_eqlS (r:=true) (by kernel_rfl)))<| .B 0 .nil
 refine aftI aR cj cl fun dJ dK aS cr be ao ae=>?_
 have⟨c1,c2,c3,c4⟩:=ae.f4 cW cX cY cZ
 have⟨c5,dL⟩:=ae.f2 c0 bY
 have ct:=ae.g 1 14
 have⟨bf,bg,bh,bi⟩:=nw4 ao cm cn co cp
 refine cq _ _<| wt ct<| wp_g [true,true,true,true,true,true,false,false] [5] [(6,false),(7,true)] 51
  [ve (nv a),ve (nv b),ve (.tuple #[nv ((addM a b).1),.bool ((addM a b).2)]),ve (.tuple #[nv ((addM a b).1),.bool ((addM a b).2)]),ve (nv ((addM a b).1)),ve (.bool ((addM a b).2)),vt,vt]
  [] newsNil aS (.eq (.eq (.eq (.eq (.eq (.eq (.tt (.tt .nil)))))))) ?_ ?_ ?_
 refine .L2 c1 bf<| .L2 c2 bg<| .C2 0 1 (fun p=>radd_c a b _)<| .N 2<| .E 3 ?_
 refine .o3 ?_
 exact .off<| .off .nil
 refine eg1 ?_
 exact eager_take rfl rfl fun _ w hn k=>⟨.bool ((addM a b).2),fun w=>v_extract rfl (k.eq1 3 16 rfl) rfl,rfl⟩
 refine aftI aS cr be fun aT df ay bj bk az af=>?_
 have⟨cu,aU,dg⟩:=af.f3 c3 c4 c5
 have aV:=af.g 4 20
 have aW:=af.g 5 21
 have⟨bl,bm⟩:=nw2 az bh bi
 refine sS2 aU aV bm fun dh bn bo bp=>?_
 have br:=bp hne47 bl
 have bs:=bk.tR bo
 refine sP aW ay bj fun cv aA bt ab cy=>?_
 have⟨cw,cx,dj⟩:=ab.q3 cu aU aV
 have dk:=ab.q aW
 refine ch _ _ <| wk fun dl bu=>?_
 refine wk fun dm bv=>?_
 refine wA tr2 [] 51 [ve (.bool ((addM a b).2)),ve (.bool (!((addM a b).2)))] aA ?_ ?_
 exact .M cy<| .T (fun k=>v_not rfl (k.eq1 0 46 rfl)) .nil
 refine aftI aA bt bs fun aY dn ai aB aC aD ap=>?_
 have⟨aZ,cz⟩:=ap.f2 cw cx
 have a1:=ap.g 1 47
 have⟨aE,bw⟩:=nw2 aD br bn
 refine bv _ _ ?_
 rcases bc ((addM a b).2) with aa|aa
 have bx:aY.eval (.tmp 47)=.bool false:=a1.trans (congrArg Value.bool (by rw [aa]; rfl))
 refine wf bx<| ws<| bu _ _<| wk fun dp bz=>?_
 refine wA [true,true,false,false] [(2,false),(3,true)] 51 [ve (nv ((addM a b).1)),ve (vv (Vl.mk 3 ((addM a b).1).k ((addM a b).1).n false [] [] 0) none 0 none 0),vt,vt] ai ?_ ?_
 exact .L2 cz bw<| .C 0 (fun p=>qnum_c ((addM a b).1) _)<| .off<| .off .nil
 refine aftI ai aB aC fun a3 dq aF bA bB bC aG=>?_
 have a4:=aG.f1 aZ
 have a5:=aG.g 1 50
 have bD:=aE.new_ bC
 refine sS8 a4 a5 bD fun cA bF bE c6=>?_
 have bH:=bB.tR bE
 refine sP (v:=iv 0) rfl aF bA fun cB c8 bI ac cD=>?_
 have⟨cC,ds⟩:=ac.q2 a4 a5
 refine bz _ _<| wp_ret (ret_k bI (res8 cC cD bF) ?_)
 exact rV (by first|rfl|(simp only [numV,numberedV,aa,bsm] <;> rfl)|(exfalso; omega)) bH
 have bJ:aY.eval (.tmp 47)=.bool true:=a1.trans (congrArg Value.bool (by rw [aa]; rfl))
 refine wt bJ<| wk fun dt bK=>?_
 refine wA [true,false,false] [(1,false),(2,true)] 51 [ve (vv (Vl.mk 0 0 0 false [] [] 0) none 0 none 0),vt,vt] ai ?_ ?_
 exact .Z<| .off<| .off .nil
 refine aftI ai aB aC fun a8 du aH bL bM bN aI=>?_
 have a9:=aI.f1 aZ
 have ba:=aI.g 0 48
 have bO:=aE.new_ bN
 refine sS8 a9 ba bO fun cE bQ bP c9=>?_
 have bS:=bM.tR bP
 refine sP (v:=iv 3) rfl aH bL fun cF da bT ad cH=>?_
 have⟨cG,dw⟩:=ad.q2 a9 ba
 refine bK _ _<| wp_ret (ret_k bT (res8 cG cH bQ) ?_)
 exact rV (by first|rfl|(simp only [numV,numberedV,aa,bsm] <;> rfl)|(exfalso; omega)) bS
def qbigs_c_P  (a:Bool) (Aa:Option Addr) (ma:List Nat) (ca:Nat) (b:Bool) (Ab:Option Addr) (mb:List Nat) (cb:Nat) (w:World) (en:Ending) (w':World):Prop:=∃ (Ar0:Option Addr) (cr0:Nat) (Ar1:Option Addr) (cr1:Nat),en=.returned (.tuple #[vv (bigZ (goodI a ma + goodI b mb)).1 Ar0 cr0 Ar1 cr1,iv ((bigZ (goodI a ma + goodI b mb)).2)])∧SRow w' .u32 Ar0 ((bigZ (goodI a ma + goodI b mb)).1.mag) cr0∧SRow w' .u16 Ar1 ((bigZ (goodI a ma + goodI b mb)).1.s) cr1∧New w w'
theorem qbigs_c  (a:Bool) (Aa:Option Addr) (ma:List Nat) (ca:Nat) (b:Bool) (Ab:Option Addr) (mb:List Nat) (cb:Nat) (w:World) (hra:SRow w .u32 Aa ma ca) (hrb:SRow w .u32 Ab mb cb) (ha:Limbs ma) (hb:Limbs mb):Calls prog 67 #[.string ⟨#[43]⟩,.agg #[.bool a,sv Aa ma ca],.agg #[.bool b,sv Ab mb cb]] w (qbigs_c_P a Aa ma ca b Ab mb cb w):=by
 refine enter_abs func67 rfl fun a0 aK dx hp=>?_
 have aK:a0.tmps.size=58:=aK
 have aL:New w w:=Upd.refl _ _
 have hp0:a0.eval (.tmp 0)=.string ⟨#[43]⟩:=hp 0 _ rfl
 have hp1:a0.eval (.tmp 1)=.agg #[.bool a,sv Aa ma ca]:=hp 1 _ rfl
 have hp2:a0.eval (.tmp 2)=.agg #[.bool b,sv Ab mb cb]:=hp 2 _ rfl
 refine wk fun K1 dy=>?_
 refine wB tr4 [] [] 58 [IsNew w 26 [.bool a,sv Aa ma ca],IsNew w 26 [.bool b,sv Ab mb cb],IsNew w 46 z7,ve (iv 0)] [0,1,2] aK ?_ heN ?_
 exact .X hp1<| .X hp2<| .Y<| .c .nil
 refine aftI aK dx aL fun a2 w3 cu dz a4 eB au=>?_
 have h8:=au.f1 hp0
 obtain⟨cv,h9,cy,a5⟩:=au.G 0 4
 obtain⟨cw,cx,cz,a6⟩:=au.G 1 5
 obtain⟨aF,a7,cA,a8⟩:=au.G 2 6
 have hne21:=au.ne 0 2 4 6 h9 a7
 have hne22:=au.ne 1 2 5 6 cx a7
 have d6:=Nat.le_trans aL.size cy
 have d7:=Nat.le_trans aL.size cz
 have d8:=Nat.le_trans aL.size cA
 refine dy _ _ <| wk fun eC cB=>?_
 refine wB tr1 [] [] 58 [IsNew w3 26 [.bool false,sv none ([]) 0]] [0] cu ?_ heN ?_
 exact .Y .nil
 refine aftI cu dz a4 fun eD eE a9 cC cD aI ap=>?_
 have⟨dA,dB,dC,dD⟩:=ap.f4 h8 h9 cx a7
 obtain⟨ba,dE,av,cE⟩:=ap.G 0 8
 have⟨cF,cG,cH⟩:=nw3 aI a5 a6 a8
 have hne45:cv ≠ ba:=by have h1:=a5.lt; have h2:=av; omega
 have hne46:cw ≠ ba:=by have h1:=a6.lt; have h2:=av; omega
 have hne47:aF ≠ ba:=by have h1:=a8.lt; have h2:=av; omega
 have d9:=Nat.le_trans a4.size av
 refine cB _ _ <| wk fun eF cI=>?_
 refine wA tr1 [] 58 [vT] a9 ?_ ?_
 exact .c .nil
 refine aftI a9 cC cD fun eG eH bb cJ cK aw al=>?_
 have⟨dF,dG,dH,dI⟩:=al.f4 dA dB dC dD
 have dJ:=al.f1 dE
 have dK:=al.g 0 9
 have⟨cL,cM,cN,cO⟩:=nw4 aw cF cG cH cE
 refine cI _ _ <| wk fun eI cP=>?_
 refine wA tr1 [] 58 [ve (iv 0)] bb ?_ ?_
 exact .c .nil
 refine aftI bb cJ cK fun eJ eK bd cQ cR ax aj=>?_
 have⟨dL,dM,dN,dO⟩:=aj.f4 dF dG dH dI
 have⟨dP,dQ⟩:=aj.f2 dJ dK
 have dR:=aj.g 0 10
 have⟨cS,cT,cU,cV⟩:=nw4 ax cL cM cN cO
 refine cP _ _ <| wk fun eL cW=>?_
 refine wk fun eM cX=>?_
 refine wA tr1 [] 58 [ve (.string ⟨#[43]⟩)] bd ?_ ?_
 exact .M dL .nil
 refine aftI bd cQ cR fun eN eO be cY bw ay ak=>?_
 have⟨dS,dT,dU,dV⟩:=ak.f4 dM dN dO dP
 have⟨dW,cZ⟩:=ak.f2 dQ dR
 have bf:=ak.g 0 11
 have⟨bx,bz,bA,bB⟩:=nw4 ay cS cT cU cV
 refine cX _ _<| wb<| wk fun ea bC=>?_
 refine wA tr2 [] 58 [vT,vT] be ?_ ?_
 exact .T (fun k=>v_bin rfl (k.fx 11 bf) rfl (fun _=>rfl) (r_eqlS (r:=true) (by kernel_rfl)))<| .B 0 .nil
 refine aftI be cY bw fun eb ec aM bD az am ae=>?_
 have⟨c0,c1,c3,c5⟩:=ae.f4 dS dT dU dV
 have⟨c8,c9,ed⟩:=ae.f3 dW cZ bf
 have da:=ae.g 1 18
 have⟨bE,bF,bG,bH⟩:=nw4 am bx bz bA bB
 refine bC _ _<| wt da<| wp_gS (fun W=>True) (fun W W' hn h=>trivial) trivial [true,true,true,true,true,true,false,false] [5] [(6,false),(7,true)] 58
  [ve (.agg #[.bool a,sv Aa ma ca]),ve (.agg #[.bool b,sv Ab mb cb]),(fun (v_:Value) (W:World)=>∃ (A3:Option Addr) (c4:Nat),v_=.tuple #[.agg #[.bool (decide (capI (goodI a ma + goodI b mb) < 0)),sv A3 (canon (capI (goodI a ma + goodI b mb)).natAbs) c4],.bool (okI (goodI a ma + goodI b mb))]∧SRow W .u32 A3 (canon (capI (goodI a ma + goodI b mb)).natAbs) c4),(fun (v_:Value) (W:World)=>∃ (A9:Option Addr) (ai:Nat),v_=.tuple #[.agg #[.bool (decide (capI (goodI a ma + goodI b mb) < 0)),sv A9 (canon (capI (goodI a ma + goodI b mb)).natAbs) ai],.bool (okI (goodI a ma + goodI b mb))]∧SRow W .u32 A9 (canon (capI (goodI a ma + goodI b mb)).natAbs) ai),(fun (v_:Value) (W:World)=>∃ (aq:Option Addr) (ar:Nat),v_=.agg #[.bool (decide (capI (goodI a ma + goodI b mb) < 0)),sv aq (canon (capI (goodI a ma + goodI b mb)).natAbs) ar]∧SRow W .u32 aq (canon (capI (goodI a ma + goodI b mb)).natAbs) ar),ve (.bool (okI (goodI a ma + goodI b mb))),vt,vt]
  [] newsNil aM (.eq (.eq (.cons (fun _ _ _ n ⟨_,_,e,h⟩=>⟨_,_,e,h.new_ n⟩) (.cons (fun _ _ _ n ⟨_,_,e,h⟩=>⟨_,_,e,h.new_ n⟩) (.cons (fun _ _ _ n ⟨_,_,e,h⟩=>⟨_,_,e,h.new_ n⟩) (.eq (.tt (.tt .nil)))))))) ?_ ?_ ?_
 refine .L6 c0 bE<| .L6 c1 bF ?_
 refine .o1 (tkC rfl (noG rfl) rfl fun _ w hn k=>(by
  refine ⟨#[.agg #[.bool a,sv Aa ma ca],.agg #[.bool b,sv Ab mb cb]],_,args2 (k.eq1 0 21 rfl) (k.eq1 1 22 rfl),fun w=>by kernel_rfl,wAdd_c a _ ma _ b _ mb _ _ (hra.new_ (az.transNew hn)) (hrb.new_ (az.transNew hn)) ha hb,?_⟩
  rintro e w' ⟨A1,c2,rfl,hmo0,hm⟩
  exact⟨_,rfl,hm,⟨A1,c2,rfl,hmo0⟩⟩)) ?_
 refine .o1 (tk rfl rfl fun _ w hn k=>(by
  obtain⟨A5,c6,e7,dX⟩:=k.G 2 23
  exact⟨_,v_move rfl e7,⟨A5,c6,rfl,dX⟩⟩)) ?_
 refine .o1 (tk rfl rfl fun _ w hn k=>(by
  obtain⟨dY,dZ,d0,db⟩:=k.G 3 20
  exact⟨_,v_extract rfl d0 rfl,⟨dY,dZ,rfl,db⟩⟩)) ?_
 refine .o3 ?_
 exact .off<| .off .nil
 refine eg1 ?_
 exact eager_takeG rfl (noG rfl) fun _ w hn k=>(by
  obtain⟨eP,eQ,d1,ee⟩:=k.G 3 20
  exact⟨_,fun w hS=>v_extract rfl d1 rfl,rfl⟩)
 intro aJ ef _ aA af
 obtain⟨aN,bI,bJ⟩:=aft af aM bD az aA
 have⟨dc,bg,eg,dd⟩:=af.f4 c3 c5 c8 c9
 obtain⟨ad,aa,aB,bK⟩:=af.G 4 24
 have aB:aJ.eval (.tmp 24)=.agg #[.bool (decide (capI (goodI a ma + goodI b mb) < 0)),sv ad (canon (capI (goodI a ma + goodI b mb)).natAbs) aa]:=aB
 have bh:=af.g 5 25
 have⟨bL,aO⟩:=nw2 aA bG bH
 refine sS6 bg aB aO fun eh bM aP bN=>?_
 have bP:=bK.fr aO aP
 have bQ:=bN hne47 bL
 have bR:=bJ.tR aP
 refine sP bh aN bI fun de aQ bS ab di=>?_
 have⟨df,dg,dh⟩:=ab.q3 dc bg dd
 have⟨ej,ek⟩:=ab.q2 aB bh
 refine cW _ _ <| wk fun el bT=>?_
 refine wk fun em bU=>?_
 refine wA tr2 [] 58 [ve (iv 0),vF] aQ ?_ ?_
 exact .M dh<| .T (fun k=>v_bin rfl (k.eq1 0 50 rfl) rfl (fun _=>rfl) (fun w=>by kernel_rfl)) .nil
 refine aftI aQ bS bR fun en eo aR bV bW aC an=>?_
 have⟨dj,dk,dl⟩:=an.f3 df dg di
 have dm:=an.g 1 51
 have⟨bX,bY,bZ⟩:=nw3 aC bQ bM bP
 refine bU _ _<| wf dm<| ws ?_
 refine bT _ _<| wk fun ep b0=>wk fun er b1=>?_
 refine wA tr2 [] 58 [ve (.bool (okI (goodI a ma + goodI b mb))),ve (.bool (!(okI (goodI a ma + goodI b mb))))] aR ?_ ?_
 exact .M dl<| .T (fun k=>v_not rfl (k.eq1 0 53 rfl)) .nil
 refine aftI aR bV bW fun bj es ao aS aT aD aE=>?_
 have⟨bk,dn⟩:=aE.f2 dj dk
 have bl:=aE.g 1 54
 have⟨aU,b2,b3⟩:=nw3 aD bX bY bZ
 refine b1 _ _ ?_
 rcases bc (okI (goodI a ma + goodI b mb)) with ac|ac
 have b4:bj.eval (.tmp 54)=.bool false:=bl.trans (congrArg Value.bool (by rw [ac]; rfl))
 refine wf b4<| ws<| b0 _ _<| wk fun et b5=>?_
 refine wA [true,true,false,false] [(2,false),(3,true)] 58 [ve (.agg #[.bool (decide (capI (goodI a ma + goodI b mb) < 0)),sv ad (canon (capI (goodI a ma + goodI b mb)).natAbs) aa]),ve (vv (Vl.mk 4 0 0 (decide (capI (goodI a ma + goodI b mb) < 0)) (canon (capI (goodI a ma + goodI b mb)).natAbs) [] 0) ad aa none 0),vt,vt] ao ?_ ?_
 exact .L6 dn b2<| .T (fun k=>v_build (ps:=[(0,iv 4),(2,.agg #[.bool (decide (capI (goodI a ma + goodI b mb) < 0)),sv ad (canon (capI (goodI a ma + goodI b mb)).natAbs) aa])]) rfl (parts2 rfl (k.eq1 0 56 rfl)) (by kernel_rfl))<| .off<| .off .nil
 refine aftI ao aS aT fun bm eu aV b6 b7 aW aX=>?_
 have bn:=aX.f1 bk
 have bo:=aX.g 1 57
 have⟨aY,b8⟩:=nw2 aW aU b3
 refine sS8 bn bo aY fun dp b9 aZ d2=>?_
 have cd:=b8.fr aY aZ
 have ce:=b7.tR aZ
 refine sP (v:=iv 0) rfl aV b6 fun dq d3 cf ag ds=>?_
 have⟨dr,ew⟩:=ag.q2 bn bo
 refine b5 _ _<| wp_ret (ret_k cf (v:=.tuple #[vv (Vl.mk 4 0 0 (decide (capI (goodI a ma + goodI b mb) < 0)) (canon (capI (goodI a ma + goodI b mb)).natAbs) [] 0) ad aa none 0,iv 0]) (res_ct rfl dr ds (l_agg isAgg46 sizeOf46 b9 rfl)) ?_)
 have aG:(bigZ (goodI a ma + goodI b mb)).1.mag=(canon (capI (goodI a ma + goodI b mb)).natAbs):=by first|rfl|(simp only [bigZ,biggedV,Vl.z,ac,bsm] <;> rfl)|(exfalso; omega)
 have aH:(bigZ (goodI a ma + goodI b mb)).1.s=[]:=by first|rfl|(simp only [bigZ,biggedV,Vl.z,ac,bsm] <;> rfl)|(exfalso; omega)
 exact⟨ad,aa,none,0,(by show Ending.returned (.tuple #[vv (Vl.mk 4 0 0 (decide (capI (goodI a ma + goodI b mb) < 0)) (canon (capI (goodI a ma + goodI b mb)).natAbs) [] 0) ad aa none 0,iv 0])=Ending.returned (.tuple #[vv (bigZ (goodI a ma + goodI b mb)).1 ad aa none 0,iv ((bigZ (goodI a ma + goodI b mb)).2)]); (first|rfl|(simp only [bigZ,biggedV,Vl.z,ac,aG,aH,bsm] <;> rfl)|(exfalso; omega))),(by rw [aG]; exact cd),(by rw [aH]; exact (SRow.nil _ _)),ce⟩
 have ch:bj.eval (.tmp 54)=.bool true:=bl.trans (congrArg Value.bool (by rw [ac]; rfl))
 refine wt ch<| wk fun ex ci=>?_
 refine wA [true,false,false] [(1,false),(2,true)] 58 [ve (vv (Vl.mk 0 0 0 false [] [] 0) none 0 none 0),vt,vt] ao ?_ ?_
 exact .Z<| .off<| .off .nil
 refine aftI ao aS aT fun br ey a1 cj cl cm a3=>?_
 have bs:=a3.f1 bk
 have bt:=a3.g 0 55
 have cn:=aU.new_ cm
 refine sS8 bs bt cn fun dt cp co d4=>?_
 have cr:=cl.tR co
 refine sP (v:=iv 3) rfl a1 cj fun du d5 ct ah dw=>?_
 have⟨dv,eA⟩:=ah.q2 bs bt
 refine ci _ _<| wp_ret (ret_k ct (res8 dv dw cp) ?_)
 exact rV (by first|rfl|(simp only [bigZ,biggedV,Vl.z,ac,bsm] <;> rfl)|(exfalso; omega)) cr
def qun_c0_P (o:ByteArray) (v:Vl) (Av:Option Addr) (cv:Nat) (Bv:Option Addr) (dv:Nat) (w:World) (en:Ending) (w':World):Prop:=∃ (Ar0:Option Addr) (cr0:Nat) (Ar1:Option Addr) (cr1:Nat),en=.returned (.tuple #[vv (unR o v).1 Ar0 cr0 Ar1 cr1,iv ((unR o v).2)])∧SRow w' .u32 Ar0 ((unR o v).1.mag) cr0∧SRow w' .u16 Ar1 ((unR o v).1.s) cr1∧New w w'
theorem qun_c0 (o:ByteArray) (v:Vl) (Av:Option Addr) (cv:Nat) (Bv:Option Addr) (dv:Nat) (w:World) (hmv:SRow w .u32 Av v.mag cv) (hsv:SRow w .u16 Bv v.s dv) (hvv:VOk v):Calls prog 24 #[.string o,vv v Av cv Bv dv] w (qun_c0_P o v Av cv Bv dv w):=by
 refine enter_abs func24 rfl fun a0 bU jN hp=>?_
 have bU:a0.tmps.size=76:=bU
 have de:New w w:=Upd.refl _ _
 have hp0:a0.eval (.tmp 0)=.string o:=hp 0 _ rfl
 have hp1:a0.eval (.tmp 1)=vv v Av cv Bv dv:=hp 1 _ rfl
 refine wk fun K1 jO=>?_
 refine wB tr3 [] [] 76 [IsNew w 46 (c7 v Av cv Bv dv),IsNew w 46 z7,ve (iv 0)] [0,1] bU ?_ heN ?_
 exact .X hp1<| .Y<| .c .nil
 refine aftI bU jN de fun a2 w3 hX jP ic ml bV=>?_
 have h8:=bV.f1 hp0
 obtain⟨df,h9,id,ie⟩:=bV.G 0 3
 obtain⟨an,hY,ig,ih⟩:=bV.G 1 4
 have hne17:=bV.ne 0 1 3 4 h9 hY
 have kM:=Nat.le_trans de.size id
 have kN:=Nat.le_trans de.size ig
 refine jO _ _ ?_
 refine wp_seq_j (fun (aa:Act) (ww:World)=>aa.tmps.size=76∧aa.defers=[]∧New w ww∧aa.eval (.tmp 0)=.string o∧aa.eval (.tmp 3)=pv df∧aa.eval (.tmp 4)=pv an∧Blk ww df 46 (c7 v Av cv Bv dv)∧Blk ww an 46 z7∧(strEq o ⟨#[33]⟩=false)∧(strEq o ⟨#[118,111,105,100]⟩=false)∧(strEq o ⟨#[43]⟩=false)∧(unT o=true)) ?_ ?_
 rintro mm jQ ⟨dg,ii,bv,jR,jS,jT,ij,dh,ao,ap,aq,ar⟩
 refine wk fun mn ik=>?_
 refine wp_gS (fun W=>True) (fun W W' hn h=>trivial) trivial [true,true,true,true,true,true,false,false] [4] [(6,false),(7,true)] 76
  [ve (vv v Av cv Bv dv),(TP (numericV v).1 ((numericV v).2)),(TP (numericV v).1 ((numericV v).2)),(fun (v_:Value) (W:World)=>∃ (bk:Option Addr) (bl:Nat) (bm:Option Addr) (bn:Nat),v_=vv (numericV v).1 bk bl bm bn∧SRow W .u32 bk ((numericV v).1.mag) bl∧SRow W .u16 bm ((numericV v).1.s) bn),ve (iv ((numericV v).2)),IsNew jQ 46 z7,vt,vt]
  [5] (newsCons (fun v w h=>IsNew.old h) newsNil) dg (.eq (.cons (fun _ _ _ n ⟨_,_,_,_,e,h,i⟩=>⟨_,_,_,_,e,h.new_ n,i.new_ n⟩) (.cons (fun _ _ _ n ⟨_,_,_,_,e,h,i⟩=>⟨_,_,_,_,e,h.new_ n,i.new_ n⟩) (.cons (fun _ _ _ n ⟨_,_,_,_,e,h,i⟩=>⟨_,_,_,_,e,h.new_ n,i.new_ n⟩) (.eq (.nw (.tt (.tt .nil)))))))) ?_ ?_ ?_
 refine .L8 jS ij ?_
 refine .o1 (tkC rfl (noG rfl) rfl fun _ w hn k=>(by
  refine ⟨#[vv v Av cv Bv dv],_,args1 (k.eq1 0 38 rfl),fun w=>by kernel_rfl,qnumeric_c v _ _ _ _ _ (hmv.new_ (bv.transNew hn)) (hsv.new_ (bv.transNew hn)) hvv,?_⟩
  rintro e w' ⟨A1,c2,A3,c4,rfl,hmo0,hmo1,hm⟩
  exact⟨_,rfl,hm,⟨A1,c2,A3,c4,rfl,hmo0,hmo1⟩⟩)) ?_
 refine .o1 (tk rfl rfl fun _ w hn k=>(by
  obtain⟨A9,jU,jV,jW,jX,il,im⟩:=k.G 1 39
  exact⟨_,v_move rfl jX,⟨A9,jU,jV,jW,rfl,il,im⟩⟩)) ?_
 refine .o1 (tk rfl rfl fun _ w hn k=>(by
  obtain⟨jY,jZ,j0,j1,j2,io,ip⟩:=k.G 2 37
  exact⟨_,v_extract rfl j2 rfl,⟨jY,jZ,j0,j1,rfl,io,ip⟩⟩)) ?_
 refine .o3 ?_
 exact .Y<| .off<| .off .nil
 refine eg1 ?_
 exact eager_takeG rfl (noG rfl) fun _ w hn k=>(by
  obtain⟨mo,mp,mq,mr,j3,kO,kP⟩:=k.G 2 37
  exact⟨_,fun w hS=>v_extract rfl j3 rfl,rfl⟩)
 intro di ms _ dj aW
 obtain⟨dk,iq,ir⟩:=aft aW dg ii bv dj
 have⟨j4,j5⟩:=aW.f2 jR jT
 obtain⟨bN,bo,dl,bO,bW,it,iu⟩:=aW.G 3 40
 have bW:di.eval (.tmp 40)=vv (numericV v).1 bN bo dl bO:=bW
 have hZ:=aW.g 4 41
 obtain⟨bp,h3,dm,bP⟩:=aW.G 5 8
 have iw:=dh.new_ dj
 have hne53:an ≠ bp:=by have h1:=dh.lt; have h2:=dm; omega
 have kQ:=Nat.le_trans bv.size dm
 refine sS8 h3 bW bP fun j6 dn bQ ix=>?_
 have dp:=it.fr bP bQ
 have dq:=iu.fr bP bQ
 have dr:=ix hne53 iw
 have ds:=ir.tR bQ
 refine sP hZ dk iq fun j7 bw dt av bX=>?_
 have⟨h4,h5,mu⟩:=av.q3 j4 j5 bW
 have⟨mv,h6⟩:=av.q2 hZ h3
 refine ik _ _ <| wk fun mw iz=>?_
 refine wb<| wk fun mx du=>?_
 rcases bc (decide (((numericV v).2)=0)) with ah|ah
 have e1:=oT ah
 refine wA tr3 [] 76 [ve (iv ((numericV v).2)),vF,vF] bw ?_ ?_
 exact .M bX<| .b 0 (r_neq ah)<| .B 1 .nil
 refine aftI bw dt ds fun my mz bx dw dx bz bq=>?_
 have⟨bY,h7,dy,mA⟩:=bq.f4 h4 h5 h6 bX
 have j8:=bq.g 2 42
 have⟨dz,bR,dA,dB⟩:=nw4 bz dr dn dp dq
 refine du _ _<| wf j8<| wk fun mB dC=>?_
 rcases bc (strEq o ⟨#[126]⟩) with aj|aj
 refine wA tr8 [] 76 [ve (.string o),vT,vT,ve (pv bp),ve (iv ((numericV v).1.k)),ve (.bool (decide (((numericV v).1.k)=4))),ve (.bool (decide (((numericV v).1.k)=4))),ve (.bool (decide (((numericV v).1.k)=4)))] bx ?_ ?_
 exact .M bY<| .b 0 (r_eqlS aj)<| .N 1<| .gf (fun k=>k.eq1 2 50 rfl) (fun k=>k.fx 8 dy)<| .V (fun p k=>v_load rfl (k.eq1 3 51 rfl) (l_one isAgg3 ((bR.new_ p).cell 0)))<| .V (fun p k=>v_bin rfl (k.eq1 4 52 rfl) rfl (fun _=>rfl) (r_eql rfl))<| .T (fun k=>v_pickT rfl (k.eq1 2 50 rfl) (k.eq1 5 53 rfl))<| .B 6 .nil
 refine aftI bx dw dx fun mC mD aX bZ b0 aY aZ=>?_
 have⟨iA,dD,iB⟩:=aZ.f3 bY h7 dy
 have dE:=aZ.g 7 47
 have⟨b1,e2,e3,e4⟩:=nw4 aY dz bR dA dB
 refine dC _ _ ?_
 rcases bc (decide (((numericV v).1.k)=4)) with ak|ak
 have dF:=oT ak
 have e5:=hB dE ak
 refine wt e5<| wk fun kR e6=>?_
 refine wA [true,false,false] [(1,false),(2,true)] 76 [ve (vv (Vl.mk 0 0 0 false [] [] 0) none 0 none 0),vt,vt] aX ?_ ?_
 exact .Z<| .off<| .off .nil
 refine aftI aX bZ b0 fun dG kS b2 e7 e8 e9 b3=>?_
 have dH:=b3.f1 dD
 have dI:=b3.g 0 55
 have fa:=b1.new_ e9
 refine sS8 dH dI fa fun iC fc fb kk=>?_
 have fe:=e8.tR fb
 refine sP (v:=iv 3) rfl b2 e7 fun iD kl ff aB iF=>?_
 have⟨iE,kU⟩:=aB.q2 dH dI
 refine e6 _ _<| wp_ret (ret_k ff (res8 iE iF fc) ?_)
 exact rV (by first|rfl|(simp only [unR,unNR,ofN,truthG,Vl.z,Bool.true_and,Bool.false_and,Bool.and_false,ao,ap,aq,ar,ah,aj,ak,bsm] <;> rfl)|(exfalso; omega)) fe
 have dF:=oF ak
 have fg:=hB dE ak
 refine wf fg<| wk fun kV fh=>?_
 refine wA tr3 [] 76 [ve (.string o),vT,vT] aX ?_ ?_
 exact .M iA<| .b 0 (r_eqlS aj)<| .B 1 .nil
 refine aftI aX bZ b0 fun kW kX b4 fi fj a1 bA=>?_
 have⟨iG,iH⟩:=bA.f2 dD iB
 have iI:=bA.g 2 56
 have⟨fk,fl,km,kn⟩:=nw4 a1 b1 e2 e3 e4
 refine fh _ _<| wt iI<| wk fun kY fm=>?_
 refine wA [true,true,true,true,true,false,false] [(5,false),(6,true)] 76 [ve (.pointer (some ⟨bp,1,none⟩)),ve (nv (Nm.mk ((numericV v).1.nk) ((numericV v).1.nn))),ve (nv (Nm.mk 0 (-1))),ve (nv (bitM 3 (Nm.mk ((numericV v).1.nk) ((numericV v).1.nn)) (Nm.mk 0 (-1)))),ve (vv (Vl.mk 3 (bitM 3 (Nm.mk ((numericV v).1.nk) ((numericV v).1.nn)) (Nm.mk 0 (-1))).k (bitM 3 (Nm.mk ((numericV v).1.nk) ((numericV v).1.nn)) (Nm.mk 0 (-1))).n false [] [] 0) none 0 none 0),vt,vt] b4 ?_ ?_
 exact .F iH<| .K2 0 fl<| .T (fun k=>v_build (ps:=[(1,iv (-1))]) rfl (parts1 rfl) (by kernel_rfl))<| .D (fun k=>args3 rfl (k.eq1 1 60 rfl) (k.eq1 2 61 rfl)) (fun p=>rbit_c (Nm.mk ((numericV v).1.nk) ((numericV v).1.nn)) (Nm.mk 0 (-1)) _)<| .C 3 (fun p=>qnum_c (bitM 3 (Nm.mk ((numericV v).1.nk) ((numericV v).1.nn)) (Nm.mk 0 (-1))) _)<| .off<| .off .nil
 refine aftI b4 fi fj fun dL kZ b5 fn fo fp b6=>?_
 have dM:=b6.f1 iG
 have dN:=b6.g 4 63
 have fq:=fk.new_ fp
 refine sS8 dM dN fq fun iJ ft fs ko=>?_
 have fv:=fo.tR fs
 refine sP (v:=iv 0) rfl b5 fn fun iK kp fw aC iM=>?_
 have⟨iL,k1⟩:=aC.q2 dM dN
 refine fm _ _<| wp_ret (ret_k fw (res8 iL iM ft) ?_)
 exact rV (by first|rfl|(simp only [unR,unNR,ofN,truthG,Vl.z,Bool.true_and,Bool.false_and,Bool.and_false,ao,ap,aq,ar,ah,aj,ak,bsm] <;> rfl)|(exfalso; omega)) fv
 refine wA tr8 [] 76 [ve (.string o),vF,vF,vU,vU,vU,vF,vF] bx ?_ ?_
 exact .M bY<| .b 0 (r_eqlS aj)<| .N 1<| .S<| .S<| .S<| .T (fun k=>v_pickF rfl (k.eq1 2 50 rfl) rfl)<| .B 6 .nil
 refine aftI bx dw dx fun k2 k3 b7 fy fz a3 a4=>?_
 have⟨iN,iO,iP⟩:=a4.f3 bY h7 dy
 have iQ:=a4.g 7 47
 have⟨fA,fB,fC,fD⟩:=nw4 a3 dz bR dA dB
 refine dC _ _<| wf iQ<| wk fun k4 fE=>?_
 refine wA tr3 [] 76 [ve (.string o),vF,vF] b7 ?_ ?_
 exact .M iN<| .b 0 (r_eqlS aj)<| .B 1 .nil
 refine aftI b7 fy fz fun k5 k6 b8 fF fG a5 bB=>?_
 have⟨iR,dQ⟩:=bB.f2 iO iP
 have iS:=bB.g 2 56
 have⟨fH,b9,fI,fJ⟩:=nw4 a5 fA fB fC fD
 refine fE _ _<| wf iS<| wk fun k7 fK=>?_
 refine wA tr4 [] 76 [ve (pv bp),ve (iv ((numericV v).1.k)),ve (.bool (decide (((numericV v).1.k)=4))),ve (.bool (decide (((numericV v).1.k)=4)))] b8 ?_ ?_
 exact .F dQ<| .J 0 isAgg3 b9<| .b 1 (r_eql rfl)<| .B 2 .nil
 refine aftI b8 fF fG fun k8 k9 a6 ca cb a7 bC=>?_
 have⟨dR,dS⟩:=bC.f2 iR dQ
 have dT:=bC.g 3 64
 have⟨cc,cd,fL,kq⟩:=nw4 a7 fH b9 fI fJ
 refine fK _ _ ?_
 rcases bc (decide (((numericV v).1.k)=4)) with al|al
 have dU:=oT al
 have fM:=hB dT al
 refine wt fM<| wk fun la fN=>?_
 have hml:=(VOk.numeric hvv).mlen
 refine wp_g0 [true,true,true,true,false,false] [(4,false),(5,true)] 76
  [ve (.pointer (some ⟨bp,3,none⟩)),ve (.agg #[.bool ((numericV v).1.neg),sv bN ((numericV v).1.mag) bo]),(fun (v_:Value) (W:World)=>∃ (br:Option Addr) (bs:Nat),v_=.agg #[.bool (decide (-(goodI ((numericV v).1.neg) ((numericV v).1.mag)) < 0)),sv br (canon (-(goodI ((numericV v).1.neg) ((numericV v).1.mag))).natAbs) bs]∧SRow W .u32 br (canon (-(goodI ((numericV v).1.neg) ((numericV v).1.mag))).natAbs) bs),(fun (v_:Value) (W:World)=>∃ (bt:Option Addr) (bu:Nat),v_=vv (Vl.mk 4 0 0 (decide (-(goodI ((numericV v).1.neg) ((numericV v).1.mag)) < 0)) (canon (-(goodI ((numericV v).1.neg) ((numericV v).1.mag))).natAbs) [] 0) bt bu none 0∧SRow W .u32 bt (canon (-(goodI ((numericV v).1.neg) ((numericV v).1.mag))).natAbs) bu),vt,vt] a6 (.eq (.eq (.cons (fun _ _ _ n ⟨_,_,e,h⟩=>⟨_,_,e,h.new_ n⟩) (.cons (fun _ _ _ n ⟨_,_,e,h⟩=>⟨_,_,e,h.new_ n⟩) (.tt (.tt .nil)))))) ?_ ?_
 refine .F dS<| .K6 0 cd ?_
 refine .o1 (tkC rfl (noG rfl) rfl fun _ w hn k=>(by
  refine ⟨#[.agg #[.bool ((numericV v).1.neg),sv bN ((numericV v).1.mag) bo]],_,args1 (k.eq1 1 69 rfl),fun w=>by kernel_rfl,wNeg_c ((numericV v).1.neg) _ ((numericV v).1.mag) _ _ (fL.new_ hn) (VOk.numeric hvv).limbs,?_⟩
  rintro e w' ⟨j9,ka,rfl,hmo0,hm⟩
  exact⟨_,rfl,hm,⟨j9,ka,rfl,hmo0⟩⟩)) ?_
 refine .o1 (tk rfl rfl fun _ w hn k=>(by
  obtain⟨ia,ib,kb,iT⟩:=k.G 2 70
  exact⟨_,v_build (ps:=[(0,iv 4),(2,.agg #[.bool (decide (-(goodI ((numericV v).1.neg) ((numericV v).1.mag)) < 0)),sv ia (canon (-(goodI ((numericV v).1.neg) ((numericV v).1.mag))).natAbs) ib])]) rfl (parts2 rfl kb) (by kernel_rfl),⟨ia,ib,rfl,iT⟩⟩)) ?_
 exact .off<| .off .nil
 refine aftI a6 ca cb fun bS lc ce fO fP fQ cf=>?_
 have dV:=cf.f1 dR
 obtain⟨aN,aw,bD,fR⟩:=cf.G 3 71
 have bD:bS.eval (.tmp 71)=vv (Vl.mk 4 0 0 (decide (-(goodI ((numericV v).1.neg) ((numericV v).1.mag)) < 0)) (canon (-(goodI ((numericV v).1.neg) ((numericV v).1.mag))).natAbs) [] 0) aN aw none 0:=bD
 have ch:=cc.new_ fQ
 refine sS8 dV bD ch fun iU fS ci kr=>?_
 have fU:=fR.fr ch ci
 have fV:=fP.tR ci
 refine sP (v:=iv 0) rfl ce fO fun iV ks fW aD iX=>?_
 have⟨iW,le⟩:=aD.q2 dV bD
 refine fN _ _<| wp_ret (ret_k fW (v:=.tuple #[vv (Vl.mk 4 0 0 (decide (-(goodI ((numericV v).1.neg) ((numericV v).1.mag)) < 0)) (canon (-(goodI ((numericV v).1.neg) ((numericV v).1.mag))).natAbs) [] 0) aN aw none 0,iv 0]) (res_ct rfl iW iX (l_agg isAgg46 sizeOf46 fS rfl)) ?_)
 have af:(unR o v).1.mag=(canon (-(goodI ((numericV v).1.neg) ((numericV v).1.mag))).natAbs):=by first|rfl|(simp only [unR,unNR,ofN,truthG,Vl.z,Bool.true_and,Bool.false_and,Bool.and_false,ao,ap,aq,ar,ah,aj,al,bsm] <;> rfl)|(exfalso; omega)
 have ag:(unR o v).1.s=[]:=by first|rfl|(simp only [unR,unNR,ofN,truthG,Vl.z,Bool.true_and,Bool.false_and,Bool.and_false,ao,ap,aq,ar,ah,aj,al,bsm] <;> rfl)|(exfalso; omega)
 exact⟨aN,aw,none,0,(by show Ending.returned (.tuple #[vv (Vl.mk 4 0 0 (decide (-(goodI ((numericV v).1.neg) ((numericV v).1.mag)) < 0)) (canon (-(goodI ((numericV v).1.neg) ((numericV v).1.mag))).natAbs) [] 0) aN aw none 0,iv 0])=Ending.returned (.tuple #[vv (unR o v).1 aN aw none 0,iv ((unR o v).2)]); (first|rfl|(simp only [unR,unNR,ofN,truthG,Vl.z,Bool.true_and,Bool.false_and,Bool.and_false,ao,ap,aq,ar,ah,aj,al,af,ag,bsm] <;> rfl)|(exfalso; omega))),(by rw [af]; exact fU),(by rw [ag]; exact (SRow.nil _ _)),fV⟩
 have dU:=oF al
 have fX:=hB dT al
 refine wf fX<| ws<| iz _ _<| wk fun lf fY=>?_
 refine wA [true,true,true,true,false,false] [(4,false),(5,true)] 76 [ve (.pointer (some ⟨bp,1,none⟩)),ve (nv (Nm.mk ((numericV v).1.nk) ((numericV v).1.nn))),ve (nv (negM (Nm.mk ((numericV v).1.nk) ((numericV v).1.nn)))),ve (vv (Vl.mk 3 (negM (Nm.mk ((numericV v).1.nk) ((numericV v).1.nn))).k (negM (Nm.mk ((numericV v).1.nk) ((numericV v).1.nn))).n false [] [] 0) none 0 none 0),vt,vt] a6 ?_ ?_
 exact .F dS<| .K2 0 cd<| .C 1 (fun p=>rneg_c (Nm.mk ((numericV v).1.nk) ((numericV v).1.nn)) _)<| .C 2 (fun p=>qnum_c (negM (Nm.mk ((numericV v).1.nk) ((numericV v).1.nn))) _)<| .off<| .off .nil
 refine aftI a6 ca cb fun dY lg cj fZ f0 f1 cl=>?_
 have dZ:=cl.f1 dR
 have d0:=cl.g 3 75
 have f2:=cc.new_ f1
 refine sS8 dZ d0 f2 fun iY f4 f3 kt=>?_
 have f6:=f0.tR f3
 refine sP (v:=iv 0) rfl cj fZ fun iZ ku f7 aE i1=>?_
 have⟨i0,li⟩:=aE.q2 dZ d0
 refine fY _ _<| wp_ret (ret_k f7 (res8 i0 i1 f4) ?_)
 exact rV (by first|rfl|(simp only [unR,unNR,ofN,truthG,Vl.z,Bool.true_and,Bool.false_and,Bool.and_false,ao,ap,aq,ar,ah,aj,al,bsm] <;> rfl)|(exfalso; omega)) f6
 have e1:=oF ah
 refine wA tr3 [] 76 [ve (iv ((numericV v).2)),vT,vT] bw ?_ ?_
 exact .M bX<| .b 0 (r_neq ah)<| .B 1 .nil
 refine aftI bw dt ds fun lj lk cm f8 f9 a8 aQ=>?_
 have⟨ll,i2,lm,i3⟩:=aQ.f4 h4 h5 h6 bX
 have i4:=aQ.g 2 42
 have⟨ga,kv,kw,kx⟩:=nw4 a8 dr dn dp dq
 refine du _ _<| wt i4<| wk fun ln gb=>?_
 refine wB [true,true,false,false] [1] [(2,false),(3,true)] 76 [ve (vv (Vl.mk 0 0 0 false [] [] 0) none 0 none 0),ve (iv ((numericV v).2)),vt,vt] [] cm ?_ ?_ ?_
 refine .Z ?_
 refine .o3 ?_
 exact .off<| .off .nil
 refine eg1 ?_
 exact eager_take rfl rfl fun _ w hn k=>⟨iv ((numericV v).2),fun w=>v_move rfl (k.fx 9 i3),rfl⟩
 refine aftI cm f8 f9 fun d3 lo cn gc gd gg bE=>?_
 have d4:=bE.f1 i2
 have d5:=bE.g 0 45
 have d6:=bE.g 1 46
 have gh:=ga.new_ gg
 refine sS8 d4 d5 gh fun i5 gj gi ky=>?_
 have gl:=gd.tR gi
 refine sP d6 cn gc fun i6 kz gm ax i8=>?_
 have⟨i7,lq,lr⟩:=ax.q3 d4 d5 d6
 refine gb _ _<| wp_ret (ret_k gm (res8 i7 i8 gj) ?_)
 exact rV (by first|rfl|(simp only [unR,unNR,ofN,truthG,Vl.z,Bool.true_and,Bool.false_and,Bool.and_false,ao,ap,aq,ar,ah,bsm] <;> rfl)|(exfalso; omega)) gl
 intro ls co
 refine wk fun lu gn=>?_
 refine wA tr1 [] 76 [ve (.string o)] hX ?_ ?_
 exact .M h8 .nil
 refine aftI hX jP ic fun lv lw cp go gp cq a9=>?_
 have⟨i9,ja,jb⟩:=a9.f3 h8 h9 hY
 have d9:=a9.g 0 10
 have⟨gq,gr⟩:=nw2 cq ie ih
 refine gn _ _<| wb<| wk fun lx gs=>?_
 refine wA tr2 [] 76 [ve (.bool (strEq o ⟨#[33]⟩)),ve (.bool (strEq o ⟨#[33]⟩))] cp ?_ ?_
 exact .H d9 (r_eqlS rfl)<| .B 0 .nil
 refine aftI cp go gp fun ly lz ba cr bb ct aR=>?_
 have⟨jc,ea,eb,ec⟩:=aR.f4 i9 ja jb d9
 have ed:=aR.g 1 12
 have⟨cu,cw⟩:=nw2 ct gq gr
 refine gs _ _ ?_
 rcases bc (strEq o ⟨#[33]⟩) with ab|ab
 have gt:=hB ed ab
 refine wt gt<| wk fun lA gu=>?_
 refine wp_g0 [true,true,true,true,false,false] [(4,false),(5,true)] 76
  [ve (vv v Av cv Bv dv),ve (.bool (boolV v)),ve (.bool (!(boolV v))),
  (VP (truthV (!(boolV v)))),vt,vt] ba (.eq (.eq (.eq (.cons (fun _ _ _ n ⟨_,_,_,_,e,h,i⟩=>⟨_,_,_,_,e,h.new_ n,i.new_ n⟩) (.tt (.tt .nil)))))) ?_ ?_
 refine .L8 ea cu<| .C 0 (fun p=>qbool_c v _ _ _ _ _ (hmv.new_ (bb.transNew p)) (hsv.new_ (bb.transNew p)))<| .T (fun k=>v_not rfl (k.eq1 1 15 rfl)) ?_
 refine .o1 (tkC rfl (noG rfl) rfl fun _ w hn k=>(by
  refine ⟨#[.bool (!(boolV v))],_,args1 (k.eq1 2 16 rfl),fun w=>by kernel_rfl,qtruth_c (!(boolV v)) _ ,?_⟩
  rintro e w' ⟨kg,kh,ki,kj,rfl,hmo0,hmo1,hm⟩
  exact⟨_,rfl,hm,⟨kg,kh,ki,kj,rfl,hmo0,hmo1⟩⟩)) ?_
 exact .off<| .off .nil
 refine aftI ba cr bb fun bT lB cx gv gw gx cy=>?_
 have ee:=cy.f1 eb
 obtain⟨aO,ay,aP,az,bF,gy,gz⟩:=cy.G 3 17
 have bF:bT.eval (.tmp 17)=vv (truthV (!(boolV v))) aO ay aP az:=bF
 have bG:=cw.new_ gx
 refine sS8 ee bF bG fun jd gA bH kA=>?_
 have gC:=gy.fr bG bH
 have gD:=gz.fr bG bH
 have gE:=gw.tR bH
 refine sP (v:=iv 0) rfl cx gv fun je kB gF aF jg=>?_
 have⟨jf,lD⟩:=aF.q2 ee bF
 refine gu _ _<| wp_ret (ret_k gF (v:=.tuple #[vv (truthV (!(boolV v))) aO ay aP az,iv 0]) (res_ct rfl jf jg (l_agg isAgg46 sizeOf46 gA rfl)) ?_)
 have af:(unR o v).1.mag=(truthV (!(boolV v))).mag:=by first|rfl|(simp only [unR,unNR,ofN,truthG,Vl.z,Bool.true_and,Bool.false_and,Bool.and_false,ab,bsm] <;> rfl)|(exfalso; omega)
 have ag:(unR o v).1.s=(truthV (!(boolV v))).s:=by first|rfl|(simp only [unR,unNR,ofN,truthG,Vl.z,Bool.true_and,Bool.false_and,Bool.and_false,ab,bsm] <;> rfl)|(exfalso; omega)
 exact⟨aO,ay,aP,az,(by show Ending.returned (.tuple #[vv (truthV (!(boolV v))) aO ay aP az,iv 0])=Ending.returned (.tuple #[vv (unR o v).1 aO ay aP az,iv ((unR o v).2)]); (first|rfl|(simp only [unR,unNR,ofN,truthG,Vl.z,Bool.true_and,Bool.false_and,Bool.and_false,ab,af,ag,bsm] <;> rfl)|(exfalso; omega))),(by rw [af]; exact gC),(by rw [ag]; exact gD),gE⟩
 have gG:=hB ed ab
 refine wf gG<| wk fun lE gH=>?_
 refine wA tr2 [] 76 [ve (.bool (strEq o ⟨#[118,111,105,100]⟩)),ve (.bool (strEq o ⟨#[118,111,105,100]⟩))] ba ?_ ?_
 exact .H ec (r_eqlS rfl)<| .B 0 .nil
 refine aftI ba cr bb fun lF lG bd cz cA cB aS=>?_
 have⟨jh,ji,eh,ei⟩:=aS.f4 jc ea eb ec
 have ej:=aS.g 1 18
 have⟨gI,cC⟩:=nw2 cB cu cw
 refine gH _ _ ?_
 rcases bc (strEq o ⟨#[118,111,105,100]⟩) with ac|ac
 have gJ:=hB ej ac
 refine wt gJ<| wk fun lH gK=>?_
 refine wA [true,false,false] [(1,false),(2,true)] 76 [ve (vv (Vl.mk 0 0 0 false [] [] 0) none 0 none 0),vt,vt] bd ?_ ?_
 exact .Z<| .off<| .off .nil
 refine aftI bd cz cA fun ek lI cD gL gM gN cE=>?_
 have el:=cE.f1 eh
 have em:=cE.g 0 20
 have gO:=cC.new_ gN
 refine sS8 el em gO fun jj gQ gP kC=>?_
 have gS:=gM.tR gP
 refine sP (v:=iv 0) rfl cD gL fun jk kD gT aG jm=>?_
 have⟨jl,lK⟩:=aG.q2 el em
 refine gK _ _<| wp_ret (ret_k gT (res8 jl jm gQ) ?_)
 exact rV (by first|rfl|(simp only [unR,unNR,ofN,truthG,Vl.z,Bool.true_and,Bool.false_and,Bool.and_false,ab,ac,bsm] <;> rfl)|(exfalso; omega)) gS
 have gU:=hB ej ac
 refine wf gU<| wk fun lL gV=>?_
 refine wA tr2 [] 76 [ve (.bool (strEq o ⟨#[43]⟩)),ve (.bool (strEq o ⟨#[43]⟩))] bd ?_ ?_
 exact .H ei (r_eqlS rfl)<| .B 0 .nil
 refine aftI bd cz cA fun lM jn be cF aT cG aU=>?_
 have⟨jo,ep,er,es⟩:=aU.f4 jh ji eh ei
 have et:=aU.g 1 21
 have⟨cH,bI⟩:=nw2 cG gI cC
 refine gV _ _ ?_
 rcases bc (strEq o ⟨#[43]⟩) with ad|ad
 have gW:=hB et ad
 refine wt gW<| wk fun lN gX=>?_
 refine wB [true,true,true,true,true,true,false,false] [4] [(6,false),(7,true)] 76 [ve (vv v Av cv Bv dv),ve (.tuple #[nv ((numberV v).1),iv ((numberV v).2)]),ve (.tuple #[nv ((numberV v).1),iv ((numberV v).2)]),ve (nv ((numberV v).1)),ve (iv ((numberV v).2)),IsNew jn 23 [iv 0,iv 0],vt,vt] [5] be ?_ ?_ ?_
 refine .L8 ep cH<| .C 0 (fun p=>qnumber_c v _ _ _ _ _ (hmv.new_ (aT.transNew p)) (hsv.new_ (aT.transNew p)) hvv)<| .N 1<| .E 2 ?_
 refine .o3 ?_
 exact .Y<| .off<| .off .nil
 refine eg1 ?_
 exact eager_take rfl rfl fun _ w hn k=>⟨iv ((numberV v).2),fun w=>v_extract rfl (k.eq1 2 23 rfl) rfl,rfl⟩
 refine aftI be cF aT fun eu lO cI gY gZ g0 bf=>?_
 have jp:=bf.f1 er
 have ev:=bf.g 3 26
 have ew:=bf.g 4 27
 obtain⟨jq,ex,cJ,g1⟩:=bf.G 5 6
 have g2:=bI.new_ g0
 have hne474:an ≠ jq:=by have h1:=bI.lt; have h2:=cJ; omega
 have kE:=Nat.le_trans aT.size cJ
 refine sS2 ex ev g1 fun lP cK g3 g4=>?_
 have cL:=g4 hne474 g2
 have cM:=gZ.tR g3
 refine sP ew cI gY fun jr bg cN au bJ=>?_
 have⟨ez,lR,lS⟩:=au.q3 jp ev ew
 have eA:=au.q ex
 refine gX _ _ <| wk fun lT g6=>?_
 refine wk fun lU cO=>?_
 rcases bc (decide (((numberV v).2)=0)) with am|am
 have eB:=oT am
 refine wA tr2 [] 76 [ve (iv ((numberV v).2)),vF] bg ?_ ?_
 exact .M bJ<| .b 0 (r_neq am) .nil
 refine aftI bg cN cM fun lV lW cP g7 g8 cQ bh=>?_
 have⟨js,jt,lX⟩:=bh.f3 ez eA bJ
 have ju:=bh.g 1 29
 have⟨g9,ha⟩:=nw2 cQ cL cK
 refine cO _ _<| wf ju<| ws ?_
 refine g6 _ _<| wk fun lY hc=>?_
 refine wA [true,true,false,false] [(2,false),(3,true)] 76 [ve (nv ((numberV v).1)),ve (vv (Vl.mk 3 ((numberV v).1).k ((numberV v).1).n false [] [] 0) none 0 none 0),vt,vt] cP ?_ ?_
 exact .L2 jt ha<| .C 0 (fun p=>qnum_c ((numberV v).1) _)<| .off<| .off .nil
 refine aftI cP g7 g8 fun eC lZ cR hd hf hg cS=>?_
 have eD:=cS.f1 js
 have eE:=cS.g 1 33
 have hh:=g9.new_ hg
 refine sS8 eD eE hh fun jv hj hi kF=>?_
 have ho:=hf.tR hi
 refine sP (v:=iv 0) rfl cR hd fun jw kG hr aH jy=>?_
 have⟨jx,l1⟩:=aH.q2 eD eE
 refine hc _ _<| wp_ret (ret_k hr (res8 jx jy hj) ?_)
 exact rV (by first|rfl|(simp only [unR,unNR,ofN,truthG,Vl.z,Bool.true_and,Bool.false_and,Bool.and_false,ab,ac,ad,am,bsm] <;> rfl)|(exfalso; omega)) ho
 have eB:=oF am
 refine wA tr2 [] 76 [ve (iv ((numberV v).2)),vT] bg ?_ ?_
 exact .M bJ<| .b 0 (r_neq am) .nil
 refine aftI bg cN cM fun l2 l3 cT hs ht cU bi=>?_
 have⟨jz,l4,jA⟩:=bi.f3 ez eA bJ
 have jB:=bi.g 1 29
 have⟨hu,kH⟩:=nw2 cU cL cK
 refine cO _ _<| wt jB<| wk fun l5 hv=>?_
 refine wB [true,true,false,false] [1] [(2,false),(3,true)] 76 [ve (vv (Vl.mk 0 0 0 false [] [] 0) none 0 none 0),ve (iv ((numberV v).2)),vt,vt] [] cT ?_ ?_ ?_
 refine .Z ?_
 refine .o3 ?_
 exact .off<| .off .nil
 refine eg1 ?_
 exact eager_take rfl rfl fun _ w hn k=>⟨iv ((numberV v).2),fun w=>v_move rfl (k.fx 7 jA),rfl⟩
 refine aftI cT hs ht fun eH l6 cV hw hx hy bK=>?_
 have eI:=bK.f1 jz
 have eJ:=bK.g 0 30
 have eK:=bK.g 1 31
 have hz:=hu.new_ hy
 refine sS8 eI eJ hz fun jC hC hA kI=>?_
 have hE:=hx.tR hA
 refine sP eK cV hw fun jD kJ hF aA jF=>?_
 have⟨jE,l8,l9⟩:=aA.q3 eI eJ eK
 refine hv _ _<| wp_ret (ret_k hF (res8 jE jF hC) ?_)
 exact rV (by first|rfl|(simp only [unR,unNR,ofN,truthG,Vl.z,Bool.true_and,Bool.false_and,Bool.and_false,ab,ac,ad,am,bsm] <;> rfl)|(exfalso; omega)) hE
 have hG:=hB et ad
 refine wf hG<| wk fun ma cW=>wk fun mb hH=>?_
 refine wA tr2 [] 76 [ve (.bool (strEq o ⟨#[45]⟩)),ve (.bool (strEq o ⟨#[45]⟩))] be ?_ ?_
 exact .H es (r_eqlS rfl)<| .B 0 .nil
 refine aftI be cF aT fun mc md bL cX cY cZ aV=>?_
 have⟨eN,eO,eP,jG⟩:=aV.f4 jo ep er es
 have eQ:=aV.g 1 34
 have⟨c0,c1⟩:=nw2 cZ cH bI
 refine hH _ _ ?_
 rcases bc (strEq o ⟨#[45]⟩) with ae|ae
 have c3:=hB eQ ae
 refine wt c3<| ws<| cW _ _<| wt c3<| ws<| co _ _ ⟨bL,cX,cY,eN,eO,eP,c0,c1,(by first|assumption|(unfold unT; simp only [ab,ac,ad,ae,Bool.false_or,Bool.or_false,Bool.true_or,Bool.or_true]; done)|(unfold unT; simp only [ab,ac,ad,ae,Bool.false_or,Bool.or_false,Bool.true_or,Bool.or_true] <;> rfl)),(by first|assumption|(unfold unT; simp only [ab,ac,ad,ae,Bool.false_or,Bool.or_false,Bool.true_or,Bool.or_true]; done)|(unfold unT; simp only [ab,ac,ad,ae,Bool.false_or,Bool.or_false,Bool.true_or,Bool.or_true] <;> rfl)),(by first|assumption|(unfold unT; simp only [ab,ac,ad,ae,Bool.false_or,Bool.or_false,Bool.true_or,Bool.or_true]; done)|(unfold unT; simp only [ab,ac,ad,ae,Bool.false_or,Bool.or_false,Bool.true_or,Bool.or_true] <;> rfl)),(by first|assumption|(unfold unT; simp only [ab,ac,ad,ae,Bool.false_or,Bool.or_false,Bool.true_or,Bool.or_true]; done)|(unfold unT; simp only [ab,ac,ad,ae,Bool.false_or,Bool.or_false,Bool.true_or,Bool.or_true] <;> rfl))⟩
 have hI:=hB eQ ae
 refine wf hI<| wp_g0 [true,true] [] 76
  [ve (.bool (strEq o ⟨#[126]⟩)),ve (.bool (strEq o ⟨#[126]⟩))] bL (.eq (.eq .nil)) ?_ ?_
 exact .H jG (r_eqlS rfl)<| .B 0 .nil
 refine aftI bL cX cY fun me mf bM c5 c9 da bj=>?_
 have⟨jH,jI,eR⟩:=bj.f3 eN eO eP
 have eS:=bj.g 1 34
 have⟨hJ,db⟩:=nw2 da c0 c1
 refine cW _ _ ?_
 rcases bc (strEq o ⟨#[126]⟩) with ai|ai
 have hK:=hB eS ai
 refine wt hK<| ws<| co _ _ ⟨bM,c5,c9,jH,jI,eR,hJ,db,(by first|assumption|(unfold unT; simp only [ab,ac,ad,ae,ai,Bool.false_or,Bool.or_false,Bool.true_or,Bool.or_true]; done)|(unfold unT; simp only [ab,ac,ad,ae,ai,Bool.false_or,Bool.or_false,Bool.true_or,Bool.or_true] <;> rfl)),(by first|assumption|(unfold unT; simp only [ab,ac,ad,ae,ai,Bool.false_or,Bool.or_false,Bool.true_or,Bool.or_true]; done)|(unfold unT; simp only [ab,ac,ad,ae,ai,Bool.false_or,Bool.or_false,Bool.true_or,Bool.or_true] <;> rfl)),(by first|assumption|(unfold unT; simp only [ab,ac,ad,ae,ai,Bool.false_or,Bool.or_false,Bool.true_or,Bool.or_true]; done)|(unfold unT; simp only [ab,ac,ad,ae,ai,Bool.false_or,Bool.or_false,Bool.true_or,Bool.or_true] <;> rfl)),(by first|assumption|(unfold unT; simp only [ab,ac,ad,ae,ai,Bool.false_or,Bool.or_false,Bool.true_or,Bool.or_true]; done)|(unfold unT; simp only [ab,ac,ad,ae,ai,Bool.false_or,Bool.or_false,Bool.true_or,Bool.or_true] <;> rfl))⟩
 have hL:=hB eS ai
 refine wf hL<| wk fun mg hM=>?_
 have eT:unT o=false:=by unfold unT; simp only [ab,ac,ad,ae,ai,Bool.false_or,Bool.or_false,Bool.true_or,Bool.or_true]
 refine wA [true,false,false] [(1,false),(2,true)] 76 [ve (vv (Vl.mk 0 0 0 false [] [] 0) none 0 none 0),vt,vt] bM ?_ ?_
 exact .Z<| .off<| .off .nil
 refine aftI bM c5 c9 fun eU mh dc hN hO hP dd=>?_
 have eV:=dd.f1 eR
 have eW:=dd.g 0 11
 have hQ:=db.new_ hP
 refine sS8 eV eW hQ fun jJ hT hR kK=>?_
 have hV:=hO.tR hR
 refine sP (v:=iv 3) rfl dc hN fun jK kL hW aI jM=>?_
 have⟨jL,mj⟩:=aI.q2 eV eW
 refine hM _ _<| wp_ret (ret_k hW (res8 jL jM hT) ?_)
 exact rV (by first|rfl|(simp only [unR,unNR,ofN,truthG,Vl.z,Bool.true_and,Bool.false_and,Bool.and_false,ab,ac,ad,ae,ai,eT,bsm] <;> rfl)|(exfalso; omega)) hV
def qstep_c_P (v:Vl) (Av:Option Addr) (cv:Nat) (Bv:Option Addr) (dv:Nat) (y:Int) (w:World) (en:Ending) (w':World):Prop:=∃ (Ar0:Option Addr) (cr0:Nat) (Ar1:Option Addr) (cr1:Nat),en=.returned (.tuple #[vv (stepV v y).1 Ar0 cr0 Ar1 cr1,iv ((stepV v y).2)])∧SRow w' .u32 Ar0 ((stepV v y).1.mag) cr0∧SRow w' .u16 Ar1 ((stepV v y).1.s) cr1∧New w w'
theorem qstep_c (v:Vl) (Av:Option Addr) (cv:Nat) (Bv:Option Addr) (dv:Nat) (y:Int) (w:World) (hmv:SRow w .u32 Av v.mag cv) (hsv:SRow w .u16 Bv v.s dv) (hvv:VOk v) (hy1:-9223372036854775808≤y) (hy2:y≤9223372036854775807):Calls prog 26 #[vv v Av cv Bv dv,iv y] w (qstep_c_P v Av cv Bv dv y w):=by
 refine enter_abs func26 rfl fun a0 co gY hp=>?_
 have co:a0.tmps.size=41:=co
 have cO:New w w:=Upd.refl _ _
 have hp0:a0.eval (.tmp 0)=vv v Av cv Bv dv:=hp 0 _ rfl
 have hp1:a0.eval (.tmp 1)=iv y:=hp 1 _ rfl
 have hyz:goodI (decide (y < 0)) (canon (y).natAbs)=y:=good_canon (by omega)
 refine wk fun K1 gZ=>?_
 refine wB tr3 [] [] 41 [IsNew w 46 (c7 v Av cv Bv dv),IsNew w 46 z7,ve (iv 0)] [0,1] co ?_ heN ?_
 exact .X hp0<| .Y<| .c .nil
 refine aftI co gY cO fun a2 w3 fw g0 bM ju cp=>?_
 have h8:=cp.f1 hp1
 obtain⟨g1,h9,fF,fG⟩:=cp.G 0 2
 obtain⟨bl,fy,fH,cP⟩:=cp.G 1 4
 have hne17:=cp.ne 0 1 2 4 h9 fy
 have io:=Nat.le_trans cO.size fF
 have ip:=Nat.le_trans cO.size fH
 refine gZ _ _ <| wk fun jv fI=>?_
 refine wp_gS (fun W=>True) (fun W W' hn h=>trivial) trivial [true,true,true,true,true,true,false,false] [4] [(6,false),(7,true)] 41
  [ve (vv v Av cv Bv dv),(TP (numericV v).1 ((numericV v).2)),(TP (numericV v).1 ((numericV v).2)),(fun (v_:Value) (W:World)=>∃ (bB:Option Addr) (bC:Nat) (bD:Option Addr) (bE:Nat),v_=vv (numericV v).1 bB bC bD bE∧SRow W .u32 bB ((numericV v).1.mag) bC∧SRow W .u16 bD ((numericV v).1.s) bE),ve (iv ((numericV v).2)),IsNew w3 46 z7,vt,vt]
  [5] (newsCons (fun v w h=>IsNew.old h) newsNil) fw (.eq (.cons (fun _ _ _ n ⟨_,_,_,_,e,h,i⟩=>⟨_,_,_,_,e,h.new_ n,i.new_ n⟩) (.cons (fun _ _ _ n ⟨_,_,_,_,e,h,i⟩=>⟨_,_,_,_,e,h.new_ n,i.new_ n⟩) (.cons (fun _ _ _ n ⟨_,_,_,_,e,h,i⟩=>⟨_,_,_,_,e,h.new_ n,i.new_ n⟩) (.eq (.nw (.tt (.tt .nil)))))))) ?_ ?_ ?_
 refine .L8 h9 fG ?_
 refine .o1 (tkC rfl (noG rfl) rfl fun _ w hn k=>(by
  refine ⟨#[vv v Av cv Bv dv],_,args1 (k.eq1 0 9 rfl),fun w=>by kernel_rfl,qnumeric_c v _ _ _ _ _ (hmv.new_ (bM.transNew hn)) (hsv.new_ (bM.transNew hn)) hvv,?_⟩
  rintro e w' ⟨A1,c2,A3,c4,rfl,hmo0,hmo1,hm⟩
  exact⟨_,rfl,hm,⟨A1,c2,A3,c4,rfl,hmo0,hmo1⟩⟩)) ?_
 refine .o1 (tk rfl rfl fun _ w hn k=>(by
  obtain⟨A9,g2,g3,g4,g5,fJ,fK⟩:=k.G 1 10
  exact⟨_,v_move rfl g5,⟨A9,g2,g3,g4,rfl,fJ,fK⟩⟩)) ?_
 refine .o1 (tk rfl rfl fun _ w hn k=>(by
  obtain⟨g6,g7,g8,g9,ha,fL,fM⟩:=k.G 2 8
  exact⟨_,v_extract rfl ha rfl,⟨g6,g7,g8,g9,rfl,fL,fM⟩⟩)) ?_
 refine .o3 ?_
 exact .Y<| .off<| .off .nil
 refine eg1 ?_
 exact eager_takeG rfl (noG rfl) fun _ w hn k=>(by
  obtain⟨bm,jw,jx,jy,hc,iq,ir⟩:=k.G 2 8
  exact⟨_,fun w hS=>v_extract rfl hc rfl,rfl⟩)
 intro cQ jz _ cR bj
 obtain⟨cS,fN,fO⟩:=aft bj fw g0 bM cR
 have⟨hd,hf⟩:=bj.f2 h8 fy
 obtain⟨bm,aT,cT,b8,cq,fP,fQ⟩:=bj.G 3 11
 have cq:cQ.eval (.tmp 11)=vv (numericV v).1 bm aT cT b8:=cq
 have fz:=bj.g 4 12
 obtain⟨bn,fA,cU,b9⟩:=bj.G 5 6
 have fR:=cP.new_ cR
 have hne43:bl ≠ bn:=by have h1:=cP.lt; have h2:=cU; omega
 have it:=Nat.le_trans bM.size cU
 refine sS8 fA cq b9 fun hg cV ca fS=>?_
 have cW:=fP.fr b9 ca
 have cX:=fQ.fr b9 ca
 have cY:=fS hne43 fR
 have cZ:=fO.tR ca
 refine sP fz cS fN fun hh bN c0 ap cr=>?_
 have⟨fB,fC,jB⟩:=ap.q3 hd hf cq
 have⟨jC,fD⟩:=ap.q2 fz fA
 refine fI _ _ <| wk fun jD fU=>?_
 refine wk fun jE c1=>?_
 rcases bc (decide (((numericV v).2)=0)) with aa|aa
 have dS:=oT aa
 refine wA tr2 [] 41 [ve (iv ((numericV v).2)),vF] bN ?_ ?_
 exact .M cr<| .b 0 (r_neq aa) .nil
 refine aftI bN c0 cZ fun jF jG bk cb cc bO bF=>?_
 have⟨bo,c3,c5,jH⟩:=bF.f4 fB fC fD cr
 have hi:=bF.g 1 14
 have⟨cd,ce,cf,ch⟩:=nw4 bO cY cV cW cX
 refine c1 _ _<| wf hi<| ws ?_
 refine fU _ _<| wk fun jI c9=>wk fun jJ ci=>?_
 rcases bc (decide (y=1)) with ab|ab
 have dT:=oT ab
 refine wA tr6 [] 41 [ve (iv y),vF,vF,vU,vU,vF] bk ?_ ?_
 exact .M bo<| .b 0 (r_neq ab)<| .N 1<| .S<| .S<| .T (fun k=>v_pickF rfl (k.eq1 2 19 rfl) rfl) .nil
 refine aftI bk cb cc fun jK jL da fV dU bP bQ=>?_
 have⟨hj,hl,fE⟩:=bQ.f3 bo c3 c5
 have ho:=bQ.g 5 22
 have⟨fW,ct,dV,dW⟩:=nw4 bP cd ce cf ch
 refine ci _ _<| wf ho<| ws ?_
 refine c9 _ _<| wk fun iu dX=>wk fun iw dY=>?_
 refine wA tr3 [] 41 [ve (pv bn),ve (iv ((numericV v).1.k)),ve (.bool (decide (((numericV v).1.k)=4)))] da ?_ ?_
 exact .F fE<| .J 0 isAgg3 ct<| .b 1 (r_eql rfl) .nil
 refine aftI da fV dU fun ix iy bp cu cw bq br=>?_
 have⟨db,dc,dd⟩:=br.f3 hj hl fE
 have de:=br.g 2 26
 have⟨cx,cy,dZ,hQ⟩:=nw4 bq fW ct dV dW
 refine dY _ _ ?_
 rcases bc (decide (((numericV v).1.k)=4)) with ad|ad
 have df:=oT ad
 have d0:=hB de ad
 refine wt d0<| wk fun iz d1=>?_
 refine wp_g0 [true,true,true,true,true,true,true,false,false] [(7,false),(8,true)] 41
  [ve (.pointer (some ⟨bn,3,none⟩)),ve (.agg #[.bool ((numericV v).1.neg),sv bm ((numericV v).1.mag) aT]),ve (iv y),(fun (v_:Value) (W:World)=>∃ (bG:Option Addr) (bH:Nat),v_=.agg #[.bool (decide (y < 0)),sv bG (canon (y).natAbs) bH]∧SRow W .u32 bG (canon (y).natAbs) bH),(TP (bigZ (goodI ((numericV v).1.neg) ((numericV v).1.mag) + goodI (decide (y < 0)) (canon (y).natAbs))).1 ((bigZ (goodI ((numericV v).1.neg) ((numericV v).1.mag) + goodI (decide (y < 0)) (canon (y).natAbs))).2)),(fun (v_:Value) (W:World)=>∃ (bI:Option Addr) (bJ:Nat) (bK:Option Addr) (bL:Nat),v_=vv (bigZ (goodI ((numericV v).1.neg) ((numericV v).1.mag) + goodI (decide (y < 0)) (canon (y).natAbs))).1 bI bJ bK bL∧SRow W .u32 bI ((bigZ (goodI ((numericV v).1.neg) ((numericV v).1.mag) + goodI (decide (y < 0)) (canon (y).natAbs))).1.mag) bJ∧SRow W .u16 bK ((bigZ (goodI ((numericV v).1.neg) ((numericV v).1.mag) + goodI (decide (y < 0)) (canon (y).natAbs))).1.s) bL),ve (iv ((bigZ (goodI ((numericV v).1.neg) ((numericV v).1.mag) + goodI (decide (y < 0)) (canon (y).natAbs))).2)),vt,vt] bp (.eq (.eq (.eq (.cons (fun _ _ _ n ⟨_,_,e,h⟩=>⟨_,_,e,h.new_ n⟩) (.cons (fun _ _ _ n ⟨_,_,_,_,e,h,i⟩=>⟨_,_,_,_,e,h.new_ n,i.new_ n⟩) (.cons (fun _ _ _ n ⟨_,_,_,_,e,h,i⟩=>⟨_,_,_,_,e,h.new_ n,i.new_ n⟩) (.eq (.tt (.tt .nil))))))))) ?_ ?_
 refine .F dd<| .K6 0 cy<| .M db ?_
 refine .o1 (tkC rfl (noG rfl) rfl fun _ w hn k=>(by
  refine ⟨#[iv y],_,args1 (k.eq1 2 29 rfl),fun w=>by kernel_rfl,sOf_c y _ (by omega) (by omega),?_⟩
  rintro e w' ⟨hr,hs,rfl,hmo0,hm⟩
  exact⟨_,rfl,hm,⟨hr,hs,rfl,hmo0⟩⟩)) ?_
 refine .o1 (tkC rfl (noG rfl) rfl fun _ w hn k=>(by
  obtain⟨ht,hu,hv,fX⟩:=k.G 3 30
  refine ⟨#[.string ⟨#[43]⟩,.agg #[.bool ((numericV v).1.neg),sv bm ((numericV v).1.mag) aT],.agg #[.bool (decide (y < 0)),sv ht (canon (y).natAbs) hu]],_,args3 rfl (k.eq1 1 28 rfl) hv,fun w=>by kernel_rfl,qbigs_c ((numericV v).1.neg) _ ((numericV v).1.mag) _ (decide (y < 0)) _ (canon (y).natAbs) _ _ (dZ.new_ hn) fX (VOk.numeric hvv).limbs (limbs_canon _),?_⟩
  rintro e w' ⟨hw,hx,hy,hz,rfl,hmo0,hmo1,hm⟩
  exact⟨_,rfl,hm,⟨hw,hx,hy,hz,rfl,hmo0,hmo1⟩⟩)) ?_
 refine .o1 (tk rfl rfl fun _ w hn k=>(by
  obtain⟨hA,hC,hD,hE,hF,fY,fZ⟩:=k.G 4 31
  exact⟨_,v_extract rfl hF rfl,⟨hA,hC,hD,hE,rfl,fY,fZ⟩⟩)) ?_
 refine .o1 (tk rfl rfl fun _ w hn k=>(by
  obtain⟨jM,jN,jO,jP,hG,iA,iB⟩:=k.G 4 31
  exact⟨_,v_extract rfl hG rfl,rfl⟩)) ?_
 exact .off<| .off .nil
 refine aftI bp cu cw fun cj iC cz d2 d3 d4 bR=>?_
 have dg:=bR.f1 dc
 obtain⟨aU,aq,ar,au,bS,d5,d6⟩:=bR.G 5 32
 have bS:cj.eval (.tmp 32)=vv (bigZ (goodI ((numericV v).1.neg) ((numericV v).1.mag) + goodI (decide (y < 0)) (canon (y).natAbs))).1 aU aq ar au:=bS
 have dh:=bR.g 6 33
 have bT:=cx.new_ d4
 refine sS8 dg bS bT fun f0 d7 bU hR=>?_
 have d9:=d5.fr bT bU
 have ea:=d6.fr bT bU
 have eb:=d3.tR bU
 refine sP dh cz d2 fun f1 hT ec av f3=>?_
 have⟨f2,iE,iF⟩:=av.q3 dg bS dh
 refine d1 _ _<| wp_ret (ret_k ec (v:=.tuple #[vv (bigZ (goodI ((numericV v).1.neg) ((numericV v).1.mag) + goodI (decide (y < 0)) (canon (y).natAbs))).1 aU aq ar au,iv ((bigZ (goodI ((numericV v).1.neg) ((numericV v).1.mag) + goodI (decide (y < 0)) (canon (y).natAbs))).2)]) (res_ct rfl f2 f3 (l_agg isAgg46 sizeOf46 d7 rfl)) ?_)
 have af:(stepV v y).1.mag=(bigZ (goodI ((numericV v).1.neg) ((numericV v).1.mag) + goodI (decide (y < 0)) (canon (y).natAbs))).1.mag:=by first|rfl|(simp only [stepV,Vl.z,hyz,aa,ab,ad,bsm] <;> rfl)|(exfalso; omega)
 have ag:(stepV v y).1.s=(bigZ (goodI ((numericV v).1.neg) ((numericV v).1.mag) + goodI (decide (y < 0)) (canon (y).natAbs))).1.s:=by first|rfl|(simp only [stepV,Vl.z,hyz,aa,ab,ad,bsm] <;> rfl)|(exfalso; omega)
 exact⟨aU,aq,ar,au,(by show Ending.returned (.tuple #[vv (bigZ (goodI ((numericV v).1.neg) ((numericV v).1.mag) + goodI (decide (y < 0)) (canon (y).natAbs))).1 aU aq ar au,iv ((bigZ (goodI ((numericV v).1.neg) ((numericV v).1.mag) + goodI (decide (y < 0)) (canon (y).natAbs))).2)])=Ending.returned (.tuple #[vv (stepV v y).1 aU aq ar au,iv ((stepV v y).2)]); (first|rfl|(simp only [stepV,Vl.z,hyz,aa,ab,ad,af,ag,bsm] <;> rfl)|(exfalso; omega))),(by rw [af]; exact d9),(by rw [ag]; exact ea),eb⟩
 have df:=oF ad
 have ed:=hB de ad
 refine wf ed<| ws<| dX _ _<| wk fun iG ee=>?_
 refine wp_g0 [true,true,true,true,true,true,true,false,false] [(7,false),(8,true)] 41
  [ve (.pointer (some ⟨bn,1,none⟩)),ve (nv (Nm.mk ((numericV v).1.nk) ((numericV v).1.nn))),ve (iv y),ve (nv (Nm.mk 0 y)),(TP (numV (addM (Nm.mk ((numericV v).1.nk) ((numericV v).1.nn)) (Nm.mk 0 y)).1 (addM (Nm.mk ((numericV v).1.nk) ((numericV v).1.nn)) (Nm.mk 0 y)).2).1 ((numV (addM (Nm.mk ((numericV v).1.nk) ((numericV v).1.nn)) (Nm.mk 0 y)).1 (addM (Nm.mk ((numericV v).1.nk) ((numericV v).1.nn)) (Nm.mk 0 y)).2).2)),(fun (v_:Value) (W:World)=>∃ (aV:Option Addr) (aW:Nat) (aX:Option Addr) (aY:Nat),v_=vv (numV (addM (Nm.mk ((numericV v).1.nk) ((numericV v).1.nn)) (Nm.mk 0 y)).1 (addM (Nm.mk ((numericV v).1.nk) ((numericV v).1.nn)) (Nm.mk 0 y)).2).1 aV aW aX aY∧SRow W .u32 aV ((numV (addM (Nm.mk ((numericV v).1.nk) ((numericV v).1.nn)) (Nm.mk 0 y)).1 (addM (Nm.mk ((numericV v).1.nk) ((numericV v).1.nn)) (Nm.mk 0 y)).2).1.mag) aW∧SRow W .u16 aX ((numV (addM (Nm.mk ((numericV v).1.nk) ((numericV v).1.nn)) (Nm.mk 0 y)).1 (addM (Nm.mk ((numericV v).1.nk) ((numericV v).1.nn)) (Nm.mk 0 y)).2).1.s) aY),ve (iv ((numV (addM (Nm.mk ((numericV v).1.nk) ((numericV v).1.nn)) (Nm.mk 0 y)).1 (addM (Nm.mk ((numericV v).1.nk) ((numericV v).1.nn)) (Nm.mk 0 y)).2).2)),vt,vt] bp (.eq (.eq (.eq (.eq (.cons (fun _ _ _ n ⟨_,_,_,_,e,h,i⟩=>⟨_,_,_,_,e,h.new_ n,i.new_ n⟩) (.cons (fun _ _ _ n ⟨_,_,_,_,e,h,i⟩=>⟨_,_,_,_,e,h.new_ n,i.new_ n⟩) (.eq (.tt (.tt .nil))))))))) ?_ ?_
 refine .F dd<| .K2 0 cy<| .M db<| .T (fun k=>v_build (ps:=[(1,iv y)]) rfl (parts1 (k.eq1 2 36 rfl)) (by kernel_rfl)) ?_
 refine .o1 (tkC rfl (noG rfl) rfl fun _ w hn k=>(by
  refine ⟨#[.string ⟨#[43]⟩,nv (Nm.mk ((numericV v).1.nk) ((numericV v).1.nn)),nv (Nm.mk 0 y)],_,args3 rfl (k.eq1 1 35 rfl) (k.eq1 3 37 rfl),fun w=>by kernel_rfl,qnums_c (Nm.mk ((numericV v).1.nk) ((numericV v).1.nn)) (Nm.mk 0 y) _ ,?_⟩
  rintro e w' ⟨hH,hI,hJ,hK,rfl,hmo0,hmo1,hm⟩
  exact⟨_,rfl,hm,⟨hH,hI,hJ,hK,rfl,hmo0,hmo1⟩⟩)) ?_
 refine .o1 (tk rfl rfl fun _ w hn k=>(by
  obtain⟨hL,hM,hN,hO,hP,f4,ef⟩:=k.G 4 38
  exact⟨_,v_extract rfl hP rfl,⟨hL,hM,hN,hO,rfl,f4,ef⟩⟩)) ?_
 refine .o1 (tk rfl rfl fun _ w hn k=>(by
  obtain⟨iH,iI,iJ,iK,f5,hU,hV⟩:=k.G 4 38
  exact⟨_,v_extract rfl f5 rfl,rfl⟩)) ?_
 exact .off<| .off .nil
 refine aftI bp cu cw fun cl iL cA eg eh ei bV=>?_
 have dk:=bV.f1 dc
 obtain⟨aZ,aw,a1,ax,bW,ej,ek⟩:=bV.G 5 39
 have bW:cl.eval (.tmp 39)=vv (numV (addM (Nm.mk ((numericV v).1.nk) ((numericV v).1.nn)) (Nm.mk 0 y)).1 (addM (Nm.mk ((numericV v).1.nk) ((numericV v).1.nn)) (Nm.mk 0 y)).2).1 aZ aw a1 ax:=bW
 have dl:=bV.g 6 40
 have bX:=cx.new_ ei
 refine sS8 dk bW bX fun f6 el bY hW=>?_
 have en:=ej.fr bX bY
 have eo:=ek.fr bX bY
 have ep:=eh.tR bY
 refine sP dl cA eg fun f7 hX er ay f9=>?_
 have⟨f8,iN,iO⟩:=ay.q3 dk bW dl
 refine ee _ _<| wp_ret (ret_k er (v:=.tuple #[vv (numV (addM (Nm.mk ((numericV v).1.nk) ((numericV v).1.nn)) (Nm.mk 0 y)).1 (addM (Nm.mk ((numericV v).1.nk) ((numericV v).1.nn)) (Nm.mk 0 y)).2).1 aZ aw a1 ax,iv ((numV (addM (Nm.mk ((numericV v).1.nk) ((numericV v).1.nn)) (Nm.mk 0 y)).1 (addM (Nm.mk ((numericV v).1.nk) ((numericV v).1.nn)) (Nm.mk 0 y)).2).2)]) (res_ct rfl f8 f9 (l_agg isAgg46 sizeOf46 el rfl)) ?_)
 have af:(stepV v y).1.mag=(numV (addM (Nm.mk ((numericV v).1.nk) ((numericV v).1.nn)) (Nm.mk 0 y)).1 (addM (Nm.mk ((numericV v).1.nk) ((numericV v).1.nn)) (Nm.mk 0 y)).2).1.mag:=by first|rfl|(simp only [stepV,Vl.z,hyz,aa,ab,ad,bsm] <;> rfl)|(exfalso; omega)
 have ag:(stepV v y).1.s=(numV (addM (Nm.mk ((numericV v).1.nk) ((numericV v).1.nn)) (Nm.mk 0 y)).1 (addM (Nm.mk ((numericV v).1.nk) ((numericV v).1.nn)) (Nm.mk 0 y)).2).1.s:=by first|rfl|(simp only [stepV,Vl.z,hyz,aa,ab,ad,bsm] <;> rfl)|(exfalso; omega)
 exact⟨aZ,aw,a1,ax,(by show Ending.returned (.tuple #[vv (numV (addM (Nm.mk ((numericV v).1.nk) ((numericV v).1.nn)) (Nm.mk 0 y)).1 (addM (Nm.mk ((numericV v).1.nk) ((numericV v).1.nn)) (Nm.mk 0 y)).2).1 aZ aw a1 ax,iv ((numV (addM (Nm.mk ((numericV v).1.nk) ((numericV v).1.nn)) (Nm.mk 0 y)).1 (addM (Nm.mk ((numericV v).1.nk) ((numericV v).1.nn)) (Nm.mk 0 y)).2).2)])=Ending.returned (.tuple #[vv (stepV v y).1 aZ aw a1 ax,iv ((stepV v y).2)]); (first|rfl|(simp only [stepV,Vl.z,hyz,aa,ab,ad,af,ag,bsm] <;> rfl)|(exfalso; omega))),(by rw [af]; exact en),(by rw [ag]; exact eo),ep⟩
 have dT:=oF ab
 rcases bc (decide (y = -1)) with ac|ac
 have dp:=oT ac
 refine wA tr6 [] 41 [ve (iv y),vT,vT,ve (iv y),vF,vF] bk ?_ ?_
 exact .M bo<| .b 0 (r_neq ab)<| .N 1<| .gm (fun k=>k.eq1 2 19 rfl) (fun k=>k.fx 1 bo)<| .V (fun p k=>v_bin rfl (k.eq1 3 20 rfl) rfl (fun _=>rfl) (r_neq ac))<| .T (fun k=>v_pickT rfl (k.eq1 2 19 rfl) (k.eq1 4 21 rfl)) .nil
 refine aftI bk cb cc fun iP iQ cB es et bs bt=>?_
 have⟨ga,gb,dq⟩:=bt.f3 bo c3 c5
 have gc:=bt.g 5 22
 have⟨eu,cC,ev,ew⟩:=nw4 bs cd ce cf ch
 refine ci _ _<| wf gc<| ws ?_
 refine c9 _ _<| wk fun iR ex=>wk fun iS ey=>?_
 refine wA tr3 [] 41 [ve (pv bn),ve (iv ((numericV v).1.k)),ve (.bool (decide (((numericV v).1.k)=4)))] cB ?_ ?_
 exact .F dq<| .J 0 isAgg3 cC<| .b 1 (r_eql rfl) .nil
 refine aftI cB es et fun iT iU bu cD cE bv bw=>?_
 have⟨dr,ds,dt⟩:=bw.f3 ga gb dq
 have du:=bw.g 2 26
 have⟨cF,cG,ez,hY⟩:=nw4 bv eu cC ev ew
 refine ey _ _ ?_
 rcases bc (decide (((numericV v).1.k)=4)) with ae|ae
 have dw:=oT ae
 have eA:=hB du ae
 refine wt eA<| wk fun iV eB=>?_
 refine wp_g0 [true,true,true,true,true,true,true,false,false] [(7,false),(8,true)] 41
  [ve (.pointer (some ⟨bn,3,none⟩)),ve (.agg #[.bool ((numericV v).1.neg),sv bm ((numericV v).1.mag) aT]),ve (iv y),(fun (v_:Value) (W:World)=>∃ (a3:Option Addr) (a4:Nat),v_=.agg #[.bool (decide (y < 0)),sv a3 (canon (y).natAbs) a4]∧SRow W .u32 a3 (canon (y).natAbs) a4),(TP (bigZ (goodI ((numericV v).1.neg) ((numericV v).1.mag) + goodI (decide (y < 0)) (canon (y).natAbs))).1 ((bigZ (goodI ((numericV v).1.neg) ((numericV v).1.mag) + goodI (decide (y < 0)) (canon (y).natAbs))).2)),(fun (v_:Value) (W:World)=>∃ (a5:Option Addr) (a6:Nat) (a7:Option Addr) (a8:Nat),v_=vv (bigZ (goodI ((numericV v).1.neg) ((numericV v).1.mag) + goodI (decide (y < 0)) (canon (y).natAbs))).1 a5 a6 a7 a8∧SRow W .u32 a5 ((bigZ (goodI ((numericV v).1.neg) ((numericV v).1.mag) + goodI (decide (y < 0)) (canon (y).natAbs))).1.mag) a6∧SRow W .u16 a7 ((bigZ (goodI ((numericV v).1.neg) ((numericV v).1.mag) + goodI (decide (y < 0)) (canon (y).natAbs))).1.s) a8),ve (iv ((bigZ (goodI ((numericV v).1.neg) ((numericV v).1.mag) + goodI (decide (y < 0)) (canon (y).natAbs))).2)),vt,vt] bu (.eq (.eq (.eq (.cons (fun _ _ _ n ⟨_,_,e,h⟩=>⟨_,_,e,h.new_ n⟩) (.cons (fun _ _ _ n ⟨_,_,_,_,e,h,i⟩=>⟨_,_,_,_,e,h.new_ n,i.new_ n⟩) (.cons (fun _ _ _ n ⟨_,_,_,_,e,h,i⟩=>⟨_,_,_,_,e,h.new_ n,i.new_ n⟩) (.eq (.tt (.tt .nil))))))))) ?_ ?_
 refine .F dt<| .K6 0 cG<| .M dr ?_
 refine .o1 (tkC rfl (noG rfl) rfl fun _ w hn k=>(by
  refine ⟨#[iv y],_,args1 (k.eq1 2 29 rfl),fun w=>by kernel_rfl,sOf_c y _ (by omega) (by omega),?_⟩
  rintro e w' ⟨gd,gf,rfl,hmo0,hm⟩
  exact⟨_,rfl,hm,⟨gd,gf,rfl,hmo0⟩⟩)) ?_
 refine .o1 (tkC rfl (noG rfl) rfl fun _ w hn k=>(by
  obtain⟨gg,gh,gi,eC⟩:=k.G 3 30
  refine ⟨#[.string ⟨#[43]⟩,.agg #[.bool ((numericV v).1.neg),sv bm ((numericV v).1.mag) aT],.agg #[.bool (decide (y < 0)),sv gg (canon (y).natAbs) gh]],_,args3 rfl (k.eq1 1 28 rfl) gi,fun w=>by kernel_rfl,qbigs_c ((numericV v).1.neg) _ ((numericV v).1.mag) _ (decide (y < 0)) _ (canon (y).natAbs) _ _ (ez.new_ hn) eC (VOk.numeric hvv).limbs (limbs_canon _),?_⟩
  rintro e w' ⟨gj,gk,gl,gn,rfl,hmo0,hmo1,hm⟩
  exact⟨_,rfl,hm,⟨gj,gk,gl,gn,rfl,hmo0,hmo1⟩⟩)) ?_
 refine .o1 (tk rfl rfl fun _ w hn k=>(by
  obtain⟨ar,go,gp,gq,gr,eD,eE⟩:=k.G 4 31
  exact⟨_,v_extract rfl gr rfl,⟨ar,go,gp,gq,rfl,eD,eE⟩⟩)) ?_
 refine .o1 (tk rfl rfl fun _ w hn k=>(by
  obtain⟨iW,iX,iY,iZ,gs,hZ,h3⟩:=k.G 4 31
  exact⟨_,v_extract rfl gs rfl,rfl⟩)) ?_
 exact .off<| .off .nil
 refine aftI bu cD cE fun cm i0 cH eF eG eH bZ=>?_
 have dx:=bZ.f1 ds
 obtain⟨a9,az,ba,aA,b0,eI,eJ⟩:=bZ.G 5 32
 have b0:cm.eval (.tmp 32)=vv (bigZ (goodI ((numericV v).1.neg) ((numericV v).1.mag) + goodI (decide (y < 0)) (canon (y).natAbs))).1 a9 az ba aA:=b0
 have dy:=bZ.g 6 33
 have b1:=cF.new_ eH
 refine sS8 dx b0 b1 fun gt eK b2 h4=>?_
 have eM:=eI.fr b1 b2
 have eN:=eJ.fr b1 b2
 have eO:=eG.tR b2
 refine sP dy cH eF fun gu h5 eP aB gw=>?_
 have⟨gv,i2,i3⟩:=aB.q3 dx b0 dy
 refine eB _ _<| wp_ret (ret_k eP (v:=.tuple #[vv (bigZ (goodI ((numericV v).1.neg) ((numericV v).1.mag) + goodI (decide (y < 0)) (canon (y).natAbs))).1 a9 az ba aA,iv ((bigZ (goodI ((numericV v).1.neg) ((numericV v).1.mag) + goodI (decide (y < 0)) (canon (y).natAbs))).2)]) (res_ct rfl gv gw (l_agg isAgg46 sizeOf46 eK rfl)) ?_)
 have af:(stepV v y).1.mag=(bigZ (goodI ((numericV v).1.neg) ((numericV v).1.mag) + goodI (decide (y < 0)) (canon (y).natAbs))).1.mag:=by first|rfl|(simp only [stepV,Vl.z,hyz,aa,ab,ac,ae,bsm] <;> rfl)|(exfalso; omega)
 have ag:(stepV v y).1.s=(bigZ (goodI ((numericV v).1.neg) ((numericV v).1.mag) + goodI (decide (y < 0)) (canon (y).natAbs))).1.s:=by first|rfl|(simp only [stepV,Vl.z,hyz,aa,ab,ac,ae,bsm] <;> rfl)|(exfalso; omega)
 exact⟨a9,az,ba,aA,(by show Ending.returned (.tuple #[vv (bigZ (goodI ((numericV v).1.neg) ((numericV v).1.mag) + goodI (decide (y < 0)) (canon (y).natAbs))).1 a9 az ba aA,iv ((bigZ (goodI ((numericV v).1.neg) ((numericV v).1.mag) + goodI (decide (y < 0)) (canon (y).natAbs))).2)])=Ending.returned (.tuple #[vv (stepV v y).1 a9 az ba aA,iv ((stepV v y).2)]); (first|rfl|(simp only [stepV,Vl.z,hyz,aa,ab,ac,ae,af,ag,bsm] <;> rfl)|(exfalso; omega))),(by rw [af]; exact eM),(by rw [ag]; exact eN),eO⟩
 have dw:=oF ae
 have eQ:=hB du ae
 refine wf eQ<| ws<| ex _ _<| wk fun i4 eR=>?_
 refine wp_g0 [true,true,true,true,true,true,true,false,false] [(7,false),(8,true)] 41
  [ve (.pointer (some ⟨bn,1,none⟩)),ve (nv (Nm.mk ((numericV v).1.nk) ((numericV v).1.nn))),ve (iv y),ve (nv (Nm.mk 0 y)),(TP (numV (addM (Nm.mk ((numericV v).1.nk) ((numericV v).1.nn)) (Nm.mk 0 y)).1 (addM (Nm.mk ((numericV v).1.nk) ((numericV v).1.nn)) (Nm.mk 0 y)).2).1 ((numV (addM (Nm.mk ((numericV v).1.nk) ((numericV v).1.nn)) (Nm.mk 0 y)).1 (addM (Nm.mk ((numericV v).1.nk) ((numericV v).1.nn)) (Nm.mk 0 y)).2).2)),(fun (v_:Value) (W:World)=>∃ (bb:Option Addr) (bd:Nat) (be:Option Addr) (bf:Nat),v_=vv (numV (addM (Nm.mk ((numericV v).1.nk) ((numericV v).1.nn)) (Nm.mk 0 y)).1 (addM (Nm.mk ((numericV v).1.nk) ((numericV v).1.nn)) (Nm.mk 0 y)).2).1 bb bd be bf∧SRow W .u32 bb ((numV (addM (Nm.mk ((numericV v).1.nk) ((numericV v).1.nn)) (Nm.mk 0 y)).1 (addM (Nm.mk ((numericV v).1.nk) ((numericV v).1.nn)) (Nm.mk 0 y)).2).1.mag) bd∧SRow W .u16 be ((numV (addM (Nm.mk ((numericV v).1.nk) ((numericV v).1.nn)) (Nm.mk 0 y)).1 (addM (Nm.mk ((numericV v).1.nk) ((numericV v).1.nn)) (Nm.mk 0 y)).2).1.s) bf),ve (iv ((numV (addM (Nm.mk ((numericV v).1.nk) ((numericV v).1.nn)) (Nm.mk 0 y)).1 (addM (Nm.mk ((numericV v).1.nk) ((numericV v).1.nn)) (Nm.mk 0 y)).2).2)),vt,vt] bu (.eq (.eq (.eq (.eq (.cons (fun _ _ _ n ⟨_,_,_,_,e,h,i⟩=>⟨_,_,_,_,e,h.new_ n,i.new_ n⟩) (.cons (fun _ _ _ n ⟨_,_,_,_,e,h,i⟩=>⟨_,_,_,_,e,h.new_ n,i.new_ n⟩) (.eq (.tt (.tt .nil))))))))) ?_ ?_
 refine .F dt<| .K2 0 cG<| .M dr<| .T (fun k=>v_build (ps:=[(1,iv y)]) rfl (parts1 (k.eq1 2 36 rfl)) (by kernel_rfl)) ?_
 refine .o1 (tkC rfl (noG rfl) rfl fun _ w hn k=>(by
  refine ⟨#[.string ⟨#[43]⟩,nv (Nm.mk ((numericV v).1.nk) ((numericV v).1.nn)),nv (Nm.mk 0 y)],_,args3 rfl (k.eq1 1 35 rfl) (k.eq1 3 37 rfl),fun w=>by kernel_rfl,qnums_c (Nm.mk ((numericV v).1.nk) ((numericV v).1.nn)) (Nm.mk 0 y) _ ,?_⟩
  rintro e w' ⟨gx,gy,gz,gA,rfl,hmo0,hmo1,hm⟩
  exact⟨_,rfl,hm,⟨gx,gy,gz,gA,rfl,hmo0,hmo1⟩⟩)) ?_
 refine .o1 (tk rfl rfl fun _ w hn k=>(by
  obtain⟨gB,gC,gD,gE,gF,eS,eT⟩:=k.G 4 38
  exact⟨_,v_extract rfl gF rfl,⟨gB,gC,gD,gE,rfl,eS,eT⟩⟩)) ?_
 refine .o1 (tk rfl rfl fun _ w hn k=>(by
  obtain⟨i5,i6,i7,i8,gG,h6,h7⟩:=k.G 4 38
  exact⟨_,v_extract rfl gG rfl,rfl⟩)) ?_
 exact .off<| .off .nil
 refine aftI bu cD cE fun cn i9 cI eU eV eW b3=>?_
 have dB:=b3.f1 ds
 obtain⟨bg,aC,bh,aD,b4,eX,eY⟩:=b3.G 5 39
 have b4:cn.eval (.tmp 39)=vv (numV (addM (Nm.mk ((numericV v).1.nk) ((numericV v).1.nn)) (Nm.mk 0 y)).1 (addM (Nm.mk ((numericV v).1.nk) ((numericV v).1.nn)) (Nm.mk 0 y)).2).1 bg aC bh aD:=b4
 have dC:=b3.g 6 40
 have b5:=cF.new_ eW
 refine sS8 dB b4 b5 fun gH eZ b6 ia=>?_
 have e1:=eX.fr b5 b6
 have e2:=eY.fr b5 b6
 have e3:=eV.tR b6
 refine sP dC cI eU fun gI ib e4 aE gK=>?_
 have⟨gJ,jb,jc⟩:=aE.q3 dB b4 dC
 refine eR _ _<| wp_ret (ret_k e4 (v:=.tuple #[vv (numV (addM (Nm.mk ((numericV v).1.nk) ((numericV v).1.nn)) (Nm.mk 0 y)).1 (addM (Nm.mk ((numericV v).1.nk) ((numericV v).1.nn)) (Nm.mk 0 y)).2).1 bg aC bh aD,iv ((numV (addM (Nm.mk ((numericV v).1.nk) ((numericV v).1.nn)) (Nm.mk 0 y)).1 (addM (Nm.mk ((numericV v).1.nk) ((numericV v).1.nn)) (Nm.mk 0 y)).2).2)]) (res_ct rfl gJ gK (l_agg isAgg46 sizeOf46 eZ rfl)) ?_)
 have af:(stepV v y).1.mag=(numV (addM (Nm.mk ((numericV v).1.nk) ((numericV v).1.nn)) (Nm.mk 0 y)).1 (addM (Nm.mk ((numericV v).1.nk) ((numericV v).1.nn)) (Nm.mk 0 y)).2).1.mag:=by first|rfl|(simp only [stepV,Vl.z,hyz,aa,ab,ac,ae,bsm] <;> rfl)|(exfalso; omega)
 have ag:(stepV v y).1.s=(numV (addM (Nm.mk ((numericV v).1.nk) ((numericV v).1.nn)) (Nm.mk 0 y)).1 (addM (Nm.mk ((numericV v).1.nk) ((numericV v).1.nn)) (Nm.mk 0 y)).2).1.s:=by first|rfl|(simp only [stepV,Vl.z,hyz,aa,ab,ac,ae,bsm] <;> rfl)|(exfalso; omega)
 exact⟨bg,aC,bh,aD,(by show Ending.returned (.tuple #[vv (numV (addM (Nm.mk ((numericV v).1.nk) ((numericV v).1.nn)) (Nm.mk 0 y)).1 (addM (Nm.mk ((numericV v).1.nk) ((numericV v).1.nn)) (Nm.mk 0 y)).2).1 bg aC bh aD,iv ((numV (addM (Nm.mk ((numericV v).1.nk) ((numericV v).1.nn)) (Nm.mk 0 y)).1 (addM (Nm.mk ((numericV v).1.nk) ((numericV v).1.nn)) (Nm.mk 0 y)).2).2)])=Ending.returned (.tuple #[vv (stepV v y).1 bg aC bh aD,iv ((stepV v y).2)]); (first|rfl|(simp only [stepV,Vl.z,hyz,aa,ab,ac,ae,af,ag,bsm] <;> rfl)|(exfalso; omega))),(by rw [af]; exact e1),(by rw [ag]; exact e2),e3⟩
 have dp:=oF ac
 refine wA tr6 [] 41 [ve (iv y),vT,vT,ve (iv y),vT,vT] bk ?_ ?_
 exact .M bo<| .b 0 (r_neq ab)<| .N 1<| .gm (fun k=>k.eq1 2 19 rfl) (fun k=>k.fx 1 bo)<| .V (fun p k=>v_bin rfl (k.eq1 3 20 rfl) rfl (fun _=>rfl) (r_neq ac))<| .T (fun k=>v_pickT rfl (k.eq1 2 19 rfl) (k.eq1 4 21 rfl)) .nil
 refine aftI bk cb cc fun jd je cJ e5 e6 bx bz=>?_
 have⟨jf,gL,jg⟩:=bz.f3 bo c3 c5
 have gM:=bz.g 5 22
 have⟨e7,ic,id,ie⟩:=nw4 bx cd ce cf ch
 refine ci _ _<| wt gM<| wk fun jh e8=>?_
 refine wA [true,false,false] [(1,false),(2,true)] 41 [ve (vv (Vl.mk 0 0 0 false [] [] 0) none 0 none 0),vt,vt] cJ ?_ ?_
 exact .Z<| .off<| .off .nil
 refine aftI cJ e5 e6 fun dF ji cK e9 fa fb cL=>?_
 have dG:=cL.f1 gL
 have dH:=cL.g 0 23
 have fc:=e7.new_ fb
 refine sS8 dG dH fc fun gN fe fd ig=>?_
 have fg:=fa.tR fd
 refine sP (v:=iv 3) rfl cK e9 fun gO ih fh aG gQ=>?_
 have⟨gP,jk⟩:=aG.q2 dG dH
 refine e8 _ _<| wp_ret (ret_k fh (res8 gP gQ fe) ?_)
 exact rV (by first|rfl|(simp only [stepV,Vl.z,hyz,aa,ab,ac,bsm] <;> rfl)|(exfalso; omega)) fg
 have dS:=oF aa
 refine wA tr2 [] 41 [ve (iv ((numericV v).2)),vT] bN ?_ ?_
 exact .M cr<| .b 0 (r_neq aa) .nil
 refine aftI bN c0 cZ fun jl jm cM fi fj bA bi=>?_
 have⟨jn,gR,jo,gS⟩:=bi.f4 fB fC fD cr
 have gT:=bi.g 1 14
 have⟨fk,ii,ij,ik⟩:=nw4 bA cY cV cW cX
 refine c1 _ _<| wt gT<| wk fun jp fl=>?_
 refine wB [true,true,false,false] [1] [(2,false),(3,true)] 41 [ve (vv (Vl.mk 0 0 0 false [] [] 0) none 0 none 0),ve (iv ((numericV v).2)),vt,vt] [] cM ?_ ?_ ?_
 refine .Z ?_
 refine .o3 ?_
 exact .off<| .off .nil
 refine eg1 ?_
 exact eager_take rfl rfl fun _ w hn k=>⟨iv ((numericV v).2),fun w=>v_move rfl (k.fx 7 gS),rfl⟩
 refine aftI cM fi fj fun dK jq cN fm fn fo b7=>?_
 have dL:=b7.f1 gR
 have dM:=b7.g 0 15
 have dN:=b7.g 1 16
 have fp:=fk.new_ fo
 refine sS8 dL dM fp fun gU fs fq il=>?_
 have fu:=fn.tR fq
 refine sP dN cN fm fun gV im fv aF gX=>?_
 have⟨gW,js,jt⟩:=aF.q3 dL dM dN
 refine fl _ _<| wp_ret (ret_k fv (res8 gW gX fs) ?_)
 exact rV (by first|rfl|(simp only [stepV,Vl.z,hyz,aa,bsm] <;> rfl)|(exfalso; omega)) fu
def qun_c_P (o:ByteArray) (v:Vl) (Av:Option Addr) (cv:Nat) (Bv:Option Addr) (dv:Nat) (w:World) (en:Ending) (w':World):Prop:=∃ (Ar0:Option Addr) (cr0:Nat) (Ar1:Option Addr) (cr1:Nat),en=.returned (.tuple #[vv (unG o v).1 Ar0 cr0 Ar1 cr1,iv ((unG o v).2)])∧SRow w' .u32 Ar0 ((unG o v).1.mag) cr0∧SRow w' .u16 Ar1 ((unG o v).1.s) cr1∧New w w'
theorem qun_c (o:ByteArray) (v:Vl) (Av:Option Addr) (cv:Nat) (Bv:Option Addr) (dv:Nat) (w:World) (hmv:SRow w .u32 Av v.mag cv) (hsv:SRow w .u16 Bv v.s dv) (hvv:VOk v):Calls Tryz.prog 24 #[.string o,vv v Av cv Bv dv] w (qun_c_P o v Av cv Bv dv w):=by
  have h:=qun_c0 o v Av cv Bv dv w hmv hsv hvv
  unfold qun_c0_P at h
  rw [unR_eq] at h
  exact h

theorem ofew_c (o:ByteArray) (v:Vl) (Av:Option Addr) (cv:Nat) (Bv:Option Addr) (dv:Nat) (u:Vl) (Au:Option Addr) (cu:Nat) (Bu:Option Addr) (du:Nat) (w:World) (hmv:SRow w .u32 Av v.mag cv) (hsv:SRow w .u16 Bv v.s dv) (hmu:SRow w .u32 Au u.mag cu) (hsu:SRow w .u16 Bu u.s du):Calls prog 11 #[.string o,vv v Av cv Bv dv,vv u Au cu Bu du] w (IsRet (.bool (fewV o v u)) w):=by
 refine enter_abs func11 rfl fun a0 ab an hp=>?_
 have ab:a0.tmps.size=18:=ab
 have ac:New w w:=Upd.refl _ _
 have hp0:a0.eval (.tmp 0)=.string o:=hp 0 _ rfl
 have hp1:a0.eval (.tmp 1)=vv v Av cv Bv dv:=hp 1 _ rfl
 have hp2:a0.eval (.tmp 2)=vv u Au cu Bu du:=hp 2 _ rfl
 refine wk fun K1 ao=>?_
 refine wB tr3 [] [] 18 [IsNew w 29 (c7 v Av cv Bv dv),IsNew w 29 (c7 u Au cu Bu du),vF] [0,1] ab ?_ heN ?_
 exact .X hp1<| .X hp2<| .c .nil
 refine aftI ab an ac fun a2 w3 ae ap aa ay ad=>?_
 have h8:=ad.f1 hp0
 obtain⟨az,h9,af,ag⟩:=ad.G 0 4
 obtain⟨aA,aq,ah,ai⟩:=ad.G 1 5
 have au:=Nat.le_trans ac.size af
 have av:=Nat.le_trans ac.size ah
 refine ao _ _ <| wk fun aB aj=>?_
 refine wA tr12 [] 18 [ve (.string o),ve (iv (o.size:Int)),ve (.bool (decide ((o.size:Int)≤100))),ve (.bool (decide ((o.size:Int)≤100))),ve (gq (decide ((o.size:Int)≤100)) (vv v Av cv Bv dv)),ve (gq (decide ((o.size:Int)≤100)) (.bool (decide ((v.s.length:Int)≤20000) && decide ((v.mag.length:Int)≤40)))),ve (.bool ((decide ((o.size:Int)≤100)) && (decide ((v.s.length:Int)≤20000) && decide ((v.mag.length:Int)≤40)))),ve (.bool ((decide ((o.size:Int)≤100)) && (decide ((v.s.length:Int)≤20000) && decide ((v.mag.length:Int)≤40)))),ve (gq ((decide ((o.size:Int)≤100)) && (decide ((v.s.length:Int)≤20000) && decide ((v.mag.length:Int)≤40))) (vv u Au cu Bu du)),ve (gq ((decide ((o.size:Int)≤100)) && (decide ((v.s.length:Int)≤20000) && decide ((v.mag.length:Int)≤40))) (.bool (decide ((u.s.length:Int)≤20000) && decide ((u.mag.length:Int)≤40)))),ve (.bool (((decide ((o.size:Int)≤100)) && (decide ((v.s.length:Int)≤20000) && decide ((v.mag.length:Int)≤40))) && (decide ((u.s.length:Int)≤20000) && decide ((u.mag.length:Int)≤40)))),ve (.bool (((decide ((o.size:Int)≤100)) && (decide ((v.s.length:Int)≤20000) && decide ((v.mag.length:Int)≤40))) && (decide ((u.s.length:Int)≤20000) && decide ((u.mag.length:Int)≤40))))] ae ?_ ?_
 exact .M h8<| .T (fun k=>v_lenS rfl (k.eq1 0 7 rfl) (by kernel_rfl))<| .b 1 (r_leqK rfl)<| .N 2<| .Q (fun k=>g0 (k.eq1 3 10 rfl)) (fun hG n k=>v_load rfl (k.fx 4 h9) (l_agg isAgg29 sizeOf29 (ag.new_ n) rfl))<| .o1 (scC (G:=(decide ((o.size:Int)≤100))) rfl rfl rfl (fun _ _ k=>g0 (k.eq1 3 10 rfl)) rfl (fun hG _ w hn k=>⟨#[vv v Av cv Bv dv],args1 (cT hG (k.eq1 4 11 rfl)),fun _=>by kernel_rfl,few_c v _ _ _ _ _ (hmv.new_ (aa.transNew hn)) (hsv.new_ (aa.transNew hn))⟩))<| .O 3 5<| .N 6<| .Q (fun k=>g0 (k.eq1 7 14 rfl)) (fun hG n k=>v_load rfl (k.fx 5 aq) (l_agg isAgg29 sizeOf29 (ai.new_ n) rfl))<| .o1 (scC (G:=((decide ((o.size:Int)≤100)) && (decide ((v.s.length:Int)≤20000) && decide ((v.mag.length:Int)≤40)))) rfl rfl rfl (fun _ _ k=>g0 (k.eq1 7 14 rfl)) rfl (fun hG _ w hn k=>⟨#[vv u Au cu Bu du],args1 (cT hG (k.eq1 8 15 rfl)),fun _=>by kernel_rfl,few_c u _ _ _ _ _ (hmu.new_ (aa.transNew hn)) (hsu.new_ (aa.transNew hn))⟩))<| .O 7 9<| .B 10 .nil
 refine aftI ae ap aa fun aC aD aw ak al ax am=>?_
 have ar:=am.g 11 6
 refine aj _ _<| wp_ret (ret_k ak (v:=.bool (((decide ((o.size:Int)≤100)) && (decide ((v.s.length:Int)≤20000) && decide ((v.mag.length:Int)≤40))) && (decide ((u.s.length:Int)≤20000) && decide ((u.mag.length:Int)≤40)))) (res_t rfl ar _) ?_)
 refine ⟨?_,al⟩
 show Ending.returned (.bool (((decide ((o.size:Int)≤100)) && (decide ((v.s.length:Int)≤20000) && decide ((v.mag.length:Int)≤40))) && (decide ((u.s.length:Int)≤20000) && decide ((u.mag.length:Int)≤40))))=Ending.returned (.bool (fewV o v u))
 first|rfl|(simp only [fewV,bsm] <;> rfl)|(exfalso; omega)
theorem ounary_w (o:ByteArray) (v:Vl) (Av:Option Addr) (cv:Nat) (Bv:Option Addr) (dv:Nat) (y:Int) (w:World) (hmv:SRow w .u32 Av v.mag cv) (hsv:SRow w .u16 Bv v.s dv) (hlv:Limbs v.mag) (huv:U16s v.s) (hbv:-9223372036854775808≤v.nn∧v.nn≤9223372036854775807∧-9223372036854775808≤v.ref∧v.ref≤9223372036854775807) (hy1:-9223372036854775808≤y) (hy2:y≤9223372036854775807) (HT:ItoaOk w):Calls prog 7 #[.string o,vv v Av cv Bv dv,iv y] w (IsRet (.bool true) w):=by
 refine enter_abs func7 rfl fun a0 b5 gu hp=>?_
 have b5:a0.tmps.size=71:=b5
 have ew:New w w:=Upd.refl _ _
 have hp0:a0.eval (.tmp 0)=.string o:=hp 0 _ rfl
 have hp1:a0.eval (.tmp 1)=vv v Av cv Bv dv:=hp 1 _ rfl
 have hp2:a0.eval (.tmp 2)=iv y:=hp 2 _ rfl
 refine wk fun K1 gv=>?_
 refine wB tr2 [] [] 71 [IsNew w 29 (c7 v Av cv Bv dv),vF] [0] b5 ?_ heN ?_
 exact .X hp1<| .c .nil
 refine aftI b5 gu ew fun a2 w3 ex gw cq ih cr=>?_
 have⟨h8,h9⟩:=cr.f2 hp0 hp2
 obtain⟨ct,gx,eI,eJ⟩:=cr.G 0 4
 have hx:=Nat.le_trans ew.size eI
 refine gv _ _ <| wk fun ii eK=>?_
 refine wk fun ij eL=>?_
 refine wA tr2 [] 71 [vT,vF] ex ?_ ?_
 exact .o1 (ck rfl rfl rfl (fun _ w hn k=>⟨#[],rfl,fun _=>by kernel_rfl,first_c _ (HT.up (cq.transNew hn))⟩) fun _=>rfl)<| .T (fun k=>v_not rfl (k.eq1 0 16 rfl)) .nil
 refine aftI ex gw cq fun ik il cu eM bd eN bG=>?_
 have⟨ey,gy,cw⟩:=bG.f3 h8 h9 gx
 have gz:=bG.g 1 17
 have bW:=eJ.new_ eN
 refine eL _ _<| wf gz<| ws ?_
 refine eK _ _<| wk fun im eO=>wk fun io eP=>?_
 refine wA tr5 [] 71 [ve (.string o),ve (vv v Av cv Bv dv),ve (vv v Av cv Bv dv),ve (.bool (fewV o v v)),ve (.bool (!(fewV o v v)))] cu ?_ ?_
 exact .M ey<| .L9 cw bW<| .L9 cw bW<| .D (fun k=>args3 (k.eq1 0 18 rfl) (k.eq1 1 19 rfl) (k.eq1 2 20 rfl)) (fun p=>ofew_c o v _ _ _ _ v _ _ _ _ _ (hmv.new_ (bd.transNew p)) (hsv.new_ (bd.transNew p)) (hmv.new_ (bd.transNew p)) (hsv.new_ (bd.transNew p)))<| .T (fun k=>v_not rfl (k.eq1 3 21 rfl)) .nil
 refine aftI cu eM bd fun ez gA bH cx a4 eQ bI=>?_
 have⟨gB,gC,eA⟩:=bI.f3 ey gy cw
 have eB:=bI.g 4 22
 have bX:=bW.new_ eQ
 refine eP _ _ ?_
 rcases bc (fewV o v v) with bJ|bJ
 have eR:ez.eval (.tmp 22)=.bool false:=eB.trans (congrArg Value.bool (by rw [bJ]; rfl))
 refine wf eR<| ws<| eO _ _<| wk fun ip eS=>?_
 have hfw:=few_two bJ
 have hvv:VOk v:=few_ok hfw.1 hlv huv hbv.1 hbv.2.1 hbv.2.2.1 hbv.2.2.2
 refine wB [true,true,true,false] [] [(3,false)] 71 [ve (vv v Av cv Bv dv),ve (vv v Av cv Bv dv),IsNew gA 46 z7,vt] [2] bH ?_ heN ?_
 exact .L9 eA bX<| .C 0 (fun p=>plain_c v _ _ _ _ _ (hmv.new_ (a4.transNew p)) (hsv.new_ (a4.transNew p)))<| .Y<| .off .nil
 refine aftI bH cx a4 fun iq ir cy eT eU eV be=>?_
 have⟨eC,gD,eD⟩:=be.f3 gB gC eA
 have gE:=be.g 1 25
 obtain⟨bU,eE,cz,eW⟩:=be.G 2 7
 have eX:=bX.new_ eV
 have hne62:ct ≠ bU:=by have h1:=bX.lt; have h2:=cz; omega
 have hy:=Nat.le_trans a4.size cz
 refine sS8 eE gE eW fun eF cA eY eZ=>?_
 have bY:=eZ hne62 eX
 have bK:=eU.tR eY
 refine eS _ _ <| wk fun iu e1=>?_
 refine wp_gS (fun W=>True) (fun W W' hn h=>trivial) trivial [true,true,true,true,true,true,true,false,false] [5] [(7,false),(8,true)] 71
  [ve (.string o),ve (vv v Av cv Bv dv),(TP (unG o v).1 ((unG o v).2)),(TP (unG o v).1 ((unG o v).2)),(fun (v_:Value) (W:World)=>∃ (bf:Option Addr) (bg:Nat) (bh:Option Addr) (bi:Nat),v_=vv (unG o v).1 bf bg bh bi∧SRow W .u32 bf ((unG o v).1.mag) bg∧SRow W .u16 bh ((unG o v).1.s) bi),ve (iv ((unG o v).2)),IsNew eF 29 z7,vt,vt]
  [6] (newsCons (fun v w h=>IsNew.old h) newsNil) cy (.eq (.eq (.cons (fun _ _ _ n ⟨_,_,_,_,e,h,i⟩=>⟨_,_,_,_,e,h.new_ n,i.new_ n⟩) (.cons (fun _ _ _ n ⟨_,_,_,_,e,h,i⟩=>⟨_,_,_,_,e,h.new_ n,i.new_ n⟩) (.cons (fun _ _ _ n ⟨_,_,_,_,e,h,i⟩=>⟨_,_,_,_,e,h.new_ n,i.new_ n⟩) (.eq (.nw (.tt (.tt .nil))))))))) ?_ ?_ ?_
 refine .M eC<| .L9 eD bY ?_
 refine .o1 (tkC rfl (noG rfl) rfl fun _ w hn k=>(by
  refine ⟨#[.string o,vv v Av cv Bv dv],_,args2 (k.eq1 0 27 rfl) (k.eq1 1 28 rfl),fun w=>by kernel_rfl,unG_c o v _ _ _ _ _ (hmv.new_ (bK.transNew hn)) (hsv.new_ (bK.transNew hn)) hvv,?_⟩
  rintro e w' ⟨A1,c2,A3,c4,rfl,hmo0,hmo1,hm⟩
  exact⟨_,rfl,hm,⟨A1,c2,A3,c4,rfl,hmo0,hmo1⟩⟩)) ?_
 refine .o1 (tk rfl rfl fun _ w hn k=>(by
  obtain⟨A9,gF,gG,gH,gI,e2,e3⟩:=k.G 2 29
  exact⟨_,v_move rfl gI,⟨A9,gF,gG,gH,rfl,e2,e3⟩⟩)) ?_
 refine .o1 (tk rfl rfl fun _ w hn k=>(by
  obtain⟨gJ,gK,gL,gM,gN,e4,e5⟩:=k.G 3 26
  exact⟨_,v_extract rfl gN rfl,⟨gJ,gK,gL,gM,rfl,e4,e5⟩⟩)) ?_
 refine .o3 ?_
 exact .Y<| .off<| .off .nil
 refine eg1 ?_
 exact eager_takeG rfl (noG rfl) fun _ w hn k=>(by
  obtain⟨iw,ix,iy,iz,gO,hz,hA⟩:=k.G 3 26
  exact⟨_,fun w hS=>v_extract rfl gO rfl,rfl⟩)
 intro cB iA _ bZ ax
 obtain⟨cC,e6,cY⟩:=aft ax cy eT bK bZ
 have⟨gP,gQ,gR,gS⟩:=ax.f4 eC gD eD eE
 obtain⟨bV,bj,bk,bl,b6,e7,e8⟩:=ax.G 4 30
 have b6:cB.eval (.tmp 30)=vv (unG o v).1 bV bj bk bl:=b6
 have eG:=ax.g 5 31
 obtain⟨bF,eH,b0,b1⟩:=ax.G 6 8
 have⟨e9,fa⟩:=nw2 bZ bY cA
 have hne99:ct ≠ bF:=by have h1:=bY.lt; have h2:=b0; omega
 have hne100:bU ≠ bF:=by have h1:=cA.lt; have h2:=b0; omega
 have hg:=Nat.le_trans bK.size b0
 refine sS9 eH b6 b1 fun cD b8 bL b7=>?_
 have c0:=e7.fr b1 bL
 have c1:=e8.fr b1 bL
 have b9:=b7 hne99 e9
 have bM:=b7 hne100 fa
 have a6:=cY.tR bL
 refine sP eG cC e6 fun fb ca c3 ad fg=>?_
 have⟨fc,fd,fe⟩:=ad.q3 gP gQ gR
 have⟨cG,hD,hE⟩:=ad.q3 gS b6 eG
 have ff:=ad.q eH
 refine e1 _ _ <| wk fun hF c5=>?_
 refine wp_gS (fun W=>True) (fun W W' hn h=>trivial) trivial [true,true,true,true,true,true,true,false,false] [5] [(7,false),(8,true)] 71
  [ve (.string o),ve (vv v Av cv Bv dv),(TP (unG o v).1 ((unG o v).2)),(TP (unG o v).1 ((unG o v).2)),(fun (v_:Value) (W:World)=>∃ (bq:Option Addr) (br:Nat) (bs:Option Addr) (bt:Nat),v_=vv (unG o v).1 bq br bs bt∧SRow W .u32 bq ((unG o v).1.mag) br∧SRow W .u16 bs ((unG o v).1.s) bt),ve (iv ((unG o v).2)),IsNew cD 46 z7,vt,vt]
  [6] (newsCons (fun v w h=>IsNew.old h) newsNil) ca (.eq (.eq (.cons (fun _ _ _ n ⟨_,_,_,_,e,h,i⟩=>⟨_,_,_,_,e,h.new_ n,i.new_ n⟩) (.cons (fun _ _ _ n ⟨_,_,_,_,e,h,i⟩=>⟨_,_,_,_,e,h.new_ n,i.new_ n⟩) (.cons (fun _ _ _ n ⟨_,_,_,_,e,h,i⟩=>⟨_,_,_,_,e,h.new_ n,i.new_ n⟩) (.eq (.nw (.tt (.tt .nil))))))))) ?_ ?_ ?_
 refine .M fc<| .L8 cG bM ?_
 refine .o1 (tkC rfl (noG rfl) rfl fun _ w hn k=>(by
  refine ⟨#[.string o,vv v Av cv Bv dv],_,args2 (k.eq1 0 33 rfl) (k.eq1 1 34 rfl),fun w=>by kernel_rfl,qun_c o v _ _ _ _ _ (hmv.new_ (a6.transNew hn)) (hsv.new_ (a6.transNew hn)) hvv,?_⟩
  rintro e w' ⟨gT,gU,gV,gW,rfl,hmo0,hmo1,hm⟩
  exact⟨_,rfl,hm,⟨gT,gU,gV,gW,rfl,hmo0,hmo1⟩⟩)) ?_
 refine .o1 (tk rfl rfl fun _ w hn k=>(by
  obtain⟨gX,gY,gZ,g0,g1,fh,fi⟩:=k.G 2 35
  exact⟨_,v_move rfl g1,⟨gX,gY,gZ,g0,rfl,fh,fi⟩⟩)) ?_
 refine .o1 (tk rfl rfl fun _ w hn k=>(by
  obtain⟨g2,g3,g4,g5,g6,fj,fk⟩:=k.G 3 32
  exact⟨_,v_extract rfl g6 rfl,⟨g2,g3,g4,g5,rfl,fj,fk⟩⟩)) ?_
 refine .o3 ?_
 exact .Y<| .off<| .off .nil
 refine eg1 ?_
 exact eager_takeG rfl (noG rfl) fun _ w hn k=>(by
  obtain⟨iB,iC,iD,iE,g7,hG,hH⟩:=k.G 3 32
  exact⟨_,fun w hS=>v_extract rfl g7 rfl,rfl⟩)
 intro b2 hI _ ay ah
 obtain⟨cb,c9,da⟩:=aft ah ca c3 a6 ay
 have⟨fl,fm,fn,fo⟩:=ah.f4 fd fe cG ff
 have fp:=ah.f1 fg
 obtain⟨bu,aU,aH,aV,bN,db,dc⟩:=ah.G 4 36
 have bN:b2.eval (.tmp 36)=vv (unG o v).1 bu aU aH aV:=bN
 have cH:=ah.g 5 37
 obtain⟨a5,cI,a7,aW⟩:=ah.G 6 10
 have⟨dd,de,df⟩:=nw3 ay b9 bM b8
 have hne154:ct ≠ a5:=by have h1:=b9.lt; have h2:=a7; omega
 have hne155:bU ≠ a5:=by have h1:=bM.lt; have h2:=a7; omega
 have hne156:bF ≠ a5:=by have h1:=b8.lt; have h2:=a7; omega
 have hh:=Nat.le_trans a6.size a7
 have⟨dg,dh⟩:=nw2 ay c0 c1
 refine sS8 cI bN aW fun cJ cc aX bO=>?_
 have dj:=dg.fr aW aX
 have dk:=dh.fr aW aX
 have dl:=db.fr aW aX
 have dm:=dc.fr aW aX
 have dn:=bO hne154 dd
 have cd:=bO hne155 de
 have ce:=bO hne156 df
 have a8:=da.tR aX
 refine sP cH cb c9 fun fq cf dp ac fy=>?_
 have⟨cM,fs,ft⟩:=ac.q3 fl fm fn
 have⟨fu,fv,hK⟩:=ac.q3 fo fp bN
 have⟨hL,fw⟩:=ac.q2 cH cI
 refine c5 _ _ <| wk fun hM dq=>?_
 refine wp_gS (fun W=>True) (fun W W' hn h=>trivial) trivial [true,true,true,true,true,true,true,false,false] [5] [(7,false),(8,true)] 71
  [ve (vv v Av cv Bv dv),ve (iv y),(TP (stepV v y).1 ((stepV v y).2)),(TP (stepV v y).1 ((stepV v y).2)),(fun (v_:Value) (W:World)=>∃ (aI:Option Addr) (aJ:Nat) (aK:Option Addr) (aL:Nat),v_=vv (stepV v y).1 aI aJ aK aL∧SRow W .u32 aI ((stepV v y).1.mag) aJ∧SRow W .u16 aK ((stepV v y).1.s) aL),ve (iv ((stepV v y).2)),IsNew cJ 29 z7,vt,vt]
  [6] (newsCons (fun v w h=>IsNew.old h) newsNil) cf (.eq (.eq (.cons (fun _ _ _ n ⟨_,_,_,_,e,h,i⟩=>⟨_,_,_,_,e,h.new_ n,i.new_ n⟩) (.cons (fun _ _ _ n ⟨_,_,_,_,e,h,i⟩=>⟨_,_,_,_,e,h.new_ n,i.new_ n⟩) (.cons (fun _ _ _ n ⟨_,_,_,_,e,h,i⟩=>⟨_,_,_,_,e,h.new_ n,i.new_ n⟩) (.eq (.nw (.tt (.tt .nil))))))))) ?_ ?_ ?_
 refine .L9 fs dn<| .M cM ?_
 refine .o1 (tkC rfl (noG rfl) rfl fun _ w hn k=>(by
  refine ⟨#[vv v Av cv Bv dv,iv y],_,args2 (k.eq1 0 39 rfl) (k.eq1 1 40 rfl),fun w=>by kernel_rfl,step_c v _ _ _ _ y _ (hmv.new_ (a8.transNew hn)) (hsv.new_ (a8.transNew hn)) hvv (by omega) (by omega),?_⟩
  rintro e w' ⟨bk,g8,g9,ha,rfl,hmo0,hmo1,hm⟩
  exact⟨_,rfl,hm,⟨bk,g8,g9,ha,rfl,hmo0,hmo1⟩⟩)) ?_
 refine .o1 (tk rfl rfl fun _ w hn k=>(by
  obtain⟨hc,hd,hf,fz,fA,dr,ds⟩:=k.G 2 41
  exact⟨_,v_move rfl fA,⟨hc,hd,hf,fz,rfl,dr,ds⟩⟩)) ?_
 refine .o1 (tk rfl rfl fun _ w hn k=>(by
  obtain⟨fB,fC,fD,fE,fF,dt,du⟩:=k.G 3 38
  exact⟨_,v_extract rfl fF rfl,⟨fB,fC,fD,fE,rfl,dt,du⟩⟩)) ?_
 refine .o3 ?_
 exact .Y<| .off<| .off .nil
 refine eg1 ?_
 exact eager_takeG rfl (noG rfl) fun _ w hn k=>(by
  obtain⟨hN,hO,hP,hQ,fG,hi,hj⟩:=k.G 3 38
  exact⟨_,fun w hS=>v_extract rfl fG rfl,rfl⟩)
 intro b3 hR _ ak ae
 obtain⟨ch,dw,dx⟩:=aft ae cf dp a8 ak
 have⟨fH,fI,fJ,fK⟩:=ae.f4 cM ft fu fv
 have⟨fL,fM⟩:=ae.f2 fw fy
 obtain⟨bA,aY,bB,aZ,bP,dy,dz⟩:=ae.G 4 42
 have bP:b3.eval (.tmp 42)=vv (stepV v y).1 bA aY bB aZ:=bP
 have cN:=ae.g 5 43
 obtain⟨bC,cO,a9,av⟩:=ae.G 6 12
 have⟨dA,dB,dC⟩:=nw3 ak cd ce cc
 have hne217:bU ≠ bC:=by have h1:=cd.lt; have h2:=a9; omega
 have hne218:bF ≠ bC:=by have h1:=ce.lt; have h2:=a9; omega
 have hne219:a5 ≠ bC:=by have h1:=cc.lt; have h2:=a9; omega
 have hl:=Nat.le_trans a8.size a9
 have⟨dD,dE,dF,dG⟩:=nw4 ak dj dk dl dm
 refine sS9 cO bP av fun cP ci aw bQ=>?_
 have dI:=dD.fr av aw
 have dJ:=dE.fr av aw
 have dK:=dF.fr av aw
 have dL:=dG.fr av aw
 have dM:=dy.fr av aw
 have dN:=dz.fr av aw
 have dO:=bQ hne217 dA
 have cj:=bQ hne218 dB
 have cl:=bQ hne219 dC
 have ba:=dx.tR aw
 refine sP cN ch dw fun fN cm dP aa fV=>?_
 have⟨fO,fP,fQ⟩:=aa.q3 fH fI fJ
 have⟨fR,fS,fT⟩:=aa.q3 fK fL fM
 have⟨hU,hV,fU⟩:=aa.q3 bP cN cO
 refine dq _ _ <| wk fun hW dQ=>?_
 refine wp_gS (fun W=>True) (fun W W' hn h=>trivial) trivial [true,true,true,true,true,true,true,false,false] [5] [(7,false),(8,true)] 71
  [ve (vv v Av cv Bv dv),ve (iv y),(TP (stepV v y).1 ((stepV v y).2)),(TP (stepV v y).1 ((stepV v y).2)),(fun (v_:Value) (W:World)=>∃ (aQ:Option Addr) (aR:Nat) (aS:Option Addr) (aT:Nat),v_=vv (stepV v y).1 aQ aR aS aT∧SRow W .u32 aQ ((stepV v y).1.mag) aR∧SRow W .u16 aS ((stepV v y).1.s) aT),ve (iv ((stepV v y).2)),IsNew cP 46 z7,vt,vt]
  [6] (newsCons (fun v w h=>IsNew.old h) newsNil) cm (.eq (.eq (.cons (fun _ _ _ n ⟨_,_,_,_,e,h,i⟩=>⟨_,_,_,_,e,h.new_ n,i.new_ n⟩) (.cons (fun _ _ _ n ⟨_,_,_,_,e,h,i⟩=>⟨_,_,_,_,e,h.new_ n,i.new_ n⟩) (.cons (fun _ _ _ n ⟨_,_,_,_,e,h,i⟩=>⟨_,_,_,_,e,h.new_ n,i.new_ n⟩) (.eq (.nw (.tt (.tt .nil))))))))) ?_ ?_ ?_
 refine .L8 fP dO<| .M fO ?_
 refine .o1 (tkC rfl (noG rfl) rfl fun _ w hn k=>(by
  refine ⟨#[vv v Av cv Bv dv,iv y],_,args2 (k.eq1 0 45 rfl) (k.eq1 1 46 rfl),fun w=>by kernel_rfl,qstep_c v _ _ _ _ y _ (hmv.new_ (ba.transNew hn)) (hsv.new_ (ba.transNew hn)) hvv (by omega) (by omega),?_⟩
  rintro e w' ⟨fW,fX,fY,fZ,rfl,hmo0,hmo1,hm⟩
  exact⟨_,rfl,hm,⟨fW,fX,fY,fZ,rfl,hmo0,hmo1⟩⟩)) ?_
 refine .o1 (tk rfl rfl fun _ w hn k=>(by
  obtain⟨f0,f1,aH,f2,f3,dR,dS⟩:=k.G 2 47
  exact⟨_,v_move rfl f3,⟨f0,f1,aH,f2,rfl,dR,dS⟩⟩)) ?_
 refine .o1 (tk rfl rfl fun _ w hn k=>(by
  obtain⟨f4,f5,f6,f7,f8,dT,dU⟩:=k.G 3 44
  exact⟨_,v_extract rfl f8 rfl,⟨f4,f5,f6,f7,rfl,dT,dU⟩⟩)) ?_
 refine .o3 ?_
 exact .Y<| .off<| .off .nil
 refine eg1 ?_
 exact eager_takeG rfl (noG rfl) fun _ w hn k=>(by
  obtain⟨hX,hY,hZ,h3,f9,ho,hr⟩:=k.G 3 44
  exact⟨_,fun w hS=>v_extract rfl f9 rfl,rfl⟩)
 intro b4 h4 _ af ag
 obtain⟨cn,dV,dW⟩:=aft ag cm dP ba af
 have⟨ga,gb,gc,gd⟩:=ag.f4 fQ fR fS fT
 have⟨gf,gg⟩:=ag.f2 fU fV
 obtain⟨bD,a1,bE,a3,bR,dX,dY⟩:=ag.G 4 48
 have bR:b4.eval (.tmp 48)=vv (stepV v y).1 bD a1 bE a3:=bR
 have cS:=ag.g 5 49
 obtain⟨bS,cT,bb,ai⟩:=ag.G 6 14
 have⟨dZ,d0,d1⟩:=nw3 af cj cl ci
 have hne285:bF ≠ bS:=by have h1:=cj.lt; have h2:=bb; omega
 have hne286:a5 ≠ bS:=by have h1:=cl.lt; have h2:=bb; omega
 have hne287:bC ≠ bS:=by have h1:=ci.lt; have h2:=bb; omega
 have hs:=Nat.le_trans ba.size bb
 have⟨d2,d3,d4,d5⟩:=nw4 af dI dJ dK dL
 have⟨d6,d7⟩:=nw2 af dM dN
 refine sS8 cT bR ai fun gh d8 aj bT=>?_
 have ea:=d2.fr ai aj
 have eb:=d3.fr ai aj
 have ec:=d4.fr ai aj
 have ed:=d5.fr ai aj
 have ee:=d6.fr ai aj
 have ef:=d7.fr ai aj
 have eg:=dX.fr ai aj
 have eh:=dY.fr ai aj
 have ei:=bT hne285 dZ
 have ej:=bT hne286 d0
 have ek:=bT hne287 d1
 have co:=dW.tR aj
 refine sP cS cn dV fun gi cp el ab gr=>?_
 have⟨gj,gk,gl⟩:=ab.q3 ga gb gc
 have⟨gn,go,gp⟩:=ab.q3 gd gf gg
 have⟨h6,h7,gq⟩:=ab.q3 bR cS cT
 refine dQ _ _ <| wk fun ia em=>?_
 refine wA tr22 [] 71 [vT,vT,ve (vv (unG o v).1 bV bj bk bl),ve (vv (unG o v).1 bu aU aH aV),vT,vT,vT,ve (iv ((unG o v).2)),ve (iv ((unG o v).2)),vT,vT,vT,ve (vv (stepV v y).1 bA aY bB aZ),ve (vv (stepV v y).1 bD a1 bE a3),vT,vT,vT,ve (iv ((stepV v y).2)),ve (iv ((stepV v y).2)),vT,vT,vT] cp ?_ ?_
 exact .o1 (ck rfl rfl rfl (fun _ w hn k=>⟨#[],rfl,fun _=>by kernel_rfl,first_c _ (HT.up (co.transNew hn))⟩) fun _=>rfl)<| .N 0<| .V (fun p k=>v_load rfl (k.fx 8 gj) (l_agg isAgg29 sizeOf29 (ei.new_ p) rfl))<| .V (fun p k=>v_load rfl (k.fx 10 gl) (l_agg isAgg46 sizeOf46 (ej.new_ p) rfl))<| .o1 (cg rfl rfl rfl (fun _ _ k=>k.eq1 1 51 rfl) rfl (fun _ w hn k=>⟨#[vv (unG o v).1 bV bj bk bl,vv (unG o v).1 bu aU aH aV],args2 (k.eq1 2 52 rfl) (k.eq1 3 53 rfl),fun _=>by kernel_rfl,is_c ((unG o v).1) _ _ _ _ ((unG o v).1) _ _ _ _ _ (ea.new_ hn) (eb.new_ hn) (ec.new_ hn) (ed.new_ hn)⟩) fun _=>congrArg Value.bool (sameV_self _))<| .T (fun k=>v_pickT rfl (k.eq1 1 51 rfl) (k.eq1 4 54 rfl))<| .N 5<| .gm (fun k=>k.eq1 6 56 rfl) (fun k=>k.fx 9 gk)<| .gm (fun k=>k.eq1 6 56 rfl) (fun k=>k.fx 11 gn)<| .V (fun p k=>v_bin rfl (k.eq1 7 57 rfl) (k.eq1 8 58 rfl) (fun _=>rfl) (n_eql_self _ _))<| .T (fun k=>v_pickT rfl (k.eq1 6 56 rfl) (k.eq1 9 59 rfl))<| .N 10<| .V (fun p k=>v_load rfl (k.fx 12 go) (l_agg isAgg29 sizeOf29 (ek.new_ p) rfl))<| .V (fun p k=>v_load rfl (k.fx 14 gq) (l_agg isAgg46 sizeOf46 (d8.new_ p) rfl))<| .o1 (cg rfl rfl rfl (fun _ _ k=>k.eq1 11 61 rfl) rfl (fun _ w hn k=>⟨#[vv (stepV v y).1 bA aY bB aZ,vv (stepV v y).1 bD a1 bE a3],args2 (k.eq1 12 62 rfl) (k.eq1 13 63 rfl),fun _=>by kernel_rfl,is_c ((stepV v y).1) _ _ _ _ ((stepV v y).1) _ _ _ _ _ (ee.new_ hn) (ef.new_ hn) (eg.new_ hn) (eh.new_ hn)⟩) fun _=>congrArg Value.bool (sameV_self _))<| .T (fun k=>v_pickT rfl (k.eq1 11 61 rfl) (k.eq1 14 64 rfl))<| .N 15<| .gm (fun k=>k.eq1 16 66 rfl) (fun k=>k.fx 13 gp)<| .gm (fun k=>k.eq1 16 66 rfl) (fun k=>k.fx 15 gr)<| .V (fun p k=>v_bin rfl (k.eq1 17 67 rfl) (k.eq1 18 68 rfl) (fun _=>rfl) (n_eql_self _ _))<| .T (fun k=>v_pickT rfl (k.eq1 16 66 rfl) (k.eq1 19 69 rfl))<| .B 20 .nil
 refine aftI cp el co fun ib ic ht en eo hu ep=>?_
 have gs:=ep.g 21 6
 refine em _ _<| wp_ret (ret_k en (v:=.bool true) (res_t rfl gs _) ?_)
 exact⟨rfl,eo⟩
 have er:ez.eval (.tmp 22)=.bool true:=eB.trans (congrArg Value.bool (by rw [bJ]; rfl))
 refine wt er<| wk fun id es=>?_
 refine wA tr2 [] 71 [vT,vT] bH ?_ ?_
 exact .o1 (ck rfl rfl rfl (fun _ w hn k=>⟨#[],rfl,fun _=>by kernel_rfl,first_c _ (HT.up (a4.transNew hn))⟩) fun _=>rfl)<| .B 0 .nil
 refine aftI bH cx a4 fun ie ig hv et eu hw ev=>?_
 have gt:=ev.g 1 6
 refine es _ _<| wp_ret (ret_k et (v:=.bool true) (res_t rfl gt _) ?_)
 exact⟨rfl,eu⟩
end Go.Proofs.YtjakfchffigkkaaGreatDoor
