import Derived.Test.YtjakfchffigkkaaGreatDoorOmb
namespace Go.Proofs.YtjakfchffigkkaaGreatDoor
open Go.RowKit
open Tryz
set_option linter.unusedSimpArgs false
set_option linter.unusedVariables false
set_option maxHeartbeats 16000000
set_option maxRecDepth 100000
theorem cstrict_c (v:Vl) (Av:Option Addr) (cv:Nat) (Bv:Option Addr) (dv:Nat) (u:Vl) (Au:Option Addr) (cu:Nat) (Bu:Option Addr) (du:Nat) (w:World) (hmv:SRow w .u32 Av v.mag cv) (hsv:SRow w .u16 Bv v.s dv) (hmu:SRow w .u32 Au u.mag cu) (hsu:SRow w .u16 Bu u.s du):Calls prog 28 #[vv v Av cv Bv dv,vv u Au cu Bu du] w (IsRet (.bool (strictV v u)) w):=by
 refine enter_abs func28 rfl fun a0 aA b6 hp=>?_
 have aA:a0.tmps.size=27:=aA
 have aG:New w w:=Upd.refl _ _
 have hp0:a0.eval (.tmp 0)=vv v Av cv Bv dv:=hp 0 _ rfl
 have hp1:a0.eval (.tmp 1)=vv u Au cu Bu du:=hp 1 _ rfl
 refine wk fun K1 b7=>?_
 refine wB tr3 [] [] 27 [IsNew w 29 (c7 v Av cv Bv dv),IsNew w 29 (c7 u Au cu Bu du),vF] [0,1] aA ?_ heN ?_
 exact .X hp0<| .X hp1<| .c .nil
 refine aftI aA b6 aG fun a2 w3 bo b8 ag cH aH=>?_
 obtain⟨q9,h8,bs,aI⟩:=aH.G 0 2
 obtain⟨aB,aJ,bt,aK⟩:=aH.G 1 3
 have hne16:=aH.ne 0 1 2 3 h8 aJ
 have cr:=Nat.le_trans aG.size bs
 have ct:=Nat.le_trans aG.size bt
 refine b7 _ _ <| wk fun cI bu=>?_
 refine wp_g0 [true,true,true,true,false,false] [(4,false),(5,false)] 27
  [ve (vv v Av cv Bv dv),
  (VP (cleanV v)),ve (vv u Au cu Bu du),
  (VP (cleanV u)),vt,vt] bo (.eq (.cons (fun _ _ _ n ⟨_,_,_,_,e,h,i⟩=>⟨_,_,_,_,e,h.new_ n,i.new_ n⟩) (.eq (.cons (fun _ _ _ n ⟨_,_,_,_,e,h,i⟩=>⟨_,_,_,_,e,h.new_ n,i.new_ n⟩) (.tt (.tt .nil)))))) ?_ ?_
 refine .L9 h8 aI ?_
 refine .o1 (tkC rfl (noG rfl) rfl fun _ w hn k=>(by
  refine ⟨#[vv v Av cv Bv dv],_,args1 (k.eq1 0 5 rfl),fun w=>by kernel_rfl,clean_c v _ _ _ _ _ (hmv.new_ (ag.transNew hn)) (hsv.new_ (ag.transNew hn)),?_⟩
  rintro e w' ⟨A1,c2,A3,c4,rfl,hmo0,hmo1,hm⟩
  exact⟨_,rfl,hm,⟨A1,c2,A3,c4,rfl,hmo0,hmo1⟩⟩)) ?_
 refine .L9 aJ aK ?_
 refine .o1 (tkC rfl (noG rfl) rfl fun _ w hn k=>(by
  refine ⟨#[vv u Au cu Bu du],_,args1 (k.eq1 2 7 rfl),fun w=>by kernel_rfl,clean_c u _ _ _ _ _ (hmu.new_ (ag.transNew hn)) (hsu.new_ (ag.transNew hn)),?_⟩
  rintro e w' ⟨A9,cd,ce,cf,rfl,hmo0,hmo1,hm⟩
  exact⟨_,rfl,hm,⟨A9,cd,ce,cf,rfl,hmo0,hmo1⟩⟩)) ?_
 exact .off<| .off .nil
 refine aftI bo b8 ag fun bp cJ aL bv bw aM ap=>?_
 have⟨aN,aO⟩:=ap.f2 h8 aJ
 obtain⟨au,ah,av,ai,aP,bx,bz⟩:=ap.G 1 6
 have aP:bp.eval (.tmp 6)=vv (cleanV v) au ah av ai:=aP
 obtain⟨aw,aj,ax,ak,aQ,bA,bB⟩:=ap.G 3 8
 have aQ:bp.eval (.tmp 8)=vv (cleanV u) aw aj ax ak:=aQ
 have⟨al,bC⟩:=nw2 aM aI aK
 refine sS9 aN aP al fun ch bE am bD=>?_
 have bG:=bx.fr al am
 have bH:=bz.fr al am
 have bI:=bA.fr al am
 have bJ:=bB.fr al am
 have an:=bD hne16.symm bC
 have bK:=bw.tR am
 refine sS9 aO aQ an fun ci aR ao bL=>?_
 have bN:=bG.fr an ao
 have bO:=bH.fr an ao
 have bP:=bI.fr an ao
 have bQ:=bJ.fr an ao
 have aS:=bL hne16 bE
 have bR:=bK.tR ao
 refine bu _ _ <| wk fun cM bS=>?_
 refine wb<| wk fun cN bT=>?_
 refine wA tr6 [] 27 [ve (pv q9),ve (iv ((cleanV v).k)),ve (pv aB),ve (iv ((cleanV u).k)),ve (.bool (!decide (((cleanV v).k)=((cleanV u).k)))),ve (.bool (!decide (((cleanV v).k)=((cleanV u).k))))] aL ?_ ?_
 exact .F aN<| .J 0 isAgg3 aS<| .F aO<| .J 2 isAgg3 aR<| .T (fun k=>v_bin rfl (k.eq1 1 11 rfl) (k.eq1 3 13 rfl) (fun _=>rfl) (r_neq rfl))<| .B 4 .nil
 refine aftI aL bv bR fun cO cP aq aT aU ae ay=>?_
 have⟨bq,cj⟩:=ay.f2 aN aO
 have br:=ay.g 5 9
 have⟨aV,bU,bV,bW⟩:=nw4 ae aS aR bN bO
 have⟨bX,bY⟩:=nw2 ae bP bQ
 refine bT _ _ ?_
 rcases bc ((!decide (((cleanV v).k)=((cleanV u).k)))) with ab|ab
 have bZ:=hB br ab
 have az:(decide (((cleanV v).k)=((cleanV u).k)))=false:=nF ab
 have cm:=oF az
 refine wt bZ<| wk fun cQ b0=>?_
 refine wA tr1 [] 27 [vF] aq ?_ ?_
 exact .c .nil
 refine aftI aq aT aU fun cR cS cw b1 a6 cx b2=>?_
 have b3:=b2.g 0 4
 refine b0 _ _ ?_
 refine wp_ret (ret_k b1 (v:=.bool false) (res_t rfl b3 _) ?_)
 refine ⟨?_,a6⟩
 show Ending.returned (.bool false)=Ending.returned (.bool (strictV v u))
 first|rfl|(simp only [strictV,ab,az,az,bsm] <;> rfl)|(exfalso; omega)
 have a7:=hB br ab
 have ad:(decide (((cleanV v).k)=((cleanV u).k)))=true:=nT ab
 have cl:=oT ad
 refine wf a7<| wk fun cy a8=>?_
 refine wA tr4 [] 27 [ve (pv q9),ve (iv ((cleanV v).k)),ve (.bool (decide (((cleanV v).k)=3))),ve (.bool (decide (((cleanV v).k)=3)))] aq ?_ ?_
 exact .F bq<| .J 0 isAgg3 aV<| .b 1 (r_eql rfl)<| .B 2 .nil
 refine aftI aq aT aU fun cz cA af aC aD ac ar=>?_
 have⟨aW,aX⟩:=ar.f2 bq cj
 have aY:=ar.g 3 15
 have⟨aE,aF,a9,ba⟩:=nw4 ac aV bU bV bW
 have⟨bb,bd⟩:=nw2 ac bX bY
 refine a8 _ _ ?_
 rcases bc (decide (((cleanV v).k)=3)) with aa|aa
 have aZ:=oT aa
 have be:=hB aY aa
 refine wt be<| wk fun cB bf=>?_
 refine wA tr6 [] 27 [ve (.pointer (some ⟨q9,1,none⟩)),ve (nv (Nm.mk ((cleanV v).nk) ((cleanV v).nn))),ve (.pointer (some ⟨aB,1,none⟩)),ve (nv (Nm.mk ((cleanV u).nk) ((cleanV u).nn))),ve (.bool (equalM (Nm.mk ((cleanV v).nk) ((cleanV v).nn)) (Nm.mk ((cleanV u).nk) ((cleanV u).nn)))),ve (.bool (equalM (Nm.mk ((cleanV v).nk) ((cleanV v).nn)) (Nm.mk ((cleanV u).nk) ((cleanV u).nn))))] af ?_ ?_
 exact .F aW<| .K2 0 aE<| .F aX<| .K2 2 aF<| .C2 1 3 (fun m=>equal_c (Nm.mk ((cleanV v).nk) ((cleanV v).nn)) (Nm.mk ((cleanV u).nk) ((cleanV u).nn)) _)<| .B 4 .nil
 refine aftI af aC aD fun cC cD cn bg bh co bi=>?_
 have b4:=bi.g 5 4
 refine bf _ _ ?_
 refine wp_ret (ret_k bg (v:=.bool (equalM (Nm.mk ((cleanV v).nk) ((cleanV v).nn)) (Nm.mk ((cleanV u).nk) ((cleanV u).nn)))) (res_t rfl b4 _) ?_)
 refine ⟨?_,bh⟩
 show Ending.returned (.bool (equalM (Nm.mk ((cleanV v).nk) ((cleanV v).nn)) (Nm.mk ((cleanV u).nk) ((cleanV u).nn))))=Ending.returned (.bool (strictV v u))
 first|rfl|(simp only [strictV,ab,ad,ad,aa,bsm] <;> rfl)|(exfalso; omega)
 have aZ:=oF aa
 have bj:=hB aY aa
 refine wf bj<| ws ?_
 refine bS _ _ ?_
 refine wk fun cE bk=>?_
 refine wA tr4 [] 27 [ve (vv (cleanV v) au ah av ai),ve (vv (cleanV u) aw aj ax ak),ve (.bool (sameV (cleanV v) (cleanV u))),ve (.bool (sameV (cleanV v) (cleanV u)))] af ?_ ?_
 exact .L9 aW aE<| .L9 aX aF<| .C2 0 1 (fun m=>vsame_c (cleanV v) _ _ _ _ (cleanV u) _ _ _ _ _ (a9.new_ m) (ba.new_ m) (bb.new_ m) (bd.new_ m))<| .B 2 .nil
 refine aftI af aC aD fun cF cG cp bl bm cq bn=>?_
 have b5:=bn.g 3 4
 refine bk _ _ ?_
 refine wp_ret (ret_k bl (v:=.bool (sameV (cleanV v) (cleanV u))) (res_t rfl b5 _) ?_)
 refine ⟨?_,bm⟩
 show Ending.returned (.bool (sameV (cleanV v) (cleanV u)))=Ending.returned (.bool (strictV v u))
 first|rfl|(simp only [strictV,ab,ad,ad,aa,bsm] <;> rfl)|(exfalso; omega)
theorem cbool_c (v:Vl) (Av:Option Addr) (cv:Nat) (Bv:Option Addr) (dv:Nat) (w:World) (hmv:SRow w .u32 Av v.mag cv) (hsv:SRow w .u16 Bv v.s dv):Calls prog 41 #[vv v Av cv Bv dv] w (IsRet (.bool (boolV v)) w):=by
 refine enter_abs func41 rfl fun a0 ay ci hp=>?_
 have ay:a0.tmps.size=41:=ay
 have bx:New w w:=Upd.refl _ _
 have hp0:a0.eval (.tmp 0)=vv v Av cv Bv dv:=hp 0 _ rfl
 refine wk fun K1 cj=>?_
 refine wB tr2 [] [] 41 [IsNew w 29 (c7 v Av cv Bv dv),vF] [0] ay ?_ heN ?_
 exact .X hp0<| .c .nil
 refine aftI ay ci bx fun a2 w3 bz cl an cX cm=>?_
 obtain⟨q9,h8,bG,aI⟩:=cm.G 0 1
 have cD:=Nat.le_trans bx.size bG
 refine cj _ _ <| wk fun cY bH=>?_
 refine wp_g0 [true,true,false] [(2,false)] 41
  [ve (vv v Av cv Bv dv),
  (VP (cleanV v)),vt] bz (.eq (.cons (fun _ _ _ n ⟨_,_,_,_,e,h,i⟩=>⟨_,_,_,_,e,h.new_ n,i.new_ n⟩) (.tt .nil))) ?_ ?_
 refine .L9 h8 aI ?_
 refine .o1 (tkC rfl (noG rfl) rfl fun _ w hn k=>(by
  refine ⟨#[vv v Av cv Bv dv],_,args1 (k.eq1 0 3 rfl),fun w=>by kernel_rfl,clean_c v _ _ _ _ _ (hmv.new_ (an.transNew hn)) (hsv.new_ (an.transNew hn)),?_⟩
  rintro e w' ⟨A1,c2,A3,c4,rfl,hmo0,hmo1,hm⟩
  exact⟨_,rfl,hm,⟨A1,c2,A3,c4,rfl,hmo0,hmo1⟩⟩)) ?_
 exact .off .nil
 refine aftI bz cl an fun cn cZ aJ bI bJ bK aK=>?_
 have aL:=aK.f1 h8
 obtain⟨az,ag,aA,ah,aM,bL,bM⟩:=aK.G 1 4
 have aM:cn.eval (.tmp 4)=vv (cleanV v) az ag aA ah:=aM
 have ao:=aI.new_ bK
 refine sS9 aL aM ao fun co aN ap cE=>?_
 have bO:=bL.fr ao ap
 have bP:=bM.fr ao ap
 have bQ:=bJ.tR ap
 refine bH _ _ <| wk fun c1 bR=>?_
 refine wk fun c3 bS=>?_
 refine wA tr2 [] 41 [ve (pv q9),ve (iv ((cleanV v).k))] aJ ?_ ?_
 exact .F aL<| .J 0 isAgg3 aN .nil
 refine aftI aJ bI bQ fun c5 c9 aO bT bU aq aP=>?_
 have cp:=aP.f1 aL
 have bA:=aP.g 1 6
 have⟨bV,bW,bX⟩:=nw3 aq aN bO bP
 refine bS _ _ ?_
 refine wb<| wk fun da bY=>?_
 refine wA tr2 [] 41 [ve (.bool (decide (((cleanV v).k)=2))),ve (.bool (decide (((cleanV v).k)=2)))] aO ?_ ?_
 exact .H bA (r_eql rfl)<| .B 0 .nil
 refine aftI aO bT bU fun db dc ai aQ aR ar au=>?_
 have⟨bB,bC⟩:=au.f2 cp bA
 have bD:=au.g 1 7
 have⟨aS,bZ,b0⟩:=nw3 ar bV bW bX
 refine bY _ _ ?_
 rcases bc (decide (((cleanV v).k)=2)) with ab|ab
 have a6:=oT ab
 have b1:=hB bD ab
 refine wt b1<| wk fun dd b2=>?_
 refine wA tr4 [] 41 [ve (.pointer (some ⟨q9,6,none⟩)),ve (iv ((cleanV v).ref)),ve (.bool (decide (((cleanV v).ref)=1))),ve (.bool (decide (((cleanV v).ref)=1)))] ai ?_ ?_
 exact .F bB<| .J 0 isAgg3 aS<| .b 1 (r_eql rfl)<| .B 2 .nil
 refine aftI ai aQ aR fun de df cF b3 b4 cG b5=>?_
 have cq:=b5.g 3 2
 refine b2 _ _ ?_
 refine wp_ret (ret_k b3 (v:=.bool (decide (((cleanV v).ref)=1))) (res_t rfl cq _) ?_)
 refine ⟨?_,b4⟩
 show Ending.returned (.bool (decide (((cleanV v).ref)=1)))=Ending.returned (.bool (boolV v))
 first|rfl|(simp only [boolV,ab,bsm] <;> rfl)|(exfalso; omega)
 have a6:=oF ab
 have b6:=hB bD ab
 refine wf b6<| wk fun dg b7=>?_
 refine wA tr2 [] 41 [ve (.bool (decide (((cleanV v).k)=3))),ve (.bool (decide (((cleanV v).k)=3)))] ai ?_ ?_
 exact .H bC (r_eql rfl)<| .B 0 .nil
 refine aftI ai aQ aR fun dh di aj aT aU av aw=>?_
 have⟨aV,bE⟩:=aw.f2 bB bC
 have bF:=aw.g 1 12
 have⟨ax,b8,b9⟩:=nw3 av aS bZ b0
 refine b7 _ _ ?_
 rcases bc (decide (((cleanV v).k)=3)) with ac|ac
 have a7:=oT ac
 have ca:=hB bF ac
 refine wt ca<| wk fun dj cb=>?_
 refine wA tr12 [] 41 [ve (.pointer (some ⟨q9,1,none⟩)),ve (.pointer (some ⟨q9,1,none⟩)),ve (iv ((cleanV v).nk)),ve (.bool (!decide (((cleanV v).nk)=2))),ve (.bool (!decide (((cleanV v).nk)=2))),ve (gq (!decide (((cleanV v).nk)=2)) (.pointer (some ⟨q9,1,none⟩))),ve (gq (!decide (((cleanV v).nk)=2)) (nv (Nm.mk ((cleanV v).nk) ((cleanV v).nn)))),ve (gq (!decide (((cleanV v).nk)=2)) (nv (Nm.mk 0 0))),ve (gq (!decide (((cleanV v).nk)=2)) (.bool (equalM (Nm.mk ((cleanV v).nk) ((cleanV v).nn)) (Nm.mk 0 0)))),ve (gq (!decide (((cleanV v).nk)=2)) (.bool (!(equalM (Nm.mk ((cleanV v).nk) ((cleanV v).nn)) (Nm.mk 0 0))))),ve (.bool ((!decide (((cleanV v).nk)=2)) && (!(equalM (Nm.mk ((cleanV v).nk) ((cleanV v).nn)) (Nm.mk 0 0))))),ve (.bool ((!decide (((cleanV v).nk)=2)) && (!(equalM (Nm.mk ((cleanV v).nk) ((cleanV v).nn)) (Nm.mk 0 0)))))] aj ?_ ?_
 exact .F aV<| .f (fun k=>k.eq1 0 14 rfl)<| .J 1 isAgg3 ax<| .b 2 (r_neq rfl)<| .N 3<| .Q (fun k=>g0 (k.eq1 4 18 rfl)) (fun hG p k=>v_field rfl (k.fx 1 aV) (fun w=>rfl))<| .Q (fun k=>g0 (k.eq1 4 18 rfl)) (fun hG p k=>v_load rfl (cT hG (k.eq1 5 19 rfl)) (l_part isAgg23 sizeOf23 (ax.new_ p) lb))<| .Q (fun k=>g0 (k.eq1 4 18 rfl)) (fun hG p k=>v_build (ps:=[]) rfl parts0 (by kernel_rfl))<| .o1 (scC (G:=(!decide (((cleanV v).nk)=2))) rfl rfl rfl (fun _ _ k=>g0 (k.eq1 4 18 rfl)) rfl (fun hG _ w hn k=>⟨#[nv (Nm.mk ((cleanV v).nk) ((cleanV v).nn)),nv (Nm.mk 0 0)],args2 (cT hG (k.eq1 6 20 rfl)) (cT hG (k.eq1 7 21 rfl)),fun _=>by kernel_rfl,equal_c (Nm.mk ((cleanV v).nk) ((cleanV v).nn)) (Nm.mk 0 0) _ ⟩))<| .Q (fun k=>g0 (k.eq1 4 18 rfl)) (fun hG p k=>v_not rfl (cT hG (k.eq1 8 22 rfl)))<| .O 4 9<| .B 10 .nil
 refine aftI aj aT aU fun dk dl cr a8 a9 ct ba=>?_
 have cc:=ba.g 11 2
 refine cb _ _ ?_
 refine wp_ret (ret_k a8 (v:=.bool ((!decide (((cleanV v).nk)=2)) && (!(equalM (Nm.mk ((cleanV v).nk) ((cleanV v).nn)) (Nm.mk 0 0))))) (res_t rfl cc _) ?_)
 refine ⟨?_,a9⟩
 show Ending.returned (.bool ((!decide (((cleanV v).nk)=2)) && (!(equalM (Nm.mk ((cleanV v).nk) ((cleanV v).nn)) (Nm.mk 0 0)))))=Ending.returned (.bool (boolV v))
 first|rfl|(simp only [boolV,ab,ac,bsm] <;> rfl)|(exfalso; omega)
 have a7:=oF ac
 have bb:=hB bF ac
 refine wf bb<| wk fun cH bd=>?_
 refine wA tr2 [] 41 [ve (.bool (decide (((cleanV v).k)=4))),ve (.bool (decide (((cleanV v).k)=4)))] aj ?_ ?_
 exact .H bE (r_eql rfl)<| .B 0 .nil
 refine aftI aj aT aU fun cI cJ ae aB aC ak al=>?_
 have⟨aW,cd⟩:=al.f2 aV bE
 have aX:=al.g 1 25
 have⟨aD,be,bf⟩:=nw3 ak ax b8 b9
 refine bd _ _ ?_
 rcases bc (decide (((cleanV v).k)=4)) with aa|aa
 have aY:=oT aa
 have bg:=hB aX aa
 refine wt bg<| wk fun cK bh=>?_
 refine wA tr6 [] 41 [ve (.pointer (some ⟨q9,3,none⟩)),ve (.pointer (some ⟨q9,4,none⟩)),ve (sv az ((cleanV v).mag) ag),ve (iv (((cleanV v).mag).length:Int)),ve (.bool (!decide ((((cleanV v).mag).length:Int)≤0))),ve (.bool (!decide ((((cleanV v).mag).length:Int)≤0)))] ae ?_ ?_
 exact .F aW<| .f (fun k=>k.eq1 0 27 rfl)<| .J 1 isAgg24 aD<| .T (fun k=>v_lenR rfl elW (k.eq1 2 29 rfl))<| .b 3 (r_gtrK rfl)<| .B 4 .nil
 refine aftI ae aB aC fun cL cM cu bi bj cw bk=>?_
 have ce:=bk.g 5 2
 refine bh _ _ ?_
 refine wp_ret (ret_k bi (v:=.bool (!decide ((((cleanV v).mag).length:Int)≤0))) (res_t rfl ce _) ?_)
 refine ⟨?_,bj⟩
 show Ending.returned (.bool (!decide ((((cleanV v).mag).length:Int)≤0)))=Ending.returned (.bool (boolV v))
 first|rfl|(simp only [boolV,ab,ac,aa,bsm] <;> rfl)|(exfalso; omega)
 have aY:=oF aa
 have bl:=hB aX aa
 refine wf bl<| wk fun cN bm=>?_
 refine wA tr2 [] 41 [ve (.bool (decide (((cleanV v).k)=5))),ve (.bool (decide (((cleanV v).k)=5)))] ae ?_ ?_
 exact .H cd (r_eql rfl)<| .B 0 .nil
 refine aftI ae aB aC fun cO cP af aE aF am aG=>?_
 have aZ:=aG.f1 aW
 have a1:=aG.g 1 32
 have⟨aH,cx,cy⟩:=nw3 am aD be bf
 refine bm _ _ ?_
 rcases bc (decide (((cleanV v).k)=5)) with ad|ad
 have a3:=oT ad
 have bn:=hB a1 ad
 refine wt bn<| wk fun cQ bo=>?_
 refine wA tr5 [] 41 [ve (.pointer (some ⟨q9,5,none⟩)),ve (sv aA ((cleanV v).s) ah),ve (iv (((cleanV v).s).length:Int)),ve (.bool (!decide ((((cleanV v).s).length:Int)≤0))),ve (.bool (!decide ((((cleanV v).s).length:Int)≤0)))] af ?_ ?_
 exact .F aZ<| .J 0 isAgg27 aH<| .T (fun k=>v_lenR rfl elU (k.eq1 1 35 rfl))<| .b 2 (r_gtrK rfl)<| .B 3 .nil
 refine aftI af aE aF fun cR cS cz bp bq cA br=>?_
 have cf:=br.g 4 2
 refine bo _ _ ?_
 refine wp_ret (ret_k bp (v:=.bool (!decide ((((cleanV v).s).length:Int)≤0))) (res_t rfl cf _) ?_)
 refine ⟨?_,bq⟩
 show Ending.returned (.bool (!decide ((((cleanV v).s).length:Int)≤0)))=Ending.returned (.bool (boolV v))
 first|rfl|(simp only [boolV,ab,ac,aa,ad,bsm] <;> rfl)|(exfalso; omega)
 have a3:=oF ad
 have bs:=hB a1 ad
 refine wf bs<| ws ?_
 refine bR _ _ ?_
 refine wk fun cU bt=>?_
 refine wA tr4 [] 41 [ve (pv q9),ve (iv ((cleanV v).k)),ve (.bool (decide (((cleanV v).k)=6))),ve (.bool (decide (((cleanV v).k)=6)))] af ?_ ?_
 exact .F aZ<| .J 0 isAgg3 aH<| .b 1 (r_eql rfl)<| .B 2 .nil
 refine aftI af aE aF fun cV cW cB bu bv cC bw=>?_
 have ch:=bw.g 3 2
 refine bt _ _ ?_
 refine wp_ret (ret_k bu (v:=.bool (decide (((cleanV v).k)=6))) (res_t rfl ch _) ?_)
 refine ⟨?_,bv⟩
 show Ending.returned (.bool (decide (((cleanV v).k)=6)))=Ending.returned (.bool (boolV v))
 first|rfl|(simp only [boolV,ab,ac,aa,ad,bsm] <;> rfl)|(exfalso; omega)
def cstr_c_P (Au:Option Addr) (u:List Nat) (cu:Nat) (w:World) (en:Ending) (w':World):Prop:=∃ (Ar0:Option Addr) (cr0:Nat) (Ar1:Option Addr) (cr1:Nat),en=.returned (vv (strV u) Ar0 cr0 Ar1 cr1)∧SRow w' .u32 Ar0 ((strV u).mag) cr0∧SRow w' .u16 Ar1 ((strV u).s) cr1∧New w w'
theorem cstr_c (Au:Option Addr) (u:List Nat) (cu:Nat) (w:World) (hru:SRow w .u16 Au u cu) (hs:u.length≤20000):Calls prog 16 #[sv Au u cu] w (cstr_c_P Au u cu w):=by
 refine enter_abs func16 rfl fun a0 af aJ hp=>?_
 have af:a0.tmps.size=10:=af
 have am:New w w:=Upd.refl _ _
 have hp0:a0.eval (.tmp 0)=sv Au u cu:=hp 0 _ rfl
 refine wk fun K1 aK=>?_
 refine wB tr1 [] [] 10 [IsNew w 29 z7] [0] af ?_ heN ?_
 exact .Y .nil
 refine aftI af aJ am fun a2 w3 an aL ae aX ao=>?_
 have h8:=ao.f1 hp0
 obtain⟨aM,h9,aw,ax⟩:=ao.G 0 2
 have aU:=Nat.le_trans am.size aw
 refine aK _ _ <| wk fun aY ay=>?_
 refine wp_g0 [true,true,true,true,true,true,true,false] [(7,false)] 10
  [ve (sv Au u cu),ve (sv Au u cu),ve (iv (u.length:Int)),ve (iv (min (u.length:Int) 4096)),
  (RP .u16 (u.take ((min (u.length:Int) 4096:Int).toNat))),
  (OP w3.heap.size 74 .u16 (u.take ((min (u.length:Int) 4096:Int).toNat))),(fun (v_:Value) (W:World)=>∃ (ab:Option Addr) (ac:Nat),v_=vv (Vl.mk 5 0 0 false [] (u.take ((min (u.length:Int) 4096:Int).toNat)) 0) none 0 ab ac∧SOwn W w3.heap.size 74 .u16 ab (u.take ((min (u.length:Int) 4096:Int).toNat)) ac),vt] an (.eq (.eq (.eq (.eq (.cons (fun _ _ _ n ⟨_,_,e,h⟩=>⟨_,_,e,h.new_ n⟩) (.cons (fun _ _ _ n ⟨_,_,e,h⟩=>⟨_,_,e,h.new_ n⟩) (.cons (fun _ _ _ n ⟨_,_,e,h⟩=>⟨_,_,e,h.new_ n⟩) (.tt .nil)))))))) ?_ ?_
 refine .M h8<| .M h8<| .T (fun k=>v_lenR rfl elU (k.eq1 1 4 rfl))<| .T (fun k=>v_min rfl (k.eq1 2 5 rfl) rfl) ?_
 refine .o1 (tk rfl rfl fun _ w hn k=>(by
  exact x_cutH (k:=.u16) rfl elU (k.eq1 0 3 rfl) (k.eq1 3 6 rfl) (hru.new_ (ae.transNew hn)) (by omega) fun A1 c2 hmr=>⟨A1,c2,rfl,hmr⟩)) ?_
 refine .o1 (tkC rfl (noG rfl) rfl fun _ w hn k=>(by
  obtain⟨A5,c6,e7,aP⟩:=k.G 4 7
  refine ⟨#[sv A5 (u.take ((min (u.length:Int) 4096:Int).toNat)) c6],_,args1 e7,fun w=>by kernel_rfl,clone16_c _ (u.take ((min (u.length:Int) 4096:Int).toNat)) _ _ aP (by first|omega|(simp only [List.length_nil,List.length_take,List.length_drop]; omega)|(simp only [List.length_cons,List.length_nil]; omega)),?_⟩
  rintro e w' ⟨A9,aQ,rfl,hmo0,hm⟩
  exact⟨_,rfl,hm,⟨A9,aQ,rfl,(hmo0.more hn.size)⟩⟩)) ?_
 refine .o1 (tk rfl rfl fun _ w hn k=>(by
  obtain⟨ap,aq,aR,az⟩:=k.G 5 8
  exact⟨_,v_build (ps:=[(0,iv 5),(3,sv ap (u.take ((min (u.length:Int) 4096:Int).toNat)) aq)]) rfl (parts2 rfl aR) (by kernel_rfl),⟨ap,aq,rfl,az⟩⟩)) ?_
 exact .off .nil
 refine aftI an aL ae fun aS aZ aV aA aB aC ag=>?_
 have ar:=ag.f1 h9
 obtain⟨ad,aa,ah,aD⟩:=ag.G 6 9
 have ah:aS.eval (.tmp 9)=vv (Vl.mk 5 0 0 false [] (u.take ((min (u.length:Int) 4096:Int).toNat)) 0) none 0 ad aa:=ah
 have ai:=ax.new_ aC
 have aE:=aD.more ae.size
 refine sS9 ar ah ai fun aT aF aj aW=>?_
 have aH:=aE.far ai aj (by decide)
 have aI:=aB.tR aj
 refine ay _ _ ?_
 refine wp_ret (ret_k aA (v:=vv (Vl.mk 5 0 0 false [] (u.take ((min (u.length:Int) 4096:Int).toNat)) 0) none 0 ad aa) (res_c rfl ar (l_agg isAgg29 sizeOf29 aF rfl)) ?_)
 have au:(strV u).mag=[]:=by first|rfl|(simp only [strV,tk_min,bsm] <;> rfl)|(exfalso; omega)
 have av:(strV u).s=(u.take ((min (u.length:Int) 4096:Int).toNat)):=by first|rfl|(simp only [strV,tk_min,bsm] <;> rfl)|(exfalso; omega)
 exact⟨none,0,ad,aa,(by show Ending.returned (vv (Vl.mk 5 0 0 false [] (u.take ((min (u.length:Int) 4096:Int).toNat)) 0) none 0 ad aa)=Ending.returned (vv (strV u) none 0 ad aa); (first|rfl|(simp only [strV,au,av,tk_min,bsm] <;> rfl)|(exfalso; omega))),(by rw [au]; exact (SRow.nil _ _)),(by rw [av]; exact aH.row),aI⟩
theorem cloose_c (v:Vl) (Av:Option Addr) (cv:Nat) (Bv:Option Addr) (dv:Nat) (u:Vl) (Au:Option Addr) (cu:Nat) (Bu:Option Addr) (du:Nat) (w:World) (hmv:SRow w .u32 Av v.mag cv) (hsv:SRow w .u16 Bv v.s dv) (hmu:SRow w .u32 Au u.mag cu) (hsu:SRow w .u16 Bu u.s du) (hvv:VOk v) (hvu:VOk u):Calls prog 40 #[vv v Av cv Bv dv,vv u Au cu Bu du] w (IsRet (.tuple #[.bool ((looseV v u).1),iv ((looseV v u).2)]) w):=by
 refine enter_abs func40 rfl fun a0 cE it hp=>?_
 have cE:a0.tmps.size=91:=cE
 have dE:New w w:=Upd.refl _ _
 have hp0:a0.eval (.tmp 0)=vv v Av cv Bv dv:=hp 0 _ rfl
 have hp1:a0.eval (.tmp 1)=vv u Au cu Bu du:=hp 1 _ rfl
 have hlv1:=hvv.clean.mlen
 have hlu1:=hvu.clean.mlen
 have hlv2:=hvv.clean.counted.mlen
 have hlu2:=hvu.clean.counted.mlen
 have kR:=hvv.clean.counted.nlo
 have kS:=hvv.clean.counted.nhi
 have kT:=hvu.clean.counted.nlo
 have kU:=hvu.clean.counted.nhi
 refine wk fun K1 iu=>?_
 refine wB tr4 [] [] 91 [IsNew w 29 (c7 v Av cv Bv dv),IsNew w 29 (c7 u Au cu Bu du),vF,ve (iv 0)] [0,1] cE ?_ heN ?_
 exact .X hp0<| .X hp1<| .c<| .c .nil
 refine aftI cE it dE fun a2 w3 gZ iw bq kV dF=>?_
 obtain⟨q9,h8,g3,dG⟩:=dF.G 0 2
 obtain⟨aJ,dH,g4,dI⟩:=dF.G 1 3
 have hne16:=dF.ne 0 1 2 3 h8 dH
 have jD:=Nat.le_trans dE.size g3
 have jE:=Nat.le_trans dE.size g4
 refine iu _ _ <| wk fun kW g5=>?_
 refine wp_g0 [true,true,true,true,false,false] [(4,false),(5,false)] 91
  [ve (vv v Av cv Bv dv),
  (VP (cleanV v)),ve (vv u Au cu Bu du),
  (VP (cleanV u)),vt,vt] gZ (.eq (.cons (fun _ _ _ n ⟨_,_,_,_,e,h,i⟩=>⟨_,_,_,_,e,h.new_ n,i.new_ n⟩) (.eq (.cons (fun _ _ _ n ⟨_,_,_,_,e,h,i⟩=>⟨_,_,_,_,e,h.new_ n,i.new_ n⟩) (.tt (.tt .nil)))))) ?_ ?_
 refine .L9 h8 dG ?_
 refine .o1 (tkC rfl (noG rfl) rfl fun _ w hn k=>(by
  refine ⟨#[vv v Av cv Bv dv],_,args1 (k.eq1 0 8 rfl),fun w=>by kernel_rfl,clean_c v _ _ _ _ _ (hmv.new_ (bq.transNew hn)) (hsv.new_ (bq.transNew hn)),?_⟩
  rintro e w' ⟨A1,c2,A3,c4,rfl,hmo0,hmo1,hm⟩
  exact⟨_,rfl,hm,⟨A1,c2,A3,c4,rfl,hmo0,hmo1⟩⟩)) ?_
 refine .L9 dH dI ?_
 refine .o1 (tkC rfl (noG rfl) rfl fun _ w hn k=>(by
  refine ⟨#[vv u Au cu Bu du],_,args1 (k.eq1 2 10 rfl),fun w=>by kernel_rfl,clean_c u _ _ _ _ _ (hmu.new_ (bq.transNew hn)) (hsu.new_ (bq.transNew hn)),?_⟩
  rintro e w' ⟨A9,iB,iC,iD,rfl,hmo0,hmo1,hm⟩
  exact⟨_,rfl,hm,⟨A9,iB,iC,iD,rfl,hmo0,hmo1⟩⟩)) ?_
 exact .off<| .off .nil
 refine aftI gZ iw bq fun g1 kX dJ g6 g7 dK bv=>?_
 have⟨dL,dM⟩:=bv.f2 h8 dH
 obtain⟨aQ,aF,aM,aG,dN,g8,g9⟩:=bv.G 1 9
 have dN:g1.eval (.tmp 9)=vv (cleanV v) aQ aF aM aG:=dN
 obtain⟨aN,aH,aR,aI,dO,ha,hc⟩:=bv.G 3 11
 have dO:g1.eval (.tmp 11)=vv (cleanV u) aN aH aR aI:=dO
 have⟨br,hd⟩:=nw2 dK dG dI
 refine sS9 dL dN br fun iE hh bs hf=>?_
 have hj:=g8.fr br bs
 have hl:=g9.fr br bs
 have ho:=ha.fr br bs
 have hr:=hc.fr br bs
 have bt:=hf hne16.symm hd
 have hs:=g7.tR bs
 refine sS9 dM dO bt fun iF dP bu ht=>?_
 have hv:=hj.fr bt bu
 have hw:=hl.fr bt bu
 have hx:=ho.fr bt bu
 have hy:=hr.fr bt bu
 have dQ:=ht hne16 hh
 have hz:=hs.tR bu
 refine g5 _ _ <| wk fun k0 hA=>?_
 refine wb<| wk fun k1 hC=>?_
 refine wA tr6 [] 91 [ve (pv q9),ve (iv ((cleanV v).k)),ve (pv aJ),ve (iv ((cleanV u).k)),ve (.bool (decide (((cleanV v).k)=((cleanV u).k)))),ve (.bool (decide (((cleanV v).k)=((cleanV u).k))))] dJ ?_ ?_
 exact .F dL<| .J 0 isAgg3 dQ<| .F dM<| .J 2 isAgg3 dP<| .T (fun k=>v_bin rfl (k.eq1 1 14 rfl) (k.eq1 3 16 rfl) (fun _=>rfl) (r_eql rfl))<| .B 4 .nil
 refine aftI dJ g6 hz fun k2 k3 bw dR dS a8 cc=>?_
 have⟨dT,dU⟩:=cc.f2 dL dM
 have g2:=cc.g 5 12
 have⟨cd,ce,cf,ch⟩:=nw4 a8 dQ dP hv hw
 have⟨ci,cj⟩:=nw2 a8 hx hy
 refine hC _ _ ?_
 rcases bc (decide (((cleanV v).k)=((cleanV u).k))) with an|an
 have ew:=oT an
 have hD:=hB g2 an
 refine wt hD<| wk fun k4 hE=>?_
 refine wA tr5 [] 91 [ve (vv (cleanV v) aQ aF aM aG),ve (vv (cleanV u) aN aH aR aI),ve (.bool (strictV (cleanV v) (cleanV u))),ve (.bool (strictV (cleanV v) (cleanV u))),ve (iv 0)] bw ?_ ?_
 exact .L9 dT cd<| .L9 dU ce<| .C2 0 1 (fun p=>cstrict_c (cleanV v) _ _ _ _ (cleanV u) _ _ _ _ _ (cf.new_ p) (ch.new_ p) (ci.new_ p) (cj.new_ p))<| .B 2<| .c .nil
 refine aftI bw dR dS fun k5 k6 jF hF ex jG dV=>?_
 have iG:=dV.g 3 4
 have hH:=dV.g 4 5
 refine hE _ _ ?_
 refine wp_ret (ret_k hF (v:=.tuple #[.bool (strictV (cleanV v) (cleanV u)),iv 0]) (res_tt rfl iG hH _) ?_)
 refine ⟨?_,ex⟩
 show Ending.returned (.tuple #[.bool (strictV (cleanV v) (cleanV u)),iv 0])=Ending.returned (.tuple #[.bool ((looseV v u).1),iv ((looseV v u).2)])
 first|rfl|(simp only [looseV,loose1,loose2,loose3,noneV,an,bsm] <;> rfl)|(exfalso; omega)
 have ew:=oF an
 have ey:=hB g2 an
 refine wf ey<| wk fun jH ez=>?_
 refine wA tr7 [] 91 [ve (vv (cleanV v) aQ aF aM aG),ve (.bool (decide ((cleanV v).k=0) || decide ((cleanV v).k=1))),ve (.bool (decide ((cleanV v).k=0) || decide ((cleanV v).k=1))),ve (gq (!(decide ((cleanV v).k=0) || decide ((cleanV v).k=1))) (vv (cleanV u) aN aH aR aI)),ve (gq (!(decide ((cleanV v).k=0) || decide ((cleanV v).k=1))) (.bool (decide ((cleanV u).k=0) || decide ((cleanV u).k=1)))),ve (.bool ((decide ((cleanV v).k=0) || decide ((cleanV v).k=1)) || (decide ((cleanV u).k=0) || decide ((cleanV u).k=1)))),ve (.bool ((decide ((cleanV v).k=0) || decide ((cleanV v).k=1)) || (decide ((cleanV u).k=0) || decide ((cleanV u).k=1))))] bw ?_ ?_
 exact .L9 dT cd<| .C 0 (fun p=>none_c (cleanV v) _ _ _ _ _ (cf.new_ p) (ch.new_ p))<| .N 1<| .Q (fun k=>g0' (k.eq1 2 24 rfl)) (fun hG p k=>v_load rfl (k.fx 3 dU) (l_agg isAgg29 sizeOf29 (ce.new_ p) rfl))<| .o1 (scC (G:=(!(decide ((cleanV v).k=0) || decide ((cleanV v).k=1)))) rfl rfl rfl (fun _ _ k=>g0' (k.eq1 2 24 rfl)) rfl (fun hG _ w hn k=>⟨#[vv (cleanV u) aN aH aR aI],args1 (cT hG (k.eq1 3 25 rfl)),fun _=>by kernel_rfl,none_c (cleanV u) _ _ _ _ _ (ci.new_ hn) (cj.new_ hn)⟩))<| .W 2 4<| .B 5 .nil
 refine aftI bw dR dS fun jI jJ a9 cF cG aS bx=>?_
 have⟨cl,cm⟩:=bx.f2 dT dU
 have dW:=bx.g 6 21
 have⟨bz,bA,bB,bC⟩:=nw4 aS cd ce cf ch
 have⟨bD,bE⟩:=nw2 aS ci cj
 refine ez _ _ ?_
 rcases bc (((decide ((cleanV v).k=0) || decide ((cleanV v).k=1)) || (decide ((cleanV u).k=0) || decide ((cleanV u).k=1)))) with ag|ag
 have eA:=hB dW ag
 refine wt eA<| wk fun jK eB=>?_
 refine wA tr8 [] 91 [ve (vv (cleanV v) aQ aF aM aG),ve (.bool (decide ((cleanV v).k=0) || decide ((cleanV v).k=1))),ve (.bool (decide ((cleanV v).k=0) || decide ((cleanV v).k=1))),ve (gq (decide ((cleanV v).k=0) || decide ((cleanV v).k=1)) (vv (cleanV u) aN aH aR aI)),ve (gq (decide ((cleanV v).k=0) || decide ((cleanV v).k=1)) (.bool (decide ((cleanV u).k=0) || decide ((cleanV u).k=1)))),ve (.bool ((decide ((cleanV v).k=0) || decide ((cleanV v).k=1)) && (decide ((cleanV u).k=0) || decide ((cleanV u).k=1)))),ve (.bool ((decide ((cleanV v).k=0) || decide ((cleanV v).k=1)) && (decide ((cleanV u).k=0) || decide ((cleanV u).k=1)))),ve (iv 0)] a9 ?_ ?_
 exact .L9 cl bz<| .C 0 (fun p=>none_c (cleanV v) _ _ _ _ _ (bB.new_ p) (bC.new_ p))<| .N 1<| .Q (fun k=>g0 (k.eq1 2 30 rfl)) (fun hG p k=>v_load rfl (k.fx 3 cm) (l_agg isAgg29 sizeOf29 (bA.new_ p) rfl))<| .o1 (scC (G:=(decide ((cleanV v).k=0) || decide ((cleanV v).k=1))) rfl rfl rfl (fun _ _ k=>g0 (k.eq1 2 30 rfl)) rfl (fun hG _ w hn k=>⟨#[vv (cleanV u) aN aH aR aI],args1 (cT hG (k.eq1 3 31 rfl)),fun _=>by kernel_rfl,none_c (cleanV u) _ _ _ _ _ (bD.new_ hn) (bE.new_ hn)⟩))<| .O 2 4<| .B 5<| .c .nil
 refine aftI a9 cF cG fun jL jM jb eC eD jc cH=>?_
 have hI:=cH.g 6 4
 have hJ:=cH.g 7 5
 refine eB _ _ ?_
 refine wp_ret (ret_k eC (v:=.tuple #[.bool ((decide ((cleanV v).k=0) || decide ((cleanV v).k=1)) && (decide ((cleanV u).k=0) || decide ((cleanV u).k=1))),iv 0]) (res_tt rfl hI hJ _) ?_)
 refine ⟨?_,eD⟩
 show Ending.returned (.tuple #[.bool ((decide ((cleanV v).k=0) || decide ((cleanV v).k=1)) && (decide ((cleanV u).k=0) || decide ((cleanV u).k=1))),iv 0])=Ending.returned (.tuple #[.bool ((looseV v u).1),iv ((looseV v u).2)])
 first|rfl|(simp only [looseV,loose1,loose2,loose3,noneV,an,ag,bsm] <;> rfl)|(exfalso; omega)
 have eE:=hB dW ag
 have aa:(decide ((cleanV v).k=0) || decide ((cleanV v).k=1))=false:=ol ag
 have ac:(decide ((cleanV v).k=0))=false:=ol aa
 have iH:=oF ac
 have ad:(decide ((cleanV v).k=1))=false:=or_ aa
 have iI:=oF ad
 have ab:(decide ((cleanV u).k=0) || decide ((cleanV u).k=1))=false:=or_ ag
 have ae:(decide ((cleanV u).k=0))=false:=ol ab
 have iJ:=oF ae
 have af:(decide ((cleanV u).k=1))=false:=or_ ab
 have iK:=oF af
 refine wf eE<| ws ?_
 refine hA _ _ ?_
 refine wk fun jN eF=>?_
 refine wp_g0 [true,true,true,true,false,false] [(4,false),(5,false)] 91
  [ve (vv (cleanV v) aQ aF aM aG),
  (VP (countedV (cleanV v))),ve (vv (cleanV u) aN aH aR aI),
  (VP (countedV (cleanV u))),vt,vt] a9 (.eq (.cons (fun _ _ _ n ⟨_,_,_,_,e,h,i⟩=>⟨_,_,_,_,e,h.new_ n,i.new_ n⟩) (.eq (.cons (fun _ _ _ n ⟨_,_,_,_,e,h,i⟩=>⟨_,_,_,_,e,h.new_ n,i.new_ n⟩) (.tt (.tt .nil)))))) ?_ ?_
 refine .L9 cl bz ?_
 refine .o1 (tkC rfl (noG rfl) rfl fun _ w hn k=>(by
  refine ⟨#[vv (cleanV v) aQ aF aM aG],_,args1 (k.eq1 0 34 rfl),fun w=>by kernel_rfl,counted_c (cleanV v) _ _ _ _ _ (bB.new_ hn) (bC.new_ hn),?_⟩
  rintro e w' ⟨iS,iT,aM,iU,rfl,hmo0,hmo1,hm⟩
  exact⟨_,rfl,hm,⟨iS,iT,aM,iU,rfl,hmo0,hmo1⟩⟩)) ?_
 refine .L9 cm bA ?_
 refine .o1 (tkC rfl (noG rfl) rfl fun _ w hn k=>(by
  refine ⟨#[vv (cleanV u) aN aH aR aI],_,args1 (k.eq1 2 36 rfl),fun w=>by kernel_rfl,counted_c (cleanV u) _ _ _ _ _ (bD.new_ hn) (bE.new_ hn),?_⟩
  rintro e w' ⟨iV,iW,iX,iY,rfl,hmo0,hmo1,hm⟩
  exact⟨_,rfl,hm,⟨iV,iW,iX,iY,rfl,hmo0,hmo1⟩⟩)) ?_
 exact .off<| .off .nil
 refine aftI a9 cF cG fun dX jO cI eG eH aT ba=>?_
 have⟨cn,co⟩:=ba.f2 cl cm
 obtain⟨ao,ah,aq,ak,cp,eI,eJ⟩:=ba.G 1 35
 have cp:dX.eval (.tmp 35)=vv (countedV (cleanV v)) ao ah aq ak:=cp
 obtain⟨ap,ai,au,am,cq,eK,eL⟩:=ba.G 3 37
 have cq:dX.eval (.tmp 37)=vv (countedV (cleanV u)) ap ai au am:=cq
 have⟨av,eM,eN,eO⟩:=nw4 aT bz bA bB bC
 have⟨eP,eQ⟩:=nw2 aT bD bE
 refine sS9 cn cp av fun hK eS aw eR=>?_
 have eU:=eN.fr av aw
 have eV:=eO.fr av aw
 have eW:=eP.fr av aw
 have eX:=eQ.fr av aw
 have eY:=eI.fr av aw
 have eZ:=eJ.fr av aw
 have e0:=eK.fr av aw
 have e1:=eL.fr av aw
 have ax:=eR hne16.symm eM
 have e2:=eH.tR aw
 refine sS9 co cq ax fun hL cJ ay e3=>?_
 have jd:=eU.fr ax ay
 have je:=eV.fr ax ay
 have jf:=eW.fr ax ay
 have jg:=eX.fr ax ay
 have e5:=eY.fr ax ay
 have e6:=eZ.fr ax ay
 have e7:=e0.fr ax ay
 have e8:=e1.fr ax ay
 have cK:=e3 hne16 eS
 have e9:=e2.tR ay
 refine eF _ _ <| wk fun jR cL=>?_
 refine wk fun jS fa=>?_
 refine wA tr5 [] 91 [ve (pv q9),ve (iv ((countedV (cleanV v)).k)),ve (pv aJ),ve (iv ((countedV (cleanV u)).k)),ve (.bool (!decide (((countedV (cleanV v)).k)≤((countedV (cleanV u)).k))))] cI ?_ ?_
 exact .F cn<| .J 0 isAgg3 cK<| .F co<| .J 2 isAgg3 cJ<| .T (fun k=>v_bin rfl (k.eq1 1 39 rfl) (k.eq1 3 41 rfl) (fun _=>rfl) (r_gtrK rfl)) .nil
 refine aftI cI eG e9 fun jT jU bb cM cN aU bF=>?_
 have⟨bG,bH⟩:=bF.f2 cn co
 have d2:=bF.g 4 42
 have⟨bd,be,cO,cP⟩:=nw4 aU cK cJ e5 e6
 have⟨cQ,cR⟩:=nw2 aU e7 e8
 refine fa _ _ ?_
 rcases bc ((!decide (((countedV (cleanV v)).k)≤((countedV (cleanV u)).k)))) with aj|aj
 have fb:=hB d2 aj
 have az:(decide (((countedV (cleanV v)).k)≤((countedV (cleanV u)).k)))=false:=nF aj
 have iZ:=oF az
 refine wt fb<| wp_g0 [true,true,false,false] [(2,false),(3,false)] 91
  [ve (vv (countedV (cleanV u)) ap ai au am),ve (vv (countedV (cleanV v)) ao ah aq ak),vt,vt] bb (.eq (.eq (.tt (.tt .nil)))) ?_ ?_
 exact .L9 bH be<| .L9 bG bd<| .off<| .off .nil
 refine aftI bb cM cN fun jV jW cS fc fd aV bf=>?_
 have⟨cr,ct⟩:=bf.f2 bG bH
 have hM:=bf.g 0 43
 have hN:=bf.g 1 44
 have⟨a4,fe,ff,fg⟩:=nw4 aV bd be cO cP
 have⟨fh,fi⟩:=nw2 aV cQ cR
 refine sS9 cr hM a4 fun hO fk a5 fj=>?_
 have fm:=ff.fr a4 a5
 have fn:=fg.fr a4 a5
 have fo:=fh.fr a4 a5
 have fp:=fi.fr a4 a5
 have a6:=fj hne16.symm fe
 have fq:=fd.tR a5
 refine sS9 ct hN a6 fun hP cU a7 fs=>?_
 have fu:=fm.fr a6 a7
 have fv:=fn.fr a6 a7
 have fw:=fo.fr a6 a7
 have fy:=fp.fr a6 a7
 have cV:=fs hne16 fk
 have fz:=fq.tR a7
 refine cL _ _ <| wk fun jZ fA=>?_
 refine wb<| wk fun j0 fB=>?_
 refine wA tr6 [] 91 [ve (pv q9),ve (iv ((countedV (cleanV u)).k)),ve (pv aJ),ve (iv ((countedV (cleanV v)).k)),ve (.bool (decide (((countedV (cleanV u)).k)=((countedV (cleanV v)).k)))),ve (.bool (decide (((countedV (cleanV u)).k)=((countedV (cleanV v)).k))))] cS ?_ ?_
 exact .F cr<| .J 0 isAgg3 cV<| .F ct<| .J 2 isAgg3 cU<| .T (fun k=>v_bin rfl (k.eq1 1 47 rfl) (k.eq1 3 49 rfl) (fun _=>rfl) (r_eql rfl))<| .B 4 .nil
 refine aftI cS fc fz fun j1 j2 bg cW cX aW bI=>?_
 have⟨cw,cx⟩:=bI.f2 cr ct
 have d7:=bI.g 5 45
 have⟨bJ,bK,cY,cZ⟩:=nw4 aW cV cU fu fv
 have⟨c0,c1⟩:=nw2 aW fw fy
 refine fB _ _ ?_
 rcases bc (decide (((countedV (cleanV u)).k)=((countedV (cleanV v)).k))) with aA|aA
 have d8:=oT aA
 have fC:=hB d7 aA
 refine wt fC<| wk fun j3 fD=>?_
 refine wA tr5 [] 91 [ve (vv (countedV (cleanV u)) ap ai au am),ve (vv (countedV (cleanV v)) ao ah aq ak),ve (.bool (strictV (countedV (cleanV u)) (countedV (cleanV v)))),ve (.bool (strictV (countedV (cleanV u)) (countedV (cleanV v)))),ve (iv 0)] bg ?_ ?_
 exact .L9 cw bJ<| .L9 cx bK<| .C2 0 1 (fun p=>cstrict_c (countedV (cleanV u)) _ _ _ _ (countedV (cleanV v)) _ _ _ _ _ (c0.new_ p) (c1.new_ p) (cY.new_ p) (cZ.new_ p))<| .B 2<| .c .nil
 refine aftI bg cW cX fun j4 j5 jh fE fF ji c3=>?_
 have hQ:=c3.g 3 4
 have hR:=c3.g 4 5
 refine fD _ _ ?_
 refine wp_ret (ret_k fE (v:=.tuple #[.bool (strictV (countedV (cleanV u)) (countedV (cleanV v))),iv 0]) (res_tt rfl hQ hR _) ?_)
 refine ⟨?_,fF⟩
 show Ending.returned (.tuple #[.bool (strictV (countedV (cleanV u)) (countedV (cleanV v))),iv 0])=Ending.returned (.tuple #[.bool ((looseV v u).1),iv ((looseV v u).2)])
 first|rfl|(simp only [looseV,loose1,loose2,loose3,noneV,an,ag,aa,aa,ac,ac,ad,ad,ab,ab,ae,ae,af,af,aj,az,az,aA,bsm] <;> rfl)|(exfalso; omega)
 have d8:=oF aA
 have fG:=hB d7 aA
 refine wf fG<| wk fun j6 fH=>?_
 refine wA tr9 [] 91 [ve (pv q9),ve (iv ((countedV (cleanV u)).k)),ve (.bool (decide (((countedV (cleanV u)).k)=3))),ve (.bool (decide (((countedV (cleanV u)).k)=3))),ve (gq (decide (((countedV (cleanV u)).k)=3)) (pv aJ)),ve (gq (decide (((countedV (cleanV u)).k)=3)) (iv ((countedV (cleanV v)).k))),ve (gq (decide (((countedV (cleanV u)).k)=3)) (.bool (decide (((countedV (cleanV v)).k)=4)))),ve (.bool ((decide (((countedV (cleanV u)).k)=3)) && (decide (((countedV (cleanV v)).k)=4)))),ve (.bool ((decide (((countedV (cleanV u)).k)=3)) && (decide (((countedV (cleanV v)).k)=4))))] bg ?_ ?_
 exact .F cw<| .J 0 isAgg3 bJ<| .b 1 (r_eql rfl)<| .N 2<| .Q (fun k=>g0 (k.eq1 3 58 rfl)) (fun hG p k=>v_field rfl (k.fx 3 cx) (fun w=>rfl))<| .Q (fun k=>g0 (k.eq1 3 58 rfl)) (fun hG p k=>v_load rfl (cT hG (k.eq1 4 59 rfl)) (l_one isAgg3 ((bK.new_ p).cell 0)))<| .Q (fun k=>g0 (k.eq1 3 58 rfl)) (fun hG p k=>v_bin rfl (cT hG (k.eq1 5 60 rfl)) rfl (fun _=>rfl) (r_eql rfl))<| .O 3 6<| .B 7 .nil
 refine aftI bg cW cX fun j7 j8 bh c5 c9 aX bL=>?_
 have⟨cy,cz⟩:=bL.f2 cw cx
 have d9:=bL.g 8 54
 have⟨bM,bN,da,fI⟩:=nw4 aX bJ bK cY cZ
 have⟨fJ,fK⟩:=nw2 aX c0 c1
 refine fH _ _ ?_
 rcases bc (((decide (((countedV (cleanV u)).k)=3)) && (decide (((countedV (cleanV v)).k)=4)))) with aB|aB
 have fL:=hB d9 aB
 have bO:(decide (((countedV (cleanV u)).k)=3))=true:=al aB
 have i0:=oT bO
 have bP:(decide (((countedV (cleanV v)).k)=4))=true:=ar aB
 have i1:=oT bP
 refine wt fL<| wk fun j9 fM=>?_
 refine wA tr7 [] 91 [ve (.pointer (some ⟨aJ,3,none⟩)),ve (.agg #[.bool ((countedV (cleanV v)).neg),sv ao ((countedV (cleanV v)).mag) ah]),ve (.pointer (some ⟨q9,1,none⟩)),ve (nv (Nm.mk ((countedV (cleanV u)).nk) ((countedV (cleanV u)).nn))),ve (.bool (alikeB ((countedV (cleanV v)).neg) ((countedV (cleanV v)).mag) (Nm.mk ((countedV (cleanV u)).nk) ((countedV (cleanV u)).nn)))),ve (.bool (alikeB ((countedV (cleanV v)).neg) ((countedV (cleanV v)).mag) (Nm.mk ((countedV (cleanV u)).nk) ((countedV (cleanV u)).nn)))),ve (iv 0)] bh ?_ ?_
 exact .F cz<| .K6 0 bN<| .F cy<| .K2 2 bM<| .C2 1 3 (fun p=>alike_c ((countedV (cleanV v)).neg) _ ((countedV (cleanV v)).mag) _ (Nm.mk ((countedV (cleanV u)).nk) ((countedV (cleanV u)).nn)) _ (da.new_ p) hvv.clean.counted.limbs (by first|omega|(simp only [List.length_nil,List.length_take,List.length_drop]; omega)|(simp only [List.length_cons,List.length_nil]; omega)) (by omega) (by omega))<| .B 4<| .c .nil
 refine aftI bh c5 c9 fun ka kb jj fN fO jk db=>?_
 have hS:=db.g 5 4
 have hT:=db.g 6 5
 refine fM _ _ ?_
 refine wp_ret (ret_k fN (v:=.tuple #[.bool (alikeB ((countedV (cleanV v)).neg) ((countedV (cleanV v)).mag) (Nm.mk ((countedV (cleanV u)).nk) ((countedV (cleanV u)).nn))),iv 0]) (res_tt rfl hS hT _) ?_)
 refine ⟨?_,fO⟩
 show Ending.returned (.tuple #[.bool (alikeB ((countedV (cleanV v)).neg) ((countedV (cleanV v)).mag) (Nm.mk ((countedV (cleanV u)).nk) ((countedV (cleanV u)).nn))),iv 0])=Ending.returned (.tuple #[.bool ((looseV v u).1),iv ((looseV v u).2)])
 first|rfl|(simp only [looseV,loose1,loose2,loose3,noneV,an,ag,aa,aa,ac,ac,ad,ad,ab,ab,ae,ae,af,af,aj,az,az,aA,aB,bO,bO,bP,bP,bsm] <;> rfl)|(exfalso; omega)
 have fP:=hB d9 aB
 refine wf fP<| wk fun kc fQ=>?_
 refine wA tr9 [] 91 [ve (pv q9),ve (iv ((countedV (cleanV u)).k)),ve (.bool (decide (((countedV (cleanV u)).k)=3))),ve (.bool (decide (((countedV (cleanV u)).k)=3))),ve (gq (decide (((countedV (cleanV u)).k)=3)) (pv aJ)),ve (gq (decide (((countedV (cleanV u)).k)=3)) (iv ((countedV (cleanV v)).k))),ve (gq (decide (((countedV (cleanV u)).k)=3)) (.bool (decide (((countedV (cleanV v)).k)=5)))),ve (.bool ((decide (((countedV (cleanV u)).k)=3)) && (decide (((countedV (cleanV v)).k)=5)))),ve (.bool ((decide (((countedV (cleanV u)).k)=3)) && (decide (((countedV (cleanV v)).k)=5))))] bh ?_ ?_
 exact .F cy<| .J 0 isAgg3 bM<| .b 1 (r_eql rfl)<| .N 2<| .Q (fun k=>g0 (k.eq1 3 72 rfl)) (fun hG p k=>v_field rfl (k.fx 3 cz) (fun w=>rfl))<| .Q (fun k=>g0 (k.eq1 3 72 rfl)) (fun hG p k=>v_load rfl (cT hG (k.eq1 4 73 rfl)) (l_one isAgg3 ((bN.new_ p).cell 0)))<| .Q (fun k=>g0 (k.eq1 3 72 rfl)) (fun hG p k=>v_bin rfl (cT hG (k.eq1 5 74 rfl)) rfl (fun _=>rfl) (r_eql rfl))<| .O 3 6<| .B 7 .nil
 refine aftI bh c5 c9 fun kd hU bi dc bQ aY bR=>?_
 have⟨hV,hW⟩:=bR.f2 cy cz
 have ea:=bR.g 8 68
 have⟨dd,fR,fS,fT⟩:=nw4 aY bM bN da fI
 have⟨fU,fV⟩:=nw2 aY fJ fK
 refine fQ _ _ ?_
 rcases bc (((decide (((countedV (cleanV u)).k)=3)) && (decide (((countedV (cleanV v)).k)=5)))) with aO|aO
 have fW:=hB ea aO
 have bj:(decide (((countedV (cleanV u)).k)=3))=true:=al aO
 have i2:=oT bj
 have bS:(decide (((countedV (cleanV v)).k)=5))=true:=ar aO
 have i3:=oT bS
 have bT:(decide (((countedV (cleanV v)).k)=4))=false:=ax1 aB bj
 have i4:=oF bT
 refine wt fW<| wk fun ke fX=>?_
 refine wB [true,true,true,true,true,true,false,false] [4] [(6,false),(7,true)] 91 [ve (vv (countedV (cleanV v)) ao ah aq ak),ve (.tuple #[nv ((numberV (countedV (cleanV v))).1),iv ((numberV (countedV (cleanV v))).2)]),ve (.tuple #[nv ((numberV (countedV (cleanV v))).1),iv ((numberV (countedV (cleanV v))).2)]),ve (nv ((numberV (countedV (cleanV v))).1)),ve (iv ((numberV (countedV (cleanV v))).2)),IsNew hU 23 [iv 0,iv 0],vt,vt] [5] bi ?_ ?_ ?_
 refine .L9 hW fR<| .C 0 (fun p=>cnumber_c (countedV (cleanV v)) _ _ _ _ _ (fS.new_ p) (fT.new_ p) hvv.clean.counted)<| .N 1<| .E 2 ?_
 refine .o3 ?_
 exact .Y<| .off<| .off .nil
 refine eg1 ?_
 exact eager_take rfl rfl fun _ w hn k=>⟨iv ((numberV (countedV (cleanV v))).2),fun w=>v_extract rfl (k.eq1 2 77 rfl) rfl,rfl⟩
 refine aftI bi dc bQ fun eb kf de fY fZ bU bk=>?_
 have hX:=bk.f1 hV
 have ec:=bk.g 3 80
 have ed:=bk.g 4 81
 obtain⟨hY,ee,df,bV⟩:=bk.G 5 6
 have f0:=dd.new_ bU
 have hne367:q9 ≠ hY:=by have h1:=dd.lt; have h2:=df; omega
 have jl:=Nat.le_trans bQ.size df
 have⟨f1,f2⟩:=nw2 bU fU fV
 refine sS2 ee ec bV fun kg f3 bW f4=>?_
 have jm:=f1.fr bV bW
 have jn:=f2.fr bV bW
 have f6:=f4 hne367 f0
 have f7:=fZ.tR bW
 refine sP ed de fY fun hZ dg f8 aK eg=>?_
 have⟨h3,ki,kj⟩:=aK.q3 hX ec ed
 have h4:=aK.q ee
 refine fX _ _ <| wk fun kk f9=>?_
 refine wA tr11 [] 91 [ve (iv ((numberV (countedV (cleanV v))).2)),ve (.bool (decide (((numberV (countedV (cleanV v))).2)=0))),ve (.bool (decide (((numberV (countedV (cleanV v))).2)=0))),ve (gq (decide (((numberV (countedV (cleanV v))).2)=0)) (.pointer (some ⟨q9,1,none⟩))),ve (gq (decide (((numberV (countedV (cleanV v))).2)=0)) (nv (Nm.mk ((countedV (cleanV u)).nk) ((countedV (cleanV u)).nn)))),ve (gq (decide (((numberV (countedV (cleanV v))).2)=0)) (nv ((numberV (countedV (cleanV v))).1))),ve (gq (decide (((numberV (countedV (cleanV v))).2)=0)) (.bool (equalM (Nm.mk ((countedV (cleanV u)).nk) ((countedV (cleanV u)).nn)) ((numberV (countedV (cleanV v))).1)))),ve (.bool ((decide (((numberV (countedV (cleanV v))).2)=0)) && (equalM (Nm.mk ((countedV (cleanV u)).nk) ((countedV (cleanV u)).nn)) ((numberV (countedV (cleanV v))).1)))),ve (iv ((numberV (countedV (cleanV v))).2)),ve (.bool ((decide (((numberV (countedV (cleanV v))).2)=0)) && (equalM (Nm.mk ((countedV (cleanV u)).nk) ((countedV (cleanV u)).nn)) ((numberV (countedV (cleanV v))).1)))),ve (iv ((numberV (countedV (cleanV v))).2))] dg ?_ ?_
 exact .M eg<| .b 0 (r_eql rfl)<| .N 1<| .Q (fun k=>g0 (k.eq1 2 84 rfl)) (fun hG p k=>v_field rfl (k.fx 2 h3) (fun w=>rfl))<| .Q (fun k=>g0 (k.eq1 2 84 rfl)) (fun hG p k=>v_load rfl (cT hG (k.eq1 3 85 rfl)) (l_part isAgg23 sizeOf23 (f6.new_ p) lb))<| .Q (fun k=>g0 (k.eq1 2 84 rfl)) (fun hG p k=>v_load rfl (k.fx 6 h4) (l_two isAgg23 sizeOf23 (f3.new_ p)))<| .o1 (scC (G:=(decide (((numberV (countedV (cleanV v))).2)=0))) rfl rfl rfl (fun _ _ k=>g0 (k.eq1 2 84 rfl)) rfl (fun hG _ w hn k=>⟨#[nv (Nm.mk ((countedV (cleanV u)).nk) ((countedV (cleanV u)).nn)),nv ((numberV (countedV (cleanV v))).1)],args2 (cT hG (k.eq1 4 86 rfl)) (cT hG (k.eq1 5 87 rfl)),fun _=>by kernel_rfl,equal_c (Nm.mk ((countedV (cleanV u)).nk) ((countedV (cleanV u)).nn)) ((numberV (countedV (cleanV v))).1) _ ⟩))<| .O 2 6<| .M eg<| .B 7<| .B 8 .nil
 refine aftI dg f8 f7 fun kl km jo ga gb jp dh=>?_
 have h5:=dh.g 9 4
 have h6:=dh.g 10 5
 refine f9 _ _ ?_
 refine wp_ret (ret_k ga (v:=.tuple #[.bool ((decide (((numberV (countedV (cleanV v))).2)=0)) && (equalM (Nm.mk ((countedV (cleanV u)).nk) ((countedV (cleanV u)).nn)) ((numberV (countedV (cleanV v))).1))),iv ((numberV (countedV (cleanV v))).2)]) (res_tt rfl h5 h6 _) ?_)
 refine ⟨?_,gb⟩
 show Ending.returned (.tuple #[.bool ((decide (((numberV (countedV (cleanV v))).2)=0)) && (equalM (Nm.mk ((countedV (cleanV u)).nk) ((countedV (cleanV u)).nn)) ((numberV (countedV (cleanV v))).1))),iv ((numberV (countedV (cleanV v))).2)])=Ending.returned (.tuple #[.bool ((looseV v u).1),iv ((looseV v u).2)])
 first|rfl|(simp only [looseV,loose1,loose2,loose3,noneV,an,ag,aa,aa,ac,ac,ad,ad,ab,ab,ae,ae,af,af,aj,az,az,aA,aB,aO,bj,bj,bS,bS,bT,bT,bsm] <;> rfl)|(exfalso; omega)
 have gc:=hB ea aO
 refine wf gc<| ws ?_
 refine fA _ _ ?_
 refine wk fun kn gd=>?_
 refine wA tr2 [] 91 [vF,ve (iv 3)] bi ?_ ?_
 exact .c<| .c .nil
 refine aftI bi dc bQ fun ko kp jq gf gg jr di=>?_
 have h7:=di.g 0 4
 have h9:=di.g 1 5
 refine gd _ _ ?_
 refine wp_ret (ret_k gf (v:=.tuple #[.bool false,iv 3]) (res_tt rfl h7 h9 _) ?_)
 refine ⟨?_,gg⟩
 show Ending.returned (.tuple #[.bool false,iv 3])=Ending.returned (.tuple #[.bool ((looseV v u).1),iv ((looseV v u).2)])
 first|rfl|(simp only [looseV,loose1,loose2,loose3,noneV,an,ag,aa,aa,ac,ac,ad,ad,ab,ab,ae,ae,af,af,aj,az,az,aA,aB,aO,bsm] <;> rfl)|(exfalso; omega)
 have gh:=hB d2 aj
 have aC:(decide (((countedV (cleanV v)).k)≤((countedV (cleanV u)).k)))=true:=nT aj
 have i5:=oT aC
 refine wf gh<| ws ?_
 refine cL _ _ ?_
 refine wk fun kq gi=>wb ?_
 refine wk fun kr gj=>?_
 refine wA tr6 [] 91 [ve (pv q9),ve (iv ((countedV (cleanV v)).k)),ve (pv aJ),ve (iv ((countedV (cleanV u)).k)),ve (.bool (decide (((countedV (cleanV v)).k)=((countedV (cleanV u)).k)))),ve (.bool (decide (((countedV (cleanV v)).k)=((countedV (cleanV u)).k))))] bb ?_ ?_
 exact .F bG<| .J 0 isAgg3 bd<| .F bH<| .J 2 isAgg3 be<| .T (fun k=>v_bin rfl (k.eq1 1 47 rfl) (k.eq1 3 49 rfl) (fun _=>rfl) (r_eql rfl))<| .B 4 .nil
 refine aftI bb cM cN fun ks kt bl dj dk aZ bX=>?_
 have⟨cA,cB⟩:=bX.f2 bG bH
 have eh:=bX.g 5 45
 have⟨bY,bZ,dl,dm⟩:=nw4 aZ bd be cO cP
 have⟨dn,dp⟩:=nw2 aZ cQ cR
 refine gj _ _ ?_
 rcases bc (decide (((countedV (cleanV v)).k)=((countedV (cleanV u)).k))) with aD|aD
 have ei:=oT aD
 have gk:=hB eh aD
 refine wt gk<| wk fun ku gl=>?_
 refine wA tr5 [] 91 [ve (vv (countedV (cleanV v)) ao ah aq ak),ve (vv (countedV (cleanV u)) ap ai au am),ve (.bool (strictV (countedV (cleanV v)) (countedV (cleanV u)))),ve (.bool (strictV (countedV (cleanV v)) (countedV (cleanV u)))),ve (iv 0)] bl ?_ ?_
 exact .L9 cA bY<| .L9 cB bZ<| .C2 0 1 (fun p=>cstrict_c (countedV (cleanV v)) _ _ _ _ (countedV (cleanV u)) _ _ _ _ _ (dl.new_ p) (dm.new_ p) (dn.new_ p) (dp.new_ p))<| .B 2<| .c .nil
 refine aftI bl dj dk fun kv kw js gm gn jt dq=>?_
 have ia:=dq.g 3 4
 have ib:=dq.g 4 5
 refine gl _ _ ?_
 refine wp_ret (ret_k gm (v:=.tuple #[.bool (strictV (countedV (cleanV v)) (countedV (cleanV u))),iv 0]) (res_tt rfl ia ib _) ?_)
 refine ⟨?_,gn⟩
 show Ending.returned (.tuple #[.bool (strictV (countedV (cleanV v)) (countedV (cleanV u))),iv 0])=Ending.returned (.tuple #[.bool ((looseV v u).1),iv ((looseV v u).2)])
 first|rfl|(simp only [looseV,loose1,loose2,loose3,noneV,an,ag,aa,aa,ac,ac,ad,ad,ab,ab,ae,ae,af,af,aj,aC,aC,aD,bsm] <;> rfl)|(exfalso; omega)
 have ei:=oF aD
 have go:=hB eh aD
 refine wf go<| wk fun kx gp=>?_
 refine wA tr9 [] 91 [ve (pv q9),ve (iv ((countedV (cleanV v)).k)),ve (.bool (decide (((countedV (cleanV v)).k)=3))),ve (.bool (decide (((countedV (cleanV v)).k)=3))),ve (gq (decide (((countedV (cleanV v)).k)=3)) (pv aJ)),ve (gq (decide (((countedV (cleanV v)).k)=3)) (iv ((countedV (cleanV u)).k))),ve (gq (decide (((countedV (cleanV v)).k)=3)) (.bool (decide (((countedV (cleanV u)).k)=4)))),ve (.bool ((decide (((countedV (cleanV v)).k)=3)) && (decide (((countedV (cleanV u)).k)=4)))),ve (.bool ((decide (((countedV (cleanV v)).k)=3)) && (decide (((countedV (cleanV u)).k)=4))))] bl ?_ ?_
 exact .F cA<| .J 0 isAgg3 bY<| .b 1 (r_eql rfl)<| .N 2<| .Q (fun k=>g0 (k.eq1 3 58 rfl)) (fun hG p k=>v_field rfl (k.fx 3 cB) (fun w=>rfl))<| .Q (fun k=>g0 (k.eq1 3 58 rfl)) (fun hG p k=>v_load rfl (cT hG (k.eq1 4 59 rfl)) (l_one isAgg3 ((bZ.new_ p).cell 0)))<| .Q (fun k=>g0 (k.eq1 3 58 rfl)) (fun hG p k=>v_bin rfl (cT hG (k.eq1 5 60 rfl)) rfl (fun _=>rfl) (r_eql rfl))<| .O 3 6<| .B 7 .nil
 refine aftI bl dj dk fun ky kz bm dr ds a1 b0=>?_
 have⟨cC,cD⟩:=b0.f2 cA cB
 have ej:=b0.g 8 54
 have⟨b1,b2,gr,gs⟩:=nw4 a1 bY bZ dl dm
 have⟨dt,gt⟩:=nw2 a1 dn dp
 refine gp _ _ ?_
 rcases bc (((decide (((countedV (cleanV v)).k)=3)) && (decide (((countedV (cleanV u)).k)=4)))) with aE|aE
 have gu:=hB ej aE
 have b3:(decide (((countedV (cleanV v)).k)=3))=true:=al aE
 have i6:=oT b3
 have b4:(decide (((countedV (cleanV u)).k)=4))=true:=ar aE
 have i7:=oT b4
 refine wt gu<| wk fun kA gv=>?_
 refine wA tr7 [] 91 [ve (.pointer (some ⟨aJ,3,none⟩)),ve (.agg #[.bool ((countedV (cleanV u)).neg),sv ap ((countedV (cleanV u)).mag) ai]),ve (.pointer (some ⟨q9,1,none⟩)),ve (nv (Nm.mk ((countedV (cleanV v)).nk) ((countedV (cleanV v)).nn))),ve (.bool (alikeB ((countedV (cleanV u)).neg) ((countedV (cleanV u)).mag) (Nm.mk ((countedV (cleanV v)).nk) ((countedV (cleanV v)).nn)))),ve (.bool (alikeB ((countedV (cleanV u)).neg) ((countedV (cleanV u)).mag) (Nm.mk ((countedV (cleanV v)).nk) ((countedV (cleanV v)).nn)))),ve (iv 0)] bm ?_ ?_
 exact .F cD<| .K6 0 b2<| .F cC<| .K2 2 b1<| .C2 1 3 (fun p=>alike_c ((countedV (cleanV u)).neg) _ ((countedV (cleanV u)).mag) _ (Nm.mk ((countedV (cleanV v)).nk) ((countedV (cleanV v)).nn)) _ (dt.new_ p) hvu.clean.counted.limbs (by first|omega|(simp only [List.length_nil,List.length_take,List.length_drop]; omega)|(simp only [List.length_cons,List.length_nil]; omega)) (by omega) (by omega))<| .B 4<| .c .nil
 refine aftI bm dr ds fun kB kC ju gw gx jv dw=>?_
 have ic:=dw.g 5 4
 have id:=dw.g 6 5
 refine gv _ _ ?_
 refine wp_ret (ret_k gw (v:=.tuple #[.bool (alikeB ((countedV (cleanV u)).neg) ((countedV (cleanV u)).mag) (Nm.mk ((countedV (cleanV v)).nk) ((countedV (cleanV v)).nn))),iv 0]) (res_tt rfl ic id _) ?_)
 refine ⟨?_,gx⟩
 show Ending.returned (.tuple #[.bool (alikeB ((countedV (cleanV u)).neg) ((countedV (cleanV u)).mag) (Nm.mk ((countedV (cleanV v)).nk) ((countedV (cleanV v)).nn))),iv 0])=Ending.returned (.tuple #[.bool ((looseV v u).1),iv ((looseV v u).2)])
 first|rfl|(simp only [looseV,loose1,loose2,loose3,noneV,an,ag,aa,aa,ac,ac,ad,ad,ab,ab,ae,ae,af,af,aj,aC,aC,aD,aE,b3,b3,b4,b4,bsm] <;> rfl)|(exfalso; omega)
 have gy:=hB ej aE
 refine wf gy<| wk fun kD gz=>?_
 refine wA tr9 [] 91 [ve (pv q9),ve (iv ((countedV (cleanV v)).k)),ve (.bool (decide (((countedV (cleanV v)).k)=3))),ve (.bool (decide (((countedV (cleanV v)).k)=3))),ve (gq (decide (((countedV (cleanV v)).k)=3)) (pv aJ)),ve (gq (decide (((countedV (cleanV v)).k)=3)) (iv ((countedV (cleanV u)).k))),ve (gq (decide (((countedV (cleanV v)).k)=3)) (.bool (decide (((countedV (cleanV u)).k)=5)))),ve (.bool ((decide (((countedV (cleanV v)).k)=3)) && (decide (((countedV (cleanV u)).k)=5)))),ve (.bool ((decide (((countedV (cleanV v)).k)=3)) && (decide (((countedV (cleanV u)).k)=5))))] bm ?_ ?_
 exact .F cC<| .J 0 isAgg3 b1<| .b 1 (r_eql rfl)<| .N 2<| .Q (fun k=>g0 (k.eq1 3 72 rfl)) (fun hG p k=>v_field rfl (k.fx 3 cD) (fun w=>rfl))<| .Q (fun k=>g0 (k.eq1 3 72 rfl)) (fun hG p k=>v_load rfl (cT hG (k.eq1 4 73 rfl)) (l_one isAgg3 ((b2.new_ p).cell 0)))<| .Q (fun k=>g0 (k.eq1 3 72 rfl)) (fun hG p k=>v_bin rfl (cT hG (k.eq1 5 74 rfl)) rfl (fun _=>rfl) (r_eql rfl))<| .O 3 6<| .B 7 .nil
 refine aftI bm dr ds fun kE ie bn dx b5 a3 b6=>?_
 have⟨ig,ih⟩:=b6.f2 cC cD
 have ek:=b6.g 8 68
 have⟨dy,gA,gB,gC⟩:=nw4 a3 b1 b2 gr gs
 have⟨gD,gE⟩:=nw2 a3 dt gt
 refine gz _ _ ?_
 rcases bc (((decide (((countedV (cleanV v)).k)=3)) && (decide (((countedV (cleanV u)).k)=5)))) with aP|aP
 have gF:=hB ek aP
 have bo:(decide (((countedV (cleanV v)).k)=3))=true:=al aP
 have i8:=oT bo
 have b7:(decide (((countedV (cleanV u)).k)=5))=true:=ar aP
 have i9:=oT b7
 have b8:(decide (((countedV (cleanV u)).k)=4))=false:=ax1 aE bo
 have ja:=oF b8
 refine wt gF<| wk fun kF gG=>?_
 refine wB [true,true,true,true,true,true,false,false] [4] [(6,false),(7,true)] 91 [ve (vv (countedV (cleanV u)) ap ai au am),ve (.tuple #[nv ((numberV (countedV (cleanV u))).1),iv ((numberV (countedV (cleanV u))).2)]),ve (.tuple #[nv ((numberV (countedV (cleanV u))).1),iv ((numberV (countedV (cleanV u))).2)]),ve (nv ((numberV (countedV (cleanV u))).1)),ve (iv ((numberV (countedV (cleanV u))).2)),IsNew ie 23 [iv 0,iv 0],vt,vt] [5] bn ?_ ?_ ?_
 refine .L9 ih gA<| .C 0 (fun p=>cnumber_c (countedV (cleanV u)) _ _ _ _ _ (gD.new_ p) (gE.new_ p) hvu.clean.counted)<| .N 1<| .E 2 ?_
 refine .o3 ?_
 exact .Y<| .off<| .off .nil
 refine eg1 ?_
 exact eager_take rfl rfl fun _ w hn k=>⟨iv ((numberV (countedV (cleanV u))).2),fun w=>v_extract rfl (k.eq1 2 77 rfl) rfl,rfl⟩
 refine aftI bn dx b5 fun el kG dz gH gI b9 bp=>?_
 have ii:=bp.f1 ig
 have em:=bp.g 3 80
 have en:=bp.g 4 81
 obtain⟨ij,eo,dA,ca⟩:=bp.G 5 6
 have gJ:=dy.new_ b9
 have hne515:q9 ≠ ij:=by have h1:=dy.lt; have h2:=dA; omega
 have jw:=Nat.le_trans b5.size dA
 have⟨gK,gL⟩:=nw2 b9 gB gC
 refine sS2 eo em ca fun kH gM cb gN=>?_
 have jx:=gK.fr ca cb
 have jy:=gL.fr ca cb
 have gP:=gN hne515 gJ
 have gQ:=gI.tR cb
 refine sP en dz gH fun ik dB gR aL er=>?_
 have⟨il,kJ,kK⟩:=aL.q3 ii em en
 have im:=aL.q eo
 refine gG _ _ <| wk fun kL gS=>?_
 refine wA tr11 [] 91 [ve (iv ((numberV (countedV (cleanV u))).2)),ve (.bool (decide (((numberV (countedV (cleanV u))).2)=0))),ve (.bool (decide (((numberV (countedV (cleanV u))).2)=0))),ve (gq (decide (((numberV (countedV (cleanV u))).2)=0)) (.pointer (some ⟨q9,1,none⟩))),ve (gq (decide (((numberV (countedV (cleanV u))).2)=0)) (nv (Nm.mk ((countedV (cleanV v)).nk) ((countedV (cleanV v)).nn)))),ve (gq (decide (((numberV (countedV (cleanV u))).2)=0)) (nv ((numberV (countedV (cleanV u))).1))),ve (gq (decide (((numberV (countedV (cleanV u))).2)=0)) (.bool (equalM (Nm.mk ((countedV (cleanV v)).nk) ((countedV (cleanV v)).nn)) ((numberV (countedV (cleanV u))).1)))),ve (.bool ((decide (((numberV (countedV (cleanV u))).2)=0)) && (equalM (Nm.mk ((countedV (cleanV v)).nk) ((countedV (cleanV v)).nn)) ((numberV (countedV (cleanV u))).1)))),ve (iv ((numberV (countedV (cleanV u))).2)),ve (.bool ((decide (((numberV (countedV (cleanV u))).2)=0)) && (equalM (Nm.mk ((countedV (cleanV v)).nk) ((countedV (cleanV v)).nn)) ((numberV (countedV (cleanV u))).1)))),ve (iv ((numberV (countedV (cleanV u))).2))] dB ?_ ?_
 exact .M er<| .b 0 (r_eql rfl)<| .N 1<| .Q (fun k=>g0 (k.eq1 2 84 rfl)) (fun hG p k=>v_field rfl (k.fx 2 il) (fun w=>rfl))<| .Q (fun k=>g0 (k.eq1 2 84 rfl)) (fun hG p k=>v_load rfl (cT hG (k.eq1 3 85 rfl)) (l_part isAgg23 sizeOf23 (gP.new_ p) lb))<| .Q (fun k=>g0 (k.eq1 2 84 rfl)) (fun hG p k=>v_load rfl (k.fx 6 im) (l_two isAgg23 sizeOf23 (gM.new_ p)))<| .o1 (scC (G:=(decide (((numberV (countedV (cleanV u))).2)=0))) rfl rfl rfl (fun _ _ k=>g0 (k.eq1 2 84 rfl)) rfl (fun hG _ w hn k=>⟨#[nv (Nm.mk ((countedV (cleanV v)).nk) ((countedV (cleanV v)).nn)),nv ((numberV (countedV (cleanV u))).1)],args2 (cT hG (k.eq1 4 86 rfl)) (cT hG (k.eq1 5 87 rfl)),fun _=>by kernel_rfl,equal_c (Nm.mk ((countedV (cleanV v)).nk) ((countedV (cleanV v)).nn)) ((numberV (countedV (cleanV u))).1) _ ⟩))<| .O 2 6<| .M er<| .B 7<| .B 8 .nil
 refine aftI dB gR gQ fun kM kN jz gT gU jA dC=>?_
 have io:=dC.g 9 4
 have ip:=dC.g 10 5
 refine gS _ _ ?_
 refine wp_ret (ret_k gT (v:=.tuple #[.bool ((decide (((numberV (countedV (cleanV u))).2)=0)) && (equalM (Nm.mk ((countedV (cleanV v)).nk) ((countedV (cleanV v)).nn)) ((numberV (countedV (cleanV u))).1))),iv ((numberV (countedV (cleanV u))).2)]) (res_tt rfl io ip _) ?_)
 refine ⟨?_,gU⟩
 show Ending.returned (.tuple #[.bool ((decide (((numberV (countedV (cleanV u))).2)=0)) && (equalM (Nm.mk ((countedV (cleanV v)).nk) ((countedV (cleanV v)).nn)) ((numberV (countedV (cleanV u))).1))),iv ((numberV (countedV (cleanV u))).2)])=Ending.returned (.tuple #[.bool ((looseV v u).1),iv ((looseV v u).2)])
 first|rfl|(simp only [looseV,loose1,loose2,loose3,noneV,an,ag,aa,aa,ac,ac,ad,ad,ab,ab,ae,ae,af,af,aj,aC,aC,aD,aE,aP,bo,bo,b7,b7,b8,b8,bsm] <;> rfl)|(exfalso; omega)
 have gV:=hB ek aP
 refine wf gV<| ws ?_
 refine gi _ _ ?_
 refine wk fun kO gW=>?_
 refine wA tr2 [] 91 [vF,ve (iv 3)] bn ?_ ?_
 exact .c<| .c .nil
 refine aftI bn dx b5 fun kP kQ jB gX gY jC dD=>?_
 have iq:=dD.g 0 4
 have ir:=dD.g 1 5
 refine gW _ _ ?_
 refine wp_ret (ret_k gX (v:=.tuple #[.bool false,iv 3]) (res_tt rfl iq ir _) ?_)
 refine ⟨?_,gY⟩
 show Ending.returned (.tuple #[.bool false,iv 3])=Ending.returned (.tuple #[.bool ((looseV v u).1),iv ((looseV v u).2)])
 first|rfl|(simp only [looseV,loose1,loose2,loose3,noneV,an,ag,aa,aa,ac,ac,ad,ad,ab,ab,ae,ae,af,af,aj,aC,aC,aD,aE,aP,bsm] <;> rfl)|(exfalso; omega)
def cown_c_P (a:Bool) (Aa:Option Addr) (ma:List Nat) (ca:Nat) (w:World) (en:Ending) (w':World):Prop:=∃ (Ar0:Option Addr) (cr0:Nat),en=.returned (.agg #[.bool a,sv Ar0 ma cr0])∧SRow w' .u32 Ar0 ma cr0∧New w w'
theorem cown_c (a:Bool) (Aa:Option Addr) (ma:List Nat) (ca:Nat) (w:World) (hra:SRow w .u32 Aa ma ca) (hs:ma.length≤1000000):Calls prog 72 #[.agg #[.bool a,sv Aa ma ca]] w (cown_c_P a Aa ma ca w):=by
 refine enter_abs func72 rfl fun a0 ad aF hp=>?_
 have ad:a0.tmps.size=9:=ad
 have af:New w w:=Upd.refl _ _
 have hp0:a0.eval (.tmp 0)=.agg #[.bool a,sv Aa ma ca]:=hp 0 _ rfl
 refine wk fun K1 aG=>?_
 refine wB tr2 [] [] 9 [IsNew w 26 [.bool a,sv Aa ma ca],IsNew w 26 [.bool false,sv none ([]) 0]] [0,1] ad ?_ heN ?_
 exact .X hp0<| .Y .nil
 refine aftI ad aF af fun a2 w3 an aH ac aP ag=>?_
 obtain⟨q9,h8,aq,ah⟩:=ag.G 0 1
 obtain⟨aI,ao,ar,au⟩:=ag.G 1 2
 have hne16:=ag.ne 0 1 1 2 h8 ao
 have aL:=Nat.le_trans af.size aq
 have aM:=Nat.le_trans af.size ar
 refine aG _ _ <| wk fun aQ av=>?_
 refine wp_g0 [true,true,true,true,true,true,false] [(6,false)] 9
  [ve (pv q9),ve (.bool a),ve (.pointer (some ⟨q9,1,none⟩)),ve (sv Aa ma ca),
  (OP w3.heap.size 56 .u32 ma),(fun (v_:Value) (W:World)=>∃ (A9:Option Addr) (aa:Nat),v_=.agg #[.bool a,sv A9 ma aa]∧SOwn W w3.heap.size 56 .u32 A9 ma aa),vt] an (.eq (.eq (.eq (.eq (.cons (fun _ _ _ n ⟨_,_,e,h⟩=>⟨_,_,e,h.new_ n⟩) (.cons (fun _ _ _ n ⟨_,_,e,h⟩=>⟨_,_,e,h.new_ n⟩) (.tt .nil))))))) ?_ ?_
 refine .F h8<| .J 0 isAgg4 ah<| .F h8<| .J 2 isAgg24 ah ?_
 refine .o1 (tkC rfl (noG rfl) rfl fun _ w hn k=>(by
  refine ⟨#[sv Aa ma ca],_,args1 (k.eq1 3 6 rfl),fun w=>by kernel_rfl,clone32_c _ ma _ _ (hra.new_ (ac.transNew hn)) (by first|omega|(simp only [List.length_nil,List.length_take,List.length_drop]; omega)|(simp only [List.length_cons,List.length_nil]; omega)),?_⟩
  rintro e w' ⟨A1,c2,rfl,hmo0,hm⟩
  exact⟨_,rfl,hm,⟨A1,c2,rfl,(hmo0.more hn.size)⟩⟩)) ?_
 refine .o1 (tk rfl rfl fun _ w hn k=>(by
  obtain⟨A5,c6,e7,aJ⟩:=k.G 4 7
  exact⟨_,v_build (ps:=[(0,.bool a),(1,sv A5 ma c6)]) rfl (parts2 (k.eq1 1 4 rfl) e7) (by kernel_rfl),⟨A5,c6,rfl,aJ⟩⟩)) ?_
 exact .off .nil
 refine aftI an aH ac fun aK aR aN aw ax ay ai=>?_
 have ap:=ai.f1 ao
 obtain⟨ae,ab,aj,az⟩:=ai.G 5 8
 have aj:aK.eval (.tmp 8)=.agg #[.bool a,sv ae ma ab]:=aj
 have ak:=au.new_ ay
 have aA:=az.more ac.size
 refine sS6 ap aj ak fun aS aB al aO=>?_
 have aD:=aA.far ak al (by decide)
 have aE:=ax.tR al
 refine av _ _ ?_
 refine wp_ret (ret_k aw (v:=.agg #[.bool a,sv ae ma ab]) (res_c rfl ap (l_two isAgg26 sizeOf26 aB)) ?_)
 exact⟨ae,ab,rfl,aD.row,aE⟩
def cbig_c_P (a:Bool) (Aa:Option Addr) (ma:List Nat) (ca:Nat) (w:World) (en:Ending) (w':World):Prop:=∃ (Ar0:Option Addr) (cr0:Nat),en=.returned (vv (Vl.mk 4 0 0 a ma [] 0) Ar0 cr0 none 0)∧SRow w' .u32 Ar0 ma cr0∧New w w'
theorem cbig_c (a:Bool) (Aa:Option Addr) (ma:List Nat) (ca:Nat) (w:World) (hra:SRow w .u32 Aa ma ca):Calls prog 42 #[.agg #[.bool a,sv Aa ma ca]] w (cbig_c_P a Aa ma ca w):=by
 refine enter_abs func42 rfl fun a0 aa aA hp=>?_
 have aa:a0.tmps.size=5:=aa
 have ab:New w w:=Upd.refl _ _
 have hp0:a0.eval (.tmp 0)=.agg #[.bool a,sv Aa ma ca]:=hp 0 _ rfl
 refine wk fun K1 aB=>?_
 refine wB tr2 [] [] 5 [IsNew w 26 [.bool a,sv Aa ma ca],IsNew w 29 z7] [0,1] aa ?_ heN ?_
 exact .X hp0<| .Y .nil
 refine aftI aa aA ab fun a2 w3 ah aC al aJ ac=>?_
 obtain⟨q9,h8,am,an⟩:=ac.G 0 1
 obtain⟨ai,aj,ao,ap⟩:=ac.G 1 2
 have hne16:=ac.ne 0 1 1 2 h8 aj
 have aF:=Nat.le_trans ab.size am
 have aG:=Nat.le_trans ab.size ao
 refine aB _ _ <| wk fun aK aq=>?_
 refine wA [true,true,false] [(2,false)] 5 [ve (.agg #[.bool a,sv Aa ma ca]),ve (vv (Vl.mk 4 0 0 a ma [] 0) Aa ca none 0),vt] ah ?_ ?_
 exact .L6 h8 an<| .T (fun k=>v_build (ps:=[(0,iv 4),(2,.agg #[.bool a,sv Aa ma ca])]) rfl (parts2 rfl (k.eq1 0 3 rfl)) (by kernel_rfl))<| .off .nil
 refine aftI ah aC al fun aL aM aH ar au av ad=>?_
 have ak:=ad.f1 aj
 have aD:=ad.g 1 4
 have aw:=ap.new_ av
 refine sS9 ak aD aw fun aE ay ax aI=>?_
 have ae:=au.tR ax
 refine aq _ _ ?_
 refine wp_ret (ret_k ar (v:=vv (Vl.mk 4 0 0 a ma [] 0) Aa ca none 0) (res_c rfl ak (l_agg isAgg29 sizeOf29 ay rfl)) ?_)
 exact⟨Aa,ca,rfl,(hra.new_ ae),ae⟩
def cnumeric_c_P (v:Vl) (Av:Option Addr) (cv:Nat) (Bv:Option Addr) (dv:Nat) (w:World) (en:Ending) (w':World):Prop:=∃ (Ar0:Option Addr) (cr0:Nat) (Ar1:Option Addr) (cr1:Nat),en=.returned (.tuple #[vv (numericV v).1 Ar0 cr0 Ar1 cr1,iv ((numericV v).2)])∧SRow w' .u32 Ar0 ((numericV v).1.mag) cr0∧SRow w' .u16 Ar1 ((numericV v).1.s) cr1∧New w w'
theorem cnumeric_c (v:Vl) (Av:Option Addr) (cv:Nat) (Bv:Option Addr) (dv:Nat) (w:World) (hmv:SRow w .u32 Av v.mag cv) (hsv:SRow w .u16 Bv v.s dv) (hvv:VOk v):Calls prog 29 #[vv v Av cv Bv dv] w (cnumeric_c_P v Av cv Bv dv w):=by
 refine enter_abs func29 rfl fun a0 aK df hp=>?_
 have aK:a0.tmps.size=26:=aK
 have aW:New w w:=Upd.refl _ _
 have hp0:a0.eval (.tmp 0)=vv v Av cv Bv dv:=hp 0 _ rfl
 have hm:=hvv.clean.mlen
 refine wk fun K1 dg=>?_
 refine wB tr3 [] [] 26 [IsNew w 29 (c7 v Av cv Bv dv),IsNew w 29 z7,ve (iv 0)] [0,1] aK ?_ heN ?_
 exact .X hp0<| .Y<| .c .nil
 refine aftI aK df aW fun a2 w3 cf dh aD d2 aX=>?_
 obtain⟨q9,h8,cn,aY⟩:=aX.G 0 1
 obtain⟨aB,ch,co,cp⟩:=aX.G 1 2
 have hne16:=aX.ne 0 1 1 2 h8 ch
 have dG:=Nat.le_trans aW.size cn
 have dH:=Nat.le_trans aW.size co
 refine dg _ _ <| wk fun d3 cq=>?_
 refine wp_g0 [true,true,false] [(2,false)] 26
  [ve (vv v Av cv Bv dv),
  (VP (cleanV v)),vt] cf (.eq (.cons (fun _ _ _ n ⟨_,_,_,_,e,h,i⟩=>⟨_,_,_,_,e,h.new_ n,i.new_ n⟩) (.tt .nil))) ?_ ?_
 refine .L9 h8 aY ?_
 refine .o1 (tkC rfl (noG rfl) rfl fun _ w hn k=>(by
  refine ⟨#[vv v Av cv Bv dv],_,args1 (k.eq1 0 6 rfl),fun w=>by kernel_rfl,clean_c v _ _ _ _ _ (hmv.new_ (aD.transNew hn)) (hsv.new_ (aD.transNew hn)),?_⟩
  rintro e w' ⟨A1,c2,A3,c4,rfl,hmo0,hmo1,hm⟩
  exact⟨_,rfl,hm,⟨A1,c2,A3,c4,rfl,hmo0,hmo1⟩⟩)) ?_
 exact .off .nil
 refine aftI cf dh aD fun di d4 aZ cr ct a1 aE=>?_
 have⟨a3,dj⟩:=aE.f2 h8 ch
 obtain⟨ap,ah,aC,aq,a4,cu,cw⟩:=aE.G 1 7
 have a4:di.eval (.tmp 7)=vv (cleanV v) ap ah aC aq:=a4
 have⟨aF,cx⟩:=nw2 a1 aY cp
 refine sS9 a3 a4 aF fun dk a5 aG cy=>?_
 have cA:=cu.fr aF aG
 have cB:=cw.fr aF aG
 have cC:=cy hne16.symm cx
 have cD:=ct.tR aG
 refine cq _ _ <| wk fun d6 cE=>?_
 refine wk fun d7 cF=>?_
 refine wA tr3 [] 26 [ve (pv q9),ve (iv ((cleanV v).k)),ve (.bool (decide (((cleanV v).k)=4)))] aZ ?_ ?_
 exact .F a3<| .J 0 isAgg3 a5<| .b 1 (r_eql rfl) .nil
 refine aftI aZ cr cD fun d8 dl ay a6 aH az aI=>?_
 have⟨ci,cj⟩:=aI.f2 a3 dj
 have cl:=aI.g 2 10
 have⟨a7,aJ,a8,cG⟩:=nw4 az a5 cC cA cB
 refine cF _ _ ?_
 rcases bc (decide (((cleanV v).k)=4)) with aa|aa
 have bB:=oT aa
 have cH:=hB cl aa
 refine wt cH<| wk fun d9 cI=>?_
 refine wp_g0 [true,true,true,true,false,false] [(4,false),(5,true)] 26
  [ve (.pointer (some ⟨q9,3,none⟩)),ve (.agg #[.bool ((cleanV v).neg),sv ap ((cleanV v).mag) ah]),(fun (v_:Value) (W:World)=>∃ (ar:Option Addr) (au:Nat),v_=.agg #[.bool ((cleanV v).neg),sv ar ((cleanV v).mag) au]∧SRow W .u32 ar ((cleanV v).mag) au),(fun (v_:Value) (W:World)=>∃ (av:Option Addr) (aw:Nat),v_=vv (Vl.mk 4 0 0 (cleanV v).neg (cleanV v).mag [] 0) av aw none 0∧SRow W .u32 av ((cleanV v).mag) aw),vt,vt] ay (.eq (.eq (.cons (fun _ _ _ n ⟨_,_,e,h⟩=>⟨_,_,e,h.new_ n⟩) (.cons (fun _ _ _ n ⟨_,_,e,h⟩=>⟨_,_,e,h.new_ n⟩) (.tt (.tt .nil)))))) ?_ ?_
 refine .F ci<| .K6 0 a7 ?_
 refine .o1 (tkC rfl (noG rfl) rfl fun _ w hn k=>(by
  refine ⟨#[.agg #[.bool ((cleanV v).neg),sv ap ((cleanV v).mag) ah]],_,args1 (k.eq1 1 12 rfl),fun w=>by kernel_rfl,cown_c ((cleanV v).neg) _ ((cleanV v).mag) _ _ (a8.new_ hn) (by first|omega|(simp only [List.length_nil,List.length_take,List.length_drop]; omega)|(simp only [List.length_cons,List.length_nil]; omega)),?_⟩
  rintro e w' ⟨dm,dn,rfl,hmo0,hm⟩
  exact⟨_,rfl,hm,⟨dm,dn,rfl,hmo0⟩⟩)) ?_
 refine .o1 (tkC rfl (noG rfl) rfl fun _ w hn k=>(by
  obtain⟨dp,dq,dr,cJ⟩:=k.G 2 13
  refine ⟨#[.agg #[.bool ((cleanV v).neg),sv dp ((cleanV v).mag) dq]],_,args1 dr,fun w=>by kernel_rfl,cbig_c ((cleanV v).neg) _ ((cleanV v).mag) _ _ cJ,?_⟩
  rintro e w' ⟨ds,dt,rfl,hmo0,hm⟩
  exact⟨_,rfl,hm,⟨ds,dt,rfl,hmo0⟩⟩)) ?_
 exact .off<| .off .nil
 refine aftI ay a6 aH fun a9 ea ba cK cL cM bb=>?_
 have cm:=bb.f1 cj
 obtain⟨ax,ai,aL,cN⟩:=bb.G 3 14
 have aL:a9.eval (.tmp 14)=vv (Vl.mk 4 0 0 (cleanV v).neg (cleanV v).mag [] 0) ax ai none 0:=aL
 have bd:=aJ.new_ cM
 refine sS9 cm aL bd fun du cO be dI=>?_
 have cQ:=cN.fr bd be
 have cR:=cL.tR be
 refine sP (v:=iv 0) rfl ba cK fun dw dJ cS aj dy=>?_
 have⟨dx,ec⟩:=aj.q2 cm aL
 refine cI _ _ ?_
 refine wp_ret (ret_k cS (v:=.tuple #[vv (Vl.mk 4 0 0 (cleanV v).neg (cleanV v).mag [] 0) ax ai none 0,iv 0]) (res_ct rfl dx dy (l_agg isAgg29 sizeOf29 cO rfl)) ?_)
 have ak:(numericV v).1.mag=((cleanV v).mag):=by first|rfl|(simp only [numericV,Vl.z,aa,bsm] <;> rfl)|(exfalso; omega)
 have al:(numericV v).1.s=[]:=by first|rfl|(simp only [numericV,Vl.z,aa,bsm] <;> rfl)|(exfalso; omega)
 exact⟨ax,ai,none,0,(by show Ending.returned (.tuple #[vv (Vl.mk 4 0 0 (cleanV v).neg (cleanV v).mag [] 0) ax ai none 0,iv 0])=Ending.returned (.tuple #[vv (numericV v).1 ax ai none 0,iv ((numericV v).2)]); (first|rfl|(simp only [numericV,Vl.z,aa,ak,al,bsm] <;> rfl)|(exfalso; omega))),(by rw [ak]; exact cQ),(by rw [al]; exact (SRow.nil _ _)),cR⟩
 have bB:=oF aa
 have cT:=hB cl aa
 refine wf cT<| ws ?_
 refine cE _ _ ?_
 refine wk fun ed cU=>?_
 refine wB [true,true,true,true,true,true,false,false] [4] [(6,false),(7,true)] 26 [ve (vv (cleanV v) ap ah aC aq),ve (.tuple #[nv ((numberV (cleanV v)).1),iv ((numberV (cleanV v)).2)]),ve (.tuple #[nv ((numberV (cleanV v)).1),iv ((numberV (cleanV v)).2)]),ve (nv ((numberV (cleanV v)).1)),ve (iv ((numberV (cleanV v)).2)),IsNew dl 23 [iv 0,iv 0],vt,vt] [5] ay ?_ ?_ ?_
 refine .L9 ci a7<| .C 0 (fun p=>cnumber_c (cleanV v) _ _ _ _ _ (a8.new_ p) (cG.new_ p) hvv.clean)<| .N 1<| .E 2 ?_
 refine .o3 ?_
 exact .Y<| .off<| .off .nil
 refine eg1 ?_
 exact eager_take rfl rfl fun _ w hn k=>⟨iv ((numberV (cleanV v)).2),fun w=>v_extract rfl (k.eq1 2 15 rfl) rfl,rfl⟩
 refine aftI ay a6 aH fun bf dK aM bE bF bG am=>?_
 have cV:=am.f1 cj
 have bg:=am.g 3 18
 have bh:=am.g 4 19
 obtain⟨cW,bi,aN,bH⟩:=am.G 5 4
 have bI:=aJ.new_ bG
 have hne114:aB ≠ cW:=by have h1:=aJ.lt; have h2:=aN; omega
 have dB:=Nat.le_trans aH.size aN
 refine sS2 bi bg bH fun dL bJ bK bL=>?_
 have bN:=bL hne114 bI
 have bO:=bF.tR bK
 refine sP bh aM bE fun cX aO bP ac bk=>?_
 have⟨cY,dN,dO⟩:=ac.q3 cV bg bh
 have cZ:=ac.q bi
 refine cU _ _ <| wk fun dP bQ=>?_
 refine wk fun dQ bR=>?_
 refine wA tr2 [] 26 [ve (iv ((numberV (cleanV v)).2)),ve (.bool (!decide (((numberV (cleanV v)).2)=0)))] aO ?_ ?_
 exact .M bk<| .b 0 (r_neq rfl) .nil
 refine aftI aO bP bO fun dR dS an aP aQ aR ao=>?_
 have⟨bl,c0,c1⟩:=ao.f3 cY cZ bk
 have bm:=ao.g 1 21
 have⟨aS,bS⟩:=nw2 aR bN bJ
 refine bR _ _ ?_
 rcases bc ((!decide (((numberV (cleanV v)).2)=0))) with ab|ab
 have bT:=hB bm ab
 have ad:(decide (((numberV (cleanV v)).2)=0))=false:=nF ab
 have dz:=oF ad
 refine wt bT<| wk fun dT bU=>?_
 refine wB [true,true,false,false] [1] [(2,false),(3,true)] 26 [ve (vv (Vl.mk 0 0 0 false [] [] 0) none 0 none 0),ve (iv ((numberV (cleanV v)).2)),vt,vt] [] an ?_ ?_ ?_
 refine .Z ?_
 refine .o3 ?_
 exact .off<| .off .nil
 refine eg1 ?_
 exact eager_take rfl rfl fun _ w hn k=>⟨iv ((numberV (cleanV v)).2),fun w=>v_move rfl (k.fx 5 c1),rfl⟩
 refine aftI an aP aQ fun bn dU aT bV bW bX aA=>?_
 have bo:=aA.f1 bl
 have bp:=aA.g 0 22
 have bq:=aA.g 1 23
 have bY:=aS.new_ bX
 refine sS9 bo bp bY fun c3 b0 bZ dC=>?_
 have b2:=bW.tR bZ
 refine sP bq aT bV fun c5 dD b3 ae da=>?_
 have⟨c9,dW,dX⟩:=ae.q3 bo bp bq
 refine bU _ _ ?_
 refine wp_ret (ret_k b3 (res9 c9 da b0) ?_)
 exact rV (by first|rfl|(simp only [numericV,Vl.z,aa,ab,ad,bsm] <;> rfl)|(exfalso; omega)) b2
 have b4:=hB bm ab
 have af:(decide (((numberV (cleanV v)).2)=0))=true:=nT ab
 have dA:=oT af
 refine wf b4<| ws ?_
 refine bQ _ _ ?_
 refine wk fun dY b5=>?_
 refine wA [true,true,false,false] [(2,false),(3,true)] 26 [ve (nv ((numberV (cleanV v)).1)),ve (vv (Vl.mk 3 ((numberV (cleanV v)).1).k ((numberV (cleanV v)).1).n false [] [] 0) none 0 none 0),vt,vt] an ?_ ?_
 exact .L2 c0 bS<| .C 0 (fun p=>cnum_c ((numberV (cleanV v)).1) _)<| .off<| .off .nil
 refine aftI an aP aQ fun bt dZ aU b6 b7 b8 aV=>?_
 have bu:=aV.f1 bl
 have bv:=aV.g 1 25
 have b9:=aS.new_ b8
 refine sS9 bu bv b9 fun db cb ca dE=>?_
 have cd:=b7.tR ca
 refine sP (v:=iv 0) rfl aU b6 fun dc dF ce ag de=>?_
 have⟨dd,d1⟩:=ag.q2 bu bv
 refine b5 _ _ ?_
 refine wp_ret (ret_k ce (res9 dd de cb) ?_)
 exact rV (by first|rfl|(simp only [numericV,Vl.z,aa,ab,af,bsm] <;> rfl)|(exfalso; omega)) cd
def ItoaOk (w0:World):Prop:=∀ n:Int,-9223372036854775808≤n→n≤9223372036854775807→∀ w',New w0 w'→Calls Tryz.prog 179 #[.int .i64 n] w' (IsRet (.string (itoaS n)) w')
theorem ItoaOk.up {w0 w:World} (h:ItoaOk w0) (hn:New w0 w):ItoaOk w:=fun n h1 h2 w' h3=>h n h1 h2 w' (hn.transNew h3)
theorem ntext_c (a:Nm) (w:World) (HT:ItoaOk w):Calls prog 140 #[nv a] w (IsRet (.string (textM a)) w):=by
 refine enter_abs func140 rfl fun a0 aj bC hp=>?_
 have aj:a0.tmps.size=16:=aj
 have aP:New w w:=Upd.refl _ _
 have hp0:a0.eval (.tmp 0)=nv a:=hp 0 _ rfl
 refine wk fun K1 bD=>?_
 refine wB tr2 [] [] 16 [IsNew w 23 [iv a.k,iv a.n],ve (.string ⟨#[]⟩)] [0] aj ?_ heN ?_
 exact .X hp0<| .c .nil
 refine aftI aj bC aP fun a2 w3 aQ bE aV b3 bF=>?_
 obtain⟨q9,h8,aW,ak⟩:=bF.G 0 1
 have bR:=Nat.le_trans aP.size aW
 refine bD _ _ <| wk fun b4 aX=>?_
 refine wk fun b5 aY=>?_
 refine wA [true,true,false] [(2,false)] 16 [ve (nv a),ve (nv (asM a)),vt] aQ ?_ ?_
 exact .L2 h8 ak<| .C 0 (fun m=>as_c a _)<| .off .nil
 refine aftI aQ bE aV fun b6 b7 al aZ a1 a3 am=>?_
 have an:=am.f1 h8
 have bG:=am.g 1 4
 have a4:=ak.new_ a3
 have hbd_a:=as_bd a
 refine sS2 an bG a4 fun b8 ao a5 bS=>?_
 have a7:=a1.tR a5
 refine aY _ _ <| wk fun ca a8=>?_
 refine wA tr2 [] 16 [ve (pv q9),ve (iv ((asM a).k))] al ?_ ?_
 exact .F an<| .J 0 isAgg3 ao .nil
 refine aftI al aZ a7 fun cb cc ap a9 ba bb aq=>?_
 have bH:=aq.f1 an
 have aR:=aq.g 1 6
 have bd:=ao.new_ bb
 refine a8 _ _ ?_
 refine wb<| wk fun cd be=>?_
 refine wA tr2 [] 16 [ve (.bool (decide (((asM a).k)=2))),ve (.bool (decide (((asM a).k)=2)))] ap ?_ ?_
 exact .H aR (r_eql rfl)<| .B 0 .nil
 refine aftI ap a9 ba fun ce cf ad ar au bf ah=>?_
 have⟨bI,aS⟩:=ah.f2 bH aR
 have aT:=ah.g 1 7
 have bg:=bd.new_ bf
 refine be _ _ ?_
 rcases bc (decide (((asM a).k)=2)) with aa|aa
 have aC:=oT aa
 have bh:=hB aT aa
 refine wt bh<| wk fun ch bi=>?_
 refine wA tr1 [] 16 [ve (.string ⟨#[78,97,78]⟩)] ad ?_ ?_
 exact .c .nil
 refine aftI ad ar au fun ci cj bT bj bk bU bl=>?_
 have bJ:=bl.g 0 2
 refine bi _ _ ?_
 refine wp_ret (ret_k bj (v:=.string ⟨#[78,97,78]⟩) (res_t rfl bJ _) ?_)
 refine ⟨?_,bk⟩
 show Ending.returned (.string ⟨#[78,97,78]⟩)=Ending.returned (.string (textM a))
 first|rfl|(simp only [textM,aa,bsm] <;> rfl)|(exfalso; omega)
 have aC:=oF aa
 have bm:=hB aT aa
 refine wf bm<| wk fun cl bn=>?_
 refine wA tr2 [] 16 [ve (.bool (decide (((asM a).k)=3))),ve (.bool (decide (((asM a).k)=3)))] ad ?_ ?_
 exact .H aS (r_eql rfl)<| .B 0 .nil
 refine aftI ad ar au fun cm cn ae av aw bo ai=>?_
 have⟨bK,bL⟩:=ai.f2 bI aS
 have aU:=ai.g 1 9
 have bp:=bg.new_ bo
 refine bn _ _ ?_
 rcases bc (decide (((asM a).k)=3)) with ac|ac
 have aD:=oT ac
 have bq:=hB aU ac
 refine wt bq<| wk fun co br=>?_
 refine wA tr1 [] 16 [ve (.string ⟨#[73,110,102,105,110,105,116,121]⟩)] ae ?_ ?_
 exact .c .nil
 refine aftI ae av aw fun cp cq bV bs bt bW bu=>?_
 have bM:=bu.g 0 2
 refine br _ _ ?_
 refine wp_ret (ret_k bs (v:=.string ⟨#[73,110,102,105,110,105,116,121]⟩) (res_t rfl bM _) ?_)
 refine ⟨?_,bt⟩
 show Ending.returned (.string ⟨#[73,110,102,105,110,105,116,121]⟩)=Ending.returned (.string (textM a))
 first|rfl|(simp only [textM,aa,ac,bsm] <;> rfl)|(exfalso; omega)
 have aD:=oF ac
 have bv:=hB aU ac
 refine wf bv<| wk fun cr bw=>?_
 refine wA tr2 [] 16 [ve (.bool (decide (((asM a).k)=4))),ve (.bool (decide (((asM a).k)=4)))] ae ?_ ?_
 exact .H bL (r_eql rfl)<| .B 0 .nil
 refine aftI ae av aw fun ct cu af ax ag bx ay=>?_
 have bz:=ay.f1 bK
 have az:=ay.g 1 11
 have aE:=bp.new_ bx
 refine bw _ _ ?_
 rcases bc (decide (((asM a).k)=4)) with ab|ab
 have aA:=oT ab
 have aF:=hB az ab
 refine wt aF<| wk fun bX aG=>?_
 refine wA tr1 [] 16 [ve (.string ⟨#[45,73,110,102,105,110,105,116,121]⟩)] af ?_ ?_
 exact .c .nil
 refine aftI af ax ag fun bY bZ bN aH aI bO aJ=>?_
 have bA:=aJ.g 0 2
 refine aG _ _ ?_
 refine wp_ret (ret_k aH (v:=.string ⟨#[45,73,110,102,105,110,105,116,121]⟩) (res_t rfl bA _) ?_)
 refine ⟨?_,aI⟩
 show Ending.returned (.string ⟨#[45,73,110,102,105,110,105,116,121]⟩)=Ending.returned (.string (textM a))
 first|rfl|(simp only [textM,aa,ac,ab,bsm] <;> rfl)|(exfalso; omega)
 have aA:=oF ab
 have aK:=hB az ab
 refine wf aK<| ws ?_
 refine aX _ _ ?_
 refine wk fun b0 aL=>?_
 refine wA tr4 [] 16 [ve (.pointer (some ⟨q9,1,none⟩)),ve (iv ((asM a).n)),ve (.string (itoaS ((asM a).n))),ve (.string (itoaS ((asM a).n)))] af ?_ ?_
 exact .F bz<| .J 0 isAgg3 aE<| .C 1 (fun m=>HT ((asM a).n) (by omega) (by omega) _ (ag.transNew m))<| .B 2 .nil
 refine aftI af ax ag fun b1 b2 bP aM aN bQ aO=>?_
 have bB:=aO.g 3 2
 refine aL _ _ ?_
 refine wp_ret (ret_k aM (v:=.string (itoaS ((asM a).n))) (res_t rfl bB _) ?_)
 refine ⟨?_,aN⟩
 show Ending.returned (.string (itoaS ((asM a).n)))=Ending.returned (.string (textM a))
 first|rfl|(simp only [textM,aa,ac,ab,bsm] <;> rfl)|(exfalso; omega)
theorem isInf_c (a:Nm) (w:World):Calls prog 123 #[nv a] w (IsRet (.bool (infB a.k)) w):=by
 refine enter_abs func123 rfl fun a0 aa ak hp=>?_
 have aa:a0.tmps.size=11:=aa
 have ac:New w w:=Upd.refl _ _
 have hp0:a0.eval (.tmp 0)=nv a:=hp 0 _ rfl
 refine wk fun K1 al=>?_
 refine wB tr2 [] [] 11 [IsNew w 23 [iv a.k,iv a.n],vF] [0] aa ?_ heN ?_
 exact .X hp0<| .c .nil
 refine aftI aa ak ac fun a2 w3 ad am ae au an=>?_
 obtain⟨q9,h8,af,ab⟩:=an.G 0 1
 have ap:=Nat.le_trans ac.size af
 refine al _ _ <| wk fun av ag=>?_
 refine wA tr9 [] 11 [ve (pv q9),ve (iv a.k),ve (.bool (decide (a.k=3))),ve (.bool (decide (a.k=3))),ve (gq (!(decide (a.k=3))) (pv q9)),ve (gq (!(decide (a.k=3))) (iv a.k)),ve (gq (!(decide (a.k=3))) (.bool (decide (a.k=4)))),ve (.bool ((decide (a.k=3)) || (decide (a.k=4)))),ve (.bool ((decide (a.k=3)) || (decide (a.k=4))))] ad ?_ ?_
 exact .F h8<| .J 0 isAgg3 ab<| .b 1 (r_eql rfl)<| .N 2<| .Q (fun k=>g0' (k.eq1 3 6 rfl)) (fun hG p k=>v_field rfl (k.fx 1 h8) (fun w=>rfl))<| .Q (fun k=>g0' (k.eq1 3 6 rfl)) (fun hG p k=>v_load rfl (cT hG (k.eq1 4 7 rfl)) (l_one isAgg3 ((ab.new_ p).cell 0)))<| .Q (fun k=>g0' (k.eq1 3 6 rfl)) (fun hG p k=>v_bin rfl (cT hG (k.eq1 5 8 rfl)) rfl (fun _=>rfl) (r_eql rfl))<| .W 3 6<| .B 7 .nil
 refine aftI ad am ae fun aw ax aq ah ai ar aj=>?_
 have ao:=aj.g 8 2
 refine ag _ _ ?_
 refine wp_ret (ret_k ah (v:=.bool ((decide (a.k=3)) || (decide (a.k=4)))) (res_t rfl ao _) ?_)
 refine ⟨?_,ai⟩
 show Ending.returned (.bool ((decide (a.k=3)) || (decide (a.k=4))))=Ending.returned (.bool (infB a.k))
 first|rfl|(simp only [infB,bsm] <;> rfl)|(exfalso; omega)
theorem isNought_c (a:Nm) (w:World):Calls prog 147 #[nv a] w (IsRet (.bool (noughtB a)) w):=by
 refine enter_abs func147 rfl fun a0 ab al hp=>?_
 have ab:a0.tmps.size=16:=ab
 have ac:New w w:=Upd.refl _ _
 have hp0:a0.eval (.tmp 0)=nv a:=hp 0 _ rfl
 refine wk fun K1 am=>?_
 refine wB tr2 [] [] 16 [IsNew w 23 [iv a.k,iv a.n],vF] [0] ab ?_ heN ?_
 exact .X hp0<| .c .nil
 refine aftI ab al ac fun a2 w3 ad an ae av ao=>?_
 obtain⟨q9,h8,af,aa⟩:=ao.G 0 1
 have aq:=Nat.le_trans ac.size af
 refine am _ _ <| wk fun aw ag=>?_
 refine wA tr14 [] 16 [ve (pv q9),ve (iv a.k),ve (.bool (decide (a.k=1))),ve (.bool (decide (a.k=1))),ve (gq (!(decide (a.k=1))) (pv q9)),ve (gq (!(decide (a.k=1))) (iv a.k)),ve (gq (!(decide (a.k=1))) (.bool (decide (a.k=0)))),ve (gq (!(decide (a.k=1))) (.bool (decide (a.k=0)))),ve (gq ((!(decide (a.k=1))) && (decide (a.k=0))) (.pointer (some ⟨q9,1,none⟩))),ve (gq ((!(decide (a.k=1))) && (decide (a.k=0))) (iv a.n)),ve (gq ((!(decide (a.k=1))) && (decide (a.k=0))) (.bool (decide (a.n=0)))),ve (gq (!(decide (a.k=1))) (.bool ((decide (a.k=0)) && (decide (a.n=0))))),ve (.bool ((decide (a.k=1)) || ((decide (a.k=0)) && (decide (a.n=0))))),ve (.bool ((decide (a.k=1)) || ((decide (a.k=0)) && (decide (a.n=0)))))] ad ?_ ?_
 exact .F h8<| .J 0 isAgg3 aa<| .b 1 (r_eql rfl)<| .N 2<| .Q (fun k=>g0' (k.eq1 3 6 rfl)) (fun hG p k=>v_field rfl (k.fx 1 h8) (fun w=>rfl))<| .Q (fun k=>g0' (k.eq1 3 6 rfl)) (fun hG p k=>v_load rfl (cT hG (k.eq1 4 7 rfl)) (l_one isAgg3 ((aa.new_ p).cell 0)))<| .Q (fun k=>g0' (k.eq1 3 6 rfl)) (fun hG p k=>v_bin rfl (cT hG (k.eq1 5 8 rfl)) rfl (fun _=>rfl) (r_eql rfl))<| .Q (fun k=>g0' (k.eq1 3 6 rfl)) (fun hG p k=>v_move rfl (cT hG (k.eq1 6 9 rfl)))<| .Q (fun k=>g1 (k.eq1 7 10 rfl)) (fun hG p k=>v_field rfl (k.fx 1 h8) (fun w=>rfl))<| .Q (fun k=>g1 (k.eq1 7 10 rfl)) (fun hG p k=>v_load rfl (cT hG (k.eq1 8 11 rfl)) (l_one isAgg3 ((aa.new_ p).cell 1)))<| .Q (fun k=>g1 (k.eq1 7 10 rfl)) (fun hG p k=>v_bin rfl (cT hG (k.eq1 9 12 rfl)) rfl (fun _=>rfl) (r_eql rfl))<| .Q (fun k=>g0' (k.eq1 3 6 rfl)) (fun hG p k=>v_and rfl (cT hG (k.eq1 7 10 rfl)) (fun hg=>(cT (aj hG hg) (k.eq1 10 13 rfl))) rfl)<| .W 3 11<| .B 12 .nil
 refine aftI ad an ae fun ax ay ar ah ai au ak=>?_
 have ap:=ak.g 13 2
 refine ag _ _ ?_
 refine wp_ret (ret_k ah (v:=.bool ((decide (a.k=1)) || ((decide (a.k=0)) && (decide (a.n=0))))) (res_t rfl ap _) ?_)
 refine ⟨?_,ai⟩
 show Ending.returned (.bool ((decide (a.k=1)) || ((decide (a.k=0)) && (decide (a.n=0)))))=Ending.returned (.bool (noughtB a))
 first|rfl|(simp only [noughtB,bsm] <;> rfl)|(exfalso; omega)
theorem below_c (a:Nm) (w:World):Calls prog 146 #[nv a] w (IsRet (.bool (belowB a)) w):=by
 refine enter_abs func146 rfl fun a0 ab al hp=>?_
 have ab:a0.tmps.size=21:=ab
 have ac:New w w:=Upd.refl _ _
 have hp0:a0.eval (.tmp 0)=nv a:=hp 0 _ rfl
 refine wk fun K1 am=>?_
 refine wB tr2 [] [] 21 [IsNew w 23 [iv a.k,iv a.n],vF] [0] ab ?_ heN ?_
 exact .X hp0<| .c .nil
 refine aftI ab al ac fun a2 w3 ad an ae av ao=>?_
 obtain⟨q9,h8,af,aa⟩:=ao.G 0 1
 have aq:=Nat.le_trans ac.size af
 refine am _ _ <| wk fun aw ag=>?_
 refine wA tr19 [] 21 [ve (pv q9),ve (iv a.k),ve (.bool (decide (a.k=1))),ve (.bool (decide (a.k=1))),ve (gq (!(decide (a.k=1))) (pv q9)),ve (gq (!(decide (a.k=1))) (iv a.k)),ve (gq (!(decide (a.k=1))) (.bool (decide (a.k=4)))),ve (.bool ((decide (a.k=1)) || (decide (a.k=4)))),ve (.bool ((decide (a.k=1)) || (decide (a.k=4)))),ve (gq (!((decide (a.k=1)) || (decide (a.k=4)))) (pv q9)),ve (gq (!((decide (a.k=1)) || (decide (a.k=4)))) (iv a.k)),ve (gq (!((decide (a.k=1)) || (decide (a.k=4)))) (.bool (decide (a.k=0)))),ve (gq (!((decide (a.k=1)) || (decide (a.k=4)))) (.bool (decide (a.k=0)))),ve (gq ((!((decide (a.k=1)) || (decide (a.k=4)))) && (decide (a.k=0))) (.pointer (some ⟨q9,1,none⟩))),ve (gq ((!((decide (a.k=1)) || (decide (a.k=4)))) && (decide (a.k=0))) (iv a.n)),ve (gq ((!((decide (a.k=1)) || (decide (a.k=4)))) && (decide (a.k=0))) (.bool (decide (a.n < 0)))),ve (gq (!((decide (a.k=1)) || (decide (a.k=4)))) (.bool ((decide (a.k=0)) && (decide (a.n < 0))))),ve (.bool (((decide (a.k=1)) || (decide (a.k=4))) || ((decide (a.k=0)) && (decide (a.n < 0))))),ve (.bool (((decide (a.k=1)) || (decide (a.k=4))) || ((decide (a.k=0)) && (decide (a.n < 0)))))] ad ?_ ?_
 exact .F h8<| .J 0 isAgg3 aa<| .b 1 (r_eql rfl)<| .N 2<| .Q (fun k=>g0' (k.eq1 3 6 rfl)) (fun hG p k=>v_field rfl (k.fx 1 h8) (fun w=>rfl))<| .Q (fun k=>g0' (k.eq1 3 6 rfl)) (fun hG p k=>v_load rfl (cT hG (k.eq1 4 7 rfl)) (l_one isAgg3 ((aa.new_ p).cell 0)))<| .Q (fun k=>g0' (k.eq1 3 6 rfl)) (fun hG p k=>v_bin rfl (cT hG (k.eq1 5 8 rfl)) rfl (fun _=>rfl) (r_eql rfl))<| .W 3 6<| .N 7<| .Q (fun k=>g0' (k.eq1 8 11 rfl)) (fun hG p k=>v_field rfl (k.fx 1 h8) (fun w=>rfl))<| .Q (fun k=>g0' (k.eq1 8 11 rfl)) (fun hG p k=>v_load rfl (cT hG (k.eq1 9 12 rfl)) (l_one isAgg3 ((aa.new_ p).cell 0)))<| .Q (fun k=>g0' (k.eq1 8 11 rfl)) (fun hG p k=>v_bin rfl (cT hG (k.eq1 10 13 rfl)) rfl (fun _=>rfl) (r_eql rfl))<| .Q (fun k=>g0' (k.eq1 8 11 rfl)) (fun hG p k=>v_move rfl (cT hG (k.eq1 11 14 rfl)))<| .Q (fun k=>g1 (k.eq1 12 15 rfl)) (fun hG p k=>v_field rfl (k.fx 1 h8) (fun w=>rfl))<| .Q (fun k=>g1 (k.eq1 12 15 rfl)) (fun hG p k=>v_load rfl (cT hG (k.eq1 13 16 rfl)) (l_one isAgg3 ((aa.new_ p).cell 1)))<| .Q (fun k=>g1 (k.eq1 12 15 rfl)) (fun hG p k=>v_bin rfl (cT hG (k.eq1 14 17 rfl)) rfl (fun _=>rfl) (r_lssK rfl))<| .Q (fun k=>g0' (k.eq1 8 11 rfl)) (fun hG p k=>v_and rfl (cT hG (k.eq1 12 15 rfl)) (fun hg=>(cT (aj hG hg) (k.eq1 15 18 rfl))) rfl)<| .W 8 16<| .B 17 .nil
 refine aftI ad an ae fun ax ay ar ah ai au ak=>?_
 have ap:=ak.g 18 2
 refine ag _ _ ?_
 refine wp_ret (ret_k ah (v:=.bool (((decide (a.k=1)) || (decide (a.k=4))) || ((decide (a.k=0)) && (decide (a.n < 0))))) (res_t rfl ap _) ?_)
 refine ⟨?_,ai⟩
 show Ending.returned (.bool (((decide (a.k=1)) || (decide (a.k=4))) || ((decide (a.k=0)) && (decide (a.n < 0)))))=Ending.returned (.bool (belowB a))
 first|rfl|(simp only [belowB,bsm] <;> rfl)|(exfalso; omega)
theorem nof_c (n:Int) (w:World):Calls prog 124 #[iv n] w (IsRet (.tuple #[nv ((ofM n).1),.bool ((ofM n).2)]) w):=by
 refine enter_abs func124 rfl fun a0 ai a9 hp=>?_
 have ai:a0.tmps.size=13:=ai
 have au:New w w:=Upd.refl _ _
 have hp0:a0.eval (.tmp 0)=iv n:=hp 0 _ rfl
 refine wk fun K1 ba=>?_
 refine wB tr2 [] [] 13 [IsNew w 23 [iv 0,iv 0],vF] [0] ai ?_ heN ?_
 exact .Y<| .c .nil
 refine aftI ai a9 au fun a2 w3 av bb aF br aw=>?_
 have h8:=aw.f1 hp0
 obtain⟨bs,h9,aG,aH⟩:=aw.G 0 2
 have bm:=Nat.le_trans au.size aG
 refine ba _ _ <| wk fun bt aI=>?_
 refine wk fun bu aJ=>?_
 refine wA tr6 [] 13 [ve (iv n),ve (.bool (decide (n < -9007199254740991))),ve (.bool (decide (n < -9007199254740991))),ve (gq (!(decide (n < -9007199254740991))) (iv n)),ve (gq (!(decide (n < -9007199254740991))) (.bool (!decide (n≤9007199254740991)))),ve (.bool ((decide (n < -9007199254740991)) || (!decide (n≤9007199254740991))))] av ?_ ?_
 exact .M h8<| .b 0 (r_lssK rfl)<| .N 1<| .Q (fun k=>g0' (k.eq1 2 6 rfl)) (fun hG p k=>v_move rfl (k.fx 0 h8))<| .Q (fun k=>g0' (k.eq1 2 6 rfl)) (fun hG p k=>v_bin rfl (cT hG (k.eq1 3 7 rfl)) rfl (fun _=>rfl) (r_gtrK rfl))<| .W 2 4 .nil
 refine aftI av bb aF fun bv bw ad aj ak aK ae=>?_
 have⟨bd,ax⟩:=ae.f2 h8 h9
 have ay:=ae.g 5 9
 have al:=aH.new_ aK
 refine aJ _ _ ?_
 rcases bc (((decide (n < -9007199254740991)) || (!decide (n≤9007199254740991)))) with aa|aa
 have aL:=hB ay aa
 refine wt aL<| wk fun bx aM=>?_
 refine wA [true,false,false] [(1,false),(2,true)] 13 [ve (nv (Nm.mk 2 0)),vt,vt] ad ?_ ?_
 exact .o1 (ck rfl rfl rfl (fun _ w hn k=>⟨#[],rfl,fun _=>by kernel_rfl,nan_c  _ ⟩) fun _=>rfl)<| .off<| .off .nil
 refine aftI ad aj ak fun az bz am aN aO aP an=>?_
 have aA:=an.f1 ax
 have aB:=an.g 0 10
 have aQ:=al.new_ aP
 refine sS2 aA aB aQ fun bA aR aS bn=>?_
 have aU:=aO.tR aS
 refine sP (v:=.bool false) rfl am aN fun be bo aV ab bg=>?_
 have⟨bf,bC⟩:=ab.q2 aA aB
 refine aM _ _ ?_
 refine wp_ret (ret_k aV (v:=.tuple #[nv (Nm.mk 2 0),.bool false]) (res_ct rfl bf bg (l_two isAgg23 sizeOf23 aR)) ?_)
 refine ⟨?_,aU⟩
 show Ending.returned (.tuple #[nv (Nm.mk 2 0),.bool false])=Ending.returned (.tuple #[nv ((ofM n).1),.bool ((ofM n).2)])
 first|rfl|(simp only [ofM,aa,bsm] <;> rfl)|(exfalso; omega)
 have aW:=hB ay aa
 have af:(decide (n < -9007199254740991))=false:=ol aa
 have bk:=oF af
 have ag:(!decide (n≤9007199254740991))=false:=or_ aa
 have ah:(decide (n≤9007199254740991))=true:=nT ag
 have bl:=oT ah
 refine wf aW<| ws ?_
 refine aI _ _ ?_
 refine wk fun bD aX=>?_
 refine wA [true,true,false,false] [(2,false),(3,true)] 13 [ve (iv n),ve (nv (Nm.mk 0 n)),vt,vt] ad ?_ ?_
 exact .M bd<| .C 0 (fun p=>whole_c n _)<| .off<| .off .nil
 refine aftI ad aj ak fun aC bE ao aY aZ a1 ap=>?_
 have aD:=ap.f1 ax
 have aE:=ap.g 1 12
 have a3:=al.new_ a1
 refine sS2 aD aE a3 fun bF a4 a5 bp=>?_
 have a7:=aZ.tR a5
 refine sP (v:=.bool true) rfl ao aY fun bh bq a8 ac bj=>?_
 have⟨bi,bH⟩:=ac.q2 aD aE
 refine aX _ _ ?_
 refine wp_ret (ret_k a8 (v:=.tuple #[nv (Nm.mk 0 n),.bool true]) (res_ct rfl bi bj (l_two isAgg23 sizeOf23 a4)) ?_)
 refine ⟨?_,a7⟩
 show Ending.returned (.tuple #[nv (Nm.mk 0 n),.bool true])=Ending.returned (.tuple #[nv ((ofM n).1),.bool ((ofM n).2)])
 first|rfl|(simp only [ofM,aa,af,af,ag,ag,ah,ah,bsm] <;> rfl)|(exfalso; omega)
theorem nadd_c (a:Nm) (b:Nm) (w:World):Calls prog 66 #[nv a,nv b] w (IsRet (.tuple #[nv ((addM a b).1),.bool ((addM a b).2)]) w):=by
 refine enter_abs func66 rfl fun a0 aP dQ hp=>?_
 have aP:a0.tmps.size=59:=aP
 have aQ:New w w:=Upd.refl _ _
 have hp0:a0.eval (.tmp 0)=nv a:=hp 0 _ rfl
 have hp1:a0.eval (.tmp 1)=nv b:=hp 1 _ rfl
 refine wk fun K1 dR=>?_
 refine wB tr4 [] [] 59 [IsNew w 23 [iv a.k,iv a.n],IsNew w 23 [iv b.k,iv b.n],IsNew w 23 [iv 0,iv 0],vF] [0,1,2] aP ?_ heN ?_
 exact .X hp0<| .X hp1<| .Y<| .c .nil
 refine aftI aP dQ aQ fun a2 w3 cR dS c0 eK az=>?_
 obtain⟨q9,h8,c1,bh⟩:=az.G 0 2
 obtain⟨aJ,aR,c2,bi⟩:=az.G 1 3
 obtain⟨cS,bj,c3,c4⟩:=az.G 2 4
 have hne20:=az.ne 0 1 2 3 h8 aR
 have hne21:=az.ne 0 2 2 4 h8 bj
 have hne22:=az.ne 1 2 3 4 aR bj
 have ea:=Nat.le_trans aQ.size c1
 have eb:=Nat.le_trans aQ.size c2
 have ec:=Nat.le_trans aQ.size c3
 refine dR _ _ <| wk fun eL c5=>?_
 refine wA [true,true,true,true,false,false] [(4,false),(5,false)] 59 [ve (nv a),ve (nv (asM a)),ve (nv b),ve (nv (asM b)),vt,vt] cR ?_ ?_
 exact .L2 h8 bh<| .C 0 (fun p=>as_c a _)<| .L2 aR bi<| .C 2 (fun p=>as_c b _)<| .off<| .off .nil
 refine aftI cR dS c0 fun eM eN bk c6 c8 aM ay=>?_
 have⟨aK,aL,dT⟩:=ay.f3 h8 aR bj
 have dU:=ay.g 1 7
 have dV:=ay.g 3 9
 have⟨c9,da,db⟩:=nw3 aM bh bi c4
 have hbd_a:=as_bd a
 have hbd_b:=as_bd b
 refine sS2 aK dU c9 fun eO dc dd bl=>?_
 have df:=bl hne20.symm da
 have dg:=bl hne21.symm db
 have dh:=c8.tR dd
 refine sS2 aL dV df fun eQ aA di bm=>?_
 have aB:=bm hne20 dc
 have dk:=bm hne22.symm dg
 have dl:=dh.tR di
 refine c5 _ _ <| wk fun eS dm=>?_
 refine wb<| wk fun eT dn=>?_
 refine wA tr22 [] 59 [ve (nv (asM a)),ve (.bool (decide ((asM a).k=2))),ve (.bool (decide ((asM a).k=2))),ve (gq (!(decide ((asM a).k=2))) (nv (asM b))),ve (gq (!(decide ((asM a).k=2))) (.bool (decide ((asM b).k=2)))),ve (.bool ((decide ((asM a).k=2)) || (decide ((asM b).k=2)))),ve (.bool ((decide ((asM a).k=2)) || (decide ((asM b).k=2)))),ve (gq (!((decide ((asM a).k=2)) || (decide ((asM b).k=2)))) (nv (asM a))),ve (gq (!((decide ((asM a).k=2)) || (decide ((asM b).k=2)))) (.bool (infB (asM a).k))),ve (gq (!((decide ((asM a).k=2)) || (decide ((asM b).k=2)))) (.bool (infB (asM a).k))),ve (gq ((!((decide ((asM a).k=2)) || (decide ((asM b).k=2)))) && (infB (asM a).k)) (nv (asM b))),ve (gq ((!((decide ((asM a).k=2)) || (decide ((asM b).k=2)))) && (infB (asM a).k)) (.bool (infB (asM b).k))),ve (gq (!((decide ((asM a).k=2)) || (decide ((asM b).k=2)))) (.bool ((infB (asM a).k) && (infB (asM b).k)))),ve (gq (!((decide ((asM a).k=2)) || (decide ((asM b).k=2)))) (.bool ((infB (asM a).k) && (infB (asM b).k)))),ve (gq ((!((decide ((asM a).k=2)) || (decide ((asM b).k=2)))) && ((infB (asM a).k) && (infB (asM b).k))) (pv q9)),ve (gq ((!((decide ((asM a).k=2)) || (decide ((asM b).k=2)))) && ((infB (asM a).k) && (infB (asM b).k))) (iv ((asM a).k))),ve (gq ((!((decide ((asM a).k=2)) || (decide ((asM b).k=2)))) && ((infB (asM a).k) && (infB (asM b).k))) (pv aJ)),ve (gq ((!((decide ((asM a).k=2)) || (decide ((asM b).k=2)))) && ((infB (asM a).k) && (infB (asM b).k))) (iv ((asM b).k))),ve (gq ((!((decide ((asM a).k=2)) || (decide ((asM b).k=2)))) && ((infB (asM a).k) && (infB (asM b).k))) (.bool (!decide (((asM a).k)=((asM b).k))))),ve (gq (!((decide ((asM a).k=2)) || (decide ((asM b).k=2)))) (.bool (((infB (asM a).k) && (infB (asM b).k)) && (!decide (((asM a).k)=((asM b).k)))))),ve (.bool (((decide ((asM a).k=2)) || (decide ((asM b).k=2))) || (((infB (asM a).k) && (infB (asM b).k)) && (!decide (((asM a).k)=((asM b).k)))))),ve (.bool (((decide ((asM a).k=2)) || (decide ((asM b).k=2))) || (((infB (asM a).k) && (infB (asM b).k)) && (!decide (((asM a).k)=((asM b).k))))))] bk ?_ ?_
 exact .L2 aK aB<| .C 0 (fun p=>isNaN_c (asM a) _)<| .N 1<| .Q (fun k=>g0' (k.eq1 2 13 rfl)) (fun hG p k=>v_load rfl (k.fx 3 aL) (l_two isAgg23 sizeOf23 (aA.new_ p)))<| .o1 (scC (G:=(!(decide ((asM a).k=2)))) rfl rfl rfl (fun _ _ k=>g0' (k.eq1 2 13 rfl)) rfl (fun hG _ w hn k=>⟨#[nv (asM b)],args1 (cT hG (k.eq1 3 14 rfl)),fun _=>by kernel_rfl,isNaN_c (asM b) _ ⟩))<| .W 2 4<| .N 5<| .Q (fun k=>g0' (k.eq1 6 17 rfl)) (fun hG p k=>v_load rfl (k.fx 2 aK) (l_two isAgg23 sizeOf23 (aB.new_ p)))<| .o1 (scC (G:=(!((decide ((asM a).k=2)) || (decide ((asM b).k=2))))) rfl rfl rfl (fun _ _ k=>g0' (k.eq1 6 17 rfl)) rfl (fun hG _ w hn k=>⟨#[nv (asM a)],args1 (cT hG (k.eq1 7 18 rfl)),fun _=>by kernel_rfl,isInf_c (asM a) _ ⟩))<| .Q (fun k=>g0' (k.eq1 6 17 rfl)) (fun hG p k=>v_move rfl (cT hG (k.eq1 8 19 rfl)))<| .Q (fun k=>g1 (k.eq1 9 20 rfl)) (fun hG p k=>v_load rfl (k.fx 3 aL) (l_two isAgg23 sizeOf23 (aA.new_ p)))<| .o1 (scC (G:=((!((decide ((asM a).k=2)) || (decide ((asM b).k=2)))) && (infB (asM a).k))) rfl rfl rfl (fun _ _ k=>g1 (k.eq1 9 20 rfl)) rfl (fun hG _ w hn k=>⟨#[nv (asM b)],args1 (cT hG (k.eq1 10 21 rfl)),fun _=>by kernel_rfl,isInf_c (asM b) _ ⟩))<| .Q (fun k=>g0' (k.eq1 6 17 rfl)) (fun hG p k=>v_and rfl (cT hG (k.eq1 9 20 rfl)) (fun hg=>(cT (aj hG hg) (k.eq1 11 22 rfl))) rfl)<| .Q (fun k=>g0' (k.eq1 6 17 rfl)) (fun hG p k=>v_move rfl (cT hG (k.eq1 12 23 rfl)))<| .Q (fun k=>g1 (k.eq1 13 24 rfl)) (fun hG p k=>v_field rfl (k.fx 2 aK) (fun w=>rfl))<| .Q (fun k=>g1 (k.eq1 13 24 rfl)) (fun hG p k=>v_load rfl (cT hG (k.eq1 14 25 rfl)) (l_one isAgg3 ((aB.new_ p).cell 0)))<| .Q (fun k=>g1 (k.eq1 13 24 rfl)) (fun hG p k=>v_field rfl (k.fx 3 aL) (fun w=>rfl))<| .Q (fun k=>g1 (k.eq1 13 24 rfl)) (fun hG p k=>v_load rfl (cT hG (k.eq1 16 27 rfl)) (l_one isAgg3 ((aA.new_ p).cell 0)))<| .Q (fun k=>g1 (k.eq1 13 24 rfl)) (fun hG p k=>v_bin rfl (cT hG (k.eq1 15 26 rfl)) (cT hG (k.eq1 17 28 rfl)) (fun _=>rfl) (r_neq rfl))<| .Q (fun k=>g0' (k.eq1 6 17 rfl)) (fun hG p k=>v_and rfl (cT hG (k.eq1 13 24 rfl)) (fun hg=>(cT (aj hG hg) (k.eq1 18 29 rfl))) rfl)<| .W 6 19<| .B 20 .nil
 refine aftI bk c6 dl fun eU eV aC bn bo aN aD=>?_
 have⟨cU,dW,cV⟩:=aD.f3 aK aL dT
 have cW:=aD.g 21 10
 have⟨bp,dp,bq⟩:=nw3 aN aB aA dk
 refine dn _ _ ?_
 rcases bc ((((decide ((asM a).k=2)) || (decide ((asM b).k=2))) || (((infB (asM a).k) && (infB (asM b).k)) && (!decide (((asM a).k)=((asM b).k)))))) with aa|aa
 have dq:=hB cW aa
 refine wt dq<| wk fun eW dr=>?_
 refine wA [true,false,false] [(1,false),(2,true)] 59 [ve (nv (Nm.mk 2 0)),vt,vt] aC ?_ ?_
 exact .o1 (ck rfl rfl rfl (fun _ w hn k=>⟨#[],rfl,fun _=>by kernel_rfl,nan_c  _ ⟩) fun _=>rfl)<| .off<| .off .nil
 refine aftI aC bn bo fun cX eX br ds dt du bs=>?_
 have cY:=bs.f1 cV
 have cZ:=bs.g 0 32
 have dv:=bq.new_ du
 refine sS2 cY cZ dv fun eY dw dx ed=>?_
 have dz:=dt.tR dx
 refine sP (v:=.bool true) rfl br ds fun dA d1 bY ag dC=>?_
 have⟨dB,ee⟩:=ag.q2 cY cZ
 refine dr _ _ ?_
 refine wp_ret (ret_k bY (v:=.tuple #[nv (Nm.mk 2 0),.bool true]) (res_ct rfl dB dC (l_two isAgg23 sizeOf23 dw)) ?_)
 refine ⟨?_,dz⟩
 show Ending.returned (.tuple #[nv (Nm.mk 2 0),.bool true])=Ending.returned (.tuple #[nv ((addM a b).1),.bool ((addM a b).2)])
 first|rfl|(simp only [addM,addA,aa,bsm] <;> first|rfl|(simp only [addM,addA,aa,bsm] <;> rfl))|(exfalso; omega)
 have bZ:=hB cW aa
 have ab:((decide ((asM a).k=2)) || (decide ((asM b).k=2)))=false:=ol aa
 have an:(decide ((asM a).k=2))=false:=ol ab
 have dX:=oF an
 have ao:(decide ((asM b).k=2))=false:=or_ ab
 have dY:=oF ao
 have ad:(((infB (asM a).k) && (infB (asM b).k)) && (!decide (((asM a).k)=((asM b).k))))=false:=or_ aa
 refine wf bZ<| wk fun ef b0=>?_
 refine wA tr3 [] 59 [ve (nv (asM a)),ve (.bool (infB (asM a).k)),ve (.bool (infB (asM a).k))] aC ?_ ?_
 exact .L2 cU bp<| .C 0 (fun p=>isInf_c (asM a) _)<| .B 1 .nil
 refine aftI aC bn bo fun eg eh ap aS aT aE aq=>?_
 have⟨bt,bu,bv⟩:=aq.f3 cU dW cV
 have bw:=aq.g 2 33
 have⟨aU,aV,aW⟩:=nw3 aE bp dp bq
 refine b0 _ _ ?_
 rcases bc (infB (asM a).k) with ae|ae
 have b1:=hB bw ae
 refine wt b1<| wk fun ei b2=>?_
 refine wA [true,false,false] [(1,false),(2,true)] 59 [ve (nv (asM a)),vt,vt] ap ?_ ?_
 exact .L2 bt aU<| .off<| .off .nil
 refine aftI ap aS aT fun bx ej aX b3 b4 b5 aY=>?_
 have bz:=aY.f1 bv
 have bA:=aY.g 0 36
 have b6:=aW.new_ b5
 refine sS2 bz bA b6 fun ek b7 b8 d2=>?_
 have ca:=b4.tR b8
 refine sP (v:=.bool true) rfl aX b3 fun dD d3 cb ah dF=>?_
 have⟨dE,em⟩:=ah.q2 bz bA
 refine b2 _ _ ?_
 refine wp_ret (ret_k cb (v:=.tuple #[nv (asM a),.bool true]) (res_ct rfl dE dF (l_two isAgg23 sizeOf23 b7)) ?_)
 refine ⟨?_,ca⟩
 show Ending.returned (.tuple #[nv (asM a),.bool true])=Ending.returned (.tuple #[nv ((addM a b).1),.bool ((addM a b).2)])
 first|rfl|(simp only [addM,addA,aa,ab,ad,bsm] <;> first|rfl|(simp only [addM,addA,aa,ab,an,ao,ad,ae,bsm] <;> rfl))|(exfalso; omega)
 have cc:=hB bw ae
 refine wf cc<| wk fun en cd=>?_
 refine wA tr3 [] 59 [ve (nv (asM b)),ve (.bool (infB (asM b).k)),ve (.bool (infB (asM b).k))] ap ?_ ?_
 exact .L2 bu aV<| .C 0 (fun p=>isInf_c (asM b) _)<| .B 1 .nil
 refine aftI ap aS aT fun eo ep au aZ a1 aF av=>?_
 have⟨bC,aO,bD⟩:=av.f3 bt bu bv
 have bE:=av.g 2 37
 have⟨a3,aG,a4⟩:=nw3 aF aU aV aW
 refine cd _ _ ?_
 rcases bc (infB (asM b).k) with ai|ai
 have ce:=hB bE ai
 refine wt ce<| wk fun er cf=>?_
 refine wA [true,false,false] [(1,false),(2,true)] 59 [ve (nv (asM b)),vt,vt] au ?_ ?_
 exact .L2 aO aG<| .off<| .off .nil
 refine aftI au aZ a1 fun bF es a5 ch ci cj a6=>?_
 have bG:=a6.f1 bD
 have bH:=a6.g 0 40
 have cl:=a4.new_ cj
 refine sS2 bG bH cl fun et cm cn d4=>?_
 have cp:=ci.tR cn
 refine sP (v:=.bool true) rfl a5 ch fun dG d5 cq ak dI=>?_
 have⟨dH,ev⟩:=ak.q2 bG bH
 refine cf _ _ ?_
 refine wp_ret (ret_k cq (v:=.tuple #[nv (asM b),.bool true]) (res_ct rfl dH dI (l_two isAgg23 sizeOf23 cm)) ?_)
 refine ⟨?_,cp⟩
 show Ending.returned (.tuple #[nv (asM b),.bool true])=Ending.returned (.tuple #[nv ((addM a b).1),.bool ((addM a b).2)])
 first|rfl|(simp only [addM,addA,aa,ab,ad,bsm] <;> first|rfl|(simp only [addM,addA,aa,ab,an,ao,ad,ae,ai,bsm] <;> rfl))|(exfalso; omega)
 have cr:=hB bE ai
 refine wf cr<| wk fun ew ct=>?_
 refine wA tr9 [] 59 [ve (pv q9),ve (iv ((asM a).k)),ve (.bool (decide (((asM a).k)=1))),ve (.bool (decide (((asM a).k)=1))),ve (gq (decide (((asM a).k)=1)) (pv aJ)),ve (gq (decide (((asM a).k)=1)) (iv ((asM b).k))),ve (gq (decide (((asM a).k)=1)) (.bool (decide (((asM b).k)=1)))),ve (.bool ((decide (((asM a).k)=1)) && (decide (((asM b).k)=1)))),ve (.bool ((decide (((asM a).k)=1)) && (decide (((asM b).k)=1))))] au ?_ ?_
 exact .F bC<| .J 0 isAgg3 a3<| .b 1 (r_eql rfl)<| .N 2<| .Q (fun k=>g0 (k.eq1 3 45 rfl)) (fun hG p k=>v_field rfl (k.fx 3 aO) (fun w=>rfl))<| .Q (fun k=>g0 (k.eq1 3 45 rfl)) (fun hG p k=>v_load rfl (cT hG (k.eq1 4 46 rfl)) (l_one isAgg3 ((aG.new_ p).cell 0)))<| .Q (fun k=>g0 (k.eq1 3 45 rfl)) (fun hG p k=>v_bin rfl (cT hG (k.eq1 5 47 rfl)) rfl (fun _=>rfl) (r_eql rfl))<| .O 3 6<| .B 7 .nil
 refine aftI au aZ a1 fun ex ey aw a7 a8 aH ax=>?_
 have⟨bJ,dJ,bK⟩:=ax.f3 bC aO bD
 have bL:=ax.g 8 41
 have⟨a9,cu,ba⟩:=nw3 aH a3 aG a4
 refine ct _ _ ?_
 rcases bc (((decide (((asM a).k)=1)) && (decide (((asM b).k)=1)))) with ac|ac
 have cv:=hB bL ac
 have bb:(decide (((asM a).k)=1))=true:=al ac
 have dZ:=oT bb
 have bd:(decide (((asM b).k)=1))=true:=ar ac
 have d0:=oT bd
 refine wt cv<| wk fun ez cw=>?_
 refine wA [true,false,false] [(1,false),(2,true)] 59 [ve (nv (asM a)),vt,vt] aw ?_ ?_
 exact .L2 bJ a9<| .off<| .off .nil
 refine aftI aw a7 a8 fun bM eA be cx cy cz bf=>?_
 have bN:=bf.f1 bK
 have bO:=bf.g 0 50
 have cA:=ba.new_ cz
 refine sS2 bN bO cA fun eB cB cC d6=>?_
 have cE:=cy.tR cC
 refine sP (v:=.bool true) rfl be cx fun dK d7 cF am dM=>?_
 have⟨dL,eD⟩:=am.q2 bN bO
 refine cw _ _ ?_
 refine wp_ret (ret_k cF (v:=.tuple #[nv (asM a),.bool true]) (res_ct rfl dL dM (l_two isAgg23 sizeOf23 cB)) ?_)
 refine ⟨?_,cE⟩
 show Ending.returned (.tuple #[nv (asM a),.bool true])=Ending.returned (.tuple #[nv ((addM a b).1),.bool ((addM a b).2)])
 first|rfl|(simp only [addM,addA,aa,ab,ad,ac,bsm] <;> first|rfl|(simp only [addM,addA,aa,ab,an,ao,ad,ae,ai,ac,bb,bd,bsm] <;> rfl))|(exfalso; omega)
 have cG:=hB bL ac
 refine wf cG<| ws ?_
 refine dm _ _ ?_
 refine wk fun eE cH=>?_
 refine wA [true,true,true,true,true,true,true,true,false,false] [(8,false),(9,true)] 59 [ve (.pointer (some ⟨q9,1,none⟩)),ve (iv ((asM a).n)),ve (.pointer (some ⟨aJ,1,none⟩)),ve (iv ((asM b).n)),ve (iv (((asM a).n) + ((asM b).n))),ve (.tuple #[nv ((ofM (((asM a).n) + ((asM b).n))).1),.bool ((ofM (((asM a).n) + ((asM b).n))).2)]),ve (nv ((ofM (((asM a).n) + ((asM b).n))).1)),ve (.bool ((ofM (((asM a).n) + ((asM b).n))).2)),vt,vt] aw ?_ ?_
 exact .F bJ<| .J 0 isAgg3 a9<| .F dJ<| .J 2 isAgg3 cu<| .R (fun k=>v_bin rfl (k.eq1 1 52 rfl) (k.eq1 3 54 rfl) (fun _=>rfl) (r_add rfl (by omega))) (fun _=>rfl)<| .C 4 (fun p=>nof_c (((asM a).n) + ((asM b).n)) _)<| .E 5<| .E 5<| .off<| .off .nil
 refine aftI aw a7 a8 fun bQ eF bg cI cJ cK aI=>?_
 have bR:=aI.f1 bK
 have bS:=aI.g 6 57
 have bT:=aI.g 7 58
 have cL:=ba.new_ cK
 refine sS2 bR bS cL fun eG cM cN d8=>?_
 have cP:=cJ.tR cN
 refine sP bT bg cI fun dN d9 cQ af dP=>?_
 have⟨dO,eI,eJ⟩:=af.q3 bR bS bT
 refine cH _ _ ?_
 refine wp_ret (ret_k cQ (v:=.tuple #[nv ((ofM (((asM a).n) + ((asM b).n))).1),.bool ((ofM (((asM a).n) + ((asM b).n))).2)]) (res_ct rfl dO dP (l_two isAgg23 sizeOf23 cM)) ?_)
 refine ⟨?_,cP⟩
 show Ending.returned (.tuple #[nv ((ofM (((asM a).n) + ((asM b).n))).1),.bool ((ofM (((asM a).n) + ((asM b).n))).2)])=Ending.returned (.tuple #[nv ((addM a b).1),.bool ((addM a b).2)])
 first|rfl|(simp only [addM,addA,aa,ab,ad,ac,bsm] <;> first|rfl|(simp only [addM,addA,aa,ab,an,ao,ad,ae,ai,ac,bsm] <;> rfl))|(exfalso; omega)
theorem nsub_c (a:Nm) (b:Nm) (w:World):Calls prog 76 #[nv a,nv b] w (IsRet (.tuple #[nv ((addM a (negM b)).1),.bool ((addM a (negM b)).2)]) w):=by
 refine enter_abs func76 rfl fun a0 ad aI hp=>?_
 have ad:a0.tmps.size=12:=ad
 have ae:New w w:=Upd.refl _ _
 have hp0:a0.eval (.tmp 0)=nv a:=hp 0 _ rfl
 have hp1:a0.eval (.tmp 1)=nv b:=hp 1 _ rfl
 refine wk fun K1 aJ=>?_
 refine wB tr4 [] [] 12 [IsNew w 23 [iv a.k,iv a.n],IsNew w 23 [iv b.k,iv b.n],IsNew w 23 [iv 0,iv 0],vF] [0,1,2] ad ?_ heN ?_
 exact .X hp0<| .X hp1<| .Y<| .c .nil
 refine aftI ad aI ae fun a2 w3 ai aK ap aU ab=>?_
 obtain⟨q9,h8,aq,ar⟩:=ab.G 0 2
 obtain⟨aL,aj,au,av⟩:=ab.G 1 3
 obtain⟨ak,af,aw,ax⟩:=ab.G 2 4
 have hne20:=ab.ne 0 2 2 4 h8 af
 have hne21:=ab.ne 1 2 3 4 aj af
 have aP:=Nat.le_trans ae.size aq
 have aQ:=Nat.le_trans ae.size au
 have aR:=Nat.le_trans ae.size aw
 refine aJ _ _ <| wk fun aV ay=>?_
 refine wA [true,true,true,true,true,true,false,false] [(6,false),(7,true)] 12 [ve (nv a),ve (nv b),ve (nv (negM b)),ve (.tuple #[nv ((addM a (negM b)).1),.bool ((addM a (negM b)).2)]),ve (nv ((addM a (negM b)).1)),ve (.bool ((addM a (negM b)).2)),vt,vt] ai ?_ ?_
 exact .L2 h8 ar<| .L2 aj av<| .C 1 (fun m=>nneg_c b _)<| .C2 0 2 (fun m=>nadd_c a (negM b) _)<| .E 3<| .E 3<| .off<| .off .nil
 refine aftI ai aK ap fun al aW ag az aA aB ac=>?_
 have am:=ac.f1 af
 have an:=ac.g 4 10
 have ao:=ac.g 5 11
 have aC:=ax.new_ aB
 refine sS2 am an aC fun aX aD aE aS=>?_
 have aG:=aA.tR aE
 refine sP ao ag az fun aM aT aH aa aO=>?_
 have⟨aN,aZ,a1⟩:=aa.q3 am an ao
 refine ay _ _ ?_
 refine wp_ret (ret_k aH (v:=.tuple #[nv ((addM a (negM b)).1),.bool ((addM a (negM b)).2)]) (res_ct rfl aN aO (l_two isAgg23 sizeOf23 aD)) ?_)
 exact⟨rfl,aG⟩
theorem size_c (n:Int) (w:World) (h:-9007199254740991≤n∧n≤9007199254740991):Calls prog 149 #[iv n] w (IsRet (.int .u64 (sizeI n)) w):=by
 refine enter_abs func149 rfl fun a0 aa ag hp=>?_
 have aa:a0.tmps.size=8:=aa
 have ah:New w w:=Upd.refl _ _
 have hp0:a0.eval (.tmp 0)=iv n:=hp 0 _ rfl
 refine wk fun K1 ai=>?_
 refine wA tr1 [] 8 [ve (.int .u64 0)] aa ?_ ?_
 exact .c .nil
 refine aftI aa ag ah fun a2 w3 ab aj ak ap al=>?_
 have h8:=al.f1 hp0
 refine ai _ _ <| wk fun aq ac=>?_
 refine wA tr6 [] 8 [ve (iv n),ve (iv n),ve (iv (-n)),ve (iv (max n (-n))),ve (.int .u64 (max n (-n))),ve (.int .u64 (max n (-n)))] ab ?_ ?_
 exact .M h8<| .M h8<| .R (fun k=>v_neg rfl (k.eq1 1 4 rfl) (by omega)) (fun _=>rfl)<| .T (fun k=>v_max rfl (k.eq1 0 3 rfl) (k.eq1 2 5 rfl))<| .R (fun k=>v_conv rfl (k.eq1 3 6 rfl) (run_conv (by kernel_rfl) (by kernel_rfl) (by kernel_rfl) (IntWalk.u64_in _ (by omega)))) (fun _=>rfl)<| .B 4 .nil
 refine aftI ab aj ak fun ar au an ad ae ao af=>?_
 have am:=af.g 5 2
 refine ac _ _ ?_
 refine wp_ret (ret_k ad (v:=.int .u64 (max n (-n))) (res_t rfl am _) ?_)
 refine ⟨?_,ae⟩
 show Ending.returned (.int .u64 (max n (-n)))=Ending.returned (.int .u64 (sizeI n))
 first|rfl|(simp only [bsm] <;> rfl)|(simp []; done)|(exfalso; omega)
theorem signed_c (n:Int) (d:Bool) (w:World) (h:0≤n∧n≤9007199254740991):Calls prog 150 #[.int .u64 n,.bool d] w (IsRet (nv (signedM n d)) w):=by
 refine enter_abs func150 rfl fun a0 ad aV hp=>?_
 have ad:a0.tmps.size=13:=ad
 have am:New w w:=Upd.refl _ _
 have hp0:a0.eval (.tmp 0)=.int .u64 n:=hp 0 _ rfl
 have hp1:a0.eval (.tmp 1)=.bool d:=hp 1 _ rfl
 refine wk fun K1 aW=>?_
 refine wB tr1 [] [] 13 [IsNew w 23 [iv 0,iv 0]] [0] ad ?_ heN ?_
 exact .Y .nil
 refine aftI ad aV am fun a2 w3 an aX av a8 ae=>?_
 have⟨h8,h9⟩:=ae.f2 hp0 hp1
 obtain⟨a9,aY,aw,ax⟩:=ae.G 0 4
 have a3:=Nat.le_trans am.size aw
 refine aW _ _ <| wk fun ba ay=>?_
 refine wk fun bb az=>?_
 refine wA tr1 [] 13 [ve (.bool d)] an ?_ ?_
 exact .M h9 .nil
 refine aftI an aX av fun bd be ab af ag aA ac=>?_
 have⟨ao,ap⟩:=ac.f2 h8 aY
 have aq:=ac.g 0 5
 have ah:=ax.new_ aA
 refine az _ _ ?_
 rcases bc (d) with aa|aa
 have aB:=hB aq aa
 refine wt aB<| wk fun bf aC=>?_
 refine wA [true,true,true,true,false] [(4,false)] 13 [ve (.int .u64 n),ve (iv n),ve (iv (-n)),ve (nv (Nm.mk 0 (-n))),vt] ab ?_ ?_
 exact .M ao<| .R (fun k=>v_conv rfl (k.eq1 0 6 rfl) (run_conv (by kernel_rfl) (by kernel_rfl) (by kernel_rfl) (IntWalk.i64_in _ (by omega)))) (fun _=>rfl)<| .R (fun k=>v_neg rfl (k.eq1 1 7 rfl) (by omega)) (fun _=>rfl)<| .C 2 (fun p=>whole_c (-n) _)<| .off .nil
 refine aftI ab af ag fun bg bh a4 aD aE aF ai=>?_
 have ar:=ai.f1 ap
 have aZ:=ai.g 3 9
 have aG:=ah.new_ aF
 refine sS2 ar aZ aG fun bi aH aI a5=>?_
 have aK:=aE.tR aI
 refine aC _ _ ?_
 refine wp_ret (ret_k aD (v:=nv (Nm.mk 0 (-n))) (res_c rfl ar (l_two isAgg23 sizeOf23 aH)) ?_)
 refine ⟨?_,aK⟩
 show Ending.returned (nv (Nm.mk 0 (-n)))=Ending.returned (nv (signedM n d))
 first|rfl|(simp only [signedM,aa,bsm] <;> rfl)|(simp [signedM,aa]; done)|(exfalso; omega)
 have aL:=hB aq aa
 refine wf aL<| ws ?_
 refine ay _ _ ?_
 refine wk fun bk aM=>?_
 refine wA [true,true,true,false] [(3,false)] 13 [ve (.int .u64 n),ve (iv n),ve (nv (Nm.mk 0 n)),vt] ab ?_ ?_
 exact .M ao<| .R (fun k=>v_conv rfl (k.eq1 0 10 rfl) (run_conv (by kernel_rfl) (by kernel_rfl) (by kernel_rfl) (IntWalk.i64_in _ (by omega)))) (fun _=>rfl)<| .C 1 (fun p=>whole_c n _)<| .off .nil
 refine aftI ab af ag fun bl bm a6 aN aO aP aj=>?_
 have au:=aj.f1 ap
 have a1:=aj.g 2 12
 have aQ:=ah.new_ aP
 refine sS2 au a1 aQ fun bn aR aS a7=>?_
 have aU:=aO.tR aS
 refine aM _ _ ?_
 refine wp_ret (ret_k aN (v:=nv (Nm.mk 0 n)) (res_c rfl au (l_two isAgg23 sizeOf23 aR)) ?_)
 refine ⟨?_,aU⟩
 show Ending.returned (nv (Nm.mk 0 n))=Ending.returned (nv (signedM n d))
 first|rfl|(simp only [signedM,aa,bsm] <;> rfl)|(simp [signedM,aa]; done)|(exfalso; omega)
theorem nless_c (a:Nm) (b:Nm) (w:World):Calls prog 154 #[nv a,nv b] w (IsRet (.bool (lessM a b)) w):=by
 refine enter_abs func154 rfl fun a0 ab aO hp=>?_
 have ab:a0.tmps.size=24:=ab
 have ac:New w w:=Upd.refl _ _
 have hp0:a0.eval (.tmp 0)=nv a:=hp 0 _ rfl
 have hp1:a0.eval (.tmp 1)=nv b:=hp 1 _ rfl
 refine wk fun K1 aP=>?_
 refine wB tr3 [] [] 24 [IsNew w 23 [iv a.k,iv a.n],IsNew w 23 [iv b.k,iv b.n],vF] [0,1] ab ?_ heN ?_
 exact .X hp0<| .X hp1<| .c .nil
 refine aftI ab aO ac fun a2 w3 ap aQ aq aZ ad=>?_
 obtain⟨q9,h8,ar,ae⟩:=ad.G 0 2
 obtain⟨aR,af,au,ag⟩:=ad.G 1 3
 have hne16:=ad.ne 0 1 2 3 h8 af
 have aV:=Nat.le_trans ac.size ar
 have aW:=Nat.le_trans ac.size au
 refine aP _ _ <| wk fun a1 av=>?_
 refine wA [true,true,true,true,false,false] [(4,false),(5,false)] 24 [ve (nv a),ve (nv (asM a)),ve (nv b),ve (nv (asM b)),vt,vt] ap ?_ ?_
 exact .L2 h8 ae<| .C 0 (fun p=>as_c a _)<| .L2 af ag<| .C 2 (fun p=>as_c b _)<| .off<| .off .nil
 refine aftI ap aQ aq fun a3 a4 ah aw ax ai aa=>?_
 have⟨aj,ak⟩:=aa.f2 h8 af
 have aS:=aa.g 1 6
 have aT:=aa.g 3 8
 have⟨ay,az⟩:=nw2 ai ae ag
 have hbd_a:=as_bd a
 have hbd_b:=as_bd b
 refine sS2 aj aS ay fun a5 aA aB aC=>?_
 have aE:=aC hne16.symm az
 have aF:=ax.tR aB
 refine sS2 ak aT aE fun a7 al aG aH=>?_
 have am:=aH hne16 aA
 have aJ:=aF.tR aG
 refine av _ _ <| wk fun a9 aK=>?_
 refine wA tr16 [] 24 [ve (nv (asM a)),ve (.bool (decide ((asM a).k=2))),ve (.bool (!(decide ((asM a).k=2)))),ve (.bool (!(decide ((asM a).k=2)))),ve (gq (!(decide ((asM a).k=2))) (nv (asM b))),ve (gq (!(decide ((asM a).k=2))) (.bool (decide ((asM b).k=2)))),ve (gq (!(decide ((asM a).k=2))) (.bool (!(decide ((asM b).k=2))))),ve (.bool ((!(decide ((asM a).k=2))) && (!(decide ((asM b).k=2))))),ve (.bool ((!(decide ((asM a).k=2))) && (!(decide ((asM b).k=2))))),ve (gq ((!(decide ((asM a).k=2))) && (!(decide ((asM b).k=2)))) (nv (asM a))),ve (gq ((!(decide ((asM a).k=2))) && (!(decide ((asM b).k=2)))) (iv (rankM (asM a)))),ve (gq ((!(decide ((asM a).k=2))) && (!(decide ((asM b).k=2)))) (nv (asM b))),ve (gq ((!(decide ((asM a).k=2))) && (!(decide ((asM b).k=2)))) (iv (rankM (asM b)))),ve (gq ((!(decide ((asM a).k=2))) && (!(decide ((asM b).k=2)))) (.bool (decide ((rankM (asM a)) < (rankM (asM b)))))),ve (.bool (((!(decide ((asM a).k=2))) && (!(decide ((asM b).k=2)))) && (decide ((rankM (asM a)) < (rankM (asM b)))))),ve (.bool (((!(decide ((asM a).k=2))) && (!(decide ((asM b).k=2)))) && (decide ((rankM (asM a)) < (rankM (asM b))))))] ah ?_ ?_
 exact .L2 aj am<| .C 0 (fun p=>isNaN_c (asM a) _)<| .T (fun k=>v_not rfl (k.eq1 1 10 rfl))<| .N 2<| .Q (fun k=>g0 (k.eq1 3 12 rfl)) (fun hG p k=>v_load rfl (k.fx 3 ak) (l_two isAgg23 sizeOf23 (al.new_ p)))<| .o1 (scC (G:=(!(decide ((asM a).k=2)))) rfl rfl rfl (fun _ _ k=>g0 (k.eq1 3 12 rfl)) rfl (fun hG _ w hn k=>⟨#[nv (asM b)],args1 (cT hG (k.eq1 4 13 rfl)),fun _=>by kernel_rfl,isNaN_c (asM b) _ ⟩))<| .Q (fun k=>g0 (k.eq1 3 12 rfl)) (fun hG p k=>v_not rfl (cT hG (k.eq1 5 14 rfl)))<| .O 3 6<| .N 7<| .Q (fun k=>g0 (k.eq1 8 17 rfl)) (fun hG p k=>v_load rfl (k.fx 2 aj) (l_two isAgg23 sizeOf23 (am.new_ p)))<| .o1 (scC (G:=((!(decide ((asM a).k=2))) && (!(decide ((asM b).k=2))))) rfl rfl rfl (fun _ _ k=>g0 (k.eq1 8 17 rfl)) rfl (fun hG _ w hn k=>⟨#[nv (asM a)],args1 (cT hG (k.eq1 9 18 rfl)),fun _=>by kernel_rfl,rank_c (asM a) _ ⟩))<| .Q (fun k=>g0 (k.eq1 8 17 rfl)) (fun hG p k=>v_load rfl (k.fx 3 ak) (l_two isAgg23 sizeOf23 (al.new_ p)))<| .o1 (scC (G:=((!(decide ((asM a).k=2))) && (!(decide ((asM b).k=2))))) rfl rfl rfl (fun _ _ k=>g0 (k.eq1 8 17 rfl)) rfl (fun hG _ w hn k=>⟨#[nv (asM b)],args1 (cT hG (k.eq1 11 20 rfl)),fun _=>by kernel_rfl,rank_c (asM b) _ ⟩))<| .Q (fun k=>g0 (k.eq1 8 17 rfl)) (fun hG p k=>v_bin rfl (cT hG (k.eq1 10 19 rfl)) (cT hG (k.eq1 12 21 rfl)) (fun _=>rfl) (r_lssK rfl))<| .O 8 13<| .B 14 .nil
 refine aftI ah aw aJ fun ba bb aX aL aM aY aN=>?_
 have aU:=aN.g 15 4
 refine aK _ _ ?_
 refine wp_ret (ret_k aL (v:=.bool (((!(decide ((asM a).k=2))) && (!(decide ((asM b).k=2)))) && (decide ((rankM (asM a)) < (rankM (asM b)))))) (res_t rfl aU _) ?_)
 refine ⟨?_,aM⟩
 show Ending.returned (.bool (((!(decide ((asM a).k=2))) && (!(decide ((asM b).k=2)))) && (decide ((rankM (asM a)) < (rankM (asM b))))))=Ending.returned (.bool (lessM a b))
 first|rfl|(simp only [lessM,lessA,bsm] <;> rfl)|(exfalso; omega)
theorem u32_c (a:Nm) (w:World):Calls prog 93 #[nv a] w (IsRet (iv (u32M a)) w):=by
 refine enter_abs func93 rfl fun a0 ae aS hp=>?_
 have ae:a0.tmps.size=12:=ae
 have aq:New w w:=Upd.refl _ _
 have hp0:a0.eval (.tmp 0)=nv a:=hp 0 _ rfl
 refine wk fun K1 aT=>?_
 refine wB tr2 [] [] 12 [IsNew w 23 [iv a.k,iv a.n],ve (iv 0)] [0] ae ?_ heN ?_
 exact .X hp0<| .c .nil
 refine aftI ae aS aq fun a2 w3 ar aU au bb aV=>?_
 obtain⟨q9,h8,av,af⟩:=aV.G 0 1
 have a4:=Nat.le_trans aq.size av
 refine aT _ _ <| wk fun bd aw=>?_
 refine wk fun be ax=>?_
 refine wA [true,true,false] [(2,false)] 12 [ve (nv a),ve (nv (asM a)),vt] ar ?_ ?_
 exact .L2 h8 af<| .C 0 (fun m=>as_c a _)<| .off .nil
 refine aftI ar aU au fun bf bg ab ag ay az ah=>?_
 have ad:=ah.f1 h8
 have aW:=ah.g 1 4
 have aA:=af.new_ az
 have hbd_a:=as_bd a
 refine sS2 ad aW aA fun bh ac aB a5=>?_
 have ai:=ay.tR aB
 refine ax _ _ <| wk fun bj aj=>?_
 rcases bc (decide (((asM a).k)=0)) with aa|aa
 have ap:=oT aa
 refine wA tr3 [] 12 [ve (pv q9),ve (iv ((asM a).k)),vF] ab ?_ ?_
 exact .F ad<| .J 0 isAgg3 ac<| .b 1 (r_neq aa) .nil
 refine aftI ab ag ai fun bk bl ak aD aE aF al=>?_
 have aX:=al.f1 ad
 have aY:=al.g 2 7
 have aG:=ac.new_ aF
 refine aj _ _ ?_
 refine wf aY<| ws ?_
 refine aw _ _ ?_
 refine wk fun bm aH=>?_
 refine wA tr5 [] 12 [ve (.pointer (some ⟨q9,1,none⟩)),ve (iv ((asM a).n)),ve (.int .u32 (((asM a).n) % 4294967296)),ve (iv (((asM a).n) % 4294967296)),ve (iv (((asM a).n) % 4294967296))] ak ?_ ?_
 exact .F aX<| .J 0 isAgg3 aG<| .T (fun k=>v_conv rfl (k.eq1 1 9 rfl) (run_conv (by kernel_rfl) (by kernel_rfl) (by kernel_rfl) (wrap_u32m _)))<| .R (fun k=>v_conv rfl (k.eq1 2 10 rfl) (run_conv (by kernel_rfl) (by kernel_rfl) (by kernel_rfl) (IntWalk.i64_in _ (by omega)))) (fun _=>rfl)<| .B 3 .nil
 refine aftI ak aD aE fun bn bo a6 aI aJ a7 aK=>?_
 have aZ:=aK.g 4 2
 refine aH _ _ ?_
 refine wp_ret (ret_k aI (v:=iv (((asM a).n) % 4294967296)) (res_t rfl aZ _) ?_)
 refine ⟨?_,aJ⟩
 show Ending.returned (iv (((asM a).n) % 4294967296))=Ending.returned (iv (u32M a))
 first|rfl|(simp only [u32M,aa,bsm] <;> rfl)|(simp [u32M,aa]; done)|(exfalso; omega)
 have ap:=oF aa
 refine wA tr3 [] 12 [ve (pv q9),ve (iv ((asM a).k)),vT] ab ?_ ?_
 exact .F ad<| .J 0 isAgg3 ac<| .b 1 (r_neq aa) .nil
 refine aftI ab ag ai fun bp bq am aL aM aN an=>?_
 have br:=an.f1 ad
 have a1:=an.g 2 7
 have a8:=ac.new_ aN
 refine aj _ _ ?_
 refine wt a1<| wk fun bs aO=>?_
 refine wA tr1 [] 12 [ve (iv 0)] am ?_ ?_
 exact .c .nil
 refine aftI am aL aM fun bt bu a9 aP aQ ba aR=>?_
 have a3:=aR.g 0 2
 refine aO _ _ ?_
 refine wp_ret (ret_k aP (v:=iv 0) (res_t rfl a3 _) ?_)
 refine ⟨?_,aQ⟩
 show Ending.returned (iv 0)=Ending.returned (iv (u32M a))
 first|rfl|(simp only [u32M,aa,bsm] <;> rfl)|(simp [u32M,aa]; done)|(exfalso; omega)
theorem i32_c (a:Nm) (w:World):Calls prog 92 #[nv a] w (IsRet (iv (i32M a)) w):=by
 refine enter_abs func92 rfl fun a0 aa ak hp=>?_
 have aa:a0.tmps.size=8:=aa
 have ab:New w w:=Upd.refl _ _
 have hp0:a0.eval (.tmp 0)=nv a:=hp 0 _ rfl
 have hu:=u32_bd a
 have hi:=i32of_bd (u32M a % 4294967296)
 refine wk fun K1 al=>?_
 refine wB tr2 [] [] 8 [IsNew w 23 [iv a.k,iv a.n],ve (iv 0)] [0] aa ?_ heN ?_
 exact .X hp0<| .c .nil
 refine aftI aa ak ab fun a2 w3 ac am ad au an=>?_
 obtain⟨q9,h8,ae,af⟩:=an.G 0 1
 have ap:=Nat.le_trans ab.size ae
 refine al _ _ <| wk fun av ag=>?_
 refine wA tr6 [] 8 [ve (nv a),ve (iv (u32M a)),ve (.int .u32 ((u32M a) % 4294967296)),ve (.int .i32 (i32of ((u32M a) % 4294967296))),ve (iv (i32of ((u32M a) % 4294967296))),ve (iv (i32of ((u32M a) % 4294967296)))] ac ?_ ?_
 exact .L2 h8 af<| .C 0 (fun m=>u32_c a _)<| .T (fun k=>v_conv rfl (k.eq1 1 4 rfl) (run_conv (by kernel_rfl) (by kernel_rfl) (by kernel_rfl) (wrap_u32m _)))<| .T (fun k=>v_conv rfl (k.eq1 2 5 rfl) (run_conv (by kernel_rfl) (by kernel_rfl) (by kernel_rfl) (wrap_i32m _)))<| .R (fun k=>v_conv rfl (k.eq1 3 6 rfl) (run_conv (by kernel_rfl) (by kernel_rfl) (by kernel_rfl) (IntWalk.i64_in _ (by omega)))) (fun _=>rfl)<| .B 4 .nil
 refine aftI ac am ad fun aw ax aq ah ai ar aj=>?_
 have ao:=aj.g 5 2
 have hu32_a:=u32_bd a
 refine ag _ _ ?_
 refine wp_ret (ret_k ah (v:=iv (i32of ((u32M a) % 4294967296))) (res_t rfl ao _) ?_)
 refine ⟨?_,ai⟩
 show Ending.returned (iv (i32of ((u32M a) % 4294967296)))=Ending.returned (iv (i32M a))
 first|rfl|(simp only [i32M,i32of,bsm] <;> rfl)|(simp [i32M,i32of]; done)|(exfalso; omega)
theorem bit_c (op:Int) (a:Nm) (b:Nm) (w:World):Calls prog 45 #[iv op,nv a,nv b] w (IsRet (nv (bitM op a b)) w):=by
 refine enter_abs func45 rfl fun a0 ax d2 hp=>?_
 have ax:a0.tmps.size=59:=ax
 have ay:New w w:=Upd.refl _ _
 have hp0:a0.eval (.tmp 0)=iv op:=hp 0 _ rfl
 have hp1:a0.eval (.tmp 1)=nv a:=hp 1 _ rfl
 have hp2:a0.eval (.tmp 2)=nv b:=hp 2 _ rfl
 have hub:=u32_bd b
 have hua:=u32_bd a
 have hsh:=sh_bd b hub
 have hii:=i32of_bd (i32M a % 4294967296 * 2 ^ ((u32M b).tmod 32).toNat % 4294967296)
 refine wk fun K1 d3=>?_
 refine wB tr3 [] [] 59 [IsNew w 23 [iv a.k,iv a.n],IsNew w 23 [iv b.k,iv b.n],IsNew w 23 [iv 0,iv 0]] [0,1,2] ax ?_ heN ?_
 exact .X hp1<| .X hp2<| .Y .nil
 refine aftI ax d2 ay fun a2 w3 c6 d4 dg fl av=>?_
 have h8:=av.f1 hp0
 obtain⟨d5,h9,dh,aZ⟩:=av.G 0 4
 obtain⟨d6,a1,di,a3⟩:=av.G 1 5
 obtain⟨c8,a4,dj,dk⟩:=av.G 2 6
 have hne21:=av.ne 0 2 4 6 h9 a4
 have hne22:=av.ne 1 2 5 6 a1 a4
 have ey:=Nat.le_trans ay.size dh
 have ez:=Nat.le_trans ay.size di
 have eA:=Nat.le_trans ay.size dj
 refine d3 _ _ <| wk fun fm dl=>?_
 refine wA tr10 [] 59 [ve (nv a),ve (iv (i32M a)),ve (nv b),ve (iv (i32M b)),ve (nv b),ve (iv (u32M b)),ve (iv ((u32M b).tmod 32)),ve (iv (i32M a)),ve (iv (i32M b)),ve (iv ((u32M b).tmod 32))] c6 ?_ ?_
 exact .L2 h9 aZ<| .C 0 (fun p=>i32_c a _)<| .L2 a1 a3<| .C 2 (fun p=>i32_c b _)<| .L2 a1 a3<| .C 4 (fun p=>u32_c b _)<| .R (fun k=>v_bin rfl (k.eq1 5 15 rfl) rfl (fun _=>rfl) (r_remI rfl (by omega))) (fun _=>rfl)<| .B 1<| .B 3<| .B 6 .nil
 refine aftI c6 d4 dg fun fn fo a5 dm dn a6 al=>?_
 have⟨d7,d8,d9⟩:=al.f3 h8 h9 a4
 have ea:=al.g 7 7
 have eb:=al.g 8 8
 have ec:=al.g 9 9
 have⟨dp,dq⟩:=nw2 a6 aZ dk
 have hi32_a:=i32M_in a
 have hi32_b:=i32M_in b
 have hu32_b:=u32_bd b
 refine dl _ _ <| wk fun fp dr=>?_
 refine wk fun fq ds=>?_
 refine wA tr1 [] 59 [ve (iv op)] a5 ?_ ?_
 exact .M d7 .nil
 refine aftI a5 dm dn fun fs ft a7 dt du a8 am=>?_
 have⟨ed,ee,ef,eg⟩:=am.f4 d8 d9 ea eb
 have eh:=am.f1 ec
 have c9:=am.g 0 17
 have⟨dv,dw⟩:=nw2 a8 dp dq
 refine ds _ _ ?_
 refine wb<| wk fun fu dx=>?_
 refine wA tr2 [] 59 [ve (.bool (decide (op=1))),ve (.bool (decide (op=1)))] a7 ?_ ?_
 exact .H c9 (r_eql rfl)<| .B 0 .nil
 refine aftI a7 dt du fun fv fw aw a9 ba bb ak=>?_
 have⟨ei,da,db,dc⟩:=ak.f4 ed ee ef eg
 have⟨ej,dd⟩:=ak.f2 eh c9
 have de:=ak.g 1 18
 have⟨dy,bd⟩:=nw2 bb dv dw
 refine dx _ _ ?_
 rcases bc (decide (op=1)) with ab|ab
 have bQ:=oT ab
 have dz:=hB de ab
 refine wt dz<| wk fun fy dA=>?_
 refine wA [true,true,true,true,false] [(4,false)] 59 [ve (iv (i32M a)),ve (iv (i32M b)),ve (iv (bandM (i32M a) (i32M b))),ve (nv (Nm.mk 0 (bandM (i32M a) (i32M b)))),vt] aw ?_ ?_
 exact .M db<| .M dc<| .T (fun k=>v_bin rfl (k.eq1 0 20 rfl) (k.eq1 1 21 rfl) (fun _=>rfl) (r_andI _ _))<| .C 2 (fun p=>whole_c (bandM (i32M a) (i32M b)) _)<| .off .nil
 refine aftI aw a9 ba fun fz fA eB dB dC dD be=>?_
 have df:=be.f1 da
 have ek:=be.g 3 23
 have dE:=bd.new_ dD
 refine sS2 df ek dE fun fB dF dG eC=>?_
 have dI:=dC.tR dG
 refine dA _ _ ?_
 refine wp_ret (ret_k dB (v:=nv (Nm.mk 0 (bandM (i32M a) (i32M b)))) (res_c rfl df (l_two isAgg23 sizeOf23 dF)) ?_)
 refine ⟨?_,dI⟩
 show Ending.returned (nv (Nm.mk 0 (bandM (i32M a) (i32M b))))=Ending.returned (nv (bitM op a b))
 first|rfl|(simp only [bitM,shM,ab,bsm] <;> rfl)|(simp [bitM,shM,ab]; done)|(exfalso; omega)
 have bQ:=oF ab
 have dJ:=hB de ab
 refine wf dJ<| wk fun fD dK=>?_
 refine wA tr2 [] 59 [ve (.bool (decide (op=2))),ve (.bool (decide (op=2)))] aw ?_ ?_
 exact .H dd (r_eql rfl)<| .B 0 .nil
 refine aftI aw a9 ba fun eD eE an az aA aB ag=>?_
 have⟨dL,bf,bg,bh⟩:=ag.f4 ei da db dc
 have⟨dM,bi⟩:=ag.f2 ej dd
 have bj:=ag.g 1 24
 have⟨bS,aC⟩:=nw2 aB dy bd
 refine dK _ _ ?_
 rcases bc (decide (op=2)) with aa|aa
 have bk:=oT aa
 have bT:=hB bj aa
 refine wt bT<| wk fun eF bU=>?_
 refine wA [true,true,true,true,false] [(4,false)] 59 [ve (iv (i32M a)),ve (iv (i32M b)),ve (iv (borM (i32M a) (i32M b))),ve (nv (Nm.mk 0 (borM (i32M a) (i32M b)))),vt] an ?_ ?_
 exact .M bg<| .M bh<| .T (fun k=>v_bin rfl (k.eq1 0 26 rfl) (k.eq1 1 27 rfl) (fun _=>rfl) (r_orI _ _))<| .C 2 (fun p=>whole_c (borM (i32M a) (i32M b)) _)<| .off .nil
 refine aftI an az aA fun eG eH el bV bW bX aD=>?_
 have bl:=aD.f1 bf
 have dN:=aD.g 3 29
 have bY:=aC.new_ bX
 refine sS2 bl dN bY fun eI bZ b0 em=>?_
 have b2:=bW.tR b0
 refine bU _ _ ?_
 refine wp_ret (ret_k bV (v:=nv (Nm.mk 0 (borM (i32M a) (i32M b)))) (res_c rfl bl (l_two isAgg23 sizeOf23 bZ)) ?_)
 refine ⟨?_,b2⟩
 show Ending.returned (nv (Nm.mk 0 (borM (i32M a) (i32M b))))=Ending.returned (nv (bitM op a b))
 first|rfl|(simp only [bitM,shM,ab,aa,bsm] <;> rfl)|(simp [bitM,shM,ab,aa]; done)|(exfalso; omega)
 have bk:=oF aa
 have b3:=hB bj aa
 refine wf b3<| wk fun eK b4=>?_
 refine wA tr2 [] 59 [ve (.bool (decide (op=3))),ve (.bool (decide (op=3)))] an ?_ ?_
 exact .H bi (r_eql rfl)<| .B 0 .nil
 refine aftI an az aA fun eL eM ao aE aF aG ah=>?_
 have⟨dO,bn,bo,dP⟩:=ah.f4 dL bf bg bh
 have⟨dQ,bp⟩:=ah.f2 dM bi
 have bq:=ah.g 1 30
 have⟨b5,aH⟩:=nw2 aG bS aC
 refine b4 _ _ ?_
 rcases bc (decide (op=3)) with ac|ac
 have br:=oT ac
 have b6:=hB bq ac
 refine wt b6<| wk fun eN b7=>?_
 refine wA [true,true,true,true,false] [(4,false)] 59 [ve (iv (i32M a)),ve (iv (i32M b)),ve (iv (bxorM (i32M a) (i32M b))),ve (nv (Nm.mk 0 (bxorM (i32M a) (i32M b)))),vt] ao ?_ ?_
 exact .M bo<| .M dP<| .T (fun k=>v_bin rfl (k.eq1 0 32 rfl) (k.eq1 1 33 rfl) (fun _=>rfl) (r_xorI _ _))<| .C 2 (fun p=>whole_c (bxorM (i32M a) (i32M b)) _)<| .off .nil
 refine aftI ao aE aF fun eO eP en b8 b9 ca aI=>?_
 have bs:=aI.f1 bn
 have dR:=aI.g 3 35
 have cb:=aH.new_ ca
 refine sS2 bs dR cb fun eQ cc cd eo=>?_
 have cf:=b9.tR cd
 refine b7 _ _ ?_
 refine wp_ret (ret_k b8 (v:=nv (Nm.mk 0 (bxorM (i32M a) (i32M b)))) (res_c rfl bs (l_two isAgg23 sizeOf23 cc)) ?_)
 refine ⟨?_,cf⟩
 show Ending.returned (nv (Nm.mk 0 (bxorM (i32M a) (i32M b))))=Ending.returned (nv (bitM op a b))
 first|rfl|(simp only [bitM,shM,ab,aa,ac,bsm] <;> rfl)|(simp [bitM,shM,ab,aa,ac]; done)|(exfalso; omega)
 have br:=oF ac
 have ch:=hB bq ac
 refine wf ch<| wk fun eS ci=>?_
 refine wA tr2 [] 59 [ve (.bool (decide (op=4))),ve (.bool (decide (op=4)))] ao ?_ ?_
 exact .H bp (r_eql rfl)<| .B 0 .nil
 refine aftI ao aE aF fun eT eU ap aJ aK aL ai=>?_
 have⟨dS,bu,bv,bw⟩:=ai.f4 dO bn bo dQ
 have bx:=ai.f1 bp
 have bz:=ai.g 1 36
 have⟨cj,aM⟩:=nw2 aL b5 aH
 refine ci _ _ ?_
 rcases bc (decide (op=4)) with ad|ad
 have bA:=oT ad
 have cl:=hB bz ad
 refine wt cl<| wk fun eV cm=>?_
 refine wA [true,true,true,true,true,true,true,false] [(7,false)] 59 [ve (iv (i32M a)),ve (.int .u32 ((i32M a) % 4294967296)),ve (iv ((u32M b).tmod 32)),ve (.int .u32 (((i32M a) % 4294967296) * 2 ^ ((u32M b).tmod 32).toNat % 4294967296)),ve (.int .i32 (i32of (((i32M a) % 4294967296) * 2 ^ ((u32M b).tmod 32).toNat % 4294967296))),ve (iv (i32of (((i32M a) % 4294967296) * 2 ^ ((u32M b).tmod 32).toNat % 4294967296))),ve (nv (Nm.mk 0 (i32of (((i32M a) % 4294967296) * 2 ^ ((u32M b).tmod 32).toNat % 4294967296)))),vt] ap ?_ ?_
 exact .M bv<| .T (fun k=>v_conv rfl (k.eq1 0 38 rfl) (run_conv (by kernel_rfl) (by kernel_rfl) (by kernel_rfl) (wrap_u32m _)))<| .M bw<| .R (fun k=>v_bin rfl (k.eq1 1 39 rfl) (k.eq1 2 40 rfl) (fun _=>rfl) (r_shlU32 (by omega))) (fun _=>rfl)<| .T (fun k=>v_conv rfl (k.eq1 3 41 rfl) (run_conv (by kernel_rfl) (by kernel_rfl) (by kernel_rfl) (wrap_i32m _)))<| .R (fun k=>v_conv rfl (k.eq1 4 42 rfl) (run_conv (by kernel_rfl) (by kernel_rfl) (by kernel_rfl) (IntWalk.i64_in _ (by omega)))) (fun _=>rfl)<| .C 5 (fun p=>whole_c (i32of (((i32M a) % 4294967296) * 2 ^ ((u32M b).tmod 32).toNat % 4294967296)) _)<| .off .nil
 refine aftI ap aJ aK fun eW eX ep cn co cp aN=>?_
 have bB:=aN.f1 bu
 have dT:=aN.g 6 44
 have cq:=aM.new_ cp
 refine sS2 bB dT cq fun eY cr ct er=>?_
 have cv:=co.tR ct
 refine cm _ _ ?_
 refine wp_ret (ret_k cn (v:=nv (Nm.mk 0 (i32of (((i32M a) % 4294967296) * 2 ^ ((u32M b).tmod 32).toNat % 4294967296)))) (res_c rfl bB (l_two isAgg23 sizeOf23 cr)) ?_)
 refine ⟨?_,cv⟩
 show Ending.returned (nv (Nm.mk 0 (i32of (((i32M a) % 4294967296) * 2 ^ ((u32M b).tmod 32).toNat % 4294967296))))=Ending.returned (nv (bitM op a b))
 first|rfl|(simp only [bitM,shM,ab,aa,ac,ad,bsm] <;> rfl)|(simp [bitM,shM,ab,aa,ac,ad]; done)|(exfalso; omega)
 have bA:=oF ad
 have cw:=hB bz ad
 refine wf cw<| wk fun e0 cx=>?_
 refine wA tr2 [] 59 [ve (.bool (decide (op=5))),ve (.bool (decide (op=5)))] ap ?_ ?_
 exact .H bx (r_eql rfl)<| .B 0 .nil
 refine aftI ap aJ aK fun e1 e2 aq aO aP aQ aj=>?_
 have⟨dU,bD,dV,bE⟩:=aj.f4 dS bu bv bw
 have dW:=aj.f1 bx
 have bF:=aj.g 1 45
 have⟨cy,aR⟩:=nw2 aQ cj aM
 refine cx _ _ ?_
 rcases bc (decide (op=5)) with ae|ae
 have bG:=oT ae
 have cz:=hB bF ae
 refine wt cz<| wk fun e3 cA=>?_
 refine wA [true,true,true,true,false] [(4,false)] 59 [ve (iv (i32M a)),ve (iv ((u32M b).tmod 32)),ve (iv ((i32M a) / 2 ^ ((u32M b).tmod 32).toNat)),ve (nv (Nm.mk 0 ((i32M a) / 2 ^ ((u32M b).tmod 32).toNat))),vt] aq ?_ ?_
 exact .M dV<| .M bE<| .R (fun k=>v_bin rfl (k.eq1 0 47 rfl) (k.eq1 1 48 rfl) (fun _=>rfl) (r_shrI (by omega))) (fun _=>rfl)<| .C 2 (fun p=>whole_c ((i32M a) / 2 ^ ((u32M b).tmod 32).toNat) _)<| .off .nil
 refine aftI aq aO aP fun e4 e5 es cB cC cD aS=>?_
 have bH:=aS.f1 bD
 have dX:=aS.g 3 50
 have cE:=aR.new_ cD
 refine sS2 bH dX cE fun e6 cF cG et=>?_
 have cI:=cC.tR cG
 refine cA _ _ ?_
 refine wp_ret (ret_k cB (v:=nv (Nm.mk 0 ((i32M a) / 2 ^ ((u32M b).tmod 32).toNat))) (res_c rfl bH (l_two isAgg23 sizeOf23 cF)) ?_)
 refine ⟨?_,cI⟩
 show Ending.returned (nv (Nm.mk 0 ((i32M a) / 2 ^ ((u32M b).tmod 32).toNat)))=Ending.returned (nv (bitM op a b))
 first|rfl|(simp only [bitM,shM,ab,aa,ac,ad,ae,bsm] <;> rfl)|(simp [bitM,shM,ab,aa,ac,ad,ae]; done)|(exfalso; omega)
 have bG:=oF ae
 have cJ:=hB bF ae
 refine wf cJ<| wk fun e8 cK=>?_
 refine wA tr2 [] 59 [ve (.bool (decide (op=6))),ve (.bool (decide (op=6)))] aq ?_ ?_
 exact .H dW (r_eql rfl)<| .B 0 .nil
 refine aftI aq aO aP fun e9 fa ar aT aU aV au=>?_
 have⟨dY,bJ,dZ⟩:=au.f3 dU bD bE
 have bK:=au.g 1 51
 have⟨cL,aW⟩:=nw2 aV cy aR
 refine cK _ _ ?_
 rcases bc (decide (op=6)) with af|af
 have bL:=oT af
 have cM:=hB bK af
 refine wt cM<| wk fun fb cN=>?_
 refine wA [true,true,true,true,true,false] [(5,false)] 59 [ve (nv a),ve (iv (u32M a)),ve (iv ((u32M b).tmod 32)),ve (iv ((u32M a) / 2 ^ ((u32M b).tmod 32).toNat)),ve (nv (Nm.mk 0 ((u32M a) / 2 ^ ((u32M b).tmod 32).toNat))),vt] ar ?_ ?_
 exact .L2 dY cL<| .C 0 (fun p=>u32_c a _)<| .M dZ<| .R (fun k=>v_bin rfl (k.eq1 1 54 rfl) (k.eq1 2 55 rfl) (fun _=>rfl) (r_shrI (by omega))) (fun _=>rfl)<| .C 3 (fun p=>whole_c ((u32M a) / 2 ^ ((u32M b).tmod 32).toNat) _)<| .off .nil
 refine aftI ar aT aU fun fc fd eu cO cP cQ aX=>?_
 have bM:=aX.f1 bJ
 have d0:=aX.g 4 57
 have cR:=aW.new_ cQ
 have hu32_a:=u32_bd a
 refine sS2 bM d0 cR fun fe cS cT ev=>?_
 have cV:=cP.tR cT
 refine cN _ _ ?_
 refine wp_ret (ret_k cO (v:=nv (Nm.mk 0 ((u32M a) / 2 ^ ((u32M b).tmod 32).toNat))) (res_c rfl bM (l_two isAgg23 sizeOf23 cS)) ?_)
 refine ⟨?_,cV⟩
 show Ending.returned (nv (Nm.mk 0 ((u32M a) / 2 ^ ((u32M b).tmod 32).toNat)))=Ending.returned (nv (bitM op a b))
 first|rfl|(simp only [bitM,shM,ab,aa,ac,ad,ae,af,bsm] <;> rfl)|(simp [bitM,shM,ab,aa,ac,ad,ae,af]; done)|(exfalso; omega)
 have bL:=oF af
 have cW:=hB bK af
 refine wf cW<| ws ?_
 refine dr _ _ ?_
 refine wk fun fg cX=>?_
 refine wA [true,false] [(1,false)] 59 [ve (nv (Nm.mk 2 0)),vt] ar ?_ ?_
 exact .o1 (ck rfl rfl rfl (fun _ w hn k=>⟨#[],rfl,fun _=>by kernel_rfl,nan_c  _ ⟩) fun _=>rfl)<| .off .nil
 refine aftI ar aT aU fun fh fi ew cY cZ c0 aY=>?_
 have bO:=aY.f1 bJ
 have d1:=aY.g 0 58
 have c1:=aW.new_ c0
 refine sS2 bO d1 c1 fun fj c2 c3 ex=>?_
 have c5:=cZ.tR c3
 refine cX _ _ ?_
 refine wp_ret (ret_k cY (v:=nv (Nm.mk 2 0)) (res_c rfl bO (l_two isAgg23 sizeOf23 c2)) ?_)
 refine ⟨?_,c5⟩
 show Ending.returned (nv (Nm.mk 2 0))=Ending.returned (nv (bitM op a b))
 first|rfl|(simp only [bitM,shM,ab,aa,ac,ad,ae,af,bsm] <;> rfl)|(simp [bitM,shM,ab,aa,ac,ad,ae,af]; done)|(exfalso; omega)
def numberedV (a:Nm) (b:Bool):Int × Nm × Int:=if b then (3,a,0) else (0,⟨0,0⟩,3)
theorem VOk.numeric {v:Vl} (h:VOk v):VOk (numericV v).1:=by
  have h1:=number_may (cleanV v)
  unfold numericV
  split
  · exact⟨h.clean.limbs,U16s.nil,h.clean.mlen,Nat.zero_le _,(by decide:(-9223372036854775808:Int)≤0),(by decide:(0:Int)≤9223372036854775807),(by decide:(-9223372036854775808:Int)≤0),(by decide:(0:Int)≤9223372036854775807)⟩
  · split
    · rename_i h2
      have h3:=h1 (of_decide_eq_true h2)
      have h4:=as_bd (numberV (cleanV v)).1
      unfold asM at h4
      rw [if_pos h3] at h4
      exact⟨Limbs.nil,U16s.nil,Nat.zero_le _,Nat.zero_le _,(show -9223372036854775808≤(numberV (cleanV v)).1.n by omega),(show (numberV (cleanV v)).1.n≤9223372036854775807 by omega),(by decide:(-9223372036854775808:Int)≤0),(by decide:(0:Int)≤9223372036854775807)⟩
    · exact VOk.z
theorem VOk.numerics1 {v u:Vl} (h:VOk v) (h2:VOk u):VOk (numericsV v u).1:=by
  unfold numericsV
  repeat' split
  all_goals first|exact h.numeric|exact VOk.z
theorem VOk.numerics2 {v u:Vl} (h:VOk v) (h2:VOk u):VOk (numericsV v u).2.1:=by
  unfold numericsV
  repeat' split
  all_goals first|exact h2.numeric|exact VOk.z
theorem numbered_c (a:Nm) (b:Bool) (w:World):Calls prog 65 #[nv a,.bool b] w (IsRet (.tuple #[vv (Vl.mk (numberedV a b).1 (numberedV a b).2.1.k (numberedV a b).2.1.n false [] [] 0) none 0 none 0,iv ((numberedV a b).2.2)]) w):=by
 refine enter_abs func65 rfl fun a0 af bf hp=>?_
 have af:a0.tmps.size=11:=af
 have ah:New w w:=Upd.refl _ _
 have hp0:a0.eval (.tmp 0)=nv a:=hp 0 _ rfl
 have hp1:a0.eval (.tmp 1)=.bool b:=hp 1 _ rfl
 refine wk fun K1 bg=>?_
 refine wB tr3 [] [] 11 [IsNew w 23 [iv a.k,iv a.n],IsNew w 29 z7,ve (iv 0)] [0,1] af ?_ heN ?_
 exact .X hp0<| .Y<| .c .nil
 refine aftI af bf ah fun a2 w3 ax bh aI bz ag=>?_
 have h8:=ag.f1 hp1
 obtain⟨bi,h9,aJ,aK⟩:=ag.G 0 2
 obtain⟨ai,ay,aL,aM⟩:=ag.G 1 4
 have hne17:=ag.ne 0 1 2 4 h9 ay
 have bs:=Nat.le_trans ah.size aJ
 have bt:=Nat.le_trans ah.size aL
 refine bg _ _ <| wk fun bA aN=>?_
 refine wk fun bB aO=>?_
 refine wA tr2 [] 11 [ve (.bool b),ve (.bool (!b))] ax ?_ ?_
 exact .M h8<| .T (fun k=>v_not rfl (k.eq1 0 6 rfl)) .nil
 refine aftI ax bh aI fun az bC ad aj ak al ae=>?_
 have⟨bj,aA⟩:=ae.f2 h9 ay
 have aB:=ae.g 1 7
 have⟨aP,am⟩:=nw2 al aK aM
 refine aO _ _ ?_
 rcases bc (b) with ac|ac
 have aQ:az.eval (.tmp 7)=.bool false:=aB.trans (congrArg Value.bool (by rw [ac]; rfl))
 refine wf aQ<| ws ?_
 refine aN _ _ ?_
 refine wk fun bD aR=>?_
 refine wA [true,true,false,false] [(2,false),(3,true)] 11 [ve (nv a),ve (vv (Vl.mk 3 a.k a.n false [] [] 0) none 0 none 0),vt,vt] ad ?_ ?_
 exact .L2 bj aP<| .C 0 (fun p=>cnum_c a _)<| .off<| .off .nil
 refine aftI ad aj ak fun aC bE an aS aT aU ao=>?_
 have aD:=ao.f1 aA
 have aE:=ao.g 1 10
 have aV:=am.new_ aU
 refine sS9 aD aE aV fun bk aX aW bu=>?_
 have aZ:=aT.tR aW
 refine sP (v:=iv 0) rfl an aS fun bl bv a1 aa bn=>?_
 have⟨bm,bG⟩:=aa.q2 aD aE
 refine aR _ _ ?_
 refine wp_ret (ret_k a1 (v:=.tuple #[vv (Vl.mk 3 a.k a.n false [] [] 0) none 0 none 0,iv 0]) (res_ct rfl bm bn (l_agg isAgg29 sizeOf29 aX rfl)) ?_)
 refine ⟨?_,aZ⟩
 show Ending.returned (.tuple #[vv (Vl.mk 3 a.k a.n false [] [] 0) none 0 none 0,iv 0])=Ending.returned (.tuple #[vv (Vl.mk (numberedV a b).1 (numberedV a b).2.1.k (numberedV a b).2.1.n false [] [] 0) none 0 none 0,iv ((numberedV a b).2.2)])
 first|rfl|(simp only [numberedV,ac,bsm] <;> rfl)|(exfalso; omega)
 have a3:az.eval (.tmp 7)=.bool true:=aB.trans (congrArg Value.bool (by rw [ac]; rfl))
 refine wt a3<| wk fun bH a4=>?_
 refine wA [true,false,false] [(1,false),(2,true)] 11 [ve (vv (Vl.mk 0 0 0 false [] [] 0) none 0 none 0),vt,vt] ad ?_ ?_
 exact .Z<| .off<| .off .nil
 refine aftI ad aj ak fun aF bI ap a5 a6 a7 aq=>?_
 have aG:=aq.f1 aA
 have aH:=aq.g 0 8
 have a8:=am.new_ a7
 refine sS9 aG aH a8 fun bo ba a9 bw=>?_
 have bd:=a6.tR a9
 refine sP (v:=iv 3) rfl ap a5 fun bp bx be ab br=>?_
 have⟨bq,bK⟩:=ab.q2 aG aH
 refine a4 _ _ ?_
 refine wp_ret (ret_k be (v:=.tuple #[vv (Vl.mk 0 0 0 false [] [] 0) none 0 none 0,iv 3]) (res_ct rfl bq br (l_agg isAgg29 sizeOf29 ba rfl)) ?_)
 refine ⟨?_,bd⟩
 show Ending.returned (.tuple #[vv (Vl.mk 0 0 0 false [] [] 0) none 0 none 0,iv 3])=Ending.returned (.tuple #[vv (Vl.mk (numberedV a b).1 (numberedV a b).2.1.k (numberedV a b).2.1.n false [] [] 0) none 0 none 0,iv ((numberedV a b).2.2)])
 first|rfl|(simp only [numberedV,ac,bsm] <;> rfl)|(exfalso; omega)
def numerics_c_P (v:Vl) (Av:Option Addr) (cv:Nat) (Bv:Option Addr) (dv:Nat) (u:Vl) (Au:Option Addr) (cu:Nat) (Bu:Option Addr) (du:Nat) (w:World) (en:Ending) (w':World):Prop:=∃ (Ar0:Option Addr) (cr0:Nat) (Ar1:Option Addr) (cr1:Nat) (Ar2:Option Addr) (cr2:Nat) (Ar3:Option Addr) (cr3:Nat),en=.returned (.tuple #[vv (numericsV v u).1 Ar0 cr0 Ar1 cr1,vv (numericsV v u).2.1 Ar2 cr2 Ar3 cr3,iv ((numericsV v u).2.2)])∧SRow w' .u32 Ar0 ((numericsV v u).1.mag) cr0∧SRow w' .u16 Ar1 ((numericsV v u).1.s) cr1∧SRow w' .u32 Ar2 ((numericsV v u).2.1.mag) cr2∧SRow w' .u16 Ar3 ((numericsV v u).2.1.s) cr3∧New w w'
theorem numerics_c (v:Vl) (Av:Option Addr) (cv:Nat) (Bv:Option Addr) (dv:Nat) (u:Vl) (Au:Option Addr) (cu:Nat) (Bu:Option Addr) (du:Nat) (w:World) (hmv:SRow w .u32 Av v.mag cv) (hsv:SRow w .u16 Bv v.s dv) (hmu:SRow w .u32 Au u.mag cu) (hsu:SRow w .u16 Bu u.s du) (hvv:VOk v) (hvu:VOk u):Calls prog 74 #[vv v Av cv Bv dv,vv u Au cu Bu du] w (numerics_c_P v Av cv Bv dv u Au cu Bu du w):=by
 refine enter_abs func74 rfl fun a0 bM g0 hp=>?_
 have bM:a0.tmps.size=41:=bM
 have bH:New w w:=Upd.refl _ _
 have hp0:a0.eval (.tmp 0)=vv v Av cv Bv dv:=hp 0 _ rfl
 have hp1:a0.eval (.tmp 1)=vv u Au cu Bu du:=hp 1 _ rfl
 refine wk fun K1 g1=>?_
 refine wB tr5 [] [] 41 [IsNew w 29 (c7 v Av cv Bv dv),IsNew w 29 (c7 u Au cu Bu du),IsNew w 29 z7,IsNew w 29 z7,ve (iv 0)] [0,1,2,3] bM ?_ heN ?_
 exact .X hp0<| .X hp1<| .Y<| .Y<| .c .nil
 refine aftI bM g0 bH fun a2 w3 fH g2 bv jc aS=>?_
 obtain⟨q9,h8,fO,fP⟩:=aS.G 0 2
 obtain⟨cy,cz,fQ,cA⟩:=aS.G 1 3
 obtain⟨aT,bN,fR,cB⟩:=aS.G 2 4
 obtain⟨aU,bO,fS,cC⟩:=aS.G 3 5
 have hne24:=aS.ne 0 2 2 4 h8 bN
 have hne25:=aS.ne 0 3 2 5 h8 bO
 have hne26:=aS.ne 1 2 3 4 cz bN
 have hne27:=aS.ne 1 3 3 5 cz bO
 have hne28:=aS.ne 2 3 4 5 bN bO
 have h9:=Nat.le_trans bH.size fO
 have ia:=Nat.le_trans bH.size fQ
 have ib:=Nat.le_trans bH.size fR
 have ic:=Nat.le_trans bH.size fS
 refine g1 _ _ <| wk fun jd fT=>?_
 refine wp_gS (fun W=>True) (fun W W' hn h=>trivial) trivial [true,true,true,true,true,true,false,false] [4] [(6,false),(7,true)] 41
  [ve (vv v Av cv Bv dv),(TP (numericV v).1 ((numericV v).2)),(TP (numericV v).1 ((numericV v).2)),(fun (v_:Value) (W:World)=>∃ (bi:Option Addr) (bj:Nat) (bk:Option Addr) (bl:Nat),v_=vv (numericV v).1 bi bj bk bl∧SRow W .u32 bi ((numericV v).1.mag) bj∧SRow W .u16 bk ((numericV v).1.s) bl),ve (iv ((numericV v).2)),IsNew w3 29 z7,vt,vt]
  [5] (newsCons (fun v w h=>IsNew.old h) newsNil) fH (.eq (.cons (fun _ _ _ n ⟨_,_,_,_,e,h,i⟩=>⟨_,_,_,_,e,h.new_ n,i.new_ n⟩) (.cons (fun _ _ _ n ⟨_,_,_,_,e,h,i⟩=>⟨_,_,_,_,e,h.new_ n,i.new_ n⟩) (.cons (fun _ _ _ n ⟨_,_,_,_,e,h,i⟩=>⟨_,_,_,_,e,h.new_ n,i.new_ n⟩) (.eq (.nw (.tt (.tt .nil)))))))) ?_ ?_ ?_
 refine .L9 h8 fP ?_
 refine .o1 (tkC rfl (noG rfl) rfl fun _ w hn k=>(by
  refine ⟨#[vv v Av cv Bv dv],_,args1 (k.eq1 0 11 rfl),fun w=>by kernel_rfl,cnumeric_c v _ _ _ _ _ (hmv.new_ (bv.transNew hn)) (hsv.new_ (bv.transNew hn)) hvv,?_⟩
  rintro e w' ⟨A1,c2,A3,c4,rfl,hmo0,hmo1,hm⟩
  exact⟨_,rfl,hm,⟨A1,c2,A3,c4,rfl,hmo0,hmo1⟩⟩)) ?_
 refine .o1 (tk rfl rfl fun _ w hn k=>(by
  obtain⟨A9,g3,g4,g5,g6,fU,fV⟩:=k.G 1 12
  exact⟨_,v_move rfl g6,⟨A9,g3,g4,g5,rfl,fU,fV⟩⟩)) ?_
 refine .o1 (tk rfl rfl fun _ w hn k=>(by
  obtain⟨g7,g8,g9,ha,hc,fW,fX⟩:=k.G 2 10
  exact⟨_,v_extract rfl hc rfl,⟨g7,g8,g9,ha,rfl,fW,fX⟩⟩)) ?_
 refine .o3 ?_
 exact .Y<| .off<| .off .nil
 refine eg1 ?_
 exact eager_takeG rfl (noG rfl) fun _ w hn k=>(by
  obtain⟨je,jf,jg,jh,hd,id,ie⟩:=k.G 2 10
  exact⟨_,fun w hS=>v_extract rfl hd rfl,rfl⟩)
 intro cD ji _ bw aQ
 obtain⟨cE,fY,fZ⟩:=aft aQ fH g2 bv bw
 have⟨hf,hg,hh⟩:=aQ.f3 cz bN bO
 obtain⟨ax,au,aL,av,bP,f0,f1⟩:=aQ.G 3 13
 have bP:cD.eval (.tmp 13)=vv (numericV v).1 ax au aL av:=bP
 have fI:=aQ.g 4 14
 obtain⟨bm,fJ,bx,bI⟩:=aQ.G 5 7
 have⟨f2,f3,f4⟩:=nw3 bw cA cB cC
 have hne59:cy ≠ bm:=by have h1:=cA.lt; have h2:=bx; omega
 have hne60:aT ≠ bm:=by have h1:=cB.lt; have h2:=bx; omega
 have hne61:aU ≠ bm:=by have h1:=cC.lt; have h2:=bx; omega
 have ig:=Nat.le_trans bv.size bx
 refine sS9 fJ bP bI fun hi cF bJ bK=>?_
 have cG:=f0.fr bI bJ
 have cH:=f1.fr bI bJ
 have cI:=bK hne59 f2
 have cJ:=bK hne60 f3
 have cK:=bK hne61 f4
 have cL:=fZ.tR bJ
 refine sP fI cE fY fun hj bz cM aw bQ=>?_
 have⟨fK,fL,fM⟩:=aw.q3 hf hg hh
 have⟨jk,jl,fN⟩:=aw.q3 bP fI fJ
 refine fT _ _ <| wk fun jm f6=>?_
 refine wk fun jn cN=>?_
 rcases bc (decide (((numericV v).2)=0)) with ab|ab
 have dN:=oT ab
 refine wA tr2 [] 41 [ve (iv ((numericV v).2)),vF] bz ?_ ?_
 exact .M bQ<| .b 0 (r_neq ab) .nil
 refine aftI bz cM cL fun jo hl cO f7 ba a8 a9=>?_
 have⟨ho,hr,hs,f8⟩:=a9.f4 fK fL fM fN
 have f9:=a9.f1 bQ
 have ga:=a9.g 1 16
 have⟨dO,bR,bS,bT⟩:=nw4 a8 cI cJ cK cF
 have⟨dP,dQ⟩:=nw2 a8 cG cH
 refine cN _ _ ?_
 refine wf ga<| ws ?_
 refine f6 _ _ ?_
 refine wk fun ih dR=>?_
 refine wp_gS (fun W=>True) (fun W W' hn h=>trivial) trivial [true,true,true,true,true,true,false,false] [4] [(6,false),(7,true)] 41
  [ve (vv u Au cu Bu du),(TP (numericV u).1 ((numericV u).2)),(TP (numericV u).1 ((numericV u).2)),(fun (v_:Value) (W:World)=>∃ (br:Option Addr) (bs:Nat) (bt:Option Addr) (bu:Nat),v_=vv (numericV u).1 br bs bt bu∧SRow W .u32 br ((numericV u).1.mag) bs∧SRow W .u16 bt ((numericV u).1.s) bu),ve (iv ((numericV u).2)),IsNew hl 29 z7,vt,vt]
  [5] (newsCons (fun v w h=>IsNew.old h) newsNil) cO (.eq (.cons (fun _ _ _ n ⟨_,_,_,_,e,h,i⟩=>⟨_,_,_,_,e,h.new_ n,i.new_ n⟩) (.cons (fun _ _ _ n ⟨_,_,_,_,e,h,i⟩=>⟨_,_,_,_,e,h.new_ n,i.new_ n⟩) (.cons (fun _ _ _ n ⟨_,_,_,_,e,h,i⟩=>⟨_,_,_,_,e,h.new_ n,i.new_ n⟩) (.eq (.nw (.tt (.tt .nil)))))))) ?_ ?_ ?_
 refine .L9 ho dO ?_
 refine .o1 (tkC rfl (noG rfl) rfl fun _ w hn k=>(by
  refine ⟨#[vv u Au cu Bu du],_,args1 (k.eq1 0 21 rfl),fun w=>by kernel_rfl,cnumeric_c u _ _ _ _ _ (hmu.new_ (ba.transNew hn)) (hsu.new_ (ba.transNew hn)) hvu,?_⟩
  rintro e w' ⟨ax,ht,hu,hv,rfl,hmo0,hmo1,hm⟩
  exact⟨_,rfl,hm,⟨ax,ht,hu,hv,rfl,hmo0,hmo1⟩⟩)) ?_
 refine .o1 (tk rfl rfl fun _ w hn k=>(by
  obtain⟨hw,hx,hy,hz,hA,gb,gc⟩:=k.G 1 22
  exact⟨_,v_move rfl hA,⟨hw,hx,hy,hz,rfl,gb,gc⟩⟩)) ?_
 refine .o1 (tk rfl rfl fun _ w hn k=>(by
  obtain⟨hC,hD,hE,hF,hG,gd,gf⟩:=k.G 2 20
  exact⟨_,v_extract rfl hG rfl,⟨hC,hD,hE,hF,rfl,gd,gf⟩⟩)) ?_
 refine .o3 ?_
 exact .Y<| .off<| .off .nil
 refine eg1 ?_
 exact eager_takeG rfl (noG rfl) fun _ w hn k=>(by
  obtain⟨jp,jq,jr,js,hH,ii,ij⟩:=k.G 2 20
  exact⟨_,fun w hS=>v_extract rfl hH rfl,rfl⟩)
 intro bL ik _ aC ak
 obtain⟨bU,dS,dT⟩:=aft ak cO f7 ba aC
 have⟨gg,gh,gi,il⟩:=ak.f4 hr hs f8 f9
 obtain⟨ai,ad,aj,ae,bA,dU,dV⟩:=ak.G 3 23
 have bA:bL.eval (.tmp 23)=vv (numericV u).1 ai ad aj ae:=bA
 have cP:=ak.g 4 24
 obtain⟨aR,cQ,bb,aV⟩:=ak.G 5 9
 have⟨dW,dX,dY⟩:=nw3 aC bR bS bT
 have hne136:aT ≠ aR:=by have h1:=bR.lt; have h2:=bb; omega
 have hne137:aU ≠ aR:=by have h1:=bS.lt; have h2:=bb; omega
 have hne138:bm ≠ aR:=by have h1:=bT.lt; have h2:=bb; omega
 have hI:=Nat.le_trans ba.size bb
 have⟨dZ,d0⟩:=nw2 aC dP dQ
 refine sS9 cQ bA aV fun gj bV aW bB=>?_
 have bW:=dZ.fr aV aW
 have bX:=d0.fr aV aW
 have bY:=dU.fr aV aW
 have bZ:=dV.fr aV aW
 have b0:=bB hne136 dW
 have b1:=bB hne137 dX
 have b2:=bB hne138 dY
 have b3:=dT.tR aW
 refine sP cP bU dS fun gk bd b4 af bC=>?_
 have⟨cT,cU,cV⟩:=af.q3 gg gh gi
 have⟨io,ip,cW⟩:=af.q3 bA cP cQ
 refine dR _ _ <| wk fun iq d2=>?_
 refine wb<| wk fun ir b5=>?_
 rcases bc (decide (((numericV u).2)=0)) with aa|aa
 have cX:=oT aa
 refine wA tr3 [] 41 [ve (iv ((numericV u).2)),vF,vF] bd ?_ ?_
 exact .M bC<| .b 0 (r_neq aa)<| .B 1 .nil
 refine aftI bd b4 b3 fun it iu be b6 b7 al aD=>?_
 have⟨cY,cZ,bD,bE⟩:=aD.f4 cT cU cV cW
 have iw:=aD.f1 bC
 have gl:=aD.g 2 25
 have⟨b8,b9,bf,bg⟩:=nw4 al b0 b1 b2 bV
 have⟨ca,cb,cc,cd⟩:=nw4 al bW bX bY bZ
 refine b5 _ _ ?_
 refine wf gl<| wk fun ix ce=>?_
 rcases bc (decide (((numericV v).1.k)=((numericV u).1.k))) with ac|ac
 have c0:=oT ac
 refine wA tr6 [] 41 [ve (pv bm),ve (iv ((numericV v).1.k)),ve (pv aR),ve (iv ((numericV u).1.k)),vF,vF] be ?_ ?_
 exact .F bD<| .J 0 isAgg3 bf<| .F bE<| .J 2 isAgg3 bg<| .T (fun k=>v_bin rfl (k.eq1 1 33 rfl) (k.eq1 3 35 rfl) (fun _=>rfl) (r_neq ac))<| .B 4 .nil
 refine aftI be b6 b7 fun iy iz cf d3 d4 am aX=>?_
 have⟨gm,gn,go,gp⟩:=aX.f4 cY cZ bD bE
 have gq:=aX.g 5 31
 have⟨d5,d6,d7,ch⟩:=nw4 am b8 b9 bf bg
 have⟨d8,d9,ea,eb⟩:=nw4 am ca cb cc cd
 refine ce _ _ ?_
 refine wf gq<| ws ?_
 refine d2 _ _ ?_
 refine wk fun iA ec=>?_
 refine wp_gS (fun W=>Blk W aR 29 (c7 (numericV u).1 ai ad aj ae)∧True) (fun W W' hn h=>⟨Blk.new_ h.1 hn,trivial⟩) ⟨ch,trivial⟩ [true,true,false,false,false] [1] [(2,false),(3,false),(4,true)] 41
  [ve (vv (numericV v).1 ax au aL av),ve (vv (numericV u).1 ai ad aj ae),vt,vt,vt]
  [] newsNil cf (.eq (.eq (.tt (.tt (.tt .nil))))) ?_ ?_ ?_
 refine .L9 go d7 ?_
 refine .o3 ?_
 exact .off<| .off<| .off .nil
 refine eg1 ?_
 exact eager_takeG rfl (noG rfl) fun _ w hn k=>(by
  exact⟨_,fun w hS=>v_load rfl (k.fx 9 gp) (l_agg isAgg29 sizeOf29 hS.1 rfl),rfl⟩)
 intro c1 iB _ an aY
 obtain⟨ci,ed,ee⟩:=aft aY cf d3 d4 an
 have⟨c3,c5⟩:=aY.f2 gm gn
 have c9:=aY.g 0 39
 have da:=aY.g 1 40
 have⟨aZ,ef,cj,eg⟩:=nw4 an d5 d6 ch d8
 have⟨eh,ei,ej⟩:=nw3 an d9 ea eb
 obtain⟨gr,db,dc,a1,bF⟩:=s_many (P:=prog) (t:=29) (i:=0) (c7 (numericV v).1 ax au aL av) sizeOf29 rfl rfl rfl aZ lb
 have ek:Blk gr aT 29 (c7 (numericV v).1 ax au aL av):=dc
 refine st_act rfl rfl fun iC el=>a_store' rfl c3 c9 db (el _ _ ⟨(bF _ _ _ (fun h=>hne136 h.symm) cj),trivial⟩ ?_)
 have em:=eg.fr aZ a1
 have en:=eh.fr aZ a1
 have eo:=ei.fr aZ a1
 have ep:=ej.fr aZ a1
 have a3:=bF _ _ _ (fun h=>hne28 h.symm) ef
 have cl:=bF _ _ _ (fun h=>hne136 h.symm) cj
 have er:=ee.tR a1
 obtain⟨gs,dd,de,a4,bG⟩:=s_many (P:=prog) (t:=29) (i:=0) (c7 (numericV u).1 ai ad aj ae) sizeOf29 rfl rfl rfl a3 lb
 have es:Blk gs aU 29 (c7 (numericV u).1 ai ad aj ae):=de
 refine st_act rfl rfl fun iD et=>a_store' rfl c5 da dd (et _ _ ⟨(bG _ _ _ (fun h=>hne137 h.symm) cl),trivial⟩ ?_)
 have eu:=em.fr a3 a4
 have ev:=en.fr a3 a4
 have ew:=eo.fr a3 a4
 have ex:=ep.fr a3 a4
 have ey:=bG _ _ _ (hne28) ek
 have hJ:=bG _ _ _ (fun h=>hne137 h.symm) cl
 have ez:=er.tR a4
 refine sP (v:=iv 0) rfl ci ed fun gt hK eA ao gw=>?_
 have⟨gu,gv,iE⟩:=ao.q3 c3 c5 c9
 have iF:=ao.q da
 refine ec _ _ ?_
 refine wp_ret (ret_k eA (v:=.tuple #[vv (numericV v).1 ax au aL av,vv (numericV u).1 ai ad aj ae,iv 0]) (res_cct rfl gu gv gw (l_agg isAgg29 sizeOf29 ey rfl) (l_agg isAgg29 sizeOf29 es rfl)) ?_)
 have ay:(numericsV v u).1.mag=(numericV v).1.mag:=by first|rfl|(simp only [numericsV,Vl.z,ab,aa,ac,bsm] <;> rfl)|(exfalso; omega)
 have az:(numericsV v u).1.s=(numericV v).1.s:=by first|rfl|(simp only [numericsV,Vl.z,ab,aa,ac,bsm] <;> rfl)|(exfalso; omega)
 have aA:(numericsV v u).2.1.mag=(numericV u).1.mag:=by first|rfl|(simp only [numericsV,Vl.z,ab,aa,ac,bsm] <;> rfl)|(exfalso; omega)
 have aB:(numericsV v u).2.1.s=(numericV u).1.s:=by first|rfl|(simp only [numericsV,Vl.z,ab,aa,ac,bsm] <;> rfl)|(exfalso; omega)
 exact⟨ax,au,aL,av,ai,ad,aj,ae,(by show Ending.returned (.tuple #[vv (numericV v).1 ax au aL av,vv (numericV u).1 ai ad aj ae,iv 0])=Ending.returned (.tuple #[vv (numericsV v u).1 ax au aL av,vv (numericsV v u).2.1 ai ad aj ae,iv ((numericsV v u).2.2)]); (first|rfl|(simp only [numericsV,Vl.z,ab,aa,ac,ay,az,aA,aB,bsm] <;> rfl)|(exfalso; omega))),(by rw [ay]; exact eu),(by rw [az]; exact ev),(by rw [aA]; exact ew),(by rw [aB]; exact ex),ez⟩
 have c0:=oF ac
 refine wA tr6 [] 41 [ve (pv bm),ve (iv ((numericV v).1.k)),ve (pv aR),ve (iv ((numericV u).1.k)),vT,vT] be ?_ ?_
 exact .F bD<| .J 0 isAgg3 bf<| .F bE<| .J 2 isAgg3 bg<| .T (fun k=>v_bin rfl (k.eq1 1 33 rfl) (k.eq1 3 35 rfl) (fun _=>rfl) (r_neq ac))<| .B 4 .nil
 refine aftI be b6 b7 fun iG iH cm eB eC ap a5=>?_
 have⟨gx,gy,iI,iJ⟩:=a5.f4 cY cZ bD bE
 have gz:=a5.g 5 31
 have⟨eD,eE,hL,hM⟩:=nw4 ap b8 b9 bf bg
 have⟨hN,hO,hP,hQ⟩:=nw4 ap ca cb cc cd
 refine ce _ _ ?_
 refine wt gz<| wk fun iK eF=>?_
 refine wB [true,true,false,false,false] [1] [(2,false),(3,false),(4,true)] 41 [ve (vv (Vl.mk 0 0 0 false [] [] 0) none 0 none 0),ve (vv (Vl.mk 0 0 0 false [] [] 0) none 0 none 0),vt,vt,vt] [] cm ?_ ?_ ?_
 refine .Z ?_
 refine .o3 ?_
 exact .off<| .off<| .off .nil
 refine eg1 ?_
 exact eager_take rfl rfl fun _ w hn k=>⟨vv (Vl.mk 0 0 0 false [] [] 0) none 0 none 0,fun w=>v_build (ps:=[]) rfl parts0 (by kernel_rfl),rfl⟩
 refine aftI cm eB eC fun df iL cn eG eH co bh=>?_
 have⟨dg,dh⟩:=bh.f2 gx gy
 have di:=bh.g 0 37
 have dj:=bh.g 1 38
 have⟨eI,eJ⟩:=nw2 co eD eE
 refine sS9 dg di eI fun gA eM eK eL=>?_
 have eO:=eL hne28.symm eJ
 have eP:=eH.tR eK
 refine sS9 dh dj eO fun gB eS eQ eR=>?_
 have eU:=eR hne28 eM
 have eV:=eP.tR eQ
 refine sP (v:=iv 1) rfl cn eG fun gC hR eW aq gF=>?_
 have⟨gD,gE,iO⟩:=aq.q3 dg dh di
 have iP:=aq.q dj
 refine eF _ _ ?_
 refine wp_ret (ret_k eW (v:=.tuple #[vv (Vl.mk 0 0 0 false [] [] 0) none 0 none 0,vv (Vl.mk 0 0 0 false [] [] 0) none 0 none 0,iv 1]) (res_cct rfl gD gE gF (l_agg isAgg29 sizeOf29 eU rfl) (l_agg isAgg29 sizeOf29 eS rfl)) ?_)
 have ay:(numericsV v u).1.mag=[]:=by first|rfl|(simp only [numericsV,Vl.z,ab,aa,ac,bsm] <;> rfl)|(exfalso; omega)
 have az:(numericsV v u).1.s=[]:=by first|rfl|(simp only [numericsV,Vl.z,ab,aa,ac,bsm] <;> rfl)|(exfalso; omega)
 have aA:(numericsV v u).2.1.mag=[]:=by first|rfl|(simp only [numericsV,Vl.z,ab,aa,ac,bsm] <;> rfl)|(exfalso; omega)
 have aB:(numericsV v u).2.1.s=[]:=by first|rfl|(simp only [numericsV,Vl.z,ab,aa,ac,bsm] <;> rfl)|(exfalso; omega)
 exact⟨none,0,none,0,none,0,none,0,(by show Ending.returned (.tuple #[vv (Vl.mk 0 0 0 false [] [] 0) none 0 none 0,vv (Vl.mk 0 0 0 false [] [] 0) none 0 none 0,iv 1])=Ending.returned (.tuple #[vv (numericsV v u).1 none 0 none 0,vv (numericsV v u).2.1 none 0 none 0,iv ((numericsV v u).2.2)]); (first|rfl|(simp only [numericsV,Vl.z,ab,aa,ac,ay,az,aA,aB,bsm] <;> rfl)|(exfalso; omega))),(by rw [ay]; exact (SRow.nil _ _)),(by rw [az]; exact (SRow.nil _ _)),(by rw [aA]; exact (SRow.nil _ _)),(by rw [aB]; exact (SRow.nil _ _)),eV⟩
 have cX:=oF aa
 refine wA tr3 [] 41 [ve (iv ((numericV u).2)),vT,vT] bd ?_ ?_
 exact .M bC<| .b 0 (r_neq aa)<| .B 1 .nil
 refine aftI bd b4 b3 fun iQ iR cp eX eY ar aE=>?_
 have⟨gG,gH,iS,iT⟩:=aE.f4 cT cU cV cW
 have gI:=aE.f1 bC
 have gJ:=aE.g 2 25
 have⟨eZ,e0,hT,hU⟩:=nw4 ar b0 b1 b2 bV
 have⟨hV,hW,hX,hY⟩:=nw4 ar bW bX bY bZ
 refine b5 _ _ ?_
 refine wt gJ<| wk fun iU e1=>?_
 refine wB [true,true,true,false,false,false] [1,2] [(3,false),(4,false),(5,true)] 41 [ve (vv (Vl.mk 0 0 0 false [] [] 0) none 0 none 0),ve (vv (Vl.mk 0 0 0 false [] [] 0) none 0 none 0),ve (iv ((numericV u).2)),vt,vt,vt] [] cp ?_ ?_ ?_
 refine .Z ?_
 refine .o3 ?_
 refine .o3 ?_
 exact .off<| .off<| .off .nil
 refine eg2 ?_ ?_
 exact eager_take rfl rfl fun _ w hn k=>⟨vv (Vl.mk 0 0 0 false [] [] 0) none 0 none 0,fun w=>v_build (ps:=[]) rfl parts0 (by kernel_rfl),rfl⟩
 exact eager_take rfl rfl fun _ w hn k=>⟨iv ((numericV u).2),fun w=>v_move rfl (k.fx 8 gI),rfl⟩
 refine aftI cp eX eY fun dp iV cq e2 e3 cr a6=>?_
 have⟨dq,dr⟩:=a6.f2 gG gH
 have ds:=a6.g 0 28
 have dt:=a6.g 1 29
 have dw:=a6.g 2 30
 have⟨e4,e5⟩:=nw2 cr eZ e0
 refine sS9 dq ds e4 fun gK e8 e6 e7=>?_
 have fa:=e7 hne28.symm e5
 have fb:=e3.tR e6
 refine sS9 dr dt fa fun gL fe fc fd=>?_
 have fg:=fd hne28 e8
 have fh:=fb.tR fc
 refine sP dw cq e2 fun gM hZ fi ag gP=>?_
 have⟨gN,gO,iY⟩:=ag.q3 dq dr ds
 have⟨iZ,i0⟩:=ag.q2 dt dw
 refine e1 _ _ ?_
 refine wp_ret (ret_k fi (v:=.tuple #[vv (Vl.mk 0 0 0 false [] [] 0) none 0 none 0,vv (Vl.mk 0 0 0 false [] [] 0) none 0 none 0,iv ((numericV u).2)]) (res_cct rfl gN gO gP (l_agg isAgg29 sizeOf29 fg rfl) (l_agg isAgg29 sizeOf29 fe rfl)) ?_)
 have ay:(numericsV v u).1.mag=[]:=by first|rfl|(simp only [numericsV,Vl.z,ab,aa,bsm] <;> rfl)|(exfalso; omega)
 have az:(numericsV v u).1.s=[]:=by first|rfl|(simp only [numericsV,Vl.z,ab,aa,bsm] <;> rfl)|(exfalso; omega)
 have aA:(numericsV v u).2.1.mag=[]:=by first|rfl|(simp only [numericsV,Vl.z,ab,aa,bsm] <;> rfl)|(exfalso; omega)
 have aB:(numericsV v u).2.1.s=[]:=by first|rfl|(simp only [numericsV,Vl.z,ab,aa,bsm] <;> rfl)|(exfalso; omega)
 exact⟨none,0,none,0,none,0,none,0,(by show Ending.returned (.tuple #[vv (Vl.mk 0 0 0 false [] [] 0) none 0 none 0,vv (Vl.mk 0 0 0 false [] [] 0) none 0 none 0,iv ((numericV u).2)])=Ending.returned (.tuple #[vv (numericsV v u).1 none 0 none 0,vv (numericsV v u).2.1 none 0 none 0,iv ((numericsV v u).2.2)]); (first|rfl|(simp only [numericsV,Vl.z,ab,aa,ay,az,aA,aB,bsm] <;> rfl)|(exfalso; omega))),(by rw [ay]; exact (SRow.nil _ _)),(by rw [az]; exact (SRow.nil _ _)),(by rw [aA]; exact (SRow.nil _ _)),(by rw [aB]; exact (SRow.nil _ _)),fh⟩
 have dN:=oF ab
 refine wA tr2 [] 41 [ve (iv ((numericV v).2)),vT] bz ?_ ?_
 exact .M bQ<| .b 0 (r_neq ab) .nil
 refine aftI bz cM cL fun i1 i2 ct fj fk aF aG=>?_
 have⟨i3,gQ,gR,i4⟩:=aG.f4 fK fL fM fN
 have gS:=aG.f1 bQ
 have gT:=aG.g 1 16
 have⟨h3,fl,fm,h4⟩:=nw4 aF cI cJ cK cF
 have⟨h5,h6⟩:=nw2 aF cG cH
 refine cN _ _ ?_
 refine wt gT<| wk fun i5 fn=>?_
 refine wB [true,true,true,false,false,false] [1,2] [(3,false),(4,false),(5,true)] 41 [ve (vv (Vl.mk 0 0 0 false [] [] 0) none 0 none 0),ve (vv (Vl.mk 0 0 0 false [] [] 0) none 0 none 0),ve (iv ((numericV v).2)),vt,vt,vt] [] ct ?_ ?_ ?_
 refine .Z ?_
 refine .o3 ?_
 refine .o3 ?_
 exact .off<| .off<| .off .nil
 refine eg2 ?_ ?_
 exact eager_take rfl rfl fun _ w hn k=>⟨vv (Vl.mk 0 0 0 false [] [] 0) none 0 none 0,fun w=>v_build (ps:=[]) rfl parts0 (by kernel_rfl),rfl⟩
 exact eager_take rfl rfl fun _ w hn k=>⟨iv ((numericV v).2),fun w=>v_move rfl (k.fx 8 gS),rfl⟩
 refine aftI ct fj fk fun dB i6 cw fo fp cx a7=>?_
 have⟨dC,dD⟩:=a7.f2 gQ gR
 have dE:=a7.g 0 17
 have dF:=a7.g 1 18
 have dG:=a7.g 2 19
 have⟨fq,fs⟩:=nw2 cx fl fm
 refine sS9 dC dE fq fun gU fv ft fu=>?_
 have fy:=fu hne28.symm fs
 have fz:=fp.tR ft
 refine sS9 dD dF fy fun gV fC fA fB=>?_
 have fE:=fB hne28 fv
 have fF:=fz.tR fA
 refine sP dG cw fo fun gW h7 fG ah gZ=>?_
 have⟨gX,gY,i9⟩:=ah.q3 dC dD dE
 have⟨ja,jb⟩:=ah.q2 dF dG
 refine fn _ _ ?_
 refine wp_ret (ret_k fG (v:=.tuple #[vv (Vl.mk 0 0 0 false [] [] 0) none 0 none 0,vv (Vl.mk 0 0 0 false [] [] 0) none 0 none 0,iv ((numericV v).2)]) (res_cct rfl gX gY gZ (l_agg isAgg29 sizeOf29 fE rfl) (l_agg isAgg29 sizeOf29 fC rfl)) ?_)
 have ay:(numericsV v u).1.mag=[]:=by first|rfl|(simp only [numericsV,Vl.z,ab,bsm] <;> rfl)|(exfalso; omega)
 have az:(numericsV v u).1.s=[]:=by first|rfl|(simp only [numericsV,Vl.z,ab,bsm] <;> rfl)|(exfalso; omega)
 have aA:(numericsV v u).2.1.mag=[]:=by first|rfl|(simp only [numericsV,Vl.z,ab,bsm] <;> rfl)|(exfalso; omega)
 have aB:(numericsV v u).2.1.s=[]:=by first|rfl|(simp only [numericsV,Vl.z,ab,bsm] <;> rfl)|(exfalso; omega)
 exact⟨none,0,none,0,none,0,none,0,(by show Ending.returned (.tuple #[vv (Vl.mk 0 0 0 false [] [] 0) none 0 none 0,vv (Vl.mk 0 0 0 false [] [] 0) none 0 none 0,iv ((numericV v).2)])=Ending.returned (.tuple #[vv (numericsV v u).1 none 0 none 0,vv (numericsV v u).2.1 none 0 none 0,iv ((numericsV v u).2.2)]); (first|rfl|(simp only [numericsV,Vl.z,ab,ay,az,aA,aB,bsm] <;> rfl)|(exfalso; omega))),(by rw [ay]; exact (SRow.nil _ _)),(by rw [az]; exact (SRow.nil _ _)),(by rw [aA]; exact (SRow.nil _ _)),(by rw [aB]; exact (SRow.nil _ _)),fF⟩
theorem big_in {w:World} {b:Bool} {A:Option Addr} {m:List Nat} {c:Nat} (hr:SRow w .u32 A m c) (hl:Limbs m):BigAt w (.agg #[.bool b,sv A m c]) (goodI b m):=⟨b,_,m,rfl,hr,hl,rfl⟩
theorem text_len {v:Vl} (h:VOk v):(textV v).1.length≤20000:=by
  have h1:=textM_size (cleanV v).num
  have h2:=textI_size (b:=(cleanV v).neg) h.clean.limbs
  have h3:=h.clean.slen
  unfold textV
  repeat' split
  all_goals first|exact h3|exact Nat.zero_le _|(show (asc _).length≤20000; rw [asc_len]; first|(show (_:Nat)≤_; decide)|(show (_:Nat)≤_; omega))
theorem bText_c (a:Bool) (Aa:Option Addr) (ma:List Nat) (ca:Nat) (w:World) (hra:SRow w .u32 Aa ma ca) (ha:Limbs ma):Calls Tryz.prog 141 #[.agg #[.bool a,sv Aa ma ca]] w (IsRet (.string (strOfNums (textI (goodI a ma)))) w):=text_any _ _ w (big_in hra ha)
def ctext_c_P (v:Vl) (Av:Option Addr) (cv:Nat) (Bv:Option Addr) (dv:Nat) (w:World) (en:Ending) (w':World):Prop:=∃ (Ar0:Option Addr) (cr0:Nat),en=.returned (.tuple #[sv Ar0 ((textV v).1) cr0,iv ((textV v).2)])∧SOwn w' w.heap.size 74 .u16 Ar0 ((textV v).1) cr0∧New w w'
theorem ctext_c (v:Vl) (Av:Option Addr) (cv:Nat) (Bv:Option Addr) (dv:Nat) (w:World) (hmv:SRow w .u32 Av v.mag cv) (hsv:SRow w .u16 Bv v.s dv) (hvv:VOk v) (HT:ItoaOk w):Calls prog 73 #[vv v Av cv Bv dv] w (ctext_c_P v Av cv Bv dv w):=by
 refine enter_abs func73 rfl fun a0 bh eh hp=>?_
 have bh:a0.tmps.size=38:=bh
 have de:New w w:=Upd.refl _ _
 have hp0:a0.eval (.tmp 0)=vv v Av cv Bv dv:=hp 0 _ rfl
 have hm:=hvv.clean.mlen
 have hsl:=hvv.clean.slen
 have hz1:(textM (Nm.mk (cleanV v).nk (cleanV v).nn)).size≤21:=textM_size (cleanV v).num
 have hz2:=textI_size (b:=(cleanV v).neg) hvv.clean.limbs
 refine wk fun K1 ei=>?_
 refine wB tr3 [] [] 38 [IsNew w 29 (c7 v Av cv Bv dv),ve (sv none ([]) 0),ve (iv 0)] [0] bh ?_ heN ?_
 exact .X hp0<| .c<| .c .nil
 refine aftI bh eh de fun a2 w3 df ej aY gh ek=>?_
 obtain⟨q9,h8,dl,bD⟩:=ek.G 0 1
 have fL:=Nat.le_trans de.size dl
 refine ei _ _ <| wk fun gi dm=>?_
 refine wp_g0 [true,true,false] [(2,false)] 38
  [ve (vv v Av cv Bv dv),
  (VP (cleanV v)),vt] df (.eq (.cons (fun _ _ _ n ⟨_,_,_,_,e,h,i⟩=>⟨_,_,_,_,e,h.new_ n,i.new_ n⟩) (.tt .nil))) ?_ ?_
 refine .L9 h8 bD ?_
 refine .o1 (tkC rfl (noG rfl) rfl fun _ w hn k=>(by
  refine ⟨#[vv v Av cv Bv dv],_,args1 (k.eq1 0 4 rfl),fun w=>by kernel_rfl,clean_c v _ _ _ _ _ (hmv.new_ (aY.transNew hn)) (hsv.new_ (aY.transNew hn)),?_⟩
  rintro e w' ⟨A1,c2,A3,c4,rfl,hmo0,hmo1,hm⟩
  exact⟨_,rfl,hm,⟨A1,c2,A3,c4,rfl,hmo0,hmo1⟩⟩)) ?_
 exact .off .nil
 refine aftI df ej aY fun el gj bE dn dp dq bF=>?_
 have bG:=bF.f1 h8
 obtain⟨aW,ay,az,aA,bH,dr,ds⟩:=bF.G 1 5
 have bH:el.eval (.tmp 5)=vv (cleanV v) aW ay az aA:=bH
 have aZ:=bD.new_ dq
 refine sS9 bG bH aZ fun em bI a1 fM=>?_
 have du:=dr.fr aZ a1
 have dw:=ds.fr aZ a1
 have dx:=dp.tR a1
 refine dm _ _ <| wk fun gl dy=>?_
 refine wk fun gm dz=>?_
 refine wA tr2 [] 38 [ve (pv q9),ve (iv ((cleanV v).k))] bE ?_ ?_
 exact .F bG<| .J 0 isAgg3 bI .nil
 refine aftI bE dn dx fun gn go bJ dA dB a3 bK=>?_
 have en:=bK.f1 bG
 have dg:=bK.g 1 7
 have⟨dC,dD,dE⟩:=nw3 a3 bI du dw
 refine dz _ _ ?_
 refine wb<| wk fun gp dF=>?_
 refine wA tr2 [] 38 [ve (.bool (decide (((cleanV v).k)=0))),ve (.bool (decide (((cleanV v).k)=0)))] bJ ?_ ?_
 exact .H dg (r_eql rfl)<| .B 0 .nil
 refine aftI bJ dA dB fun gq bi aI bL a4 a5 a6=>?_
 have⟨eo,dh⟩:=a6.f2 en dg
 have di:=a6.g 1 8
 have⟨dG,dH,dI⟩:=nw3 a5 dC dD dE
 refine dF _ _ ?_
 rcases bc (decide (((cleanV v).k)=0)) with ac|ac
 have b7:=oT ac
 have dJ:=hB di ac
 refine wt dJ<| wk fun gr dK=>?_
 refine wp_g0 [true,true,true] [] 38
  [(OP bi.heap.size 74 .u16 (asc ⟨#[117,110,100,101,102,105,110,101,100]⟩)),
  (OP bi.heap.size 74 .u16 (asc ⟨#[117,110,100,101,102,105,110,101,100]⟩)),ve (iv 0)] aI (.cons (fun _ _ _ n ⟨_,_,e,h⟩=>⟨_,_,e,h.new_ n⟩) (.cons (fun _ _ _ n ⟨_,_,e,h⟩=>⟨_,_,e,h.new_ n⟩) (.eq .nil))) ?_ ?_
 refine .o1 (tkC rfl (noG rfl) rfl fun _ w hn k=>(by
  refine ⟨#[.string ⟨#[117,110,100,101,102,105,110,101,100]⟩],_,args1 rfl,fun w=>by kernel_rfl,ascii_c ⟨#[117,110,100,101,102,105,110,101,100]⟩ _ (by first|omega|(show (_:Nat)≤_; decide)),?_⟩
  rintro e w' ⟨eu,ev,rfl,hmo0,hm⟩
  exact⟨_,rfl,hm,⟨eu,ev,rfl,(hmo0.more hn.size)⟩⟩)) ?_
 refine .o1 (tk rfl rfl fun _ w hn k=>(by
  obtain⟨ew,ex,ey,dL⟩:=k.G 0 10
  exact⟨_,v_assign rfl ey,⟨ew,ex,rfl,dL⟩⟩)) ?_
 exact .c .nil
 refine aftI aI bL a4 fun ez gs fN dM dN fO bM=>?_
 obtain⟨aX,aB,bN,dO⟩:=bM.G 1 2
 have bN:ez.eval (.tmp 2)=sv aX (asc ⟨#[117,110,100,101,102,105,110,101,100]⟩) aB:=bN
 have eA:=bM.g 2 3
 have dP:=dO.more a4.size
 refine dK _ _ ?_
 refine wp_ret (ret_k dM (v:=.tuple #[sv aX (asc ⟨#[117,110,100,101,102,105,110,101,100]⟩) aB,iv 0]) (res_tt rfl bN eA _) ?_)
 have ad:(textV v).1=(asc ⟨#[117,110,100,101,102,105,110,101,100]⟩):=by first|rfl|(simp only [textV,ac,bsm] <;> rfl)|(exfalso; omega)
 exact⟨aX,aB,(by show Ending.returned (.tuple #[sv aX (asc ⟨#[117,110,100,101,102,105,110,101,100]⟩) aB,iv 0])=Ending.returned (.tuple #[sv aX ((textV v).1) aB,iv ((textV v).2)]); (first|rfl|(simp only [textV,ac,ad,bsm] <;> rfl)|(exfalso; omega))),(by rw [ad]; exact dP),dN⟩
 have b7:=oF ac
 have dQ:=hB di ac
 refine wf dQ<| wk fun gt dR=>?_
 refine wA tr2 [] 38 [ve (.bool (decide (((cleanV v).k)=1))),ve (.bool (decide (((cleanV v).k)=1)))] aI ?_ ?_
 exact .H dh (r_eql rfl)<| .B 0 .nil
 refine aftI aI bL a4 fun gu bj aJ bO a7 a8 a9=>?_
 have⟨eB,dj⟩:=a9.f2 eo dh
 have dk:=a9.g 1 11
 have⟨dS,dT,dU⟩:=nw3 a8 dG dH dI
 refine dR _ _ ?_
 rcases bc (decide (((cleanV v).k)=1)) with aa|aa
 have bP:=oT aa
 have b8:=hB dk aa
 refine wt b8<| wk fun fP b9=>?_
 refine wp_g0 [true,true,true] [] 38
  [(OP bj.heap.size 74 .u16 (asc ⟨#[110,117,108,108]⟩)),
  (OP bj.heap.size 74 .u16 (asc ⟨#[110,117,108,108]⟩)),ve (iv 0)] aJ (.cons (fun _ _ _ n ⟨_,_,e,h⟩=>⟨_,_,e,h.new_ n⟩) (.cons (fun _ _ _ n ⟨_,_,e,h⟩=>⟨_,_,e,h.new_ n⟩) (.eq .nil))) ?_ ?_
 refine .o1 (tkC rfl (noG rfl) rfl fun _ w hn k=>(by
  refine ⟨#[.string ⟨#[110,117,108,108]⟩],_,args1 rfl,fun w=>by kernel_rfl,ascii_c ⟨#[110,117,108,108]⟩ _ (by first|omega|(show (_:Nat)≤_; decide)),?_⟩
  rintro e w' ⟨az,eG,rfl,hmo0,hm⟩
  exact⟨_,rfl,hm,⟨az,eG,rfl,(hmo0.more hn.size)⟩⟩)) ?_
 refine .o1 (tk rfl rfl fun _ w hn k=>(by
  obtain⟨eH,eI,eJ,dV⟩:=k.G 0 13
  exact⟨_,v_assign rfl eJ,⟨eH,eI,rfl,dV⟩⟩)) ?_
 exact .c .nil
 refine aftI aJ bO a7 fun dW fQ fu ca cb fv bk=>?_
 obtain⟨aC,aj,ba,cc⟩:=bk.G 1 2
 have ba:dW.eval (.tmp 2)=sv aC (asc ⟨#[110,117,108,108]⟩) aj:=ba
 have dX:=bk.g 2 3
 have cd:=cc.more a7.size
 refine b9 _ _ ?_
 refine wp_ret (ret_k ca (v:=.tuple #[sv aC (asc ⟨#[110,117,108,108]⟩) aj,iv 0]) (res_tt rfl ba dX _) ?_)
 have ad:(textV v).1=(asc ⟨#[110,117,108,108]⟩):=by first|rfl|(simp only [textV,ac,aa,bsm] <;> rfl)|(exfalso; omega)
 exact⟨aC,aj,(by show Ending.returned (.tuple #[sv aC (asc ⟨#[110,117,108,108]⟩) aj,iv 0])=Ending.returned (.tuple #[sv aC ((textV v).1) aj,iv ((textV v).2)]); (first|rfl|(simp only [textV,ac,aa,ad,bsm] <;> rfl)|(exfalso; omega))),(by rw [ad]; exact cd),cb⟩
 have bP:=oF aa
 have ce:=hB dk aa
 refine wf ce<| wk fun fR cf=>?_
 refine wA tr2 [] 38 [ve (.bool (decide (((cleanV v).k)=2))),ve (.bool (decide (((cleanV v).k)=2)))] aJ ?_ ?_
 exact .H dj (r_eql rfl)<| .B 0 .nil
 refine aftI aJ bO a7 fun fS fT ap bl bm aK aL=>?_
 have⟨bQ,bR⟩:=aL.f2 eB dj
 have bS:=aL.g 1 14
 have⟨bn,ch,ci⟩:=nw3 aK dS dT dU
 refine cf _ _ ?_
 rcases bc (decide (((cleanV v).k)=2)) with ab|ab
 have bT:=oT ab
 have cj:=hB bS ab
 refine wt cj<| wk fun fU cl=>wk fun fV cm=>?_
 refine wA tr3 [] 38 [ve (.pointer (some ⟨q9,6,none⟩)),ve (iv ((cleanV v).ref)),ve (.bool (decide (((cleanV v).ref)=1)))] ap ?_ ?_
 exact .F bQ<| .J 0 isAgg3 bn<| .b 1 (r_eql rfl) .nil
 refine aftI ap bl bm fun fW ai aq bo ar fw cn=>?_
 have bU:=cn.g 2 18
 refine cm _ _ ?_
 rcases bc (decide (((cleanV v).ref)=1)) with ag|ag
 have bV:=oT ag
 have co:=hB bU ag
 refine wt co<| wk fun fX cp=>?_
 refine wp_g0 [true,true,true] [] 38
  [(OP ai.heap.size 74 .u16 (asc ⟨#[116,114,117,101]⟩)),
  (OP ai.heap.size 74 .u16 (asc ⟨#[116,114,117,101]⟩)),ve (iv 0)] aq (.cons (fun _ _ _ n ⟨_,_,e,h⟩=>⟨_,_,e,h.new_ n⟩) (.cons (fun _ _ _ n ⟨_,_,e,h⟩=>⟨_,_,e,h.new_ n⟩) (.eq .nil))) ?_ ?_
 refine .o1 (tkC rfl (noG rfl) rfl fun _ w hn k=>(by
  refine ⟨#[.string ⟨#[116,114,117,101]⟩],_,args1 rfl,fun w=>by kernel_rfl,ascii_c ⟨#[116,114,117,101]⟩ _ (by first|omega|(show (_:Nat)≤_; decide)),?_⟩
  rintro e w' ⟨eO,eP,rfl,hmo0,hm⟩
  exact⟨_,rfl,hm,⟨eO,eP,rfl,(hmo0.more hn.size)⟩⟩)) ?_
 refine .o1 (tk rfl rfl fun _ w hn k=>(by
  obtain⟨eQ,eR,eS,dY⟩:=k.G 0 19
  exact⟨_,v_assign rfl eS,⟨eQ,eR,rfl,dY⟩⟩)) ?_
 exact .c .nil
 refine aftI aq bo ar fun dZ fY fy cq cr fz bp=>?_
 obtain⟨aD,ak,bb,ct⟩:=bp.G 1 2
 have bb:dZ.eval (.tmp 2)=sv aD (asc ⟨#[116,114,117,101]⟩) ak:=bb
 have d0:=bp.g 2 3
 have cu:=ct.more ar.size
 refine cp _ _ ?_
 refine wp_ret (ret_k cq (v:=.tuple #[sv aD (asc ⟨#[116,114,117,101]⟩) ak,iv 0]) (res_tt rfl bb d0 _) ?_)
 have ad:(textV v).1=(asc ⟨#[116,114,117,101]⟩):=by first|rfl|(simp only [textV,ac,aa,ab,ag,bsm] <;> rfl)|(exfalso; omega)
 exact⟨aD,ak,(by show Ending.returned (.tuple #[sv aD (asc ⟨#[116,114,117,101]⟩) ak,iv 0])=Ending.returned (.tuple #[sv aD ((textV v).1) ak,iv ((textV v).2)]); (first|rfl|(simp only [textV,ac,aa,ab,ag,ad,bsm] <;> rfl)|(exfalso; omega))),(by rw [ad]; exact cu),cr⟩
 have bV:=oF ag
 have cw:=hB bU ag
 refine wf cw<| ws ?_
 refine cl _ _ ?_
 refine wk fun fZ cx=>?_
 refine wp_g0 [true,true,true] [] 38
  [(OP ai.heap.size 74 .u16 (asc ⟨#[102,97,108,115,101]⟩)),
  (OP ai.heap.size 74 .u16 (asc ⟨#[102,97,108,115,101]⟩)),ve (iv 0)] aq (.cons (fun _ _ _ n ⟨_,_,e,h⟩=>⟨_,_,e,h.new_ n⟩) (.cons (fun _ _ _ n ⟨_,_,e,h⟩=>⟨_,_,e,h.new_ n⟩) (.eq .nil))) ?_ ?_
 refine .o1 (tkC rfl (noG rfl) rfl fun _ w hn k=>(by
  refine ⟨#[.string ⟨#[102,97,108,115,101]⟩],_,args1 rfl,fun w=>by kernel_rfl,ascii_c ⟨#[102,97,108,115,101]⟩ _ (by first|omega|(show (_:Nat)≤_; decide)),?_⟩
  rintro e w' ⟨eX,eY,rfl,hmo0,hm⟩
  exact⟨_,rfl,hm,⟨eX,eY,rfl,(hmo0.more hn.size)⟩⟩)) ?_
 refine .o1 (tk rfl rfl fun _ w hn k=>(by
  obtain⟨eZ,e0,e1,d1⟩:=k.G 0 20
  exact⟨_,v_assign rfl e1,⟨eZ,e0,rfl,d1⟩⟩)) ?_
 exact .c .nil
 refine aftI aq bo ar fun d2 f0 fA cy cz fB bq=>?_
 obtain⟨aE,al,bd,cA⟩:=bq.G 1 2
 have bd:d2.eval (.tmp 2)=sv aE (asc ⟨#[102,97,108,115,101]⟩) al:=bd
 have d3:=bq.g 2 3
 have cB:=cA.more ar.size
 refine cx _ _ ?_
 refine wp_ret (ret_k cy (v:=.tuple #[sv aE (asc ⟨#[102,97,108,115,101]⟩) al,iv 0]) (res_tt rfl bd d3 _) ?_)
 have ad:(textV v).1=(asc ⟨#[102,97,108,115,101]⟩):=by first|rfl|(simp only [textV,ac,aa,ab,ag,bsm] <;> rfl)|(exfalso; omega)
 exact⟨aE,al,(by show Ending.returned (.tuple #[sv aE (asc ⟨#[102,97,108,115,101]⟩) al,iv 0])=Ending.returned (.tuple #[sv aE ((textV v).1) al,iv ((textV v).2)]); (first|rfl|(simp only [textV,ac,aa,ab,ag,ad,bsm] <;> rfl)|(exfalso; omega))),(by rw [ad]; exact cB),cz⟩
 have bT:=oF ab
 have cC:=hB bS ab
 refine wf cC<| wk fun f1 cD=>?_
 refine wA tr2 [] 38 [ve (.bool (decide (((cleanV v).k)=3))),ve (.bool (decide (((cleanV v).k)=3)))] ap ?_ ?_
 exact .H bR (r_eql rfl)<| .B 0 .nil
 refine aftI ap bl bm fun f2 aM au br av aN aO=>?_
 have⟨bW,bX⟩:=aO.f2 bQ bR
 have bY:=aO.g 1 21
 have⟨bs,cE,cF⟩:=nw3 aN bn ch ci
 refine cD _ _ ?_
 rcases bc (decide (((cleanV v).k)=3)) with ae|ae
 have bZ:=oT ae
 have cG:=hB bY ae
 refine wt cG<| wk fun f3 cH=>?_
 refine wp_g0 [true,true,true,true,true,true] [] 38
  [ve (.pointer (some ⟨q9,1,none⟩)),ve (nv (Nm.mk ((cleanV v).nk) ((cleanV v).nn))),ve (.string (textM (Nm.mk ((cleanV v).nk) ((cleanV v).nn)))),
  (OP aM.heap.size 74 .u16 (asc (textM (Nm.mk ((cleanV v).nk) ((cleanV v).nn))))),
  (OP aM.heap.size 74 .u16 (asc (textM (Nm.mk ((cleanV v).nk) ((cleanV v).nn))))),ve (iv 0)] au (.eq (.eq (.eq (.cons (fun _ _ _ n ⟨_,_,e,h⟩=>⟨_,_,e,h.new_ n⟩) (.cons (fun _ _ _ n ⟨_,_,e,h⟩=>⟨_,_,e,h.new_ n⟩) (.eq .nil)))))) ?_ ?_
 refine .F bW<| .K2 0 bs<| .C 1 (fun m=>ntext_c (Nm.mk ((cleanV v).nk) ((cleanV v).nn)) _ (HT.up (av.transNew m))) ?_
 refine .o1 (tkC rfl (noG rfl) rfl fun _ w hn k=>(by
  refine ⟨#[.string (textM (Nm.mk ((cleanV v).nk) ((cleanV v).nn)))],_,args1 (k.eq1 2 25 rfl),fun w=>by kernel_rfl,ascii_c (textM (Nm.mk ((cleanV v).nk) ((cleanV v).nn))) _ (by first|omega|(show (_:Nat)≤_; decide)),?_⟩
  rintro e w' ⟨e6,e7,rfl,hmo0,hm⟩
  exact⟨_,rfl,hm,⟨e6,e7,rfl,(hmo0.more hn.size)⟩⟩)) ?_
 refine .o1 (tk rfl rfl fun _ w hn k=>(by
  obtain⟨e8,e9,fa,d4⟩:=k.G 3 26
  exact⟨_,v_assign rfl fa,⟨e8,e9,rfl,d4⟩⟩)) ?_
 exact .c .nil
 refine aftI au br av fun d5 f4 fC cI cJ fD bt=>?_
 obtain⟨aF,am,be,cK⟩:=bt.G 4 2
 have be:d5.eval (.tmp 2)=sv aF (asc (textM (Nm.mk ((cleanV v).nk) ((cleanV v).nn)))) am:=be
 have d6:=bt.g 5 3
 have cL:=cK.more av.size
 refine cH _ _ ?_
 refine wp_ret (ret_k cI (v:=.tuple #[sv aF (asc (textM (Nm.mk ((cleanV v).nk) ((cleanV v).nn)))) am,iv 0]) (res_tt rfl be d6 _) ?_)
 have ad:(textV v).1=(asc (textM (Nm.mk ((cleanV v).nk) ((cleanV v).nn)))):=by first|rfl|(simp only [textV,ac,aa,ab,ae,bsm] <;> rfl)|(exfalso; omega)
 exact⟨aF,am,(by show Ending.returned (.tuple #[sv aF (asc (textM (Nm.mk ((cleanV v).nk) ((cleanV v).nn)))) am,iv 0])=Ending.returned (.tuple #[sv aF ((textV v).1) am,iv ((textV v).2)]); (first|rfl|(simp only [textV,ac,aa,ab,ae,ad,bsm] <;> rfl)|(exfalso; omega))),(by rw [ad]; exact cL),cJ⟩
 have bZ:=oF ae
 have cM:=hB bY ae
 refine wf cM<| wk fun f5 cN=>?_
 refine wA tr2 [] 38 [ve (.bool (decide (((cleanV v).k)=4))),ve (.bool (decide (((cleanV v).k)=4)))] au ?_ ?_
 exact .H bX (r_eql rfl)<| .B 0 .nil
 refine aftI au br av fun f6 aP aw bu aQ aR aS=>?_
 have⟨b0,d7⟩:=aS.f2 bW bX
 have b1:=aS.g 1 27
 have⟨bv,bw,cO⟩:=nw3 aR bs cE cF
 refine cN _ _ ?_
 rcases bc (decide (((cleanV v).k)=4)) with af|af
 have b2:=oT af
 have cP:=hB b1 af
 refine wt cP<| wk fun f7 cQ=>?_
 refine wp_g0 [true,true,true,true,true,true] [] 38
  [ve (.pointer (some ⟨q9,3,none⟩)),ve (.agg #[.bool ((cleanV v).neg),sv aW ((cleanV v).mag) ay]),ve (.string (strOfNums (textI (goodI ((cleanV v).neg) ((cleanV v).mag))))),
  (OP aP.heap.size 74 .u16 (asc (strOfNums (textI (goodI ((cleanV v).neg) ((cleanV v).mag)))))),
  (OP aP.heap.size 74 .u16 (asc (strOfNums (textI (goodI ((cleanV v).neg) ((cleanV v).mag)))))),ve (iv 0)] aw (.eq (.eq (.eq (.cons (fun _ _ _ n ⟨_,_,e,h⟩=>⟨_,_,e,h.new_ n⟩) (.cons (fun _ _ _ n ⟨_,_,e,h⟩=>⟨_,_,e,h.new_ n⟩) (.eq .nil)))))) ?_ ?_
 refine .F b0<| .K6 0 bv<| .C 1 (fun m=>bText_c ((cleanV v).neg) _ ((cleanV v).mag) _ _ (bw.new_ m) hvv.clean.limbs) ?_
 refine .o1 (tkC rfl (noG rfl) rfl fun _ w hn k=>(by
  refine ⟨#[.string (strOfNums (textI (goodI ((cleanV v).neg) ((cleanV v).mag))))],_,args1 (k.eq1 2 31 rfl),fun w=>by kernel_rfl,ascii_c (strOfNums (textI (goodI ((cleanV v).neg) ((cleanV v).mag)))) _ (by first|omega|(show (_:Nat)≤_; decide)),?_⟩
  rintro e w' ⟨ff,fg,rfl,hmo0,hm⟩
  exact⟨_,rfl,hm,⟨ff,fg,rfl,(hmo0.more hn.size)⟩⟩)) ?_
 refine .o1 (tk rfl rfl fun _ w hn k=>(by
  obtain⟨fh,fi,fj,d8⟩:=k.G 3 32
  exact⟨_,v_assign rfl fj,⟨fh,fi,rfl,d8⟩⟩)) ?_
 exact .c .nil
 refine aftI aw bu aQ fun d9 f8 fE cR cS fF bx=>?_
 obtain⟨aG,an,bf,cT⟩:=bx.G 4 2
 have bf:d9.eval (.tmp 2)=sv aG (asc (strOfNums (textI (goodI ((cleanV v).neg) ((cleanV v).mag))))) an:=bf
 have ea:=bx.g 5 3
 have cU:=cT.more aQ.size
 refine cQ _ _ ?_
 refine wp_ret (ret_k cR (v:=.tuple #[sv aG (asc (strOfNums (textI (goodI ((cleanV v).neg) ((cleanV v).mag))))) an,iv 0]) (res_tt rfl bf ea _) ?_)
 have ad:(textV v).1=(asc (strOfNums (textI (goodI ((cleanV v).neg) ((cleanV v).mag))))):=by first|rfl|(simp only [textV,ac,aa,ab,ae,af,bsm] <;> rfl)|(exfalso; omega)
 exact⟨aG,an,(by show Ending.returned (.tuple #[sv aG (asc (strOfNums (textI (goodI ((cleanV v).neg) ((cleanV v).mag))))) an,iv 0])=Ending.returned (.tuple #[sv aG ((textV v).1) an,iv ((textV v).2)]); (first|rfl|(simp only [textV,ac,aa,ab,ae,af,ad,bsm] <;> rfl)|(exfalso; omega))),(by rw [ad]; exact cU),cS⟩
 have b2:=oF af
 have cV:=hB b1 af
 refine wf cV<| wk fun f9 cW=>?_
 refine wA tr2 [] 38 [ve (.bool (decide (((cleanV v).k)=5))),ve (.bool (decide (((cleanV v).k)=5)))] aw ?_ ?_
 exact .H d7 (r_eql rfl)<| .B 0 .nil
 refine aftI aw bu aQ fun ga aT ax bz aU aV bA=>?_
 have eb:=bA.f1 b0
 have b3:=bA.g 1 33
 have⟨cX,fG,cY⟩:=nw3 aV bv bw cO
 refine cW _ _ ?_
 rcases bc (decide (((cleanV v).k)=5)) with ah|ah
 have b4:=oT ah
 have cZ:=hB b3 ah
 refine wt cZ<| wk fun gb c0=>?_
 refine wp_g0 [true,true,true,true,true] [] 38
  [ve (.pointer (some ⟨q9,5,none⟩)),ve (sv az ((cleanV v).s) aA),
  (OP aT.heap.size 74 .u16 ((cleanV v).s)),
  (OP aT.heap.size 74 .u16 ((cleanV v).s)),ve (iv 0)] ax (.eq (.eq (.cons (fun _ _ _ n ⟨_,_,e,h⟩=>⟨_,_,e,h.new_ n⟩) (.cons (fun _ _ _ n ⟨_,_,e,h⟩=>⟨_,_,e,h.new_ n⟩) (.eq .nil))))) ?_ ?_
 refine .F eb<| .J 0 isAgg27 cX ?_
 refine .o1 (tkC rfl (noG rfl) rfl fun _ w hn k=>(by
  refine ⟨#[sv az ((cleanV v).s) aA],_,args1 (k.eq1 1 36 rfl),fun w=>by kernel_rfl,clone16_c _ ((cleanV v).s) _ _ (cY.new_ hn) (by first|omega|(simp only [List.length_nil,List.length_take,List.length_drop]; omega)|(simp only [List.length_cons,List.length_nil]; omega)),?_⟩
  rintro e w' ⟨fo,fp,rfl,hmo0,hm⟩
  exact⟨_,rfl,hm,⟨fo,fp,rfl,(hmo0.more hn.size)⟩⟩)) ?_
 refine .o1 (tk rfl rfl fun _ w hn k=>(by
  obtain⟨fq,fs,ft,ec⟩:=k.G 2 37
  exact⟨_,v_assign rfl ft,⟨fq,fs,rfl,ec⟩⟩)) ?_
 exact .c .nil
 refine aftI ax bz aU fun ed gc fH c1 c3 fI bB=>?_
 obtain⟨aH,ao,bg,c5⟩:=bB.G 3 2
 have bg:ed.eval (.tmp 2)=sv aH ((cleanV v).s) ao:=bg
 have ee:=bB.g 4 3
 have c9:=c5.more aU.size
 refine c0 _ _ ?_
 refine wp_ret (ret_k c1 (v:=.tuple #[sv aH ((cleanV v).s) ao,iv 0]) (res_tt rfl bg ee _) ?_)
 have ad:(textV v).1=((cleanV v).s):=by first|rfl|(simp only [textV,ac,aa,ab,ae,af,ah,bsm] <;> rfl)|(exfalso; omega)
 exact⟨aH,ao,(by show Ending.returned (.tuple #[sv aH ((cleanV v).s) ao,iv 0])=Ending.returned (.tuple #[sv aH ((textV v).1) ao,iv ((textV v).2)]); (first|rfl|(simp only [textV,ac,aa,ab,ae,af,ah,ad,bsm] <;> rfl)|(exfalso; omega))),(by rw [ad]; exact c9),c3⟩
 have b4:=oF ah
 have da:=hB b3 ah
 refine wf da<| ws ?_
 refine dy _ _ ?_
 refine wk fun gd db=>?_
 refine wA tr2 [] 38 [ve (sv none ([]) 0),ve (iv 3)] ax ?_ ?_
 exact .c<| .c .nil
 refine aftI ax bz aU fun gf gg fJ dc dd fK bC=>?_
 have ef:=bC.g 0 2
 have eg:=bC.g 1 3
 refine db _ _ ?_
 refine wp_ret (ret_k dc (v:=.tuple #[sv none ([]) 0,iv 3]) (res_tt rfl ef eg _) ?_)
 have ad:(textV v).1=[]:=by first|rfl|(simp only [textV,ac,aa,ab,ae,af,ah,bsm] <;> rfl)|(exfalso; omega)
 exact⟨none,0,(by show Ending.returned (.tuple #[sv none ([]) 0,iv 3])=Ending.returned (.tuple #[sv none ((textV v).1) 0,iv ((textV v).2)]); (first|rfl|(simp only [textV,ac,aa,ab,ae,af,ah,ad,bsm] <;> rfl)|(exfalso; omega))),(by rw [ad]; exact (SOwn.nil _ _ _ _)),dd⟩
def join_c_P (v:Vl) (Av:Option Addr) (cv:Nat) (Bv:Option Addr) (dv:Nat) (u:Vl) (Au:Option Addr) (cu:Nat) (Bu:Option Addr) (du:Nat) (w:World) (en:Ending) (w':World):Prop:=∃ (Ar0:Option Addr) (cr0:Nat) (Ar1:Option Addr) (cr1:Nat),en=.returned (.tuple #[vv (joinV v u).1 Ar0 cr0 Ar1 cr1,iv ((joinV v u).2)])∧SRow w' .u32 Ar0 ((joinV v u).1.mag) cr0∧SRow w' .u16 Ar1 ((joinV v u).1.s) cr1∧New w w'
theorem join_c (v:Vl) (Av:Option Addr) (cv:Nat) (Bv:Option Addr) (dv:Nat) (u:Vl) (Au:Option Addr) (cu:Nat) (Bu:Option Addr) (du:Nat) (w:World) (hmv:SRow w .u32 Av v.mag cv) (hsv:SRow w .u16 Bv v.s dv) (hmu:SRow w .u32 Au u.mag cu) (hsu:SRow w .u16 Bu u.s du) (hvv:VOk v) (hvu:VOk u) (HT:ItoaOk w):Calls prog 35 #[vv v Av cv Bv dv,vv u Au cu Bu du] w (join_c_P v Av cv Bv dv u Au cu Bu du w):=by
 refine enter_abs func35 rfl fun a0 a8 ex hp=>?_
 have a8:a0.tmps.size=40:=a8
 have a9:New w w:=Upd.refl _ _
 have hp0:a0.eval (.tmp 0)=vv v Av cv Bv dv:=hp 0 _ rfl
 have hp1:a0.eval (.tmp 1)=vv u Au cu Bu du:=hp 1 _ rfl
 have htl1:=text_len hvv
 have htl2:=text_len hvu
 refine wk fun K1 ey=>?_
 refine wB tr4 [] [] 40 [IsNew w 29 (c7 v Av cv Bv dv),IsNew w 29 (c7 u Au cu Bu du),IsNew w 29 z7,ve (iv 0)] [0,1,2] a8 ?_ heN ?_
 exact .X hp0<| .X hp1<| .Y<| .c .nil
 refine aftI a8 ex a9 fun a2 w3 dx ez aC f9 a3=>?_
 obtain⟨q9,h8,dE,dF⟩:=a3.G 0 2
 obtain⟨eA,dy,dG,dH⟩:=a3.G 1 3
 obtain⟨aI,bw,dI,dJ⟩:=a3.G 2 4
 have hne20:=a3.ne 0 2 2 4 h8 bw
 have hne21:=a3.ne 1 2 3 4 dy bw
 have fq:=Nat.le_trans a9.size dE
 have fs:=Nat.le_trans a9.size dG
 have ft:=Nat.le_trans a9.size dI
 refine ey _ _ <| wk fun ga dK=>?_
 refine wp_g0 [true,true,true,true,true,true,true] [] 40
  [ve (vv v Av cv Bv dv),(fun (v_:Value) (W:World)=>∃ (A3:Option Addr) (c4:Nat),v_=.tuple #[sv A3 ((textV v).1) c4,iv ((textV v).2)]∧SOwn W w3.heap.size 74 .u16 A3 ((textV v).1) c4),(fun (v_:Value) (W:World)=>∃ (A9:Option Addr) (ao:Nat),v_=.tuple #[sv A9 ((textV v).1) ao,iv ((textV v).2)]∧SOwn W w3.heap.size 74 .u16 A9 ((textV v).1) ao),
  (OP w3.heap.size 74 .u16 ((textV v).1)),ve (iv ((textV v).2)),
  (OP w3.heap.size 74 .u16 ((textV v).1)),ve (iv ((textV v).2))] dx (.eq (.cons (fun _ _ _ n ⟨_,_,e,h⟩=>⟨_,_,e,h.new_ n⟩) (.cons (fun _ _ _ n ⟨_,_,e,h⟩=>⟨_,_,e,h.new_ n⟩) (.cons (fun _ _ _ n ⟨_,_,e,h⟩=>⟨_,_,e,h.new_ n⟩) (.eq (.cons (fun _ _ _ n ⟨_,_,e,h⟩=>⟨_,_,e,h.new_ n⟩) (.eq .nil))))))) ?_ ?_
 refine .L9 h8 dF ?_
 refine .o1 (tkC rfl (noG rfl) rfl fun _ w hn k=>(by
  refine ⟨#[vv v Av cv Bv dv],_,args1 (k.eq1 0 10 rfl),fun w=>by kernel_rfl,ctext_c v _ _ _ _ _ (hmv.new_ (aC.transNew hn)) (hsv.new_ (aC.transNew hn)) hvv (HT.up (aC.transNew hn)),?_⟩
  rintro e w' ⟨A1,c2,rfl,hmo0,hm⟩
  exact⟨_,rfl,hm,⟨A1,c2,rfl,(hmo0.more hn.size)⟩⟩)) ?_
 refine .o1 (tk rfl rfl fun _ w hn k=>(by
  obtain⟨A5,c6,e7,eF⟩:=k.G 1 11
  exact⟨_,v_move rfl e7,⟨A5,c6,rfl,eF⟩⟩)) ?_
 refine .o1 (tk rfl rfl fun _ w hn k=>(by
  obtain⟨eG,eH,eI,dL⟩:=k.G 2 9
  exact⟨_,v_extract rfl eI rfl,⟨eG,eH,rfl,dL⟩⟩)) ?_
 refine .o1 (tk rfl rfl fun _ w hn k=>(by
  obtain⟨gb,gc,eJ,fu⟩:=k.G 2 9
  exact⟨_,v_extract rfl eJ rfl,rfl⟩)) ?_
 refine .o1 (tk rfl rfl fun _ w hn k=>(by
  obtain⟨eK,eL,eM,dM⟩:=k.G 3 12
  exact⟨_,v_assign rfl eM,⟨eK,eL,rfl,dM⟩⟩)) ?_
 exact .B 4 .nil
 refine aftI dx ez aC fun eN gd aJ bx bz bA aK=>?_
 have⟨dz,dA⟩:=aK.f2 dy bw
 obtain⟨ba,aL,bb,dN⟩:=aK.G 5 6
 have bb:eN.eval (.tmp 6)=sv ba ((textV v).1) aL:=bb
 have bd:=aK.g 6 7
 have⟨bB,bC⟩:=nw2 bA dH dJ
 have bD:=dN.more aC.size
 refine dK _ _ <| wk fun gf dO=>?_
 refine wk fun gg bE=>?_
 rcases bc (decide (((textV v).2)=0)) with aa|aa
 have ch:=oT aa
 refine wA tr2 [] 40 [ve (iv ((textV v).2)),vF] aJ ?_ ?_
 exact .M bd<| .b 0 (r_neq aa) .nil
 refine aftI aJ bx bz fun gh ar bF dP aD a4 aE=>?_
 have⟨eO,eP,eQ,gi⟩:=aE.f4 dz dA bb bd
 have eR:=aE.g 1 15
 have⟨dQ,dR,dS⟩:=nw3 a4 bB bC bD
 refine bE _ _ ?_
 refine wf eR<| ws ?_
 refine dO _ _ ?_
 refine wk fun gj dT=>?_
 refine wp_g0 [true,true,true,true,true,true,true] [] 40
  [ve (vv u Au cu Bu du),(fun (v_:Value) (W:World)=>∃ (aF:Option Addr) (aG:Nat),v_=.tuple #[sv aF ((textV u).1) aG,iv ((textV u).2)]∧SOwn W ar.heap.size 74 .u16 aF ((textV u).1) aG),(fun (v_:Value) (W:World)=>∃ (ap:Option Addr) (aq:Nat),v_=.tuple #[sv ap ((textV u).1) aq,iv ((textV u).2)]∧SOwn W ar.heap.size 74 .u16 ap ((textV u).1) aq),
  (OP ar.heap.size 74 .u16 ((textV u).1)),ve (iv ((textV u).2)),
  (OP ar.heap.size 74 .u16 ((textV u).1)),ve (iv ((textV u).2))] bF (.eq (.cons (fun _ _ _ n ⟨_,_,e,h⟩=>⟨_,_,e,h.new_ n⟩) (.cons (fun _ _ _ n ⟨_,_,e,h⟩=>⟨_,_,e,h.new_ n⟩) (.cons (fun _ _ _ n ⟨_,_,e,h⟩=>⟨_,_,e,h.new_ n⟩) (.eq (.cons (fun _ _ _ n ⟨_,_,e,h⟩=>⟨_,_,e,h.new_ n⟩) (.eq .nil))))))) ?_ ?_
 refine .L9 eO dQ ?_
 refine .o1 (tkC rfl (noG rfl) rfl fun _ w hn k=>(by
  refine ⟨#[vv u Au cu Bu du],_,args1 (k.eq1 0 19 rfl),fun w=>by kernel_rfl,ctext_c u _ _ _ _ _ (hmu.new_ (aD.transNew hn)) (hsu.new_ (aD.transNew hn)) hvu (HT.up (aD.transNew hn)),?_⟩
  rintro e w' ⟨eW,eX,rfl,hmo0,hm⟩
  exact⟨_,rfl,hm,⟨eW,eX,rfl,(hmo0.more hn.size)⟩⟩)) ?_
 refine .o1 (tk rfl rfl fun _ w hn k=>(by
  obtain⟨eY,eZ,e0,dU⟩:=k.G 1 20
  exact⟨_,v_move rfl e0,⟨eY,eZ,rfl,dU⟩⟩)) ?_
 refine .o1 (tk rfl rfl fun _ w hn k=>(by
  obtain⟨e1,e2,e3,dV⟩:=k.G 2 18
  exact⟨_,v_extract rfl e3 rfl,⟨e1,e2,rfl,dV⟩⟩)) ?_
 refine .o1 (tk rfl rfl fun _ w hn k=>(by
  obtain⟨gk,gl,e4,fv⟩:=k.G 2 18
  exact⟨_,v_extract rfl e4 rfl,rfl⟩)) ?_
 refine .o1 (tk rfl rfl fun _ w hn k=>(by
  obtain⟨e5,e6,e8,dW⟩:=k.G 3 21
  exact⟨_,v_assign rfl e8,⟨e5,e6,rfl,dW⟩⟩)) ?_
 exact .B 4 .nil
 refine aftI bF dP aD fun e9 gm aM bG bH bI aN=>?_
 have⟨dB,dC⟩:=aN.f2 eP eQ
 obtain⟨be,aO,bf,dX⟩:=aN.G 5 8
 have bf:e9.eval (.tmp 8)=sv be ((textV u).1) aO:=bf
 have bg:=aN.g 6 7
 have⟨bJ,bK⟩:=nw2 bI dR dS
 have bL:=dX.more aD.size
 refine dT _ _ <| wk fun gn dY=>?_
 refine wb<| wk fun go bM=>?_
 rcases bc (decide (((textV u).2)=0)) with ab|ab
 have ci:=oT ab
 refine wA tr3 [] 40 [ve (iv ((textV u).2)),vF,vF] aM ?_ ?_
 exact .M bg<| .b 0 (r_neq ab)<| .B 1 .nil
 refine aftI aM bG bH fun gp gq aP bN bO a5 aH=>?_
 have⟨dD,bh,bi,gr⟩:=aH.f4 dB dC bf bg
 have fa:=aH.g 2 23
 have⟨bP,bQ,bR⟩:=nw3 a5 bJ bK bL
 refine bM _ _ ?_
 refine wf fa<| wk fun gs bS=>?_
 rcases bc (decide ((((((textV v).1).length) + (((textV u).1).length):Nat):Int)≤4096)) with ae|ae
 have cj:=oT ae
 refine wA tr7 [] 40 [ve (sv ba ((textV v).1) aL),ve (iv (((textV v).1).length:Int)),ve (sv be ((textV u).1) aO),ve (iv (((textV u).1).length:Int)),ve (iv (((((textV v).1).length) + (((textV u).1).length):Nat):Int)),vF,vF] aP ?_ ?_
 exact .M bh<| .T (fun k=>v_lenR rfl elU (k.eq1 0 29 rfl))<| .M bi<| .T (fun k=>v_lenR rfl elU (k.eq1 2 31 rfl))<| .R (fun k=>v_bin rfl (k.eq1 1 30 rfl) (k.eq1 3 32 rfl) (fun _=>rfl) (n_add (by omega) (IntWalk.i64_in _ (by omega)))) (fun _=>rfl)<| .b 4 (r_gtrK ae)<| .B 5 .nil
 refine aftI aP bN bO fun fw fy bj cl cm aQ ax=>?_
 have⟨dZ,d0,d1⟩:=ax.f3 dD bh bi
 have d2:=ax.g 6 28
 have⟨cn,co,cp⟩:=nw3 aQ bP bQ bR
 refine bS _ _ ?_
 refine wf d2<| ws ?_
 refine dY _ _ ?_
 refine wk fun fz cq=>?_
 have hjl:((textV v).1 ++ (textV u).1).length≤4096:=by rw [List.length_append]; omega
 refine wA [true,true,false,false,false,false] [(2,false),(3,false),(4,false),(5,true)] 40 [ve (sv ba ((textV v).1) aL),ve (sv be ((textV u).1) aO),vt,vt,vt,vt] bj ?_ ?_
 exact .M d0<| .M d1<| .off<| .off<| .off<| .off .nil
 refine aftI bj cl cm fun bT fA bk cr bl aR aS=>?_
 have d3:=aS.f1 dZ
 have d4:=aS.g 0 36
 have d5:=aS.g 1 37
 have⟨ct,aT,cw⟩:=nw3 aR cn co cp
 have hw136:=bl.size
 refine st_act rfl rfl fun fB cx=>a_append (k:=.u16) (b:=w.heap.size) rfl elU d4 aT d5 cw.row (by first|omega|(simp only [List.length_nil,List.length_cons,List.length_append,List.length_take,List.length_drop,List.length_replicate,List.length_set]; omega)) (by first|omega|(simp only [List.length_nil,List.length_cons,List.length_append,List.length_take,List.length_drop,List.length_replicate,List.length_set]; omega)) hw136 fun aU ay fC bm hg132=>cx _ _ trivial ?_
 have cy:=bl.ownGrown aT hg132
 have cz:=ct.ownGrown aT (by decide) hg132
 obtain⟨a6,au⟩:∃ a',a'=bT.put (some 38) (sv aU ((textV v).1 ++ (textV u).1) ay):=⟨_,rfl⟩
 have⟨bn,cA⟩:=pz2 au bk cr
 have d6:=pN au d3
 have bU:=s7 au bk
 show stepsTo _ _ _ _ _ (bT.put (some 38) (sv aU ((textV v).1 ++ (textV u).1) ay)) _
 rw [← au]
 refine st_act rfl rfl fun fD cB=>?_
 refine a_call (args:=#[sv aU ((textV v).1 ++ (textV u).1) ay]) rfl (args1 bU) (fun w=>by kernel_rfl) (cstr_c _ ((textV v).1 ++ (textV u).1) _ _ bm.row (by first|omega|(simp only [List.length_nil,List.length_take,List.length_drop]; omega)|(simp only [List.length_cons,List.length_nil]; omega))) ?_
 rintro fE fF ⟨af,ac,ag,ad,rfl,cC,cD,aV⟩
 refine ⟨_,rfl,cB _ _ trivial ?_⟩
 have⟨az,cE⟩:=nw2 aV cz bm
 have cF:=cy.transNew aV
 obtain⟨a7,am⟩:∃ a',a'=a6.put (some 39) (vv (strV ((textV v).1 ++ (textV u).1)) af ac ag ad):=⟨_,rfl⟩
 have⟨bo,cG⟩:=pz2 am bn cA
 have⟨bV,d7⟩:=pN2 am d6 bU
 have bW:=s7 am bn
 show stepsTo _ _ _ _ _ (a6.put (some 39) (vv (strV ((textV v).1 ++ (textV u).1)) af ac ag ad)) _
 rw [← am]
 refine sS9 bV bW az fun d8 cH aA fb=>?_
 have fc:=cE.far az aA (by decide)
 have cJ:=cC.fr az aA
 have cK:=cD.fr az aA
 have cL:=cF.tR aA
 refine sP (v:=iv 0) rfl bo cG fun d9 fd cM ah eb=>?_
 have⟨ea,fH,fI⟩:=ah.q3 bV d7 bW
 refine cq _ _ ?_
 refine wp_ret (ret_k cM (v:=.tuple #[vv (strV ((textV v).1 ++ (textV u).1)) af ac ag ad,iv 0]) (res_ct rfl ea eb (l_agg isAgg29 sizeOf29 cH rfl)) ?_)
 have ak:(joinV v u).1.mag=(strV ((textV v).1 ++ (textV u).1)).mag:=by first|rfl|(simp only [joinV,Vl.z,aa,ab,ae,bsm] <;> rfl)|(exfalso; omega)
 have al:(joinV v u).1.s=(strV ((textV v).1 ++ (textV u).1)).s:=by first|rfl|(simp only [joinV,Vl.z,aa,ab,ae,bsm] <;> rfl)|(exfalso; omega)
 exact⟨af,ac,ag,ad,(by show Ending.returned (.tuple #[vv (strV ((textV v).1 ++ (textV u).1)) af ac ag ad,iv 0])=Ending.returned (.tuple #[vv (joinV v u).1 af ac ag ad,iv ((joinV v u).2)]); (first|rfl|(simp only [joinV,Vl.z,aa,ab,ae,ak,al,bsm] <;> rfl)|(exfalso; omega))),(by rw [ak]; exact cJ),(by rw [al]; exact cK),cL⟩
 have cj:=oF ae
 refine wA tr7 [] 40 [ve (sv ba ((textV v).1) aL),ve (iv (((textV v).1).length:Int)),ve (sv be ((textV u).1) aO),ve (iv (((textV u).1).length:Int)),ve (iv (((((textV v).1).length) + (((textV u).1).length):Nat):Int)),vT,vT] aP ?_ ?_
 exact .M bh<| .T (fun k=>v_lenR rfl elU (k.eq1 0 29 rfl))<| .M bi<| .T (fun k=>v_lenR rfl elU (k.eq1 2 31 rfl))<| .R (fun k=>v_bin rfl (k.eq1 1 30 rfl) (k.eq1 3 32 rfl) (fun _=>rfl) (n_add (by omega) (IntWalk.i64_in _ (by omega)))) (fun _=>rfl)<| .b 4 (r_gtrK ae)<| .B 5 .nil
 refine aftI aP bN bO fun fJ fK bp cN cO aW aB=>?_
 have⟨ec,fL,fM⟩:=aB.f3 dD bh bi
 have ed:=aB.g 6 28
 have⟨cP,fe,ff⟩:=nw3 aW bP bQ bR
 refine bS _ _ ?_
 refine wt ed<| wk fun fN cQ=>?_
 refine wA [true,false,false] [(1,false),(2,true)] 40 [ve (vv (Vl.mk 0 0 0 false [] [] 0) none 0 none 0),vt,vt] bp ?_ ?_
 exact .Z<| .off<| .off .nil
 refine aftI bp cN cO fun bZ fO bq cR cS cT br=>?_
 have b0:=br.f1 ec
 have b1:=br.g 0 35
 have cU:=cP.new_ cT
 refine sS9 b0 b1 cU fun ee cW cV fg=>?_
 have cY:=cS.tR cV
 refine sP (v:=iv 3) rfl bq cR fun ef fh cZ an eh=>?_
 have⟨eg,fQ⟩:=an.q2 b0 b1
 refine cQ _ _ ?_
 refine wp_ret (ret_k cZ (res9 eg eh cW) ?_)
 exact rV (by first|rfl|(simp only [joinV,Vl.z,aa,ab,ae,bsm] <;> rfl)|(exfalso; omega)) cY
 have ci:=oF ab
 refine wA tr3 [] 40 [ve (iv ((textV u).2)),vT,vT] aM ?_ ?_
 exact .M bg<| .b 0 (r_neq ab)<| .B 1 .nil
 refine aftI aM bG bH fun fR fS bs c0 c1 aX av=>?_
 have⟨ei,fT,fU,ej⟩:=av.f4 dB dC bf bg
 have ek:=av.g 2 23
 have⟨c3,fi,fj⟩:=nw3 aX bJ bK bL
 refine bM _ _ ?_
 refine wt ek<| wk fun fV c5=>?_
 refine wB [true,true,false,false] [1] [(2,false),(3,true)] 40 [ve (vv (Vl.mk 0 0 0 false [] [] 0) none 0 none 0),ve (iv ((textV u).2)),vt,vt] [] bs ?_ ?_ ?_
 refine .Z ?_
 refine .o3 ?_
 exact .off<| .off .nil
 refine eg1 ?_
 exact eager_take rfl rfl fun _ w hn k=>⟨iv ((textV u).2),fun w=>v_move rfl (k.fx 7 ej),rfl⟩
 refine aftI bs c0 c1 fun b4 fW bt c8 c9 da aY=>?_
 have b5:=aY.f1 ei
 have b6:=aY.g 0 26
 have b7:=aY.g 1 27
 have db:=c3.new_ da
 refine sS9 b5 b6 db fun el dd dc fk=>?_
 have df:=c9.tR dc
 refine sP b7 bt c8 fun em fl dg ai eo=>?_
 have⟨en,fY,fZ⟩:=ai.q3 b5 b6 b7
 refine c5 _ _ ?_
 refine wp_ret (ret_k dg (res9 en eo dd) ?_)
 exact rV (by first|rfl|(simp only [joinV,Vl.z,aa,ab,bsm] <;> rfl)|(exfalso; omega)) df
 have ch:=oF aa
 refine wA tr2 [] 40 [ve (iv ((textV v).2)),vT] aJ ?_ ?_
 exact .M bd<| .b 0 (r_neq aa) .nil
 refine aftI aJ bx bz fun f0 f1 bu dh di aZ aw=>?_
 have⟨f2,ep,f3,er⟩:=aw.f4 dz dA bb bd
 have es:=aw.g 1 15
 have⟨fm,dj,fn⟩:=nw3 aZ bB bC bD
 refine bE _ _ ?_
 refine wt es<| wk fun f4 dk=>?_
 refine wB [true,true,false,false] [1] [(2,false),(3,true)] 40 [ve (vv (Vl.mk 0 0 0 false [] [] 0) none 0 none 0),ve (iv ((textV v).2)),vt,vt] [] bu ?_ ?_ ?_
 refine .Z ?_
 refine .o3 ?_
 exact .off<| .off .nil
 refine eg1 ?_
 exact eager_take rfl rfl fun _ w hn k=>⟨iv ((textV v).2),fun w=>v_move rfl (k.fx 7 er),rfl⟩
 refine aftI bu dh di fun ca f5 bv dl dm dn a1=>?_
 have cb:=a1.f1 ep
 have cc:=a1.g 0 16
 have cd:=a1.g 1 17
 have dp:=dj.new_ dn
 refine sS9 cb cc dp fun et dr dq fo=>?_
 have dt:=dm.tR dq
 refine sP cd bv dl fun eu fp dw aj ew=>?_
 have⟨ev,f7,f8⟩:=aj.q3 cb cc cd
 refine dk _ _ ?_
 refine wp_ret (ret_k dw (res9 ev ew dr) ?_)
 exact rV (by first|rfl|(simp only [joinV,Vl.z,aa,bsm] <;> rfl)|(exfalso; omega)) dt
def cmpU:List Nat→List Nat→Int
  | [],[]=>0
  | [],_ :: _=>-1
  | _ :: _,[]=>1
  | x :: a,y :: b=>if x < y then -1 else if y < x then 1 else cmpU a b
theorem drop_getD {a:List Nat} {i:Nat} (h:i < a.length):a.drop i=a.getD i 0 :: a.drop (i + 1):=by
  rw [List.drop_eq_getElem_cons h]
  simp [List.getD,h]
theorem cmpU_step {a b:List Nat} {i:Nat} (ha:i < a.length) (hb:i < b.length):cmpU (a.drop i) (b.drop i)=if cmpI (a.getD i 0) (b.getD i 0)=0 then cmpU (a.drop (i + 1)) (b.drop (i + 1)) else cmpI (a.getD i 0) (b.getD i 0):=by
  rw [drop_getD ha,drop_getD hb]
  show (if _ < _ then (-1:Int) else if _ < _ then 1 else _)=_
  generalize a.getD i 0=x
  generalize b.getD i 0=y
  unfold cmpI
  by_cases h1:x < y
  · simp [h1]
  · by_cases h2:y < x
    · simp [h1,h2]
    · simp [h1,h2]
theorem cmpU_next {a b:List Nat} {i:Nat} (ha:i < a.length) (hb:i < b.length) (h:decide (cmpI (a.getD i 0) (b.getD i 0)=0)=true) (hc:cmpU (a.drop i) (b.drop i)=cmpU a b):cmpU (a.drop (i + 1)) (b.drop (i + 1))=cmpU a b:=by
  rw [cmpU_step ha hb,if_pos (of_decide_eq_true h)] at hc
  exact hc
theorem cmpU_out {a b:List Nat} {i:Nat} (ha:i < a.length) (hb:i < b.length) (h:decide (cmpI (a.getD i 0) (b.getD i 0)=0)=false) (hc:cmpU (a.drop i) (b.drop i)=cmpU a b):cmpI (a.getD i 0) (b.getD i 0)=cmpU a b:=by
  rw [cmpU_step ha hb,if_neg (of_decide_eq_false h)] at hc
  exact hc
theorem cmpU_more {a b:List Nat} {i:Nat} (ha:i < a.length) (hb:b.length≤i) (hc:cmpU (a.drop i) (b.drop i)=cmpU a b):1=cmpU a b:=by
  rw [drop_getD ha,List.drop_eq_nil_of_le hb] at hc
  exact hc
theorem cmpU_less {a b:List Nat} {i:Nat} (ha:a.length≤i) (hb:i < b.length) (hc:cmpU (a.drop i) (b.drop i)=cmpU a b):-1=cmpU a b:=by
  rw [drop_getD hb,List.drop_eq_nil_of_le ha] at hc
  exact hc
theorem cmpU_end {a b:List Nat} {i:Nat} (ha:a.length≤i) (hb:b.length≤i) (hc:cmpU (a.drop i) (b.drop i)=cmpU a b):0=cmpU a b:=by
  rw [List.drop_eq_nil_of_le hb,List.drop_eq_nil_of_le ha] at hc
  exact hc
theorem cmpN_eq (x y:Nat):cmpI x y=if decide ((x:Int) < (y:Int)) then -1 else if !decide ((x:Int)≤(y:Int)) then 1 else 0:=by
  unfold cmpI
  by_cases h1:x < y
  · simp [h1]
  · by_cases h2:y < x
    · simp [h1,h2]
    · simp [h1,h2]
def truthR (t:Bool):Int:=if t then 1 else 0
def besideO (b:Bool) (m:List Nat) (a:Nm):Int × Bool:=if decide (a.k=2) then (0,false) else if decide (a.k=3) then (-1,true) else if decide (a.k=4) then (1,true) else (cmpZ (goodI b m) a.n,true)
theorem besideO_bd (b:Bool) (m:List Nat) (a:Nm):-1≤(besideO b m a).1∧(besideO b m a).1≤1:=by
  unfold besideO cmpZ
  repeat' split
  all_goals exact⟨by decide,by decide⟩
def orderO (v u:Vl):Int × Bool :=
  if decide (v.k=4) && decide (u.k=4) then (cmpZ (goodI v.neg v.mag) (goodI u.neg u.mag),true)
  else if decide (v.k=4) then besideO v.neg v.mag u.num
  else if decide (u.k=4) then (-(besideO u.neg u.mag v.num).1,(besideO u.neg u.mag v.num).2)
  else if lessM v.num u.num then (-1,true) else if equalM v.num u.num then (0,true) else (1,lessM u.num v.num)
def lessT (v u:Vl) (t n:Bool):Int × Int × Int :=
  if decide (v.k=6) || decide (u.k=6) then (0,0,3)
  else if decide (v.k=5) && decide (u.k=5) then (if t then (2,truthR (decide (cmpU u.s v.s < 0) != n),0) else (2,truthR (decide (cmpU v.s u.s < 0) != n),0))
  else if (decide (v.k=5) && decide (u.k=4)) || (decide (v.k=4) && decide (u.k=5)) then (0,0,3)
  else if decide ((numericV v).2=0) then
    (if decide ((numericV u).2=0) then
      (if t then (2,truthR ((orderO (numericV u).1 (numericV v).1).2 && (decide ((orderO (numericV u).1 (numericV v).1).1 < 0) != n)),0)
       else (2,truthR ((orderO (numericV v).1 (numericV u).1).2 && (decide ((orderO (numericV v).1 (numericV u).1).1 < 0) != n)),0))
     else (0,0,(numericV u).2))
  else (0,0,(numericV v).2)

theorem cnan_c (a:Nat) (w:World) (ha:a < 65536):Calls prog 192 #[.int .u16 (a:Int)] w (IsRet (.bool false) w):=by
 refine enter_abs func192 rfl fun a0 aa ag hp=>?_
 have aa:a0.tmps.size=6:=aa
 have ah:New w w:=Upd.refl _ _
 have hp0:a0.eval (.tmp 0)=.int .u16 (a:Int):=hp 0 _ rfl
 refine wk fun K1 ai=>?_
 refine wA tr1 [] 6 [vF] aa ?_ ?_
 exact .c .nil
 refine aftI aa ag ah fun a2 w3 ab aj ak ap al=>?_
 have h8:=al.f1 hp0
 refine ai _ _ <| wk fun aq ac=>?_
 refine wA tr4 [] 6 [ve (.int .u16 (a:Int)),ve (.int .u16 (a:Int)),vF,vF] ab ?_ ?_
 exact .M h8<| .M h8<| .T (fun k=>v_bin rfl (k.eq1 0 3 rfl) (k.eq1 1 4 rfl) (fun _=>rfl) (n_neq_self _ _))<| .B 2 .nil
 refine aftI ab aj ak fun ar au an ad ae ao af=>?_
 have am:=af.g 3 2
 refine ac _ _ ?_
 refine wp_ret (ret_k ad (v:=.bool false) (res_t rfl am _) ?_)
 exact⟨rfl,ae⟩
theorem ccmp_c (a:Nat) (b:Nat) (w:World) (ha:a < 65536) (hb:b < 65536):Calls prog 182 #[.int .u16 (a:Int),.int .u16 (b:Int)] w (IsRet (iv (cmpI a b)) w):=by
 refine enter_abs func182 rfl fun a0 ak bm hp=>?_
 have ak:a0.tmps.size=20:=ak
 have bn:New w w:=Upd.refl _ _
 have hp0:a0.eval (.tmp 0)=.int .u16 (a:Int):=hp 0 _ rfl
 have hp1:a0.eval (.tmp 1)=.int .u16 (b:Int):=hp 1 _ rfl
 refine wk fun K1 bo=>?_
 refine wA tr1 [] 20 [ve (iv 0)] ak ?_ ?_
 exact .c .nil
 refine aftI ak bm bn fun a2 w3 aF bp aN bW aG=>?_
 have⟨h8,h9⟩:=aG.f2 hp0 hp1
 refine bo _ _ <| wk fun bX aO=>?_
 refine wA tr3 [] 20 [ve (.int .u16 (a:Int)),vF,vF] aF ?_ ?_
 exact .M h8<| .C 0 (fun n=>cnan_c a _ (by omega))<| .B 1 .nil
 refine aftI aF bp aN fun bY bZ am aP aQ bH af=>?_
 have⟨bq,aH⟩:=af.f2 h8 h9
 have br:=af.g 2 5
 refine aO _ _ <| wk fun b0 aR=>?_
 refine wA tr3 [] 20 [ve (.int .u16 (b:Int)),vF,vF] am ?_ ?_
 exact .M aH<| .C 0 (fun n=>cnan_c b _ (by omega))<| .B 1 .nil
 refine aftI am aP aQ fun b1 b2 an aS aT bI ad=>?_
 have⟨bs,bt,bu⟩:=ad.f3 bq aH br
 have bv:=ad.g 2 6
 refine aR _ _ <| wk fun b3 aU=>?_
 refine wk fun b4 aV=>?_
 refine wA tr1 [] 20 [vF] an ?_ ?_
 exact .M bu .nil
 refine aftI an aS aT fun b5 b6 ao aW aX bJ ae=>?_
 have⟨bw,bx,bz⟩:=ae.f3 bs bt bv
 have bA:=ae.g 0 11
 refine aV _ _ ?_
 refine wf bA<| ws ?_
 refine aU _ _ ?_
 refine wk fun b7 aY=>wk fun b8 aZ=>?_
 refine wA tr1 [] 20 [vF] ao ?_ ?_
 exact .M bz .nil
 refine aftI ao aW aX fun b9 ca ap a1 a3 bK ag=>?_
 have⟨aI,aJ⟩:=ag.f2 bw bx
 have bB:=ag.g 0 13
 refine aZ _ _ ?_
 refine wf bB<| ws ?_
 refine aY _ _ ?_
 refine wk fun cb a4=>wk fun cc a5=>?_
 refine wA tr3 [] 20 [ve (.int .u16 (a:Int)),ve (.int .u16 (b:Int)),ve (.bool (decide ((a:Int) < (b:Int))))] ap ?_ ?_
 exact .M aI<| .M aJ<| .T (fun k=>v_bin rfl (k.eq1 0 14 rfl) (k.eq1 1 15 rfl) (fun _=>rfl) (r_lssK rfl)) .nil
 refine aftI ap a1 a3 fun cd ce ac ah ai bL aj=>?_
 have⟨aK,aL⟩:=aj.f2 aI aJ
 have aM:=aj.g 2 16
 refine a5 _ _ ?_
 rcases bc (decide ((a:Int) < (b:Int))) with aa|aa
 have au:=oT aa
 have a6:=hB aM aa
 refine wt a6<| wk fun cf a7=>?_
 refine wA tr1 [] 20 [ve (iv (-1))] ac ?_ ?_
 exact .c .nil
 refine aftI ac ah ai fun ch ci bM a8 a9 bN ba=>?_
 have bC:=ba.g 0 4
 refine a7 _ _ ?_
 refine wp_ret (ret_k a8 (v:=iv (-1)) (res_t rfl bC _) ?_)
 refine ⟨?_,a9⟩
 show Ending.returned (iv (-1))=Ending.returned (iv (cmpI a b))
 first|rfl|(simp only [cmpN_eq,aa,bsm] <;> rfl)|(exfalso; omega)
 have au:=oF aa
 have bb:=hB aM aa
 refine wf bb<| ws ?_
 refine a4 _ _ ?_
 refine wk fun cj bd=>wk fun cl aq=>?_
 rcases bc (decide ((a:Int)≤(b:Int))) with ab|ab
 have av:=oT ab
 refine wA tr3 [] 20 [ve (.int .u16 (a:Int)),ve (.int .u16 (b:Int)),vF] ac ?_ ?_
 exact .M aK<| .M aL<| .T (fun k=>v_bin rfl (k.eq1 0 17 rfl) (k.eq1 1 18 rfl) (fun _=>rfl) (r_gtrK ab)) .nil
 refine aftI ac ah ai fun cm cn ar be bf bO bg=>?_
 have bD:=bg.g 2 19
 refine aq _ _ ?_
 refine wf bD<| ws ?_
 refine bd _ _ ?_
 refine wk fun co bh=>?_
 refine wA tr1 [] 20 [ve (iv 0)] ar ?_ ?_
 exact .c .nil
 refine aftI ar be bf fun cp cq bP aw ax bQ bi=>?_
 have bj:=bi.g 0 4
 refine bh _ _ ?_
 refine wp_ret (ret_k aw (v:=iv 0) (res_t rfl bj _) ?_)
 refine ⟨?_,ax⟩
 show Ending.returned (iv 0)=Ending.returned (iv (cmpI a b))
 first|rfl|(simp only [cmpN_eq,aa,ab,bsm] <;> rfl)|(exfalso; omega)
 have av:=oF ab
 refine wA tr3 [] 20 [ve (.int .u16 (a:Int)),ve (.int .u16 (b:Int)),vT] ac ?_ ?_
 exact .M aK<| .M aL<| .T (fun k=>v_bin rfl (k.eq1 0 17 rfl) (k.eq1 1 18 rfl) (fun _=>rfl) (r_gtrK ab)) .nil
 refine aftI ac ah ai fun bR bS al ay az bE aA=>?_
 have bk:=aA.g 2 19
 refine aq _ _ ?_
 refine wt bk<| wk fun bT aB=>?_
 refine wA tr1 [] 20 [ve (iv 1)] al ?_ ?_
 exact .c .nil
 refine aftI al ay az fun bU bV bF aC aD bG aE=>?_
 have bl:=aE.g 0 4
 refine aB _ _ ?_
 refine wp_ret (ret_k aC (v:=iv 1) (res_t rfl bl _) ?_)
 refine ⟨?_,aD⟩
 show Ending.returned (iv 1)=Ending.returned (iv (cmpI a b))
 first|rfl|(simp only [cmpN_eq,aa,ab,bsm] <;> rfl)|(exfalso; omega)
theorem scmp_c (Aa:Option Addr) (a:List Nat) (ca:Nat) (Ab:Option Addr) (b:List Nat) (cb:Nat) (w:World) (hra:SRow w .u16 Aa a ca) (hrb:SRow w .u16 Ab b cb) (ha:U16s a) (hb:U16s b):Calls prog 151 #[sv Aa a ca,sv Ab b cb] w (IsRet (iv (cmpU a b)) w):=by
 refine enter_abs func151 rfl fun a0 ay cI hp=>?_
 have ay:a0.tmps.size=36:=ay
 have cJ:New w w:=Upd.refl _ _
 have hp0:a0.eval (.tmp 0)=sv Aa a ca:=hp 0 _ rfl
 have hp1:a0.eval (.tmp 1)=sv Ab b cb:=hp 1 _ rfl
 have hmx:=hra.max
 have hmy:=hrb.max
 refine wk fun K1 cK=>?_
 refine wA tr1 [] 36 [ve (iv 0)] ay ?_ ?_
 exact .c .nil
 refine aftI ay cI cJ fun a2 w3 bI cL bW ef bJ=>?_
 have⟨h8,h9⟩:=bJ.f2 hp0 hp1
 refine cK _ _ <| wk fun eg bX=>?_
 refine wk fun eh bY=>?_
 refine wA tr3 [] 36 [ve (sv Aa a ca),ve (iv (a.length:Int)),ve (iv 0)] bI ?_ ?_
 exact .M h8<| .T (fun k=>v_lenR rfl elU (k.eq1 0 9 rfl))<| .T (fun k=>v_move rfl rfl) .nil
 refine aftI bI cL bW fun ei ej bZ b0 b2 du ap=>?_
 have⟨cM,cN⟩:=ap.f2 h8 h9
 have cO:=ap.g 0 9
 have cP:=ap.g 1 10
 have cQ:=ap.g 2 11
 refine bY _ _ ?_
 refine wb<| wp_loopX (fun (mm:Nat) (aa:Act) (ww:World)=>∃ (i:Nat),mm=a.length - i∧aa.tmps.size=36∧aa.defers=[]∧New w ww∧aa.eval (.tmp 11)=iv (i:Int)∧aa.eval (.tmp 0)=sv Aa a ca∧aa.eval (.tmp 1)=sv Ab b cb∧aa.eval (.tmp 9)=sv Aa a ca∧aa.eval (.tmp 10)=iv (a.length:Int)∧(i≤a.length)∧(i≤b.length)∧(cmpU (a.drop i) (b.drop i)=cmpU a b)) (fun mm=>mm) ⟨_,⟨0,rfl,bZ,b0,b2,cQ,cM,cN,cO,cP,(Nat.zero_le _),(Nat.zero_le _),rfl⟩⟩ ?_
 rintro mm ek el ⟨i,hmm,aK,b4,b6,bK,cR,cS,cT,bL,hi,hi2,hcm⟩
 refine wk fun em b7=>?_
 refine wA tr1 [] 36 [ve (.bool (decide ((i:Int) < (a.length:Int))))] aK ?_ ?_
 exact .T (fun k=>v_bin rfl (k.fx 11 bK) (k.fx 10 bL) (fun _=>rfl) (r_lssK rfl)) .nil
 refine aftI aK b4 b6 fun en eo au aL ax dv am=>?_
 have⟨aM,bM,bN,bO⟩:=am.f4 bK cR cS cT
 have cU:=am.f1 bL
 have bP:=am.g 0 12
 refine b7 _ _ <| wk fun ep b8=>?_
 rcases bc (decide ((i:Int) < (a.length:Int))) with aq|aq
 have a6:=oT aq
 have cc:=hB bP aq
 refine wt cc<| ws ?_
 refine b8 _ _ ?_
 refine wk fun er cd=>wb ?_
 refine wk fun es ce=>?_
 refine wp_g0 [true,true,true,true,true] [] 36
  [ve (iv (i:Int)),
  (EP (.int .u16 ((a.getD i 0:Nat):Int))),ve (.int .u16 ((a.getD i 0:Nat):Int)),ve (iv (i:Int)),ve (.int .u16 ((a.getD i 0:Nat):Int))] au (.eq (.cons (fun _ _ _ n ⟨_,_,e,h⟩=>⟨_,_,e,h.new_ n⟩) (.eq (.eq (.eq .nil))))) ?_ ?_
 refine .M aM ?_
 refine .o1 (tk rfl rfl fun _ w hn k=>(by
  exact x_eaddr (k:=.u16) rfl elU (k.fx 9 bO) (k.fx 11 aM) (hra.new_ (ax.transNew hn)) (by omega) fun b1 o2 hme=>⟨b1,o2,rfl,hme⟩)) ?_
 refine .o1 (tk rfl rfl fun _ w hn k=>(by
  obtain⟨b5,o6,e7,cV⟩:=k.G 1 14
  exact⟨_,v_load rfl e7 (l_one isAgg74 cV.1),rfl⟩)) ?_
 exact .B 0<| .B 2 .nil
 refine aftI au aL ax fun et eu av aN aO dw aj=>?_
 have⟨bQ,bR,az,bS⟩:=aj.f4 aM bM bN bO
 have bT:=aj.f1 cU
 have aA:=aj.g 3 5
 have bU:=aj.g 4 6
 refine ce _ _ <| wk fun ev cf=>?_
 refine wk fun ew aP=>?_
 rcases bc (decide ((i:Int) < (b.length:Int))) with ar|ar
 have a7:=oT ar
 refine wA tr4 [] 36 [ve (iv (i:Int)),ve (sv Ab b cb),ve (iv (b.length:Int)),vF] av ?_ ?_
 exact .M aA<| .M az<| .T (fun k=>v_lenR rfl elU (k.eq1 1 17 rfl))<| .T (fun k=>v_bin rfl (k.eq1 0 16 rfl) (k.eq1 2 18 rfl) (fun _=>rfl) (r_geqK ar)) .nil
 refine aftI av aN aO fun ex ey aQ ch aR dx ag=>?_
 have⟨cW,cX,bV,cY⟩:=ag.f4 bQ bR az bS
 have⟨cZ,c0,c1⟩:=ag.f3 bT aA bU
 have c2:=ag.g 3 19
 refine aP _ _ ?_
 refine wf c2<| ws ?_
 refine cf _ _ ?_
 refine wk fun ez ci=>?_
 refine wp_g0 [true,true,true,true,true] [] 36
  [ve (sv Ab b cb),ve (iv (i:Int)),
  (EP (.int .u16 ((b.getD i 0:Nat):Int))),ve (.int .u16 ((b.getD i 0:Nat):Int)),ve (.int .u16 ((b.getD i 0:Nat):Int))] aQ (.eq (.eq (.cons (fun _ _ _ n ⟨_,_,e,h⟩=>⟨_,_,e,h.new_ n⟩) (.eq (.eq .nil))))) ?_ ?_
 refine .M bV<| .M c0 ?_
 refine .o1 (tk rfl rfl fun _ w hn k=>(by
  exact x_eaddr (k:=.u16) rfl elU (k.eq1 0 20 rfl) (k.eq1 1 21 rfl) (hrb.new_ (aR.transNew hn)) (by omega) fun b9 c5 hme=>⟨b9,c5,rfl,hme⟩)) ?_
 refine .o1 (tk rfl rfl fun _ w hn k=>(by
  obtain⟨eA,eB,c6,cj⟩:=k.G 2 22
  exact⟨_,v_load rfl c6 (l_one isAgg74 cj.1),rfl⟩)) ?_
 exact .B 3 .nil
 refine aftI aQ ch aR fun eC eD aS cl a8 dy ak=>?_
 have⟨c8,c9,da,db⟩:=ak.f4 cW cX bV cY
 have⟨dc,dd⟩:=ak.f2 cZ c1
 have de:=ak.g 4 7
 refine ci _ _ <| wk fun dz a9=>?_
 have eE:=ha.at16 i
 have eF:=hb.at16 i
 refine wA tr4 [] 36 [ve (.int .u16 ((a.getD i 0:Nat):Int)),ve (.int .u16 ((b.getD i 0:Nat):Int)),ve (iv (cmpI (a.getD i 0) (b.getD i 0))),ve (iv (cmpI (a.getD i 0) (b.getD i 0)))] aS ?_ ?_
 exact .M dd<| .M de<| .C2 0 1 (fun p=>ccmp_c (a.getD i 0) (b.getD i 0) _ (by omega) (by omega))<| .B 2 .nil
 refine aftI aS cl a8 fun dA dB an aB aC df ah=>?_
 have⟨aT,aU,aV,aW⟩:=ah.f4 c8 c9 da db
 have aX:=ah.f1 dc
 have aw:=ah.g 3 8
 refine a9 _ _ <| wk fun dC aD=>?_
 rcases bc (decide ((cmpI (a.getD i 0) (b.getD i 0))=0)) with ad|ad
 have aY:=oT ad
 refine wA tr2 [] 36 [ve (iv (cmpI (a.getD i 0) (b.getD i 0))),vF] an ?_ ?_
 exact .M aw<| .b 0 (r_neq ad) .nil
 refine aftI an aB aC fun dD dE aE ba bb dg ae=>?_
 have⟨aZ,cm,cn,co⟩:=ae.f4 aT aU aV aW
 have⟨cp,dF⟩:=ae.f2 aX aw
 have cq:=ae.g 1 28
 refine aD _ _ ?_
 refine wf cq<| ws ?_
 refine cd _ _ ?_
 refine wA [true,false] [(1,true)] 36 [ve (iv ((i + 1:Nat):Int)),vt] aE ?_ ?_
 exact .R (fun k=>v_bin rfl (k.fx 11 aZ) rfl (fun _=>rfl) (n_add (by omega) (IntWalk.i64_in _ (by omega)))) (fun _=>rfl)<| .off .nil
 refine aftI aE ba bb fun a1 dG aF bd be dh ai=>?_
 have⟨dH,cr,cs,ct⟩:=ai.f4 aZ cm cn co
 have cu:=ai.f1 cp
 have a3:=ai.g 0 30
 refine st_take rfl rfl (y_move (v:=iv ((i + 1:Nat):Int)) rfl a3) rfl ?_
 obtain⟨cv,ab⟩:∃ a',a'=a1.put (some 11) (iv ((i + 1:Nat):Int)):=⟨_,rfl⟩
 have⟨bf,bg⟩:=pz2 ab aF bd
 have⟨cw,cx,cy⟩:=pN3 ab cr cs ct
 have⟨cz,dI⟩:=pN2 ab cu a3
 have cA:=s7 ab aF
 show stepsTo _ _ _ _ _ (a1.put (some 11) (iv ((i + 1:Nat):Int))) _
 rw [← ab]
 refine st_nil ?_
 refine then_n ?_
 exact⟨_,⟨i + 1,rfl,bf,bg,be,(cA.trans (congrArg (Value.int .i64) (by omega))),cw,cx,cy,cz,(by omega),(by omega),(cmpU_next (by omega) (by omega) ad hcm)⟩,(by omega)⟩
 have aY:=oF ad
 refine wA tr2 [] 36 [ve (iv (cmpI (a.getD i 0) (b.getD i 0))),vT] an ?_ ?_
 exact .M aw<| .b 0 (r_neq ad) .nil
 refine aftI an aB aC fun dJ dK aG bh bi di af=>?_
 have⟨dL,dM,dN,dO⟩:=af.f4 aT aU aV aW
 have⟨dP,cB⟩:=af.f2 aX aw
 have cC:=af.g 1 28
 refine aD _ _ ?_
 refine wt cC<| wk fun dQ bj=>?_
 refine wA tr2 [] 36 [ve (iv (cmpI (a.getD i 0) (b.getD i 0))),ve (iv (cmpI (a.getD i 0) (b.getD i 0)))] aG ?_ ?_
 exact .M cB<| .B 0 .nil
 refine aftI aG bh bi fun dR dS dj bk bl dk bm=>?_
 have cD:=bm.g 1 4
 refine bj _ _ ?_
 refine wp_ret (ret_k bk (v:=iv (cmpI (a.getD i 0) (b.getD i 0))) (res_t rfl cD _) ?_)
 exact⟨congrArg (fun n=>Ending.returned (iv n)) (show (cmpI (a.getD i 0) (b.getD i 0))=cmpU a b from (by first|exact cmpU_more (by omega) (by omega) hcm|exact cmpU_out (by omega) (by omega) ad hcm|exact cmpU_less (i:=i) (by omega) (by omega) hcm|exact cmpU_end (i:=i) (by omega) (by omega) hcm)),bl⟩
 have a7:=oF ar
 refine wA tr4 [] 36 [ve (iv (i:Int)),ve (sv Ab b cb),ve (iv (b.length:Int)),vT] av ?_ ?_
 exact .M aA<| .M az<| .T (fun k=>v_lenR rfl elU (k.eq1 1 17 rfl))<| .T (fun k=>v_bin rfl (k.eq1 0 16 rfl) (k.eq1 2 18 rfl) (fun _=>rfl) (r_geqK ar)) .nil
 refine aftI av aN aO fun dT dU aH bn bo dl ac=>?_
 have⟨dV,dW,dX,dY⟩:=ac.f4 bQ bR az bS
 have⟨dZ,d0,d1⟩:=ac.f3 bT aA bU
 have cE:=ac.g 3 19
 refine aP _ _ ?_
 refine wt cE<| wk fun d2 bp=>?_
 refine wA tr1 [] 36 [ve (iv 1)] aH ?_ ?_
 exact .c .nil
 refine aftI aH bn bo fun d3 d4 dm bq br dn bs=>?_
 have cF:=bs.g 0 4
 refine bp _ _ ?_
 refine wp_ret (ret_k bq (v:=iv 1) (res_t rfl cF _) ?_)
 exact⟨congrArg (fun n=>Ending.returned (iv n)) (show (1)=cmpU a b from (by first|exact cmpU_more (by omega) (by omega) hcm|exact cmpU_less (i:=i) (by omega) (by omega) hcm|exact cmpU_end (i:=i) (by omega) (by omega) hcm)),br⟩
 have a6:=oF aq
 have bt:=hB bP aq
 refine wf bt<| wp_exit ?_
 refine bX _ _ ?_
 refine wk fun d5 bu=>wk fun d6 bv=>?_
 refine wA tr5 [] 36 [ve (sv Aa a ca),ve (iv (a.length:Int)),ve (sv Ab b cb),ve (iv (b.length:Int)),ve (.bool (decide ((a.length:Int) < (b.length:Int))))] au ?_ ?_
 exact .M bM<| .T (fun k=>v_lenR rfl elU (k.eq1 0 31 rfl))<| .M bN<| .T (fun k=>v_lenR rfl elU (k.eq1 2 33 rfl))<| .T (fun k=>v_bin rfl (k.eq1 1 32 rfl) (k.eq1 3 34 rfl) (fun _=>rfl) (r_lssK rfl)) .nil
 refine aftI au aL ax fun d7 d8 ao aI aJ dp bw=>?_
 have a4:=bw.g 4 35
 refine bv _ _ ?_
 rcases bc (decide ((a.length:Int) < (b.length:Int))) with al|al
 have a5:=oT al
 have bx:=hB a4 al
 refine wt bx<| wk fun d9 bz=>?_
 refine wA tr1 [] 36 [ve (iv (-1))] ao ?_ ?_
 exact .c .nil
 refine aftI ao aI aJ fun ea eb dq bA bB dr bC=>?_
 have cG:=bC.g 0 4
 refine bz _ _ ?_
 refine wp_ret (ret_k bA (v:=iv (-1)) (res_t rfl cG _) ?_)
 exact⟨congrArg (fun n=>Ending.returned (iv n)) (show (-1)=cmpU a b from (by first|exact cmpU_more (by omega) (by omega) hcm|exact cmpU_less (i:=i) (by omega) (by omega) hcm|exact cmpU_end (i:=i) (by omega) (by omega) hcm)),bB⟩
 have a5:=oF al
 have bD:=hB a4 al
 refine wf bD<| ws ?_
 refine bu _ _ ?_
 refine wk fun ec bE=>?_
 refine wA tr1 [] 36 [ve (iv 0)] ao ?_ ?_
 exact .c .nil
 refine aftI ao aI aJ fun ed ee ds bF bG dt bH=>?_
 have cH:=bH.g 0 4
 refine bE _ _ ?_
 refine wp_ret (ret_k bF (v:=iv 0) (res_t rfl cH _) ?_)
 exact⟨congrArg (fun n=>Ending.returned (iv n)) (show (0)=cmpU a b from (by first|exact cmpU_more (by omega) (by omega) hcm|exact cmpU_less (i:=i) (by omega) (by omega) hcm|exact cmpU_end (i:=i) (by omega) (by omega) hcm)),bG⟩
theorem tless_c (Aa:Option Addr) (a:List Nat) (ca:Nat) (Ab:Option Addr) (b:List Nat) (cb:Nat) (w:World) (hra:SRow w .u16 Aa a ca) (hrb:SRow w .u16 Ab b cb) (ha:U16s a) (hb:U16s b):Calls prog 80 #[sv Aa a ca,sv Ab b cb] w (IsRet (.bool (decide (cmpU a b < 0))) w):=by
 refine enter_abs func80 rfl fun a0 ab ai hp=>?_
 have ab:a0.tmps.size=9:=ab
 have aj:New w w:=Upd.refl _ _
 have hp0:a0.eval (.tmp 0)=sv Aa a ca:=hp 0 _ rfl
 have hp1:a0.eval (.tmp 1)=sv Ab b cb:=hp 1 _ rfl
 refine wk fun K1 ak=>?_
 refine wA tr1 [] 9 [vF] ab ?_ ?_
 exact .c .nil
 refine aftI ab ai aj fun a2 w3 ac al aa ap ad=>?_
 have⟨h8,h9⟩:=ad.f2 hp0 hp1
 refine ak _ _ <| wk fun aq ae=>?_
 refine wA tr5 [] 9 [ve (sv Aa a ca),ve (sv Ab b cb),ve (iv (cmpU a b)),ve (.bool (decide ((cmpU a b) < 0))),ve (.bool (decide ((cmpU a b) < 0)))] ac ?_ ?_
 exact .M h8<| .M h9<| .C2 0 1 (fun n=>scmp_c _ a _ _ b _ _ (hra.new_ (aa.transNew n)) (hrb.new_ (aa.transNew n)) ha hb)<| .b 2 (r_lssK rfl)<| .B 3 .nil
 refine aftI ac al aa fun ar au an af ag ao ah=>?_
 have am:=ah.g 4 4
 refine ae _ _ ?_
 refine wp_ret (ret_k af (v:=.bool (decide ((cmpU a b) < 0))) (res_t rfl am _) ?_)
 refine ⟨?_,ag⟩
 show Ending.returned (.bool (decide ((cmpU a b) < 0)))=Ending.returned (.bool (decide (cmpU a b < 0)))
 first|rfl|(simp only [bsm] <;> rfl)|(exfalso; omega)
theorem beside_c (a:Bool) (Aa:Option Addr) (ma:List Nat) (ca:Nat) (x:Nm) (w:World) (hra:SRow w .u32 Aa ma ca) (ha:Limbs ma) (hs:ma.length≤1000000) (hlo:-9223372036854775808≤x.n) (hhi:x.n≤9223372036854775807):Calls prog 153 #[.agg #[.bool a,sv Aa ma ca],nv x] w (IsRet (.tuple #[iv ((besideO a ma x).1),.bool ((besideO a ma x).2)]) w):=by
 refine enter_abs func153 rfl fun a0 al bz hp=>?_
 have al:a0.tmps.size=19:=al
 have ao:New w w:=Upd.refl _ _
 have hp0:a0.eval (.tmp 0)=.agg #[.bool a,sv Aa ma ca]:=hp 0 _ rfl
 have hp1:a0.eval (.tmp 1)=nv x:=hp 1 _ rfl
 have hnl:(canon x.n.natAbs).length≤8:=(canon_len8 _).2 (by omega)
 refine wk fun K1 bA=>?_
 refine wB tr4 [] [] 19 [IsNew w 26 [.bool a,sv Aa ma ca],IsNew w 23 [iv x.k,iv x.n],ve (iv 0),vF] [0,1] al ?_ heN ?_
 exact .X hp0<| .X hp1<| .c<| .c .nil
 refine aftI al bz ao fun a2 w3 aP bB aY b6 aQ=>?_
 obtain⟨q9,h8,aZ,a1⟩:=aQ.G 0 2
 obtain⟨aR,aS,a3,ap⟩:=aQ.G 1 3
 have bU:=Nat.le_trans ao.size aZ
 have bV:=Nat.le_trans ao.size a3
 refine bA _ _ <| wk fun b7 a4=>?_
 refine wk fun b8 a5=>?_
 refine wA tr2 [] 19 [ve (pv aR),ve (iv x.k)] aP ?_ ?_
 exact .F aS<| .J 0 isAgg3 ap .nil
 refine aftI aP bB aY fun b9 cb aq a6 a7 ar ai=>?_
 have⟨bC,bD⟩:=ai.f2 h8 aS
 have aT:=ai.g 1 7
 have⟨a8,a9⟩:=nw2 ar a1 ap
 refine a5 _ _ ?_
 refine wb<| wk fun cc ba=>?_
 refine wA tr2 [] 19 [ve (.bool (decide (x.k=2))),ve (.bool (decide (x.k=2)))] aq ?_ ?_
 exact .H aT (r_eql rfl)<| .B 0 .nil
 refine aftI aq a6 a7 fun cd ce ad au av aw ae=>?_
 have⟨bE,bF,aU⟩:=ae.f3 bC bD aT
 have aV:=ae.g 1 8
 have⟨bb,bd⟩:=nw2 aw a8 a9
 refine ba _ _ ?_
 rcases bc (decide (x.k=2)) with aa|aa
 have aF:=oT aa
 have be:=hB aV aa
 refine wt be<| wk fun cf bf=>?_
 refine wA tr2 [] 19 [ve (iv 0),vF] ad ?_ ?_
 exact .c<| .c .nil
 refine aftI ad au av fun ch ci bW bg bh bX ax=>?_
 have bG:=ax.g 0 4
 have bH:=ax.g 1 5
 refine bf _ _ ?_
 refine wp_ret (ret_k bg (v:=.tuple #[iv 0,.bool false]) (res_tt rfl bG bH _) ?_)
 refine ⟨?_,bh⟩
 show Ending.returned (.tuple #[iv 0,.bool false])=Ending.returned (.tuple #[iv ((besideO a ma x).1),.bool ((besideO a ma x).2)])
 first|rfl|(simp only [besideO,aa,good_canon (z:=x.n) (by omega),bsm] <;> rfl)|(exfalso; omega)
 have aF:=oF aa
 have bi:=hB aV aa
 refine wf bi<| wk fun cj bj=>?_
 refine wA tr2 [] 19 [ve (.bool (decide (x.k=3))),ve (.bool (decide (x.k=3)))] ad ?_ ?_
 exact .H aU (r_eql rfl)<| .B 0 .nil
 refine aftI ad au av fun cl cm af ay az aA ag=>?_
 have⟨bI,bJ,bK⟩:=ag.f3 bE bF aU
 have aW:=ag.g 1 10
 have⟨bk,bl⟩:=nw2 aA bb bd
 refine bj _ _ ?_
 rcases bc (decide (x.k=3)) with ac|ac
 have aG:=oT ac
 have bm:=hB aW ac
 refine wt bm<| wk fun cn bn=>?_
 refine wA tr2 [] 19 [ve (iv (-1)),vT] af ?_ ?_
 exact .c<| .c .nil
 refine aftI af ay az fun co cp bY bo bp bZ aB=>?_
 have bL:=aB.g 0 4
 have bM:=aB.g 1 5
 refine bn _ _ ?_
 refine wp_ret (ret_k bo (v:=.tuple #[iv (-1),.bool true]) (res_tt rfl bL bM _) ?_)
 refine ⟨?_,bp⟩
 show Ending.returned (.tuple #[iv (-1),.bool true])=Ending.returned (.tuple #[iv ((besideO a ma x).1),.bool ((besideO a ma x).2)])
 first|rfl|(simp only [besideO,aa,ac,good_canon (z:=x.n) (by omega),bsm] <;> rfl)|(exfalso; omega)
 have aG:=oF ac
 have bq:=hB aW ac
 refine wf bq<| wk fun cq br=>?_
 refine wA tr2 [] 19 [ve (.bool (decide (x.k=4))),ve (.bool (decide (x.k=4)))] af ?_ ?_
 exact .H bK (r_eql rfl)<| .B 0 .nil
 refine aftI af ay az fun cr ct ah aC aj aD ak=>?_
 have⟨bN,bO⟩:=ak.f2 bI bJ
 have aX:=ak.g 1 12
 have⟨bs,bt⟩:=nw2 aD bk bl
 refine br _ _ ?_
 rcases bc (decide (x.k=4)) with ab|ab
 have aE:=oT ab
 have aH:=hB aX ab
 refine wt aH<| wk fun b0 aI=>?_
 refine wA tr2 [] 19 [ve (iv 1),vT] ah ?_ ?_
 exact .c<| .c .nil
 refine aftI ah aC aj fun b1 b2 bQ aJ aK bR am=>?_
 have bu:=am.g 0 4
 have bv:=am.g 1 5
 refine aI _ _ ?_
 refine wp_ret (ret_k aJ (v:=.tuple #[iv 1,.bool true]) (res_tt rfl bu bv _) ?_)
 refine ⟨?_,aK⟩
 show Ending.returned (.tuple #[iv 1,.bool true])=Ending.returned (.tuple #[iv ((besideO a ma x).1),.bool ((besideO a ma x).2)])
 first|rfl|(simp only [besideO,aa,ac,ab,good_canon (z:=x.n) (by omega),bsm] <;> rfl)|(exfalso; omega)
 have aE:=oF ab
 have aL:=hB aX ab
 refine wf aL<| ws ?_
 refine a4 _ _ ?_
 refine wk fun b3 aM=>?_
 refine wp_g0 [true,true,true,true,true,true,true] [] 19
  [ve (.agg #[.bool a,sv Aa ma ca]),ve (.pointer (some ⟨aR,1,none⟩)),ve (iv x.n),(fun (v_:Value) (W:World)=>∃ (A3:Option Addr) (c4:Nat),v_=.agg #[.bool (decide (x.n < 0)),sv A3 (canon (x.n).natAbs) c4]∧SRow W .u32 A3 (canon (x.n).natAbs) c4),ve (iv (cmpZ (goodI a ma) (goodI (decide (x.n < 0)) (canon (x.n).natAbs)))),ve (iv (cmpZ (goodI a ma) (goodI (decide (x.n < 0)) (canon (x.n).natAbs)))),vT] ah (.eq (.eq (.eq (.cons (fun _ _ _ n ⟨_,_,e,h⟩=>⟨_,_,e,h.new_ n⟩) (.eq (.eq (.eq .nil))))))) ?_ ?_
 refine .L6 bN bs<| .F bO<| .J 1 isAgg3 bt ?_
 refine .o1 (tkC rfl (noG rfl) rfl fun _ w hn k=>(by
  refine ⟨#[iv x.n],_,args1 (k.eq1 2 16 rfl),fun w=>by kernel_rfl,bOf_c x.n _ (by omega) (by omega),?_⟩
  rintro e w' ⟨A1,c2,rfl,hmo0,hm⟩
  exact⟨_,rfl,hm,⟨A1,c2,rfl,hmo0⟩⟩)) ?_
 refine .o1 (tkC rfl (noG rfl) rfl fun _ w hn k=>(by
  obtain⟨A5,c6,e7,bP⟩:=k.G 3 17
  refine ⟨#[.agg #[.bool a,sv Aa ma ca],.agg #[.bool (decide (x.n < 0)),sv A5 (canon (x.n).natAbs) c6]],_,args2 (k.eq1 0 14 rfl) e7,fun w=>by kernel_rfl,bCmp_c a _ ma _ (decide (x.n < 0)) _ (canon (x.n).natAbs) _ _ (hra.new_ (aj.transNew hn)) bP ha (limbs_canon _) (by first|omega|(simp only [List.length_nil,List.length_take,List.length_drop]; omega)|(simp only [List.length_cons,List.length_nil]; omega)) (by first|omega|(simp only [List.length_nil,List.length_take,List.length_drop]; omega)|(simp only [List.length_cons,List.length_nil]; omega)),?_⟩
  rintro e w' ⟨rfl,hm⟩
  exact⟨_,rfl,hm,rfl⟩)) ?_
 exact .B 4<| .c .nil
 refine aftI ah aC aj fun b4 b5 bS aN aO bT an=>?_
 have bw:=an.g 5 4
 have bx:=an.g 6 5
 refine aM _ _ ?_
 refine wp_ret (ret_k aN (v:=.tuple #[iv (cmpZ (goodI a ma) (goodI (decide (x.n < 0)) (canon (x.n).natAbs))),.bool true]) (res_tt rfl bw bx _) ?_)
 refine ⟨?_,aO⟩
 show Ending.returned (.tuple #[iv (cmpZ (goodI a ma) (goodI (decide (x.n < 0)) (canon (x.n).natAbs))),.bool true])=Ending.returned (.tuple #[iv ((besideO a ma x).1),.bool ((besideO a ma x).2)])
 first|rfl|(simp only [besideO,aa,ac,ab,good_canon (z:=x.n) (by omega),bsm] <;> rfl)|(exfalso; omega)
theorem order_c (v:Vl) (Av:Option Addr) (cv:Nat) (Bv:Option Addr) (dv:Nat) (u:Vl) (Au:Option Addr) (cu:Nat) (Bu:Option Addr) (du:Nat) (w:World) (hmv:SRow w .u32 Av v.mag cv) (hsv:SRow w .u16 Bv v.s dv) (hmu:SRow w .u32 Au u.mag cu) (hsu:SRow w .u16 Bu u.s du) (hvv:VOk v) (hvu:VOk u):Calls prog 81 #[vv v Av cv Bv dv,vv u Au cu Bu du] w (IsRet (.tuple #[iv ((orderO v u).1),.bool ((orderO v u).2)]) w):=by
 refine enter_abs func81 rfl fun a0 aB cj hp=>?_
 have aB:a0.tmps.size=65:=aB
 have aO:New w w:=Upd.refl _ _
 have hp0:a0.eval (.tmp 0)=vv v Av cv Bv dv:=hp 0 _ rfl
 have hp1:a0.eval (.tmp 1)=vv u Au cu Bu du:=hp 1 _ rfl
 have c8:=hvv.mlen
 have c9:=hvu.mlen
 have hy1:=hvv.nlo
 have hy2:=hvv.nhi
 have hz1:=hvu.nlo
 have hz2:=hvu.nhi
 have hbs:=besideO_bd u.neg u.mag (Nm.mk v.nk v.nn)
 refine wk fun K1 cl=>?_
 refine wB tr4 [] [] 65 [IsNew w 29 (c7 v Av cv Bv dv),IsNew w 29 (c7 u Au cu Bu du),ve (iv 0),vF] [0,1] aB ?_ heN ?_
 exact .X hp0<| .X hp1<| .c<| .c .nil
 refine aftI aB cj aO fun a2 w3 bF cm bN da bG=>?_
 obtain⟨q9,h8,bO,aP⟩:=bG.G 0 2
 obtain⟨af,bH,bP,aQ⟩:=bG.G 1 3
 have cH:=Nat.le_trans aO.size bO
 have cI:=Nat.le_trans aO.size bP
 refine cl _ _ <| wk fun db bQ=>?_
 refine wb<| wk fun dc bR=>?_
 refine wA tr9 [] 65 [ve (pv q9),ve (iv v.k),ve (.bool (decide (v.k=4))),ve (.bool (decide (v.k=4))),ve (gq (decide (v.k=4)) (pv af)),ve (gq (decide (v.k=4)) (iv u.k)),ve (gq (decide (v.k=4)) (.bool (decide (u.k=4)))),ve (.bool ((decide (v.k=4)) && (decide (u.k=4)))),ve (.bool ((decide (v.k=4)) && (decide (u.k=4))))] bF ?_ ?_
 exact .F h8<| .J 0 isAgg3 aP<| .b 1 (r_eql rfl)<| .N 2<| .Q (fun k=>g0 (k.eq1 3 12 rfl)) (fun hG n k=>v_field rfl (k.fx 3 bH) (fun w=>rfl))<| .Q (fun k=>g0 (k.eq1 3 12 rfl)) (fun hG n k=>v_load rfl (cT hG (k.eq1 4 13 rfl)) (l_one isAgg3 ((aQ.new_ n).cell 0)))<| .Q (fun k=>g0 (k.eq1 3 12 rfl)) (fun hG n k=>v_bin rfl (cT hG (k.eq1 5 14 rfl)) rfl (fun _=>rfl) (r_eql rfl))<| .O 3 6<| .B 7 .nil
 refine aftI bF cm bN fun dd de ai aR aj aS ap=>?_
 have⟨aT,bI⟩:=ap.f2 h8 bH
 have bJ:=ap.g 8 8
 have⟨aq,aU⟩:=nw2 aS aP aQ
 refine bR _ _ ?_
 rcases bc (((decide (v.k=4)) && (decide (u.k=4)))) with aa|aa
 have bS:=hB bJ aa
 have aV:(decide (v.k=4))=true:=al aa
 have cw:=oT aV
 have aW:(decide (u.k=4))=true:=ar aa
 have cx:=oT aW
 refine wt bS<| wk fun df bT=>?_
 refine wA tr7 [] 65 [ve (.pointer (some ⟨q9,3,none⟩)),ve (.agg #[.bool v.neg,sv Av v.mag cv]),ve (.pointer (some ⟨af,3,none⟩)),ve (.agg #[.bool u.neg,sv Au u.mag cu]),ve (iv (cmpZ (goodI v.neg v.mag) (goodI u.neg u.mag))),ve (iv (cmpZ (goodI v.neg v.mag) (goodI u.neg u.mag))),vT] ai ?_ ?_
 exact .F aT<| .K6 0 aq<| .F bI<| .K6 2 aU<| .C2 1 3 (fun n=>bCmp_c v.neg _ v.mag _ u.neg _ u.mag _ _ (hmv.new_ (aj.transNew n)) (hmu.new_ (aj.transNew n)) hvv.limbs hvu.limbs (by first|omega|(simp only [List.length_nil,List.length_take,List.length_drop]; omega)|(simp only [List.length_cons,List.length_nil]; omega)) (by first|omega|(simp only [List.length_nil,List.length_take,List.length_drop]; omega)|(simp only [List.length_cons,List.length_nil]; omega)))<| .B 4<| .c .nil
 refine aftI ai aR aj fun dg dh cJ bU bV cK aX=>?_
 have cn:=aX.g 5 4
 have co:=aX.g 6 5
 refine bT _ _ ?_
 refine wp_ret (ret_k bU (v:=.tuple #[iv (cmpZ (goodI v.neg v.mag) (goodI u.neg u.mag)),.bool true]) (res_tt rfl cn co _) ?_)
 refine ⟨?_,bV⟩
 show Ending.returned (.tuple #[iv (cmpZ (goodI v.neg v.mag) (goodI u.neg u.mag)),.bool true])=Ending.returned (.tuple #[iv ((orderO v u).1),.bool ((orderO v u).2)])
 first|rfl|(simp only [orderO,aa,bsm] <;> first|rfl|(simp only [orderO,aa,aV,aW,bsm] <;> rfl))|(exfalso; omega)
 have bW:=hB bJ aa
 refine wf bW<| wk fun di bX=>?_
 refine wA tr4 [] 65 [ve (pv q9),ve (iv v.k),ve (.bool (decide (v.k=4))),ve (.bool (decide (v.k=4)))] ai ?_ ?_
 exact .F aT<| .J 0 isAgg3 aq<| .b 1 (r_eql rfl)<| .B 2 .nil
 refine aftI ai aR aj fun dj dk ak aY au aZ av=>?_
 have⟨bK,a1⟩:=av.f2 aT bI
 have bL:=av.g 3 22
 have⟨a3,aw⟩:=nw2 aZ aq aU
 refine bX _ _ ?_
 rcases bc (decide (v.k=4)) with ab|ab
 have bh:=oT ab
 have bY:=hB bL ab
 have a4:(decide (u.k=4))=false:=ax1 aa ab
 have cy:=oF a4
 refine wt bY<| wk fun dl bZ=>?_
 refine wA tr9 [] 65 [ve (.pointer (some ⟨q9,3,none⟩)),ve (.agg #[.bool v.neg,sv Av v.mag cv]),ve (.pointer (some ⟨af,1,none⟩)),ve (nv (Nm.mk u.nk u.nn)),ve (.tuple #[iv ((besideO v.neg v.mag (Nm.mk u.nk u.nn)).1),.bool ((besideO v.neg v.mag (Nm.mk u.nk u.nn)).2)]),ve (iv ((besideO v.neg v.mag (Nm.mk u.nk u.nn)).1)),ve (.bool ((besideO v.neg v.mag (Nm.mk u.nk u.nn)).2)),ve (iv ((besideO v.neg v.mag (Nm.mk u.nk u.nn)).1)),ve (.bool ((besideO v.neg v.mag (Nm.mk u.nk u.nn)).2))] ak ?_ ?_
 exact .F bK<| .K6 0 a3<| .F a1<| .K2 2 aw<| .C2 1 3 (fun n=>beside_c v.neg _ v.mag _ (Nm.mk u.nk u.nn) _ (hmv.new_ (au.transNew n)) hvv.limbs (by first|omega|(simp only [List.length_nil,List.length_take,List.length_drop]; omega)|(simp only [List.length_cons,List.length_nil]; omega)) (by omega) (by omega))<| .E 4<| .E 4<| .B 5<| .B 6 .nil
 refine aftI ak aY au fun dm dn cL b0 b1 cM a5=>?_
 have cp:=a5.g 7 4
 have cq:=a5.g 8 5
 refine bZ _ _ ?_
 refine wp_ret (ret_k b0 (v:=.tuple #[iv ((besideO v.neg v.mag (Nm.mk u.nk u.nn)).1),.bool ((besideO v.neg v.mag (Nm.mk u.nk u.nn)).2)]) (res_tt rfl cp cq _) ?_)
 refine ⟨?_,b1⟩
 show Ending.returned (.tuple #[iv ((besideO v.neg v.mag (Nm.mk u.nk u.nn)).1),.bool ((besideO v.neg v.mag (Nm.mk u.nk u.nn)).2)])=Ending.returned (.tuple #[iv ((orderO v u).1),.bool ((orderO v u).2)])
 first|rfl|(simp only [orderO,aa,bsm] <;> first|rfl|(simp only [orderO,aa,ab,a4,bsm] <;> rfl))|(exfalso; omega)
 have bh:=oF ab
 have b2:=hB bL ab
 refine wf b2<| wk fun dp b3=>?_
 refine wA tr4 [] 65 [ve (pv af),ve (iv u.k),ve (.bool (decide (u.k=4))),ve (.bool (decide (u.k=4)))] ak ?_ ?_
 exact .F a1<| .J 0 isAgg3 aw<| .b 1 (r_eql rfl)<| .B 2 .nil
 refine aftI ak aY au fun dq dr am a6 ax a7 ay=>?_
 have⟨a8,a9⟩:=ay.f2 bK a1
 have bM:=ay.g 3 33
 have⟨az,aA⟩:=nw2 a7 a3 aw
 refine b3 _ _ ?_
 rcases bc (decide (u.k=4)) with ac|ac
 have bi:=oT ac
 have b4:=hB bM ac
 refine wt b4<| wk fun ds b5=>?_
 refine wA tr10 [] 65 [ve (.pointer (some ⟨af,3,none⟩)),ve (.agg #[.bool u.neg,sv Au u.mag cu]),ve (.pointer (some ⟨q9,1,none⟩)),ve (nv (Nm.mk v.nk v.nn)),ve (.tuple #[iv ((besideO u.neg u.mag (Nm.mk v.nk v.nn)).1),.bool ((besideO u.neg u.mag (Nm.mk v.nk v.nn)).2)]),ve (.tuple #[iv ((besideO u.neg u.mag (Nm.mk v.nk v.nn)).1),.bool ((besideO u.neg u.mag (Nm.mk v.nk v.nn)).2)]),ve (iv ((besideO u.neg u.mag (Nm.mk v.nk v.nn)).1)),ve (.bool ((besideO u.neg u.mag (Nm.mk v.nk v.nn)).2)),ve (iv ((besideO u.neg u.mag (Nm.mk v.nk v.nn)).1)),ve (.bool ((besideO u.neg u.mag (Nm.mk v.nk v.nn)).2))] am ?_ ?_
 exact .F a9<| .K6 0 aA<| .F a8<| .K2 2 az<| .C2 1 3 (fun n=>beside_c u.neg _ u.mag _ (Nm.mk v.nk v.nn) _ (hmu.new_ (ax.transNew n)) hvu.limbs (by first|omega|(simp only [List.length_nil,List.length_take,List.length_drop]; omega)|(simp only [List.length_cons,List.length_nil]; omega)) (by omega) (by omega))<| .N 4<| .E 5<| .E 5<| .B 6<| .B 7 .nil
 refine aftI am a6 ax fun dt dw ba b6 b7 cN bb=>?_
 have cr:=bb.g 8 6
 have ct:=bb.g 9 7
 refine b5 _ _ <| wk fun cO bj=>?_
 refine wA tr5 [] 65 [ve (iv ((besideO u.neg u.mag (Nm.mk v.nk v.nn)).1)),ve (iv (-((besideO u.neg u.mag (Nm.mk v.nk v.nn)).1))),ve (.bool ((besideO u.neg u.mag (Nm.mk v.nk v.nn)).2)),ve (iv (-((besideO u.neg u.mag (Nm.mk v.nk v.nn)).1))),ve (.bool ((besideO u.neg u.mag (Nm.mk v.nk v.nn)).2))] ba ?_ ?_
 exact .M cr<| .R (fun k=>v_neg rfl (k.eq1 0 45 rfl) (by omega)) (fun _=>rfl)<| .M ct<| .B 1<| .B 2 .nil
 refine aftI ba b6 b7 fun cP cQ cz bk bl cA aC=>?_
 have b8:=aC.g 3 4
 have b9:=aC.g 4 5
 refine bj _ _ ?_
 refine wp_ret (ret_k bk (v:=.tuple #[iv (-((besideO u.neg u.mag (Nm.mk v.nk v.nn)).1)),.bool ((besideO u.neg u.mag (Nm.mk v.nk v.nn)).2)]) (res_tt rfl b8 b9 _) ?_)
 refine ⟨?_,bl⟩
 show Ending.returned (.tuple #[iv (-((besideO u.neg u.mag (Nm.mk v.nk v.nn)).1)),.bool ((besideO u.neg u.mag (Nm.mk v.nk v.nn)).2)])=Ending.returned (.tuple #[iv ((orderO v u).1),.bool ((orderO v u).2)])
 first|rfl|(simp only [orderO,aa,bsm] <;> first|rfl|(simp only [orderO,aa,ab,ac,bsm] <;> rfl))|(exfalso; omega)
 have bi:=oF ac
 have bm:=hB bM ac
 refine wf bm<| wk fun cR bn=>?_
 refine wA tr6 [] 65 [ve (.pointer (some ⟨q9,1,none⟩)),ve (nv (Nm.mk v.nk v.nn)),ve (.pointer (some ⟨af,1,none⟩)),ve (nv (Nm.mk u.nk u.nn)),ve (.bool (lessM (Nm.mk v.nk v.nn) (Nm.mk u.nk u.nn))),ve (.bool (lessM (Nm.mk v.nk v.nn) (Nm.mk u.nk u.nn)))] am ?_ ?_
 exact .F a8<| .K2 0 az<| .F a9<| .K2 2 aA<| .C2 1 3 (fun n=>nless_c (Nm.mk v.nk v.nn) (Nm.mk u.nk u.nn) _)<| .B 4 .nil
 refine aftI am a6 ax fun cS cU ag aD aE aF an=>?_
 have⟨bd,be⟩:=an.f2 a8 a9
 have bf:=an.g 5 48
 have⟨aG,aH⟩:=nw2 aF az aA
 refine bn _ _ ?_
 rcases bc (lessM (Nm.mk v.nk v.nn) (Nm.mk u.nk u.nn)) with ad|ad
 have bo:=hB bf ad
 refine wt bo<| wk fun cV bp=>?_
 refine wA tr2 [] 65 [ve (iv (-1)),vT] ag ?_ ?_
 exact .c<| .c .nil
 refine aftI ag aD aE fun cW cX cB bq br cC aI=>?_
 have ca:=aI.g 0 4
 have cb:=aI.g 1 5
 refine bp _ _ ?_
 refine wp_ret (ret_k bq (v:=.tuple #[iv (-1),.bool true]) (res_tt rfl ca cb _) ?_)
 refine ⟨?_,br⟩
 show Ending.returned (.tuple #[iv (-1),.bool true])=Ending.returned (.tuple #[iv ((orderO v u).1),.bool ((orderO v u).2)])
 first|rfl|(simp only [orderO,aa,bsm] <;> first|rfl|(simp only [orderO,aa,ab,ac,ad,bsm] <;> rfl))|(exfalso; omega)
 have bs:=hB bf ad
 refine wf bs<| wk fun cY bt=>?_
 refine wA tr6 [] 65 [ve (.pointer (some ⟨q9,1,none⟩)),ve (nv (Nm.mk v.nk v.nn)),ve (.pointer (some ⟨af,1,none⟩)),ve (nv (Nm.mk u.nk u.nn)),ve (.bool (equalM (Nm.mk v.nk v.nn) (Nm.mk u.nk u.nn))),ve (.bool (equalM (Nm.mk v.nk v.nn) (Nm.mk u.nk u.nn)))] ag ?_ ?_
 exact .F bd<| .K2 0 aG<| .F be<| .K2 2 aH<| .C2 1 3 (fun n=>equal_c (Nm.mk v.nk v.nn) (Nm.mk u.nk u.nn) _)<| .B 4 .nil
 refine aftI ag aD aE fun cZ c0 ah aJ aK aL ao=>?_
 have⟨cc,cd⟩:=ao.f2 bd be
 have bg:=ao.g 5 54
 have⟨bu,bv⟩:=nw2 aL aG aH
 refine bt _ _ ?_
 rcases bc (equalM (Nm.mk v.nk v.nn) (Nm.mk u.nk u.nn)) with ae|ae
 have bw:=hB bg ae
 refine wt bw<| wk fun c1 bx=>?_
 refine wA tr2 [] 65 [ve (iv 0),vT] ah ?_ ?_
 exact .c<| .c .nil
 refine aftI ah aJ aK fun c2 c3 cD bz bA cE aM=>?_
 have ce:=aM.g 0 4
 have cf:=aM.g 1 5
 refine bx _ _ ?_
 refine wp_ret (ret_k bz (v:=.tuple #[iv 0,.bool true]) (res_tt rfl ce cf _) ?_)
 refine ⟨?_,bA⟩
 show Ending.returned (.tuple #[iv 0,.bool true])=Ending.returned (.tuple #[iv ((orderO v u).1),.bool ((orderO v u).2)])
 first|rfl|(simp only [orderO,aa,bsm] <;> first|rfl|(simp only [orderO,aa,ab,ac,ad,ae,bsm] <;> rfl))|(exfalso; omega)
 have bB:=hB bg ae
 refine wf bB<| ws ?_
 refine bQ _ _ ?_
 refine wk fun c4 bC=>?_
 refine wA tr7 [] 65 [ve (.pointer (some ⟨af,1,none⟩)),ve (nv (Nm.mk u.nk u.nn)),ve (.pointer (some ⟨q9,1,none⟩)),ve (nv (Nm.mk v.nk v.nn)),ve (.bool (lessM (Nm.mk u.nk u.nn) (Nm.mk v.nk v.nn))),ve (iv 1),ve (.bool (lessM (Nm.mk u.nk u.nn) (Nm.mk v.nk v.nn)))] ah ?_ ?_
 exact .F cd<| .K2 0 bv<| .F cc<| .K2 2 bu<| .C2 1 3 (fun n=>nless_c (Nm.mk u.nk u.nn) (Nm.mk v.nk v.nn) _)<| .c<| .B 4 .nil
 refine aftI ah aJ aK fun c5 c6 cF bD bE cG aN=>?_
 have ch:=aN.g 5 4
 have ci:=aN.g 6 5
 refine bC _ _ ?_
 refine wp_ret (ret_k bD (v:=.tuple #[iv 1,.bool (lessM (Nm.mk u.nk u.nn) (Nm.mk v.nk v.nn))]) (res_tt rfl ch ci _) ?_)
 refine ⟨?_,bE⟩
 show Ending.returned (.tuple #[iv 1,.bool (lessM (Nm.mk u.nk u.nn) (Nm.mk v.nk v.nn))])=Ending.returned (.tuple #[iv ((orderO v u).1),.bool ((orderO v u).2)])
 first|rfl|(simp only [orderO,aa,bsm] <;> first|rfl|(simp only [orderO,aa,ab,ac,ad,ae,bsm] <;> rfl))|(exfalso; omega)
theorem truthN_c (t:Bool) (w:World):Calls prog 39 #[.bool t] w (IsRet (vv (Vl.mk 2 0 0 false [] [] (truthR t)) none 0 none 0) w):=by
 refine enter_abs func39 rfl fun a0 ac aX hp=>?_
 have ac:a0.tmps.size=6:=ac
 have an:New w w:=Upd.refl _ _
 have hp0:a0.eval (.tmp 0)=.bool t:=hp 0 _ rfl
 refine wk fun K1 aY=>?_
 refine wB tr1 [] [] 6 [IsNew w 29 z7] [0] ac ?_ heN ?_
 exact .Y .nil
 refine aftI ac aX an fun a2 w3 ao aZ ax bb ap=>?_
 have h8:=ap.f1 hp0
 obtain⟨aq,h9,ay,az⟩:=ap.G 0 2
 have a6:=Nat.le_trans an.size ay
 refine aY _ _ <| wk fun bd aA=>?_
 refine wk fun be aB=>?_
 refine wA tr1 [] 6 [ve (.bool t)] ao ?_ ?_
 exact .M h8 .nil
 refine aftI ao aZ ax fun bf bg ab ad ae aC af=>?_
 have ar:=af.f1 h9
 have au:=af.g 0 3
 have ag:=az.new_ aC
 refine aB _ _ ?_
 rcases bc (t) with aa|aa
 have aD:=hB au aa
 refine wt aD<| wk fun bh aE=>?_
 refine wA [true,false] [(1,false)] 6 [ve (vv (Vl.mk 2 0 0 false [] [] 1) none 0 none 0),vt] ab ?_ ?_
 exact .T (fun k=>v_build (ps:=[(0,iv 2),(4,iv 1)]) rfl (parts2 rfl rfl) (by kernel_rfl))<| .off .nil
 refine aftI ab ad ae fun bi bj a7 aF aG aH ah=>?_
 have av:=ah.f1 ar
 have a1:=ah.g 0 4
 have aI:=ag.new_ aH
 refine sS9 av a1 aI fun a3 aK aJ a8=>?_
 have aM:=aG.tR aJ
 refine aE _ _ ?_
 refine wp_ret (ret_k aF (v:=vv (Vl.mk 2 0 0 false [] [] 1) none 0 none 0) (res_c rfl av (l_agg isAgg29 sizeOf29 aK rfl)) ?_)
 refine ⟨?_,aM⟩
 show Ending.returned (vv (Vl.mk 2 0 0 false [] [] 1) none 0 none 0)=Ending.returned (vv (Vl.mk 2 0 0 false [] [] (truthR t)) none 0 none 0)
 first|rfl|(simp only [truthR,aa,bsm] <;> rfl)|(exfalso; omega)
 have aN:=hB au aa
 refine wf aN<| ws ?_
 refine aA _ _ ?_
 refine wk fun bl aO=>?_
 refine wA [true,false] [(1,false)] 6 [ve (vv (Vl.mk 2 0 0 false [] [] 0) none 0 none 0),vt] ab ?_ ?_
 exact .T (fun k=>v_build (ps:=[(0,iv 2)]) rfl (parts1 rfl) (by kernel_rfl))<| .off .nil
 refine aftI ab ad ae fun bm bn a9 aP aQ aR ai=>?_
 have aw:=ai.f1 ar
 have a4:=ai.g 0 5
 have aS:=ag.new_ aR
 refine sS9 aw a4 aS fun a5 aU aT ba=>?_
 have aW:=aQ.tR aT
 refine aO _ _ ?_
 refine wp_ret (ret_k aP (v:=vv (Vl.mk 2 0 0 false [] [] 0) none 0 none 0) (res_c rfl aw (l_agg isAgg29 sizeOf29 aU rfl)) ?_)
 refine ⟨?_,aW⟩
 show Ending.returned (vv (Vl.mk 2 0 0 false [] [] 0) none 0 none 0)=Ending.returned (vv (Vl.mk 2 0 0 false [] [] (truthR t)) none 0 none 0)
 first|rfl|(simp only [truthR,aa,bsm] <;> rfl)|(exfalso; omega)
theorem less_c (v:Vl) (Av:Option Addr) (cv:Nat) (Bv:Option Addr) (dv:Nat) (u:Vl) (Au:Option Addr) (cu:Nat) (Bu:Option Addr) (du:Nat) (t:Bool) (n:Bool) (w:World) (hmv:SRow w .u32 Av v.mag cv) (hsv:SRow w .u16 Bv v.s dv) (hmu:SRow w .u32 Au u.mag cu) (hsu:SRow w .u16 Bu u.s du) (hvv:VOk v) (hvu:VOk u):Calls prog 38 #[vv v Av cv Bv dv,vv u Au cu Bu du,.bool t,.bool n] w (IsRet (.tuple #[vv (Vl.mk (lessT v u t n).1 0 0 false [] [] (lessT v u t n).2.1) none 0 none 0,iv ((lessT v u t n).2.2)]) w):=by
 refine enter_abs func38 rfl fun a0 ci ka hp=>?_
 have ci:a0.tmps.size=100:=ci
 have cj:New w w:=Upd.refl _ _
 have hp0:a0.eval (.tmp 0)=vv v Av cv Bv dv:=hp 0 _ rfl
 have hp1:a0.eval (.tmp 1)=vv u Au cu Bu du:=hp 1 _ rfl
 have hp2:a0.eval (.tmp 2)=.bool t:=hp 2 _ rfl
 have hp3:a0.eval (.tmp 3)=.bool n:=hp 3 _ rfl
 refine wk fun K1 kb=>?_
 refine wB tr4 [] [] 100 [IsNew w 29 (c7 v Av cv Bv dv),IsNew w 29 (c7 u Au cu Bu du),IsNew w 29 z7,ve (iv 0)] [0,1,2] ci ?_ heN ?_
 exact .X hp0<| .X hp1<| .Y<| .c .nil
 refine aftI ci ka cj fun a2 w3 hZ kc ih mr bk=>?_
 have⟨h8,h9⟩:=bk.f2 hp2 hp3
 obtain⟨aZ,cl,ii,dh⟩:=bk.G 0 4
 obtain⟨aQ,cm,ij,di⟩:=bk.G 1 5
 obtain⟨aF,dj,ik,il⟩:=bk.G 2 8
 have hne22:=bk.ne 0 1 4 5 cl cm
 have hne23:=bk.ne 0 2 4 8 cl dj
 have hne24:=bk.ne 1 2 5 8 cm dj
 have k6:=Nat.le_trans cj.size ii
 have k7:=Nat.le_trans cj.size ij
 have k8:=Nat.le_trans cj.size ik
 refine kb _ _ <| wk fun ms im=>?_
 refine wb<| wk fun mt io=>?_
 refine wA tr9 [] 100 [ve (pv aZ),ve (iv v.k),ve (.bool (decide (v.k=6))),ve (.bool (decide (v.k=6))),ve (gq (!(decide (v.k=6))) (pv aQ)),ve (gq (!(decide (v.k=6))) (iv u.k)),ve (gq (!(decide (v.k=6))) (.bool (decide (u.k=6)))),ve (.bool ((decide (v.k=6)) || (decide (u.k=6)))),ve (.bool ((decide (v.k=6)) || (decide (u.k=6))))] hZ ?_ ?_
 exact .F cl<| .J 0 isAgg3 dh<| .b 1 (r_eql rfl)<| .N 2<| .Q (fun k=>g0' (k.eq1 3 19 rfl)) (fun hG p k=>v_field rfl (k.fx 5 cm) (fun w=>rfl))<| .Q (fun k=>g0' (k.eq1 3 19 rfl)) (fun hG p k=>v_load rfl (cT hG (k.eq1 4 20 rfl)) (l_one isAgg3 ((di.new_ p).cell 0)))<| .Q (fun k=>g0' (k.eq1 3 19 rfl)) (fun hG p k=>v_bin rfl (cT hG (k.eq1 5 21 rfl)) rfl (fun _=>rfl) (r_eql rfl))<| .W 3 6<| .B 7 .nil
 refine aftI hZ kc ih fun mu mv bI dk dl b7 bh=>?_
 have⟨kd,ke,h3,h4⟩:=bh.f4 h8 h9 cl cm
 have h5:=bh.f1 dj
 have h6:=bh.g 8 15
 have⟨dm,dn,dp⟩:=nw3 b7 dh di il
 refine io _ _ ?_
 rcases bc (((decide (v.k=6)) || (decide (u.k=6)))) with aa|aa
 have ip:=hB h6 aa
 refine wt ip<| wk fun mw iq=>?_
 refine wA [true,false,false] [(1,false),(2,true)] 100 [ve (vv (Vl.mk 0 0 0 false [] [] 0) none 0 none 0),vt,vt] bI ?_ ?_
 exact .Z<| .off<| .off .nil
 refine aftI bI dk dl fun h7 mx dq ir it iu dr=>?_
 have ia:=dr.f1 h5
 have ib:=dr.g 0 24
 have iw:=dp.new_ iu
 refine sS9 ia ib iw fun kf iy ix k9=>?_
 have iA:=it.tR ix
 refine sP (v:=iv 3) rfl dq ir fun kg la iB bi ki=>?_
 have⟨kh,mz⟩:=bi.q2 ia ib
 refine iq _ _ ?_
 refine wp_ret (ret_k iB (v:=.tuple #[vv (Vl.mk 0 0 0 false [] [] 0) none 0 none 0,iv 3]) (res_ct rfl kh ki (l_agg isAgg29 sizeOf29 iy rfl)) ?_)
 refine ⟨?_,iA⟩
 show Ending.returned (.tuple #[vv (Vl.mk 0 0 0 false [] [] 0) none 0 none 0,iv 3])=Ending.returned (.tuple #[vv (Vl.mk (lessT v u t n).1 0 0 false [] [] (lessT v u t n).2.1) none 0 none 0,iv ((lessT v u t n).2.2)])
 first|rfl|(simp only [lessT,aa,bsm] <;> first|rfl|(simp only [lessT,aa,bsm] <;> rfl))|(exfalso; omega)
 have iC:=hB h6 aa
 have aG:(decide (v.k=6))=false:=ol aa
 have kM:=oF aG
 have aH:(decide (u.k=6))=false:=or_ aa
 have kN:=oF aH
 refine wf iC<| wk fun mA iD=>?_
 refine wA tr9 [] 100 [ve (pv aZ),ve (iv v.k),ve (.bool (decide (v.k=5))),ve (.bool (decide (v.k=5))),ve (gq (decide (v.k=5)) (pv aQ)),ve (gq (decide (v.k=5)) (iv u.k)),ve (gq (decide (v.k=5)) (.bool (decide (u.k=5)))),ve (.bool ((decide (v.k=5)) && (decide (u.k=5)))),ve (.bool ((decide (v.k=5)) && (decide (u.k=5))))] bI ?_ ?_
 exact .F h3<| .J 0 isAgg3 dm<| .b 1 (r_eql rfl)<| .N 2<| .Q (fun k=>g0 (k.eq1 3 29 rfl)) (fun hG p k=>v_field rfl (k.fx 5 h4) (fun w=>rfl))<| .Q (fun k=>g0 (k.eq1 3 29 rfl)) (fun hG p k=>v_load rfl (cT hG (k.eq1 4 30 rfl)) (l_one isAgg3 ((dn.new_ p).cell 0)))<| .Q (fun k=>g0 (k.eq1 3 29 rfl)) (fun hG p k=>v_bin rfl (cT hG (k.eq1 5 31 rfl)) rfl (fun _=>rfl) (r_eql rfl))<| .O 3 6<| .B 7 .nil
 refine aftI bI dk dl fun mB mC bJ ds dt b8 bj=>?_
 have⟨ic,id,cn,co⟩:=bj.f4 kd ke h3 h4
 have ie:=bj.f1 h5
 have ig:=bj.g 8 25
 have⟨bK,bL,dw⟩:=nw3 b8 dm dn dp
 refine iD _ _ ?_
 rcases bc (((decide (v.k=5)) && (decide (u.k=5)))) with ab|ab
 have iE:=hB ig ab
 have b9:(decide (v.k=5))=true:=al ab
 have kO:=oT b9
 have ca:(decide (u.k=5))=true:=ar ab
 have kP:=oT ca
 refine wt iE<| wk fun mD dx=>wk fun lc eL=>?_
 refine wA tr1 [] 100 [ve (.bool t)] bJ ?_ ?_
 exact .M ic .nil
 refine aftI bJ ds dt fun ld le bl cp bm bM a1=>?_
 have⟨dy,cb,cc,dz⟩:=a1.f4 id cn co ie
 have dA:=a1.g 0 34
 have⟨bN,bO,cq⟩:=nw3 bM bK bL dw
 refine eL _ _ ?_
 rcases bc (t) with a3|a3
 have eM:=hB dA a3
 refine wt eM<| wp_g0 [true,true,false,false] [(2,false),(3,false)] 100
  [ve (vv u Au cu Bu du),ve (vv v Av cv Bv dv),vt,vt] bl (.eq (.eq (.tt (.tt .nil)))) ?_ ?_
 exact .L9 cc bO<| .L9 cb bN<| .off<| .off .nil
 refine aftI bl cp bm fun lf lg cr eN eO bP aI=>?_
 have⟨iF,dB,dC,iG⟩:=aI.f4 dy cb cc dz
 have iH:=aI.g 0 35
 have iI:=aI.g 1 36
 have⟨eP,eQ,eR⟩:=nw3 bP bN bO cq
 refine sS9 dB iH eP fun iJ eT eS ct=>?_
 have eV:=ct hne22.symm eQ
 have eW:=ct hne23.symm eR
 have eX:=eO.tR eS
 refine sS9 dC iI eV fun iK eZ eY cw=>?_
 have e1:=cw hne22 eT
 have e2:=cw hne24.symm eW
 have bQ:=eX.tR eY
 refine dx _ _ <| wk fun lj e3=>?_
 refine wA [true,true,true,true,true,true,true,true,false,false] [(8,false),(9,true)] 100 [ve (.pointer (some ⟨aZ,5,none⟩)),ve (sv Bu u.s du),ve (.pointer (some ⟨aQ,5,none⟩)),ve (sv Bv v.s dv),ve (.bool (decide (cmpU u.s v.s < 0))),ve (.bool n),ve (.bool ((decide (cmpU u.s v.s < 0)) != n)),ve (vv (Vl.mk 2 0 0 false [] [] (truthR ((decide (cmpU u.s v.s < 0)) != n))) none 0 none 0),vt,vt] cr ?_ ?_
 exact .F dB<| .J 0 isAgg27 e1<| .F dC<| .J 2 isAgg27 eZ<| .C2 1 3 (fun p=>tless_c _ u.s _ _ v.s _ _ (hsu.new_ (bQ.transNew p)) (hsv.new_ (bQ.transNew p)) hvu.units hvv.units)<| .M iF<| .T (fun k=>v_bin rfl (k.eq1 4 41 rfl) (k.eq1 5 42 rfl) (fun _=>rfl) (r_neqB _ _))<| .C 6 (fun p=>truthN_c ((decide (cmpU u.s v.s < 0)) != n) _)<| .off<| .off .nil
 refine aftI cr eN bQ fun dH lk cx e4 e5 e6 cy=>?_
 have dI:=cy.f1 iG
 have dJ:=cy.g 7 44
 have e7:=e2.new_ e6
 refine sS9 dI dJ e7 fun iL e9 e8 kQ=>?_
 have fb:=e5.tR e8
 refine sP (v:=iv 0) rfl cx e4 fun iM kR fc aJ iO=>?_
 have⟨iN,lm⟩:=aJ.q2 dI dJ
 refine e3 _ _ ?_
 refine wp_ret (ret_k fc (v:=.tuple #[vv (Vl.mk 2 0 0 false [] [] (truthR ((decide (cmpU u.s v.s < 0)) != n))) none 0 none 0,iv 0]) (res_ct rfl iN iO (l_agg isAgg29 sizeOf29 e9 rfl)) ?_)
 refine ⟨?_,fb⟩
 show Ending.returned (.tuple #[vv (Vl.mk 2 0 0 false [] [] (truthR ((decide (cmpU u.s v.s < 0)) != n))) none 0 none 0,iv 0])=Ending.returned (.tuple #[vv (Vl.mk (lessT v u t n).1 0 0 false [] [] (lessT v u t n).2.1) none 0 none 0,iv ((lessT v u t n).2.2)])
 first|rfl|(simp only [lessT,aa,ab,bsm] <;> first|rfl|(simp only [lessT,aa,aG,aH,ab,b9,ca,a3,bsm] <;> rfl))|(exfalso; omega)
 have fd:=hB dA a3
 refine wf fd<| ws ?_
 refine dx _ _ ?_
 refine wk fun ln fe=>?_
 refine wA [true,true,true,true,true,true,true,true,false,false] [(8,false),(9,true)] 100 [ve (.pointer (some ⟨aZ,5,none⟩)),ve (sv Bv v.s dv),ve (.pointer (some ⟨aQ,5,none⟩)),ve (sv Bu u.s du),ve (.bool (decide (cmpU v.s u.s < 0))),ve (.bool n),ve (.bool ((decide (cmpU v.s u.s < 0)) != n)),ve (vv (Vl.mk 2 0 0 false [] [] (truthR ((decide (cmpU v.s u.s < 0)) != n))) none 0 none 0),vt,vt] bl ?_ ?_
 exact .F cb<| .J 0 isAgg27 bN<| .F cc<| .J 2 isAgg27 bO<| .C2 1 3 (fun p=>tless_c _ v.s _ _ u.s _ _ (hsv.new_ (bm.transNew p)) (hsu.new_ (bm.transNew p)) hvv.units hvu.units)<| .M dy<| .T (fun k=>v_bin rfl (k.eq1 4 41 rfl) (k.eq1 5 42 rfl) (fun _=>rfl) (r_neqB _ _))<| .C 6 (fun p=>truthN_c ((decide (cmpU v.s u.s < 0)) != n) _)<| .off<| .off .nil
 refine aftI bl cp bm fun dM lo cz ff fg fh cA=>?_
 have dN:=cA.f1 dz
 have dO:=cA.g 7 44
 have fi:=cq.new_ fh
 refine sS9 dN dO fi fun iP fk fj kS=>?_
 have fm:=fg.tR fj
 refine sP (v:=iv 0) rfl cz ff fun iQ kT fn aK iS=>?_
 have⟨iR,lq⟩:=aK.q2 dN dO
 refine fe _ _ ?_
 refine wp_ret (ret_k fn (v:=.tuple #[vv (Vl.mk 2 0 0 false [] [] (truthR ((decide (cmpU v.s u.s < 0)) != n))) none 0 none 0,iv 0]) (res_ct rfl iR iS (l_agg isAgg29 sizeOf29 fk rfl)) ?_)
 refine ⟨?_,fm⟩
 show Ending.returned (.tuple #[vv (Vl.mk 2 0 0 false [] [] (truthR ((decide (cmpU v.s u.s < 0)) != n))) none 0 none 0,iv 0])=Ending.returned (.tuple #[vv (Vl.mk (lessT v u t n).1 0 0 false [] [] (lessT v u t n).2.1) none 0 none 0,iv ((lessT v u t n).2.2)])
 first|rfl|(simp only [lessT,aa,ab,bsm] <;> first|rfl|(simp only [lessT,aa,aG,aH,ab,b9,ca,a3,bsm] <;> rfl))|(exfalso; omega)
 have fo:=hB ig ab
 refine wf fo<| wk fun lr fp=>?_
 refine wA tr19 [] 100 [ve (pv aZ),ve (iv v.k),ve (.bool (decide (v.k=5))),ve (.bool (decide (v.k=5))),ve (gq (decide (v.k=5)) (pv aQ)),ve (gq (decide (v.k=5)) (iv u.k)),ve (gq (decide (v.k=5)) (.bool (decide (u.k=4)))),ve (.bool ((decide (v.k=5)) && (decide (u.k=4)))),ve (.bool ((decide (v.k=5)) && (decide (u.k=4)))),ve (gq (!((decide (v.k=5)) && (decide (u.k=4)))) (pv aZ)),ve (gq (!((decide (v.k=5)) && (decide (u.k=4)))) (iv v.k)),ve (gq (!((decide (v.k=5)) && (decide (u.k=4)))) (.bool (decide (v.k=4)))),ve (gq (!((decide (v.k=5)) && (decide (u.k=4)))) (.bool (decide (v.k=4)))),ve (gq ((!((decide (v.k=5)) && (decide (u.k=4)))) && (decide (v.k=4))) (pv aQ)),ve (gq ((!((decide (v.k=5)) && (decide (u.k=4)))) && (decide (v.k=4))) (iv u.k)),ve (gq ((!((decide (v.k=5)) && (decide (u.k=4)))) && (decide (v.k=4))) (.bool (decide (u.k=5)))),ve (gq (!((decide (v.k=5)) && (decide (u.k=4)))) (.bool ((decide (v.k=4)) && (decide (u.k=5))))),ve (.bool (((decide (v.k=5)) && (decide (u.k=4))) || ((decide (v.k=4)) && (decide (u.k=5))))),ve (.bool (((decide (v.k=5)) && (decide (u.k=4))) || ((decide (v.k=4)) && (decide (u.k=5)))))] bJ ?_ ?_
 exact .F cn<| .J 0 isAgg3 bK<| .b 1 (r_eql rfl)<| .N 2<| .Q (fun k=>g0 (k.eq1 3 49 rfl)) (fun hG p k=>v_field rfl (k.fx 5 co) (fun w=>rfl))<| .Q (fun k=>g0 (k.eq1 3 49 rfl)) (fun hG p k=>v_load rfl (cT hG (k.eq1 4 50 rfl)) (l_one isAgg3 ((bL.new_ p).cell 0)))<| .Q (fun k=>g0 (k.eq1 3 49 rfl)) (fun hG p k=>v_bin rfl (cT hG (k.eq1 5 51 rfl)) rfl (fun _=>rfl) (r_eql rfl))<| .O 3 6<| .N 7<| .Q (fun k=>g0' (k.eq1 8 54 rfl)) (fun hG p k=>v_field rfl (k.fx 4 cn) (fun w=>rfl))<| .Q (fun k=>g0' (k.eq1 8 54 rfl)) (fun hG p k=>v_load rfl (cT hG (k.eq1 9 55 rfl)) (l_one isAgg3 ((bK.new_ p).cell 0)))<| .Q (fun k=>g0' (k.eq1 8 54 rfl)) (fun hG p k=>v_bin rfl (cT hG (k.eq1 10 56 rfl)) rfl (fun _=>rfl) (r_eql rfl))<| .Q (fun k=>g0' (k.eq1 8 54 rfl)) (fun hG p k=>v_move rfl (cT hG (k.eq1 11 57 rfl)))<| .Q (fun k=>g1 (k.eq1 12 58 rfl)) (fun hG p k=>v_field rfl (k.fx 5 co) (fun w=>rfl))<| .Q (fun k=>g1 (k.eq1 12 58 rfl)) (fun hG p k=>v_load rfl (cT hG (k.eq1 13 59 rfl)) (l_one isAgg3 ((bL.new_ p).cell 0)))<| .Q (fun k=>g1 (k.eq1 12 58 rfl)) (fun hG p k=>v_bin rfl (cT hG (k.eq1 14 60 rfl)) rfl (fun _=>rfl) (r_eql rfl))<| .Q (fun k=>g0' (k.eq1 8 54 rfl)) (fun hG p k=>v_and rfl (cT hG (k.eq1 12 58 rfl)) (fun hg=>(cT (aj hG hg) (k.eq1 15 61 rfl))) rfl)<| .W 8 16<| .B 17 .nil
 refine aftI bJ ds dt fun ls iT bn cB a4 bR aL=>?_
 have⟨iU,iV,iW,iX⟩:=aL.f4 ic id cn co
 have dR:=aL.f1 ie
 have dS:=aL.g 18 45
 have⟨fq,cC,bS⟩:=nw3 bR bK bL dw
 refine fp _ _ ?_
 rcases bc ((((decide (v.k=5)) && (decide (u.k=4))) || ((decide (v.k=4)) && (decide (u.k=5))))) with ac|ac
 have fs:=hB dS ac
 refine wt fs<| wk fun lu ft=>?_
 refine wA [true,false,false] [(1,false),(2,true)] 100 [ve (vv (Vl.mk 0 0 0 false [] [] 0) none 0 none 0),vt,vt] bn ?_ ?_
 exact .Z<| .off<| .off .nil
 refine aftI bn cB a4 fun dT lv cD fu fv fw cE=>?_
 have dU:=cE.f1 dR
 have dV:=cE.g 0 64
 have fy:=bS.new_ fw
 refine sS9 dU dV fy fun iY fA fz kU=>?_
 have fC:=fv.tR fz
 refine sP (v:=iv 3) rfl cD fu fun iZ kV fD aM i1=>?_
 have⟨i0,lx⟩:=aM.q2 dU dV
 refine ft _ _ ?_
 refine wp_ret (ret_k fD (v:=.tuple #[vv (Vl.mk 0 0 0 false [] [] 0) none 0 none 0,iv 3]) (res_ct rfl i0 i1 (l_agg isAgg29 sizeOf29 fA rfl)) ?_)
 refine ⟨?_,fC⟩
 show Ending.returned (.tuple #[vv (Vl.mk 0 0 0 false [] [] 0) none 0 none 0,iv 3])=Ending.returned (.tuple #[vv (Vl.mk (lessT v u t n).1 0 0 false [] [] (lessT v u t n).2.1) none 0 none 0,iv ((lessT v u t n).2.2)])
 first|rfl|(simp only [lessT,aa,ab,ac,bsm] <;> first|rfl|(simp only [lessT,aa,aG,aH,ab,ac,bsm] <;> rfl))|(exfalso; omega)
 have fE:=hB dS ac
 have an:((decide (v.k=5)) && (decide (u.k=4)))=false:=ol ac
 have ao:((decide (v.k=4)) && (decide (u.k=5)))=false:=or_ ac
 refine wf fE<| ws ?_
 refine im _ _ ?_
 refine wk fun ly fF=>?_
 refine wp_gS (fun W=>True) (fun W W' hn h=>trivial) trivial [true,true,true,true,true,true,false,false] [4] [(6,false),(7,true)] 100
  [ve (vv v Av cv Bv dv),(TP (numericV v).1 ((numericV v).2)),(TP (numericV v).1 ((numericV v).2)),(fun (v_:Value) (W:World)=>∃ (bu:Option Addr) (bv:Nat) (bw:Option Addr) (bx:Nat),v_=vv (numericV v).1 bu bv bw bx∧SRow W .u32 bu ((numericV v).1.mag) bv∧SRow W .u16 bw ((numericV v).1.s) bx),ve (iv ((numericV v).2)),IsNew iT 29 z7,vt,vt]
  [5] (newsCons (fun v w h=>IsNew.old h) newsNil) bn (.eq (.cons (fun _ _ _ n ⟨_,_,_,_,e,h,i⟩=>⟨_,_,_,_,e,h.new_ n,i.new_ n⟩) (.cons (fun _ _ _ n ⟨_,_,_,_,e,h,i⟩=>⟨_,_,_,_,e,h.new_ n,i.new_ n⟩) (.cons (fun _ _ _ n ⟨_,_,_,_,e,h,i⟩=>⟨_,_,_,_,e,h.new_ n,i.new_ n⟩) (.eq (.nw (.tt (.tt .nil)))))))) ?_ ?_ ?_
 refine .L9 iW fq ?_
 refine .o1 (tkC rfl (noG rfl) rfl fun _ w hn k=>(by
  refine ⟨#[vv v Av cv Bv dv],_,args1 (k.eq1 0 66 rfl),fun w=>by kernel_rfl,cnumeric_c v _ _ _ _ _ (hmv.new_ (a4.transNew hn)) (hsv.new_ (a4.transNew hn)) hvv,?_⟩
  rintro e w' ⟨A1,c2,A3,c4,rfl,hmo0,hmo1,hm⟩
  exact⟨_,rfl,hm,⟨A1,c2,A3,c4,rfl,hmo0,hmo1⟩⟩)) ?_
 refine .o1 (tk rfl rfl fun _ w hn k=>(by
  obtain⟨A9,kj,kk,kl,km,i2,i3⟩:=k.G 1 67
  exact⟨_,v_move rfl km,⟨A9,kj,kk,kl,rfl,i2,i3⟩⟩)) ?_
 refine .o1 (tk rfl rfl fun _ w hn k=>(by
  obtain⟨kn,ko,kp,kq,kr,i4,i5⟩:=k.G 2 65
  exact⟨_,v_extract rfl kr rfl,⟨kn,ko,kp,kq,rfl,i4,i5⟩⟩)) ?_
 refine .o3 ?_
 exact .Y<| .off<| .off .nil
 refine eg1 ?_
 exact eager_takeG rfl (noG rfl) fun _ w hn k=>(by
  obtain⟨mE,mF,mG,mH,ks,lz,lA⟩:=k.G 2 65
  exact⟨_,fun w hS=>v_extract rfl ks rfl,rfl⟩)
 intro cd lB _ bT ap
 obtain⟨cF,fG,fH⟩:=aft ap bn cB a4 bT
 have⟨i6,i7,i8,i9⟩:=ap.f4 iU iV iX dR
 obtain⟨au,af,av,ag,bU,fI,fJ⟩:=ap.G 3 68
 have bU:cd.eval (.tmp 68)=vv (numericV v).1 au af av ag:=bU
 have dY:=ap.g 4 69
 obtain⟨bz,dZ,bV,bW⟩:=ap.G 5 10
 have⟨fK,fL⟩:=nw2 bT cC bS
 have hne281:aQ ≠ bz:=by have h1:=cC.lt; have h2:=bV; omega
 have hne282:aF ≠ bz:=by have h1:=bS.lt; have h2:=bV; omega
 have kW:=Nat.le_trans a4.size bV
 refine sS9 dZ bU bW fun ja fM bX cG=>?_
 have fO:=fI.fr bW bX
 have fP:=fJ.fr bW bX
 have fQ:=cG hne281 fK
 have fR:=cG hne282 fL
 have fS:=fH.tR bX
 refine sP dY cF fG fun jb cH fT ad d2=>?_
 have⟨jc,jd,je⟩:=ad.q3 i6 i7 i8
 have⟨jf,lD,lE⟩:=ad.q3 i9 bU dY
 have jg:=ad.q dZ
 refine fF _ _ <| wk fun lF fU=>?_
 refine wk fun lG fV=>?_
 refine wA tr2 [] 100 [ve (iv ((numericV v).2)),ve (.bool (!decide (((numericV v).2)=0)))] cH ?_ ?_
 exact .M d2<| .b 0 (r_neq rfl) .nil
 refine aftI cH fT fS fun lH jh bo cI a5 a6 ay=>?_
 have⟨ji,jj,jk,d3⟩:=ay.f4 jc jd je jf
 have⟨jl,d4⟩:=ay.f2 jg d2
 have d5:=ay.g 1 71
 have⟨fW,bY,cJ,fX⟩:=nw4 a6 fQ fR fM fO
 have fY:=fP.new_ a6
 refine fV _ _ ?_
 rcases bc ((!decide (((numericV v).2)=0))) with ak|ak
 have fZ:=hB d5 ak
 have cK:(decide (((numericV v).2)=0))=false:=nF ak
 have kt:=oF cK
 refine wt fZ<| wk fun lI f0=>?_
 refine wB [true,true,false,false] [1] [(2,false),(3,true)] 100 [ve (vv (Vl.mk 0 0 0 false [] [] 0) none 0 none 0),ve (iv ((numericV v).2)),vt,vt] [] bo ?_ ?_ ?_
 refine .Z ?_
 refine .o3 ?_
 exact .off<| .off .nil
 refine eg1 ?_
 exact eager_take rfl rfl fun _ w hn k=>⟨iv ((numericV v).2),fun w=>v_move rfl (k.fx 11 d4),rfl⟩
 refine aftI bo cI a5 fun d6 lJ cL f1 f2 f3 bZ=>?_
 have d7:=bZ.f1 d3
 have d8:=bZ.g 0 72
 have d9:=bZ.g 1 73
 have f4:=bY.new_ f3
 refine sS9 d7 d8 f4 fun jm f6 f5 kX=>?_
 have f8:=f2.tR f5
 refine sP d9 cL f1 fun jn kY f9 az jp=>?_
 have⟨jo,lL,lM⟩:=az.q3 d7 d8 d9
 refine f0 _ _ ?_
 refine wp_ret (ret_k f9 (v:=.tuple #[vv (Vl.mk 0 0 0 false [] [] 0) none 0 none 0,iv ((numericV v).2)]) (res_ct rfl jo jp (l_agg isAgg29 sizeOf29 f6 rfl)) ?_)
 refine ⟨?_,f8⟩
 show Ending.returned (.tuple #[vv (Vl.mk 0 0 0 false [] [] 0) none 0 none 0,iv ((numericV v).2)])=Ending.returned (.tuple #[vv (Vl.mk (lessT v u t n).1 0 0 false [] [] (lessT v u t n).2.1) none 0 none 0,iv ((lessT v u t n).2.2)])
 first|rfl|(simp only [lessT,aa,ab,ac,an,ao,bsm] <;> first|rfl|(simp only [lessT,aa,aG,aH,ab,ac,an,ao,ak,cK,bsm] <;> rfl))|(exfalso; omega)
 have ga:=hB d5 ak
 have bp:(decide (((numericV v).2)=0))=true:=nT ak
 have ku:=oT bp
 refine wf ga<| ws ?_
 refine fU _ _ ?_
 refine wk fun lN gb=>?_
 refine wp_gS (fun W=>True) (fun W W' hn h=>trivial) trivial [true,true,true,true,true,true,false,false] [4] [(6,false),(7,true)] 100
  [ve (vv u Au cu Bu du),(TP (numericV u).1 ((numericV u).2)),(TP (numericV u).1 ((numericV u).2)),(fun (v_:Value) (W:World)=>∃ (bE:Option Addr) (bF:Nat) (bG:Option Addr) (bH:Nat),v_=vv (numericV u).1 bE bF bG bH∧SRow W .u32 bE ((numericV u).1.mag) bF∧SRow W .u16 bG ((numericV u).1.s) bH),ve (iv ((numericV u).2)),IsNew jh 29 z7,vt,vt]
  [5] (newsCons (fun v w h=>IsNew.old h) newsNil) bo (.eq (.cons (fun _ _ _ n ⟨_,_,_,_,e,h,i⟩=>⟨_,_,_,_,e,h.new_ n,i.new_ n⟩) (.cons (fun _ _ _ n ⟨_,_,_,_,e,h,i⟩=>⟨_,_,_,_,e,h.new_ n,i.new_ n⟩) (.cons (fun _ _ _ n ⟨_,_,_,_,e,h,i⟩=>⟨_,_,_,_,e,h.new_ n,i.new_ n⟩) (.eq (.nw (.tt (.tt .nil)))))))) ?_ ?_ ?_
 refine .L9 jk fW ?_
 refine .o1 (tkC rfl (noG rfl) rfl fun _ w hn k=>(by
  refine ⟨#[vv u Au cu Bu du],_,args1 (k.eq1 0 75 rfl),fun w=>by kernel_rfl,cnumeric_c u _ _ _ _ _ (hmu.new_ (a5.transNew hn)) (hsu.new_ (a5.transNew hn)) hvu,?_⟩
  rintro e w' ⟨kv,kw,kx,ky,rfl,hmo0,hmo1,hm⟩
  exact⟨_,rfl,hm,⟨kv,kw,kx,ky,rfl,hmo0,hmo1⟩⟩)) ?_
 refine .o1 (tk rfl rfl fun _ w hn k=>(by
  obtain⟨kz,kA,kB,kC,kD,jq,jr⟩:=k.G 1 76
  exact⟨_,v_move rfl kD,⟨kz,kA,kB,kC,rfl,jq,jr⟩⟩)) ?_
 refine .o1 (tk rfl rfl fun _ w hn k=>(by
  obtain⟨kE,kF,kG,kH,kI,js,jt⟩:=k.G 2 74
  exact⟨_,v_extract rfl kI rfl,⟨kE,kF,kG,kH,rfl,js,jt⟩⟩)) ?_
 refine .o3 ?_
 exact .Y<| .off<| .off .nil
 refine eg1 ?_
 exact eager_takeG rfl (noG rfl) fun _ w hn k=>(by
  obtain⟨mI,mJ,mK,mL,kJ,lO,lP⟩:=k.G 2 74
  exact⟨_,fun w hS=>v_extract rfl kJ rfl,rfl⟩)
 intro ce lQ _ a7 am
 obtain⟨cM,gc,gd⟩:=aft am bo cI a5 a7
 have⟨ju,jv,jw,jx⟩:=am.f4 ji jj d3 jl
 have lR:=am.f1 d4
 obtain⟨aw,ah,ax,ai,b0,gf,gg⟩:=am.G 3 77
 have b0:ce.eval (.tmp 77)=vv (numericV u).1 aw ah ax ai:=b0
 have ec:=am.g 4 78
 obtain⟨b1,ed,b2,a8⟩:=am.G 5 12
 have⟨gh,gi⟩:=nw2 a7 bY cJ
 have hne389:aF ≠ b1:=by have h1:=bY.lt; have h2:=b2; omega
 have hne390:bz ≠ b1:=by have h1:=cJ.lt; have h2:=b2; omega
 have kZ:=Nat.le_trans a5.size b2
 have⟨gj,gk⟩:=nw2 a7 fX fY
 refine sS9 ed b0 a8 fun jy gl a9 cN=>?_
 have gn:=gj.fr a8 a9
 have go:=gk.fr a8 a9
 have gp:=gf.fr a8 a9
 have gr:=gg.fr a8 a9
 have gs:=cN hne389 gh
 have gt:=cN hne390 gi
 have gu:=gd.tR a9
 refine sP ec cM gc fun jz cO gv ae eg=>?_
 have⟨jA,jB,jC⟩:=ae.q3 ju jv jw
 have⟨jD,lT,lU⟩:=ae.q3 jx b0 ec
 have jE:=ae.q ed
 refine gb _ _ <| wk fun lV gw=>?_
 refine wk fun lW gx=>?_
 refine wA tr2 [] 100 [ve (iv ((numericV u).2)),ve (.bool (!decide (((numericV u).2)=0)))] cO ?_ ?_
 exact .M eg<| .b 0 (r_neq rfl) .nil
 refine aftI cO gv gu fun lX lY bq cP cQ aA aB=>?_
 have⟨jF,jG,eh,jH⟩:=aB.f4 jA jB jC jD
 have⟨jI,jJ⟩:=aB.f2 jE eg
 have ei:=aB.g 1 80
 have⟨cR,gy,gz,gA⟩:=nw4 aA gs gt gl gn
 have⟨gB,gC,gD⟩:=nw3 aA go gp gr
 refine gx _ _ ?_
 rcases bc ((!decide (((numericV u).2)=0))) with aq|aq
 have gE:=hB ei aq
 have cS:(decide (((numericV u).2)=0))=false:=nF aq
 have kK:=oF cS
 refine wt gE<| wk fun lZ gF=>?_
 refine wB [true,true,false,false] [1] [(2,false),(3,true)] 100 [ve (vv (Vl.mk 0 0 0 false [] [] 0) none 0 none 0),ve (iv ((numericV u).2)),vt,vt] [] bq ?_ ?_ ?_
 refine .Z ?_
 refine .o3 ?_
 exact .off<| .off .nil
 refine eg1 ?_
 exact eager_take rfl rfl fun _ w hn k=>⟨iv ((numericV u).2),fun w=>v_move rfl (k.fx 11 jJ),rfl⟩
 refine aftI bq cP cQ fun ej l0 cU gG gH gI b3=>?_
 have ek:=b3.f1 eh
 have el:=b3.g 0 81
 have em:=b3.g 1 82
 have gJ:=cR.new_ gI
 refine sS9 ek el gJ fun jK gL gK k0=>?_
 have gN:=gH.tR gK
 refine sP em cU gG fun jL k1 gO aC jN=>?_
 have⟨jM,l2,l3⟩:=aC.q3 ek el em
 refine gF _ _ ?_
 refine wp_ret (ret_k gO (v:=.tuple #[vv (Vl.mk 0 0 0 false [] [] 0) none 0 none 0,iv ((numericV u).2)]) (res_ct rfl jM jN (l_agg isAgg29 sizeOf29 gL rfl)) ?_)
 refine ⟨?_,gN⟩
 show Ending.returned (.tuple #[vv (Vl.mk 0 0 0 false [] [] 0) none 0 none 0,iv ((numericV u).2)])=Ending.returned (.tuple #[vv (Vl.mk (lessT v u t n).1 0 0 false [] [] (lessT v u t n).2.1) none 0 none 0,iv ((lessT v u t n).2.2)])
 first|rfl|(simp only [lessT,aa,ab,ac,an,ao,bsm] <;> first|rfl|(simp only [lessT,aa,aG,aH,ab,ac,an,ao,ak,bp,aq,cS,bsm] <;> rfl))|(exfalso; omega)
 have gP:=hB ei aq
 have b4:(decide (((numericV u).2)=0))=true:=nT aq
 have kL:=oT b4
 refine wf gP<| ws ?_
 refine gw _ _ ?_
 refine wk fun l4 cV=>wk fun l5 gQ=>?_
 refine wA tr1 [] 100 [ve (.bool t)] bq ?_ ?_
 exact .M jF .nil
 refine aftI bq cP cQ fun l6 l7 br cW cX aD ba=>?_
 have⟨ep,er,cf,ch⟩:=ba.f4 jG eh jH jI
 have es:=ba.g 0 83
 have⟨cY,b5,b6,cZ⟩:=nw4 aD cR gy gz gA
 have⟨c0,c1,c3⟩:=nw3 aD gB gC gD
 refine gQ _ _ ?_
 rcases bc (t) with bb|bb
 have gR:=hB es bb
 refine wt gR<| wp_g0 [true,true,false,false] [(2,false),(3,false)] 100
  [ve (vv (numericV u).1 aw ah ax ai),ve (vv (numericV v).1 au af av ag),vt,vt] br (.eq (.eq (.tt (.tt .nil)))) ?_ ?_
 exact .L9 ch b6<| .L9 cf b5<| .off<| .off .nil
 refine aftI br cW cX fun l8 l9 c5 gS gT aE aN=>?_
 have⟨jO,jP,et,eu⟩:=aN.f4 ep er cf ch
 have jQ:=aN.g 0 84
 have jR:=aN.g 1 85
 have⟨gU,bd,gV,gW⟩:=nw4 aE cY b5 b6 cZ
 have⟨gX,gY,gZ⟩:=nw3 aE c0 c1 c3
 refine sS9 et jQ bd fun jS g2 be c9=>?_
 have g4:=gW.fr bd be
 have g5:=gX.fr bd be
 have g6:=gY.fr bd be
 have g7:=gZ.fr bd be
 have g8:=c9 hne282 gU
 have bf:=c9 hne390.symm gV
 have g9:=gT.tR be
 refine sS9 eu jR bf fun jT ha bg da=>?_
 have hd:=g4.fr bf bg
 have hf:=g5.fr bf bg
 have hh:=g6.fr bf bg
 have hi:=g7.fr bf bg
 have hj:=da hne389 g8
 have hl:=da hne390 g2
 have ho:=g9.tR bg
 refine cV _ _ <| wk fun mc hr=>?_
 refine wA tr8 [] 100 [ve (vv (numericV u).1 aw ah ax ai),ve (vv (numericV v).1 au af av ag),ve (.tuple #[iv ((orderO ((numericV u).1) ((numericV v).1)).1),.bool ((orderO ((numericV u).1) ((numericV v).1)).2)]),ve (.tuple #[iv ((orderO ((numericV u).1) ((numericV v).1)).1),.bool ((orderO ((numericV u).1) ((numericV v).1)).2)]),ve (iv ((orderO ((numericV u).1) ((numericV v).1)).1)),ve (.bool ((orderO ((numericV u).1) ((numericV v).1)).2)),ve (iv ((orderO ((numericV u).1) ((numericV v).1)).1)),ve (.bool ((orderO ((numericV u).1) ((numericV v).1)).2))] c5 ?_ ?_
 exact .L9 et hl<| .L9 eu ha<| .C2 0 1 (fun p=>order_c ((numericV u).1) _ _ _ _ ((numericV v).1) _ _ _ _ _ (hh.new_ p) (hi.new_ p) (hd.new_ p) (hf.new_ p) (VOk.numeric hvu) (VOk.numeric hvv))<| .N 2<| .E 3<| .E 3<| .B 4<| .B 5 .nil
 refine aftI c5 gS ho fun md me db hs ht hu bs=>?_
 have⟨jU,jV⟩:=bs.f2 jO jP
 have jW:=bs.g 6 13
 have jX:=bs.g 7 14
 have hv:=hj.new_ hu
 refine hr _ _ <| wk fun mf hw=>?_
 refine wA [true,true,true,true,true,true,true,true,false,false] [(8,false),(9,true)] 100 [ve (.bool ((orderO ((numericV u).1) ((numericV v).1)).2)),ve (.bool ((orderO ((numericV u).1) ((numericV v).1)).2)),ve (gq ((orderO ((numericV u).1) ((numericV v).1)).2) (iv ((orderO ((numericV u).1) ((numericV v).1)).1))),ve (gq ((orderO ((numericV u).1) ((numericV v).1)).2) (.bool (decide (((orderO ((numericV u).1) ((numericV v).1)).1) < 0)))),ve (gq ((orderO ((numericV u).1) ((numericV v).1)).2) (.bool n)),ve (gq ((orderO ((numericV u).1) ((numericV v).1)).2) (.bool ((decide (((orderO ((numericV u).1) ((numericV v).1)).1) < 0)) != n))),ve (.bool (((orderO ((numericV u).1) ((numericV v).1)).2) && ((decide (((orderO ((numericV u).1) ((numericV v).1)).1) < 0)) != n))),ve (vv (Vl.mk 2 0 0 false [] [] (truthR (((orderO ((numericV u).1) ((numericV v).1)).2) && ((decide (((orderO ((numericV u).1) ((numericV v).1)).1) < 0)) != n)))) none 0 none 0),vt,vt] db ?_ ?_
 exact .M jX<| .N 0<| .Q (fun k=>g0 (k.eq1 1 93 rfl)) (fun hG p k=>v_move rfl (k.fx 13 jW))<| .Q (fun k=>g0 (k.eq1 1 93 rfl)) (fun hG p k=>v_bin rfl (cT hG (k.eq1 2 94 rfl)) rfl (fun _=>rfl) (r_lssK rfl))<| .Q (fun k=>g0 (k.eq1 1 93 rfl)) (fun hG p k=>v_move rfl (k.fx 3 jU))<| .Q (fun k=>g0 (k.eq1 1 93 rfl)) (fun hG p k=>v_bin rfl (cT hG (k.eq1 3 95 rfl)) (cT hG (k.eq1 4 96 rfl)) (fun _=>rfl) (r_neqB _ _))<| .O 1 5<| .C 6 (fun p=>truthN_c (((orderO ((numericV u).1) ((numericV v).1)).2) && ((decide (((orderO ((numericV u).1) ((numericV v).1)).1) < 0)) != n)) _)<| .off<| .off .nil
 refine aftI db hs ht fun ez mg dc hx hy hz dd=>?_
 have eA:=dd.f1 jV
 have eB:=dd.g 7 99
 have hA:=hv.new_ hz
 refine sS9 eA eB hA fun jY hD hC k2=>?_
 have hF:=hy.tR hC
 refine sP (v:=iv 0) rfl dc hx fun jZ k3 hH aO j1=>?_
 have⟨j0,mi⟩:=aO.q2 eA eB
 refine hw _ _ ?_
 refine wp_ret (ret_k hH (v:=.tuple #[vv (Vl.mk 2 0 0 false [] [] (truthR (((orderO ((numericV u).1) ((numericV v).1)).2) && ((decide (((orderO ((numericV u).1) ((numericV v).1)).1) < 0)) != n)))) none 0 none 0,iv 0]) (res_ct rfl j0 j1 (l_agg isAgg29 sizeOf29 hD rfl)) ?_)
 refine ⟨?_,hF⟩
 show Ending.returned (.tuple #[vv (Vl.mk 2 0 0 false [] [] (truthR (((orderO ((numericV u).1) ((numericV v).1)).2) && ((decide (((orderO ((numericV u).1) ((numericV v).1)).1) < 0)) != n)))) none 0 none 0,iv 0])=Ending.returned (.tuple #[vv (Vl.mk (lessT v u t n).1 0 0 false [] [] (lessT v u t n).2.1) none 0 none 0,iv ((lessT v u t n).2.2)])
 first|rfl|(simp only [lessT,aa,ab,ac,an,ao,bsm] <;> first|rfl|(simp only [lessT,aa,aG,aH,ab,ac,an,ao,ak,bp,aq,b4,bb,bsm] <;> rfl))|(exfalso; omega)
 have hI:=hB es bb
 refine wf hI<| ws ?_
 refine cV _ _ ?_
 refine wk fun mj hJ=>?_
 refine wA tr8 [] 100 [ve (vv (numericV v).1 au af av ag),ve (vv (numericV u).1 aw ah ax ai),ve (.tuple #[iv ((orderO ((numericV v).1) ((numericV u).1)).1),.bool ((orderO ((numericV v).1) ((numericV u).1)).2)]),ve (.tuple #[iv ((orderO ((numericV v).1) ((numericV u).1)).1),.bool ((orderO ((numericV v).1) ((numericV u).1)).2)]),ve (iv ((orderO ((numericV v).1) ((numericV u).1)).1)),ve (.bool ((orderO ((numericV v).1) ((numericV u).1)).2)),ve (iv ((orderO ((numericV v).1) ((numericV u).1)).1)),ve (.bool ((orderO ((numericV v).1) ((numericV u).1)).2))] br ?_ ?_
 exact .L9 cf b5<| .L9 ch b6<| .C2 0 1 (fun p=>order_c ((numericV v).1) _ _ _ _ ((numericV u).1) _ _ _ _ _ (cZ.new_ p) (c0.new_ p) (c1.new_ p) (c3.new_ p) (VOk.numeric hvv) (VOk.numeric hvu))<| .N 2<| .E 3<| .E 3<| .B 4<| .B 5 .nil
 refine aftI br cW cX fun ml mm de hK hL hM bt=>?_
 have⟨j2,j3⟩:=bt.f2 ep er
 have j4:=bt.g 6 13
 have j5:=bt.g 7 14
 have hN:=cY.new_ hM
 refine hJ _ _ <| wk fun mn hO=>?_
 refine wA [true,true,true,true,true,true,true,true,false,false] [(8,false),(9,true)] 100 [ve (.bool ((orderO ((numericV v).1) ((numericV u).1)).2)),ve (.bool ((orderO ((numericV v).1) ((numericV u).1)).2)),ve (gq ((orderO ((numericV v).1) ((numericV u).1)).2) (iv ((orderO ((numericV v).1) ((numericV u).1)).1))),ve (gq ((orderO ((numericV v).1) ((numericV u).1)).2) (.bool (decide (((orderO ((numericV v).1) ((numericV u).1)).1) < 0)))),ve (gq ((orderO ((numericV v).1) ((numericV u).1)).2) (.bool n)),ve (gq ((orderO ((numericV v).1) ((numericV u).1)).2) (.bool ((decide (((orderO ((numericV v).1) ((numericV u).1)).1) < 0)) != n))),ve (.bool (((orderO ((numericV v).1) ((numericV u).1)).2) && ((decide (((orderO ((numericV v).1) ((numericV u).1)).1) < 0)) != n))),ve (vv (Vl.mk 2 0 0 false [] [] (truthR (((orderO ((numericV v).1) ((numericV u).1)).2) && ((decide (((orderO ((numericV v).1) ((numericV u).1)).1) < 0)) != n)))) none 0 none 0),vt,vt] de ?_ ?_
 exact .M j5<| .N 0<| .Q (fun k=>g0 (k.eq1 1 93 rfl)) (fun hG p k=>v_move rfl (k.fx 13 j4))<| .Q (fun k=>g0 (k.eq1 1 93 rfl)) (fun hG p k=>v_bin rfl (cT hG (k.eq1 2 94 rfl)) rfl (fun _=>rfl) (r_lssK rfl))<| .Q (fun k=>g0 (k.eq1 1 93 rfl)) (fun hG p k=>v_move rfl (k.fx 3 j2))<| .Q (fun k=>g0 (k.eq1 1 93 rfl)) (fun hG p k=>v_bin rfl (cT hG (k.eq1 3 95 rfl)) (cT hG (k.eq1 4 96 rfl)) (fun _=>rfl) (r_neqB _ _))<| .O 1 5<| .C 6 (fun p=>truthN_c (((orderO ((numericV v).1) ((numericV u).1)).2) && ((decide (((orderO ((numericV v).1) ((numericV u).1)).1) < 0)) != n)) _)<| .off<| .off .nil
 refine aftI de hK hL fun eE mo df hP hQ hR dg=>?_
 have eF:=dg.f1 j3
 have eG:=dg.g 7 99
 have hT:=hN.new_ hR
 refine sS9 eF eG hT fun j6 hV hU k4=>?_
 have hX:=hQ.tR hU
 refine sP (v:=iv 0) rfl df hP fun j7 k5 hY aP j9=>?_
 have⟨j8,mq⟩:=aP.q2 eF eG
 refine hO _ _ ?_
 refine wp_ret (ret_k hY (v:=.tuple #[vv (Vl.mk 2 0 0 false [] [] (truthR (((orderO ((numericV v).1) ((numericV u).1)).2) && ((decide (((orderO ((numericV v).1) ((numericV u).1)).1) < 0)) != n)))) none 0 none 0,iv 0]) (res_ct rfl j8 j9 (l_agg isAgg29 sizeOf29 hV rfl)) ?_)
 refine ⟨?_,hX⟩
 show Ending.returned (.tuple #[vv (Vl.mk 2 0 0 false [] [] (truthR (((orderO ((numericV v).1) ((numericV u).1)).2) && ((decide (((orderO ((numericV v).1) ((numericV u).1)).1) < 0)) != n)))) none 0 none 0,iv 0])=Ending.returned (.tuple #[vv (Vl.mk (lessT v u t n).1 0 0 false [] [] (lessT v u t n).2.1) none 0 none 0,iv ((lessT v u t n).2.2)])
 first|rfl|(simp only [lessT,aa,ab,ac,an,ao,bsm] <;> first|rfl|(simp only [lessT,aa,aG,aH,ab,ac,an,ao,ak,bp,aq,b4,bb,bsm] <;> rfl))|(exfalso; omega)
def ops_c_P  (w:World) (en:Ending) (w':World):Prop:=∃ (Ar0:Option Addr) (cr0:Nat),en=.returned (svT Ar0 ([⟨#[43]⟩,⟨#[45]⟩,⟨#[42]⟩,⟨#[47]⟩,⟨#[37]⟩,⟨#[38]⟩,⟨#[124]⟩,⟨#[94]⟩,⟨#[60,60]⟩,⟨#[62,62]⟩,⟨#[62,62,62]⟩,⟨#[60]⟩,⟨#[62]⟩,⟨#[60,61]⟩,⟨#[62,61]⟩,⟨#[61,61]⟩,⟨#[33,61]⟩,⟨#[61,61,61]⟩,⟨#[33,61,61]⟩]) cr0)∧TRow w' Ar0 ([⟨#[43]⟩,⟨#[45]⟩,⟨#[42]⟩,⟨#[47]⟩,⟨#[37]⟩,⟨#[38]⟩,⟨#[124]⟩,⟨#[94]⟩,⟨#[60,60]⟩,⟨#[62,62]⟩,⟨#[62,62,62]⟩,⟨#[60]⟩,⟨#[62]⟩,⟨#[60,61]⟩,⟨#[62,61]⟩,⟨#[61,61]⟩,⟨#[33,61]⟩,⟨#[61,61,61]⟩,⟨#[33,61,61]⟩]) cr0∧New w w'
theorem ops_c  (w:World):Calls prog 32 #[] w (ops_c_P  w):=by
 refine enter_abs func32 rfl fun a0 ac ak hp=>?_
 have ac:a0.tmps.size=2:=ac
 have al:New w w:=Upd.refl _ _
 refine wk fun K1 am=>?_
 refine wA tr1 [] 2 [ve (sv none ([]) 0)] ac ?_ ?_
 exact .c .nil
 refine aftI ac ak al fun a2 w3 af an ao aw ax=>?_
 refine am _ _ <| wk fun K9 ap=>?_
 refine wp_g0 [true,true] [] 2
  [(fun (v_:Value) (W:World)=>∃ (A3:Option Addr) (c4:Nat),v_=svT A3 ([⟨#[43]⟩,⟨#[45]⟩,⟨#[42]⟩,⟨#[47]⟩,⟨#[37]⟩,⟨#[38]⟩,⟨#[124]⟩,⟨#[94]⟩,⟨#[60,60]⟩,⟨#[62,62]⟩,⟨#[62,62,62]⟩,⟨#[60]⟩,⟨#[62]⟩,⟨#[60,61]⟩,⟨#[62,61]⟩,⟨#[61,61]⟩,⟨#[33,61]⟩,⟨#[61,61,61]⟩,⟨#[33,61,61]⟩]) c4∧TRow W A3 ([⟨#[43]⟩,⟨#[45]⟩,⟨#[42]⟩,⟨#[47]⟩,⟨#[37]⟩,⟨#[38]⟩,⟨#[124]⟩,⟨#[94]⟩,⟨#[60,60]⟩,⟨#[62,62]⟩,⟨#[62,62,62]⟩,⟨#[60]⟩,⟨#[62]⟩,⟨#[60,61]⟩,⟨#[62,61]⟩,⟨#[61,61]⟩,⟨#[33,61]⟩,⟨#[61,61,61]⟩,⟨#[33,61,61]⟩]) c4),(fun (v_:Value) (W:World)=>∃ (A9:Option Addr) (aa:Nat),v_=svT A9 ([⟨#[43]⟩,⟨#[45]⟩,⟨#[42]⟩,⟨#[47]⟩,⟨#[37]⟩,⟨#[38]⟩,⟨#[124]⟩,⟨#[94]⟩,⟨#[60,60]⟩,⟨#[62,62]⟩,⟨#[62,62,62]⟩,⟨#[60]⟩,⟨#[62]⟩,⟨#[60,61]⟩,⟨#[62,61]⟩,⟨#[61,61]⟩,⟨#[33,61]⟩,⟨#[61,61,61]⟩,⟨#[33,61,61]⟩]) aa∧TRow W A9 ([⟨#[43]⟩,⟨#[45]⟩,⟨#[42]⟩,⟨#[47]⟩,⟨#[37]⟩,⟨#[38]⟩,⟨#[124]⟩,⟨#[94]⟩,⟨#[60,60]⟩,⟨#[62,62]⟩,⟨#[62,62,62]⟩,⟨#[60]⟩,⟨#[62]⟩,⟨#[60,61]⟩,⟨#[62,61]⟩,⟨#[61,61]⟩,⟨#[33,61]⟩,⟨#[61,61,61]⟩,⟨#[33,61,61]⟩]) aa)] af (.cons (fun _ _ _ n ⟨_,_,e,h⟩=>⟨_,_,e,h.new_ n⟩) (.cons (fun _ _ _ n ⟨_,_,e,h⟩=>⟨_,_,e,h.new_ n⟩) .nil)) ?_ ?_
 refine .o1 (tkA rfl (noG rfl) fun _ w hn k=>(by
  exact x_bsliceT (ps:=[(0,.string ⟨#[43]⟩),(1,.string ⟨#[45]⟩),(2,.string ⟨#[42]⟩),(3,.string ⟨#[47]⟩),(4,.string ⟨#[37]⟩),(5,.string ⟨#[38]⟩),(6,.string ⟨#[124]⟩),(7,.string ⟨#[94]⟩),(8,.string ⟨#[60,60]⟩),(9,.string ⟨#[62,62]⟩),(10,.string ⟨#[62,62,62]⟩),(11,.string ⟨#[60]⟩),(12,.string ⟨#[62]⟩),(13,.string ⟨#[60,61]⟩),(14,.string ⟨#[62,61]⟩),(15,.string ⟨#[61,61]⟩),(16,.string ⟨#[33,61]⟩),(17,.string ⟨#[61,61,61]⟩),(18,.string ⟨#[33,61,61]⟩)]) [⟨#[43]⟩,⟨#[45]⟩,⟨#[42]⟩,⟨#[47]⟩,⟨#[37]⟩,⟨#[38]⟩,⟨#[124]⟩,⟨#[94]⟩,⟨#[60,60]⟩,⟨#[62,62]⟩,⟨#[62,62,62]⟩,⟨#[60]⟩,⟨#[62]⟩,⟨#[60,61]⟩,⟨#[62,61]⟩,⟨#[61,61]⟩,⟨#[33,61]⟩,⟨#[61,61,61]⟩,⟨#[33,61,61]⟩] rfl (by simp [Act.eval]) elT rfl (by omega) (by omega) (by kernel_rfl) fun A1 c2 W' hmo=>⟨A1,c2,rfl,hmo⟩)) ?_
 refine .o1 (tk rfl rfl fun _ w hn k=>(by
  obtain⟨A5,c6,e7,aq⟩:=k.G 0 1
  exact⟨_,v_assign rfl e7,⟨A5,c6,rfl,aq⟩⟩)) ?_
 exact .nil
 refine aftI af an ao fun ar ay au ag ah av ai=>?_
 obtain⟨ad,ab,ae,aj⟩:=ai.G 1 0
 have ae:ar.eval (.tmp 0)=svT ad ([⟨#[43]⟩,⟨#[45]⟩,⟨#[42]⟩,⟨#[47]⟩,⟨#[37]⟩,⟨#[38]⟩,⟨#[124]⟩,⟨#[94]⟩,⟨#[60,60]⟩,⟨#[62,62]⟩,⟨#[62,62,62]⟩,⟨#[60]⟩,⟨#[62]⟩,⟨#[60,61]⟩,⟨#[62,61]⟩,⟨#[61,61]⟩,⟨#[33,61]⟩,⟨#[61,61,61]⟩,⟨#[33,61,61]⟩]) ab:=ae
 refine ap _ _ ?_
 refine wp_ret (ret_k ag (v:=svT ad ([⟨#[43]⟩,⟨#[45]⟩,⟨#[42]⟩,⟨#[47]⟩,⟨#[37]⟩,⟨#[38]⟩,⟨#[124]⟩,⟨#[94]⟩,⟨#[60,60]⟩,⟨#[62,62]⟩,⟨#[62,62,62]⟩,⟨#[60]⟩,⟨#[62]⟩,⟨#[60,61]⟩,⟨#[62,61]⟩,⟨#[61,61]⟩,⟨#[33,61]⟩,⟨#[61,61,61]⟩,⟨#[33,61,61]⟩]) ab) (res_t rfl ae _) ?_)
 exact⟨ad,ab,rfl,aj,ah⟩
def rops_c_P  (w:World) (en:Ending) (w':World):Prop:=∃ (Ar0:Option Addr) (cr0:Nat),en=.returned (svT Ar0 ([⟨#[43]⟩,⟨#[45]⟩,⟨#[42]⟩,⟨#[47]⟩,⟨#[37]⟩,⟨#[38]⟩,⟨#[124]⟩,⟨#[94]⟩,⟨#[60,60]⟩,⟨#[62,62]⟩,⟨#[62,62,62]⟩,⟨#[60]⟩,⟨#[62]⟩,⟨#[60,61]⟩,⟨#[62,61]⟩,⟨#[61,61]⟩,⟨#[33,61]⟩,⟨#[61,61,61]⟩,⟨#[33,61,61]⟩]) cr0)∧TRow w' Ar0 ([⟨#[43]⟩,⟨#[45]⟩,⟨#[42]⟩,⟨#[47]⟩,⟨#[37]⟩,⟨#[38]⟩,⟨#[124]⟩,⟨#[94]⟩,⟨#[60,60]⟩,⟨#[62,62]⟩,⟨#[62,62,62]⟩,⟨#[60]⟩,⟨#[62]⟩,⟨#[60,61]⟩,⟨#[62,61]⟩,⟨#[61,61]⟩,⟨#[33,61]⟩,⟨#[61,61,61]⟩,⟨#[33,61,61]⟩]) cr0∧New w w'
theorem rops_c  (w:World):Calls prog 33 #[] w (rops_c_P  w):=by
 refine enter_abs func33 rfl fun a0 ac ak hp=>?_
 have ac:a0.tmps.size=2:=ac
 have al:New w w:=Upd.refl _ _
 refine wk fun K1 am=>?_
 refine wA tr1 [] 2 [ve (sv none ([]) 0)] ac ?_ ?_
 exact .c .nil
 refine aftI ac ak al fun a2 w3 af an ao aw ax=>?_
 refine am _ _ <| wk fun K9 ap=>?_
 refine wp_g0 [true,true] [] 2
  [(fun (v_:Value) (W:World)=>∃ (A3:Option Addr) (c4:Nat),v_=svT A3 ([⟨#[43]⟩,⟨#[45]⟩,⟨#[42]⟩,⟨#[47]⟩,⟨#[37]⟩,⟨#[38]⟩,⟨#[124]⟩,⟨#[94]⟩,⟨#[60,60]⟩,⟨#[62,62]⟩,⟨#[62,62,62]⟩,⟨#[60]⟩,⟨#[62]⟩,⟨#[60,61]⟩,⟨#[62,61]⟩,⟨#[61,61]⟩,⟨#[33,61]⟩,⟨#[61,61,61]⟩,⟨#[33,61,61]⟩]) c4∧TRow W A3 ([⟨#[43]⟩,⟨#[45]⟩,⟨#[42]⟩,⟨#[47]⟩,⟨#[37]⟩,⟨#[38]⟩,⟨#[124]⟩,⟨#[94]⟩,⟨#[60,60]⟩,⟨#[62,62]⟩,⟨#[62,62,62]⟩,⟨#[60]⟩,⟨#[62]⟩,⟨#[60,61]⟩,⟨#[62,61]⟩,⟨#[61,61]⟩,⟨#[33,61]⟩,⟨#[61,61,61]⟩,⟨#[33,61,61]⟩]) c4),(fun (v_:Value) (W:World)=>∃ (A9:Option Addr) (aa:Nat),v_=svT A9 ([⟨#[43]⟩,⟨#[45]⟩,⟨#[42]⟩,⟨#[47]⟩,⟨#[37]⟩,⟨#[38]⟩,⟨#[124]⟩,⟨#[94]⟩,⟨#[60,60]⟩,⟨#[62,62]⟩,⟨#[62,62,62]⟩,⟨#[60]⟩,⟨#[62]⟩,⟨#[60,61]⟩,⟨#[62,61]⟩,⟨#[61,61]⟩,⟨#[33,61]⟩,⟨#[61,61,61]⟩,⟨#[33,61,61]⟩]) aa∧TRow W A9 ([⟨#[43]⟩,⟨#[45]⟩,⟨#[42]⟩,⟨#[47]⟩,⟨#[37]⟩,⟨#[38]⟩,⟨#[124]⟩,⟨#[94]⟩,⟨#[60,60]⟩,⟨#[62,62]⟩,⟨#[62,62,62]⟩,⟨#[60]⟩,⟨#[62]⟩,⟨#[60,61]⟩,⟨#[62,61]⟩,⟨#[61,61]⟩,⟨#[33,61]⟩,⟨#[61,61,61]⟩,⟨#[33,61,61]⟩]) aa)] af (.cons (fun _ _ _ n ⟨_,_,e,h⟩=>⟨_,_,e,h.new_ n⟩) (.cons (fun _ _ _ n ⟨_,_,e,h⟩=>⟨_,_,e,h.new_ n⟩) .nil)) ?_ ?_
 refine .o1 (tkA rfl (noG rfl) fun _ w hn k=>(by
  exact x_bsliceT (ps:=[(0,.string ⟨#[43]⟩),(1,.string ⟨#[45]⟩),(2,.string ⟨#[42]⟩),(3,.string ⟨#[47]⟩),(4,.string ⟨#[37]⟩),(5,.string ⟨#[38]⟩),(6,.string ⟨#[124]⟩),(7,.string ⟨#[94]⟩),(8,.string ⟨#[60,60]⟩),(9,.string ⟨#[62,62]⟩),(10,.string ⟨#[62,62,62]⟩),(11,.string ⟨#[60]⟩),(12,.string ⟨#[62]⟩),(13,.string ⟨#[60,61]⟩),(14,.string ⟨#[62,61]⟩),(15,.string ⟨#[61,61]⟩),(16,.string ⟨#[33,61]⟩),(17,.string ⟨#[61,61,61]⟩),(18,.string ⟨#[33,61,61]⟩)]) [⟨#[43]⟩,⟨#[45]⟩,⟨#[42]⟩,⟨#[47]⟩,⟨#[37]⟩,⟨#[38]⟩,⟨#[124]⟩,⟨#[94]⟩,⟨#[60,60]⟩,⟨#[62,62]⟩,⟨#[62,62,62]⟩,⟨#[60]⟩,⟨#[62]⟩,⟨#[60,61]⟩,⟨#[62,61]⟩,⟨#[61,61]⟩,⟨#[33,61]⟩,⟨#[61,61,61]⟩,⟨#[33,61,61]⟩] rfl (by simp [Act.eval]) elT rfl (by omega) (by omega) (by kernel_rfl) fun A1 c2 W' hmo=>⟨A1,c2,rfl,hmo⟩)) ?_
 refine .o1 (tk rfl rfl fun _ w hn k=>(by
  obtain⟨A5,c6,e7,aq⟩:=k.G 0 1
  exact⟨_,v_assign rfl e7,⟨A5,c6,rfl,aq⟩⟩)) ?_
 exact .nil
 refine aftI af an ao fun ar ay au ag ah av ai=>?_
 obtain⟨ad,ab,ae,aj⟩:=ai.G 1 0
 have ae:ar.eval (.tmp 0)=svT ad ([⟨#[43]⟩,⟨#[45]⟩,⟨#[42]⟩,⟨#[47]⟩,⟨#[37]⟩,⟨#[38]⟩,⟨#[124]⟩,⟨#[94]⟩,⟨#[60,60]⟩,⟨#[62,62]⟩,⟨#[62,62,62]⟩,⟨#[60]⟩,⟨#[62]⟩,⟨#[60,61]⟩,⟨#[62,61]⟩,⟨#[61,61]⟩,⟨#[33,61]⟩,⟨#[61,61,61]⟩,⟨#[33,61,61]⟩]) ab:=ae
 refine ap _ _ ?_
 refine wp_ret (ret_k ag (v:=svT ad ([⟨#[43]⟩,⟨#[45]⟩,⟨#[42]⟩,⟨#[47]⟩,⟨#[37]⟩,⟨#[38]⟩,⟨#[124]⟩,⟨#[94]⟩,⟨#[60,60]⟩,⟨#[62,62]⟩,⟨#[62,62,62]⟩,⟨#[60]⟩,⟨#[62]⟩,⟨#[60,61]⟩,⟨#[62,61]⟩,⟨#[61,61]⟩,⟨#[33,61]⟩,⟨#[61,61,61]⟩,⟨#[33,61,61]⟩]) ab) (res_t rfl ae _) ?_)
 exact⟨ad,ab,rfl,aj,ah⟩
theorem texts_c (Aa:Option Addr) (a:List ByteArray) (ca:Nat) (Ab:Option Addr) (b:List ByteArray) (cb:Nat) (w:World) (hra:TRow w Aa a ca) (hrb:TRow w Ab b cb) (hab:a=b):Calls prog 31 #[svT Aa a ca,svT Ab b cb] w (IsRet (.bool true) w):=by
 refine enter_abs func31 rfl fun a0 ak bg hp=>?_
 have ak:a0.tmps.size=26:=ak
 have bh:New w w:=Upd.refl _ _
 have hp0:a0.eval (.tmp 0)=svT Aa a ca:=hp 0 _ rfl
 have hp1:a0.eval (.tmp 1)=svT Ab b cb:=hp 1 _ rfl
 have hmx:=hra.max
 have hmy:=hrb.max
 have hlab:a.length=b.length:=by rw [hab]
 refine wk fun K1 bi=>?_
 refine wA tr1 [] 26 [vF] ak ?_ ?_
 exact .c .nil
 refine aftI ak bg bh fun a2 w3 az bj aJ bP aA=>?_
 have⟨h8,h9⟩:=aA.f2 hp0 hp1
 refine bi _ _ <| wk fun bQ aK=>?_
 refine wk fun bR aL=>?_
 refine wA tr5 [] 26 [ve (svT Aa a ca),ve (iv (a.length:Int)),ve (svT Ab b cb),ve (iv (b.length:Int)),ve (.bool (!decide ((a.length:Int)=(b.length:Int))))] az ?_ ?_
 exact .M h8<| .T (fun k=>v_lenT rfl elT (k.eq1 0 6 rfl))<| .M h9<| .T (fun k=>v_lenT rfl elT (k.eq1 2 8 rfl))<| .T (fun k=>v_bin rfl (k.eq1 1 7 rfl) (k.eq1 3 9 rfl) (fun _=>rfl) (r_neq rfl)) .nil
 refine aftI az bj aJ fun bS bT al aM aN bJ ai=>?_
 have⟨bk,bl⟩:=ai.f2 h8 h9
 have bm:=ai.g 4 10
 refine aL _ _ ?_
 have am:((!decide ((a.length:Int)=(b.length:Int))))=false:=(nf (decide_eq_true (by omega)))
 have aO:=hB bm am
 have aP:(decide ((a.length:Int)=(b.length:Int)))=true:=nT am
 have bG:=oT aP
 refine wf aO<| ws ?_
 refine aK _ _ ?_
 refine wk fun bU aQ=>wk fun bV aR=>?_
 refine wA tr1 [] 26 [ve (iv 0)] al ?_ ?_
 exact .c .nil
 refine aftI al aM aN fun bW bX aS aT aU bK aj=>?_
 have⟨bn,bo⟩:=aj.f2 bk bl
 have bp:=aj.g 0 5
 refine aR _ _ ?_
 refine wb<| wp_loopX (fun (mm:Nat) (aa:Act) (ww:World)=>∃ (i:Nat),mm=a.length - i∧aa.tmps.size=26∧aa.defers=[]∧New w ww∧aa.eval (.tmp 5)=iv (i:Int)∧aa.eval (.tmp 0)=svT Aa a ca∧aa.eval (.tmp 1)=svT Ab b cb∧(i≤a.length)) (fun mm=>mm) ⟨_,⟨0,rfl,aS,aT,aU,bp,bn,bo,(Nat.zero_le _)⟩⟩ ?_
 rintro mm bY bZ ⟨i,hmm,an,aV,aW,aB,aC,bq,hi⟩
 refine wk fun b0 aX=>wk fun b2 aY=>?_
 refine wA tr4 [] 26 [ve (iv (i:Int)),ve (svT Aa a ca),ve (iv (a.length:Int)),ve (.bool (decide ((i:Int) < (a.length:Int))))] an ?_ ?_
 exact .M aB<| .M aC<| .T (fun k=>v_lenT rfl elT (k.eq1 1 12 rfl))<| .T (fun k=>v_bin rfl (k.eq1 0 11 rfl) (k.eq1 2 13 rfl) (fun _=>rfl) (r_lssK rfl)) .nil
 refine aftI an aV aW fun b4 b6 ad ao ae bL af=>?_
 have⟨ap,aD,aE⟩:=af.f3 aB aC bq
 have aF:=af.g 3 14
 refine aY _ _ ?_
 rcases bc (decide ((i:Int) < (a.length:Int))) with ac|ac
 have av:=oT ac
 have aZ:=hB aF ac
 refine wt aZ<| ws ?_
 refine aX _ _ ?_
 refine wk fun b7 a1=>wb ?_
 refine wk fun b8 a3=>?_
 refine wp_g0 (.replicate 9 true) [] 26
  [ve (svT Aa a ca),ve (iv (i:Int)),
  (EP (.string (a.getD i ⟨#[]⟩))),ve (.string (a.getD i ⟨#[]⟩)),ve (svT Ab b cb),ve (iv (i:Int)),
  (EP (.string (b.getD i ⟨#[]⟩))),ve (.string (b.getD i ⟨#[]⟩)),ve (.bool (!strEq (a.getD i ⟨#[]⟩) (b.getD i ⟨#[]⟩)))] ad (.eq (.eq (.cons (fun _ _ _ n ⟨_,_,e,h⟩=>⟨_,_,e,h.new_ n⟩) (.eq (.eq (.eq (.cons (fun _ _ _ n ⟨_,_,e,h⟩=>⟨_,_,e,h.new_ n⟩) (.eq (.eq .nil))))))))) ?_ ?_
 refine .M aD<| .M ap ?_
 refine .o1 (tk rfl rfl fun _ w hn k=>(by
  exact x_eaddrT rfl elT (k.eq1 0 17 rfl) (k.eq1 1 18 rfl) (hra.new_ (ae.transNew hn)) (by omega) fun b1 o2 hme=>⟨b1,o2,rfl,hme⟩)) ?_
 refine .o1 (tk rfl rfl fun _ w hn k=>(by
  obtain⟨b5,o6,e7,bt⟩:=k.G 2 19
  exact⟨_,v_load rfl e7 (l_one isAgg9 bt.1),rfl⟩)) ?_
 refine .M aE<| .M ap ?_
 refine .o1 (tk rfl rfl fun _ w hn k=>(by
  exact x_eaddrT rfl elT (k.eq1 4 21 rfl) (k.eq1 5 22 rfl) (hrb.new_ (ae.transNew hn)) (by omega) fun b9 bu hme=>⟨b9,bu,rfl,hme⟩)) ?_
 refine .o1 (tk rfl rfl fun _ w hn k=>(by
  obtain⟨cc,cd,bv,a4⟩:=k.G 6 23
  exact⟨_,v_load rfl bv (l_one isAgg9 a4.1),rfl⟩)) ?_
 exact .T (fun k=>v_bin rfl (k.eq1 3 20 rfl) (k.eq1 7 24 rfl) (fun _=>rfl) (r_neqS rfl)) .nil
 refine aftI ad ao ae fun ce cf aq a5 a6 bM ag=>?_
 have⟨aG,bw,bx⟩:=ag.f3 ap aD aE
 have bz:=ag.g 8 25
 refine a3 _ _ ?_
 have ar:((!strEq (a.getD i ⟨#[]⟩) (b.getD i ⟨#[]⟩)))=false:=(nf (by rw [hab]; exact str_self _))
 have a7:=hB bz ar
 have bN:(strEq (a.getD i ⟨#[]⟩) (b.getD i ⟨#[]⟩))=true:=nT ar
 refine wf a7<| ws ?_
 refine a1 _ _ ?_
 refine wA [true,true,false] [(2,true)] 26 [ve (iv (i:Int)),ve (iv ((i + 1:Nat):Int)),vt] aq ?_ ?_
 exact .M aG<| .R (fun k=>v_bin rfl (k.eq1 0 15 rfl) rfl (fun _=>rfl) (n_add (by omega) (IntWalk.i64_in _ (by omega)))) (fun _=>rfl)<| .off .nil
 refine aftI aq a5 a6 fun aH ch au a8 a9 bO ah=>?_
 have⟨ci,bA,bB⟩:=ah.f3 aG bw bx
 have aI:=ah.g 1 16
 refine sP aI au a8 fun bC ba bb ab bF=>?_
 have⟨bD,bE,cj⟩:=ab.q3 bA bB aI
 refine st_nil ?_
 refine then_n ?_
 exact⟨_,⟨i + 1,rfl,ba,bb,a9,(bF.trans (congrArg (Value.int .i64) (by omega))),bD,bE,(by omega)⟩,(by omega)⟩
 have av:=oF ac
 have bd:=hB aF ac
 refine wf bd<| wp_exit ?_
 refine aQ _ _ ?_
 refine wk fun cl be=>?_
 refine wA tr1 [] 26 [vT] ad ?_ ?_
 exact .c .nil
 refine aftI ad ao ae fun cm cn bH aw ax bI ay=>?_
 have bf:=ay.g 0 4
 refine be _ _ ?_
 refine wp_ret (ret_k aw (v:=.bool true) (res_t rfl bf _) ?_)
 exact⟨rfl,ax⟩
def obig_c_P (Am:Option Addr) (m:List Nat) (cm:Nat) (w:World) (en:Ending) (w':World):Prop:=∃ (Ar0:Option Addr) (cr0:Nat),en=.returned (vv (Vl.mk 4 0 0 false m [] 0) Ar0 cr0 none 0)∧SRow w' .u32 Ar0 m cr0∧New w w'
theorem obig_c (Am:Option Addr) (m:List Nat) (cm:Nat) (w:World) (hrm:SRow w .u32 Am m cm):Calls prog 30 #[sv Am m cm] w (obig_c_P Am m cm w):=by
 refine enter_abs func30 rfl fun a0 aa aw hp=>?_
 have aa:a0.tmps.size=6:=aa
 have af:New w w:=Upd.refl _ _
 have hp0:a0.eval (.tmp 0)=sv Am m cm:=hp 0 _ rfl
 refine wk fun K1 ax=>?_
 refine wB tr1 [] [] 6 [IsNew w 29 z7] [0] aa ?_ heN ?_
 exact .Y .nil
 refine aftI aa aw af fun a2 w3 ag ay aj aF ah=>?_
 have h8:=ah.f1 hp0
 obtain⟨az,h9,ak,al⟩:=ah.G 0 2
 have aC:=Nat.le_trans af.size ak
 refine ax _ _ <| wk fun aG am=>?_
 refine wA [true,true,true,false] [(3,false)] 6 [ve (sv Am m cm),ve (.agg #[.bool false,sv Am m cm]),ve (vv (Vl.mk 4 0 0 false m [] 0) Am cm none 0),vt] ag ?_ ?_
 exact .M h8<| .T (fun k=>v_build (ps:=[(1,sv Am m cm)]) rfl (parts1 (k.eq1 0 3 rfl)) (by kernel_rfl))<| .T (fun k=>v_build (ps:=[(0,iv 4),(2,.agg #[.bool false,sv Am m cm])]) rfl (parts2 rfl (k.eq1 1 4 rfl)) (by kernel_rfl))<| .off .nil
 refine aftI ag ay aj fun aH aI aD an ao ap ab=>?_
 have ai:=ab.f1 h9
 have aA:=ab.g 2 5
 have aq:=al.new_ ap
 refine sS9 ai aA aq fun aB au ar aE=>?_
 have ac:=ao.tR ar
 refine am _ _ ?_
 refine wp_ret (ret_k an (v:=vv (Vl.mk 4 0 0 false m [] 0) Am cm none 0) (res_c rfl ai (l_agg isAgg29 sizeOf29 au rfl)) ?_)
 exact⟨Am,cm,rfl,(hrm.new_ ac),ac⟩
def ostr_c_P (s:ByteArray) (w:World) (en:Ending) (w':World):Prop:=∃ (Ar0:Option Addr) (cr0:Nat),en=.returned (vv (Vl.mk 5 0 0 false [] (asc s) 0) none 0 Ar0 cr0)∧SRow w' .u16 Ar0 (asc s) cr0∧New w w'
theorem ostr_c (s:ByteArray) (w:World) (hs:s.size≤1000000):Calls prog 18 #[.string s] w (ostr_c_P s w):=by
 refine enter_abs func18 rfl fun a0 ad aD hp=>?_
 have ad:a0.tmps.size=6:=ad
 have al:New w w:=Upd.refl _ _
 have hp0:a0.eval (.tmp 0)=.string s:=hp 0 _ rfl
 refine wk fun K1 aE=>?_
 refine wB tr1 [] [] 6 [IsNew w 29 z7] [0] ad ?_ heN ?_
 exact .Y .nil
 refine aftI ad aD al fun a2 w3 am aF ae aN an=>?_
 have h8:=an.f1 hp0
 obtain⟨aG,h9,ap,aq⟩:=an.G 0 2
 have aK:=Nat.le_trans al.size ap
 refine aE _ _ <| wk fun aO ar=>?_
 refine wp_g0 [true,true,true,false] [(3,false)] 6
  [ve (.string s),
  (OP w3.heap.size 74 .u16 (asc s)),(fun (v_:Value) (W:World)=>∃ (A9:Option Addr) (aa:Nat),v_=vv (Vl.mk 5 0 0 false [] (asc s) 0) none 0 A9 aa∧SOwn W w3.heap.size 74 .u16 A9 (asc s) aa),vt] am (.eq (.cons (fun _ _ _ n ⟨_,_,e,h⟩=>⟨_,_,e,h.new_ n⟩) (.cons (fun _ _ _ n ⟨_,_,e,h⟩=>⟨_,_,e,h.new_ n⟩) (.tt .nil)))) ?_ ?_
 refine .M h8 ?_
 refine .o1 (tkC rfl (noG rfl) rfl fun _ w hn k=>(by
  refine ⟨#[.string s],_,args1 (k.eq1 0 3 rfl),fun w=>by kernel_rfl,rascii_c s _ (by first|omega|(show (_:Nat)≤_; decide)),?_⟩
  rintro e w' ⟨A1,c2,rfl,hmo0,hm⟩
  exact⟨_,rfl,hm,⟨A1,c2,rfl,(hmo0.more hn.size)⟩⟩)) ?_
 refine .o1 (tk rfl rfl fun _ w hn k=>(by
  obtain⟨A5,c6,e7,aH⟩:=k.G 1 4
  exact⟨_,v_build (ps:=[(0,iv 5),(3,sv A5 (asc s) c6)]) rfl (parts2 rfl e7) (by kernel_rfl),⟨A5,c6,rfl,aH⟩⟩)) ?_
 exact .off .nil
 refine aftI am aF ae fun aI aP aL au av aw af=>?_
 have ao:=af.f1 h9
 obtain⟨ac,ab,ag,ax⟩:=af.G 2 5
 have ag:aI.eval (.tmp 5)=vv (Vl.mk 5 0 0 false [] (asc s) 0) none 0 ac ab:=ag
 have ah:=aq.new_ aw
 have ay:=ax.more ae.size
 refine sS9 ao ag ah fun aJ az ai aM=>?_
 have aB:=ay.far ah ai (by decide)
 have aC:=av.tR ai
 refine ar _ _ ?_
 refine wp_ret (ret_k au (v:=vv (Vl.mk 5 0 0 false [] (asc s) 0) none 0 ac ab) (res_c rfl ao (l_agg isAgg29 sizeOf29 az rfl)) ?_)
 exact⟨ac,ab,rfl,aB.row,aC⟩
theorem owhole_c (n:Int) (w:World):Calls prog 17 #[iv n] w (IsRet (vv (Vl.mk 3 0 n false [] [] 0) none 0 none 0) w):=by
 refine enter_abs func17 rfl fun a0 aa aw hp=>?_
 have aa:a0.tmps.size=6:=aa
 have ae:New w w:=Upd.refl _ _
 have hp0:a0.eval (.tmp 0)=iv n:=hp 0 _ rfl
 refine wk fun K1 ax=>?_
 refine wB tr1 [] [] 6 [IsNew w 29 z7] [0] aa ?_ heN ?_
 exact .Y .nil
 refine aftI aa aw ae fun a2 w3 af ay ai aF ag=>?_
 have h8:=ag.f1 hp0
 obtain⟨az,h9,aj,ak⟩:=ag.G 0 2
 have aC:=Nat.le_trans ae.size aj
 refine ax _ _ <| wk fun aG al=>?_
 refine wA [true,true,true,false] [(3,false)] 6 [ve (iv n),ve (nv (Nm.mk 0 n)),ve (vv (Vl.mk 3 0 n false [] [] 0) none 0 none 0),vt] af ?_ ?_
 exact .M h8<| .T (fun k=>v_build (ps:=[(1,iv n)]) rfl (parts1 (k.eq1 0 3 rfl)) (by kernel_rfl))<| .T (fun k=>v_build (ps:=[(0,iv 3),(1,nv (Nm.mk 0 n))]) rfl (parts2 rfl (k.eq1 1 4 rfl)) (by kernel_rfl))<| .off .nil
 refine aftI af ay ai fun aH aI aD am an ao ab=>?_
 have ah:=ab.f1 h9
 have aA:=ab.g 2 5
 have ap:=ak.new_ ao
 refine sS9 ah aA ap fun aB ar aq aE=>?_
 have av:=an.tR aq
 refine al _ _ ?_
 refine wp_ret (ret_k am (v:=vv (Vl.mk 3 0 n false [] [] 0) none 0 none 0) (res_c rfl ah (l_agg isAgg29 sizeOf29 ar rfl)) ?_)
 exact⟨rfl,av⟩
def biggedV (b:Bool) (m:List Nat) (t:Bool):Vl × Int:=if t then (⟨4,0,0,b,m,[],0⟩,0) else (Vl.z,3)
def bigZ (z:Int):Vl × Int:=biggedV (decide (capI z < 0)) (canon (capI z).natAbs) (okI z)
def numV (a:Nm) (t:Bool):Vl × Int:=(⟨(numberedV a t).1,(numberedV a t).2.1.k,(numberedV a t).2.1.n,false,[],[],0⟩,(numberedV a t).2.2)
theorem capI_lt (z:Int):(capI z).natAbs < 2 ^ 256:=by
  unfold capI
  split
  · assumption
  · decide +kernel
theorem capI_ok {z:Int} (h:okI z=true):capI z=z:=if_pos (of_decide_eq_true h)
theorem goodI_lt (b:Bool) (m:List Nat) (h:Limbs m):(goodI b m).natAbs < 2 ^ 256:=good_lt h
theorem VOk.bigZ (z:Int):VOk (bigZ z).1:=by
  unfold Go.Proofs.YtjakfchffigkkaaGreatDoor.bigZ biggedV
  split
  · exact⟨limbs_canon _,U16s.nil,(show (canon (capI z).natAbs).length≤40 by have:=(canon_len8 (capI z).natAbs).2 (capI_lt z); omega),Nat.zero_le _,(by decide:(-9223372036854775808:Int)≤0),(by decide:(0:Int)≤9223372036854775807),(by decide:(-9223372036854775808:Int)≤0),(by decide:(0:Int)≤9223372036854775807)⟩
  · exact VOk.z
theorem ofM_may {n:Int} (h:(ofM n).2=true):nmayB (ofM n).1=true:=by
  unfold ofM at h ⊢
  split at h
  · cases h
  · rename_i h2
    rw [if_neg h2]
    simp at h2
    simp [nmayB]
    omega
theorem as_may (a:Nm):nmayB (asM a)=true:=by
  unfold asM
  split
  · assumption
  · decide
theorem as_of {a:Nm} (h:nmayB a=true):asM a=a:=by unfold asM; rw [if_pos h]
theorem addM_may {a b:Nm} (h:(addM a b).2=true):nmayB (addM a b).1=true:=by
  unfold addM at h ⊢
  rcases as_cases a with ⟨n,e,h1,h2⟩|e|e|e|e <;> rcases as_cases b with ⟨m,e',h3,h4⟩|e'|e'|e'|e' <;> rw [e,e'] at h ⊢
  all_goals first|decide|rfl|exact ofM_may h
theorem VOk.numV (a b:Nm):VOk (numV (addM a b).1 (addM a b).2).1:=by
  cases h:(addM a b).2 with
  | false=>exact VOk.z
  | true =>
    have h4:=as_bd (addM a b).1
    rw [as_of (addM_may h)] at h4
    exact⟨Limbs.nil,U16s.nil,Nat.zero_le _,Nat.zero_le _,(show -9223372036854775808≤(addM a b).1.n by omega),(show (addM a b).1.n≤9223372036854775807 by omega),(by decide:(-9223372036854775808:Int)≤0),(by decide:(0:Int)≤9223372036854775807)⟩
theorem may_bigV {z:Int} (h:z.natAbs < 2 ^ 256):mayV ⟨4,0,0,decide (z < 0),canon z.natAbs,[],0⟩=true:=by
  have:=may_canon h
  unfold mayV
  simp [zeroV,this]
theorem numeric_form (v:Vl) (h:(numericV v).2=0):(∃ b m,(numericV v).1=⟨4,0,0,b,m,[],0⟩∧mayB b m=true) ∨ (∃ a,(numericV v).1=numVl a∧nmayB a=true):=by
  have hm:=numeric_may v
  unfold numericV at h hm ⊢
  split
  · rename_i h1
    rw [if_pos h1] at hm
    left
    refine ⟨_,_,rfl,?_⟩
    unfold mayV at hm
    simpa [zeroV] using hm
  · rename_i h1
    rw [if_neg h1] at h hm
    split
    · rename_i h2
      rw [if_pos h2] at hm
      right
      exact⟨(numberV (cleanV v)).1,rfl,number_may (cleanV v) (of_decide_eq_true h2)⟩
    · rename_i h2
      rw [if_neg h2] at h
      exact absurd (decide_eq_true h) h2
theorem bigZ_cases (z:Int):(bigZ z=(⟨4,0,0,decide (z < 0),canon z.natAbs,[],0⟩,0)∧z.natAbs < 2 ^ 256) ∨ bigZ z=(Vl.z,3):=by
  unfold bigZ biggedV
  cases h:okI z with
  | false=>right; rfl
  | true=>left; rw [capI_ok h]; exact⟨rfl,of_decide_eq_true h⟩
theorem may_wholeI {n:Int}:nmayB ⟨0,n⟩=true ↔ -9007199254740991≤n∧n≤9007199254740991:=by
  unfold nmayB; simp
def fewV (o:ByteArray) (v u:Vl):Bool:=(((decide ((o.size:Int)≤100)) && (decide ((v.s.length:Int)≤20000) && decide ((v.mag.length:Int)≤40))) && (decide ((u.s.length:Int)≤20000) && decide ((u.mag.length:Int)≤40)))
theorem few_two {o:ByteArray} {v u:Vl} (h:fewV o v u=true):(decide ((v.s.length:Int)≤20000) && decide ((v.mag.length:Int)≤40))=true∧(decide ((u.s.length:Int)≤20000) && decide ((u.mag.length:Int)≤40))=true∧(o.size:Int)≤100:=by
  unfold fewV at h
  simp only [Bool.and_eq_true] at h
  exact⟨by simp only [Bool.and_eq_true]; exact h.1.2,by simp only [Bool.and_eq_true]; exact h.2,of_decide_eq_true h.1.1⟩

def bAdd_c_P (a:Bool) (Aa:Option Addr) (ma:List Nat) (ca:Nat) (b:Bool) (Ab:Option Addr) (mb:List Nat) (cb:Nat) (w:World) (en:Ending) (w':World):Prop:=∃ (Ar0:Option Addr) (cr0:Nat),en=.returned (.tuple #[.agg #[.bool (decide ((capI (goodI a ma + goodI b mb)) < 0)),sv Ar0 (canon ((capI (goodI a ma + goodI b mb))).natAbs) cr0],.bool (okI (goodI a ma + goodI b mb))])∧SRow w' .u32 Ar0 (canon ((capI (goodI a ma + goodI b mb))).natAbs) cr0∧New w w'
theorem bAdd_c (a:Bool) (Aa:Option Addr) (ma:List Nat) (ca:Nat) (b:Bool) (Ab:Option Addr) (mb:List Nat) (cb:Nat) (w:World) (hra:SRow w .u32 Aa ma ca) (hrb:SRow w .u32 Ab mb cb) (ha:Limbs ma) (hb:Limbs mb):Calls Tryz.prog 63 #[.agg #[.bool a,sv Aa ma ca],.agg #[.bool b,sv Ab mb cb]] w (bAdd_c_P a Aa ma ca b Ab mb cb w):=by
  refine (add_any _ _ _ _ w (big_in hra ha) (big_in hrb hb)).mono fun e w' h=>?_
  obtain⟨f,A',n',c',rfl,hc,hn⟩:=h
  obtain⟨rfl,rfl,hr'⟩:=hc.parts
  exact⟨A',c',rfl,hr',hn⟩
def bSub_c_P (a:Bool) (Aa:Option Addr) (ma:List Nat) (ca:Nat) (b:Bool) (Ab:Option Addr) (mb:List Nat) (cb:Nat) (w:World) (en:Ending) (w':World):Prop:=∃ (Ar0:Option Addr) (cr0:Nat),en=.returned (.tuple #[.agg #[.bool (decide ((capI (goodI a ma - goodI b mb)) < 0)),sv Ar0 (canon ((capI (goodI a ma - goodI b mb))).natAbs) cr0],.bool (okI (goodI a ma - goodI b mb))])∧SRow w' .u32 Ar0 (canon ((capI (goodI a ma - goodI b mb))).natAbs) cr0∧New w w'
theorem bSub_c (a:Bool) (Aa:Option Addr) (ma:List Nat) (ca:Nat) (b:Bool) (Ab:Option Addr) (mb:List Nat) (cb:Nat) (w:World) (hra:SRow w .u32 Aa ma ca) (hrb:SRow w .u32 Ab mb cb) (ha:Limbs ma) (hb:Limbs mb):Calls Tryz.prog 142 #[.agg #[.bool a,sv Aa ma ca],.agg #[.bool b,sv Ab mb cb]] w (bSub_c_P a Aa ma ca b Ab mb cb w):=by
  refine (sub_any _ _ _ _ w (big_in hra ha) (big_in hrb hb)).mono fun e w' h=>?_
  obtain⟨f,A',n',c',rfl,hc,hn⟩:=h
  obtain⟨rfl,rfl,hr'⟩:=hc.parts
  exact⟨A',c',rfl,hr',hn⟩
def bigged_c_P (a:Bool) (Aa:Option Addr) (ma:List Nat) (ca:Nat) (t:Bool) (w:World) (en:Ending) (w':World):Prop:=∃ (Ar0:Option Addr) (cr0:Nat) (Ar1:Option Addr) (cr1:Nat),en=.returned (.tuple #[vv (biggedV a ma t).1 Ar0 cr0 Ar1 cr1,iv ((biggedV a ma t).2)])∧SRow w' .u32 Ar0 ((biggedV a ma t).1.mag) cr0∧SRow w' .u16 Ar1 ((biggedV a ma t).1.s) cr1∧New w w'
theorem bigged_c (a:Bool) (Aa:Option Addr) (ma:List Nat) (ca:Nat) (t:Bool) (w:World) (hra:SRow w .u32 Aa ma ca):Calls prog 62 #[.agg #[.bool a,sv Aa ma ca],.bool t] w (bigged_c_P a Aa ma ca t w):=by
 refine enter_abs func62 rfl fun a0 ak bl hp=>?_
 have ak:a0.tmps.size=11:=ak
 have an:New w w:=Upd.refl _ _
 have hp0:a0.eval (.tmp 0)=.agg #[.bool a,sv Aa ma ca]:=hp 0 _ rfl
 have hp1:a0.eval (.tmp 1)=.bool t:=hp 1 _ rfl
 refine wk fun K1 bm=>?_
 refine wB tr3 [] [] 11 [IsNew w 26 [.bool a,sv Aa ma ca],IsNew w 29 z7,ve (iv 0)] [0,1] ak ?_ heN ?_
 exact .X hp0<| .Y<| .c .nil
 refine aftI ak bl an fun a2 w3 aF bn aO bF al=>?_
 have h8:=al.f1 hp1
 obtain⟨bo,h9,aP,aQ⟩:=al.G 0 2
 obtain⟨ao,aG,aR,aS⟩:=al.G 1 4
 have hne17:=al.ne 0 1 2 4 h9 aG
 have bz:=Nat.le_trans an.size aP
 have bA:=Nat.le_trans an.size aR
 refine bm _ _ <| wk fun bG aT=>?_
 refine wk fun bH aU=>?_
 refine wA tr2 [] 11 [ve (.bool t),ve (.bool (!t))] aF ?_ ?_
 exact .M h8<| .T (fun k=>v_not rfl (k.eq1 0 6 rfl)) .nil
 refine aftI aF bn aO fun aH bI af ap ai aq aj=>?_
 have⟨bp,aI⟩:=aj.f2 h9 aG
 have aJ:=aj.g 1 7
 have⟨aV,ar⟩:=nw2 aq aQ aS
 refine aU _ _ ?_
 rcases bc (t) with aa|aa
 have aW:aH.eval (.tmp 7)=.bool false:=aJ.trans (congrArg Value.bool (by rw [aa]; rfl))
 refine wf aW<| ws ?_
 refine aT _ _ ?_
 refine wk fun bJ aX=>?_
 refine wp_g0 [true,true,false,false] [(2,false),(3,true)] 11
  [ve (.agg #[.bool a,sv Aa ma ca]),(fun (v_:Value) (W:World)=>∃ (A3:Option Addr) (c4:Nat),v_=vv (Vl.mk 4 0 0 a ma [] 0) A3 c4 none 0∧SRow W .u32 A3 ma c4),vt,vt] af (.eq (.cons (fun _ _ _ n ⟨_,_,e,h⟩=>⟨_,_,e,h.new_ n⟩) (.tt (.tt .nil)))) ?_ ?_
 refine .L6 bp aV ?_
 refine .o1 (tkC rfl (noG rfl) rfl fun _ w hn k=>(by
  refine ⟨#[.agg #[.bool a,sv Aa ma ca]],_,args1 (k.eq1 0 9 rfl),fun w=>by kernel_rfl,cbig_c a _ ma _ _ (hra.new_ (ai.transNew hn)),?_⟩
  rintro e w' ⟨A1,c2,rfl,hmo0,hm⟩
  exact⟨_,rfl,hm,⟨A1,c2,rfl,hmo0⟩⟩)) ?_
 exact .off<| .off .nil
 refine aftI af ap ai fun au bK av aY aZ a1 aw=>?_
 have aK:=aw.f1 aI
 obtain⟨ae,ab,am,a3⟩:=aw.G 1 10
 have am:au.eval (.tmp 10)=vv (Vl.mk 4 0 0 a ma [] 0) ae ab none 0:=am
 have ax:=ar.new_ a1
 refine sS9 aK am ax fun bq a4 ay bB=>?_
 have a6:=a3.fr ax ay
 have a7:=aZ.tR ay
 refine sP (v:=iv 0) rfl av aY fun br bC a8 ac bt=>?_
 have⟨bs,bM⟩:=ac.q2 aK am
 refine aX _ _ ?_
 refine wp_ret (ret_k a8 (v:=.tuple #[vv (Vl.mk 4 0 0 a ma [] 0) ae ab none 0,iv 0]) (res_ct rfl bs bt (l_agg isAgg29 sizeOf29 a4 rfl)) ?_)
 have ag:(biggedV a ma t).1.mag=ma:=by first|rfl|(simp only [biggedV,Vl.z,aa,bsm] <;> rfl)|(exfalso; omega)
 have ah:(biggedV a ma t).1.s=[]:=by first|rfl|(simp only [biggedV,Vl.z,aa,bsm] <;> rfl)|(exfalso; omega)
 exact⟨ae,ab,none,0,(by show Ending.returned (.tuple #[vv (Vl.mk 4 0 0 a ma [] 0) ae ab none 0,iv 0])=Ending.returned (.tuple #[vv (biggedV a ma t).1 ae ab none 0,iv ((biggedV a ma t).2)]); (first|rfl|(simp only [biggedV,Vl.z,aa,ag,ah,bsm] <;> rfl)|(exfalso; omega))),(by rw [ag]; exact a6),(by rw [ah]; exact (SRow.nil _ _)),a7⟩
 have a9:aH.eval (.tmp 7)=.bool true:=aJ.trans (congrArg Value.bool (by rw [aa]; rfl))
 refine wt a9<| wk fun bN ba=>?_
 refine wA [true,false,false] [(1,false),(2,true)] 11 [ve (vv (Vl.mk 0 0 0 false [] [] 0) none 0 none 0),vt,vt] af ?_ ?_
 exact .Z<| .off<| .off .nil
 refine aftI af ap ai fun aL bO az bb bd be aA=>?_
 have aM:=aA.f1 aI
 have aN:=aA.g 0 8
 have bf:=ar.new_ be
 refine sS9 aM aN bf fun bu bh bg bD=>?_
 have bj:=bd.tR bg
 refine sP (v:=iv 3) rfl az bb fun bv bE bk ad bx=>?_
 have⟨bw,bQ⟩:=ad.q2 aM aN
 refine ba _ _ ?_
 refine wp_ret (ret_k bk (res9 bw bx bh) ?_)
 exact rV (by first|rfl|(simp only [biggedV,Vl.z,aa,bsm] <;> rfl)|(exfalso; omega)) bj
theorem neg_made {a:Bool} {m:List Nat} (hl:Limbs m):sgn (!(mayB a m && a)) (val (canon (goodI a m).natAbs)) = -(goodI a m):=by
  rw [← neg_good hl,val_canon]
  generalize goodI a m=z
  by_cases h:z < 0
  · rw [decide_eq_true h]; simp [sgn]; omega
  · rw [decide_eq_false h]; simp [sgn]; omega
def bNeg_c_P (a:Bool) (Aa:Option Addr) (ma:List Nat) (ca:Nat) (w:World) (en:Ending) (w':World):Prop:=∃ (Ar0:Option Addr) (cr0:Nat),en=.returned (.agg #[.bool (decide (-(goodI a ma) < 0)),sv Ar0 (canon (-(goodI a ma)).natAbs) cr0])∧SRow w' .u32 Ar0 (canon (-(goodI a ma)).natAbs) cr0∧New w w'
end Go.Proofs.YtjakfchffigkkaaGreatDoor
