import Derived.Test.YtecgdgjlmlpcnaaGreatDoorTle
namespace Go.Proofs.YtecgdgjlmlpcnaaGreatDoor
open Go.RowKit
open Tryz
set_option linter.unusedSimpArgs false
set_option linter.unusedVariables false
set_option maxHeartbeats 16000000
set_option maxRecDepth 100000
theorem tells_w (v:Vl) (Av:Option Addr) (cv:Nat) (Bv:Option Addr) (dv:Nat) (w:World) (hmv:SRow w .u32 Av v.mag cv) (hsv:SRow w .u16 Bv v.s dv) (hlv:Limbs v.mag) (huv:U16s v.s) (hbv:-9223372036854775808≤v.nn∧v.nn≤9223372036854775807∧-9223372036854775808≤v.ref∧v.ref≤9223372036854775807) (HT:ItoaOk w):Calls prog 3 #[vv v Av cv Bv dv] w (IsRet (.bool true) w):=by
 refine enter_abs func3 rfl fun a0 cY l3 hp=>?_
 have cY:a0.tmps.size=149:=cY
 have hZ:New w w:=Upd.refl _ _
 have hp0:a0.eval (.tmp 0)=vv v Av cv Bv dv:=hp 0 _ rfl
 refine wk fun K1 l4=>?_
 refine wB tr2 [] [] 149 [IsNew w 29 (c7 v Av cv Bv dv),vF] [0] cY ?_ heN ?_
 exact .X hp0<| .c .nil
 refine aftI cY l3 hZ fun a2 w3 h3 l5 id n3 l6=>?_
 obtain⟨q9,h8,ie,ig⟩:=l6.G 0 1
 have mU:=Nat.le_trans hZ.size ie
 refine l4 _ _ <| wk fun n4 ih=>?_
 refine wk fun n5 ii=>?_
 refine wA tr2 [] 149 [vT,vF] h3 ?_ ?_
 exact .o1 (ck rfl rfl rfl (fun _ w hn k=>⟨#[],rfl,fun _=>by kernel_rfl,first_c _⟩) fun _=>rfl)<| .T (fun k=>v_not rfl (k.eq1 0 25 rfl)) .nil
 refine aftI h3 l5 id fun n6 n7 dS ij cJ ik dT=>?_
 have h4:=dT.f1 h8
 have l7:=dT.g 1 26
 have dU:=ig.new_ ik
 refine ii _ _<| wf l7<| ws ?_
 refine ih _ _<| wk fun n8 il=>wk fun n9 im=>?_
 refine wA tr3 [] 149 [ve (vv v Av cv Bv dv),ve (.bool (decide ((v.s.length:Int)≤20000) && decide ((v.mag.length:Int)≤40))),ve (.bool (!(decide ((v.s.length:Int)≤20000) && decide ((v.mag.length:Int)≤40))))] dS ?_ ?_
 exact .L9 h4 dU<| .C 0 (fun p=>few_c v _ _ _ _ _ (hmv.new_ (cJ.transNew p)) (hsv.new_ (cJ.transNew p)))<| .T (fun k=>v_not rfl (k.eq1 1 28 rfl)) .nil
 refine aftI dS ij cJ fun h5 l8 ce dV bP io dW=>?_
 have h6:=dW.f1 h4
 have h7:=dW.g 2 29
 have cK:=dU.new_ io
 refine im _ _ ?_
 rcases bc (decide ((v.s.length:Int)≤20000) && decide ((v.mag.length:Int)≤40)) with bQ|bQ
 have ip:h5.eval (.tmp 29)=.bool false:=h7.trans (congrArg Value.bool (by rw [bQ]; rfl))
 refine wf ip<| ws<| il _ _<| wk fun oa iq=>?_
 have hvv:VOk v:=few_ok (v:=v) (by first|exact bQ|simpa using bQ) hlv huv hbv.1 hbv.2.1 hbv.2.2.1 hbv.2.2.2
 refine wB [true,true,true,false] [] [(3,false)] 149 [ve (vv v Av cv Bv dv),ve (vv v Av cv Bv dv),IsNew l8 32 z7,vt] [2] ce ?_ heN ?_
 exact .L9 h6 cK<| .C 0 (fun p=>lplain_c v _ _ _ _ _ (hmv.new_ (bP.transNew p)) (hsv.new_ (bP.transNew p)))<| .Y<| .off .nil
 refine aftI ce dV bP fun ob oc dX ir it iu cL=>?_
 have l9:=cL.f1 h6
 have ma:=cL.g 1 32
 obtain⟨bo,dY,dZ,iw⟩:=cL.G 2 3
 have ix:=cK.new_ iu
 have hne54:q9 ≠ bo:=by have h1:=cK.lt; have h2:=dZ; omega
 have mV:=Nat.le_trans bP.size dZ
 refine sS8 dY ma iw fun h9 cM iy iz=>?_
 have d0:=iz hne54 ix
 have ch:=it.tR iy
 refine iq _ _ <| wk fun oe iB=>?_
 refine wp_g [true,true,true,false] [] [(3,false)] 149
  [ve (vv v Av cv Bv dv),
  (VP v),IsNew h9 32 z7,vt]
  [2] (newsCons (fun v w h=>IsNew.old h) newsNil) dX (.eq (.cons (fun _ _ _ n ⟨_,_,_,_,e,h,i⟩=>⟨_,_,_,_,e,h.new_ n,i.new_ n⟩) (.nw (.tt .nil)))) ?_ (fun i h=>by cases h) ?_
 refine .L8 dY cM ?_
 refine .o1 (tkC rfl (noG rfl) rfl fun _ w hn k=>(by
  refine ⟨#[vv v Av cv Bv dv],_,args1 (k.eq1 0 33 rfl),fun w=>by kernel_rfl,qcopied_c v _ _ _ _ _ (hmv.new_ (ch.transNew hn)) (hsv.new_ (ch.transNew hn)) (Nat.le_trans hvv.mlen (by decide)) (Nat.le_trans hvv.slen (by decide)),?_⟩
  rintro e w' ⟨A1,c2,A3,c4,rfl,hmo0,hmo1,hm⟩
  exact⟨_,rfl,hm,⟨A1,c2,A3,c4,rfl,hmo0,hmo1⟩⟩)) ?_
 exact .Y<| .off .nil
 refine aftI dX ir ch fun mb og d1 iC iD d2 ci=>?_
 have⟨ia,mc⟩:=ci.f2 l9 dY
 obtain⟨cI,bR,bS,bT,d3,iE,iF⟩:=ci.G 1 34
 have d3:mb.eval (.tmp 34)=vv v cI bR bS bT:=d3
 obtain⟨bp,ib,cN,cO⟩:=ci.G 2 4
 have⟨iG,iH⟩:=nw2 d2 d0 cM
 have hne88:q9 ≠ bp:=by have h1:=d0.lt; have h2:=cN; omega
 have hne89:bo ≠ bp:=by have h1:=cM.lt; have h2:=cN; omega
 have mW:=Nat.le_trans ch.size cN
 refine sS8 ib d3 cO fun ic d5 cP d4=>?_
 have iJ:=iE.fr cO cP
 have eK:=iF.fr cO cP
 have cj:=d4 hne88 iG
 have cZ:=d4 hne89 iH
 have bD:=iD.tR cP
 refine iB _ _ <| wk fun mX eL=>?_
 refine wB [true,true,true,true,true,true,false,false] [4] [(6,false),(7,true)] 149 [ve (vv v Av cv Bv dv),ve (.tuple #[nv ((numberV v).1),iv ((numberV v).2)]),ve (.tuple #[nv ((numberV v).1),iv ((numberV v).2)]),ve (nv ((numberV v).1)),ve (iv ((numberV v).2)),IsNew ic 23 [iv 0,iv 0],vt,vt] [5] d1 ?_ ?_ ?_
 refine .L9 ia cj<| .C 0 (fun p=>cnumber_c v _ _ _ _ _ (hmv.new_ (bD.transNew p)) (hsv.new_ (bD.transNew p)) hvv)<| .N 1<| .E 2 ?_
 refine .o3 ?_
 exact .Y<| .off<| .off .nil
 refine eg1 ?_
 exact eager_take rfl rfl fun _ w hn k=>⟨iv ((numberV v).2),fun w=>v_extract rfl (k.eq1 2 35 rfl) rfl,rfl⟩
 refine aftI d1 iC bD fun d6 mY c0 eM eN bq aW=>?_
 have⟨iK,iL,iM⟩:=aW.f3 ia mc ib
 have d7:=aW.g 3 38
 have d8:=aW.g 4 39
 obtain⟨aS,d9,bE,cl⟩:=aW.G 5 5
 have⟨eO,eP,eQ⟩:=nw3 bq cj cZ d5
 have hne123:q9 ≠ aS:=by have h1:=cj.lt; have h2:=bE; omega
 have hne124:bo ≠ aS:=by have h1:=cZ.lt; have h2:=bE; omega
 have hne125:bp ≠ aS:=by have h1:=d5.lt; have h2:=bE; omega
 have mG:=Nat.le_trans bD.size bE
 have⟨eR,eS⟩:=nw2 bq iJ eK
 refine sS2 d9 d7 cl fun iN c1 cm cn=>?_
 have eU:=eR.fr cl cm
 have eV:=eS.fr cl cm
 have c3:=cn hne123 eO
 have co:=cn hne124 eP
 have c5:=cn hne125 eQ
 have bF:=eN.tR cm
 refine sP d8 c0 eM fun iO c9 eW an iS=>?_
 have⟨iP,eb,iQ⟩:=an.q3 iK iL iM
 have⟨m0,m1,iR⟩:=an.q3 d7 d8 d9
 refine eL _ _ <| wk fun m2 eX=>?_
 refine wB [true,true,true,true,true,true,false,false] [4] [(6,false),(7,true)] 149 [ve (vv v Av cv Bv dv),ve (.tuple #[nv ((numberV v).1),iv ((numberV v).2)]),ve (.tuple #[nv ((numberV v).1),iv ((numberV v).2)]),ve (nv ((numberV v).1)),ve (iv ((numberV v).2)),IsNew iN 23 [iv 0,iv 0],vt,vt] [5] c9 ?_ ?_ ?_
 refine .L8 eb co<| .C 0 (fun p=>qnumber_c v _ _ _ _ _ (hmv.new_ (bF.transNew p)) (hsv.new_ (bF.transNew p)) hvv)<| .N 1<| .E 2 ?_
 refine .o3 ?_
 exact .Y<| .off<| .off .nil
 refine eg1 ?_
 exact eager_take rfl rfl fun _ w hn k=>⟨iv ((numberV v).2),fun w=>v_extract rfl (k.eq1 2 40 rfl) rfl,rfl⟩
 refine aftI c9 eW bF fun ec m3 da eY eZ aX au=>?_
 have⟨iT,iU,iV,iW⟩:=au.f4 iP eb iQ iR
 have iX:=au.f1 iS
 have ed:=au.g 3 43
 have ee:=au.g 4 44
 obtain⟨aT,ef,br,cp⟩:=au.G 5 7
 have⟨e0,e1,e2,e3⟩:=nw4 aX c3 co c5 c1
 have hne176:q9 ≠ aT:=by have h1:=c3.lt; have h2:=br; omega
 have hne177:bo ≠ aT:=by have h1:=co.lt; have h2:=br; omega
 have hne178:bp ≠ aT:=by have h1:=c5.lt; have h2:=br; omega
 have hne179:aS ≠ aT:=by have h1:=c1.lt; have h2:=br; omega
 have mH:=Nat.le_trans bF.size br
 have⟨e4,e5⟩:=nw2 aX eU eV
 refine sS2 ef ed cp fun iY db cq bG=>?_
 have e7:=e4.fr cp cq
 have e8:=e5.fr cp cq
 have cr:=bG hne176 e0
 have dc:=bG hne177 e1
 have dd:=bG hne178 e2
 have de:=bG hne179 e3
 have bH:=eZ.tR cq
 refine sP ee da eY fun iZ df e9 aj i5=>?_
 have⟨eh,i0,i1⟩:=aj.q3 iT iU iV
 have⟨i2,i3,m5⟩:=aj.q3 iW iX ed
 have⟨m6,i4⟩:=aj.q2 ee ef
 refine eX _ _ <| wk fun m7 fa=>?_
 refine wp_gS (fun W=>True) (fun W W' hn h=>trivial) trivial [true,true,true,true,true,true,false,false] [4] [(6,false),(7,true)] 149
  [ve (vv v Av cv Bv dv),(TP (numericV v).1 ((numericV v).2)),(TP (numericV v).1 ((numericV v).2)),(fun (v_:Value) (W:World)=>∃ (bY:Option Addr) (bZ:Nat) (b0:Option Addr) (b1:Nat),v_=vv (numericV v).1 bY bZ b0 b1∧SRow W .u32 bY ((numericV v).1.mag) bZ∧SRow W .u16 b0 ((numericV v).1.s) b1),ve (iv ((numericV v).2)),IsNew iY 29 z7,vt,vt]
  [5] (newsCons (fun v w h=>IsNew.old h) newsNil) df (.eq (.cons (fun _ _ _ n ⟨_,_,_,_,e,h,i⟩=>⟨_,_,_,_,e,h.new_ n,i.new_ n⟩) (.cons (fun _ _ _ n ⟨_,_,_,_,e,h,i⟩=>⟨_,_,_,_,e,h.new_ n,i.new_ n⟩) (.cons (fun _ _ _ n ⟨_,_,_,_,e,h,i⟩=>⟨_,_,_,_,e,h.new_ n,i.new_ n⟩) (.eq (.nw (.tt (.tt .nil)))))))) ?_ ?_ ?_
 refine .L9 eh cr ?_
 refine .o1 (tkC rfl (noG rfl) rfl fun _ w hn k=>(by
  refine ⟨#[vv v Av cv Bv dv],_,args1 (k.eq1 0 46 rfl),fun w=>by kernel_rfl,cnumeric_c v _ _ _ _ _ (hmv.new_ (bH.transNew hn)) (hsv.new_ (bH.transNew hn)) hvv,?_⟩
  rintro e w' ⟨md,me,mf,mg,rfl,hmo0,hmo1,hm⟩
  exact⟨_,rfl,hm,⟨md,me,mf,mg,rfl,hmo0,hmo1⟩⟩)) ?_
 refine .o1 (tk rfl rfl fun _ w hn k=>(by
  obtain⟨mh,mi,mj,mk,ml,i6,i7⟩:=k.G 1 47
  exact⟨_,v_move rfl ml,⟨mh,mi,mj,mk,rfl,i6,i7⟩⟩)) ?_
 refine .o1 (tk rfl rfl fun _ w hn k=>(by
  obtain⟨mm,mn,mo,mp,mq,i8,i9⟩:=k.G 2 45
  exact⟨_,v_extract rfl mq rfl,⟨mm,mn,mo,mp,rfl,i8,i9⟩⟩)) ?_
 refine .o3 ?_
 exact .Y<| .off<| .off .nil
 refine eg1 ?_
 exact eager_takeG rfl (noG rfl) fun _ w hn k=>(by
  obtain⟨oi,oj,ok,ol,mr,m8,m9⟩:=k.G 2 45
  exact⟨_,fun w hS=>v_extract rfl mr rfl,rfl⟩)
 intro cQ na _ av ak
 obtain⟨dg,fb,fc⟩:=aft ak df e9 bH av
 have⟨ja,jb,jc,jd⟩:=ak.f4 eh i0 i1 i2
 have⟨je,jf,jg⟩:=ak.f3 i3 i4 i5
 obtain⟨b2,bs,b3,bt,ct,fd,fe⟩:=ak.G 3 48
 have ct:cQ.eval (.tmp 48)=vv (numericV v).1 b2 bs b3 bt:=ct
 have ei:=ak.g 4 49
 obtain⟨aI,ej,aY,bu⟩:=ak.G 5 9
 have⟨ff,fg,fh,fi⟩:=nw4 av cr dc dd de
 have fj:=db.new_ av
 have hne242:q9 ≠ aI:=by have h1:=cr.lt; have h2:=aY; omega
 have hne243:bo ≠ aI:=by have h1:=dc.lt; have h2:=aY; omega
 have hne244:bp ≠ aI:=by have h1:=dd.lt; have h2:=aY; omega
 have hne245:aS ≠ aI:=by have h1:=de.lt; have h2:=aY; omega
 have hne246:aT ≠ aI:=by have h1:=db.lt; have h2:=aY; omega
 have mI:=Nat.le_trans bH.size aY
 have⟨fk,fl⟩:=nw2 av e7 e8
 refine sS9 ej ct bu fun ek dh bv bw=>?_
 have fn:=fk.fr bu bv
 have fo:=fl.fr bu bv
 have fp:=fd.fr bu bv
 have fq:=fe.fr bu bv
 have di:=bw hne242 ff
 have cu:=bw hne243 fg
 have dj:=bw hne244 fh
 have dk:=bw hne245 fi
 have dl:=bw hne246 fj
 have bI:=fc.tR bv
 refine sP ei dg fb fun jh dm fs ag jp=>?_
 have⟨ji,en,jj⟩:=ag.q3 ja jb jc
 have⟨jk,jl,jm⟩:=ag.q3 jd je jf
 have⟨jn,nc,nd⟩:=ag.q3 jg ct ei
 have jo:=ag.q ej
 refine fa _ _ <| wk fun ne ft=>?_
 refine wp_gS (fun W=>True) (fun W W' hn h=>trivial) trivial [true,true,true,true,true,true,false,false] [4] [(6,false),(7,true)] 149
  [ve (vv v Av cv Bv dv),(TP (numericV v).1 ((numericV v).2)),(TP (numericV v).1 ((numericV v).2)),(fun (v_:Value) (W:World)=>∃ (b8:Option Addr) (b9:Nat) (ca:Option Addr) (cb:Nat),v_=vv (numericV v).1 b8 b9 ca cb∧SRow W .u32 b8 ((numericV v).1.mag) b9∧SRow W .u16 ca ((numericV v).1.s) cb),ve (iv ((numericV v).2)),IsNew ek 32 z7,vt,vt]
  [5] (newsCons (fun v w h=>IsNew.old h) newsNil) dm (.eq (.cons (fun _ _ _ n ⟨_,_,_,_,e,h,i⟩=>⟨_,_,_,_,e,h.new_ n,i.new_ n⟩) (.cons (fun _ _ _ n ⟨_,_,_,_,e,h,i⟩=>⟨_,_,_,_,e,h.new_ n,i.new_ n⟩) (.cons (fun _ _ _ n ⟨_,_,_,_,e,h,i⟩=>⟨_,_,_,_,e,h.new_ n,i.new_ n⟩) (.eq (.nw (.tt (.tt .nil)))))))) ?_ ?_ ?_
 refine .L8 en cu ?_
 refine .o1 (tkC rfl (noG rfl) rfl fun _ w hn k=>(by
  refine ⟨#[vv v Av cv Bv dv],_,args1 (k.eq1 0 51 rfl),fun w=>by kernel_rfl,qnumeric_c v _ _ _ _ _ (hmv.new_ (bI.transNew hn)) (hsv.new_ (bI.transNew hn)) hvv,?_⟩
  rintro e w' ⟨ms,mt,mu,mv,rfl,hmo0,hmo1,hm⟩
  exact⟨_,rfl,hm,⟨ms,mt,mu,mv,rfl,hmo0,hmo1⟩⟩)) ?_
 refine .o1 (tk rfl rfl fun _ w hn k=>(by
  obtain⟨mw,mx,my,mz,mA,jq,jr⟩:=k.G 1 52
  exact⟨_,v_move rfl mA,⟨mw,mx,my,mz,rfl,jq,jr⟩⟩)) ?_
 refine .o1 (tk rfl rfl fun _ w hn k=>(by
  obtain⟨bS,mB,mC,mD,mE,js,jt⟩:=k.G 2 50
  exact⟨_,v_extract rfl mE rfl,⟨bS,mB,mC,mD,rfl,js,jt⟩⟩)) ?_
 refine .o3 ?_
 exact .Y<| .off<| .off .nil
 refine eg1 ?_
 exact eager_takeG rfl (noG rfl) fun _ w hn k=>(by
  obtain⟨om,oo,op,oq,mF,nf,ng⟩:=k.G 2 50
  exact⟨_,fun w hS=>v_extract rfl mF rfl,rfl⟩)
 intro cR nh _ al ai
 obtain⟨dn,fu,fv⟩:=aft ai dm fs bI al
 have⟨ju,jv,jw,jx⟩:=ai.f4 ji en jj jk
 have⟨jy,jz,jA,jB⟩:=ai.f4 jl jm jn jo
 have jC:=ai.f1 jp
 obtain⟨cc,bx,cd,bz,cw,fw,fy⟩:=ai.G 3 53
 have cw:cR.eval (.tmp 53)=vv (numericV v).1 cc bx cd bz:=cw
 have eo:=ai.g 4 54
 obtain⟨aJ,ep,aK,aL⟩:=ai.G 5 11
 have⟨fz,fA,fB,fC⟩:=nw4 al di cu dj dk
 have⟨fD,fE⟩:=nw2 al dl dh
 have hne317:q9 ≠ aJ:=by have h1:=di.lt; have h2:=aK; omega
 have hne318:bo ≠ aJ:=by have h1:=cu.lt; have h2:=aK; omega
 have hne319:bp ≠ aJ:=by have h1:=dj.lt; have h2:=aK; omega
 have hne320:aS ≠ aJ:=by have h1:=dk.lt; have h2:=aK; omega
 have hne321:aT ≠ aJ:=by have h1:=dl.lt; have h2:=aK; omega
 have hne322:aI ≠ aJ:=by have h1:=dh.lt; have h2:=aK; omega
 have mJ:=Nat.le_trans bI.size aK
 have⟨fF,fG,fH,fI⟩:=nw4 al fn fo fp fq
 refine sS8 ep cw aL fun er dp aM aZ=>?_
 have fK:=fF.fr aL aM
 have fL:=fG.fr aL aM
 have fM:=fH.fr aL aM
 have fN:=fI.fr aL aM
 have fO:=fw.fr aL aM
 have fP:=fy.fr aL aM
 have cx:=aZ hne317 fz
 have dq:=aZ hne318 fA
 have dr:=aZ hne319 fB
 have ds:=aZ hne320 fC
 have dt:=aZ hne321 fD
 have du:=aZ hne322 fE
 have bJ:=fv.tR aM
 refine sP eo dn fu fun jD dw fQ ad jN=>?_
 have⟨eu,jE,jF⟩:=ad.q3 ju jv jw
 have⟨jG,jH,jI⟩:=ad.q3 jx jy jz
 have⟨jJ,jK,jL⟩:=ad.q3 jA jB jC
 have⟨nj,nl,jM⟩:=ad.q3 cw eo ep
 refine ft _ _ <| wk fun nm fR=>?_
 refine wp_gS (fun W=>True) (fun W W' hn h=>trivial) trivial [true,true,true,true,true,true,false,false] [4] [(6,false),(7,true)] 149
  [ve (vv v Av cv Bv dv),(fun (v_:Value) (W:World)=>∃ (bb:Option Addr) (bd:Nat),v_=.tuple #[.agg #[.bool ((bigintV v).1),sv bb ((bigintV v).2.1) bd],iv ((bigintV v).2.2)]∧SRow W .u32 bb ((bigintV v).2.1) bd),(fun (v_:Value) (W:World)=>∃ (aA:Option Addr) (aB:Nat),v_=.tuple #[.agg #[.bool ((bigintV v).1),sv aA ((bigintV v).2.1) aB],iv ((bigintV v).2.2)]∧SRow W .u32 aA ((bigintV v).2.1) aB),(fun (v_:Value) (W:World)=>∃ (be:Option Addr) (bf:Nat),v_=.agg #[.bool ((bigintV v).1),sv be ((bigintV v).2.1) bf]∧SRow W .u32 be ((bigintV v).2.1) bf),ve (iv ((bigintV v).2.2)),IsNew er 26 [.bool false,sv none ([]) 0],vt,vt]
  [5] (newsCons (fun v w h=>IsNew.old h) newsNil) dw (.eq (.cons (fun _ _ _ n ⟨_,_,e,h⟩=>⟨_,_,e,h.new_ n⟩) (.cons (fun _ _ _ n ⟨_,_,e,h⟩=>⟨_,_,e,h.new_ n⟩) (.cons (fun _ _ _ n ⟨_,_,e,h⟩=>⟨_,_,e,h.new_ n⟩) (.eq (.nw (.tt (.tt .nil)))))))) ?_ ?_ ?_
 refine .L9 eu cx ?_
 refine .o1 (tkC rfl (noG rfl) rfl fun _ w hn k=>(by
  refine ⟨#[vv v Av cv Bv dv],_,args1 (k.eq1 0 56 rfl),fun w=>by kernel_rfl,cbigint_c v _ _ _ _ _ (hmv.new_ (bJ.transNew hn)) (hsv.new_ (bJ.transNew hn)) hvv,?_⟩
  rintro e w' ⟨jO,jP,rfl,hmo0,hm⟩
  exact⟨_,rfl,hm,⟨jO,jP,rfl,hmo0⟩⟩)) ?_
 refine .o1 (tk rfl rfl fun _ w hn k=>(by
  obtain⟨jQ,jR,jS,fS⟩:=k.G 1 57
  exact⟨_,v_move rfl jS,⟨jQ,jR,rfl,fS⟩⟩)) ?_
 refine .o1 (tk rfl rfl fun _ w hn k=>(by
  obtain⟨jT,jU,jV,fT⟩:=k.G 2 55
  exact⟨_,v_extract rfl jV rfl,⟨jT,jU,rfl,fT⟩⟩)) ?_
 refine .o3 ?_
 exact .Y<| .off<| .off .nil
 refine eg1 ?_
 exact eager_takeG rfl (noG rfl) fun _ w hn k=>(by
  obtain⟨np,nq,jW,mK⟩:=k.G 2 55
  exact⟨_,fun w hS=>v_extract rfl jW rfl,rfl⟩)
 intro cS nr _ ah af
 obtain⟨dx,fU,fV⟩:=aft af dw fQ bJ ah
 have⟨jX,jY,jZ,j0⟩:=af.f4 eu jE jF jG
 have⟨j1,j2,j3,j4⟩:=af.f4 jH jI jJ jK
 have⟨j5,j6,j7⟩:=af.f3 jL jM jN
 obtain⟨cy,bK,cz,fW⟩:=af.G 3 58
 have cz:cS.eval (.tmp 58)=.agg #[.bool ((bigintV v).1),sv cy ((bigintV v).2.1) bK]:=cz
 have ev:=af.g 4 59
 obtain⟨aU,ew,aw,ax⟩:=af.G 5 13
 have⟨fX,fY,fZ,f0⟩:=nw4 ah cx dq dr ds
 have⟨f1,f2,f3⟩:=nw3 ah dt du dp
 have hne400:q9 ≠ aU:=by have h1:=cx.lt; have h2:=aw; omega
 have hne401:bo ≠ aU:=by have h1:=dq.lt; have h2:=aw; omega
 have hne402:bp ≠ aU:=by have h1:=dr.lt; have h2:=aw; omega
 have hne403:aS ≠ aU:=by have h1:=ds.lt; have h2:=aw; omega
 have hne404:aT ≠ aU:=by have h1:=dt.lt; have h2:=aw; omega
 have hne405:aI ≠ aU:=by have h1:=du.lt; have h2:=aw; omega
 have hne406:aJ ≠ aU:=by have h1:=dp.lt; have h2:=aw; omega
 have mL:=Nat.le_trans bJ.size aw
 have⟨f4,f5,f6,f7⟩:=nw4 ah fK fL fM fN
 have⟨f8,f9⟩:=nw2 ah fO fP
 refine sS6 ew cz ax fun j8 dy ay aN=>?_
 have gb:=f4.fr ax ay
 have gc:=f5.fr ax ay
 have gd:=f6.fr ax ay
 have gf:=f7.fr ax ay
 have gg:=f8.fr ax ay
 have gh:=f9.fr ax ay
 have gi:=fW.fr ax ay
 have dz:=aN hne400 fX
 have cA:=aN hne401 fY
 have dA:=aN hne402 fZ
 have dB:=aN hne403 f0
 have dC:=aN hne404 f1
 have dD:=aN hne405 f2
 have dE:=aN hne406 f3
 have bL:=fV.tR ay
 refine sP ev dx fU fun j9 dF gj ab kl=>?_
 have⟨ka,ey,kb⟩:=ab.q3 jX jY jZ
 have⟨kc,kd,ke⟩:=ab.q3 j0 j1 j2
 have⟨kf,kg,kh⟩:=ab.q3 j3 j4 j5
 have⟨ki,kj,nt⟩:=ab.q3 j6 j7 cz
 have⟨nu,kk⟩:=ab.q2 ev ew
 refine fR _ _ <| wk fun nx gk=>?_
 refine wp_gS (fun W=>True) (fun W W' hn h=>trivial) trivial [true,true,true,true,true,true,false,false] [4] [(6,false),(7,true)] 149
  [ve (vv v Av cv Bv dv),(fun (v_:Value) (W:World)=>∃ (bg:Option Addr) (bh:Nat),v_=.tuple #[.agg #[.bool ((bigintV v).1),sv bg ((bigintV v).2.1) bh],iv ((bigintV v).2.2)]∧SRow W .u32 bg ((bigintV v).2.1) bh),(fun (v_:Value) (W:World)=>∃ (aC:Option Addr) (aD:Nat),v_=.tuple #[.agg #[.bool ((bigintV v).1),sv aC ((bigintV v).2.1) aD],iv ((bigintV v).2.2)]∧SRow W .u32 aC ((bigintV v).2.1) aD),(fun (v_:Value) (W:World)=>∃ (bi:Option Addr) (bj:Nat),v_=.agg #[.bool ((bigintV v).1),sv bi ((bigintV v).2.1) bj]∧SRow W .u32 bi ((bigintV v).2.1) bj),ve (iv ((bigintV v).2.2)),IsNew j8 26 [.bool false,sv none ([]) 0],vt,vt]
  [5] (newsCons (fun v w h=>IsNew.old h) newsNil) dF (.eq (.cons (fun _ _ _ n ⟨_,_,e,h⟩=>⟨_,_,e,h.new_ n⟩) (.cons (fun _ _ _ n ⟨_,_,e,h⟩=>⟨_,_,e,h.new_ n⟩) (.cons (fun _ _ _ n ⟨_,_,e,h⟩=>⟨_,_,e,h.new_ n⟩) (.eq (.nw (.tt (.tt .nil)))))))) ?_ ?_ ?_
 refine .L8 ey cA ?_
 refine .o1 (tkC rfl (noG rfl) rfl fun _ w hn k=>(by
  refine ⟨#[vv v Av cv Bv dv],_,args1 (k.eq1 0 61 rfl),fun w=>by kernel_rfl,qtobig_c v _ _ _ _ _ (hmv.new_ (bL.transNew hn)) (hsv.new_ (bL.transNew hn)) hvv,?_⟩
  rintro e w' ⟨km,kn,rfl,hmo0,hm⟩
  exact⟨_,rfl,hm,⟨km,kn,rfl,hmo0⟩⟩)) ?_
 refine .o1 (tk rfl rfl fun _ w hn k=>(by
  obtain⟨ko,kp,kq,gl⟩:=k.G 1 62
  exact⟨_,v_move rfl kq,⟨ko,kp,rfl,gl⟩⟩)) ?_
 refine .o1 (tk rfl rfl fun _ w hn k=>(by
  obtain⟨kr,ks,kt,gn⟩:=k.G 2 60
  exact⟨_,v_extract rfl kt rfl,⟨kr,ks,rfl,gn⟩⟩)) ?_
 refine .o3 ?_
 exact .Y<| .off<| .off .nil
 refine eg1 ?_
 exact eager_takeG rfl (noG rfl) fun _ w hn k=>(by
  obtain⟨ny,nz,ku,mM⟩:=k.G 2 60
  exact⟨_,fun w hS=>v_extract rfl ku rfl,rfl⟩)
 intro cT nA _ ae ac
 obtain⟨dG,go,gp⟩:=aft ac dF gj bL ae
 have⟨kv,kw,kx,ky⟩:=ac.f4 ka ey kb kc
 have⟨kz,kA,kB,kC⟩:=ac.f4 kd ke kf kg
 have⟨kD,kE,kF,kG⟩:=ac.f4 kh ki kj kk
 have kH:=ac.f1 kl
 obtain⟨cB,bM,cC,gq⟩:=ac.G 3 63
 have cC:cT.eval (.tmp 63)=.agg #[.bool ((bigintV v).1),sv cB ((bigintV v).2.1) bM]:=cC
 have ez:=ac.g 4 64
 obtain⟨aV,eA,ao,ap⟩:=ac.G 5 15
 have⟨gr,gs,gt,gu⟩:=nw4 ae dz cA dA dB
 have⟨gv,gw,gx,gy⟩:=nw4 ae dC dD dE dy
 have hne493:q9 ≠ aV:=by have h1:=dz.lt; have h2:=ao; omega
 have hne494:bo ≠ aV:=by have h1:=cA.lt; have h2:=ao; omega
 have hne495:bp ≠ aV:=by have h1:=dA.lt; have h2:=ao; omega
 have hne496:aS ≠ aV:=by have h1:=dB.lt; have h2:=ao; omega
 have hne497:aT ≠ aV:=by have h1:=dC.lt; have h2:=ao; omega
 have hne498:aI ≠ aV:=by have h1:=dD.lt; have h2:=ao; omega
 have hne499:aJ ≠ aV:=by have h1:=dE.lt; have h2:=ao; omega
 have hne500:aU ≠ aV:=by have h1:=dy.lt; have h2:=ao; omega
 have mN:=Nat.le_trans bL.size ao
 have⟨gz,gA,gB,gC⟩:=nw4 ae gb gc gd gf
 have⟨gD,gE,gF⟩:=nw3 ae gg gh gi
 refine sS6 eA cC ap fun nB gG aq az=>?_
 have gI:=gz.fr ap aq
 have gJ:=gA.fr ap aq
 have gK:=gB.fr ap aq
 have gL:=gC.fr ap aq
 have gM:=gD.fr ap aq
 have gN:=gE.fr ap aq
 have gO:=gF.fr ap aq
 have gP:=gq.fr ap aq
 have gQ:=az hne493 gr
 have gR:=az hne494 gs
 have gS:=az hne495 gt
 have gT:=az hne496 gu
 have gU:=az hne497 gv
 have gV:=az hne498 gw
 have gW:=az hne499 gx
 have gX:=az hne500 gy
 have gY:=gp.tR aq
 refine sP ez dG go fun kI dH gZ aa kX=>?_
 have⟨kJ,kK,kL⟩:=aa.q3 kv kw kx
 have⟨kM,kN,kO⟩:=aa.q3 ky kz kA
 have⟨kP,kQ,kR⟩:=aa.q3 kB kC kD
 have⟨kS,kT,kU⟩:=aa.q3 kE kF kG
 have⟨kV,nD,nE⟩:=aa.q3 kH cC ez
 have kW:=aa.q eA
 refine gk _ _ <| wk fun nF g0=>?_
 refine wk fun nG g1=>?_
 refine wA tr31 [] 149 [ve (nv ((numberV v).1)),ve (nv ((numberV v).1)),vT,vF,vF,ve (iv ((numberV v).2)),ve (iv ((numberV v).2)),vF,vF,vF,ve (vv (numericV v).1 b2 bs b3 bt),ve (vv (numericV v).1 cc bx cd bz),vT,vF,vF,vF,ve (iv ((numericV v).2)),ve (iv ((numericV v).2)),vF,vF,vF,ve (.agg #[.bool ((bigintV v).1),sv cy ((bigintV v).2.1) bK]),ve (.agg #[.bool ((bigintV v).1),sv cB ((bigintV v).2.1) bM]),vT,vF,vF,vF,ve (iv ((bigintV v).2.2)),ve (iv ((bigintV v).2.2)),vF,vF] dH ?_ ?_
 exact .L2 kM gT<| .L2 kO gU<| .o1 (ck rfl rfl rfl (fun _ w hn k=>⟨#[nv ((numberV v).1),nv ((numberV v).1)],args2 (k.eq1 0 65 rfl) (k.eq1 1 66 rfl),fun _=>by kernel_rfl,rnum_c ((numberV v).1) ((numberV v).1) _ ⟩) fun _=>congrArg Value.bool (Bool.and_eq_true_iff.2 ⟨decide_eq_true rfl,decide_eq_true rfl⟩))<| .T (fun k=>v_not rfl (k.eq1 2 67 rfl))<| .N 3<| .gm (fun k=>k.eq1 4 69 rfl) (fun k=>k.fx 6 kN)<| .gm (fun k=>k.eq1 4 69 rfl) (fun k=>k.fx 8 kP)<| .V (fun p k=>v_bin rfl (k.eq1 5 70 rfl) (k.eq1 6 71 rfl) (fun _=>rfl) (n_neq_self _ _))<| .T (fun k=>v_pickF rfl (k.eq1 4 69 rfl) (k.eq1 7 72 rfl))<| .N 8<| .V (fun p k=>v_load rfl (k.fx 9 kQ) (l_agg isAgg29 sizeOf29 (gV.new_ p) rfl))<| .V (fun p k=>v_load rfl (k.fx 11 kS) (l_agg isAgg32 sizeOf32 (gW.new_ p) rfl))<| .o1 (cg rfl rfl rfl (fun _ _ k=>k.eq1 9 74 rfl) rfl (fun _ w hn k=>⟨#[vv (numericV v).1 b2 bs b3 bt,vv (numericV v).1 cc bx cd bz],args2 (k.eq1 10 75 rfl) (k.eq1 11 76 rfl),fun _=>by kernel_rfl,is_c ((numericV v).1) _ _ _ _ ((numericV v).1) _ _ _ _ _ (gK.new_ hn) (gL.new_ hn) (gM.new_ hn) (gN.new_ hn)⟩) fun _=>congrArg Value.bool (sameV_self _))<| .V (fun p k=>v_not rfl (k.eq1 12 77 rfl))<| .T (fun k=>v_pickF rfl (k.eq1 9 74 rfl) (k.eq1 13 78 rfl))<| .N 14<| .gm (fun k=>k.eq1 15 80 rfl) (fun k=>k.fx 10 kR)<| .gm (fun k=>k.eq1 15 80 rfl) (fun k=>k.fx 12 kT)<| .V (fun p k=>v_bin rfl (k.eq1 16 81 rfl) (k.eq1 17 82 rfl) (fun _=>rfl) (n_neq_self _ _))<| .T (fun k=>v_pickF rfl (k.eq1 15 80 rfl) (k.eq1 18 83 rfl))<| .N 19<| .V (fun p k=>v_load rfl (k.fx 13 kU) (l_two isAgg26 sizeOf26 (gX.new_ p)))<| .V (fun p k=>v_load rfl (k.fx 15 kW) (l_two isAgg26 sizeOf26 (gG.new_ p)))<| .o1 (cg rfl rfl rfl (fun _ _ k=>k.eq1 20 85 rfl) rfl (fun _ w hn k=>⟨#[.agg #[.bool ((bigintV v).1),sv cy ((bigintV v).2.1) bK],.agg #[.bool ((bigintV v).1),sv cB ((bigintV v).2.1) bM]],args2 (k.eq1 21 86 rfl) (k.eq1 22 87 rfl),fun _=>by kernel_rfl,rbig_c ((bigintV v).1) _ ((bigintV v).2.1) _ ((bigintV v).1) _ ((bigintV v).2.1) _ _ (gO.new_ hn) (gP.new_ hn)⟩) fun _=>congrArg Value.bool (Bool.and_eq_true_iff.2 ⟨decide_eq_true rfl,decide_eq_true rfl⟩))<| .V (fun p k=>v_not rfl (k.eq1 23 88 rfl))<| .T (fun k=>v_pickF rfl (k.eq1 20 85 rfl) (k.eq1 24 89 rfl))<| .N 25<| .gm (fun k=>k.eq1 26 91 rfl) (fun k=>k.fx 14 kV)<| .gm (fun k=>k.eq1 26 91 rfl) (fun k=>k.fx 16 kX)<| .V (fun p k=>v_bin rfl (k.eq1 27 92 rfl) (k.eq1 28 93 rfl) (fun _=>rfl) (n_neq_self _ _))<| .T (fun k=>v_pickF rfl (k.eq1 26 91 rfl) (k.eq1 29 94 rfl)) .nil
 refine aftI dH gZ gY fun nH nI dI g2 bN bA bO=>?_
 have⟨eC,kY,kZ⟩:=bO.f3 kJ kK kL
 have k0:=bO.g 30 95
 have⟨dJ,g3,g4,g5⟩:=nw4 bA gQ gR gS gI
 have g6:=gJ.new_ bA
 refine g1 _ _<| wf k0<| ws ?_
 refine g0 _ _<| wk fun nJ g7=>?_
 refine wp_g0 [true,true,true,true,true,true,true] [] 149
  [ve (vv v Av cv Bv dv),(fun (v_:Value) (W:World)=>∃ (bk:Option Addr) (bl:Nat),v_=.tuple #[sv bk ((textV v).1) bl,iv ((textV v).2)]∧SRow W .u16 bk ((textV v).1) bl),(fun (v_:Value) (W:World)=>∃ (aE:Option Addr) (aF:Nat),v_=.tuple #[sv aE ((textV v).1) aF,iv ((textV v).2)]∧SRow W .u16 aE ((textV v).1) aF),
  (RP .u16 ((textV v).1)),ve (iv ((textV v).2)),
  (RP .u16 ((textV v).1)),ve (iv ((textV v).2))] dI (.eq (.cons (fun _ _ _ n ⟨_,_,e,h⟩=>⟨_,_,e,h.new_ n⟩) (.cons (fun _ _ _ n ⟨_,_,e,h⟩=>⟨_,_,e,h.new_ n⟩) (.cons (fun _ _ _ n ⟨_,_,e,h⟩=>⟨_,_,e,h.new_ n⟩) (.eq (.cons (fun _ _ _ n ⟨_,_,e,h⟩=>⟨_,_,e,h.new_ n⟩) (.eq .nil))))))) ?_ ?_
 refine .L9 eC dJ ?_
 refine .o1 (tkC rfl (noG rfl) rfl fun _ w hn k=>(by
  refine ⟨#[vv v Av cv Bv dv],_,args1 (k.eq1 0 97 rfl),fun w=>by kernel_rfl,ctext_c v _ _ _ _ _ (hmv.new_ (bN.transNew hn)) (hsv.new_ (bN.transNew hn)) hvv (HT.up (bN.transNew hn)),?_⟩
  rintro e w' ⟨k5,k6,rfl,hmo0,hm⟩
  exact⟨_,rfl,hm,⟨k5,k6,rfl,hmo0⟩⟩)) ?_
 refine .o1 (tk rfl rfl fun _ w hn k=>(by
  obtain⟨k7,k8,k9,g8⟩:=k.G 1 98
  exact⟨_,v_move rfl k9,⟨k7,k8,rfl,g8⟩⟩)) ?_
 refine .o1 (tk rfl rfl fun _ w hn k=>(by
  obtain⟨la,lc,ld,g9⟩:=k.G 2 96
  exact⟨_,v_extract rfl ld rfl,⟨la,lc,rfl,g9⟩⟩)) ?_
 refine .o1 (tk rfl rfl fun _ w hn k=>(by
  obtain⟨nK,nL,le,mO⟩:=k.G 2 96
  exact⟨_,v_extract rfl le rfl,rfl⟩)) ?_
 refine .o1 (tk rfl rfl fun _ w hn k=>(by
  obtain⟨lf,lg,lh,ha⟩:=k.G 3 99
  exact⟨_,v_assign rfl lh,⟨lf,lg,rfl,ha⟩⟩)) ?_
 exact .B 4 .nil
 refine aftI dI g2 bN fun li nM dK hc cD bB bC=>?_
 have⟨lj,eD,lk⟩:=bC.f3 eC kY kZ
 obtain⟨cU,cE,cV,hd⟩:=bC.G 5 17
 have cV:li.eval (.tmp 17)=sv cU ((textV v).1) cE:=cV
 have ll:=bC.g 6 18
 have⟨hf,dL,cf,hg⟩:=nw4 bB dJ g3 g4 g5
 have hh:=g6.new_ bB
 refine g7 _ _ <| wk fun nN hi=>?_
 refine wp_g0 [true,true,true,true,true,true,true] [] 149
  [ve (vv v Av cv Bv dv),(fun (v_:Value) (W:World)=>∃ (bm:Option Addr) (bn:Nat),v_=.tuple #[sv bm ((textV v).1) bn,iv ((textV v).2)]∧SRow W .u16 bm ((textV v).1) bn),(fun (v_:Value) (W:World)=>∃ (aG:Option Addr) (aH:Nat),v_=.tuple #[sv aG ((textV v).1) aH,iv ((textV v).2)]∧SRow W .u16 aG ((textV v).1) aH),
  (RP .u16 ((textV v).1)),ve (iv ((textV v).2)),
  (RP .u16 ((textV v).1)),ve (iv ((textV v).2))] dK (.eq (.cons (fun _ _ _ n ⟨_,_,e,h⟩=>⟨_,_,e,h.new_ n⟩) (.cons (fun _ _ _ n ⟨_,_,e,h⟩=>⟨_,_,e,h.new_ n⟩) (.cons (fun _ _ _ n ⟨_,_,e,h⟩=>⟨_,_,e,h.new_ n⟩) (.eq (.cons (fun _ _ _ n ⟨_,_,e,h⟩=>⟨_,_,e,h.new_ n⟩) (.eq .nil))))))) ?_ ?_
 refine .L8 eD dL ?_
 refine .o1 (tkC rfl (noG rfl) rfl fun _ w hn k=>(by
  refine ⟨#[vv v Av cv Bv dv],_,args1 (k.eq1 0 102 rfl),fun w=>by kernel_rfl,qtext_c v _ _ _ _ _ (hmv.new_ (cD.transNew hn)) (hsv.new_ (cD.transNew hn)) hvv,?_⟩
  rintro e w' ⟨lq,lr,rfl,hmo0,hm⟩
  exact⟨_,rfl,hm,⟨lq,lr,rfl,hmo0⟩⟩)) ?_
 refine .o1 (tk rfl rfl fun _ w hn k=>(by
  obtain⟨ls,lu,lv,hj⟩:=k.G 1 103
  exact⟨_,v_move rfl lv,⟨ls,lu,rfl,hj⟩⟩)) ?_
 refine .o1 (tk rfl rfl fun _ w hn k=>(by
  obtain⟨lw,lx,ly,hl⟩:=k.G 2 101
  exact⟨_,v_extract rfl ly rfl,⟨lw,lx,rfl,hl⟩⟩)) ?_
 refine .o1 (tk rfl rfl fun _ w hn k=>(by
  obtain⟨nO,nP,lz,mP⟩:=k.G 2 101
  exact⟨_,v_extract rfl lz rfl,rfl⟩)) ?_
 refine .o1 (tk rfl rfl fun _ w hn k=>(by
  obtain⟨lA,lB,lC,ho⟩:=k.G 3 104
  exact⟨_,v_assign rfl lC,⟨lA,lB,rfl,ho⟩⟩)) ?_
 exact .B 4 .nil
 refine aftI dK hc cD fun lD nQ dM hr cF a1 aO=>?_
 have⟨eE,lE,lF,lG⟩:=aO.f4 lj eD lk cV
 have lH:=aO.f1 ll
 obtain⟨cW,cG,cX,hs⟩:=aO.G 5 19
 have cX:lD.eval (.tmp 19)=sv cW ((textV v).1) cG:=cX
 have lI:=aO.g 6 20
 have⟨dN,ht,hu,hv⟩:=nw4 a1 hf dL cf hg
 have⟨hw,hx⟩:=nw2 a1 hh hd
 refine hi _ _ <| wk fun nR hy=>?_
 refine wA tr7 [] 149 [ve (vv v Av cv Bv dv),ve (.tuple #[iv ((indexV v).1),iv ((indexV v).2)]),ve (.tuple #[iv ((indexV v).1),iv ((indexV v).2)]),ve (iv ((indexV v).1)),ve (iv ((indexV v).2)),ve (iv ((indexV v).1)),ve (iv ((indexV v).2))] dM ?_ ?_
 exact .L9 eE dN<| .C 0 (fun p=>cindex_c v _ _ _ _ _ (hmv.new_ (cF.transNew p)) (hsv.new_ (cF.transNew p)) hvv)<| .N 1<| .E 2<| .E 2<| .B 3<| .B 4 .nil
 refine aftI dM hr cF fun nS nT dO hz cH aP ar=>?_
 have⟨lJ,eF,lK,lL⟩:=ar.f4 eE lE lF lG
 have⟨lM,lN,lO⟩:=ar.f3 lH cX lI
 have lP:=ar.g 5 21
 have lQ:=ar.g 6 22
 have⟨hA,dP,hC,hD⟩:=nw4 aP dN ht hu hv
 have⟨hE,hF,hG⟩:=nw3 aP hw hx hs
 refine hy _ _ <| wk fun nU hH=>?_
 refine wA tr7 [] 149 [ve (vv v Av cv Bv dv),ve (.tuple #[iv ((indexV v).1),iv ((indexV v).2)]),ve (.tuple #[iv ((indexV v).1),iv ((indexV v).2)]),ve (iv ((indexV v).1)),ve (iv ((indexV v).2)),ve (iv ((indexV v).1)),ve (iv ((indexV v).2))] dO ?_ ?_
 exact .L8 eF dP<| .C 0 (fun p=>qindex_c v _ _ _ _ _ (hmv.new_ (cH.transNew p)) (hsv.new_ (cH.transNew p)) hvv)<| .N 1<| .E 2<| .E 2<| .B 3<| .B 4 .nil
 refine aftI dO hz cH fun nV nW dQ hI aQ aR am=>?_
 have⟨lR,eG,lS,lT⟩:=am.f4 lJ eF lK lL
 have⟨lU,lV,lW,lX⟩:=am.f4 lM lN lO lP
 have lY:=am.f1 lQ
 have lZ:=am.g 5 23
 have l0:=am.g 6 24
 have⟨hJ,dR,hK,hL⟩:=nw4 aR hA dP hC hD
 have⟨hM,hN,hO⟩:=nw3 aR hE hF hG
 refine hH _ _ <| wk fun nX hP=>?_
 refine wA tr34 [] 149 [vT,vT,ve (sv cU ((textV v).1) cE),ve (sv cW ((textV v).1) cG),vT,vT,vT,ve (iv ((textV v).2)),ve (iv ((textV v).2)),vT,vT,vT,ve (iv ((indexV v).1)),ve (iv ((indexV v).1)),vT,vT,vT,ve (iv ((indexV v).2)),ve (iv ((indexV v).2)),vT,vT,vT,ve (vv v Av cv Bv dv),ve (.bool (boolV v)),ve (vv v Av cv Bv dv),ve (.bool (boolV v)),vT,vT,vT,ve (vv v Av cv Bv dv),ve (vv v cI bR bS bT),vT,vT,vT] dQ ?_ ?_
 exact .o1 (ck rfl rfl rfl (fun _ w hn k=>⟨#[],rfl,fun _=>by kernel_rfl,first_c _⟩) fun _=>rfl)<| .N 0<| .gm (fun k=>k.eq1 1 117 rfl) (fun k=>k.fx 17 lT)<| .gm (fun k=>k.eq1 1 117 rfl) (fun k=>k.fx 19 lV)<| .o1 (cg rfl rfl rfl (fun _ _ k=>k.eq1 1 117 rfl) rfl (fun _ w hn k=>⟨#[sv cU ((textV v).1) cE,sv cW ((textV v).1) cG],args2 (k.eq1 2 118 rfl) (k.eq1 3 119 rfl),fun _=>by kernel_rfl,rlist16_c _ ((textV v).1) _ _ ((textV v).1) _ _ (hN.new_ hn) (hO.new_ hn)⟩) fun _=>congrArg Value.bool (decide_eq_true rfl))<| .T (fun k=>v_pickT rfl (k.eq1 1 117 rfl) (k.eq1 4 120 rfl))<| .N 5<| .gm (fun k=>k.eq1 6 122 rfl) (fun k=>k.fx 18 lU)<| .gm (fun k=>k.eq1 6 122 rfl) (fun k=>k.fx 20 lW)<| .V (fun p k=>v_bin rfl (k.eq1 7 123 rfl) (k.eq1 8 124 rfl) (fun _=>rfl) (n_eql_self _ _))<| .T (fun k=>v_pickT rfl (k.eq1 6 122 rfl) (k.eq1 9 125 rfl))<| .N 10<| .gm (fun k=>k.eq1 11 127 rfl) (fun k=>k.fx 21 lX)<| .gm (fun k=>k.eq1 11 127 rfl) (fun k=>k.fx 23 lZ)<| .V (fun p k=>v_bin rfl (k.eq1 12 128 rfl) (k.eq1 13 129 rfl) (fun _=>rfl) (n_eql_self _ _))<| .T (fun k=>v_pickT rfl (k.eq1 11 127 rfl) (k.eq1 14 130 rfl))<| .N 15<| .gm (fun k=>k.eq1 16 132 rfl) (fun k=>k.fx 22 lY)<| .gm (fun k=>k.eq1 16 132 rfl) (fun k=>k.fx 24 l0)<| .V (fun p k=>v_bin rfl (k.eq1 17 133 rfl) (k.eq1 18 134 rfl) (fun _=>rfl) (n_eql_self _ _))<| .T (fun k=>v_pickT rfl (k.eq1 16 132 rfl) (k.eq1 19 135 rfl))<| .N 20<| .V (fun p k=>v_load rfl (k.fx 1 lR) (l_agg isAgg29 sizeOf29 (hJ.new_ p) rfl))<| .o1 (cg rfl rfl rfl (fun _ _ k=>k.eq1 21 137 rfl) rfl (fun _ w hn k=>⟨#[vv v Av cv Bv dv],args1 (k.eq1 22 138 rfl),fun _=>by kernel_rfl,cbool_c v _ _ _ _ _ (hmv.new_ (aQ.transNew hn)) (hsv.new_ (aQ.transNew hn))⟩) fun _=>rfl)<| .V (fun p k=>v_load rfl (k.fx 3 eG) (l_agg isAgg32 sizeOf32 (dR.new_ p) rfl))<| .o1 (cg rfl rfl rfl (fun _ _ k=>k.eq1 21 137 rfl) rfl (fun _ w hn k=>⟨#[vv v Av cv Bv dv],args1 (k.eq1 24 140 rfl),fun _=>by kernel_rfl,qbool_c v _ _ _ _ _ (hmv.new_ (aQ.transNew hn)) (hsv.new_ (aQ.transNew hn))⟩) fun _=>rfl)<| .V (fun p k=>v_bin rfl (k.eq1 23 139 rfl) (k.eq1 25 141 rfl) (fun _=>rfl) (self_eqlB _))<| .T (fun k=>v_pickT rfl (k.eq1 21 137 rfl) (k.eq1 26 142 rfl))<| .N 27<| .V (fun p k=>v_load rfl (k.fx 3 eG) (l_agg isAgg32 sizeOf32 (dR.new_ p) rfl))<| .V (fun p k=>v_load rfl (k.fx 4 lS) (l_agg isAgg32 sizeOf32 (hK.new_ p) rfl))<| .o1 (cg rfl rfl rfl (fun _ _ k=>k.eq1 28 144 rfl) rfl (fun _ w hn k=>⟨#[vv v Av cv Bv dv,vv v cI bR bS bT],args2 (k.eq1 29 145 rfl) (k.eq1 30 146 rfl),fun _=>by kernel_rfl,qsame_c v _ _ _ _ v _ _ _ _ _ (hmv.new_ (aQ.transNew hn)) (hsv.new_ (aQ.transNew hn)) (hL.new_ hn) (hM.new_ hn)⟩) fun _=>congrArg Value.bool (sameV_self _))<| .T (fun k=>v_pickT rfl (k.eq1 28 144 rfl) (k.eq1 31 147 rfl))<| .B 32 .nil
 refine aftI dQ hI aQ fun nY nZ mQ hQ hR mR hT=>?_
 have l1:=hT.g 33 2
 refine hP _ _<| wp_ret (ret_k hQ (v:=.bool true) (res_t rfl l1 _) ?_)
 exact⟨rfl,hR⟩
 have hU:h5.eval (.tmp 29)=.bool true:=h7.trans (congrArg Value.bool (by rw [bQ]; rfl))
 refine wt hU<| wk fun n0 hV=>?_
 refine wA tr2 [] 149 [vT,vT] ce ?_ ?_
 exact .o1 (ck rfl rfl rfl (fun _ w hn k=>⟨#[],rfl,fun _=>by kernel_rfl,first_c _⟩) fun _=>rfl)<| .B 0 .nil
 refine aftI ce dV bP fun n1 n2 mS hW hX mT hY=>?_
 have l2:=hY.g 1 2
 refine hV _ _<| wp_ret (ret_k hW (v:=.bool true) (res_t rfl l2 _) ?_)
 exact⟨rfl,hX⟩
end Go.Proofs.YtecgdgjlmlpcnaaGreatDoor
