import Derived.Test.YtecgdgjlmlpcnaaGreatDoorTlb
namespace Go.Proofs.YtecgdgjlmlpcnaaGreatDoor
open Go.RowKit
open Tryz
set_option linter.unusedSimpArgs false
set_option linter.unusedVariables false
set_option maxHeartbeats 16000000
set_option maxRecDepth 100000
theorem tnumber_c (Au:Option Addr) (u:List Nat) (cu:Nat) (w:World) (hru:SRow w .u16 Au u cu) (hu:U16s u):Calls prog 33 #[sv Au u cu] w (IsRet (.tuple #[nv ((numT u).1),.bool ((numT u).2)]) w):=by
 refine enter_abs func33 rfl fun a0 bV j4 hp=>?_
 have bV:a0.tmps.size=91:=bV
 have hL:New w w:=Upd.refl _ _
 have hp0:a0.eval (.tmp 0)=sv Au u cu:=hp 0 _ rfl
 have hmx:=hru.max
 refine wk fun K1 j5=>?_
 refine wB tr2 [] [] 91 [IsNew w 23 [iv 0,iv 0],vF] [0] bV ?_ heN ?_
 exact .Y<| .c .nil
 refine aftI bV j4 hL fun a2 w3 j6 j7 dA mT hM=>?_
 have h8:=hM.f1 hp0
 obtain⟨af,h9,hV,hW⟩:=hM.G 0 2
 have lj:=Nat.le_trans hL.size hV
 refine j5 _ _ ?_
 refine wp_seq_j (fun (aa:Act) (ww:World)=>∃ (A3:Option Addr),∃ (c3:Nat),aa.tmps.size=91∧aa.defers=[]∧New w ww∧aa.eval (.tmp 0)=sv A3 (u.dropWhile blankN) c3∧aa.eval (.tmp 2)=pv af∧Blk ww af 23 [iv 0,iv 0]∧SRow ww .u16 A3 (u.dropWhile blankN) c3) ?_ ?_
 rintro mU mV ⟨A3,c3,hX,hY,hZ,j8,j9,h3,h4⟩
 refine wp_seq_j (fun (aa:Act) (ww:World)=>∃ (A4:Option Addr),∃ (c4:Nat),aa.tmps.size=91∧aa.defers=[]∧New w ww∧aa.eval (.tmp 0)=sv A4 (trimN u) c4∧aa.eval (.tmp 2)=pv af∧Blk ww af 23 [iv 0,iv 0]∧SRow ww .u16 A4 (trimN u) c4) ?_ ?_
 rintro mW ka ⟨A4,c4,dB,h5,dC,kb,kc,dD,h6⟩
 have hut:=hu.trim
 refine wk fun mX h7=>?_
 refine wB [true,true,false] [] [(2,false)] 91 [ve (nv (Nm.mk 2 0)),IsNew ka 23 [iv 0,iv 0],vt] [1] dB ?_ heN ?_
 exact .T (fun k=>v_build (ps:=[(0,iv 2)]) rfl (parts1 rfl) (by kernel_rfl))<| .Y<| .off .nil
 refine aftI dB h5 dC fun mY mZ dE ia ib dF ba=>?_
 have⟨hN,kd⟩:=ba.f2 kb kc
 have ke:=ba.g 0 39
 obtain⟨bW,hO,dG,dH⟩:=ba.G 1 4
 have ic:=dD.new_ dF
 have hne48:af ≠ bW:=by have h1:=dD.lt; have h2:=dG; omega
 have lk:=Nat.le_trans dC.size dG
 have id:=h6.new_ dF
 refine sS2 hO ke dH fun m0 ie dI ig=>?_
 have ii:=id.fr dH dI
 have ij:=ig hne48 ic
 have ik:=ib.tR dI
 refine h7 _ _ <| wk fun m2 il=>?_
 refine wk fun m3 im=>?_
 refine wA tr3 [] 91 [ve (sv A4 (trimN u) c4),ve (iv ((trimN u).length:Int)),ve (.bool (decide (((trimN u).length:Int)=0)))] dE ?_ ?_
 exact .M hN<| .T (fun k=>v_lenR rfl elU (k.eq1 0 40 rfl))<| .b 1 (r_eql rfl) .nil
 refine aftI dE ia ik fun m4 m5 bb dJ dK bM bd=>?_
 have⟨dL,hP,kf⟩:=bd.f3 hN kd hO
 have hQ:=bd.g 2 42
 have⟨dM,io,dN⟩:=nw3 bM ij ie ii
 refine im _ _ ?_
 rcases bc (decide (((trimN u).length:Int)=0)) with ab|ab
 have eW:=oT ab
 have ip:=hB hQ ab
 refine wt ip<| wk fun m6 iq=>?_
 refine wA [true,false,false] [(1,false),(2,true)] 91 [ve (nv (Nm.mk 0 0)),vt,vt] bb ?_ ?_
 exact .Z<| .off<| .off .nil
 refine aftI bb dJ dK fun hR m7 dO ir it iu dP=>?_
 have hS:=dP.f1 hP
 have hT:=dP.g 0 43
 have iw:=dM.new_ iu
 refine sS2 hS hT iw fun m8 ix iy ll=>?_
 have iA:=it.tR iy
 refine sP (v:=.bool true) rfl dO ir fun kg k8 eY au iC=>?_
 have⟨iB,lm⟩:=au.q2 hS hT
 refine iq _ _<| wp_ret (ret_k eY (v:=.tuple #[nv (Nm.mk 0 0),.bool true]) (res_ct rfl iB iC (l_two isAgg23 sizeOf23 ix)) ?_)
 refine ⟨?_,iA⟩
 show Ending.returned (.tuple #[nv (Nm.mk 0 0),.bool true])=Ending.returned (.tuple #[nv ((numT u).1),.bool ((numT u).2)])
 first|rfl|(simp only [numT,bodyT,ab,bsm] <;> rfl)|(exfalso; omega)
 have eW:=oF ab
 have eZ:=hB hQ ab
 refine wf eZ<| ws<| il _ _<| wk fun ln e0=>?_
 refine wp_g0 [true,true,true,true,true,true,true] [] 91
  [ve (sv A4 (trimN u) c4),ve (sv A4 (trimN u) c4),
  (EP (.int .u16 (((trimN u).getD 0 0:Nat):Int))),ve (.int .u16 (((trimN u).getD 0 0:Nat):Int)),ve (.bool (decide ((((trimN u).getD 0 0:Nat):Int)=45))),ve (sv A4 (trimN u) c4),ve (.bool (decide ((((trimN u).getD 0 0:Nat):Int)=45)))] bb (.eq (.eq (.cons (fun _ _ _ n ⟨_,_,e,h⟩=>⟨_,_,e,h.new_ n⟩) (.eq (.eq (.eq (.eq .nil))))))) ?_ ?_
 refine .M dL<| .M dL ?_
 refine .o1 (tk rfl rfl fun _ w hn k=>(by
  exact x_eaddr (k:=.u16) rfl elU (k.eq1 1 45 rfl) rfl (dN.new_ hn) (by omega) fun b1 o2 hme=>⟨b1,o2,rfl,hme⟩)) ?_
 refine .o1 (tk rfl rfl fun _ w hn k=>(by
  obtain⟨b5,o6,e7,kh⟩:=k.G 2 46
  exact⟨_,v_load rfl e7 (l_one isAgg79 kh.1),rfl⟩)) ?_
 exact .b 3 (r_eql rfl)<| .B 0<| .B 4 .nil
 refine aftI bb dJ dK fun lo lp aT bX bY be aE=>?_
 have⟨bN,dQ,dR⟩:=aE.f3 dL hP kf
 have dS:=aE.g 5 5
 have dT:=aE.g 6 6
 have⟨bZ,b0,bf⟩:=nw3 be dM io dN
 refine e0 _ _ ?_
 refine wp_seq_j (fun (aa:Act) (ww:World)=>∃ (ng:Bool),∃ (dd:List Nat),∃ (A5:Option Addr),∃ (c5:Nat),aa.tmps.size=91∧aa.defers=[]∧New w ww∧aa.eval (.tmp 5)=sv A5 dd c5∧aa.eval (.tmp 6)=.bool ng∧aa.eval (.tmp 0)=sv A4 (trimN u) c4∧aa.eval (.tmp 2)=pv af∧aa.eval (.tmp 4)=pv bW∧Blk ww af 23 [iv 0,iv 0]∧Blk ww bW 23 [iv 2,iv 0]∧SRow ww .u16 A5 dd c5∧SRow ww .u16 A4 (trimN u) c4∧(numT u=bodyT (trimN u) dd ng)∧(U16s dd)) ?_ ?_
 rintro lq iD ⟨ng,dd,A5,c5,b2,e1,b4,iE,iF,iG,iH,dU,b6,bg,e2,e3,hbody,hdd⟩
 refine wk fun lr e4=>?_
 refine wB [true,true,true,true,true,false,false] [3] [(5,false),(6,true)] 91 [ve (nv (Nm.mk 2 0)),ve (sv A4 (trimN u) c4),ve (.bool (strangeN (trimN u))),ve (.bool (!(strangeN (trimN u)))),IsNew iD 23 [iv 0,iv 0],vt,vt] [4] b2 ?_ ?_ ?_
 refine .L2 dU bg<| .M iG<| .C 1 (fun p=>strange_c _ (trimN u) _ _ (e3.new_ p) hut) ?_
 refine .o3 ?_
 exact .Y<| .off<| .off .nil
 refine eg1 ?_
 exact eager_take rfl rfl fun _ w hn k=>⟨.bool (!(strangeN (trimN u))),fun w=>v_not rfl (k.eq1 2 60 rfl),rfl⟩
 refine aftI b2 e1 b4 fun dV ls b7 e5 e6 bh aj=>?_
 have⟨iI,iJ,iK,iL⟩:=aj.f4 iE iF iH dU
 have dW:=aj.g 0 58
 have dX:=aj.g 3 61
 obtain⟨bi,dY,bj,b8⟩:=aj.G 4 7
 have⟨e8,e9⟩:=nw2 bh b6 bg
 have hne156:af ≠ bi:=by have h1:=b6.lt; have h2:=bj; omega
 have hne157:bW ≠ bi:=by have h1:=bg.lt; have h2:=bj; omega
 have k9:=Nat.le_trans b4.size bj
 have fa:=e2.new_ bh
 refine sS2 dY dW b8 fun dZ fb b9 ca=>?_
 have cb:=fa.fr b8 b9
 have fd:=ca hne156 e8
 have fe:=ca hne157 e9
 have ff:=e6.tR b9
 refine sP dX b7 e5 fun iM cc fg ad iR=>?_
 have⟨d1,iN,iO⟩:=ad.q3 iI iJ iK
 have⟨iP,lv,lw⟩:=ad.q3 iL dW dX
 have iQ:=ad.q dY
 refine e4 _ _ ?_
 refine wp_seq_j (fun (aa:Act) (ww:World)=>∃ (na:Nm),∃ (ok:Bool),aa.tmps.size=91∧aa.defers=[]∧New w ww∧aa.eval (.tmp 8)=.bool ok∧aa.eval (.tmp 2)=pv af∧aa.eval (.tmp 6)=.bool ng∧aa.eval (.tmp 7)=pv bi∧Blk ww af 23 [iv 0,iv 0]∧Blk ww bi 23 [iv na.k,iv na.n]∧(numT u=(if ng then negM na else na,ok))) ?_ ?_
 rintro lx ly ⟨na,ok,cd,fh,fi,iS,iT,iU,iV,fj,fk,hfin⟩
 refine wk fun lz ce=>wk fun lA fl=>?_
 refine wA tr1 [] 91 [ve (.bool ng)] cd ?_ ?_
 exact .M iU .nil
 refine aftI cd fh fi fun lB lC aU cf ch ci aV=>?_
 have⟨d2,d3,bO⟩:=aV.f3 iS iT iV
 have d4:=aV.g 0 86
 have⟨cj,bk⟩:=nw2 ci fj fk
 refine fl _ _ ?_
 rcases bc (ng) with aF|aF
 have fm:=hB d4 aF
 refine wt fm<| wp_g0 [true,true,false] [(2,false)] 91
  [ve (nv na),ve (nv (negM na)),vt] aU (.eq (.eq (.tt .nil))) ?_ ?_
 exact .L2 bO bk<| .C 0 (fun p=>nneg_c na _)<| .off .nil
 refine aftI aU cf ch fun lD lE cl fn fo cm aW=>?_
 have⟨iW,iX,d5⟩:=aW.f3 d2 d3 bO
 have iY:=aW.g 1 88
 have⟨fp,fq⟩:=nw2 cm cj bk
 refine sS2 d5 iY fq fun lF fs ft fu=>?_
 have fw:=fu hne156 fp
 have fy:=fo.tR ft
 refine ce _ _ <| wk fun lH fz=>?_
 refine wB [true,true,false,false] [1] [(2,false),(3,true)] 91 [ve (nv (negM na)),ve (.bool ok),vt,vt] [] cl ?_ ?_ ?_
 refine .L2 d5 fs ?_
 refine .o3 ?_
 exact .off<| .off .nil
 refine eg1 ?_
 exact eager_take rfl rfl fun _ w hn k=>⟨.bool ok,fun w=>v_move rfl (k.fx 8 iW),rfl⟩
 refine aftI cl fn fy fun d7 lI cn fA fB fC bl=>?_
 have d8:=bl.f1 iX
 have d9:=bl.g 0 89
 have ea:=bl.g 1 90
 have fD:=fw.new_ fC
 refine sS2 d8 d9 fD fun lJ fE fF la=>?_
 have fH:=fB.tR fF
 refine sP ea cn fA fun iZ lc fI ak i1=>?_
 have⟨i0,lL,lM⟩:=ak.q3 d8 d9 ea
 refine fz _ _<| wp_ret (ret_k fI (v:=.tuple #[nv (negM na),.bool ok]) (res_ct rfl i0 i1 (l_two isAgg23 sizeOf23 fE)) ?_)
 refine ⟨?_,fH⟩
 show Ending.returned (.tuple #[nv (negM na),.bool ok])=Ending.returned (.tuple #[nv ((numT u).1),.bool ((numT u).2)])
 first|rfl|(simp only [hfin,ab,aF,bsm] <;> rfl)|(exfalso; omega)
 have fJ:=hB d4 aF
 refine wf fJ<| ws<| ce _ _<| wk fun lN fK=>?_
 refine wB [true,true,false,false] [1] [(2,false),(3,true)] 91 [ve (nv na),ve (.bool ok),vt,vt] [] aU ?_ ?_ ?_
 refine .L2 bO bk ?_
 refine .o3 ?_
 exact .off<| .off .nil
 refine eg1 ?_
 exact eager_take rfl rfl fun _ w hn k=>⟨.bool ok,fun w=>v_move rfl (k.fx 8 d2),rfl⟩
 refine aftI aU cf ch fun ec lO co fL fM fN bm=>?_
 have ed:=bm.f1 d3
 have ee:=bm.g 0 89
 have ef:=bm.g 1 90
 have fO:=cj.new_ fN
 refine sS2 ed ee fO fun lP fP fQ ld=>?_
 have fS:=fM.tR fQ
 refine sP ef co fL fun i2 le fT am i4=>?_
 have⟨i3,lR,lS⟩:=am.q3 ed ee ef
 refine fK _ _<| wp_ret (ret_k fT (v:=.tuple #[nv na,.bool ok]) (res_ct rfl i3 i4 (l_two isAgg23 sizeOf23 fP)) ?_)
 refine ⟨?_,fS⟩
 show Ending.returned (.tuple #[nv na,.bool ok])=Ending.returned (.tuple #[nv ((numT u).1),.bool ((numT u).2)])
 first|rfl|(simp only [hfin,ab,aF,bsm] <;> rfl)|(exfalso; omega)
 intro lT bn
 refine wb<| wk fun lU fU=>?_
 refine wp_g0 [true,true,true,true] [] 91
  [ve (sv A5 dd c5),
  (OP dZ.heap.size 79 .u16 (asc ⟨#[73,110,102,105,110,105,116,121]⟩)),ve (.bool (decide (dd=(asc ⟨#[73,110,102,105,110,105,116,121]⟩)))),ve (.bool (decide (dd=(asc ⟨#[73,110,102,105,110,105,116,121]⟩))))] cc (.eq (.cons (fun _ _ _ n ⟨_,_,e,h⟩=>⟨_,_,e,h.new_ n⟩) (.eq (.eq .nil)))) ?_ ?_
 refine .M d1 ?_
 refine .o1 (tkC rfl (noG rfl) rfl fun _ w hn k=>(by
  refine ⟨#[.string ⟨#[73,110,102,105,110,105,116,121]⟩],_,args1 rfl,fun w=>by kernel_rfl,ascii_c ⟨#[73,110,102,105,110,105,116,121]⟩ _ (by first|omega|(show (_:Nat)≤_; decide)),?_⟩
  rintro e w' ⟨A9,kk,rfl,hmo0,hm⟩
  exact⟨_,rfl,hm,⟨A9,kk,rfl,(hmo0.more hn.size)⟩⟩)) ?_
 refine .o1 (tkC rfl (noG rfl) rfl fun _ w hn k=>(by
  obtain⟨kl,km,kn,i5⟩:=k.G 1 64
  refine ⟨#[sv A5 dd c5,sv kl (asc ⟨#[73,110,102,105,110,105,116,121]⟩) km],_,args2 (k.eq1 0 63 rfl) kn,fun w=>by kernel_rfl,tsame_c _ dd _ _ (asc ⟨#[73,110,102,105,110,105,116,121]⟩) _ _ (cb.new_ hn) i5.row,?_⟩
  rintro e w' ⟨rfl,hm⟩
  exact⟨_,rfl,hm,rfl⟩)) ?_
 exact .B 2 .nil
 refine aftI cc fg ff fun lV lW aX cp cq aY an=>?_
 have⟨bP,eh,ei,i6⟩:=an.f4 d1 iN iO iP
 have⟨ej,ek⟩:=an.f2 iQ iR
 have el:=an.g 3 62
 have⟨cr,fV,ct,cv⟩:=nw4 aY fd fe fb cb
 refine fU _ _ ?_
 rcases bc (decide (dd=(asc ⟨#[73,110,102,105,110,105,116,121]⟩))) with ac|ac
 have em:=oT ac
 have fW:=hB el ac
 refine wt fW<| wp_g0 [true,false] [(1,false)] 91
  [ve (nv (Nm.mk 3 0)),vt] aX (.eq (.tt .nil)) ?_ ?_
 exact .T (fun k=>v_build (ps:=[(0,iv 3)]) rfl (parts1 rfl) (by kernel_rfl))<| .off .nil
 refine aftI aX cp cq fun lX lY fX fY fZ cw aG=>?_
 have⟨i7,i8,en,i9⟩:=aG.f4 eh ei ej ek
 have ja:=aG.g 0 66
 have⟨f0,f1⟩:=nw2 cw cr ct
 refine sS2 en ja f1 fun lZ f2 f3 f4=>?_
 have f6:=f4 hne156 f0
 have f7:=fZ.tR f3
 refine st_nil ?_
 exact bn _ _ ⟨(Nm.mk 3 0),(!(strangeN (trimN u))),fX,fY,f7,i9,i8,i7,en,f6,f2,(by rw [hbody]; unfold bodyT; first|(simp only [ab,ac,bsm] <;> rfl)|(simp [ab,ac]; done))⟩
 have em:=oF ac
 have f8:=hB el ac
 refine wf f8<| wk fun l1 f9=>?_
 refine wA tr9 [] 91 [ve (sv A5 dd c5),ve (iv (dd.length:Int)),ve (.bool (!decide ((dd.length:Int)≤0))),ve (.bool (!decide ((dd.length:Int)≤0))),ve (gq (!decide ((dd.length:Int)≤0)) (sv A5 dd c5)),ve (gq (!decide ((dd.length:Int)≤0)) (.bool (dd.any (fun y:Nat=>!dgtN y)))),ve (gq (!decide ((dd.length:Int)≤0)) (.bool (!(dd.any (fun y:Nat=>!dgtN y))))),ve (.bool ((!decide ((dd.length:Int)≤0)) && (!(dd.any (fun y:Nat=>!dgtN y))))),ve (.bool ((!decide ((dd.length:Int)≤0)) && (!(dd.any (fun y:Nat=>!dgtN y)))))] aX ?_ ?_
 exact .M bP<| .T (fun k=>v_lenR rfl elU (k.eq1 0 68 rfl))<| .b 1 (r_gtrK rfl)<| .N 2<| .Q (fun k=>g0 (k.eq1 3 71 rfl)) (fun hG p k=>v_move rfl (k.fx 5 bP))<| .o1 (scC (G:=(!decide ((dd.length:Int)≤0))) rfl rfl rfl (fun _ _ k=>g0 (k.eq1 3 71 rfl)) rfl (fun hG _ w hn k=>⟨#[sv A5 dd c5,.func (.func 67) #[] #[]],args2 (cT hG (k.eq1 4 72 rfl)) rfl,fun _=>by kernel_rfl,containsf_c _ dd _ _ (cv.new_ hn) hdd⟩))<| .Q (fun k=>g0 (k.eq1 3 71 rfl)) (fun hG p k=>v_not rfl (cT hG (k.eq1 5 73 rfl)))<| .O 3 6<| .B 7 .nil
 refine aftI aX cp cq fun l2 l3 bo cx cy aZ ao=>?_
 have⟨jb,ep,er,jc⟩:=ao.f4 bP eh ei i6
 have⟨es,jd⟩:=ao.f2 ej ek
 have et:=ao.g 8 67
 have⟨cz,ga,cA,gb⟩:=nw4 aZ cr fV ct cv
 refine f9 _ _ ?_
 rcases bc (((!decide ((dd.length:Int)≤0)) && (!(dd.any (fun y:Nat=>!dgtN y))))) with ae|ae
 have gc:=hB et ae
 have aH:(!decide ((dd.length:Int)≤0))=true:=al ae
 have aI:(decide ((dd.length:Int)≤0))=false:=nF aH
 have ko:=oF aI
 have aJ:(!(dd.any (fun y:Nat=>!dgtN y)))=true:=ar ae
 have aK:(dd.any (fun y:Nat=>!dgtN y))=false:=nF aJ
 refine wt gc<| wk fun l4 gd=>?_
 refine wA tr7 [] 91 [ve (sv A5 dd c5),ve (.tuple #[iv ((valR dd 0).1),.bool ((valR dd 0).2)]),ve (.tuple #[iv ((valR dd 0).1),.bool ((valR dd 0).2)]),ve (iv ((valR dd 0).1)),ve (.bool ((valR dd 0).2)),ve (iv ((valR dd 0).1)),ve (.bool ((valR dd 0).2))] bo ?_ ?_
 exact .M jb<| .C 0 (fun p=>value_c _ dd _ _ (gb.new_ p) hdd (digs_of aK))<| .N 1<| .E 2<| .E 2<| .B 3<| .B 4 .nil
 refine aftI bo cx cy fun l5 l6 cB gf gg bp av=>?_
 have⟨je,jf,jg,jh⟩:=av.f4 ep er jc es
 have ji:=av.g 5 9
 have jj:=av.g 6 10
 have⟨gh,gi,gj⟩:=nw3 bp cz ga cA
 refine gd _ _ <| wk fun l7 gk=>?_
 refine wk fun l8 gl=>?_
 refine wA tr2 [] 91 [ve (.bool ((valR dd 0).2)),ve (.bool (!((valR dd 0).2)))] cB ?_ ?_
 exact .M jj<| .T (fun k=>v_not rfl (k.eq1 0 81 rfl)) .nil
 refine aftI cB gf gg fun l9 ma a1 cC cD bq aw=>?_
 have⟨jk,eu,jl,jm⟩:=aw.f4 je jf jg jh
 have jn:=aw.f1 ji
 have ev:=aw.g 1 82
 have⟨cE,gn,go⟩:=nw3 bq gh gi gj
 refine gl _ _ ?_
 rcases bc ((!((valR dd 0).2))) with ag|ag
 have gp:=hB ev ag
 have cF:((valR dd 0).2)=false:=nF ag
 refine wt gp<| wk fun mb gr=>?_
 refine wA [true,false,false] [(1,false),(2,true)] 91 [ve (nv (Nm.mk 2 0)),vt,vt] a1 ?_ ?_
 exact .L2 jl gn<| .off<| .off .nil
 refine aftI a1 cC cD fun ew mc cG gs gt gu cH=>?_
 have ex:=cH.f1 eu
 have ey:=cH.g 0 83
 have gv:=cE.new_ gu
 refine sS2 ex ey gv fun md gw gx lf=>?_
 have gz:=gt.tR gx
 refine sP (v:=.bool false) rfl cG gs fun jo lg gA ax jq=>?_
 have⟨jp,mf⟩:=ax.q2 ex ey
 refine gr _ _<| wp_ret (ret_k gA (v:=.tuple #[nv (Nm.mk 2 0),.bool false]) (res_ct rfl jp jq (l_two isAgg23 sizeOf23 gw)) ?_)
 refine ⟨?_,gz⟩
 show Ending.returned (.tuple #[nv (Nm.mk 2 0),.bool false])=Ending.returned (.tuple #[nv ((numT u).1),.bool ((numT u).2)])
 first|rfl|(simp only [hbody,bodyT,ab,ac,ae,aH,aH,aI,aI,aJ,aJ,aK,aK,ag,cF,cF,bsm] <;> rfl)|(exfalso; omega)
 have gB:=hB ev ag
 have cI:((valR dd 0).2)=true:=nT ag
 refine wf gB<| ws<| gk _ _<| wA [true,true,false,false] [(2,false),(3,true)] 91 [ve (iv ((valR dd 0).1)),ve (nv (Nm.mk 0 ((valR dd 0).1))),vt,vt] a1 ?_ ?_
 exact .M jn<| .T (fun k=>v_build (ps:=[(1,iv ((valR dd 0).1))]) rfl (parts1 (k.eq1 0 84 rfl)) (by kernel_rfl))<| .off<| .off .nil
 refine aftI a1 cC cD fun eA mg cJ gC gD cK a3=>?_
 have⟨jr,js,eB⟩:=a3.f3 jk eu jm
 have eC:=a3.g 1 85
 have⟨gE,gF⟩:=nw2 cK cE go
 refine sS2 eB eC gF fun mh gG gH gI=>?_
 have gK:=gI hne156 gE
 have gL:=gD.tR gH
 refine sP (v:=.bool true) rfl cJ gC fun jt gM gN ah jx=>?_
 have⟨ju,jv,jw⟩:=ah.q3 jr js eB
 have mj:=ah.q eC
 refine st_nil ?_
 exact bn _ _ ⟨(Nm.mk 0 (valR dd 0).1),true,gM,gN,gL,jx,jv,ju,jw,gK,gG,(by rw [hbody]; unfold bodyT; first|(simp only [ab,ac,ae,aH,aI,aJ,aK,ag,cI,bsm] <;> rfl)|(simp [ab,ac,ae,aH,aI,aJ,aK,ag,cI]; done))⟩
 have gO:=hB et ae
 refine wf gO<| ws<| bn _ _ ⟨(Nm.mk 2 0),(!(strangeN (trimN u))),bo,cx,cy,jd,er,ep,es,cz,cA,(by rw [hbody]; unfold bodyT; first|(simp only [ab,ac,ae,bsm] <;> rfl)|(simp [ab,ac,ae]; done))⟩
 intro ml br
 refine wk fun mn cL=>?_
 rcases bc (decide ((((trimN u).getD 0 0:Nat):Int)=45)) with ai|ai
 have eE:=oT ai
 have cM:=hB dT ai
 refine wA tr7 [] 91 [vT,vT,vU,vU,vU,vU,vT] aT ?_ ?_
 exact .M cM<| .N 0<| .S<| .S<| .S<| .S<| .T (fun k=>v_pickT rfl (k.eq1 1 50 rfl) rfl) .nil
 refine aftI aT bX bY fun mo mp cN gP gQ bs ay=>?_
 have⟨eF,jy,jz,mq⟩:=ay.f4 bN dQ dR dS
 have jA:=ay.f1 cM
 have jB:=ay.g 6 55
 have⟨gR,gS,cO⟩:=nw3 bs bZ b0 bf
 refine cL _ _<| wt jB<| wp_g0 [true,true,true] [] 91
  [ve (sv A4 (trimN u) c4),
  (RP .u16 ((trimN u).drop 1)),
  (RP .u16 ((trimN u).drop 1))] cN (.eq (.cons (fun _ _ _ n ⟨_,_,e,h⟩=>⟨_,_,e,h.new_ n⟩) (.cons (fun _ _ _ n ⟨_,_,e,h⟩=>⟨_,_,e,h.new_ n⟩) .nil))) ?_ ?_
 refine .M eF ?_
 refine .o1 (tk rfl rfl fun _ w hn k=>(by
  exact x_cutL (k:=.u16) rfl elU (k.eq1 0 56 rfl) rfl (cO.new_ hn) (by omega) fun kt ku hmr=>⟨kt,ku,rfl,hmr⟩)) ?_
 refine .o1 (tk rfl rfl fun _ w hn k=>(by
  obtain⟨kv,kw,kx,jC⟩:=k.G 1 57
  exact⟨_,v_assign rfl kx,⟨kv,kw,rfl,jC⟩⟩)) ?_
 exact .nil
 refine aftI cN gP gQ fun jD mr gT gU gV bt aL=>?_
 have⟨jE,jF,jG,jH⟩:=aL.f4 eF jy jz jA
 obtain⟨eG,cP,bQ,gW⟩:=aL.G 2 5
 have bQ:jD.eval (.tmp 5)=sv eG ((trimN u).drop 1) cP:=bQ
 have⟨gX,gY,gZ⟩:=nw3 bt gR gS cO
 refine st_nil ?_
 exact br _ _ ⟨true,((trimN u).drop 1),eG,cP,gT,gU,gV,bQ,jH,jE,jF,jG,gX,gY,gW,gZ,(by unfold numT; simp only [ab,ai,bsm]),(hut.drop 1)⟩
 have eE:=oF ai
 have cQ:=hB dT ai
 refine wp_g0 [true,true,true,true,true,true,true] [] 91
  [vF,vF,ve (sv A4 (trimN u) c4),
  (EP (.int .u16 (((trimN u).getD 0 0:Nat):Int))),ve (.int .u16 (((trimN u).getD 0 0:Nat):Int)),ve (.bool (decide ((((trimN u).getD 0 0:Nat):Int)=43))),ve (.bool (decide ((((trimN u).getD 0 0:Nat):Int)=43)))] aT (.eq (.eq (.eq (.cons (fun _ _ _ n ⟨_,_,e,h⟩=>⟨_,_,e,h.new_ n⟩) (.eq (.eq (.eq .nil))))))) ?_ ?_
 refine .M cQ<| .N 0<| .gm (fun k=>k.eq1 1 50 rfl) (fun k=>k.fx 0 bN) ?_
 refine .o1 (tg rfl rfl rfl (fun _ _ k=>k.eq1 1 50 rfl) fun _ w hn k=>(by
  exact x_eaddr (k:=.u16) rfl elU (k.eq1 2 51 rfl) rfl (bf.new_ hn) (by omega) fun kA kB hme=>⟨kA,kB,rfl,hme⟩)) ?_
 refine .o1 (tg rfl rfl rfl (fun _ _ k=>k.eq1 1 50 rfl) fun _ w hn k=>(by
  obtain⟨nb,nc,kC,jI⟩:=k.G 3 52
  exact⟨_,v_load rfl kC (l_one isAgg79 jI.1),rfl⟩)) ?_
 exact .V (fun p k=>v_bin rfl (k.eq1 4 53 rfl) rfl (fun _=>rfl) (r_eql rfl))<| .T (fun k=>v_pickF rfl (k.eq1 1 50 rfl) (k.eq1 5 54 rfl)) .nil
 refine aftI aT bX bY fun ms mt bu cR cS bv az=>?_
 have⟨bR,eH,eI,jJ⟩:=az.f4 bN dQ dR dS
 have eJ:=az.f1 cQ
 have eK:=az.g 6 55
 have⟨cU,cV,a4⟩:=nw3 bv bZ b0 bf
 refine cL _ _ ?_
 rcases bc (decide ((((trimN u).getD 0 0:Nat):Int)=43)) with ap|ap
 have eL:=oT ap
 have g1:=hB eK ap
 refine wt g1<| wp_g0 [true,true,true] [] 91
  [ve (sv A4 (trimN u) c4),
  (RP .u16 ((trimN u).drop 1)),
  (RP .u16 ((trimN u).drop 1))] bu (.eq (.cons (fun _ _ _ n ⟨_,_,e,h⟩=>⟨_,_,e,h.new_ n⟩) (.cons (fun _ _ _ n ⟨_,_,e,h⟩=>⟨_,_,e,h.new_ n⟩) .nil))) ?_ ?_
 refine .M bR ?_
 refine .o1 (tk rfl rfl fun _ w hn k=>(by
  exact x_cutL (k:=.u16) rfl elU (k.eq1 0 56 rfl) rfl (a4.new_ hn) (by omega) fun kH kI hmr=>⟨kH,kI,rfl,hmr⟩)) ?_
 refine .o1 (tk rfl rfl fun _ w hn k=>(by
  obtain⟨kJ,kK,kL,jK⟩:=k.G 1 57
  exact⟨_,v_assign rfl kL,⟨kJ,kK,rfl,jK⟩⟩)) ?_
 exact .nil
 refine aftI bu cR cS fun jL mu g2 g3 g4 bw aM=>?_
 have⟨jM,jN,jO,jP⟩:=aM.f4 bR eH eI eJ
 obtain⟨eM,cW,bS,g5⟩:=aM.G 2 5
 have bS:jL.eval (.tmp 5)=sv eM ((trimN u).drop 1) cW:=bS
 have⟨g6,g7,g8⟩:=nw3 bw cU cV a4
 refine st_nil ?_
 exact br _ _ ⟨false,((trimN u).drop 1),eM,cW,g2,g3,g4,bS,jP,jM,jN,jO,g6,g7,g5,g8,(by unfold numT; simp only [ab,ai,ap,bsm]),(hut.drop 1)⟩
 have eL:=oF ap
 have g9:=hB eK ap
 refine wf g9<| ws<| br _ _ ⟨false,(trimN u),A4,c4,bu,cR,cS,jJ,eJ,bR,eH,eI,cU,cV,a4,a4,(by unfold numT; simp only [ab,ai,ap,bsm]),hut⟩
 intro mv cX
 refine wb<| wp_loopX (fun (mm:Nat) (aa:Act) (ww:World)=>∃ (cu2:List Nat) (A2:Option Addr) (c2:Nat),mm=cu2.length∧aa.tmps.size=91∧aa.defers=[]∧New w ww∧aa.eval (.tmp 0)=sv A2 cu2 c2∧aa.eval (.tmp 2)=pv af∧Blk ww af 23 [iv 0,iv 0]∧SRow ww .u16 A2 cu2 c2∧(rtrimN cu2=trimN u)∧(U16s cu2)) (fun mm=>mm) ⟨_,⟨(u.dropWhile blankN),A3,c3,rfl,hX,hY,hZ,j8,j9,h3,h4,rfl,(hu.dw _)⟩⟩ ?_
 rintro mm mw mx ⟨cu2,A2,c2,hmm,a5,cY,cZ,aQ,eN,c0,aN,hc2,hcu2⟩
 refine wk fun my ha=>wk fun mz c6=>?_
 have hix2:((cu2.length:Int) - 1).toNat=cu2.length - 1:=by omega
 rcases bc ((!decide ((cu2.length:Int)≤0))) with bx|bx
 have c8:(decide ((cu2.length:Int)≤0))=false:=nF bx
 have kM:=oF c8
 have hb:=hcu2.at16 ((cu2.length:Int) - 1).toNat
 have hU:=aN.max
 refine wp_g0 (.replicate 12 true) [] 91
  [ve (sv A2 cu2 c2),ve (iv (cu2.length:Int)),vT,vT,ve (sv A2 cu2 c2),ve (sv A2 cu2 c2),ve (iv (cu2.length:Int)),ve (iv ((cu2.length:Int) - 1)),
  (EP (.int .u16 ((cu2.getD (((cu2.length:Int) - 1:Int).toNat) 0:Nat):Int))),ve (.int .u16 ((cu2.getD (((cu2.length:Int) - 1:Int).toNat) 0:Nat):Int)),ve (.bool (blankN (cu2.getD (((cu2.length:Int) - 1:Int).toNat) 0))),ve (.bool (blankN (cu2.getD (((cu2.length:Int) - 1:Int).toNat) 0)))] a5 (.eq (.eq (.eq (.eq (.eq (.eq (.eq (.eq (.cons (fun _ _ _ n ⟨_,_,e,h⟩=>⟨_,_,e,h.new_ n⟩) (.eq (.eq (.eq .nil)))))))))))) ?_ ?_
 refine .M aQ<| .T (fun k=>v_lenR rfl elU (k.eq1 0 22 rfl))<| .b 1 (r_gtrK c8)<| .N 2<| .gm (fun k=>k.eq1 3 25 rfl) (fun k=>k.fx 0 aQ)<| .gm (fun k=>k.eq1 3 25 rfl) (fun k=>k.fx 0 aQ)<| .V (fun p k=>v_lenR rfl elU (k.eq1 5 27 rfl))<| .V (fun p k=>v_bin rfl (k.eq1 6 28 rfl) rfl (fun _=>rfl) (r_sub rfl (by omega))) ?_
 refine .o1 (tg rfl rfl rfl (fun _ _ k=>k.eq1 3 25 rfl) fun _ w hn k=>(by
  exact x_eaddr (k:=.u16) rfl elU (k.eq1 4 26 rfl) (k.eq1 7 29 rfl) (aN.new_ hn) (by omega) fun kP kQ hme=>⟨kP,kQ,rfl,hme⟩)) ?_
 refine .o1 (tg rfl rfl rfl (fun _ _ k=>k.eq1 3 25 rfl) fun _ w hn k=>(by
  obtain⟨nd,ne,kR,jQ⟩:=k.G 8 30
  exact⟨_,v_load rfl kR (l_one isAgg79 jQ.1),rfl⟩)) ?_
 exact .o1 (cg rfl rfl rfl (fun _ _ k=>k.eq1 3 25 rfl) rfl (fun _ w hn k=>⟨#[.int .u16 ((cu2.getD (((cu2.length:Int) - 1:Int).toNat) 0:Nat):Int)],args1 (k.eq1 9 31 rfl),fun _=>by kernel_rfl,blank_c (cu2.getD (((cu2.length:Int) - 1:Int).toNat) 0) _ (by omega)⟩) fun _=>rfl)<| .T (fun k=>v_pickT rfl (k.eq1 3 25 rfl) (k.eq1 10 32 rfl)) .nil
 refine aftI a5 cY cZ fun mA mB bz c9 da db bA=>?_
 have⟨a8,eO⟩:=bA.f2 aQ eN
 have eP:=bA.g 11 33
 have⟨dc,aO⟩:=nw2 db c0 aN
 refine c6 _ _ ?_
 rcases bc (blankN (cu2.getD (((cu2.length:Int) - 1:Int).toNat) 0)) with aq|aq
 have hc:=hB eP aq
 refine wt hc<| ws<| ha _ _<| wb ?_
 have hU:=aO.max
 refine wp_g0 [true,true,true,true,true,false] [(5,true)] 91
  [ve (sv A2 cu2 c2),ve (sv A2 cu2 c2),ve (iv (cu2.length:Int)),ve (iv ((cu2.length:Int) - 1)),
  (RP .u16 (cu2.take (((cu2.length:Int) - 1:Int).toNat))),vt] bz (.eq (.eq (.eq (.eq (.cons (fun _ _ _ n ⟨_,_,e,h⟩=>⟨_,_,e,h.new_ n⟩) (.tt .nil)))))) ?_ ?_
 refine .M a8<| .M a8<| .T (fun k=>v_lenR rfl elU (k.eq1 1 35 rfl))<| .R (fun k=>v_bin rfl (k.eq1 2 36 rfl) rfl (fun _=>rfl) (r_sub rfl (by omega))) (fun _=>rfl) ?_
 refine .o1 (tk rfl rfl fun _ w hn k=>(by
  exact x_cutH (k:=.u16) rfl elU (k.eq1 0 34 rfl) (k.eq1 3 37 rfl) (aO.new_ hn) (by omega) fun kU kV hmr=>⟨kU,kV,rfl,hmr⟩)) ?_
 exact .off .nil
 refine aftI bz c9 da fun bT mC de hd hf df bB=>?_
 have⟨mD,jR⟩:=bB.f2 a8 eO
 obtain⟨aR,aA,bC,hh⟩:=bB.G 4 38
 have bC:bT.eval (.tmp 38)=sv aR (cu2.take (((cu2.length:Int) - 1:Int).toNat)) aA:=bC
 have⟨hi,lh⟩:=nw2 df dc aO
 refine sP bC de hd fun jS hj hl aB jU=>?_
 have⟨jT,mE⟩:=aB.q2 jR bC
 refine st_nil ?_
 refine blk_n ?_
 refine then_n ?_
 exact⟨_,⟨(cu2.take (((cu2.length:Int) - 1:Int).toNat)),aR,aA,rfl,hj,hl,hf,jU,jT,hi,hh,(by rw [hix2]; rw [hix2] at aq; exact (rt_step (by omega) aq).trans hc2),(hcu2.take _)⟩,(by rw [List.length_take]; omega)⟩
 have ho:=hB eP aq
 refine wf ho<| wp_exit ?_
 rw [hix2] at aq
 have hrt:=rt_end (l:=cu2) (Or.inr ⟨by omega,aq⟩)
 have he587:cu2=(trimN u):=hrt.symm.trans hc2
 rw [he587] at a8
 rw [he587] at aO
 exact cX _ _ ⟨A2,c2,bz,c9,da,a8,eO,dc,aO⟩
 have dg:(decide ((cu2.length:Int)≤0))=true:=nT bx
 have kW:=oT dg
 have hb:=hcu2.at16 ((cu2.length:Int) - 1).toNat
 have hU:=aN.max
 refine wA tr12 [] 91 [ve (sv A2 cu2 c2),ve (iv (cu2.length:Int)),vF,vF,vU,vU,vU,vU,vU,vU,vU,vF] a5 ?_ ?_
 exact .M aQ<| .T (fun k=>v_lenR rfl elU (k.eq1 0 22 rfl))<| .b 1 (r_gtrK dg)<| .N 2<| .S<| .S<| .S<| .S<| .S<| .S<| .S<| .T (fun k=>v_pickF rfl (k.eq1 3 25 rfl) rfl) .nil
 refine aftI a5 cY cZ fun mF mG hr hs ht dh bD=>?_
 have⟨eQ,jV⟩:=bD.f2 aQ eN
 have jW:=bD.g 11 33
 have⟨hv,di⟩:=nw2 dh c0 aN
 refine c6 _ _<| wf jW<| wp_exit ?_
 have hrt:=rt_end (l:=cu2) (Or.inl (by omega))
 have he601:cu2=(trimN u):=hrt.symm.trans hc2
 rw [he601] at eQ
 rw [he601] at di
 exact cX _ _ ⟨A2,c2,hr,hs,ht,eQ,jV,hv,di⟩
 intro mH dj
 refine wb<| wp_loopX (fun (mm:Nat) (aa:Act) (ww:World)=>∃ (cur:List Nat) (A1:Option Addr) (c1:Nat),mm=cur.length∧aa.tmps.size=91∧aa.defers=[]∧New w ww∧aa.eval (.tmp 0)=sv A1 cur c1∧aa.eval (.tmp 2)=pv af∧Blk ww af 23 [iv 0,iv 0]∧SRow ww .u16 A1 cur c1∧(cur.dropWhile blankN=u.dropWhile blankN)∧(U16s cur)) (fun mm=>mm) ⟨_,⟨u,Au,cu,rfl,j6,j7,dA,h8,h9,hW,(hru.new_ dA),rfl,hu⟩⟩ ?_
 rintro mm mI mJ ⟨cur,A1,c1,hmm,a6,dk,dl,a9,eR,dm,bE,hcd,hcu⟩
 refine wk fun mK hw=>wk fun mL dn=>?_
 rcases bc ((!decide ((cur.length:Int)≤0))) with bF|bF
 have dp:(decide ((cur.length:Int)≤0))=false:=nF bF
 have kX:=oF dp
 have hb:=hcu.at16 0
 refine wp_g0 (.replicate 9 true) [] 91
  [ve (sv A1 cur c1),ve (iv (cur.length:Int)),vT,vT,ve (sv A1 cur c1),
  (EP (.int .u16 ((cur.getD 0 0:Nat):Int))),ve (.int .u16 ((cur.getD 0 0:Nat):Int)),ve (.bool (blankN (cur.getD 0 0))),ve (.bool (blankN (cur.getD 0 0)))] a6 (.eq (.eq (.eq (.eq (.eq (.cons (fun _ _ _ n ⟨_,_,e,h⟩=>⟨_,_,e,h.new_ n⟩) (.eq (.eq (.eq .nil))))))))) ?_ ?_
 refine .M a9<| .T (fun k=>v_lenR rfl elU (k.eq1 0 11 rfl))<| .b 1 (r_gtrK dp)<| .N 2<| .gm (fun k=>k.eq1 3 14 rfl) (fun k=>k.fx 0 a9) ?_
 refine .o1 (tg rfl rfl rfl (fun _ _ k=>k.eq1 3 14 rfl) fun _ w hn k=>(by
  exact x_eaddr (k:=.u16) rfl elU (k.eq1 4 15 rfl) rfl (bE.new_ hn) (by omega) fun k0 k1 hme=>⟨k0,k1,rfl,hme⟩)) ?_
 refine .o1 (tg rfl rfl rfl (fun _ _ k=>k.eq1 3 14 rfl) fun _ w hn k=>(by
  obtain⟨nf,nh,k2,jX⟩:=k.G 5 16
  exact⟨_,v_load rfl k2 (l_one isAgg79 jX.1),rfl⟩)) ?_
 exact .o1 (cg rfl rfl rfl (fun _ _ k=>k.eq1 3 14 rfl) rfl (fun _ w hn k=>⟨#[.int .u16 ((cur.getD 0 0:Nat):Int)],args1 (k.eq1 6 17 rfl),fun _=>by kernel_rfl,blank_c (cur.getD 0 0) _ (by omega)⟩) fun _=>rfl)<| .T (fun k=>v_pickT rfl (k.eq1 3 14 rfl) (k.eq1 7 18 rfl)) .nil
 refine aftI a6 dk dl fun mM mN bG dq dr ds bH=>?_
 have⟨bI,eS⟩:=bH.f2 a9 eR
 have eT:=bH.g 8 19
 have⟨dt,a7⟩:=nw2 ds dm bE
 refine dn _ _ ?_
 rcases bc (blankN (cur.getD 0 0)) with aP|aP
 have hx:=hB eT aP
 refine wt hx<| ws<| hw _ _<| wb<| wp_g0 [true,true,false] [(2,true)] 91
  [ve (sv A1 cur c1),
  (RP .u16 (cur.drop 1)),vt] bG (.eq (.cons (fun _ _ _ n ⟨_,_,e,h⟩=>⟨_,_,e,h.new_ n⟩) (.tt .nil))) ?_ ?_
 refine .M bI ?_
 refine .o1 (tk rfl rfl fun _ w hn k=>(by
  exact x_cutL (k:=.u16) rfl elU (k.eq1 0 20 rfl) rfl (a7.new_ hn) (by omega) fun k5 k6 hmr=>⟨k5,k6,rfl,hmr⟩)) ?_
 exact .off .nil
 refine aftI bG dq dr fun bU mO du hy hz dv bJ=>?_
 have⟨mP,jY⟩:=bJ.f2 bI eS
 obtain⟨aS,aC,bK,hA⟩:=bJ.G 1 21
 have bK:bU.eval (.tmp 21)=sv aS (cur.drop 1) aC:=bK
 have⟨hC,li⟩:=nw2 dv dt a7
 refine sP bK du hy fun jZ hD hE aD j1=>?_
 have⟨j0,mQ⟩:=aD.q2 jY bK
 refine st_nil ?_
 refine blk_n ?_
 refine then_n ?_
 exact⟨_,⟨(cur.drop 1),aS,aC,rfl,hD,hE,hz,j1,j0,hC,hA,((dw_step (by omega) aP).trans hcd),(hcu.drop 1)⟩,(by rw [List.length_drop]; omega)⟩
 have hF:=hB eT aP
 refine wf hF<| wp_exit ?_
 have hdw:=dw_end (l:=cur) (Or.inr aP)
 have he653:cur=(u.dropWhile blankN):=hdw.symm.trans hcd
 rw [he653] at bI
 rw [he653] at a7
 exact dj _ _ ⟨A1,c1,bG,dq,dr,bI,eS,dt,a7⟩
 have dx:(decide ((cur.length:Int)≤0))=true:=nT bF
 have k7:=oT dx
 have hb:=hcu.at16 0
 refine wA tr9 [] 91 [ve (sv A1 cur c1),ve (iv (cur.length:Int)),vF,vF,vU,vU,vU,vU,vF] a6 ?_ ?_
 exact .M a9<| .T (fun k=>v_lenR rfl elU (k.eq1 0 11 rfl))<| .b 1 (r_gtrK dx)<| .N 2<| .S<| .S<| .S<| .S<| .T (fun k=>v_pickF rfl (k.eq1 3 14 rfl) rfl) .nil
 refine aftI a6 dk dl fun mR mS hH hI hJ dy bL=>?_
 have⟨eU,j2⟩:=bL.f2 a9 eR
 have j3:=bL.g 8 19
 have⟨hK,dz⟩:=nw2 dy dm bE
 refine dn _ _<| wf j3<| wp_exit ?_
 have hdw:=dw_end (l:=cur) (Or.inl (by omega))
 have he667:cur=(u.dropWhile blankN):=hdw.symm.trans hcd
 rw [he667] at eU
 rw [he667] at dz
 exact dj _ _ ⟨A1,c1,hH,hI,hJ,eU,j2,hK,dz⟩
theorem cnumber_c (v:Vl) (Av:Option Addr) (cv:Nat) (Bv:Option Addr) (dv:Nat) (w:World) (hmv:SRow w .u32 Av v.mag cv) (hsv:SRow w .u16 Bv v.s dv) (hvv:VOk v):Calls prog 8 #[vv v Av cv Bv dv] w (IsRet (.tuple #[nv ((numberV v).1),iv ((numberV v).2)]) w):=by
 refine enter_abs func8 rfl fun a0 aY gh hp=>?_
 have aY:a0.tmps.size=37:=aY
 have bG:New w w:=Upd.refl _ _
 have hp0:a0.eval (.tmp 0)=vv v Av cv Bv dv:=hp 0 _ rfl
 refine wk fun K1 gi=>?_
 refine wB tr3 [] [] 37 [IsNew w 29 (c7 v Av cv Bv dv),IsNew w 23 [iv 0,iv 0],ve (iv 0)] [0,1] aY ?_ heN ?_
 exact .X hp0<| .Y<| .c .nil
 refine aftI aY gh bG fun a2 w3 eX gj aS hQ bH=>?_
 obtain⟨q9,h8,e7,bI⟩:=bH.G 0 1
 obtain⟨eY,eZ,e8,e9⟩:=bH.G 1 2
 have hne16:=bH.ne 0 1 1 2 h8 eZ
 have gH:=Nat.le_trans bG.size e7
 have gI:=Nat.le_trans bG.size e8
 refine gi _ _ <| wk fun hR fa=>?_
 refine wp_g0 [true,true,false] [(2,false)] 37
  [ve (vv v Av cv Bv dv),
  (VP (cleanV v)),vt] eX (.eq (.cons (fun _ _ _ n ⟨_,_,_,_,e,h,i⟩=>⟨_,_,_,_,e,h.new_ n,i.new_ n⟩) (.tt .nil))) ?_ ?_
 refine .L9 h8 bI ?_
 refine .o1 (tkC rfl (noG rfl) rfl fun _ w hn k=>(by
  refine ⟨#[vv v Av cv Bv dv],_,args1 (k.eq1 0 6 rfl),fun w=>by kernel_rfl,clean_c v _ _ _ _ _ (hmv.new_ (aS.transNew hn)) (hsv.new_ (aS.transNew hn)),?_⟩
  rintro e w' ⟨A1,c2,A3,c4,rfl,hmo0,hmo1,hm⟩
  exact⟨_,rfl,hm,⟨A1,c2,A3,c4,rfl,hmo0,hmo1⟩⟩)) ?_
 exact .off .nil
 refine aftI eX gj aS fun gk hS bJ fb fc bK aT=>?_
 have⟨bL,gl⟩:=aT.f2 h8 eZ
 obtain⟨bM,aU,aR,aI,bN,fd,fe⟩:=aT.G 1 7
 have bN:gk.eval (.tmp 7)=vv (cleanV v) bM aU aR aI:=bN
 have⟨aV,ff⟩:=nw2 bK bI e9
 refine sS9 bL bN aV fun gm bO aW fg=>?_
 have fi:=fd.fr aV aW
 have fj:=fe.fr aV aW
 have fk:=fg hne16.symm ff
 have fl:=fc.tR aW
 refine fa _ _ <| wk fun hU bP=>?_
 refine wk fun hV fm=>?_
 refine wA tr2 [] 37 [ve (pv q9),ve (iv ((cleanV v).k))] bJ ?_ ?_
 exact .F bL<| .J 0 isAgg3 bO .nil
 refine aftI bJ fb fl fun hW hX bQ fn fo aJ aX=>?_
 have⟨gn,go⟩:=aX.f2 bL gl
 have e0:=aX.g 1 9
 have⟨fp,fq,fs,ft⟩:=nw4 aJ bO fk fi fj
 refine fm _ _<| wb<| wk fun hY fu=>?_
 refine wA tr2 [] 37 [ve (.bool (decide (((cleanV v).k)=0))),ve (.bool (decide (((cleanV v).k)=0)))] bQ ?_ ?_
 exact .H e0 (r_eql rfl)<| .B 0 .nil
 refine aftI bQ fn fo fun hZ h3 aK bR bS aL aM=>?_
 have⟨gp,e1,e2⟩:=aM.f3 gn go e0
 have e3:=aM.g 1 10
 have⟨fv,bT,fw,fy⟩:=nw4 aL fp fq fs ft
 refine fu _ _ ?_
 rcases bc (decide (((cleanV v).k)=0)) with ac|ac
 have cW:=oT ac
 have fz:=hB e3 ac
 refine wt fz<| wk fun h4 fA=>?_
 refine wA [true,false,false] [(1,false),(2,true)] 37 [ve (nv (Nm.mk 2 0)),vt,vt] aK ?_ ?_
 exact .T (fun k=>v_build (ps:=[(0,iv 2)]) rfl (parts1 rfl) (by kernel_rfl))<| .off<| .off .nil
 refine aftI aK bR bS fun e4 h5 bU fB fC fD bV=>?_
 have e5:=bV.f1 e1
 have e6:=bV.g 0 12
 have fE:=bT.new_ fD
 refine sS2 e5 e6 fE fun h6 fF fG gJ=>?_
 have cZ:=fC.tR fG
 refine sP (v:=iv 0) rfl bU fB fun fH gq c0 ah fJ=>?_
 have⟨fI,gL⟩:=ah.q2 e5 e6
 refine fA _ _<| wp_ret (ret_k c0 (v:=.tuple #[nv (Nm.mk 2 0),iv 0]) (res_ct rfl fI fJ (l_two isAgg23 sizeOf23 fF)) ?_)
 refine ⟨?_,cZ⟩
 show Ending.returned (.tuple #[nv (Nm.mk 2 0),iv 0])=Ending.returned (.tuple #[nv ((numberV v).1),iv ((numberV v).2)])
 first|rfl|(simp only [numberV,ac,bsm] <;> rfl)|(exfalso; omega)
 have cW:=oF ac
 have c1:=hB e3 ac
 refine wf c1<| wk fun gM aZ=>wk fun gN c3=>?_
 refine wA tr2 [] 37 [ve (.bool (decide (((cleanV v).k)=1))),ve (.bool (decide (((cleanV v).k)=1)))] aK ?_ ?_
 exact .H e2 (r_eql rfl)<| .B 0 .nil
 refine aftI aK bR bS fun gO gP aq a1 a3 ar au=>?_
 have⟨bW,bX,bY⟩:=au.f3 gp e1 e2
 have bZ:=au.g 1 13
 have⟨a4,a5,c5,c9⟩:=nw4 ar fv bT fw fy
 refine c3 _ _ ?_
 rcases bc (decide (((cleanV v).k)=1)) with aa|aa
 have b0:=oT aa
 have a6:=hB bZ aa
 refine wt a6<| ws<| aZ _ _<| wt a6<| wk fun gQ da=>?_
 refine wA [true,true,true,false,false] [(3,false),(4,true)] 37 [ve (.pointer (some ⟨q9,6,none⟩)),ve (iv ((cleanV v).ref)),ve (nv (Nm.mk 0 ((cleanV v).ref))),vt,vt] aq ?_ ?_
 exact .F bW<| .J 0 isAgg3 a4<| .T (fun k=>v_build (ps:=[(1,iv ((cleanV v).ref))]) rfl (parts1 (k.eq1 1 17 rfl)) (by kernel_rfl))<| .off<| .off .nil
 refine aftI aq a1 a3 fun b1 gR a7 db dc dd a8=>?_
 have b2:=a8.f1 bX
 have b3:=a8.g 2 18
 have de:=a5.new_ dd
 refine sS2 b2 b3 de fun gS df dg gr=>?_
 have di:=dc.tR dg
 refine sP (v:=iv 0) rfl a7 db fun fK gs dj ai fM=>?_
 have⟨fL,gU⟩:=ai.q2 b2 b3
 refine da _ _<| wp_ret (ret_k dj (v:=.tuple #[nv (Nm.mk 0 ((cleanV v).ref)),iv 0]) (res_ct rfl fL fM (l_two isAgg23 sizeOf23 df)) ?_)
 refine ⟨?_,di⟩
 show Ending.returned (.tuple #[nv (Nm.mk 0 ((cleanV v).ref)),iv 0])=Ending.returned (.tuple #[nv ((numberV v).1),iv ((numberV v).2)])
 first|rfl|(simp only [numberV,ac,aa,bsm] <;> rfl)|(exfalso; omega)
 have b0:=oF aa
 have dk:=hB bZ aa
 refine wf dk<| wp_g0 [true,true] [] 37
  [ve (.bool (decide (((cleanV v).k)=2))),ve (.bool (decide (((cleanV v).k)=2)))] aq (.eq (.eq .nil)) ?_ ?_
 exact .H bY (r_eql rfl)<| .B 0 .nil
 refine aftI aq a1 a3 fun gV gW av a9 ba aw ax=>?_
 have⟨b5,b6,b7⟩:=ax.f3 bW bX bY
 have b8:=ax.g 1 13
 have⟨bb,bd,dl,dm⟩:=nw4 aw a4 a5 c5 c9
 refine aZ _ _ ?_
 rcases bc (decide (((cleanV v).k)=2)) with ab|ab
 have b9:=oT ab
 have dn:=hB b8 ab
 refine wt dn<| wk fun gX dp=>?_
 refine wA [true,true,true,false,false] [(3,false),(4,true)] 37 [ve (.pointer (some ⟨q9,6,none⟩)),ve (iv ((cleanV v).ref)),ve (nv (Nm.mk 0 ((cleanV v).ref))),vt,vt] av ?_ ?_
 exact .F b5<| .J 0 isAgg3 bb<| .T (fun k=>v_build (ps:=[(1,iv ((cleanV v).ref))]) rfl (parts1 (k.eq1 1 17 rfl)) (by kernel_rfl))<| .off<| .off .nil
 refine aftI av a9 ba fun ca gY be dq dr ds bf=>?_
 have cb:=bf.f1 b6
 have cc:=bf.g 2 18
 have dt:=bd.new_ ds
 refine sS2 cb cc dt fun gZ du dw gt=>?_
 have dy:=dr.tR dw
 refine sP (v:=iv 0) rfl be dq fun fN gu dz aj fP=>?_
 have⟨fO,g1⟩:=aj.q2 cb cc
 refine dp _ _<| wp_ret (ret_k dz (v:=.tuple #[nv (Nm.mk 0 ((cleanV v).ref)),iv 0]) (res_ct rfl fO fP (l_two isAgg23 sizeOf23 du)) ?_)
 refine ⟨?_,dy⟩
 show Ending.returned (.tuple #[nv (Nm.mk 0 ((cleanV v).ref)),iv 0])=Ending.returned (.tuple #[nv ((numberV v).1),iv ((numberV v).2)])
 first|rfl|(simp only [numberV,ac,aa,ab,bsm] <;> rfl)|(exfalso; omega)
 have b9:=oF ab
 have dA:=hB b8 ab
 refine wf dA<| wk fun g2 dB=>?_
 refine wA tr2 [] 37 [ve (.bool (decide (((cleanV v).k)=3))),ve (.bool (decide (((cleanV v).k)=3)))] av ?_ ?_
 exact .H b7 (r_eql rfl)<| .B 0 .nil
 refine aftI av a9 ba fun g3 g4 ay bg bh az aA=>?_
 have⟨ce,cf,ch⟩:=aA.f3 b5 b6 b7
 have ci:=aA.g 1 19
 have⟨bi,bj,dC,dD⟩:=nw4 az bb bd dl dm
 refine dB _ _ ?_
 rcases bc (decide (((cleanV v).k)=3)) with ad|ad
 have cj:=oT ad
 have dE:=hB ci ad
 refine wt dE<| wk fun g5 dF=>?_
 refine wA [true,true,false,false] [(2,false),(3,true)] 37 [ve (.pointer (some ⟨q9,1,none⟩)),ve (nv (Nm.mk ((cleanV v).nk) ((cleanV v).nn))),vt,vt] ay ?_ ?_
 exact .F ce<| .K2 0 bi<| .off<| .off .nil
 refine aftI ay bg bh fun cl g6 bk dG dH dI bl=>?_
 have cm:=bl.f1 cf
 have cn:=bl.g 1 22
 have dJ:=bj.new_ dI
 refine sS2 cm cn dJ fun g7 dK dL gv=>?_
 have dN:=dH.tR dL
 refine sP (v:=iv 0) rfl bk dG fun fQ gw dO ak fS=>?_
 have⟨fR,g9⟩:=ak.q2 cm cn
 refine dF _ _<| wp_ret (ret_k dO (v:=.tuple #[nv (Nm.mk ((cleanV v).nk) ((cleanV v).nn)),iv 0]) (res_ct rfl fR fS (l_two isAgg23 sizeOf23 dK)) ?_)
 refine ⟨?_,dN⟩
 show Ending.returned (.tuple #[nv (Nm.mk ((cleanV v).nk) ((cleanV v).nn)),iv 0])=Ending.returned (.tuple #[nv ((numberV v).1),iv ((numberV v).2)])
 first|rfl|(simp only [numberV,ac,aa,ab,ad,bsm] <;> rfl)|(exfalso; omega)
 have cj:=oF ad
 have dP:=hB ci ad
 refine wf dP<| wk fun ha dQ=>?_
 refine wA tr2 [] 37 [ve (.bool (decide (((cleanV v).k)=4))),ve (.bool (decide (((cleanV v).k)=4)))] ay ?_ ?_
 exact .H ch (r_eql rfl)<| .B 0 .nil
 refine aftI ay bg bh fun hc hd aB bm bn aC aD=>?_
 have⟨fT,cp,fU⟩:=aD.f3 ce cf ch
 have cq:=aD.g 1 23
 have⟨dR,bo,dS,dT⟩:=nw4 aC bi bj dC dD
 refine dQ _ _ ?_
 rcases bc (decide (((cleanV v).k)=4)) with ae|ae
 have cr:=oT ae
 have dU:=hB cq ae
 refine wt dU<| wk fun hf dV=>?_
 refine wA [true,false,false] [(1,false),(2,true)] 37 [ve (nv (Nm.mk 0 0)),vt,vt] aB ?_ ?_
 exact .Z<| .off<| .off .nil
 refine aftI aB bm bn fun ct hg bp dW dX dY bq=>?_
 have cu:=bq.f1 cp
 have cw:=bq.g 0 25
 have dZ:=bo.new_ dY
 refine sS2 cu cw dZ fun hh d0 d1 gx=>?_
 have d3:=dX.tR d1
 refine sP (v:=iv 1) rfl bp dW fun fV gy d4 al fX=>?_
 have⟨fW,hj⟩:=al.q2 cu cw
 refine dV _ _<| wp_ret (ret_k d4 (v:=.tuple #[nv (Nm.mk 0 0),iv 1]) (res_ct rfl fW fX (l_two isAgg23 sizeOf23 d0)) ?_)
 refine ⟨?_,d3⟩
 show Ending.returned (.tuple #[nv (Nm.mk 0 0),iv 1])=Ending.returned (.tuple #[nv ((numberV v).1),iv ((numberV v).2)])
 first|rfl|(simp only [numberV,ac,aa,ab,ad,ae,bsm] <;> rfl)|(exfalso; omega)
 have cr:=oF ae
 have d5:=hB cq ae
 refine wf d5<| wk fun hl d6=>?_
 refine wA tr2 [] 37 [ve (.bool (decide (((cleanV v).k)=5))),ve (.bool (decide (((cleanV v).k)=5)))] aB ?_ ?_
 exact .H fU (r_eql rfl)<| .B 0 .nil
 refine aftI aB bm bn fun ho fY aE br aN aF aO=>?_
 have⟨fZ,cy⟩:=aO.f2 fT cp
 have cz:=aO.g 1 26
 have⟨d7,aP,gz,d8⟩:=nw4 aF dR bo dS dT
 refine d6 _ _ ?_
 rcases bc (decide (((cleanV v).k)=5)) with af|af
 have cA:=oT af
 have d9:=hB cz af
 refine wt d9<| wk fun hr ea=>?_
 refine wB [true,true,true,true,true,true,true,false,false] [5] [(7,false),(8,true)] 37 [ve (.pointer (some ⟨q9,5,none⟩)),ve (sv aR ((cleanV v).s) aI),ve (.tuple #[nv ((numT ((cleanV v).s)).1),.bool ((numT ((cleanV v).s)).2)]),ve (.tuple #[nv ((numT ((cleanV v).s)).1),.bool ((numT ((cleanV v).s)).2)]),ve (nv ((numT ((cleanV v).s)).1)),ve (.bool ((numT ((cleanV v).s)).2)),IsNew fY 23 [iv 0,iv 0],vt,vt] [6] aE ?_ ?_ ?_
 refine .F fZ<| .J 0 isAgg27 d7<| .C 1 (fun p=>tnumber_c _ ((cleanV v).s) _ _ (d8.new_ p) hvv.clean.units)<| .N 2<| .E 3 ?_
 refine .o3 ?_
 exact .Y<| .off<| .off .nil
 refine eg1 ?_
 exact eager_take rfl rfl fun _ w hn k=>⟨.bool ((numT ((cleanV v).s)).2),fun w=>v_extract rfl (k.eq1 3 28 rfl) rfl,rfl⟩
 refine aftI aE br aN fun cB hs bs eb ec ed aG=>?_
 have f0:=aG.f1 cy
 have cC:=aG.g 4 32
 have cD:=aG.g 5 33
 obtain⟨f1,cE,bt,ee⟩:=aG.G 6 4
 have ef:=aP.new_ ed
 have hne323:eY ≠ f1:=by have h1:=aP.lt; have h2:=bt; omega
 have gA:=Nat.le_trans aN.size bt
 refine sS2 cE cC ee fun ht eg eh ei=>?_
 have ek:=ei hne323 ef
 have el:=ec.tR eh
 refine sP cD bs eb fun f2 bu em ag f5=>?_
 have⟨f3,hv,hw⟩:=ag.q3 f0 cC cD
 have f4:=ag.q cE
 refine ea _ _ <| wk fun hx en=>?_
 refine wA tr1 [] 37 [ve (.bool ((numT ((cleanV v).s)).2))] bu ?_ ?_
 exact .M f5 .nil
 refine aftI bu em el fun hy hz aH bv bw bx aQ=>?_
 have⟨cG,f6⟩:=aQ.f2 f3 f4
 have cH:=aQ.g 0 34
 have⟨bz,eo⟩:=nw2 bx ek eg
 refine en _ _ ?_
 rcases bc ((numT ((cleanV v).s)).2) with ap|ap
 have ep:=hB cH ap
 refine wt ep<| wk fun hA er=>?_
 refine wA [true,false,false] [(1,false),(2,true)] 37 [ve (nv ((numT ((cleanV v).s)).1)),vt,vt] aH ?_ ?_
 exact .L2 f6 eo<| .off<| .off .nil
 refine aftI aH bv bw fun cI hC bA es et eu bB=>?_
 have cJ:=bB.f1 cG
 have cK:=bB.g 0 35
 have ev:=bz.new_ eu
 refine sS2 cJ cK ev fun hD ew ex gB=>?_
 have ez:=et.tR ex
 refine sP (v:=iv 0) rfl bA es fun f7 gC eA am f9=>?_
 have⟨f8,hF⟩:=am.q2 cJ cK
 refine er _ _<| wp_ret (ret_k eA (v:=.tuple #[nv ((numT ((cleanV v).s)).1),iv 0]) (res_ct rfl f8 f9 (l_two isAgg23 sizeOf23 ew)) ?_)
 refine ⟨?_,ez⟩
 show Ending.returned (.tuple #[nv ((numT ((cleanV v).s)).1),iv 0])=Ending.returned (.tuple #[nv ((numberV v).1),iv ((numberV v).2)])
 first|rfl|(simp only [numberV,ac,aa,ab,ad,ae,af,ap,bsm] <;> rfl)|(exfalso; omega)
 have eB:=hB cH ap
 refine wf eB<| ws<| bP _ _<| wk fun hG eC=>?_
 refine wA [true,false,false] [(1,false),(2,true)] 37 [ve (nv (Nm.mk 0 0)),vt,vt] aH ?_ ?_
 exact .Z<| .off<| .off .nil
 refine aftI aH bv bw fun cM hH bC eD eE eF bD=>?_
 have cN:=bD.f1 cG
 have cO:=bD.g 0 36
 have eG:=bz.new_ eF
 refine sS2 cN cO eG fun hI eH eI gD=>?_
 have eK:=eE.tR eI
 refine sP (v:=iv 3) rfl bC eD fun ga gE eL an gc=>?_
 have⟨gb,hK⟩:=an.q2 cN cO
 refine eC _ _<| wp_ret (ret_k eL (v:=.tuple #[nv (Nm.mk 0 0),iv 3]) (res_ct rfl gb gc (l_two isAgg23 sizeOf23 eH)) ?_)
 refine ⟨?_,eK⟩
 show Ending.returned (.tuple #[nv (Nm.mk 0 0),iv 3])=Ending.returned (.tuple #[nv ((numberV v).1),iv ((numberV v).2)])
 first|rfl|(simp only [numberV,ac,aa,ab,ad,ae,af,ap,bsm] <;> rfl)|(exfalso; omega)
 have cA:=oF af
 have eM:=hB cz af
 refine wf eM<| ws<| bP _ _<| wk fun hL eN=>?_
 refine wA [true,false,false] [(1,false),(2,true)] 37 [ve (nv (Nm.mk 0 0)),vt,vt] aE ?_ ?_
 exact .Z<| .off<| .off .nil
 refine aftI aE br aN fun cQ hM bE eO eP eQ bF=>?_
 have cR:=bF.f1 cy
 have cS:=bF.g 0 36
 have eR:=aP.new_ eQ
 refine sS2 cR cS eR fun hN eS eT gF=>?_
 have eV:=eP.tR eT
 refine sP (v:=iv 3) rfl bE eO fun gd gG eW ao gg=>?_
 have⟨gf,hP⟩:=ao.q2 cR cS
 refine eN _ _<| wp_ret (ret_k eW (v:=.tuple #[nv (Nm.mk 0 0),iv 3]) (res_ct rfl gf gg (l_two isAgg23 sizeOf23 eS)) ?_)
 refine ⟨?_,eV⟩
 show Ending.returned (.tuple #[nv (Nm.mk 0 0),iv 3])=Ending.returned (.tuple #[nv ((numberV v).1),iv ((numberV v).2)])
 first|rfl|(simp only [numberV,ac,aa,ab,ad,ae,af,bsm] <;> rfl)|(exfalso; omega)
theorem cindex_c (v:Vl) (Av:Option Addr) (cv:Nat) (Bv:Option Addr) (dv:Nat) (w:World) (hmv:SRow w .u32 Av v.mag cv) (hsv:SRow w .u16 Bv v.s dv) (hvv:VOk v):Calls prog 19 #[vv v Av cv Bv dv] w (IsRet (.tuple #[iv ((indexV v).1),iv ((indexV v).2)]) w):=by
 refine enter_abs func19 rfl fun a0 aw ce hp=>?_
 have aw:a0.tmps.size=29:=aw
 have bo:New w w:=Upd.refl _ _
 have hp0:a0.eval (.tmp 0)=vv v Av cv Bv dv:=hp 0 _ rfl
 refine wk fun K1 cf=>?_
 refine wB tr3 [] [] 29 [IsNew w 29 (c7 v Av cv Bv dv),ve (iv 0),ve (iv 0)] [0] aw ?_ heN ?_
 exact .X hp0<| .c<| .c .nil
 refine aftI aw ce bo fun a2 w3 bp ch ao c9 ci=>?_
 obtain⟨q9,h8,bw,aJ⟩:=ci.G 0 1
 have cE:=Nat.le_trans bo.size bw
 refine cf _ _ <| wk fun da bx=>?_
 refine wp_g0 [true,true,false] [(2,false)] 29
  [ve (vv v Av cv Bv dv),
  (VP (cleanV v)),vt] bp (.eq (.cons (fun _ _ _ n ⟨_,_,_,_,e,h,i⟩=>⟨_,_,_,_,e,h.new_ n,i.new_ n⟩) (.tt .nil))) ?_ ?_
 refine .L9 h8 aJ ?_
 refine .o1 (tkC rfl (noG rfl) rfl fun _ w hn k=>(by
  refine ⟨#[vv v Av cv Bv dv],_,args1 (k.eq1 0 8 rfl),fun w=>by kernel_rfl,clean_c v _ _ _ _ _ (hmv.new_ (ao.transNew hn)) (hsv.new_ (ao.transNew hn)),?_⟩
  rintro e w' ⟨A1,c2,A3,c4,rfl,hmo0,hmo1,hm⟩
  exact⟨_,rfl,hm,⟨A1,c2,A3,c4,rfl,hmo0,hmo1⟩⟩)) ?_
 exact .off .nil
 refine aftI bp ch ao fun cj db aK bz bA bB aL=>?_
 have aM:=aL.f1 h8
 obtain⟨am,ah,an,ai,aN,bC,bD⟩:=aL.G 1 9
 have aN:cj.eval (.tmp 9)=vv (cleanV v) am ah an ai:=aN
 have ap:=aJ.new_ bB
 refine sS9 aM aN ap fun cl aO aq cF=>?_
 have bF:=bC.fr ap aq
 have bG:=bD.fr ap aq
 have bH:=bA.tR aq
 refine bx _ _ <| wk fun dd bI=>?_
 refine wk fun de bJ=>?_
 refine wA tr3 [] 29 [ve (pv q9),ve (iv ((cleanV v).k)),ve (.bool (decide (((cleanV v).k)=0)))] aK ?_ ?_
 exact .F aM<| .J 0 isAgg3 aO<| .b 1 (r_eql rfl) .nil
 refine aftI aK bz bH fun df cm aj aP ar au aQ=>?_
 have cn:=aQ.f1 aM
 have bq:=aQ.g 2 12
 have⟨bK,bL,bM⟩:=nw3 au aO bF bG
 refine bJ _ _ ?_
 rcases bc (decide (((cleanV v).k)=0)) with ab|ab
 have aY:=oT ab
 have bN:=hB bq ab
 refine wt bN<| wk fun dg bO=>?_
 refine wA tr2 [] 29 [ve (iv 0),ve (iv 0)] aj ?_ ?_
 exact .c<| .c .nil
 refine aftI aj aP ar fun dh di cG bP bQ cH aR=>?_
 have co:=aR.g 0 2
 have cp:=aR.g 1 3
 refine bO _ _<| wp_ret (ret_k bP (v:=.tuple #[iv 0,iv 0]) (res_tt rfl co cp _) ?_)
 refine ⟨?_,bQ⟩
 show Ending.returned (.tuple #[iv 0,iv 0])=Ending.returned (.tuple #[iv ((indexV v).1),iv ((indexV v).2)])
 first|rfl|(simp only [indexV,ab,bsm] <;> rfl)|(exfalso; omega)
 have aY:=oF ab
 have bR:=hB bq ab
 refine wf bR<| ws<| bI _ _<| wk fun dj bS=>?_
 refine wB [true,true,true,true,true,true,false,false] [4] [(6,false),(7,true)] 29 [ve (vv (cleanV v) am ah an ai),ve (.tuple #[nv ((numberV (cleanV v)).1),iv ((numberV (cleanV v)).2)]),ve (.tuple #[nv ((numberV (cleanV v)).1),iv ((numberV (cleanV v)).2)]),ve (nv ((numberV (cleanV v)).1)),ve (iv ((numberV (cleanV v)).2)),IsNew cm 23 [iv 0,iv 0],vt,vt] [5] aj ?_ ?_ ?_
 refine .L9 cn bK<| .C 0 (fun p=>cnumber_c (cleanV v) _ _ _ _ _ (bL.new_ p) (bM.new_ p) hvv.clean)<| .N 1<| .E 2 ?_
 refine .o3 ?_
 exact .Y<| .off<| .off .nil
 refine eg1 ?_
 exact eager_take rfl rfl fun _ w hn k=>⟨iv ((numberV (cleanV v)).2),fun w=>v_extract rfl (k.eq1 2 13 rfl) rfl,rfl⟩
 refine aftI aj aP ar fun br dk aS bT bU cI av=>?_
 have bs:=av.g 3 16
 have bt:=av.g 4 17
 obtain⟨dl,bu,bV,bW⟩:=av.G 5 4
 have cJ:=Nat.le_trans ar.size bV
 refine sS2 bu bs bW fun dm bX bY cK=>?_
 have b0:=bU.tR bY
 refine sP bt aS bT fun cq aT b1 ad bv=>?_
 have⟨dp,dq,cr⟩:=ad.q3 bs bt bu
 refine bS _ _ <| wk fun dr b2=>?_
 refine wk fun cL a1=>?_
 refine wA tr2 [] 29 [ve (iv ((numberV (cleanV v)).2)),ve (.bool (!decide (((numberV (cleanV v)).2)=0)))] aT ?_ ?_
 exact .M bv<| .b 0 (r_neq rfl) .nil
 refine aftI aT b1 b0 fun cM cN af ax ay a3 ak=>?_
 have⟨b3,b4⟩:=ak.f2 cr bv
 have aU:=ak.g 1 19
 have a4:=bX.new_ a3
 refine a1 _ _ ?_
 rcases bc ((!decide (((numberV (cleanV v)).2)=0))) with aa|aa
 have a5:=hB aU aa
 have al:(decide (((numberV (cleanV v)).2)=0))=false:=nF aa
 have ct:=oF al
 refine wt a5<| wk fun cO a6=>?_
 refine wA tr3 [] 29 [ve (iv ((numberV (cleanV v)).2)),ve (iv 0),ve (iv ((numberV (cleanV v)).2))] af ?_ ?_
 exact .M b4<| .c<| .B 0 .nil
 refine aftI af ax ay fun cP cQ cw a7 a8 cx az=>?_
 have b5:=az.g 1 2
 have b6:=az.g 2 3
 refine a6 _ _<| wp_ret (ret_k a7 (v:=.tuple #[iv 0,iv ((numberV (cleanV v)).2)]) (res_tt rfl b5 b6 _) ?_)
 refine ⟨?_,a8⟩
 show Ending.returned (.tuple #[iv 0,iv ((numberV (cleanV v)).2)])=Ending.returned (.tuple #[iv ((indexV v).1),iv ((indexV v).2)])
 first|rfl|(simp only [indexV,ab,aa,al,al,bsm] <;> rfl)|(exfalso; omega)
 have a9:=hB aU aa
 have ae:(decide (((numberV (cleanV v)).2)=0))=true:=nT aa
 have cu:=oT ae
 refine wf a9<| ws<| b2 _ _<| wk fun cR ba=>?_
 refine wA tr7 [] 29 [ve (nv ((numberV (cleanV v)).1)),ve (.tuple #[iv ((indexM ((numberV (cleanV v)).1)).1),.bool ((indexM ((numberV (cleanV v)).1)).2)]),ve (.tuple #[iv ((indexM ((numberV (cleanV v)).1)).1),.bool ((indexM ((numberV (cleanV v)).1)).2)]),ve (iv ((indexM ((numberV (cleanV v)).1)).1)),ve (.bool ((indexM ((numberV (cleanV v)).1)).2)),ve (iv ((indexM ((numberV (cleanV v)).1)).1)),ve (.bool ((indexM ((numberV (cleanV v)).1)).2))] af ?_ ?_
 exact .L2 b3 a4<| .C 0 (fun p=>nindex_c ((numberV (cleanV v)).1) _)<| .N 1<| .E 2<| .E 2<| .B 3<| .B 4 .nil
 refine aftI af ax ay fun cS cT aA bb bd cy aB=>?_
 have b7:=aB.g 5 6
 have b8:=aB.g 6 7
 refine ba _ _ <| wk fun cU be=>?_
 refine wk fun cV bf=>?_
 refine wA tr2 [] 29 [ve (.bool ((indexM ((numberV (cleanV v)).1)).2)),ve (.bool (!((indexM ((numberV (cleanV v)).1)).2)))] aA ?_ ?_
 exact .M b8<| .T (fun k=>v_not rfl (k.eq1 0 26 rfl)) .nil
 refine aftI aA bb bd fun cW cX ag aC aD cz aE=>?_
 have b9:=aE.f1 b7
 have aV:=aE.g 1 27
 refine bf _ _ ?_
 rcases bc ((!((indexM ((numberV (cleanV v)).1)).2))) with ac|ac
 have bg:=hB aV ac
 have aF:((indexM ((numberV (cleanV v)).1)).2)=false:=nF ac
 refine wt bg<| wk fun cY bh=>?_
 refine wA tr2 [] 29 [ve (iv 0),ve (iv 2)] ag ?_ ?_
 exact .c<| .c .nil
 refine aftI ag aC aD fun cZ c0 cA bi bj cB aG=>?_
 have ca:=aG.g 0 2
 have cb:=aG.g 1 3
 refine bh _ _<| wp_ret (ret_k bi (v:=.tuple #[iv 0,iv 2]) (res_tt rfl ca cb _) ?_)
 refine ⟨?_,bj⟩
 show Ending.returned (.tuple #[iv 0,iv 2])=Ending.returned (.tuple #[iv ((indexV v).1),iv ((indexV v).2)])
 first|rfl|(simp only [indexV,ab,aa,ae,ae,ac,aF,aF,bsm] <;> rfl)|(exfalso; omega)
 have bk:=hB aV ac
 have aH:((indexM ((numberV (cleanV v)).1)).2)=true:=nT ac
 refine wf bk<| ws<| be _ _<| wk fun c1 bl=>?_
 refine wA tr3 [] 29 [ve (iv ((indexM ((numberV (cleanV v)).1)).1)),ve (iv ((indexM ((numberV (cleanV v)).1)).1)),ve (iv 0)] ag ?_ ?_
 exact .M b9<| .B 0<| .c .nil
 refine aftI ag aC aD fun c3 c5 cC bm bn cD aI=>?_
 have cc:=aI.g 1 2
 have cd:=aI.g 2 3
 refine bl _ _<| wp_ret (ret_k bm (v:=.tuple #[iv ((indexM ((numberV (cleanV v)).1)).1),iv 0]) (res_tt rfl cc cd _) ?_)
 refine ⟨?_,bn⟩
 show Ending.returned (.tuple #[iv ((indexM ((numberV (cleanV v)).1)).1),iv 0])=Ending.returned (.tuple #[iv ((indexV v).1),iv ((indexV v).2)])
 first|rfl|(simp only [indexV,ab,aa,ae,ae,ac,aH,aH,bsm] <;> rfl)|(exfalso; omega)
theorem cstrict_c (v:Vl) (Av:Option Addr) (cv:Nat) (Bv:Option Addr) (dv:Nat) (u:Vl) (Au:Option Addr) (cu:Nat) (Bu:Option Addr) (du:Nat) (w:World) (hmv:SRow w .u32 Av v.mag cv) (hsv:SRow w .u16 Bv v.s dv) (hmu:SRow w .u32 Au u.mag cu) (hsu:SRow w .u16 Bu u.s du):Calls prog 58 #[vv v Av cv Bv dv,vv u Au cu Bu du] w (IsRet (.bool (strictV v u)) w):=by
 refine enter_abs func58 rfl fun a0 aA b6 hp=>?_
 have aA:a0.tmps.size=27:=aA
 have aG:New w w:=Upd.refl _ _
 have hp0:a0.eval (.tmp 0)=vv v Av cv Bv dv:=hp 0 _ rfl
 have hp1:a0.eval (.tmp 1)=vv u Au cu Bu du:=hp 1 _ rfl
 refine wk fun K1 b7=>?_
 refine wB tr3 [] [] 27 [IsNew w 29 (c7 v Av cv Bv dv),IsNew w 29 (c7 u Au cu Bu du),vF] [0,1] aA ?_ heN ?_
 exact .X hp0<| .X hp1<| .c .nil
 refine aftI aA b6 aG fun a2 w3 bo b8 ag cH aH=>?_
 obtain⟨q9,h8,bs,aI⟩:=aH.G 0 2
 obtain⟨aB,aJ,bt,aK⟩:=aH.G 1 3
 have hne16:=aH.ne 0 1 2 3 h8 aJ
 have cr:=Nat.le_trans aG.size bs
 have ct:=Nat.le_trans aG.size bt
 refine b7 _ _ <| wk fun cI bu=>?_
 refine wp_g0 [true,true,true,true,false,false] [(4,false),(5,false)] 27
  [ve (vv v Av cv Bv dv),
  (VP (cleanV v)),ve (vv u Au cu Bu du),
  (VP (cleanV u)),vt,vt] bo (.eq (.cons (fun _ _ _ n ⟨_,_,_,_,e,h,i⟩=>⟨_,_,_,_,e,h.new_ n,i.new_ n⟩) (.eq (.cons (fun _ _ _ n ⟨_,_,_,_,e,h,i⟩=>⟨_,_,_,_,e,h.new_ n,i.new_ n⟩) (.tt (.tt .nil)))))) ?_ ?_
 refine .L9 h8 aI ?_
 refine .o1 (tkC rfl (noG rfl) rfl fun _ w hn k=>(by
  refine ⟨#[vv v Av cv Bv dv],_,args1 (k.eq1 0 5 rfl),fun w=>by kernel_rfl,clean_c v _ _ _ _ _ (hmv.new_ (ag.transNew hn)) (hsv.new_ (ag.transNew hn)),?_⟩
  rintro e w' ⟨A1,c2,A3,c4,rfl,hmo0,hmo1,hm⟩
  exact⟨_,rfl,hm,⟨A1,c2,A3,c4,rfl,hmo0,hmo1⟩⟩)) ?_
 refine .L9 aJ aK ?_
 refine .o1 (tkC rfl (noG rfl) rfl fun _ w hn k=>(by
  refine ⟨#[vv u Au cu Bu du],_,args1 (k.eq1 2 7 rfl),fun w=>by kernel_rfl,clean_c u _ _ _ _ _ (hmu.new_ (ag.transNew hn)) (hsu.new_ (ag.transNew hn)),?_⟩
  rintro e w' ⟨A9,cd,ce,cf,rfl,hmo0,hmo1,hm⟩
  exact⟨_,rfl,hm,⟨A9,cd,ce,cf,rfl,hmo0,hmo1⟩⟩)) ?_
 exact .off<| .off .nil
 refine aftI bo b8 ag fun bp cJ aL bv bw aM ap=>?_
 have⟨aN,aO⟩:=ap.f2 h8 aJ
 obtain⟨au,ah,av,ai,aP,bx,bz⟩:=ap.G 1 6
 have aP:bp.eval (.tmp 6)=vv (cleanV v) au ah av ai:=aP
 obtain⟨aw,aj,ax,ak,aQ,bA,bB⟩:=ap.G 3 8
 have aQ:bp.eval (.tmp 8)=vv (cleanV u) aw aj ax ak:=aQ
 have⟨al,bC⟩:=nw2 aM aI aK
 refine sS9 aN aP al fun ch bE am bD=>?_
 have bG:=bx.fr al am
 have bH:=bz.fr al am
 have bI:=bA.fr al am
 have bJ:=bB.fr al am
 have an:=bD hne16.symm bC
 have bK:=bw.tR am
 refine sS9 aO aQ an fun ci aR ao bL=>?_
 have bN:=bG.fr an ao
 have bO:=bH.fr an ao
 have bP:=bI.fr an ao
 have bQ:=bJ.fr an ao
 have aS:=bL hne16 bE
 have bR:=bK.tR ao
 refine bu _ _ <| wk fun cM bS=>?_
 refine wb<| wk fun cN bT=>?_
 refine wA tr6 [] 27 [ve (pv q9),ve (iv ((cleanV v).k)),ve (pv aB),ve (iv ((cleanV u).k)),ve (.bool (!decide (((cleanV v).k)=((cleanV u).k)))),ve (.bool (!decide (((cleanV v).k)=((cleanV u).k))))] aL ?_ ?_
 exact .F aN<| .J 0 isAgg3 aS<| .F aO<| .J 2 isAgg3 aR<| .T (fun k=>v_bin rfl (k.eq1 1 11 rfl) (k.eq1 3 13 rfl) (fun _=>rfl) (r_neq rfl))<| .B 4 .nil
 refine aftI aL bv bR fun cO cP aq aT aU ae ay=>?_
 have⟨bq,cj⟩:=ay.f2 aN aO
 have br:=ay.g 5 9
 have⟨aV,bU,bV,bW⟩:=nw4 ae aS aR bN bO
 have⟨bX,bY⟩:=nw2 ae bP bQ
 refine bT _ _ ?_
 rcases bc ((!decide (((cleanV v).k)=((cleanV u).k)))) with ab|ab
 have bZ:=hB br ab
 have az:(decide (((cleanV v).k)=((cleanV u).k)))=false:=nF ab
 have cm:=oF az
 refine wt bZ<| wk fun cQ b0=>?_
 refine wA tr1 [] 27 [vF] aq ?_ ?_
 exact .c .nil
 refine aftI aq aT aU fun cR cS cw b1 a6 cx b2=>?_
 have b3:=b2.g 0 4
 refine b0 _ _<| wp_ret (ret_k b1 (v:=.bool false) (res_t rfl b3 _) ?_)
 refine ⟨?_,a6⟩
 show Ending.returned (.bool false)=Ending.returned (.bool (strictV v u))
 first|rfl|(simp only [strictV,ab,az,az,bsm] <;> rfl)|(exfalso; omega)
 have a7:=hB br ab
 have ad:(decide (((cleanV v).k)=((cleanV u).k)))=true:=nT ab
 have cl:=oT ad
 refine wf a7<| wk fun cy a8=>?_
 refine wA tr4 [] 27 [ve (pv q9),ve (iv ((cleanV v).k)),ve (.bool (decide (((cleanV v).k)=3))),ve (.bool (decide (((cleanV v).k)=3)))] aq ?_ ?_
 exact .F bq<| .J 0 isAgg3 aV<| .b 1 (r_eql rfl)<| .B 2 .nil
 refine aftI aq aT aU fun cz cA af aC aD ac ar=>?_
 have⟨aW,aX⟩:=ar.f2 bq cj
 have aY:=ar.g 3 15
 have⟨aE,aF,a9,ba⟩:=nw4 ac aV bU bV bW
 have⟨bb,bd⟩:=nw2 ac bX bY
 refine a8 _ _ ?_
 rcases bc (decide (((cleanV v).k)=3)) with aa|aa
 have aZ:=oT aa
 have be:=hB aY aa
 refine wt be<| wk fun cB bf=>?_
 refine wA tr6 [] 27 [ve (.pointer (some ⟨q9,1,none⟩)),ve (nv (Nm.mk ((cleanV v).nk) ((cleanV v).nn))),ve (.pointer (some ⟨aB,1,none⟩)),ve (nv (Nm.mk ((cleanV u).nk) ((cleanV u).nn))),ve (.bool (equalM (Nm.mk ((cleanV v).nk) ((cleanV v).nn)) (Nm.mk ((cleanV u).nk) ((cleanV u).nn)))),ve (.bool (equalM (Nm.mk ((cleanV v).nk) ((cleanV v).nn)) (Nm.mk ((cleanV u).nk) ((cleanV u).nn))))] af ?_ ?_
 exact .F aW<| .K2 0 aE<| .F aX<| .K2 2 aF<| .C2 1 3 (fun m=>equal_c (Nm.mk ((cleanV v).nk) ((cleanV v).nn)) (Nm.mk ((cleanV u).nk) ((cleanV u).nn)) _)<| .B 4 .nil
 refine aftI af aC aD fun cC cD cn bg bh co bi=>?_
 have b4:=bi.g 5 4
 refine bf _ _<| wp_ret (ret_k bg (v:=.bool (equalM (Nm.mk ((cleanV v).nk) ((cleanV v).nn)) (Nm.mk ((cleanV u).nk) ((cleanV u).nn)))) (res_t rfl b4 _) ?_)
 refine ⟨?_,bh⟩
 show Ending.returned (.bool (equalM (Nm.mk ((cleanV v).nk) ((cleanV v).nn)) (Nm.mk ((cleanV u).nk) ((cleanV u).nn))))=Ending.returned (.bool (strictV v u))
 first|rfl|(simp only [strictV,ab,ad,ad,aa,bsm] <;> rfl)|(exfalso; omega)
 have aZ:=oF aa
 have bj:=hB aY aa
 refine wf bj<| ws<| bS _ _<| wk fun cE bk=>?_
 refine wA tr4 [] 27 [ve (vv (cleanV v) au ah av ai),ve (vv (cleanV u) aw aj ax ak),ve (.bool (sameV (cleanV v) (cleanV u))),ve (.bool (sameV (cleanV v) (cleanV u)))] af ?_ ?_
 exact .L9 aW aE<| .L9 aX aF<| .C2 0 1 (fun m=>vsame_c (cleanV v) _ _ _ _ (cleanV u) _ _ _ _ _ (a9.new_ m) (ba.new_ m) (bb.new_ m) (bd.new_ m))<| .B 2 .nil
 refine aftI af aC aD fun cF cG cp bl bm cq bn=>?_
 have b5:=bn.g 3 4
 refine bk _ _<| wp_ret (ret_k bl (v:=.bool (sameV (cleanV v) (cleanV u))) (res_t rfl b5 _) ?_)
 refine ⟨?_,bm⟩
 show Ending.returned (.bool (sameV (cleanV v) (cleanV u)))=Ending.returned (.bool (strictV v u))
 first|rfl|(simp only [strictV,ab,ad,ad,aa,bsm] <;> rfl)|(exfalso; omega)
theorem cbool_c (v:Vl) (Av:Option Addr) (cv:Nat) (Bv:Option Addr) (dv:Nat) (w:World) (hmv:SRow w .u32 Av v.mag cv) (hsv:SRow w .u16 Bv v.s dv):Calls prog 22 #[vv v Av cv Bv dv] w (IsRet (.bool (boolV v)) w):=by
 refine enter_abs func22 rfl fun a0 ay ci hp=>?_
 have ay:a0.tmps.size=41:=ay
 have bx:New w w:=Upd.refl _ _
 have hp0:a0.eval (.tmp 0)=vv v Av cv Bv dv:=hp 0 _ rfl
 refine wk fun K1 cj=>?_
 refine wB tr2 [] [] 41 [IsNew w 29 (c7 v Av cv Bv dv),vF] [0] ay ?_ heN ?_
 exact .X hp0<| .c .nil
 refine aftI ay ci bx fun a2 w3 bz cl an cX cm=>?_
 obtain⟨q9,h8,bG,aI⟩:=cm.G 0 1
 have cD:=Nat.le_trans bx.size bG
 refine cj _ _ <| wk fun cY bH=>?_
 refine wp_g0 [true,true,false] [(2,false)] 41
  [ve (vv v Av cv Bv dv),
  (VP (cleanV v)),vt] bz (.eq (.cons (fun _ _ _ n ⟨_,_,_,_,e,h,i⟩=>⟨_,_,_,_,e,h.new_ n,i.new_ n⟩) (.tt .nil))) ?_ ?_
 refine .L9 h8 aI ?_
 refine .o1 (tkC rfl (noG rfl) rfl fun _ w hn k=>(by
  refine ⟨#[vv v Av cv Bv dv],_,args1 (k.eq1 0 3 rfl),fun w=>by kernel_rfl,clean_c v _ _ _ _ _ (hmv.new_ (an.transNew hn)) (hsv.new_ (an.transNew hn)),?_⟩
  rintro e w' ⟨A1,c2,A3,c4,rfl,hmo0,hmo1,hm⟩
  exact⟨_,rfl,hm,⟨A1,c2,A3,c4,rfl,hmo0,hmo1⟩⟩)) ?_
 exact .off .nil
 refine aftI bz cl an fun cn cZ aJ bI bJ bK aK=>?_
 have aL:=aK.f1 h8
 obtain⟨az,ag,aA,ah,aM,bL,bM⟩:=aK.G 1 4
 have aM:cn.eval (.tmp 4)=vv (cleanV v) az ag aA ah:=aM
 have ao:=aI.new_ bK
 refine sS9 aL aM ao fun co aN ap cE=>?_
 have bO:=bL.fr ao ap
 have bP:=bM.fr ao ap
 have bQ:=bJ.tR ap
 refine bH _ _ <| wk fun c1 bR=>?_
 refine wk fun c3 bS=>?_
 refine wA tr2 [] 41 [ve (pv q9),ve (iv ((cleanV v).k))] aJ ?_ ?_
 exact .F aL<| .J 0 isAgg3 aN .nil
 refine aftI aJ bI bQ fun c5 c9 aO bT bU aq aP=>?_
 have cp:=aP.f1 aL
 have bA:=aP.g 1 6
 have⟨bV,bW,bX⟩:=nw3 aq aN bO bP
 refine bS _ _<| wb<| wk fun da bY=>?_
 refine wA tr2 [] 41 [ve (.bool (decide (((cleanV v).k)=2))),ve (.bool (decide (((cleanV v).k)=2)))] aO ?_ ?_
 exact .H bA (r_eql rfl)<| .B 0 .nil
 refine aftI aO bT bU fun db dc ai aQ aR ar au=>?_
 have⟨bB,bC⟩:=au.f2 cp bA
 have bD:=au.g 1 7
 have⟨aS,bZ,b0⟩:=nw3 ar bV bW bX
 refine bY _ _ ?_
 rcases bc (decide (((cleanV v).k)=2)) with ab|ab
 have a6:=oT ab
 have b1:=hB bD ab
 refine wt b1<| wk fun dd b2=>?_
 refine wA tr4 [] 41 [ve (.pointer (some ⟨q9,6,none⟩)),ve (iv ((cleanV v).ref)),ve (.bool (decide (((cleanV v).ref)=1))),ve (.bool (decide (((cleanV v).ref)=1)))] ai ?_ ?_
 exact .F bB<| .J 0 isAgg3 aS<| .b 1 (r_eql rfl)<| .B 2 .nil
 refine aftI ai aQ aR fun de df cF b3 b4 cG b5=>?_
 have cq:=b5.g 3 2
 refine b2 _ _<| wp_ret (ret_k b3 (v:=.bool (decide (((cleanV v).ref)=1))) (res_t rfl cq _) ?_)
 refine ⟨?_,b4⟩
 show Ending.returned (.bool (decide (((cleanV v).ref)=1)))=Ending.returned (.bool (boolV v))
 first|rfl|(simp only [boolV,ab,bsm] <;> rfl)|(exfalso; omega)
 have a6:=oF ab
 have b6:=hB bD ab
 refine wf b6<| wk fun dg b7=>?_
 refine wA tr2 [] 41 [ve (.bool (decide (((cleanV v).k)=3))),ve (.bool (decide (((cleanV v).k)=3)))] ai ?_ ?_
 exact .H bC (r_eql rfl)<| .B 0 .nil
 refine aftI ai aQ aR fun dh di aj aT aU av aw=>?_
 have⟨aV,bE⟩:=aw.f2 bB bC
 have bF:=aw.g 1 12
 have⟨ax,b8,b9⟩:=nw3 av aS bZ b0
 refine b7 _ _ ?_
 rcases bc (decide (((cleanV v).k)=3)) with ac|ac
 have a7:=oT ac
 have ca:=hB bF ac
 refine wt ca<| wk fun dj cb=>?_
 refine wA tr12 [] 41 [ve (.pointer (some ⟨q9,1,none⟩)),ve (.pointer (some ⟨q9,1,none⟩)),ve (iv ((cleanV v).nk)),ve (.bool (!decide (((cleanV v).nk)=2))),ve (.bool (!decide (((cleanV v).nk)=2))),ve (gq (!decide (((cleanV v).nk)=2)) (.pointer (some ⟨q9,1,none⟩))),ve (gq (!decide (((cleanV v).nk)=2)) (nv (Nm.mk ((cleanV v).nk) ((cleanV v).nn)))),ve (gq (!decide (((cleanV v).nk)=2)) (nv (Nm.mk 0 0))),ve (gq (!decide (((cleanV v).nk)=2)) (.bool (equalM (Nm.mk ((cleanV v).nk) ((cleanV v).nn)) (Nm.mk 0 0)))),ve (gq (!decide (((cleanV v).nk)=2)) (.bool (!(equalM (Nm.mk ((cleanV v).nk) ((cleanV v).nn)) (Nm.mk 0 0))))),ve (.bool ((!decide (((cleanV v).nk)=2)) && (!(equalM (Nm.mk ((cleanV v).nk) ((cleanV v).nn)) (Nm.mk 0 0))))),ve (.bool ((!decide (((cleanV v).nk)=2)) && (!(equalM (Nm.mk ((cleanV v).nk) ((cleanV v).nn)) (Nm.mk 0 0)))))] aj ?_ ?_
 exact .F aV<| .f (fun k=>k.eq1 0 14 rfl)<| .J 1 isAgg3 ax<| .b 2 (r_neq rfl)<| .N 3<| .Q (fun k=>g0 (k.eq1 4 18 rfl)) (fun hG p k=>v_field rfl (k.fx 1 aV) (fun w=>rfl))<| .Q (fun k=>g0 (k.eq1 4 18 rfl)) (fun hG p k=>v_load rfl (cT hG (k.eq1 5 19 rfl)) (l_part isAgg23 sizeOf23 (ax.new_ p) lb))<| .Q (fun k=>g0 (k.eq1 4 18 rfl)) (fun hG p k=>v_build (ps:=[]) rfl parts0 (by kernel_rfl))<| .o1 (scC (G:=(!decide (((cleanV v).nk)=2))) rfl rfl rfl (fun _ _ k=>g0 (k.eq1 4 18 rfl)) rfl (fun hG _ w hn k=>⟨#[nv (Nm.mk ((cleanV v).nk) ((cleanV v).nn)),nv (Nm.mk 0 0)],args2 (cT hG (k.eq1 6 20 rfl)) (cT hG (k.eq1 7 21 rfl)),fun _=>by kernel_rfl,equal_c (Nm.mk ((cleanV v).nk) ((cleanV v).nn)) (Nm.mk 0 0) _ ⟩))<| .Q (fun k=>g0 (k.eq1 4 18 rfl)) (fun hG p k=>v_not rfl (cT hG (k.eq1 8 22 rfl)))<| .O 4 9<| .B 10 .nil
 refine aftI aj aT aU fun dk dl cr a8 a9 ct ba=>?_
 have cc:=ba.g 11 2
 refine cb _ _<| wp_ret (ret_k a8 (v:=.bool ((!decide (((cleanV v).nk)=2)) && (!(equalM (Nm.mk ((cleanV v).nk) ((cleanV v).nn)) (Nm.mk 0 0))))) (res_t rfl cc _) ?_)
 refine ⟨?_,a9⟩
 show Ending.returned (.bool ((!decide (((cleanV v).nk)=2)) && (!(equalM (Nm.mk ((cleanV v).nk) ((cleanV v).nn)) (Nm.mk 0 0)))))=Ending.returned (.bool (boolV v))
 first|rfl|(simp only [boolV,ab,ac,bsm] <;> rfl)|(exfalso; omega)
 have a7:=oF ac
 have bb:=hB bF ac
 refine wf bb<| wk fun cH bd=>?_
 refine wA tr2 [] 41 [ve (.bool (decide (((cleanV v).k)=4))),ve (.bool (decide (((cleanV v).k)=4)))] aj ?_ ?_
 exact .H bE (r_eql rfl)<| .B 0 .nil
 refine aftI aj aT aU fun cI cJ ae aB aC ak al=>?_
 have⟨aW,cd⟩:=al.f2 aV bE
 have aX:=al.g 1 25
 have⟨aD,be,bf⟩:=nw3 ak ax b8 b9
 refine bd _ _ ?_
 rcases bc (decide (((cleanV v).k)=4)) with aa|aa
 have aY:=oT aa
 have bg:=hB aX aa
 refine wt bg<| wk fun cK bh=>?_
 refine wA tr6 [] 41 [ve (.pointer (some ⟨q9,3,none⟩)),ve (.pointer (some ⟨q9,4,none⟩)),ve (sv az ((cleanV v).mag) ag),ve (iv (((cleanV v).mag).length:Int)),ve (.bool (!decide ((((cleanV v).mag).length:Int)≤0))),ve (.bool (!decide ((((cleanV v).mag).length:Int)≤0)))] ae ?_ ?_
 exact .F aW<| .f (fun k=>k.eq1 0 27 rfl)<| .J 1 isAgg24 aD<| .T (fun k=>v_lenR rfl elW (k.eq1 2 29 rfl))<| .b 3 (r_gtrK rfl)<| .B 4 .nil
 refine aftI ae aB aC fun cL cM cu bi bj cw bk=>?_
 have ce:=bk.g 5 2
 refine bh _ _<| wp_ret (ret_k bi (v:=.bool (!decide ((((cleanV v).mag).length:Int)≤0))) (res_t rfl ce _) ?_)
 refine ⟨?_,bj⟩
 show Ending.returned (.bool (!decide ((((cleanV v).mag).length:Int)≤0)))=Ending.returned (.bool (boolV v))
 first|rfl|(simp only [boolV,ab,ac,aa,bsm] <;> rfl)|(exfalso; omega)
 have aY:=oF aa
 have bl:=hB aX aa
 refine wf bl<| wk fun cN bm=>?_
 refine wA tr2 [] 41 [ve (.bool (decide (((cleanV v).k)=5))),ve (.bool (decide (((cleanV v).k)=5)))] ae ?_ ?_
 exact .H cd (r_eql rfl)<| .B 0 .nil
 refine aftI ae aB aC fun cO cP af aE aF am aG=>?_
 have aZ:=aG.f1 aW
 have a1:=aG.g 1 32
 have⟨aH,cx,cy⟩:=nw3 am aD be bf
 refine bm _ _ ?_
 rcases bc (decide (((cleanV v).k)=5)) with ad|ad
 have a3:=oT ad
 have bn:=hB a1 ad
 refine wt bn<| wk fun cQ bo=>?_
 refine wA tr5 [] 41 [ve (.pointer (some ⟨q9,5,none⟩)),ve (sv aA ((cleanV v).s) ah),ve (iv (((cleanV v).s).length:Int)),ve (.bool (!decide ((((cleanV v).s).length:Int)≤0))),ve (.bool (!decide ((((cleanV v).s).length:Int)≤0)))] af ?_ ?_
 exact .F aZ<| .J 0 isAgg27 aH<| .T (fun k=>v_lenR rfl elU (k.eq1 1 35 rfl))<| .b 2 (r_gtrK rfl)<| .B 3 .nil
 refine aftI af aE aF fun cR cS cz bp bq cA br=>?_
 have cf:=br.g 4 2
 refine bo _ _<| wp_ret (ret_k bp (v:=.bool (!decide ((((cleanV v).s).length:Int)≤0))) (res_t rfl cf _) ?_)
 refine ⟨?_,bq⟩
 show Ending.returned (.bool (!decide ((((cleanV v).s).length:Int)≤0)))=Ending.returned (.bool (boolV v))
 first|rfl|(simp only [boolV,ab,ac,aa,ad,bsm] <;> rfl)|(exfalso; omega)
 have a3:=oF ad
 have bs:=hB a1 ad
 refine wf bs<| ws<| bR _ _<| wk fun cU bt=>?_
 refine wA tr4 [] 41 [ve (pv q9),ve (iv ((cleanV v).k)),ve (.bool (decide (((cleanV v).k)=6))),ve (.bool (decide (((cleanV v).k)=6)))] af ?_ ?_
 exact .F aZ<| .J 0 isAgg3 aH<| .b 1 (r_eql rfl)<| .B 2 .nil
 refine aftI af aE aF fun cV cW cB bu bv cC bw=>?_
 have ch:=bw.g 3 2
 refine bt _ _<| wp_ret (ret_k bu (v:=.bool (decide (((cleanV v).k)=6))) (res_t rfl ch _) ?_)
 refine ⟨?_,bv⟩
 show Ending.returned (.bool (decide (((cleanV v).k)=6)))=Ending.returned (.bool (boolV v))
 first|rfl|(simp only [boolV,ab,ac,aa,ad,bsm] <;> rfl)|(exfalso; omega)
theorem cloose_c (v:Vl) (Av:Option Addr) (cv:Nat) (Bv:Option Addr) (dv:Nat) (u:Vl) (Au:Option Addr) (cu:Nat) (Bu:Option Addr) (du:Nat) (w:World) (hmv:SRow w .u32 Av v.mag cv) (hsv:SRow w .u16 Bv v.s dv) (hmu:SRow w .u32 Au u.mag cu) (hsu:SRow w .u16 Bu u.s du) (hvv:VOk v) (hvu:VOk u):Calls prog 27 #[vv v Av cv Bv dv,vv u Au cu Bu du] w (IsRet (.tuple #[.bool ((looseV v u).1),iv ((looseV v u).2)]) w):=by
 refine enter_abs func27 rfl fun a0 cE it hp=>?_
 have cE:a0.tmps.size=91:=cE
 have dE:New w w:=Upd.refl _ _
 have hp0:a0.eval (.tmp 0)=vv v Av cv Bv dv:=hp 0 _ rfl
 have hp1:a0.eval (.tmp 1)=vv u Au cu Bu du:=hp 1 _ rfl
 have hlv1:=hvv.clean.mlen
 have hlu1:=hvu.clean.mlen
 have hlv2:=hvv.clean.counted.mlen
 have hlu2:=hvu.clean.counted.mlen
 have kR:=hvv.clean.counted.nlo
 have kS:=hvv.clean.counted.nhi
 have kT:=hvu.clean.counted.nlo
 have kU:=hvu.clean.counted.nhi
 refine wk fun K1 iu=>?_
 refine wB tr4 [] [] 91 [IsNew w 29 (c7 v Av cv Bv dv),IsNew w 29 (c7 u Au cu Bu du),vF,ve (iv 0)] [0,1] cE ?_ heN ?_
 exact .X hp0<| .X hp1<| .c<| .c .nil
 refine aftI cE it dE fun a2 w3 gZ iw bq kV dF=>?_
 obtain⟨q9,h8,g3,dG⟩:=dF.G 0 2
 obtain⟨aJ,dH,g4,dI⟩:=dF.G 1 3
 have hne16:=dF.ne 0 1 2 3 h8 dH
 have jD:=Nat.le_trans dE.size g3
 have jE:=Nat.le_trans dE.size g4
 refine iu _ _ <| wk fun kW g5=>?_
 refine wp_g0 [true,true,true,true,false,false] [(4,false),(5,false)] 91
  [ve (vv v Av cv Bv dv),
  (VP (cleanV v)),ve (vv u Au cu Bu du),
  (VP (cleanV u)),vt,vt] gZ (.eq (.cons (fun _ _ _ n ⟨_,_,_,_,e,h,i⟩=>⟨_,_,_,_,e,h.new_ n,i.new_ n⟩) (.eq (.cons (fun _ _ _ n ⟨_,_,_,_,e,h,i⟩=>⟨_,_,_,_,e,h.new_ n,i.new_ n⟩) (.tt (.tt .nil)))))) ?_ ?_
 refine .L9 h8 dG ?_
 refine .o1 (tkC rfl (noG rfl) rfl fun _ w hn k=>(by
  refine ⟨#[vv v Av cv Bv dv],_,args1 (k.eq1 0 8 rfl),fun w=>by kernel_rfl,clean_c v _ _ _ _ _ (hmv.new_ (bq.transNew hn)) (hsv.new_ (bq.transNew hn)),?_⟩
  rintro e w' ⟨A1,c2,A3,c4,rfl,hmo0,hmo1,hm⟩
  exact⟨_,rfl,hm,⟨A1,c2,A3,c4,rfl,hmo0,hmo1⟩⟩)) ?_
 refine .L9 dH dI ?_
 refine .o1 (tkC rfl (noG rfl) rfl fun _ w hn k=>(by
  refine ⟨#[vv u Au cu Bu du],_,args1 (k.eq1 2 10 rfl),fun w=>by kernel_rfl,clean_c u _ _ _ _ _ (hmu.new_ (bq.transNew hn)) (hsu.new_ (bq.transNew hn)),?_⟩
  rintro e w' ⟨A9,iB,iC,iD,rfl,hmo0,hmo1,hm⟩
  exact⟨_,rfl,hm,⟨A9,iB,iC,iD,rfl,hmo0,hmo1⟩⟩)) ?_
 exact .off<| .off .nil
 refine aftI gZ iw bq fun g1 kX dJ g6 g7 dK bv=>?_
 have⟨dL,dM⟩:=bv.f2 h8 dH
 obtain⟨aQ,aF,aM,aG,dN,g8,g9⟩:=bv.G 1 9
 have dN:g1.eval (.tmp 9)=vv (cleanV v) aQ aF aM aG:=dN
 obtain⟨aN,aH,aR,aI,dO,ha,hc⟩:=bv.G 3 11
 have dO:g1.eval (.tmp 11)=vv (cleanV u) aN aH aR aI:=dO
 have⟨br,hd⟩:=nw2 dK dG dI
 refine sS9 dL dN br fun iE hh bs hf=>?_
 have hj:=g8.fr br bs
 have hl:=g9.fr br bs
 have ho:=ha.fr br bs
 have hr:=hc.fr br bs
 have bt:=hf hne16.symm hd
 have hs:=g7.tR bs
 refine sS9 dM dO bt fun iF dP bu ht=>?_
 have hv:=hj.fr bt bu
 have hw:=hl.fr bt bu
 have hx:=ho.fr bt bu
 have hy:=hr.fr bt bu
 have dQ:=ht hne16 hh
 have hz:=hs.tR bu
 refine g5 _ _ <| wk fun k0 hA=>?_
 refine wb<| wk fun k1 hC=>?_
 refine wA tr6 [] 91 [ve (pv q9),ve (iv ((cleanV v).k)),ve (pv aJ),ve (iv ((cleanV u).k)),ve (.bool (decide (((cleanV v).k)=((cleanV u).k)))),ve (.bool (decide (((cleanV v).k)=((cleanV u).k))))] dJ ?_ ?_
 exact .F dL<| .J 0 isAgg3 dQ<| .F dM<| .J 2 isAgg3 dP<| .T (fun k=>v_bin rfl (k.eq1 1 14 rfl) (k.eq1 3 16 rfl) (fun _=>rfl) (r_eql rfl))<| .B 4 .nil
 refine aftI dJ g6 hz fun k2 k3 bw dR dS a8 cc=>?_
 have⟨dT,dU⟩:=cc.f2 dL dM
 have g2:=cc.g 5 12
 have⟨cd,ce,cf,ch⟩:=nw4 a8 dQ dP hv hw
 have⟨ci,cj⟩:=nw2 a8 hx hy
 refine hC _ _ ?_
 rcases bc (decide (((cleanV v).k)=((cleanV u).k))) with an|an
 have ew:=oT an
 have hD:=hB g2 an
 refine wt hD<| wk fun k4 hE=>?_
 refine wA tr5 [] 91 [ve (vv (cleanV v) aQ aF aM aG),ve (vv (cleanV u) aN aH aR aI),ve (.bool (strictV (cleanV v) (cleanV u))),ve (.bool (strictV (cleanV v) (cleanV u))),ve (iv 0)] bw ?_ ?_
 exact .L9 dT cd<| .L9 dU ce<| .C2 0 1 (fun p=>cstrict_c (cleanV v) _ _ _ _ (cleanV u) _ _ _ _ _ (cf.new_ p) (ch.new_ p) (ci.new_ p) (cj.new_ p))<| .B 2<| .c .nil
 refine aftI bw dR dS fun k5 k6 jF hF ex jG dV=>?_
 have iG:=dV.g 3 4
 have hH:=dV.g 4 5
 refine hE _ _<| wp_ret (ret_k hF (v:=.tuple #[.bool (strictV (cleanV v) (cleanV u)),iv 0]) (res_tt rfl iG hH _) ?_)
 refine ⟨?_,ex⟩
 show Ending.returned (.tuple #[.bool (strictV (cleanV v) (cleanV u)),iv 0])=Ending.returned (.tuple #[.bool ((looseV v u).1),iv ((looseV v u).2)])
 first|rfl|(simp only [looseV,loose1,loose2,loose3,noneV,an,bsm] <;> rfl)|(exfalso; omega)
 have ew:=oF an
 have ey:=hB g2 an
 refine wf ey<| wk fun jH ez=>?_
 refine wA tr7 [] 91 [ve (vv (cleanV v) aQ aF aM aG),ve (.bool (decide ((cleanV v).k=0) || decide ((cleanV v).k=1))),ve (.bool (decide ((cleanV v).k=0) || decide ((cleanV v).k=1))),ve (gq (!(decide ((cleanV v).k=0) || decide ((cleanV v).k=1))) (vv (cleanV u) aN aH aR aI)),ve (gq (!(decide ((cleanV v).k=0) || decide ((cleanV v).k=1))) (.bool (decide ((cleanV u).k=0) || decide ((cleanV u).k=1)))),ve (.bool ((decide ((cleanV v).k=0) || decide ((cleanV v).k=1)) || (decide ((cleanV u).k=0) || decide ((cleanV u).k=1)))),ve (.bool ((decide ((cleanV v).k=0) || decide ((cleanV v).k=1)) || (decide ((cleanV u).k=0) || decide ((cleanV u).k=1))))] bw ?_ ?_
 exact .L9 dT cd<| .C 0 (fun p=>none_c (cleanV v) _ _ _ _ _ (cf.new_ p) (ch.new_ p))<| .N 1<| .Q (fun k=>g0' (k.eq1 2 24 rfl)) (fun hG p k=>v_load rfl (k.fx 3 dU) (l_agg isAgg29 sizeOf29 (ce.new_ p) rfl))<| .o1 (scC (G:=(!(decide ((cleanV v).k=0) || decide ((cleanV v).k=1)))) rfl rfl rfl (fun _ _ k=>g0' (k.eq1 2 24 rfl)) rfl (fun hG _ w hn k=>⟨#[vv (cleanV u) aN aH aR aI],args1 (cT hG (k.eq1 3 25 rfl)),fun _=>by kernel_rfl,none_c (cleanV u) _ _ _ _ _ (ci.new_ hn) (cj.new_ hn)⟩))<| .W 2 4<| .B 5 .nil
 refine aftI bw dR dS fun jI jJ a9 cF cG aS bx=>?_
 have⟨cl,cm⟩:=bx.f2 dT dU
 have dW:=bx.g 6 21
 have⟨bz,bA,bB,bC⟩:=nw4 aS cd ce cf ch
 have⟨bD,bE⟩:=nw2 aS ci cj
 refine ez _ _ ?_
 rcases bc (((decide ((cleanV v).k=0) || decide ((cleanV v).k=1)) || (decide ((cleanV u).k=0) || decide ((cleanV u).k=1)))) with ag|ag
 have eA:=hB dW ag
 refine wt eA<| wk fun jK eB=>?_
 refine wA tr8 [] 91 [ve (vv (cleanV v) aQ aF aM aG),ve (.bool (decide ((cleanV v).k=0) || decide ((cleanV v).k=1))),ve (.bool (decide ((cleanV v).k=0) || decide ((cleanV v).k=1))),ve (gq (decide ((cleanV v).k=0) || decide ((cleanV v).k=1)) (vv (cleanV u) aN aH aR aI)),ve (gq (decide ((cleanV v).k=0) || decide ((cleanV v).k=1)) (.bool (decide ((cleanV u).k=0) || decide ((cleanV u).k=1)))),ve (.bool ((decide ((cleanV v).k=0) || decide ((cleanV v).k=1)) && (decide ((cleanV u).k=0) || decide ((cleanV u).k=1)))),ve (.bool ((decide ((cleanV v).k=0) || decide ((cleanV v).k=1)) && (decide ((cleanV u).k=0) || decide ((cleanV u).k=1)))),ve (iv 0)] a9 ?_ ?_
 exact .L9 cl bz<| .C 0 (fun p=>none_c (cleanV v) _ _ _ _ _ (bB.new_ p) (bC.new_ p))<| .N 1<| .Q (fun k=>g0 (k.eq1 2 30 rfl)) (fun hG p k=>v_load rfl (k.fx 3 cm) (l_agg isAgg29 sizeOf29 (bA.new_ p) rfl))<| .o1 (scC (G:=(decide ((cleanV v).k=0) || decide ((cleanV v).k=1))) rfl rfl rfl (fun _ _ k=>g0 (k.eq1 2 30 rfl)) rfl (fun hG _ w hn k=>⟨#[vv (cleanV u) aN aH aR aI],args1 (cT hG (k.eq1 3 31 rfl)),fun _=>by kernel_rfl,none_c (cleanV u) _ _ _ _ _ (bD.new_ hn) (bE.new_ hn)⟩))<| .O 2 4<| .B 5<| .c .nil
 refine aftI a9 cF cG fun jL jM jb eC eD jc cH=>?_
 have hI:=cH.g 6 4
 have hJ:=cH.g 7 5
 refine eB _ _<| wp_ret (ret_k eC (v:=.tuple #[.bool ((decide ((cleanV v).k=0) || decide ((cleanV v).k=1)) && (decide ((cleanV u).k=0) || decide ((cleanV u).k=1))),iv 0]) (res_tt rfl hI hJ _) ?_)
 refine ⟨?_,eD⟩
 show Ending.returned (.tuple #[.bool ((decide ((cleanV v).k=0) || decide ((cleanV v).k=1)) && (decide ((cleanV u).k=0) || decide ((cleanV u).k=1))),iv 0])=Ending.returned (.tuple #[.bool ((looseV v u).1),iv ((looseV v u).2)])
 first|rfl|(simp only [looseV,loose1,loose2,loose3,noneV,an,ag,bsm] <;> rfl)|(exfalso; omega)
 have eE:=hB dW ag
 have aa:(decide ((cleanV v).k=0) || decide ((cleanV v).k=1))=false:=ol ag
 have ac:(decide ((cleanV v).k=0))=false:=ol aa
 have iH:=oF ac
 have ad:(decide ((cleanV v).k=1))=false:=or_ aa
 have iI:=oF ad
 have ab:(decide ((cleanV u).k=0) || decide ((cleanV u).k=1))=false:=or_ ag
 have ae:(decide ((cleanV u).k=0))=false:=ol ab
 have iJ:=oF ae
 have af:(decide ((cleanV u).k=1))=false:=or_ ab
 have iK:=oF af
 refine wf eE<| ws<| hA _ _<| wk fun jN eF=>?_
 refine wp_g0 [true,true,true,true,false,false] [(4,false),(5,false)] 91
  [ve (vv (cleanV v) aQ aF aM aG),
  (VP (countedV (cleanV v))),ve (vv (cleanV u) aN aH aR aI),
  (VP (countedV (cleanV u))),vt,vt] a9 (.eq (.cons (fun _ _ _ n ⟨_,_,_,_,e,h,i⟩=>⟨_,_,_,_,e,h.new_ n,i.new_ n⟩) (.eq (.cons (fun _ _ _ n ⟨_,_,_,_,e,h,i⟩=>⟨_,_,_,_,e,h.new_ n,i.new_ n⟩) (.tt (.tt .nil)))))) ?_ ?_
 refine .L9 cl bz ?_
 refine .o1 (tkC rfl (noG rfl) rfl fun _ w hn k=>(by
  refine ⟨#[vv (cleanV v) aQ aF aM aG],_,args1 (k.eq1 0 34 rfl),fun w=>by kernel_rfl,counted_c (cleanV v) _ _ _ _ _ (bB.new_ hn) (bC.new_ hn),?_⟩
  rintro e w' ⟨iS,iT,aM,iU,rfl,hmo0,hmo1,hm⟩
  exact⟨_,rfl,hm,⟨iS,iT,aM,iU,rfl,hmo0,hmo1⟩⟩)) ?_
 refine .L9 cm bA ?_
 refine .o1 (tkC rfl (noG rfl) rfl fun _ w hn k=>(by
  refine ⟨#[vv (cleanV u) aN aH aR aI],_,args1 (k.eq1 2 36 rfl),fun w=>by kernel_rfl,counted_c (cleanV u) _ _ _ _ _ (bD.new_ hn) (bE.new_ hn),?_⟩
  rintro e w' ⟨iV,iW,iX,iY,rfl,hmo0,hmo1,hm⟩
  exact⟨_,rfl,hm,⟨iV,iW,iX,iY,rfl,hmo0,hmo1⟩⟩)) ?_
 exact .off<| .off .nil
 refine aftI a9 cF cG fun dX jO cI eG eH aT ba=>?_
 have⟨cn,co⟩:=ba.f2 cl cm
 obtain⟨ao,ah,aq,ak,cp,eI,eJ⟩:=ba.G 1 35
 have cp:dX.eval (.tmp 35)=vv (countedV (cleanV v)) ao ah aq ak:=cp
 obtain⟨ap,ai,au,am,cq,eK,eL⟩:=ba.G 3 37
 have cq:dX.eval (.tmp 37)=vv (countedV (cleanV u)) ap ai au am:=cq
 have⟨av,eM,eN,eO⟩:=nw4 aT bz bA bB bC
 have⟨eP,eQ⟩:=nw2 aT bD bE
 refine sS9 cn cp av fun hK eS aw eR=>?_
 have eU:=eN.fr av aw
 have eV:=eO.fr av aw
 have eW:=eP.fr av aw
 have eX:=eQ.fr av aw
 have eY:=eI.fr av aw
 have eZ:=eJ.fr av aw
 have e0:=eK.fr av aw
 have e1:=eL.fr av aw
 have ax:=eR hne16.symm eM
 have e2:=eH.tR aw
 refine sS9 co cq ax fun hL cJ ay e3=>?_
 have jd:=eU.fr ax ay
 have je:=eV.fr ax ay
 have jf:=eW.fr ax ay
 have jg:=eX.fr ax ay
 have e5:=eY.fr ax ay
 have e6:=eZ.fr ax ay
 have e7:=e0.fr ax ay
 have e8:=e1.fr ax ay
 have cK:=e3 hne16 eS
 have e9:=e2.tR ay
 refine eF _ _ <| wk fun jR cL=>?_
 refine wk fun jS fa=>?_
 refine wA tr5 [] 91 [ve (pv q9),ve (iv ((countedV (cleanV v)).k)),ve (pv aJ),ve (iv ((countedV (cleanV u)).k)),ve (.bool (!decide (((countedV (cleanV v)).k)≤((countedV (cleanV u)).k))))] cI ?_ ?_
 exact .F cn<| .J 0 isAgg3 cK<| .F co<| .J 2 isAgg3 cJ<| .T (fun k=>v_bin rfl (k.eq1 1 39 rfl) (k.eq1 3 41 rfl) (fun _=>rfl) (r_gtrK rfl)) .nil
 refine aftI cI eG e9 fun jT jU bb cM cN aU bF=>?_
 have⟨bG,bH⟩:=bF.f2 cn co
 have d2:=bF.g 4 42
 have⟨bd,be,cO,cP⟩:=nw4 aU cK cJ e5 e6
 have⟨cQ,cR⟩:=nw2 aU e7 e8
 refine fa _ _ ?_
 rcases bc ((!decide (((countedV (cleanV v)).k)≤((countedV (cleanV u)).k)))) with aj|aj
 have fb:=hB d2 aj
 have az:(decide (((countedV (cleanV v)).k)≤((countedV (cleanV u)).k)))=false:=nF aj
 have iZ:=oF az
 refine wt fb<| wp_g0 [true,true,false,false] [(2,false),(3,false)] 91
  [ve (vv (countedV (cleanV u)) ap ai au am),ve (vv (countedV (cleanV v)) ao ah aq ak),vt,vt] bb (.eq (.eq (.tt (.tt .nil)))) ?_ ?_
 exact .L9 bH be<| .L9 bG bd<| .off<| .off .nil
 refine aftI bb cM cN fun jV jW cS fc fd aV bf=>?_
 have⟨cr,ct⟩:=bf.f2 bG bH
 have hM:=bf.g 0 43
 have hN:=bf.g 1 44
 have⟨a4,fe,ff,fg⟩:=nw4 aV bd be cO cP
 have⟨fh,fi⟩:=nw2 aV cQ cR
 refine sS9 cr hM a4 fun hO fk a5 fj=>?_
 have fm:=ff.fr a4 a5
 have fn:=fg.fr a4 a5
 have fo:=fh.fr a4 a5
 have fp:=fi.fr a4 a5
 have a6:=fj hne16.symm fe
 have fq:=fd.tR a5
 refine sS9 ct hN a6 fun hP cU a7 fs=>?_
 have fu:=fm.fr a6 a7
 have fv:=fn.fr a6 a7
 have fw:=fo.fr a6 a7
 have fy:=fp.fr a6 a7
 have cV:=fs hne16 fk
 have fz:=fq.tR a7
 refine cL _ _ <| wk fun jZ fA=>?_
 refine wb<| wk fun j0 fB=>?_
 refine wA tr6 [] 91 [ve (pv q9),ve (iv ((countedV (cleanV u)).k)),ve (pv aJ),ve (iv ((countedV (cleanV v)).k)),ve (.bool (decide (((countedV (cleanV u)).k)=((countedV (cleanV v)).k)))),ve (.bool (decide (((countedV (cleanV u)).k)=((countedV (cleanV v)).k))))] cS ?_ ?_
 exact .F cr<| .J 0 isAgg3 cV<| .F ct<| .J 2 isAgg3 cU<| .T (fun k=>v_bin rfl (k.eq1 1 47 rfl) (k.eq1 3 49 rfl) (fun _=>rfl) (r_eql rfl))<| .B 4 .nil
 refine aftI cS fc fz fun j1 j2 bg cW cX aW bI=>?_
 have⟨cw,cx⟩:=bI.f2 cr ct
 have d7:=bI.g 5 45
 have⟨bJ,bK,cY,cZ⟩:=nw4 aW cV cU fu fv
 have⟨c0,c1⟩:=nw2 aW fw fy
 refine fB _ _ ?_
 rcases bc (decide (((countedV (cleanV u)).k)=((countedV (cleanV v)).k))) with aA|aA
 have d8:=oT aA
 have fC:=hB d7 aA
 refine wt fC<| wk fun j3 fD=>?_
 refine wA tr5 [] 91 [ve (vv (countedV (cleanV u)) ap ai au am),ve (vv (countedV (cleanV v)) ao ah aq ak),ve (.bool (strictV (countedV (cleanV u)) (countedV (cleanV v)))),ve (.bool (strictV (countedV (cleanV u)) (countedV (cleanV v)))),ve (iv 0)] bg ?_ ?_
 exact .L9 cw bJ<| .L9 cx bK<| .C2 0 1 (fun p=>cstrict_c (countedV (cleanV u)) _ _ _ _ (countedV (cleanV v)) _ _ _ _ _ (c0.new_ p) (c1.new_ p) (cY.new_ p) (cZ.new_ p))<| .B 2<| .c .nil
 refine aftI bg cW cX fun j4 j5 jh fE fF ji c3=>?_
 have hQ:=c3.g 3 4
 have hR:=c3.g 4 5
 refine fD _ _<| wp_ret (ret_k fE (v:=.tuple #[.bool (strictV (countedV (cleanV u)) (countedV (cleanV v))),iv 0]) (res_tt rfl hQ hR _) ?_)
 refine ⟨?_,fF⟩
 show Ending.returned (.tuple #[.bool (strictV (countedV (cleanV u)) (countedV (cleanV v))),iv 0])=Ending.returned (.tuple #[.bool ((looseV v u).1),iv ((looseV v u).2)])
 first|rfl|(simp only [looseV,loose1,loose2,loose3,noneV,an,ag,aa,aa,ac,ac,ad,ad,ab,ab,ae,ae,af,af,aj,az,az,aA,bsm] <;> rfl)|(exfalso; omega)
 have d8:=oF aA
 have fG:=hB d7 aA
 refine wf fG<| wk fun j6 fH=>?_
 refine wA tr9 [] 91 [ve (pv q9),ve (iv ((countedV (cleanV u)).k)),ve (.bool (decide (((countedV (cleanV u)).k)=3))),ve (.bool (decide (((countedV (cleanV u)).k)=3))),ve (gq (decide (((countedV (cleanV u)).k)=3)) (pv aJ)),ve (gq (decide (((countedV (cleanV u)).k)=3)) (iv ((countedV (cleanV v)).k))),ve (gq (decide (((countedV (cleanV u)).k)=3)) (.bool (decide (((countedV (cleanV v)).k)=4)))),ve (.bool ((decide (((countedV (cleanV u)).k)=3)) && (decide (((countedV (cleanV v)).k)=4)))),ve (.bool ((decide (((countedV (cleanV u)).k)=3)) && (decide (((countedV (cleanV v)).k)=4))))] bg ?_ ?_
 exact .F cw<| .J 0 isAgg3 bJ<| .b 1 (r_eql rfl)<| .N 2<| .Q (fun k=>g0 (k.eq1 3 58 rfl)) (fun hG p k=>v_field rfl (k.fx 3 cx) (fun w=>rfl))<| .Q (fun k=>g0 (k.eq1 3 58 rfl)) (fun hG p k=>v_load rfl (cT hG (k.eq1 4 59 rfl)) (l_one isAgg3 ((bK.new_ p).cell 0)))<| .Q (fun k=>g0 (k.eq1 3 58 rfl)) (fun hG p k=>v_bin rfl (cT hG (k.eq1 5 60 rfl)) rfl (fun _=>rfl) (r_eql rfl))<| .O 3 6<| .B 7 .nil
 refine aftI bg cW cX fun j7 j8 bh c5 c9 aX bL=>?_
 have⟨cy,cz⟩:=bL.f2 cw cx
 have d9:=bL.g 8 54
 have⟨bM,bN,da,fI⟩:=nw4 aX bJ bK cY cZ
 have⟨fJ,fK⟩:=nw2 aX c0 c1
 refine fH _ _ ?_
 rcases bc (((decide (((countedV (cleanV u)).k)=3)) && (decide (((countedV (cleanV v)).k)=4)))) with aB|aB
 have fL:=hB d9 aB
 have bO:(decide (((countedV (cleanV u)).k)=3))=true:=al aB
 have i0:=oT bO
 have bP:(decide (((countedV (cleanV v)).k)=4))=true:=ar aB
 have i1:=oT bP
 refine wt fL<| wk fun j9 fM=>?_
 refine wA tr7 [] 91 [ve (.pointer (some ⟨aJ,3,none⟩)),ve (.agg #[.bool ((countedV (cleanV v)).neg),sv ao ((countedV (cleanV v)).mag) ah]),ve (.pointer (some ⟨q9,1,none⟩)),ve (nv (Nm.mk ((countedV (cleanV u)).nk) ((countedV (cleanV u)).nn))),ve (.bool (alikeB ((countedV (cleanV v)).neg) ((countedV (cleanV v)).mag) (Nm.mk ((countedV (cleanV u)).nk) ((countedV (cleanV u)).nn)))),ve (.bool (alikeB ((countedV (cleanV v)).neg) ((countedV (cleanV v)).mag) (Nm.mk ((countedV (cleanV u)).nk) ((countedV (cleanV u)).nn)))),ve (iv 0)] bh ?_ ?_
 exact .F cz<| .K6 0 bN<| .F cy<| .K2 2 bM<| .C2 1 3 (fun p=>alike_c ((countedV (cleanV v)).neg) _ ((countedV (cleanV v)).mag) _ (Nm.mk ((countedV (cleanV u)).nk) ((countedV (cleanV u)).nn)) _ (da.new_ p) hvv.clean.counted.limbs (by first|omega|(simp only [List.length_nil,List.length_take,List.length_drop]; omega)|(simp only [List.length_cons,List.length_nil]; omega)) (by omega) (by omega))<| .B 4<| .c .nil
 refine aftI bh c5 c9 fun ka kb jj fN fO jk db=>?_
 have hS:=db.g 5 4
 have hT:=db.g 6 5
 refine fM _ _<| wp_ret (ret_k fN (v:=.tuple #[.bool (alikeB ((countedV (cleanV v)).neg) ((countedV (cleanV v)).mag) (Nm.mk ((countedV (cleanV u)).nk) ((countedV (cleanV u)).nn))),iv 0]) (res_tt rfl hS hT _) ?_)
 refine ⟨?_,fO⟩
 show Ending.returned (.tuple #[.bool (alikeB ((countedV (cleanV v)).neg) ((countedV (cleanV v)).mag) (Nm.mk ((countedV (cleanV u)).nk) ((countedV (cleanV u)).nn))),iv 0])=Ending.returned (.tuple #[.bool ((looseV v u).1),iv ((looseV v u).2)])
 first|rfl|(simp only [looseV,loose1,loose2,loose3,noneV,an,ag,aa,aa,ac,ac,ad,ad,ab,ab,ae,ae,af,af,aj,az,az,aA,aB,bO,bO,bP,bP,bsm] <;> rfl)|(exfalso; omega)
 have fP:=hB d9 aB
 refine wf fP<| wk fun kc fQ=>?_
 refine wA tr9 [] 91 [ve (pv q9),ve (iv ((countedV (cleanV u)).k)),ve (.bool (decide (((countedV (cleanV u)).k)=3))),ve (.bool (decide (((countedV (cleanV u)).k)=3))),ve (gq (decide (((countedV (cleanV u)).k)=3)) (pv aJ)),ve (gq (decide (((countedV (cleanV u)).k)=3)) (iv ((countedV (cleanV v)).k))),ve (gq (decide (((countedV (cleanV u)).k)=3)) (.bool (decide (((countedV (cleanV v)).k)=5)))),ve (.bool ((decide (((countedV (cleanV u)).k)=3)) && (decide (((countedV (cleanV v)).k)=5)))),ve (.bool ((decide (((countedV (cleanV u)).k)=3)) && (decide (((countedV (cleanV v)).k)=5))))] bh ?_ ?_
 exact .F cy<| .J 0 isAgg3 bM<| .b 1 (r_eql rfl)<| .N 2<| .Q (fun k=>g0 (k.eq1 3 72 rfl)) (fun hG p k=>v_field rfl (k.fx 3 cz) (fun w=>rfl))<| .Q (fun k=>g0 (k.eq1 3 72 rfl)) (fun hG p k=>v_load rfl (cT hG (k.eq1 4 73 rfl)) (l_one isAgg3 ((bN.new_ p).cell 0)))<| .Q (fun k=>g0 (k.eq1 3 72 rfl)) (fun hG p k=>v_bin rfl (cT hG (k.eq1 5 74 rfl)) rfl (fun _=>rfl) (r_eql rfl))<| .O 3 6<| .B 7 .nil
 refine aftI bh c5 c9 fun kd hU bi dc bQ aY bR=>?_
 have⟨hV,hW⟩:=bR.f2 cy cz
 have ea:=bR.g 8 68
 have⟨dd,fR,fS,fT⟩:=nw4 aY bM bN da fI
 have⟨fU,fV⟩:=nw2 aY fJ fK
 refine fQ _ _ ?_
 rcases bc (((decide (((countedV (cleanV u)).k)=3)) && (decide (((countedV (cleanV v)).k)=5)))) with aO|aO
 have fW:=hB ea aO
 have bj:(decide (((countedV (cleanV u)).k)=3))=true:=al aO
 have i2:=oT bj
 have bS:(decide (((countedV (cleanV v)).k)=5))=true:=ar aO
 have i3:=oT bS
 have bT:(decide (((countedV (cleanV v)).k)=4))=false:=ax1 aB bj
 have i4:=oF bT
 refine wt fW<| wk fun ke fX=>?_
 refine wB [true,true,true,true,true,true,false,false] [4] [(6,false),(7,true)] 91 [ve (vv (countedV (cleanV v)) ao ah aq ak),ve (.tuple #[nv ((numberV (countedV (cleanV v))).1),iv ((numberV (countedV (cleanV v))).2)]),ve (.tuple #[nv ((numberV (countedV (cleanV v))).1),iv ((numberV (countedV (cleanV v))).2)]),ve (nv ((numberV (countedV (cleanV v))).1)),ve (iv ((numberV (countedV (cleanV v))).2)),IsNew hU 23 [iv 0,iv 0],vt,vt] [5] bi ?_ ?_ ?_
 refine .L9 hW fR<| .C 0 (fun p=>cnumber_c (countedV (cleanV v)) _ _ _ _ _ (fS.new_ p) (fT.new_ p) hvv.clean.counted)<| .N 1<| .E 2 ?_
 refine .o3 ?_
 exact .Y<| .off<| .off .nil
 refine eg1 ?_
 exact eager_take rfl rfl fun _ w hn k=>⟨iv ((numberV (countedV (cleanV v))).2),fun w=>v_extract rfl (k.eq1 2 77 rfl) rfl,rfl⟩
 refine aftI bi dc bQ fun eb kf de fY fZ bU bk=>?_
 have hX:=bk.f1 hV
 have ec:=bk.g 3 80
 have ed:=bk.g 4 81
 obtain⟨hY,ee,df,bV⟩:=bk.G 5 6
 have f0:=dd.new_ bU
 have hne367:q9 ≠ hY:=by have h1:=dd.lt; have h2:=df; omega
 have jl:=Nat.le_trans bQ.size df
 have⟨f1,f2⟩:=nw2 bU fU fV
 refine sS2 ee ec bV fun kg f3 bW f4=>?_
 have jm:=f1.fr bV bW
 have jn:=f2.fr bV bW
 have f6:=f4 hne367 f0
 have f7:=fZ.tR bW
 refine sP ed de fY fun hZ dg f8 aK eg=>?_
 have⟨h3,ki,kj⟩:=aK.q3 hX ec ed
 have h4:=aK.q ee
 refine fX _ _ <| wk fun kk f9=>?_
 refine wA tr11 [] 91 [ve (iv ((numberV (countedV (cleanV v))).2)),ve (.bool (decide (((numberV (countedV (cleanV v))).2)=0))),ve (.bool (decide (((numberV (countedV (cleanV v))).2)=0))),ve (gq (decide (((numberV (countedV (cleanV v))).2)=0)) (.pointer (some ⟨q9,1,none⟩))),ve (gq (decide (((numberV (countedV (cleanV v))).2)=0)) (nv (Nm.mk ((countedV (cleanV u)).nk) ((countedV (cleanV u)).nn)))),ve (gq (decide (((numberV (countedV (cleanV v))).2)=0)) (nv ((numberV (countedV (cleanV v))).1))),ve (gq (decide (((numberV (countedV (cleanV v))).2)=0)) (.bool (equalM (Nm.mk ((countedV (cleanV u)).nk) ((countedV (cleanV u)).nn)) ((numberV (countedV (cleanV v))).1)))),ve (.bool ((decide (((numberV (countedV (cleanV v))).2)=0)) && (equalM (Nm.mk ((countedV (cleanV u)).nk) ((countedV (cleanV u)).nn)) ((numberV (countedV (cleanV v))).1)))),ve (iv ((numberV (countedV (cleanV v))).2)),ve (.bool ((decide (((numberV (countedV (cleanV v))).2)=0)) && (equalM (Nm.mk ((countedV (cleanV u)).nk) ((countedV (cleanV u)).nn)) ((numberV (countedV (cleanV v))).1)))),ve (iv ((numberV (countedV (cleanV v))).2))] dg ?_ ?_
 exact .M eg<| .b 0 (r_eql rfl)<| .N 1<| .Q (fun k=>g0 (k.eq1 2 84 rfl)) (fun hG p k=>v_field rfl (k.fx 2 h3) (fun w=>rfl))<| .Q (fun k=>g0 (k.eq1 2 84 rfl)) (fun hG p k=>v_load rfl (cT hG (k.eq1 3 85 rfl)) (l_part isAgg23 sizeOf23 (f6.new_ p) lb))<| .Q (fun k=>g0 (k.eq1 2 84 rfl)) (fun hG p k=>v_load rfl (k.fx 6 h4) (l_two isAgg23 sizeOf23 (f3.new_ p)))<| .o1 (scC (G:=(decide (((numberV (countedV (cleanV v))).2)=0))) rfl rfl rfl (fun _ _ k=>g0 (k.eq1 2 84 rfl)) rfl (fun hG _ w hn k=>⟨#[nv (Nm.mk ((countedV (cleanV u)).nk) ((countedV (cleanV u)).nn)),nv ((numberV (countedV (cleanV v))).1)],args2 (cT hG (k.eq1 4 86 rfl)) (cT hG (k.eq1 5 87 rfl)),fun _=>by kernel_rfl,equal_c (Nm.mk ((countedV (cleanV u)).nk) ((countedV (cleanV u)).nn)) ((numberV (countedV (cleanV v))).1) _ ⟩))<| .O 2 6<| .M eg<| .B 7<| .B 8 .nil
 refine aftI dg f8 f7 fun kl km jo ga gb jp dh=>?_
 have h5:=dh.g 9 4
 have h6:=dh.g 10 5
 refine f9 _ _<| wp_ret (ret_k ga (v:=.tuple #[.bool ((decide (((numberV (countedV (cleanV v))).2)=0)) && (equalM (Nm.mk ((countedV (cleanV u)).nk) ((countedV (cleanV u)).nn)) ((numberV (countedV (cleanV v))).1))),iv ((numberV (countedV (cleanV v))).2)]) (res_tt rfl h5 h6 _) ?_)
 refine ⟨?_,gb⟩
 show Ending.returned (.tuple #[.bool ((decide (((numberV (countedV (cleanV v))).2)=0)) && (equalM (Nm.mk ((countedV (cleanV u)).nk) ((countedV (cleanV u)).nn)) ((numberV (countedV (cleanV v))).1))),iv ((numberV (countedV (cleanV v))).2)])=Ending.returned (.tuple #[.bool ((looseV v u).1),iv ((looseV v u).2)])
 first|rfl|(simp only [looseV,loose1,loose2,loose3,noneV,an,ag,aa,aa,ac,ac,ad,ad,ab,ab,ae,ae,af,af,aj,az,az,aA,aB,aO,bj,bj,bS,bS,bT,bT,bsm] <;> rfl)|(exfalso; omega)
 have gc:=hB ea aO
 refine wf gc<| ws<| fA _ _<| wk fun kn gd=>?_
 refine wA tr2 [] 91 [vF,ve (iv 3)] bi ?_ ?_
 exact .c<| .c .nil
 refine aftI bi dc bQ fun ko kp jq gf gg jr di=>?_
 have h7:=di.g 0 4
 have h9:=di.g 1 5
 refine gd _ _<| wp_ret (ret_k gf (v:=.tuple #[.bool false,iv 3]) (res_tt rfl h7 h9 _) ?_)
 refine ⟨?_,gg⟩
 show Ending.returned (.tuple #[.bool false,iv 3])=Ending.returned (.tuple #[.bool ((looseV v u).1),iv ((looseV v u).2)])
 first|rfl|(simp only [looseV,loose1,loose2,loose3,noneV,an,ag,aa,aa,ac,ac,ad,ad,ab,ab,ae,ae,af,af,aj,az,az,aA,aB,aO,bsm] <;> rfl)|(exfalso; omega)
 have gh:=hB d2 aj
 have aC:(decide (((countedV (cleanV v)).k)≤((countedV (cleanV u)).k)))=true:=nT aj
 have i5:=oT aC
 refine wf gh<| ws<| cL _ _<| wk fun kq gi=>wb ?_
 refine wk fun kr gj=>?_
 refine wA tr6 [] 91 [ve (pv q9),ve (iv ((countedV (cleanV v)).k)),ve (pv aJ),ve (iv ((countedV (cleanV u)).k)),ve (.bool (decide (((countedV (cleanV v)).k)=((countedV (cleanV u)).k)))),ve (.bool (decide (((countedV (cleanV v)).k)=((countedV (cleanV u)).k))))] bb ?_ ?_
 exact .F bG<| .J 0 isAgg3 bd<| .F bH<| .J 2 isAgg3 be<| .T (fun k=>v_bin rfl (k.eq1 1 47 rfl) (k.eq1 3 49 rfl) (fun _=>rfl) (r_eql rfl))<| .B 4 .nil
 refine aftI bb cM cN fun ks kt bl dj dk aZ bX=>?_
 have⟨cA,cB⟩:=bX.f2 bG bH
 have eh:=bX.g 5 45
 have⟨bY,bZ,dl,dm⟩:=nw4 aZ bd be cO cP
 have⟨dn,dp⟩:=nw2 aZ cQ cR
 refine gj _ _ ?_
 rcases bc (decide (((countedV (cleanV v)).k)=((countedV (cleanV u)).k))) with aD|aD
 have ei:=oT aD
 have gk:=hB eh aD
 refine wt gk<| wk fun ku gl=>?_
 refine wA tr5 [] 91 [ve (vv (countedV (cleanV v)) ao ah aq ak),ve (vv (countedV (cleanV u)) ap ai au am),ve (.bool (strictV (countedV (cleanV v)) (countedV (cleanV u)))),ve (.bool (strictV (countedV (cleanV v)) (countedV (cleanV u)))),ve (iv 0)] bl ?_ ?_
 exact .L9 cA bY<| .L9 cB bZ<| .C2 0 1 (fun p=>cstrict_c (countedV (cleanV v)) _ _ _ _ (countedV (cleanV u)) _ _ _ _ _ (dl.new_ p) (dm.new_ p) (dn.new_ p) (dp.new_ p))<| .B 2<| .c .nil
 refine aftI bl dj dk fun kv kw js gm gn jt dq=>?_
 have ia:=dq.g 3 4
 have ib:=dq.g 4 5
 refine gl _ _<| wp_ret (ret_k gm (v:=.tuple #[.bool (strictV (countedV (cleanV v)) (countedV (cleanV u))),iv 0]) (res_tt rfl ia ib _) ?_)
 refine ⟨?_,gn⟩
 show Ending.returned (.tuple #[.bool (strictV (countedV (cleanV v)) (countedV (cleanV u))),iv 0])=Ending.returned (.tuple #[.bool ((looseV v u).1),iv ((looseV v u).2)])
 first|rfl|(simp only [looseV,loose1,loose2,loose3,noneV,an,ag,aa,aa,ac,ac,ad,ad,ab,ab,ae,ae,af,af,aj,aC,aC,aD,bsm] <;> rfl)|(exfalso; omega)
 have ei:=oF aD
 have go:=hB eh aD
 refine wf go<| wk fun kx gp=>?_
 refine wA tr9 [] 91 [ve (pv q9),ve (iv ((countedV (cleanV v)).k)),ve (.bool (decide (((countedV (cleanV v)).k)=3))),ve (.bool (decide (((countedV (cleanV v)).k)=3))),ve (gq (decide (((countedV (cleanV v)).k)=3)) (pv aJ)),ve (gq (decide (((countedV (cleanV v)).k)=3)) (iv ((countedV (cleanV u)).k))),ve (gq (decide (((countedV (cleanV v)).k)=3)) (.bool (decide (((countedV (cleanV u)).k)=4)))),ve (.bool ((decide (((countedV (cleanV v)).k)=3)) && (decide (((countedV (cleanV u)).k)=4)))),ve (.bool ((decide (((countedV (cleanV v)).k)=3)) && (decide (((countedV (cleanV u)).k)=4))))] bl ?_ ?_
 exact .F cA<| .J 0 isAgg3 bY<| .b 1 (r_eql rfl)<| .N 2<| .Q (fun k=>g0 (k.eq1 3 58 rfl)) (fun hG p k=>v_field rfl (k.fx 3 cB) (fun w=>rfl))<| .Q (fun k=>g0 (k.eq1 3 58 rfl)) (fun hG p k=>v_load rfl (cT hG (k.eq1 4 59 rfl)) (l_one isAgg3 ((bZ.new_ p).cell 0)))<| .Q (fun k=>g0 (k.eq1 3 58 rfl)) (fun hG p k=>v_bin rfl (cT hG (k.eq1 5 60 rfl)) rfl (fun _=>rfl) (r_eql rfl))<| .O 3 6<| .B 7 .nil
 refine aftI bl dj dk fun ky kz bm dr ds a1 b0=>?_
 have⟨cC,cD⟩:=b0.f2 cA cB
 have ej:=b0.g 8 54
 have⟨b1,b2,gr,gs⟩:=nw4 a1 bY bZ dl dm
 have⟨dt,gt⟩:=nw2 a1 dn dp
 refine gp _ _ ?_
 rcases bc (((decide (((countedV (cleanV v)).k)=3)) && (decide (((countedV (cleanV u)).k)=4)))) with aE|aE
 have gu:=hB ej aE
 have b3:(decide (((countedV (cleanV v)).k)=3))=true:=al aE
 have i6:=oT b3
 have b4:(decide (((countedV (cleanV u)).k)=4))=true:=ar aE
 have i7:=oT b4
 refine wt gu<| wk fun kA gv=>?_
 refine wA tr7 [] 91 [ve (.pointer (some ⟨aJ,3,none⟩)),ve (.agg #[.bool ((countedV (cleanV u)).neg),sv ap ((countedV (cleanV u)).mag) ai]),ve (.pointer (some ⟨q9,1,none⟩)),ve (nv (Nm.mk ((countedV (cleanV v)).nk) ((countedV (cleanV v)).nn))),ve (.bool (alikeB ((countedV (cleanV u)).neg) ((countedV (cleanV u)).mag) (Nm.mk ((countedV (cleanV v)).nk) ((countedV (cleanV v)).nn)))),ve (.bool (alikeB ((countedV (cleanV u)).neg) ((countedV (cleanV u)).mag) (Nm.mk ((countedV (cleanV v)).nk) ((countedV (cleanV v)).nn)))),ve (iv 0)] bm ?_ ?_
 exact .F cD<| .K6 0 b2<| .F cC<| .K2 2 b1<| .C2 1 3 (fun p=>alike_c ((countedV (cleanV u)).neg) _ ((countedV (cleanV u)).mag) _ (Nm.mk ((countedV (cleanV v)).nk) ((countedV (cleanV v)).nn)) _ (dt.new_ p) hvu.clean.counted.limbs (by first|omega|(simp only [List.length_nil,List.length_take,List.length_drop]; omega)|(simp only [List.length_cons,List.length_nil]; omega)) (by omega) (by omega))<| .B 4<| .c .nil
 refine aftI bm dr ds fun kB kC ju gw gx jv dw=>?_
 have ic:=dw.g 5 4
 have id:=dw.g 6 5
 refine gv _ _<| wp_ret (ret_k gw (v:=.tuple #[.bool (alikeB ((countedV (cleanV u)).neg) ((countedV (cleanV u)).mag) (Nm.mk ((countedV (cleanV v)).nk) ((countedV (cleanV v)).nn))),iv 0]) (res_tt rfl ic id _) ?_)
 refine ⟨?_,gx⟩
 show Ending.returned (.tuple #[.bool (alikeB ((countedV (cleanV u)).neg) ((countedV (cleanV u)).mag) (Nm.mk ((countedV (cleanV v)).nk) ((countedV (cleanV v)).nn))),iv 0])=Ending.returned (.tuple #[.bool ((looseV v u).1),iv ((looseV v u).2)])
 first|rfl|(simp only [looseV,loose1,loose2,loose3,noneV,an,ag,aa,aa,ac,ac,ad,ad,ab,ab,ae,ae,af,af,aj,aC,aC,aD,aE,b3,b3,b4,b4,bsm] <;> rfl)|(exfalso; omega)
 have gy:=hB ej aE
 refine wf gy<| wk fun kD gz=>?_
 refine wA tr9 [] 91 [ve (pv q9),ve (iv ((countedV (cleanV v)).k)),ve (.bool (decide (((countedV (cleanV v)).k)=3))),ve (.bool (decide (((countedV (cleanV v)).k)=3))),ve (gq (decide (((countedV (cleanV v)).k)=3)) (pv aJ)),ve (gq (decide (((countedV (cleanV v)).k)=3)) (iv ((countedV (cleanV u)).k))),ve (gq (decide (((countedV (cleanV v)).k)=3)) (.bool (decide (((countedV (cleanV u)).k)=5)))),ve (.bool ((decide (((countedV (cleanV v)).k)=3)) && (decide (((countedV (cleanV u)).k)=5)))),ve (.bool ((decide (((countedV (cleanV v)).k)=3)) && (decide (((countedV (cleanV u)).k)=5))))] bm ?_ ?_
 exact .F cC<| .J 0 isAgg3 b1<| .b 1 (r_eql rfl)<| .N 2<| .Q (fun k=>g0 (k.eq1 3 72 rfl)) (fun hG p k=>v_field rfl (k.fx 3 cD) (fun w=>rfl))<| .Q (fun k=>g0 (k.eq1 3 72 rfl)) (fun hG p k=>v_load rfl (cT hG (k.eq1 4 73 rfl)) (l_one isAgg3 ((b2.new_ p).cell 0)))<| .Q (fun k=>g0 (k.eq1 3 72 rfl)) (fun hG p k=>v_bin rfl (cT hG (k.eq1 5 74 rfl)) rfl (fun _=>rfl) (r_eql rfl))<| .O 3 6<| .B 7 .nil
 refine aftI bm dr ds fun kE ie bn dx b5 a3 b6=>?_
 have⟨ig,ih⟩:=b6.f2 cC cD
 have ek:=b6.g 8 68
 have⟨dy,gA,gB,gC⟩:=nw4 a3 b1 b2 gr gs
 have⟨gD,gE⟩:=nw2 a3 dt gt
 refine gz _ _ ?_
 rcases bc (((decide (((countedV (cleanV v)).k)=3)) && (decide (((countedV (cleanV u)).k)=5)))) with aP|aP
 have gF:=hB ek aP
 have bo:(decide (((countedV (cleanV v)).k)=3))=true:=al aP
 have i8:=oT bo
 have b7:(decide (((countedV (cleanV u)).k)=5))=true:=ar aP
 have i9:=oT b7
 have b8:(decide (((countedV (cleanV u)).k)=4))=false:=ax1 aE bo
 have ja:=oF b8
 refine wt gF<| wk fun kF gG=>?_
 refine wB [true,true,true,true,true,true,false,false] [4] [(6,false),(7,true)] 91 [ve (vv (countedV (cleanV u)) ap ai au am),ve (.tuple #[nv ((numberV (countedV (cleanV u))).1),iv ((numberV (countedV (cleanV u))).2)]),ve (.tuple #[nv ((numberV (countedV (cleanV u))).1),iv ((numberV (countedV (cleanV u))).2)]),ve (nv ((numberV (countedV (cleanV u))).1)),ve (iv ((numberV (countedV (cleanV u))).2)),IsNew ie 23 [iv 0,iv 0],vt,vt] [5] bn ?_ ?_ ?_
 refine .L9 ih gA<| .C 0 (fun p=>cnumber_c (countedV (cleanV u)) _ _ _ _ _ (gD.new_ p) (gE.new_ p) hvu.clean.counted)<| .N 1<| .E 2 ?_
 refine .o3 ?_
 exact .Y<| .off<| .off .nil
 refine eg1 ?_
 exact eager_take rfl rfl fun _ w hn k=>⟨iv ((numberV (countedV (cleanV u))).2),fun w=>v_extract rfl (k.eq1 2 77 rfl) rfl,rfl⟩
 refine aftI bn dx b5 fun el kG dz gH gI b9 bp=>?_
 have ii:=bp.f1 ig
 have em:=bp.g 3 80
 have en:=bp.g 4 81
 obtain⟨ij,eo,dA,ca⟩:=bp.G 5 6
 have gJ:=dy.new_ b9
 have hne515:q9 ≠ ij:=by have h1:=dy.lt; have h2:=dA; omega
 have jw:=Nat.le_trans b5.size dA
 have⟨gK,gL⟩:=nw2 b9 gB gC
 refine sS2 eo em ca fun kH gM cb gN=>?_
 have jx:=gK.fr ca cb
 have jy:=gL.fr ca cb
 have gP:=gN hne515 gJ
 have gQ:=gI.tR cb
 refine sP en dz gH fun ik dB gR aL er=>?_
 have⟨il,kJ,kK⟩:=aL.q3 ii em en
 have im:=aL.q eo
 refine gG _ _ <| wk fun kL gS=>?_
 refine wA tr11 [] 91 [ve (iv ((numberV (countedV (cleanV u))).2)),ve (.bool (decide (((numberV (countedV (cleanV u))).2)=0))),ve (.bool (decide (((numberV (countedV (cleanV u))).2)=0))),ve (gq (decide (((numberV (countedV (cleanV u))).2)=0)) (.pointer (some ⟨q9,1,none⟩))),ve (gq (decide (((numberV (countedV (cleanV u))).2)=0)) (nv (Nm.mk ((countedV (cleanV v)).nk) ((countedV (cleanV v)).nn)))),ve (gq (decide (((numberV (countedV (cleanV u))).2)=0)) (nv ((numberV (countedV (cleanV u))).1))),ve (gq (decide (((numberV (countedV (cleanV u))).2)=0)) (.bool (equalM (Nm.mk ((countedV (cleanV v)).nk) ((countedV (cleanV v)).nn)) ((numberV (countedV (cleanV u))).1)))),ve (.bool ((decide (((numberV (countedV (cleanV u))).2)=0)) && (equalM (Nm.mk ((countedV (cleanV v)).nk) ((countedV (cleanV v)).nn)) ((numberV (countedV (cleanV u))).1)))),ve (iv ((numberV (countedV (cleanV u))).2)),ve (.bool ((decide (((numberV (countedV (cleanV u))).2)=0)) && (equalM (Nm.mk ((countedV (cleanV v)).nk) ((countedV (cleanV v)).nn)) ((numberV (countedV (cleanV u))).1)))),ve (iv ((numberV (countedV (cleanV u))).2))] dB ?_ ?_
 exact .M er<| .b 0 (r_eql rfl)<| .N 1<| .Q (fun k=>g0 (k.eq1 2 84 rfl)) (fun hG p k=>v_field rfl (k.fx 2 il) (fun w=>rfl))<| .Q (fun k=>g0 (k.eq1 2 84 rfl)) (fun hG p k=>v_load rfl (cT hG (k.eq1 3 85 rfl)) (l_part isAgg23 sizeOf23 (gP.new_ p) lb))<| .Q (fun k=>g0 (k.eq1 2 84 rfl)) (fun hG p k=>v_load rfl (k.fx 6 im) (l_two isAgg23 sizeOf23 (gM.new_ p)))<| .o1 (scC (G:=(decide (((numberV (countedV (cleanV u))).2)=0))) rfl rfl rfl (fun _ _ k=>g0 (k.eq1 2 84 rfl)) rfl (fun hG _ w hn k=>⟨#[nv (Nm.mk ((countedV (cleanV v)).nk) ((countedV (cleanV v)).nn)),nv ((numberV (countedV (cleanV u))).1)],args2 (cT hG (k.eq1 4 86 rfl)) (cT hG (k.eq1 5 87 rfl)),fun _=>by kernel_rfl,equal_c (Nm.mk ((countedV (cleanV v)).nk) ((countedV (cleanV v)).nn)) ((numberV (countedV (cleanV u))).1) _ ⟩))<| .O 2 6<| .M er<| .B 7<| .B 8 .nil
 refine aftI dB gR gQ fun kM kN jz gT gU jA dC=>?_
 have io:=dC.g 9 4
 have ip:=dC.g 10 5
 refine gS _ _<| wp_ret (ret_k gT (v:=.tuple #[.bool ((decide (((numberV (countedV (cleanV u))).2)=0)) && (equalM (Nm.mk ((countedV (cleanV v)).nk) ((countedV (cleanV v)).nn)) ((numberV (countedV (cleanV u))).1))),iv ((numberV (countedV (cleanV u))).2)]) (res_tt rfl io ip _) ?_)
 refine ⟨?_,gU⟩
 show Ending.returned (.tuple #[.bool ((decide (((numberV (countedV (cleanV u))).2)=0)) && (equalM (Nm.mk ((countedV (cleanV v)).nk) ((countedV (cleanV v)).nn)) ((numberV (countedV (cleanV u))).1))),iv ((numberV (countedV (cleanV u))).2)])=Ending.returned (.tuple #[.bool ((looseV v u).1),iv ((looseV v u).2)])
 first|rfl|(simp only [looseV,loose1,loose2,loose3,noneV,an,ag,aa,aa,ac,ac,ad,ad,ab,ab,ae,ae,af,af,aj,aC,aC,aD,aE,aP,bo,bo,b7,b7,b8,b8,bsm] <;> rfl)|(exfalso; omega)
 have gV:=hB ek aP
 refine wf gV<| ws<| gi _ _<| wk fun kO gW=>?_
 refine wA tr2 [] 91 [vF,ve (iv 3)] bn ?_ ?_
 exact .c<| .c .nil
 refine aftI bn dx b5 fun kP kQ jB gX gY jC dD=>?_
 have iq:=dD.g 0 4
 have ir:=dD.g 1 5
 refine gW _ _<| wp_ret (ret_k gX (v:=.tuple #[.bool false,iv 3]) (res_tt rfl iq ir _) ?_)
 refine ⟨?_,gY⟩
 show Ending.returned (.tuple #[.bool false,iv 3])=Ending.returned (.tuple #[.bool ((looseV v u).1),iv ((looseV v u).2)])
 first|rfl|(simp only [looseV,loose1,loose2,loose3,noneV,an,ag,aa,aa,ac,ac,ad,ad,ab,ab,ae,ae,af,af,aj,aC,aC,aD,aE,aP,bsm] <;> rfl)|(exfalso; omega)
theorem cblank_c (x:Nat) (w:World) (hx:x < 65536):Calls prog 124 #[.int .u16 (x:Int)] w (IsRet (.bool (blankN x)) w):=by
 refine enter_abs func124 rfl fun a0 aa ag hp=>?_
 have aa:a0.tmps.size=17:=aa
 have ah:New w w:=Upd.refl _ _
 have hp0:a0.eval (.tmp 0)=.int .u16 (x:Int):=hp 0 _ rfl
 refine wk fun K1 ai=>?_
 refine wA tr1 [] 17 [vF] aa ?_ ?_
 exact .c .nil
 refine aftI aa ag ah fun a2 w3 ab aj ak ap al=>?_
 have h8:=al.f1 hp0
 refine ai _ _ <| wk fun aq ac=>?_
 refine wA tr15 [] 17 [ve (.int .u16 (x:Int)),ve (.bool (decide ((x:Int)=32))),ve (.bool (decide ((x:Int)=32))),ve (gq (!(decide ((x:Int)=32))) (.int .u16 (x:Int))),ve (gq (!(decide ((x:Int)=32))) (.bool (decide ((x:Int)=9)))),ve (.bool ((decide ((x:Int)=32)) || (decide ((x:Int)=9)))),ve (.bool ((decide ((x:Int)=32)) || (decide ((x:Int)=9)))),ve (gq (!((decide ((x:Int)=32)) || (decide ((x:Int)=9)))) (.int .u16 (x:Int))),ve (gq (!((decide ((x:Int)=32)) || (decide ((x:Int)=9)))) (.bool (decide ((x:Int)=10)))),ve (.bool (((decide ((x:Int)=32)) || (decide ((x:Int)=9))) || (decide ((x:Int)=10)))),ve (.bool (((decide ((x:Int)=32)) || (decide ((x:Int)=9))) || (decide ((x:Int)=10)))),ve (gq (!(((decide ((x:Int)=32)) || (decide ((x:Int)=9))) || (decide ((x:Int)=10)))) (.int .u16 (x:Int))),ve (gq (!(((decide ((x:Int)=32)) || (decide ((x:Int)=9))) || (decide ((x:Int)=10)))) (.bool (decide ((x:Int)=13)))),ve (.bool ((((decide ((x:Int)=32)) || (decide ((x:Int)=9))) || (decide ((x:Int)=10))) || (decide ((x:Int)=13)))),ve (.bool ((((decide ((x:Int)=32)) || (decide ((x:Int)=9))) || (decide ((x:Int)=10))) || (decide ((x:Int)=13))))] ab ?_ ?_
 exact .M h8<| .b 0 (r_eql rfl)<| .N 1<| .Q (fun k=>g0' (k.eq1 2 5 rfl)) (fun hG n k=>v_move rfl (k.fx 0 h8))<| .Q (fun k=>g0' (k.eq1 2 5 rfl)) (fun hG n k=>v_bin rfl (cT hG (k.eq1 3 6 rfl)) rfl (fun _=>rfl) (r_eql rfl))<| .W 2 4<| .N 5<| .Q (fun k=>g0' (k.eq1 6 9 rfl)) (fun hG n k=>v_move rfl (k.fx 0 h8))<| .Q (fun k=>g0' (k.eq1 6 9 rfl)) (fun hG n k=>v_bin rfl (cT hG (k.eq1 7 10 rfl)) rfl (fun _=>rfl) (r_eql rfl))<| .W 6 8<| .N 9<| .Q (fun k=>g0' (k.eq1 10 13 rfl)) (fun hG n k=>v_move rfl (k.fx 0 h8))<| .Q (fun k=>g0' (k.eq1 10 13 rfl)) (fun hG n k=>v_bin rfl (cT hG (k.eq1 11 14 rfl)) rfl (fun _=>rfl) (r_eql rfl))<| .W 10 12<| .B 13 .nil
 refine aftI ab aj ak fun ar au an ad ae ao af=>?_
 have am:=af.g 14 2
 refine ac _ _<| wp_ret (ret_k ad (v:=.bool ((((decide ((x:Int)=32)) || (decide ((x:Int)=9))) || (decide ((x:Int)=10))) || (decide ((x:Int)=13)))) (res_t rfl am _) ?_)
 refine ⟨?_,ae⟩
 show Ending.returned (.bool ((((decide ((x:Int)=32)) || (decide ((x:Int)=9))) || (decide ((x:Int)=10))) || (decide ((x:Int)=13))))=Ending.returned (.bool (blankN x))
 first|rfl|(simp only [blankN,bsm] <;> rfl)|(exfalso; omega)
theorem cdigit_c (x:Nat) (w:World) (hx:x < 65536):Calls prog 125 #[.int .u16 (x:Int)] w (IsRet (.bool (dgtN x)) w):=by
 refine enter_abs func125 rfl fun a0 aa ag hp=>?_
 have aa:a0.tmps.size=9:=aa
 have ah:New w w:=Upd.refl _ _
 have hp0:a0.eval (.tmp 0)=.int .u16 (x:Int):=hp 0 _ rfl
 refine wk fun K1 ai=>?_
 refine wA tr1 [] 9 [vF] aa ?_ ?_
 exact .c .nil
 refine aftI aa ag ah fun a2 w3 ab aj ak ap al=>?_
 have h8:=al.f1 hp0
 refine ai _ _ <| wk fun aq ac=>?_
 refine wA tr7 [] 9 [ve (.int .u16 (x:Int)),ve (.bool (!decide ((x:Int) < 48))),ve (.bool (!decide ((x:Int) < 48))),ve (gq (!decide ((x:Int) < 48)) (.int .u16 (x:Int))),ve (gq (!decide ((x:Int) < 48)) (.bool (decide ((x:Int)≤57)))),ve (.bool ((!decide ((x:Int) < 48)) && (decide ((x:Int)≤57)))),ve (.bool ((!decide ((x:Int) < 48)) && (decide ((x:Int)≤57))))] ab ?_ ?_
 exact .M h8<| .b 0 (r_geqK rfl)<| .N 1<| .Q (fun k=>g0 (k.eq1 2 5 rfl)) (fun hG n k=>v_move rfl (k.fx 0 h8))<| .Q (fun k=>g0 (k.eq1 2 5 rfl)) (fun hG n k=>v_bin rfl (cT hG (k.eq1 3 6 rfl)) rfl (fun _=>rfl) (r_leqK rfl))<| .O 2 4<| .B 5 .nil
 refine aftI ab aj ak fun ar au an ad ae ao af=>?_
 have am:=af.g 6 2
 refine ac _ _<| wp_ret (ret_k ad (v:=.bool ((!decide ((x:Int) < 48)) && (decide ((x:Int)≤57)))) (res_t rfl am _) ?_)
 refine ⟨?_,ae⟩
 show Ending.returned (.bool ((!decide ((x:Int) < 48)) && (decide ((x:Int)≤57))))=Ending.returned (.bool (dgtN x))
 first|rfl|(simp only [dgtN,bsm] <;> rfl)|(exfalso; omega)
def ctrim_c_P (Au:Option Addr) (u:List Nat) (cu:Nat) (w:World) (en:Ending) (w':World):Prop:=∃ (Ar0:Option Addr) (cr0:Nat),en=.returned (sv Ar0 (trimN u) cr0)∧SRow w' .u16 Ar0 (trimN u) cr0∧New w w'
theorem ctrim_c (Au:Option Addr) (u:List Nat) (cu:Nat) (w:World) (hru:SRow w .u16 Au u cu) (hu:U16s u):Calls prog 79 #[sv Au u cu] w (ctrim_c_P Au u cu w):=by
 refine enter_abs func79 rfl fun a0 aA b0 hp=>?_
 have aA:a0.tmps.size=32:=aA
 have b1:New w w:=Upd.refl _ _
 have hp0:a0.eval (.tmp 0)=sv Au u cu:=hp 0 _ rfl
 have hmx:=hru.max
 refine wk fun K1 b2=>?_
 refine wA tr1 [] 32 [ve (sv none ([]) 0)] aA ?_ ?_
 exact .c .nil
 refine aftI aA b0 b1 fun a2 w3 b3 b4 bn cO b6=>?_
 have h8:=b6.f1 hp0
 refine b2 _ _ ?_
 refine wp_seq_j (fun (aa:Act) (ww:World)=>∃ (A3:Option Addr),∃ (c3:Nat),aa.tmps.size=32∧aa.defers=[]∧New w ww∧aa.eval (.tmp 0)=sv A3 (u.dropWhile blankN) c3∧SRow ww .u16 A3 (u.dropWhile blankN) c3) ?_ ?_
 rintro cP cQ ⟨A3,c3,bq,br,bs,b8,bt⟩
 refine wk fun cR aN=>wb ?_
 refine wp_loopX (fun (mm:Nat) (aa:Act) (ww:World)=>∃ (cu2:List Nat) (A2:Option Addr) (c2:Nat),mm=cu2.length∧aa.tmps.size=32∧aa.defers=[]∧New w ww∧aa.eval (.tmp 0)=sv A2 cu2 c2∧SRow ww .u16 A2 cu2 c2∧(rtrimN cu2=trimN u)∧(U16s cu2)) (fun mm=>mm) ⟨_,⟨(u.dropWhile blankN),A3,c3,rfl,bq,br,bs,b8,bt,rfl,(hu.dw _)⟩⟩ ?_
 rintro mm cS cT ⟨cu2,A2,c2,hmm,am,aO,aP,ak,ai,hc2,hcu2⟩
 refine wk fun cU bu=>wk fun cV aQ=>?_
 have hix2:((cu2.length:Int) - 1).toNat=cu2.length - 1:=by omega
 rcases bc ((!decide ((cu2.length:Int)≤0))) with ax|ax
 have aR:(decide ((cu2.length:Int)≤0))=false:=nF ax
 have cz:=oF aR
 have hb:=hcu2.at16 ((cu2.length:Int) - 1).toNat
 have bo:=ai.max
 refine wp_g0 (.replicate 12 true) [] 32
  [ve (sv A2 cu2 c2),ve (iv (cu2.length:Int)),vT,vT,ve (sv A2 cu2 c2),ve (sv A2 cu2 c2),ve (iv (cu2.length:Int)),ve (iv ((cu2.length:Int) - 1)),
  (EP (.int .u16 ((cu2.getD (((cu2.length:Int) - 1:Int).toNat) 0:Nat):Int))),ve (.int .u16 ((cu2.getD (((cu2.length:Int) - 1:Int).toNat) 0:Nat):Int)),ve (.bool (blankN (cu2.getD (((cu2.length:Int) - 1:Int).toNat) 0))),ve (.bool (blankN (cu2.getD (((cu2.length:Int) - 1:Int).toNat) 0)))] am (.eq (.eq (.eq (.eq (.eq (.eq (.eq (.eq (.cons (fun _ _ _ n ⟨_,_,e,h⟩=>⟨_,_,e,h.new_ n⟩) (.eq (.eq (.eq .nil)))))))))))) ?_ ?_
 refine .M ak<| .T (fun k=>v_lenR rfl elU (k.eq1 0 14 rfl))<| .b 1 (r_gtrK aR)<| .N 2<| .gm (fun k=>k.eq1 3 17 rfl) (fun k=>k.fx 0 ak)<| .gm (fun k=>k.eq1 3 17 rfl) (fun k=>k.fx 0 ak)<| .V (fun p k=>v_lenR rfl elU (k.eq1 5 19 rfl))<| .V (fun p k=>v_bin rfl (k.eq1 6 20 rfl) rfl (fun _=>rfl) (r_sub rfl (by omega))) ?_
 refine .o1 (tg rfl rfl rfl (fun _ _ k=>k.eq1 3 17 rfl) fun _ w hn k=>(by
  exact x_eaddr (k:=.u16) rfl elU (k.eq1 4 18 rfl) (k.eq1 7 21 rfl) (ai.new_ hn) (by omega) fun b5 o6 hme=>⟨b5,o6,rfl,hme⟩)) ?_
 refine .o1 (tg rfl rfl rfl (fun _ _ k=>k.eq1 3 17 rfl) fun _ w hn k=>(by
  obtain⟨b9,cW,ca,bv⟩:=k.G 8 22
  exact⟨_,v_load rfl ca (l_one isAgg79 bv.1),rfl⟩)) ?_
 exact .o1 (cg rfl rfl rfl (fun _ _ k=>k.eq1 3 17 rfl) rfl (fun _ w hn k=>⟨#[.int .u16 ((cu2.getD (((cu2.length:Int) - 1:Int).toNat) 0:Nat):Int)],args1 (k.eq1 9 23 rfl),fun _=>by kernel_rfl,cblank_c (cu2.getD (((cu2.length:Int) - 1:Int).toNat) 0) _ (by omega)⟩) fun _=>rfl)<| .T (fun k=>v_pickT rfl (k.eq1 3 17 rfl) (k.eq1 10 24 rfl)) .nil
 refine aftI am aO aP fun cX cY an aS aT bw aU=>?_
 have aB:=aU.f1 ak
 have bp:=aU.g 11 25
 have ao:=ai.new_ bw
 refine aQ _ _ ?_
 rcases bc (blankN (cu2.getD (((cu2.length:Int) - 1:Int).toNat) 0)) with ac|ac
 have bx:=hB bp ac
 refine wt bx<| ws<| bu _ _<| wb ?_
 have bo:=ao.max
 refine wp_g0 [true,true,true,true,true,false] [(5,true)] 32
  [ve (sv A2 cu2 c2),ve (sv A2 cu2 c2),ve (iv (cu2.length:Int)),ve (iv ((cu2.length:Int) - 1)),
  (RP .u16 (cu2.take (((cu2.length:Int) - 1:Int).toNat))),vt] an (.eq (.eq (.eq (.eq (.cons (fun _ _ _ n ⟨_,_,e,h⟩=>⟨_,_,e,h.new_ n⟩) (.tt .nil)))))) ?_ ?_
 refine .M aB<| .M aB<| .T (fun k=>v_lenR rfl elU (k.eq1 1 27 rfl))<| .R (fun k=>v_bin rfl (k.eq1 2 28 rfl) rfl (fun _=>rfl) (r_sub rfl (by omega))) (fun _=>rfl) ?_
 refine .o1 (tk rfl rfl fun _ w hn k=>(by
  exact x_cutH (k:=.u16) rfl elU (k.eq1 0 26 rfl) (k.eq1 3 29 rfl) (ao.new_ hn) (by omega) fun cd ce hmr=>⟨cd,ce,rfl,hmr⟩)) ?_
 exact .off .nil
 refine aftI an aS aT fun aV cZ aW bz bA bB aX=>?_
 have c0:=aX.f1 aB
 obtain⟨al,af,aC,bC⟩:=aX.G 4 30
 have aC:aV.eval (.tmp 30)=sv al (cu2.take (((cu2.length:Int) - 1:Int).toNat)) af:=aC
 have cC:=ao.new_ bB
 refine sP aC aW bz fun cf bD bE aj ch=>?_
 have c4:=aj.q aC
 refine st_nil ?_
 refine blk_n ?_
 refine then_n ?_
 exact⟨_,⟨(cu2.take (((cu2.length:Int) - 1:Int).toNat)),al,af,rfl,bD,bE,bA,ch,bC,(by rw [hix2]; rw [hix2] at ac; exact (rt_step (by omega) ac).trans hc2),(hcu2.take _)⟩,(by rw [List.length_take]; omega)⟩
 have bF:=hB bp ac
 refine wf bF<| wp_exit ?_
 refine aN _ _<| wk fun c5 bG=>?_
 refine wA tr2 [] 32 [ve (sv A2 cu2 c2),ve (sv A2 cu2 c2)] an ?_ ?_
 exact .M aB<| .B 0 .nil
 refine aftI an aS aT fun c6 c8 cD bH bI bJ bK=>?_
 have ci:=bK.g 1 2
 have bL:=ao.new_ bJ
 refine bG _ _<| wp_ret (ret_k bH (v:=sv A2 cu2 c2) (res_t rfl ci _) ?_)
 rw [hix2] at ac
 have hsp:cu2=trimN u:=(rt_end (l:=cu2) (Or.inr ⟨by omega,ac⟩)).symm.trans hc2
 exact⟨A2,c2,congrArg (fun l=>Ending.returned (sv A2 l c2)) hsp,Eq.mp (congrArg (fun l=>SRow _ _ A2 l c2) hsp) bL,bI⟩
 have aY:(decide ((cu2.length:Int)≤0))=true:=nT ax
 have cA:=oT aY
 have hb:=hcu2.at16 ((cu2.length:Int) - 1).toNat
 have bo:=ai.max
 refine wA tr12 [] 32 [ve (sv A2 cu2 c2),ve (iv (cu2.length:Int)),vF,vF,vU,vU,vU,vU,vU,vU,vU,vF] am ?_ ?_
 exact .M ak<| .T (fun k=>v_lenR rfl elU (k.eq1 0 14 rfl))<| .b 1 (r_gtrK aY)<| .N 2<| .S<| .S<| .S<| .S<| .S<| .S<| .S<| .T (fun k=>v_pickF rfl (k.eq1 3 17 rfl) rfl) .nil
 refine aftI am aO aP fun c9 da aZ bM bN bO a1=>?_
 have cj:=a1.f1 ak
 have cl:=a1.g 11 25
 have bP:=ai.new_ bO
 refine aQ _ _<| wf cl<| wp_exit ?_
 refine aN _ _<| wk fun db bQ=>?_
 refine wA tr2 [] 32 [ve (sv A2 cu2 c2),ve (sv A2 cu2 c2)] aZ ?_ ?_
 exact .M cj<| .B 0 .nil
 refine aftI aZ bM bN fun dc dd cE bR bS bT bU=>?_
 have cm:=bU.g 1 2
 have bV:=bP.new_ bT
 refine bQ _ _<| wp_ret (ret_k bR (v:=sv A2 cu2 c2) (res_t rfl cm _) ?_)
 have hsp:cu2=trimN u:=(rt_end (l:=cu2) (Or.inl (by omega))).symm.trans hc2
 exact⟨A2,c2,congrArg (fun l=>Ending.returned (sv A2 l c2)) hsp,Eq.mp (congrArg (fun l=>SRow _ _ A2 l c2) hsp) bV,bS⟩
 intro de a3
 refine wb<| wp_loopX (fun (mm:Nat) (aa:Act) (ww:World)=>∃ (cur:List Nat) (A1:Option Addr) (c1:Nat),mm=cur.length∧aa.tmps.size=32∧aa.defers=[]∧New w ww∧aa.eval (.tmp 0)=sv A1 cur c1∧SRow ww .u16 A1 cur c1∧(cur.dropWhile blankN=u.dropWhile blankN)∧(U16s cur)) (fun mm=>mm) ⟨_,⟨u,Au,cu,rfl,b3,b4,bn,h8,(hru.new_ bn),rfl,hu⟩⟩ ?_
 rintro mm df dg ⟨cur,A1,c1,hmm,ap,a4,a5,aw,ay,hcd,hcu⟩
 refine wk fun cF a8=>wk fun cG aD=>?_
 rcases bc ((!decide ((cur.length:Int)≤0))) with aq|aq
 have aE:(decide ((cur.length:Int)≤0))=false:=nF aq
 have cn:=oF aE
 have hb:=hcu.at16 0
 refine wp_g0 (.replicate 9 true) [] 32
  [ve (sv A1 cur c1),ve (iv (cur.length:Int)),vT,vT,ve (sv A1 cur c1),
  (EP (.int .u16 ((cur.getD 0 0:Nat):Int))),ve (.int .u16 ((cur.getD 0 0:Nat):Int)),ve (.bool (blankN (cur.getD 0 0))),ve (.bool (blankN (cur.getD 0 0)))] ap (.eq (.eq (.eq (.eq (.eq (.cons (fun _ _ _ n ⟨_,_,e,h⟩=>⟨_,_,e,h.new_ n⟩) (.eq (.eq (.eq .nil))))))))) ?_ ?_
 refine .M aw<| .T (fun k=>v_lenR rfl elU (k.eq1 0 3 rfl))<| .b 1 (r_gtrK aE)<| .N 2<| .gm (fun k=>k.eq1 3 6 rfl) (fun k=>k.fx 0 aw) ?_
 refine .o1 (tg rfl rfl rfl (fun _ _ k=>k.eq1 3 6 rfl) fun _ w hn k=>(by
  exact x_eaddr (k:=.u16) rfl elU (k.eq1 4 7 rfl) rfl (ay.new_ hn) (by omega) fun cq cr hme=>⟨cq,cr,rfl,hme⟩)) ?_
 refine .o1 (tg rfl rfl rfl (fun _ _ k=>k.eq1 3 6 rfl) fun _ w hn k=>(by
  obtain⟨dh,di,cs,bW⟩:=k.G 5 8
  exact⟨_,v_load rfl cs (l_one isAgg79 bW.1),rfl⟩)) ?_
 exact .o1 (cg rfl rfl rfl (fun _ _ k=>k.eq1 3 6 rfl) rfl (fun _ w hn k=>⟨#[.int .u16 ((cur.getD 0 0:Nat):Int)],args1 (k.eq1 6 9 rfl),fun _=>by kernel_rfl,cblank_c (cur.getD 0 0) _ (by omega)⟩) fun _=>rfl)<| .T (fun k=>v_pickT rfl (k.eq1 3 6 rfl) (k.eq1 7 10 rfl)) .nil
 refine aftI ap a4 a5 fun cH cI ar aF aG a9 aH=>?_
 have au:=aH.f1 aw
 have a6:=aH.g 8 11
 have ah:=ay.new_ a9
 refine aD _ _ ?_
 rcases bc (blankN (cur.getD 0 0)) with ad|ad
 have ba:=hB a6 ad
 refine wt ba<| ws<| a8 _ _<| wb<| wp_g0 [true,true,false] [(2,true)] 32
  [ve (sv A1 cur c1),
  (RP .u16 (cur.drop 1)),vt] ar (.eq (.cons (fun _ _ _ n ⟨_,_,e,h⟩=>⟨_,_,e,h.new_ n⟩) (.tt .nil))) ?_ ?_
 refine .M au ?_
 refine .o1 (tk rfl rfl fun _ w hn k=>(by
  exact x_cutL (k:=.u16) rfl elU (k.eq1 0 12 rfl) rfl (ah.new_ hn) (by omega) fun cw cx hmr=>⟨cw,cx,rfl,hmr⟩)) ?_
 exact .off .nil
 refine aftI ar aF aG fun az cJ aI bb bd be aJ=>?_
 have cK:=aJ.f1 au
 obtain⟨ag,ab,av,bf⟩:=aJ.G 1 13
 have av:az.eval (.tmp 13)=sv ag (cur.drop 1) ab:=av
 have cB:=ah.new_ be
 refine sP av aI bb fun bX bg bh ae bY=>?_
 have cL:=ae.q av
 refine st_nil ?_
 refine blk_n ?_
 refine then_n ?_
 exact⟨_,⟨(cur.drop 1),ag,ab,rfl,bg,bh,bd,bY,bf,((dw_step (by omega) ad).trans hcd),(hcu.drop 1)⟩,(by rw [List.length_drop]; omega)⟩
 have bi:=hB a6 ad
 refine wf bi<| wp_exit ?_
 have hdw:=dw_end (l:=cur) (Or.inr ad)
 have he136:cur=(u.dropWhile blankN):=hdw.symm.trans hcd
 rw [he136] at au
 rw [he136] at ah
 exact a3 _ _ ⟨A1,c1,ar,aF,aG,au,ah⟩
 have aK:(decide ((cur.length:Int)≤0))=true:=nT aq
 have cy:=oT aK
 have hb:=hcu.at16 0
 refine wA tr9 [] 32 [ve (sv A1 cur c1),ve (iv (cur.length:Int)),vF,vF,vU,vU,vU,vU,vF] ap ?_ ?_
 exact .M aw<| .T (fun k=>v_lenR rfl elU (k.eq1 0 3 rfl))<| .b 1 (r_gtrK aK)<| .N 2<| .S<| .S<| .S<| .S<| .T (fun k=>v_pickF rfl (k.eq1 3 6 rfl) rfl) .nil
 refine aftI ap a4 a5 fun cM cN bj bk bl bm aL=>?_
 have a7:=aL.f1 aw
 have bZ:=aL.g 8 11
 have aM:=ay.new_ bm
 refine aD _ _<| wf bZ<| wp_exit ?_
 have hdw:=dw_end (l:=cur) (Or.inl (by omega))
 have he148:cur=(u.dropWhile blankN):=hdw.symm.trans hcd
 rw [he148] at a7
 rw [he148] at aM
 exact a3 _ _ ⟨A1,c1,bj,bk,bl,a7,aM⟩
theorem cdigits_c (Au:Option Addr) (u:List Nat) (cu:Nat) (w:World) (hru:SRow w .u16 Au u cu) (hu:U16s u):Calls prog 80 #[sv Au u cu] w (IsRet (.bool (digitsT u)) w):=by
 refine enter_abs func80 rfl fun a0 ap bt hp=>?_
 have ap:a0.tmps.size=18:=ap
 have bu:New w w:=Upd.refl _ _
 have hp0:a0.eval (.tmp 0)=sv Au u cu:=hp 0 _ rfl
 have hmx:=hru.max
 refine wk fun K1 bv=>?_
 refine wA tr1 [] 18 [vF] ap ?_ ?_
 exact .c .nil
 refine aftI ap bt bu fun a2 w3 aQ bw bx cn bz=>?_
 have h8:=bz.f1 hp0
 refine bv _ _ <| wk fun co a6=>?_
 refine wk fun cp a7=>?_
 refine wA tr3 [] 18 [ve (sv Au u cu),ve (iv (u.length:Int)),ve (iv 0)] aQ ?_ ?_
 exact .M h8<| .T (fun k=>v_lenR rfl elU (k.eq1 0 5 rfl))<| .T (fun k=>v_move rfl rfl) .nil
 refine aftI aQ bw bx fun cq cr a8 a9 ba b0 al=>?_
 have bA:=al.f1 h8
 have bB:=al.g 0 5
 have bC:=al.g 1 6
 have bD:=al.g 2 7
 refine a7 _ _<| wb<| wp_loopX (fun (mm:Nat) (aa:Act) (ww:World)=>∃ (i:Nat),mm=u.length - i∧aa.tmps.size=18∧aa.defers=[]∧New w ww∧aa.eval (.tmp 7)=iv (i:Int)∧aa.eval (.tmp 0)=sv Au u cu∧aa.eval (.tmp 5)=sv Au u cu∧aa.eval (.tmp 6)=iv (u.length:Int)∧(i≤u.length)∧(∀ j,j < i→(fun y:Nat=>!dgtN y) (u.getD j 0)=false)) (fun mm=>mm) ⟨_,⟨0,rfl,a8,a9,ba,bD,bA,bB,bC,(Nat.zero_le _),(fun j h=>absurd h (Nat.not_lt_zero _))⟩⟩ ?_
 rintro mm cs ct ⟨i,hmm,au,bb,bd,aR,bE,bF,aS,hi,hno⟩
 refine wk fun cv be=>?_
 refine wA tr1 [] 18 [ve (.bool (decide ((i:Int) < (u.length:Int))))] au ?_ ?_
 exact .T (fun k=>v_bin rfl (k.fx 7 aR) (k.fx 6 aS) (fun _=>rfl) (r_lssK rfl)) .nil
 refine aftI au bb bd fun cw cx ae ao am b2 af=>?_
 have⟨aT,av,aU,bG⟩:=af.f4 aR bE bF aS
 have aV:=af.g 0 8
 refine be _ _ <| wk fun cy bf=>?_
 rcases bc (decide ((i:Int) < (u.length:Int))) with ag|ag
 have aC:=oT ag
 have bg:=hB aV ag
 refine wt bg<| ws<| bf _ _<| wk fun cz bh=>wb ?_
 refine wk fun cA bi=>?_
 have hb:=hu.at16 i
 refine wp_g0 [true,true,true] [] 18
  [(EP (.int .u16 ((u.getD i 0:Nat):Int))),ve (.int .u16 ((u.getD i 0:Nat):Int)),ve (.int .u16 ((u.getD i 0:Nat):Int))] ae (.cons (fun _ _ _ n ⟨_,_,e,h⟩=>⟨_,_,e,h.new_ n⟩) (.eq (.eq .nil))) ?_ ?_
 refine .o1 (tk rfl rfl fun _ w hn k=>(by
  exact x_eaddr (k:=.u16) rfl elU (k.fx 5 aU) (k.fx 7 aT) (hru.new_ (am.transNew hn)) (by omega) fun b1 o2 hme=>⟨b1,o2,rfl,hme⟩)) ?_
 refine .o1 (tk rfl rfl fun _ w hn k=>(by
  obtain⟨b5,o6,e7,bH⟩:=k.G 0 9
  exact⟨_,v_load rfl e7 (l_one isAgg79 bH.1),rfl⟩)) ?_
 exact .B 1 .nil
 refine aftI ae ao am fun cB cC an aw ax b4 ah=>?_
 have⟨aW,aX,aY,aZ⟩:=ah.f4 aT av aU bG
 have a1:=ah.g 2 4
 refine bi _ _ <| wk fun cD ay=>?_
 rcases bc (dgtN (u.getD i 0)) with ai|ai
 have hb:=hu.at16 i
 refine wA tr3 [] 18 [ve (.int .u16 ((u.getD i 0:Nat):Int)),vT,vF] an ?_ ?_
 exact .M a1<| .o1 (ck rfl rfl rfl (fun _ w hn k=>⟨#[.int .u16 ((u.getD i 0:Nat):Int)],args1 (k.eq1 0 11 rfl),fun _=>by kernel_rfl,cdigit_c (u.getD i 0) _ (by omega)⟩) fun _=>congrArg Value.bool ai)<| .T (fun k=>v_not rfl (k.eq1 1 12 rfl)) .nil
 refine aftI an aw ax fun cE cF az bj bk b6 aj=>?_
 have⟨a3,bI,bJ,bK⟩:=aj.f4 aW aX aY aZ
 have bL:=aj.g 2 13
 refine ay _ _<| wf bL<| ws ?_
 refine bh _ _<| wA [true,false] [(1,true)] 18 [ve (iv ((i + 1:Nat):Int)),vt] az ?_ ?_
 exact .R (fun k=>v_bin rfl (k.fx 7 a3) rfl (fun _=>rfl) (n_add (by omega) (IntWalk.i64_in _ (by omega)))) (fun _=>rfl)<| .off .nil
 refine aftI az bj bk fun a4 cG aA bl bm b7 ak=>?_
 have⟨cH,bM,bN,bO⟩:=ak.f4 a3 bI bJ bK
 have a5:=ak.g 0 14
 refine st_take rfl rfl (y_move (v:=iv ((i + 1:Nat):Int)) rfl a5) rfl ?_
 obtain⟨bP,ac⟩:∃ a',a'=a4.put (some 7) (iv ((i + 1:Nat):Int)):=⟨_,rfl⟩
 have⟨bn,bo⟩:=pz2 ac aA bl
 have⟨bQ,bR,bS⟩:=pN3 ac bM bN bO
 have cI:=pN ac a5
 have bT:=s7 ac aA
 show stepsTo _ _ _ _ _ (a4.put (some 7) (iv ((i + 1:Nat):Int))) _
 rw [← ac]
 refine st_nil ?_
 refine then_n ?_
 exact⟨_,⟨i + 1,rfl,bn,bo,bm,(bT.trans (congrArg (Value.int .i64) (by omega))),bQ,bR,bS,(by omega),(up_false (p:=(fun y:Nat=>!dgtN y)) hno (by show (!dgtN (u.getD i 0))=false; rw [ai]; rfl))⟩,(by omega)⟩
 have hb:=hu.at16 i
 refine wA tr3 [] 18 [ve (.int .u16 ((u.getD i 0:Nat):Int)),vF,vT] an ?_ ?_
 exact .M a1<| .o1 (ck rfl rfl rfl (fun _ w hn k=>⟨#[.int .u16 ((u.getD i 0:Nat):Int)],args1 (k.eq1 0 11 rfl),fun _=>by kernel_rfl,cdigit_c (u.getD i 0) _ (by omega)⟩) fun _=>congrArg Value.bool ai)<| .T (fun k=>v_not rfl (k.eq1 1 12 rfl)) .nil
 refine aftI an aw ax fun cJ cK aq aD aE b8 ad=>?_
 have⟨b9,ca,cb,cc⟩:=ad.f4 aW aX aY aZ
 have bp:=ad.g 2 13
 refine ay _ _<| wt bp<| wk fun cd aF=>?_
 refine wA tr1 [] 18 [vF] aq ?_ ?_
 exact .c .nil
 refine aftI aq aD aE fun ce cf bU aG aH bV aI=>?_
 have bq:=aI.g 0 2
 refine aF _ _<| wp_ret (ret_k aG (v:=.bool false) (res_t rfl bq _) ?_)
 exact⟨by rw [show digitsT u=false from by unfold digitsT; rw [any_true (p:=(fun y:Nat=>!dgtN y)) (i:=i) (by omega) (by show (!dgtN (u.getD i 0))=true; rw [ai]; rfl)]; simp],aH⟩
 have aC:=oF ag
 have aJ:=hB aV ag
 refine wf aJ<| wp_exit ?_
 refine a6 _ _<| wk fun ch ar=>?_
 rcases bc (decide ((u.length:Int)≤0)) with ab|ab
 have aB:=oT ab
 refine wA tr4 [] 18 [ve (sv Au u cu),ve (iv (u.length:Int)),vF,vF] ae ?_ ?_
 exact .M av<| .T (fun k=>v_lenR rfl elU (k.eq1 0 15 rfl))<| .b 1 (r_gtrK ab)<| .B 2 .nil
 refine aftI ae ao am fun ci cj bW aK aL bX aM=>?_
 have br:=aM.g 3 2
 refine ar _ _<| wp_ret (ret_k aK (v:=.bool false) (res_t rfl br _) ?_)
 exact⟨by rw [show digitsT u=false from by unfold digitsT; rw [any_false (p:=(fun y:Nat=>!dgtN y)) (fun j hj=>hno j (by omega))]; simp only [ab]; rfl],aL⟩
 have aB:=oF ab
 refine wA tr4 [] 18 [ve (sv Au u cu),ve (iv (u.length:Int)),vT,vT] ae ?_ ?_
 exact .M av<| .T (fun k=>v_lenR rfl elU (k.eq1 0 15 rfl))<| .b 1 (r_gtrK ab)<| .B 2 .nil
 refine aftI ae ao am fun cl cm bY aN aO bZ aP=>?_
 have bs:=aP.g 3 2
 refine ar _ _<| wp_ret (ret_k aN (v:=.bool true) (res_t rfl bs _) ?_)
 exact⟨by rw [show digitsT u=true from by unfold digitsT; rw [any_false (p:=(fun y:Nat=>!dgtN y)) (fun j hj=>hno j (by omega))]; simp only [ab]; rfl],aO⟩
def cown_c_P (a:Bool) (Aa:Option Addr) (ma:List Nat) (ca:Nat) (w:World) (en:Ending) (w':World):Prop:=∃ (Ar0:Option Addr) (cr0:Nat),en=.returned (.agg #[.bool a,sv Ar0 ma cr0])∧SRow w' .u32 Ar0 ma cr0∧New w w'
theorem cown_c (a:Bool) (Aa:Option Addr) (ma:List Nat) (ca:Nat) (w:World) (hra:SRow w .u32 Aa ma ca) (hs:ma.length≤1000000):Calls prog 38 #[.agg #[.bool a,sv Aa ma ca]] w (cown_c_P a Aa ma ca w):=by
 refine enter_abs func38 rfl fun a0 ad aF hp=>?_
 have ad:a0.tmps.size=9:=ad
 have af:New w w:=Upd.refl _ _
 have hp0:a0.eval (.tmp 0)=.agg #[.bool a,sv Aa ma ca]:=hp 0 _ rfl
 refine wk fun K1 aG=>?_
 refine wB tr2 [] [] 9 [IsNew w 26 [.bool a,sv Aa ma ca],IsNew w 26 [.bool false,sv none ([]) 0]] [0,1] ad ?_ heN ?_
 exact .X hp0<| .Y .nil
 refine aftI ad aF af fun a2 w3 an aH ac aP ag=>?_
 obtain⟨q9,h8,aq,ah⟩:=ag.G 0 1
 obtain⟨aI,ao,ar,au⟩:=ag.G 1 2
 have hne16:=ag.ne 0 1 1 2 h8 ao
 have aL:=Nat.le_trans af.size aq
 have aM:=Nat.le_trans af.size ar
 refine aG _ _ <| wk fun aQ av=>?_
 refine wp_g0 [true,true,true,true,true,true,false] [(6,false)] 9
  [ve (pv q9),ve (.bool a),ve (.pointer (some ⟨q9,1,none⟩)),ve (sv Aa ma ca),
  (OP w3.heap.size 59 .u32 ma),(fun (v_:Value) (W:World)=>∃ (A9:Option Addr) (aa:Nat),v_=.agg #[.bool a,sv A9 ma aa]∧SOwn W w3.heap.size 59 .u32 A9 ma aa),vt] an (.eq (.eq (.eq (.eq (.cons (fun _ _ _ n ⟨_,_,e,h⟩=>⟨_,_,e,h.new_ n⟩) (.cons (fun _ _ _ n ⟨_,_,e,h⟩=>⟨_,_,e,h.new_ n⟩) (.tt .nil))))))) ?_ ?_
 refine .F h8<| .J 0 isAgg4 ah<| .F h8<| .J 2 isAgg24 ah ?_
 refine .o1 (tkC rfl (noG rfl) rfl fun _ w hn k=>(by
  refine ⟨#[sv Aa ma ca],_,args1 (k.eq1 3 6 rfl),fun w=>by kernel_rfl,clone32_c _ ma _ _ (hra.new_ (ac.transNew hn)) (by first|omega|(simp only [List.length_nil,List.length_take,List.length_drop]; omega)|(simp only [List.length_cons,List.length_nil]; omega)),?_⟩
  rintro e w' ⟨A1,c2,rfl,hmo0,hm⟩
  exact⟨_,rfl,hm,⟨A1,c2,rfl,(hmo0.more hn.size)⟩⟩)) ?_
 refine .o1 (tk rfl rfl fun _ w hn k=>(by
  obtain⟨A5,c6,e7,aJ⟩:=k.G 4 7
  exact⟨_,v_build (ps:=[(0,.bool a),(1,sv A5 ma c6)]) rfl (parts2 (k.eq1 1 4 rfl) e7) (by kernel_rfl),⟨A5,c6,rfl,aJ⟩⟩)) ?_
 exact .off .nil
 refine aftI an aH ac fun aK aR aN aw ax ay ai=>?_
 have ap:=ai.f1 ao
 obtain⟨ae,ab,aj,az⟩:=ai.G 5 8
 have aj:aK.eval (.tmp 8)=.agg #[.bool a,sv ae ma ab]:=aj
 have ak:=au.new_ ay
 have aA:=az.more ac.size
 refine sS6 ap aj ak fun aS aB al aO=>?_
 have aD:=aA.far ak al (by decide)
 have aE:=ax.tR al
 refine av _ _<| wp_ret (ret_k aw (v:=.agg #[.bool a,sv ae ma ab]) (res_c rfl ap (l_two isAgg26 sizeOf26 aB)) ?_)
 exact⟨ae,ab,rfl,aD.row,aE⟩
def cbig_c_P (a:Bool) (Aa:Option Addr) (ma:List Nat) (ca:Nat) (w:World) (en:Ending) (w':World):Prop:=∃ (Ar0:Option Addr) (cr0:Nat),en=.returned (vv (Vl.mk 4 0 0 a ma [] 0) Ar0 cr0 none 0)∧SRow w' .u32 Ar0 ma cr0∧New w w'
theorem cbig_c (a:Bool) (Aa:Option Addr) (ma:List Nat) (ca:Nat) (w:World) (hra:SRow w .u32 Aa ma ca):Calls prog 37 #[.agg #[.bool a,sv Aa ma ca]] w (cbig_c_P a Aa ma ca w):=by
 refine enter_abs func37 rfl fun a0 aa aA hp=>?_
 have aa:a0.tmps.size=5:=aa
 have ab:New w w:=Upd.refl _ _
 have hp0:a0.eval (.tmp 0)=.agg #[.bool a,sv Aa ma ca]:=hp 0 _ rfl
 refine wk fun K1 aB=>?_
 refine wB tr2 [] [] 5 [IsNew w 26 [.bool a,sv Aa ma ca],IsNew w 29 z7] [0,1] aa ?_ heN ?_
 exact .X hp0<| .Y .nil
 refine aftI aa aA ab fun a2 w3 ah aC al aJ ac=>?_
 obtain⟨q9,h8,am,an⟩:=ac.G 0 1
 obtain⟨ai,aj,ao,ap⟩:=ac.G 1 2
 have hne16:=ac.ne 0 1 1 2 h8 aj
 have aF:=Nat.le_trans ab.size am
 have aG:=Nat.le_trans ab.size ao
 refine aB _ _ <| wk fun aK aq=>?_
 refine wA [true,true,false] [(2,false)] 5 [ve (.agg #[.bool a,sv Aa ma ca]),ve (vv (Vl.mk 4 0 0 a ma [] 0) Aa ca none 0),vt] ah ?_ ?_
 exact .L6 h8 an<| .T (fun k=>v_build (ps:=[(0,iv 4),(2,.agg #[.bool a,sv Aa ma ca])]) rfl (parts2 rfl (k.eq1 0 3 rfl)) (by kernel_rfl))<| .off .nil
 refine aftI ah aC al fun aL aM aH ar au av ad=>?_
 have ak:=ad.f1 aj
 have aD:=ad.g 1 4
 have aw:=ap.new_ av
 refine sS9 ak aD aw fun aE ay ax aI=>?_
 have ae:=au.tR ax
 refine aq _ _<| wp_ret (ret_k ar (v:=vv (Vl.mk 4 0 0 a ma [] 0) Aa ca none 0) (res_c rfl ak (l_agg isAgg29 sizeOf29 ay rfl)) ?_)
 exact⟨Aa,ca,rfl,(hra.new_ ae),ae⟩
def cnumeric_c_P (v:Vl) (Av:Option Addr) (cv:Nat) (Bv:Option Addr) (dv:Nat) (w:World) (en:Ending) (w':World):Prop:=∃ (Ar0:Option Addr) (cr0:Nat) (Ar1:Option Addr) (cr1:Nat),en=.returned (.tuple #[vv (numericV v).1 Ar0 cr0 Ar1 cr1,iv ((numericV v).2)])∧SRow w' .u32 Ar0 ((numericV v).1.mag) cr0∧SRow w' .u16 Ar1 ((numericV v).1.s) cr1∧New w w'
theorem cnumeric_c (v:Vl) (Av:Option Addr) (cv:Nat) (Bv:Option Addr) (dv:Nat) (w:World) (hmv:SRow w .u32 Av v.mag cv) (hsv:SRow w .u16 Bv v.s dv) (hvv:VOk v):Calls prog 10 #[vv v Av cv Bv dv] w (cnumeric_c_P v Av cv Bv dv w):=by
 refine enter_abs func10 rfl fun a0 aK df hp=>?_
 have aK:a0.tmps.size=26:=aK
 have aW:New w w:=Upd.refl _ _
 have hp0:a0.eval (.tmp 0)=vv v Av cv Bv dv:=hp 0 _ rfl
 have hm:=hvv.clean.mlen
 refine wk fun K1 dg=>?_
 refine wB tr3 [] [] 26 [IsNew w 29 (c7 v Av cv Bv dv),IsNew w 29 z7,ve (iv 0)] [0,1] aK ?_ heN ?_
 exact .X hp0<| .Y<| .c .nil
 refine aftI aK df aW fun a2 w3 cf dh aD d2 aX=>?_
 obtain⟨q9,h8,cn,aY⟩:=aX.G 0 1
 obtain⟨aB,ch,co,cp⟩:=aX.G 1 2
 have hne16:=aX.ne 0 1 1 2 h8 ch
 have dG:=Nat.le_trans aW.size cn
 have dH:=Nat.le_trans aW.size co
 refine dg _ _ <| wk fun d3 cq=>?_
 refine wp_g0 [true,true,false] [(2,false)] 26
  [ve (vv v Av cv Bv dv),
  (VP (cleanV v)),vt] cf (.eq (.cons (fun _ _ _ n ⟨_,_,_,_,e,h,i⟩=>⟨_,_,_,_,e,h.new_ n,i.new_ n⟩) (.tt .nil))) ?_ ?_
 refine .L9 h8 aY ?_
 refine .o1 (tkC rfl (noG rfl) rfl fun _ w hn k=>(by
  refine ⟨#[vv v Av cv Bv dv],_,args1 (k.eq1 0 6 rfl),fun w=>by kernel_rfl,clean_c v _ _ _ _ _ (hmv.new_ (aD.transNew hn)) (hsv.new_ (aD.transNew hn)),?_⟩
  rintro e w' ⟨A1,c2,A3,c4,rfl,hmo0,hmo1,hm⟩
  exact⟨_,rfl,hm,⟨A1,c2,A3,c4,rfl,hmo0,hmo1⟩⟩)) ?_
 exact .off .nil
 refine aftI cf dh aD fun di d4 aZ cr ct a1 aE=>?_
 have⟨a3,dj⟩:=aE.f2 h8 ch
 obtain⟨ap,ah,aC,aq,a4,cu,cw⟩:=aE.G 1 7
 have a4:di.eval (.tmp 7)=vv (cleanV v) ap ah aC aq:=a4
 have⟨aF,cx⟩:=nw2 a1 aY cp
 refine sS9 a3 a4 aF fun dk a5 aG cy=>?_
 have cA:=cu.fr aF aG
 have cB:=cw.fr aF aG
 have cC:=cy hne16.symm cx
 have cD:=ct.tR aG
 refine cq _ _ <| wk fun d6 cE=>?_
 refine wk fun d7 cF=>?_
 refine wA tr3 [] 26 [ve (pv q9),ve (iv ((cleanV v).k)),ve (.bool (decide (((cleanV v).k)=4)))] aZ ?_ ?_
 exact .F a3<| .J 0 isAgg3 a5<| .b 1 (r_eql rfl) .nil
 refine aftI aZ cr cD fun d8 dl ay a6 aH az aI=>?_
 have⟨ci,cj⟩:=aI.f2 a3 dj
 have cl:=aI.g 2 10
 have⟨a7,aJ,a8,cG⟩:=nw4 az a5 cC cA cB
 refine cF _ _ ?_
 rcases bc (decide (((cleanV v).k)=4)) with aa|aa
 have bB:=oT aa
 have cH:=hB cl aa
 refine wt cH<| wk fun d9 cI=>?_
 refine wp_g0 [true,true,true,true,false,false] [(4,false),(5,true)] 26
  [ve (.pointer (some ⟨q9,3,none⟩)),ve (.agg #[.bool ((cleanV v).neg),sv ap ((cleanV v).mag) ah]),(fun (v_:Value) (W:World)=>∃ (ar:Option Addr) (au:Nat),v_=.agg #[.bool ((cleanV v).neg),sv ar ((cleanV v).mag) au]∧SRow W .u32 ar ((cleanV v).mag) au),(fun (v_:Value) (W:World)=>∃ (av:Option Addr) (aw:Nat),v_=vv (Vl.mk 4 0 0 (cleanV v).neg (cleanV v).mag [] 0) av aw none 0∧SRow W .u32 av ((cleanV v).mag) aw),vt,vt] ay (.eq (.eq (.cons (fun _ _ _ n ⟨_,_,e,h⟩=>⟨_,_,e,h.new_ n⟩) (.cons (fun _ _ _ n ⟨_,_,e,h⟩=>⟨_,_,e,h.new_ n⟩) (.tt (.tt .nil)))))) ?_ ?_
 refine .F ci<| .K6 0 a7 ?_
 refine .o1 (tkC rfl (noG rfl) rfl fun _ w hn k=>(by
  refine ⟨#[.agg #[.bool ((cleanV v).neg),sv ap ((cleanV v).mag) ah]],_,args1 (k.eq1 1 12 rfl),fun w=>by kernel_rfl,cown_c ((cleanV v).neg) _ ((cleanV v).mag) _ _ (a8.new_ hn) (by first|omega|(simp only [List.length_nil,List.length_take,List.length_drop]; omega)|(simp only [List.length_cons,List.length_nil]; omega)),?_⟩
  rintro e w' ⟨dm,dn,rfl,hmo0,hm⟩
  exact⟨_,rfl,hm,⟨dm,dn,rfl,hmo0⟩⟩)) ?_
 refine .o1 (tkC rfl (noG rfl) rfl fun _ w hn k=>(by
  obtain⟨dp,dq,dr,cJ⟩:=k.G 2 13
  refine ⟨#[.agg #[.bool ((cleanV v).neg),sv dp ((cleanV v).mag) dq]],_,args1 dr,fun w=>by kernel_rfl,cbig_c ((cleanV v).neg) _ ((cleanV v).mag) _ _ cJ,?_⟩
  rintro e w' ⟨ds,dt,rfl,hmo0,hm⟩
  exact⟨_,rfl,hm,⟨ds,dt,rfl,hmo0⟩⟩)) ?_
 exact .off<| .off .nil
 refine aftI ay a6 aH fun a9 ea ba cK cL cM bb=>?_
 have cm:=bb.f1 cj
 obtain⟨ax,ai,aL,cN⟩:=bb.G 3 14
 have aL:a9.eval (.tmp 14)=vv (Vl.mk 4 0 0 (cleanV v).neg (cleanV v).mag [] 0) ax ai none 0:=aL
 have bd:=aJ.new_ cM
 refine sS9 cm aL bd fun du cO be dI=>?_
 have cQ:=cN.fr bd be
 have cR:=cL.tR be
 refine sP (v:=iv 0) rfl ba cK fun dw dJ cS aj dy=>?_
 have⟨dx,ec⟩:=aj.q2 cm aL
 refine cI _ _<| wp_ret (ret_k cS (v:=.tuple #[vv (Vl.mk 4 0 0 (cleanV v).neg (cleanV v).mag [] 0) ax ai none 0,iv 0]) (res_ct rfl dx dy (l_agg isAgg29 sizeOf29 cO rfl)) ?_)
 have ak:(numericV v).1.mag=((cleanV v).mag):=by first|rfl|(simp only [numericV,Vl.z,aa,bsm] <;> rfl)|(exfalso; omega)
 have al:(numericV v).1.s=[]:=by first|rfl|(simp only [numericV,Vl.z,aa,bsm] <;> rfl)|(exfalso; omega)
 exact⟨ax,ai,none,0,(by show Ending.returned (.tuple #[vv (Vl.mk 4 0 0 (cleanV v).neg (cleanV v).mag [] 0) ax ai none 0,iv 0])=Ending.returned (.tuple #[vv (numericV v).1 ax ai none 0,iv ((numericV v).2)]); (first|rfl|(simp only [numericV,Vl.z,aa,ak,al,bsm] <;> rfl)|(exfalso; omega))),(by rw [ak]; exact cQ),(by rw [al]; exact (SRow.nil _ _)),cR⟩
 have bB:=oF aa
 have cT:=hB cl aa
 refine wf cT<| ws<| cE _ _<| wk fun ed cU=>?_
 refine wB [true,true,true,true,true,true,false,false] [4] [(6,false),(7,true)] 26 [ve (vv (cleanV v) ap ah aC aq),ve (.tuple #[nv ((numberV (cleanV v)).1),iv ((numberV (cleanV v)).2)]),ve (.tuple #[nv ((numberV (cleanV v)).1),iv ((numberV (cleanV v)).2)]),ve (nv ((numberV (cleanV v)).1)),ve (iv ((numberV (cleanV v)).2)),IsNew dl 23 [iv 0,iv 0],vt,vt] [5] ay ?_ ?_ ?_
 refine .L9 ci a7<| .C 0 (fun p=>cnumber_c (cleanV v) _ _ _ _ _ (a8.new_ p) (cG.new_ p) hvv.clean)<| .N 1<| .E 2 ?_
 refine .o3 ?_
 exact .Y<| .off<| .off .nil
 refine eg1 ?_
 exact eager_take rfl rfl fun _ w hn k=>⟨iv ((numberV (cleanV v)).2),fun w=>v_extract rfl (k.eq1 2 15 rfl) rfl,rfl⟩
 refine aftI ay a6 aH fun bf dK aM bE bF bG am=>?_
 have cV:=am.f1 cj
 have bg:=am.g 3 18
 have bh:=am.g 4 19
 obtain⟨cW,bi,aN,bH⟩:=am.G 5 4
 have bI:=aJ.new_ bG
 have hne114:aB ≠ cW:=by have h1:=aJ.lt; have h2:=aN; omega
 have dB:=Nat.le_trans aH.size aN
 refine sS2 bi bg bH fun dL bJ bK bL=>?_
 have bN:=bL hne114 bI
 have bO:=bF.tR bK
 refine sP bh aM bE fun cX aO bP ac bk=>?_
 have⟨cY,dN,dO⟩:=ac.q3 cV bg bh
 have cZ:=ac.q bi
 refine cU _ _ <| wk fun dP bQ=>?_
 refine wk fun dQ bR=>?_
 refine wA tr2 [] 26 [ve (iv ((numberV (cleanV v)).2)),ve (.bool (!decide (((numberV (cleanV v)).2)=0)))] aO ?_ ?_
 exact .M bk<| .b 0 (r_neq rfl) .nil
 refine aftI aO bP bO fun dR dS an aP aQ aR ao=>?_
 have⟨bl,c0,c1⟩:=ao.f3 cY cZ bk
 have bm:=ao.g 1 21
 have⟨aS,bS⟩:=nw2 aR bN bJ
 refine bR _ _ ?_
 rcases bc ((!decide (((numberV (cleanV v)).2)=0))) with ab|ab
 have bT:=hB bm ab
 have ad:(decide (((numberV (cleanV v)).2)=0))=false:=nF ab
 have dz:=oF ad
 refine wt bT<| wk fun dT bU=>?_
 refine wB [true,true,false,false] [1] [(2,false),(3,true)] 26 [ve (vv (Vl.mk 0 0 0 false [] [] 0) none 0 none 0),ve (iv ((numberV (cleanV v)).2)),vt,vt] [] an ?_ ?_ ?_
 refine .Z ?_
 refine .o3 ?_
 exact .off<| .off .nil
 refine eg1 ?_
 exact eager_take rfl rfl fun _ w hn k=>⟨iv ((numberV (cleanV v)).2),fun w=>v_move rfl (k.fx 5 c1),rfl⟩
 refine aftI an aP aQ fun bn dU aT bV bW bX aA=>?_
 have bo:=aA.f1 bl
 have bp:=aA.g 0 22
 have bq:=aA.g 1 23
 have bY:=aS.new_ bX
 refine sS9 bo bp bY fun c3 b0 bZ dC=>?_
 have b2:=bW.tR bZ
 refine sP bq aT bV fun c5 dD b3 ae da=>?_
 have⟨c9,dW,dX⟩:=ae.q3 bo bp bq
 refine bU _ _<| wp_ret (ret_k b3 (res9 c9 da b0) ?_)
 exact rV (by first|rfl|(simp only [numericV,Vl.z,aa,ab,ad,bsm] <;> rfl)|(exfalso; omega)) b2
 have b4:=hB bm ab
 have af:(decide (((numberV (cleanV v)).2)=0))=true:=nT ab
 have dA:=oT af
 refine wf b4<| ws<| bQ _ _<| wk fun dY b5=>?_
 refine wA [true,true,false,false] [(2,false),(3,true)] 26 [ve (nv ((numberV (cleanV v)).1)),ve (vv (Vl.mk 3 ((numberV (cleanV v)).1).k ((numberV (cleanV v)).1).n false [] [] 0) none 0 none 0),vt,vt] an ?_ ?_
 exact .L2 c0 bS<| .C 0 (fun p=>cnum_c ((numberV (cleanV v)).1) _)<| .off<| .off .nil
 refine aftI an aP aQ fun bt dZ aU b6 b7 b8 aV=>?_
 have bu:=aV.f1 bl
 have bv:=aV.g 1 25
 have b9:=aS.new_ b8
 refine sS9 bu bv b9 fun db cb ca dE=>?_
 have cd:=b7.tR ca
 refine sP (v:=iv 0) rfl aU b6 fun dc dF ce ag de=>?_
 have⟨dd,d1⟩:=ag.q2 bu bv
 refine b5 _ _<| wp_ret (ret_k ce (res9 dd de cb) ?_)
 exact rV (by first|rfl|(simp only [numericV,Vl.z,aa,ab,af,bsm] <;> rfl)|(exfalso; omega)) cd
theorem okS_xo (x:Nat):okS ⟨#[120,88,111,79]⟩ x=(okbN x || (decide ((x:Int)=120) || (decide ((x:Int)=88) || (decide ((x:Int)=111) || (decide ((x:Int)=79) || false))))):=rfl
theorem cstrange_c (Au:Option Addr) (u:List Nat) (cu:Nat) (w:World) (hru:SRow w .u16 Au u cu) (hu:U16s u):Calls prog 84 #[sv Au u cu] w (IsRet (.bool (numericN ⟨#[120,88,111,79]⟩ u)) w):=by
 refine enter_abs func84 rfl fun a0 au ci hp=>?_
 have au:a0.tmps.size=54:=au
 have cj:New w w:=Upd.refl _ _
 have hp0:a0.eval (.tmp 0)=sv Au u cu:=hp 0 _ rfl
 have hmx:=hru.max
 refine wk fun K1 cl=>?_
 refine wA tr1 [] 54 [vF] au ?_ ?_
 exact .c .nil
 refine aftI au ci cj fun a2 w3 bm cm cn dn co=>?_
 have h8:=co.f1 hp0
 refine cl _ _ <| wk fun dp bx=>?_
 refine wA tr1 [] 54 [vF] bm ?_ ?_
 exact .c .nil
 refine aftI bm cm cn fun dq dr aE bz bA c2 aF=>?_
 have cp:=aF.f1 h8
 have cq:=aF.g 0 3
 refine bx _ _ <| wk fun ds bB=>?_
 refine wk fun dt bC=>?_
 refine wA tr3 [] 54 [ve (sv Au u cu),ve (iv (u.length:Int)),ve (iv 0)] aE ?_ ?_
 exact .M cp<| .T (fun k=>v_lenR rfl elU (k.eq1 0 6 rfl))<| .T (fun k=>v_move rfl rfl) .nil
 refine aftI aE bz bA fun du dv bD bE bF c3 an=>?_
 have cr:=an.f1 cq
 have cs:=an.g 0 6
 have ct:=an.g 1 7
 have cv:=an.g 2 8
 refine bC _ _<| wb<| wp_loopX (fun (mm:Nat) (aa:Act) (ww:World)=>∃ (i:Nat),mm=u.length - i∧aa.tmps.size=54∧aa.defers=[]∧New w ww∧aa.eval (.tmp 3)=.bool ((u.take i).any dgtN)∧aa.eval (.tmp 8)=iv (i:Int)∧aa.eval (.tmp 6)=sv Au u cu∧aa.eval (.tmp 7)=iv (u.length:Int)∧(i≤u.length)∧((u.take i).all (okS ⟨#[120,88,111,79]⟩)=true)) (fun mm=>mm) ⟨_,⟨0,rfl,bD,bE,bF,(cr.trans rfl),cv,cs,ct,(Nat.zero_le _),rfl⟩⟩ ?_
 rintro mm dw dx ⟨i,hmm,aG,bG,bH,cw,bn,cx,bo,hi,hall⟩
 refine wk fun dy bI=>?_
 refine wA tr1 [] 54 [ve (.bool (decide ((i:Int) < (u.length:Int))))] aG ?_ ?_
 exact .T (fun k=>v_bin rfl (k.fx 8 bn) (k.fx 7 bo) (fun _=>rfl) (r_lssK rfl)) .nil
 refine aftI aG bG bH fun dz dA ao aH aq c4 ah=>?_
 have⟨bp,bq,br,cy⟩:=ah.f4 cw bn cx bo
 have bs:=ah.g 0 9
 refine bI _ _ <| wk fun dB bJ=>?_
 rcases bc (decide ((i:Int) < (u.length:Int))) with ai|ai
 have aP:=oT ai
 have bK:=hB bs ai
 refine wt bK<| ws<| bJ _ _ ?_
 refine wp_seq_j (fun (aa:Act) (ww:World)=>aa.tmps.size=54∧aa.defers=[]∧New w ww∧aa.eval (.tmp 3)=.bool ((u.take (i + 1)).any dgtN)∧aa.eval (.tmp 6)=sv Au u cu∧aa.eval (.tmp 7)=iv (u.length:Int)∧aa.eval (.tmp 8)=iv (i:Int)∧(okS ⟨#[120,88,111,79]⟩ (u.getD i 0)=true)) ?_ ?_
 rintro dC dD ⟨aI,bL,bM,cz,cA,cB,bt,hok⟩
 refine wA [true,false] [(1,true)] 54 [ve (iv ((i + 1:Nat):Int)),vt] aI ?_ ?_
 exact .R (fun k=>v_bin rfl (k.fx 8 bt) rfl (fun _=>rfl) (n_add (by omega) (IntWalk.i64_in _ (by omega)))) (fun _=>rfl)<| .off .nil
 refine aftI aI bL bM fun bu dE aJ bN bO c5 ak=>?_
 have⟨cC,cD,cE,dF⟩:=ak.f4 cz cA cB bt
 have bv:=ak.g 0 52
 refine st_take rfl rfl (y_move (v:=iv ((i + 1:Nat):Int)) rfl bv) rfl ?_
 obtain⟨cF,ae⟩:∃ a',a'=bu.put (some 8) (iv ((i + 1:Nat):Int)):=⟨_,rfl⟩
 have⟨bP,bQ⟩:=pz2 ae aJ bN
 have⟨cG,cH,cI⟩:=pN3 ae cC cD cE
 have dG:=pN ae bv
 have cJ:=s7 ae aJ
 show stepsTo _ _ _ _ _ (bu.put (some 8) (iv ((i + 1:Nat):Int))) _
 rw [← ae]
 refine st_nil ?_
 refine then_n ?_
 exact⟨_,⟨i + 1,rfl,bP,bQ,bO,cG,(cJ.trans (congrArg (Value.int .i64) (by omega))),cH,cI,(by omega),(all_up (by omega) hall hok)⟩,(by omega)⟩
 intro dH bR
 refine wb<| wk fun dI bS=>?_
 have hb:=hu.at16 i
 refine wp_g0 [true,true,true] [] 54
  [(EP (.int .u16 ((u.getD i 0:Nat):Int))),ve (.int .u16 ((u.getD i 0:Nat):Int)),ve (.int .u16 ((u.getD i 0:Nat):Int))] ao (.cons (fun _ _ _ n ⟨_,_,e,h⟩=>⟨_,_,e,h.new_ n⟩) (.eq (.eq .nil))) ?_ ?_
 refine .o1 (tk rfl rfl fun _ w hn k=>(by
  exact x_eaddr (k:=.u16) rfl elU (k.fx 6 br) (k.fx 8 bq) (hru.new_ (aq.transNew hn)) (by omega) fun b1 o2 hme=>⟨b1,o2,rfl,hme⟩)) ?_
 refine .o1 (tk rfl rfl fun _ w hn k=>(by
  obtain⟨b5,o6,e7,cK⟩:=k.G 0 10
  exact⟨_,v_load rfl e7 (l_one isAgg79 cK.1),rfl⟩)) ?_
 exact .B 1 .nil
 refine aftI ao aH aq fun dJ dK aK bT aQ c6 am=>?_
 have⟨bw,cL,cM,cN⟩:=am.f4 bp bq br cy
 have aL:=am.g 2 5
 refine bS _ _ ?_
 refine wp_seq_j (fun (aa:Act) (ww:World)=>aa.tmps.size=54∧aa.defers=[]∧New w ww∧aa.eval (.tmp 3)=.bool ((u.take (i + 1)).any dgtN)∧aa.eval (.tmp 5)=.int .u16 ((u.getD i 0:Nat):Int)∧aa.eval (.tmp 6)=sv Au u cu∧aa.eval (.tmp 7)=iv (u.length:Int)∧aa.eval (.tmp 8)=iv (i:Int)) ?_ ?_
 rintro c8 c9 ⟨av,aR,aS,bU,ac,bV,bW,bX⟩
 refine wk fun da aT=>?_
 have hb:=hu.at16 i
 refine wA tr35 [] 54 [ve (.int .u16 ((u.getD i 0:Nat):Int)),ve (.bool (dgtN (u.getD i 0))),ve (.bool (!(dgtN (u.getD i 0)))),ve (.bool (!(dgtN (u.getD i 0)))),ve (gq (!(dgtN (u.getD i 0))) (.int .u16 ((u.getD i 0:Nat):Int))),ve (gq (!(dgtN (u.getD i 0))) (.bool (decide (((u.getD i 0:Nat):Int) < 97)))),ve (gq (!(dgtN (u.getD i 0))) (.bool (decide (((u.getD i 0:Nat):Int) < 97)))),ve (gq ((!(dgtN (u.getD i 0))) && (!(decide (((u.getD i 0:Nat):Int) < 97)))) (.int .u16 ((u.getD i 0:Nat):Int))),ve (gq ((!(dgtN (u.getD i 0))) && (!(decide (((u.getD i 0:Nat):Int) < 97)))) (.bool (!decide (((u.getD i 0:Nat):Int)≤102)))),ve (gq (!(dgtN (u.getD i 0))) (.bool ((decide (((u.getD i 0:Nat):Int) < 97)) || (!decide (((u.getD i 0:Nat):Int)≤102))))),ve (.bool ((!(dgtN (u.getD i 0))) && ((decide (((u.getD i 0:Nat):Int) < 97)) || (!decide (((u.getD i 0:Nat):Int)≤102))))),ve (.bool ((!(dgtN (u.getD i 0))) && ((decide (((u.getD i 0:Nat):Int) < 97)) || (!decide (((u.getD i 0:Nat):Int)≤102))))),ve (gq ((!(dgtN (u.getD i 0))) && ((decide (((u.getD i 0:Nat):Int) < 97)) || (!decide (((u.getD i 0:Nat):Int)≤102)))) (.int .u16 ((u.getD i 0:Nat):Int))),ve (gq ((!(dgtN (u.getD i 0))) && ((decide (((u.getD i 0:Nat):Int) < 97)) || (!decide (((u.getD i 0:Nat):Int)≤102)))) (.bool (decide (((u.getD i 0:Nat):Int) < 65)))),ve (gq ((!(dgtN (u.getD i 0))) && ((decide (((u.getD i 0:Nat):Int) < 97)) || (!decide (((u.getD i 0:Nat):Int)≤102)))) (.bool (decide (((u.getD i 0:Nat):Int) < 65)))),ve (gq (((!(dgtN (u.getD i 0))) && ((decide (((u.getD i 0:Nat):Int) < 97)) || (!decide (((u.getD i 0:Nat):Int)≤102)))) && (!(decide (((u.getD i 0:Nat):Int) < 65)))) (.int .u16 ((u.getD i 0:Nat):Int))),ve (gq (((!(dgtN (u.getD i 0))) && ((decide (((u.getD i 0:Nat):Int) < 97)) || (!decide (((u.getD i 0:Nat):Int)≤102)))) && (!(decide (((u.getD i 0:Nat):Int) < 65)))) (.bool (!decide (((u.getD i 0:Nat):Int)≤70)))),ve (gq ((!(dgtN (u.getD i 0))) && ((decide (((u.getD i 0:Nat):Int) < 97)) || (!decide (((u.getD i 0:Nat):Int)≤102)))) (.bool ((decide (((u.getD i 0:Nat):Int) < 65)) || (!decide (((u.getD i 0:Nat):Int)≤70))))),ve (.bool (((!(dgtN (u.getD i 0))) && ((decide (((u.getD i 0:Nat):Int) < 97)) || (!decide (((u.getD i 0:Nat):Int)≤102)))) && ((decide (((u.getD i 0:Nat):Int) < 65)) || (!decide (((u.getD i 0:Nat):Int)≤70))))),ve (.bool (((!(dgtN (u.getD i 0))) && ((decide (((u.getD i 0:Nat):Int) < 97)) || (!decide (((u.getD i 0:Nat):Int)≤102)))) && ((decide (((u.getD i 0:Nat):Int) < 65)) || (!decide (((u.getD i 0:Nat):Int)≤70))))),ve (gq (((!(dgtN (u.getD i 0))) && ((decide (((u.getD i 0:Nat):Int) < 97)) || (!decide (((u.getD i 0:Nat):Int)≤102)))) && ((decide (((u.getD i 0:Nat):Int) < 65)) || (!decide (((u.getD i 0:Nat):Int)≤70)))) (.int .u16 ((u.getD i 0:Nat):Int))),ve (gq (((!(dgtN (u.getD i 0))) && ((decide (((u.getD i 0:Nat):Int) < 97)) || (!decide (((u.getD i 0:Nat):Int)≤102)))) && ((decide (((u.getD i 0:Nat):Int) < 65)) || (!decide (((u.getD i 0:Nat):Int)≤70)))) (.bool (!decide (((u.getD i 0:Nat):Int)=120)))),ve (.bool ((((!(dgtN (u.getD i 0))) && ((decide (((u.getD i 0:Nat):Int) < 97)) || (!decide (((u.getD i 0:Nat):Int)≤102)))) && ((decide (((u.getD i 0:Nat):Int) < 65)) || (!decide (((u.getD i 0:Nat):Int)≤70)))) && (!decide (((u.getD i 0:Nat):Int)=120)))),ve (.bool ((((!(dgtN (u.getD i 0))) && ((decide (((u.getD i 0:Nat):Int) < 97)) || (!decide (((u.getD i 0:Nat):Int)≤102)))) && ((decide (((u.getD i 0:Nat):Int) < 65)) || (!decide (((u.getD i 0:Nat):Int)≤70)))) && (!decide (((u.getD i 0:Nat):Int)=120)))),ve (gq ((((!(dgtN (u.getD i 0))) && ((decide (((u.getD i 0:Nat):Int) < 97)) || (!decide (((u.getD i 0:Nat):Int)≤102)))) && ((decide (((u.getD i 0:Nat):Int) < 65)) || (!decide (((u.getD i 0:Nat):Int)≤70)))) && (!decide (((u.getD i 0:Nat):Int)=120))) (.int .u16 ((u.getD i 0:Nat):Int))),ve (gq ((((!(dgtN (u.getD i 0))) && ((decide (((u.getD i 0:Nat):Int) < 97)) || (!decide (((u.getD i 0:Nat):Int)≤102)))) && ((decide (((u.getD i 0:Nat):Int) < 65)) || (!decide (((u.getD i 0:Nat):Int)≤70)))) && (!decide (((u.getD i 0:Nat):Int)=120))) (.bool (!decide (((u.getD i 0:Nat):Int)=88)))),ve (.bool (((((!(dgtN (u.getD i 0))) && ((decide (((u.getD i 0:Nat):Int) < 97)) || (!decide (((u.getD i 0:Nat):Int)≤102)))) && ((decide (((u.getD i 0:Nat):Int) < 65)) || (!decide (((u.getD i 0:Nat):Int)≤70)))) && (!decide (((u.getD i 0:Nat):Int)=120))) && (!decide (((u.getD i 0:Nat):Int)=88)))),ve (.bool (((((!(dgtN (u.getD i 0))) && ((decide (((u.getD i 0:Nat):Int) < 97)) || (!decide (((u.getD i 0:Nat):Int)≤102)))) && ((decide (((u.getD i 0:Nat):Int) < 65)) || (!decide (((u.getD i 0:Nat):Int)≤70)))) && (!decide (((u.getD i 0:Nat):Int)=120))) && (!decide (((u.getD i 0:Nat):Int)=88)))),ve (gq (((((!(dgtN (u.getD i 0))) && ((decide (((u.getD i 0:Nat):Int) < 97)) || (!decide (((u.getD i 0:Nat):Int)≤102)))) && ((decide (((u.getD i 0:Nat):Int) < 65)) || (!decide (((u.getD i 0:Nat):Int)≤70)))) && (!decide (((u.getD i 0:Nat):Int)=120))) && (!decide (((u.getD i 0:Nat):Int)=88))) (.int .u16 ((u.getD i 0:Nat):Int))),ve (gq (((((!(dgtN (u.getD i 0))) && ((decide (((u.getD i 0:Nat):Int) < 97)) || (!decide (((u.getD i 0:Nat):Int)≤102)))) && ((decide (((u.getD i 0:Nat):Int) < 65)) || (!decide (((u.getD i 0:Nat):Int)≤70)))) && (!decide (((u.getD i 0:Nat):Int)=120))) && (!decide (((u.getD i 0:Nat):Int)=88))) (.bool (!decide (((u.getD i 0:Nat):Int)=111)))),ve (.bool ((((((!(dgtN (u.getD i 0))) && ((decide (((u.getD i 0:Nat):Int) < 97)) || (!decide (((u.getD i 0:Nat):Int)≤102)))) && ((decide (((u.getD i 0:Nat):Int) < 65)) || (!decide (((u.getD i 0:Nat):Int)≤70)))) && (!decide (((u.getD i 0:Nat):Int)=120))) && (!decide (((u.getD i 0:Nat):Int)=88))) && (!decide (((u.getD i 0:Nat):Int)=111)))),ve (.bool ((((((!(dgtN (u.getD i 0))) && ((decide (((u.getD i 0:Nat):Int) < 97)) || (!decide (((u.getD i 0:Nat):Int)≤102)))) && ((decide (((u.getD i 0:Nat):Int) < 65)) || (!decide (((u.getD i 0:Nat):Int)≤70)))) && (!decide (((u.getD i 0:Nat):Int)=120))) && (!decide (((u.getD i 0:Nat):Int)=88))) && (!decide (((u.getD i 0:Nat):Int)=111)))),ve (gq ((((((!(dgtN (u.getD i 0))) && ((decide (((u.getD i 0:Nat):Int) < 97)) || (!decide (((u.getD i 0:Nat):Int)≤102)))) && ((decide (((u.getD i 0:Nat):Int) < 65)) || (!decide (((u.getD i 0:Nat):Int)≤70)))) && (!decide (((u.getD i 0:Nat):Int)=120))) && (!decide (((u.getD i 0:Nat):Int)=88))) && (!decide (((u.getD i 0:Nat):Int)=111))) (.int .u16 ((u.getD i 0:Nat):Int))),ve (gq ((((((!(dgtN (u.getD i 0))) && ((decide (((u.getD i 0:Nat):Int) < 97)) || (!decide (((u.getD i 0:Nat):Int)≤102)))) && ((decide (((u.getD i 0:Nat):Int) < 65)) || (!decide (((u.getD i 0:Nat):Int)≤70)))) && (!decide (((u.getD i 0:Nat):Int)=120))) && (!decide (((u.getD i 0:Nat):Int)=88))) && (!decide (((u.getD i 0:Nat):Int)=111))) (.bool (!decide (((u.getD i 0:Nat):Int)=79)))),ve (.bool (((((((!(dgtN (u.getD i 0))) && ((decide (((u.getD i 0:Nat):Int) < 97)) || (!decide (((u.getD i 0:Nat):Int)≤102)))) && ((decide (((u.getD i 0:Nat):Int) < 65)) || (!decide (((u.getD i 0:Nat):Int)≤70)))) && (!decide (((u.getD i 0:Nat):Int)=120))) && (!decide (((u.getD i 0:Nat):Int)=88))) && (!decide (((u.getD i 0:Nat):Int)=111))) && (!decide (((u.getD i 0:Nat):Int)=79))))] av ?_ ?_
 exact .M ac<| .C 0 (fun p=>cdigit_c (u.getD i 0) _ (by omega))<| .T (fun k=>v_not rfl (k.eq1 1 18 rfl))<| .N 2<| .Q (fun k=>g0 (k.eq1 3 20 rfl)) (fun hG p k=>v_move rfl (k.fx 5 ac))<| .Q (fun k=>g0 (k.eq1 3 20 rfl)) (fun hG p k=>v_bin rfl (cT hG (k.eq1 4 21 rfl)) rfl (fun _=>rfl) (r_lssK rfl))<| .Q (fun k=>g0 (k.eq1 3 20 rfl)) (fun hG p k=>v_move rfl (cT hG (k.eq1 5 22 rfl)))<| .Q (fun k=>g1' (k.eq1 6 23 rfl)) (fun hG p k=>v_move rfl (k.fx 5 ac))<| .Q (fun k=>g1' (k.eq1 6 23 rfl)) (fun hG p k=>v_bin rfl (cT hG (k.eq1 7 24 rfl)) rfl (fun _=>rfl) (r_gtrK rfl))<| .Q (fun k=>g0 (k.eq1 3 20 rfl)) (fun hG p k=>v_or rfl (cT hG (k.eq1 6 23 rfl)) rfl (fun hg=>(cT (aj hG (nt hg)) (k.eq1 8 25 rfl))))<| .O 3 9<| .N 10<| .Q (fun k=>g0 (k.eq1 11 28 rfl)) (fun hG p k=>v_move rfl (k.fx 5 ac))<| .Q (fun k=>g0 (k.eq1 11 28 rfl)) (fun hG p k=>v_bin rfl (cT hG (k.eq1 12 29 rfl)) rfl (fun _=>rfl) (r_lssK rfl))<| .Q (fun k=>g0 (k.eq1 11 28 rfl)) (fun hG p k=>v_move rfl (cT hG (k.eq1 13 30 rfl)))<| .Q (fun k=>g1' (k.eq1 14 31 rfl)) (fun hG p k=>v_move rfl (k.fx 5 ac))<| .Q (fun k=>g1' (k.eq1 14 31 rfl)) (fun hG p k=>v_bin rfl (cT hG (k.eq1 15 32 rfl)) rfl (fun _=>rfl) (r_gtrK rfl))<| .Q (fun k=>g0 (k.eq1 11 28 rfl)) (fun hG p k=>v_or rfl (cT hG (k.eq1 14 31 rfl)) rfl (fun hg=>(cT (aj hG (nt hg)) (k.eq1 16 33 rfl))))<| .O 11 17<| .N 18<| .Q (fun k=>g0 (k.eq1 19 36 rfl)) (fun hG p k=>v_move rfl (k.fx 5 ac))<| .Q (fun k=>g0 (k.eq1 19 36 rfl)) (fun hG p k=>v_bin rfl (cT hG (k.eq1 20 37 rfl)) rfl (fun _=>rfl) (r_neq rfl))<| .O 19 21<| .N 22<| .Q (fun k=>g0 (k.eq1 23 40 rfl)) (fun hG p k=>v_move rfl (k.fx 5 ac))<| .Q (fun k=>g0 (k.eq1 23 40 rfl)) (fun hG p k=>v_bin rfl (cT hG (k.eq1 24 41 rfl)) rfl (fun _=>rfl) (r_neq rfl))<| .O 23 25<| .N 26<| .Q (fun k=>g0 (k.eq1 27 44 rfl)) (fun hG p k=>v_move rfl (k.fx 5 ac))<| .Q (fun k=>g0 (k.eq1 27 44 rfl)) (fun hG p k=>v_bin rfl (cT hG (k.eq1 28 45 rfl)) rfl (fun _=>rfl) (r_neq rfl))<| .O 27 29<| .N 30<| .Q (fun k=>g0 (k.eq1 31 48 rfl)) (fun hG p k=>v_move rfl (k.fx 5 ac))<| .Q (fun k=>g0 (k.eq1 31 48 rfl)) (fun hG p k=>v_bin rfl (cT hG (k.eq1 32 49 rfl)) rfl (fun _=>rfl) (r_neq rfl))<| .O 31 33 .nil
 refine aftI av aR aS fun db dc ap aw ax cS ag=>?_
 have⟨bY,bZ,b0,b2⟩:=ag.f4 bU bV bW bX
 have aM:=ag.g 34 51
 refine aT _ _ ?_
 rcases bc ((((((((!(dgtN (u.getD i 0))) && ((decide (((u.getD i 0:Nat):Int) < 97)) || (!decide (((u.getD i 0:Nat):Int)≤102)))) && ((decide (((u.getD i 0:Nat):Int) < 65)) || (!decide (((u.getD i 0:Nat):Int)≤70)))) && (!decide (((u.getD i 0:Nat):Int)=120))) && (!decide (((u.getD i 0:Nat):Int)=88))) && (!decide (((u.getD i 0:Nat):Int)=111))) && (!decide (((u.getD i 0:Nat):Int)=79)))) with ad|ad
 have aU:=hB aM ad
 have ay:((((((!(dgtN (u.getD i 0))) && ((decide (((u.getD i 0:Nat):Int) < 97)) || (!decide (((u.getD i 0:Nat):Int)≤102)))) && ((decide (((u.getD i 0:Nat):Int) < 65)) || (!decide (((u.getD i 0:Nat):Int)≤70)))) && (!decide (((u.getD i 0:Nat):Int)=120))) && (!decide (((u.getD i 0:Nat):Int)=88))) && (!decide (((u.getD i 0:Nat):Int)=111)))=true:=al ad
 have az:(((((!(dgtN (u.getD i 0))) && ((decide (((u.getD i 0:Nat):Int) < 97)) || (!decide (((u.getD i 0:Nat):Int)≤102)))) && ((decide (((u.getD i 0:Nat):Int) < 65)) || (!decide (((u.getD i 0:Nat):Int)≤70)))) && (!decide (((u.getD i 0:Nat):Int)=120))) && (!decide (((u.getD i 0:Nat):Int)=88)))=true:=al ay
 have aA:((((!(dgtN (u.getD i 0))) && ((decide (((u.getD i 0:Nat):Int) < 97)) || (!decide (((u.getD i 0:Nat):Int)≤102)))) && ((decide (((u.getD i 0:Nat):Int) < 65)) || (!decide (((u.getD i 0:Nat):Int)≤70)))) && (!decide (((u.getD i 0:Nat):Int)=120)))=true:=al az
 have aB:(((!(dgtN (u.getD i 0))) && ((decide (((u.getD i 0:Nat):Int) < 97)) || (!decide (((u.getD i 0:Nat):Int)≤102)))) && ((decide (((u.getD i 0:Nat):Int) < 65)) || (!decide (((u.getD i 0:Nat):Int)≤70))))=true:=al aA
 have aC:((!(dgtN (u.getD i 0))) && ((decide (((u.getD i 0:Nat):Int) < 97)) || (!decide (((u.getD i 0:Nat):Int)≤102))))=true:=al aB
 have aV:(!(dgtN (u.getD i 0)))=true:=al aC
 have cU:(dgtN (u.getD i 0))=false:=nF aV
 have cV:((decide (((u.getD i 0:Nat):Int) < 97)) || (!decide (((u.getD i 0:Nat):Int)≤102)))=true:=ar aC
 have cW:((decide (((u.getD i 0:Nat):Int) < 65)) || (!decide (((u.getD i 0:Nat):Int)≤70)))=true:=ar aB
 have aW:(!decide (((u.getD i 0:Nat):Int)=120))=true:=ar aA
 have aX:(decide (((u.getD i 0:Nat):Int)=120))=false:=nF aW
 have cO:=oF aX
 have aY:(!decide (((u.getD i 0:Nat):Int)=88))=true:=ar az
 have aZ:(decide (((u.getD i 0:Nat):Int)=88))=false:=nF aY
 have cP:=oF aZ
 have a1:(!decide (((u.getD i 0:Nat):Int)=111))=true:=ar ay
 have a3:(decide (((u.getD i 0:Nat):Int)=111))=false:=nF a1
 have cQ:=oF a3
 have a4:(!decide (((u.getD i 0:Nat):Int)=79))=true:=ar ad
 have a5:(decide (((u.getD i 0:Nat):Int)=79))=false:=nF a4
 have cR:=oF a5
 refine wt aU<| wk fun dd a6=>?_
 refine wA tr1 [] 54 [vF] ap ?_ ?_
 exact .c .nil
 refine aftI ap aw ax fun de df cX a7 a8 cY a9=>?_
 have b4:=a9.g 0 2
 refine a6 _ _<| wp_ret (ret_k a7 (v:=.bool false) (res_t rfl b4 _) ?_)
 exact⟨by rw [show numericN ⟨#[120,88,111,79]⟩ u=false from by unfold numericN; rw [all_bad (i:=i) (by omega) (by have q:=ad; rw [okS_xo]; simp only [okbN,dgtN,Bool.and_eq_false_iff,Bool.or_eq_true,Bool.and_eq_true,Bool.not_eq_true',Bool.not_eq_false',decide_eq_true_eq,decide_eq_false_iff_not,Bool.or_eq_false_iff,Bool.or_false,Bool.and_true] at q ⊢; omega),Bool.false_and]],a8⟩
 have ba:=hB aM ad
 refine wf ba<| ws<| bR _ _ ⟨ap,aw,ax,bY,bZ,b0,b2,(by have q:=ad; rw [okS_xo]; simp only [okbN,dgtN,Bool.and_eq_false_iff,Bool.or_eq_true,Bool.and_eq_true,Bool.not_eq_true',Bool.not_eq_false',decide_eq_true_eq,decide_eq_false_iff_not,Bool.or_eq_false_iff,Bool.or_false,Bool.and_true] at q ⊢; omega)⟩
 intro dg bb
 have hb:=hu.at16 i
 refine wA [true,true,true,true,true,false] [(5,true)] 54 [ve (.bool ((u.take i).any dgtN)),ve (.bool ((u.take i).any dgtN)),ve (gq (!((u.take i).any dgtN)) (.int .u16 ((u.getD i 0:Nat):Int))),ve (gq (!((u.take i).any dgtN)) (.bool (dgtN (u.getD i 0)))),ve (.bool (((u.take i).any dgtN) || (dgtN (u.getD i 0)))),vt] aK ?_ ?_
 exact .M bw<| .N 0<| .Q (fun k=>g0' (k.eq1 1 13 rfl)) (fun hG p k=>v_move rfl (k.fx 5 aL))<| .o1 (scC (G:=(!((u.take i).any dgtN))) rfl rfl rfl (fun _ _ k=>g0' (k.eq1 1 13 rfl)) rfl (fun hG _ w hn k=>⟨#[.int .u16 ((u.getD i 0:Nat):Int)],args1 (cT hG (k.eq1 2 14 rfl)),fun _=>by kernel_rfl,cdigit_c (u.getD i 0) _ (by omega)⟩))<| .W 1 3<| .off .nil
 refine aftI aK bT aQ fun aN dh aD bd be cZ af=>?_
 have⟨di,b6,b7,b8⟩:=af.f4 bw cL cM cN
 have b9:=af.f1 aL
 have aO:=af.g 4 16
 refine sP aO aD bd fun ca bf bg ab cf=>?_
 have⟨cb,cc,cd⟩:=ab.q3 b6 b7 b8
 have⟨ce,dj⟩:=ab.q2 b9 aO
 refine st_nil ?_
 exact bb _ _ ⟨bf,bg,be,(cf.trans (congrArg Value.bool (by rw [any_up (by omega)]))),ce,cc,cd,cb⟩
 have aP:=oF ai
 have bh:=hB bs ai
 refine wf bh<| wp_exit ?_
 refine bB _ _<| wk fun dk bi=>?_
 refine wA tr2 [] 54 [ve (.bool ((u.take i).any dgtN)),ve (.bool ((u.take i).any dgtN))] ao ?_ ?_
 exact .M bp<| .B 0 .nil
 refine aftI ao aH aq fun dl dm c0 bj bk c1 bl=>?_
 have ch:=bl.g 1 2
 refine bi _ _<| wp_ret (ret_k bj (v:=.bool ((u.take i).any dgtN)) (res_t rfl ch _) ?_)
 exact⟨by rw [show numericN ⟨#[120,88,111,79]⟩ u=((u.take i).any dgtN) from by unfold numericN; rw [List.take_of_length_le (by omega)] at hall; rw [hall,Bool.true_and,List.take_of_length_le (by omega)]],bk⟩
theorem plain_c (Au:Option Addr) (u:List Nat) (cu:Nat) (w:World) (hru:SRow w .u16 Au u cu) (hu:U16s u) (hs:u.length≤100000):Calls prog 81 #[sv Au u cu] w (IsRet (.tuple #[.string ((plainT u).1),.bool ((plainT u).2)]) w):=by
 refine enter_abs func81 rfl fun a0 aw cw hp=>?_
 have aw:a0.tmps.size=23:=aw
 have cx:New w w:=Upd.refl _ _
 have hp0:a0.eval (.tmp 0)=sv Au u cu:=hp 0 _ rfl
 have hmx:=hru.max
 refine wk fun K1 cy=>?_
 refine wA tr2 [] 23 [ve (.string ⟨#[]⟩),vF] aw ?_ ?_
 exact .c<| .c .nil
 refine aftI aw cw cx fun a2 w3 br cz cA dn cB=>?_
 have h8:=cB.f1 hp0
 refine cy _ _ <| wk fun dp bF=>?_
 refine wA tr1 [] 23 [ve (sv none ([]) 0)] br ?_ ?_
 exact .c .nil
 refine aftI br cz cA fun dq dr aH bG bH c0 aI=>?_
 have cC:=aI.f1 h8
 have cD:=aI.g 0 4
 refine bF _ _ <| wk fun ds bI=>?_
 refine wk fun dt bJ=>?_
 refine wA tr3 [] 23 [ve (sv Au u cu),ve (iv (u.length:Int)),ve (iv 0)] aH ?_ ?_
 exact .M cC<| .T (fun k=>v_lenR rfl elU (k.eq1 0 7 rfl))<| .T (fun k=>v_move rfl rfl) .nil
 refine aftI aH bG bH fun du dv bK bL bM c2 ao=>?_
 have cE:=ao.f1 cD
 have cF:=ao.g 0 7
 have cG:=ao.g 1 8
 have cH:=ao.g 2 9
 refine bJ _ _<| wb<| wp_loopX (fun (mm:Nat) (aa:Act) (ww:World)=>∃ (i:Nat) (A1:Option Addr) (c1:Nat),mm=u.length - i∧aa.tmps.size=23∧aa.defers=[]∧New w ww∧aa.eval (.tmp 4)=sv A1 (u.take i) c1∧aa.eval (.tmp 9)=iv (i:Int)∧aa.eval (.tmp 7)=sv Au u cu∧aa.eval (.tmp 8)=iv (u.length:Int)∧SOwn ww w.heap.size 5 .u8 A1 (u.take i) c1∧(i≤u.length)∧((u.take i).all (fun y:Nat=>decide ((y:Int)≤127))=true)) (fun mm=>mm) ⟨_,⟨0,none,0,rfl,bK,bL,bM,(cE.trans rfl),cH,cF,cG,(SOwn.nil _ _ _ _),(Nat.zero_le _),rfl⟩⟩ ?_
 rintro mm dw dx ⟨i,A1,c1,hmm,aJ,bN,bO,cI,bs,cJ,bt,bP,hi,hall⟩
 refine wk fun dy bQ=>?_
 refine wA tr1 [] 23 [ve (.bool (decide ((i:Int) < (u.length:Int))))] aJ ?_ ?_
 exact .T (fun k=>v_bin rfl (k.fx 9 bs) (k.fx 8 bt) (fun _=>rfl) (r_lssK rfl)) .nil
 refine aftI aJ bN bO fun dz dA ap aK ar bR al=>?_
 have⟨bu,bv,bw,cK⟩:=al.f4 cI bs cJ bt
 have bx:=al.g 0 10
 have aL:=bP.new_ bR
 refine bQ _ _ <| wk fun dB bS=>?_
 rcases bc (decide ((i:Int) < (u.length:Int))) with am|am
 have aZ:=oT am
 have bT:=hB bx am
 refine wt bT<| ws<| bS _ _<| wk fun dC bU=>wb ?_
 refine wk fun dD bV=>?_
 have hb:=hu.at16 i
 refine wp_g0 [true,true,true] [] 23
  [(EP (.int .u16 ((u.getD i 0:Nat):Int))),ve (.int .u16 ((u.getD i 0:Nat):Int)),ve (.int .u16 ((u.getD i 0:Nat):Int))] ap (.cons (fun _ _ _ n ⟨_,_,e,h⟩=>⟨_,_,e,h.new_ n⟩) (.eq (.eq .nil))) ?_ ?_
 refine .o1 (tk rfl rfl fun _ w hn k=>(by
  exact x_eaddr (k:=.u16) rfl elU (k.fx 7 bw) (k.fx 9 bv) (hru.new_ (ar.transNew hn)) (by omega) fun b1 o2 hme=>⟨b1,o2,rfl,hme⟩)) ?_
 refine .o1 (tk rfl rfl fun _ w hn k=>(by
  obtain⟨b5,o6,e7,cL⟩:=k.G 0 11
  exact⟨_,v_load rfl e7 (l_one isAgg79 cL.1),rfl⟩)) ?_
 exact .B 1 .nil
 refine aftI ap aK ar fun dE dF aq aM aN bW an=>?_
 have⟨bz,bA,bB,bC⟩:=an.f4 bu bv bw cK
 have ax:=an.g 2 6
 have aO:=aL.new_ bW
 refine bV _ _ <| wk fun dG bX=>?_
 refine wk fun dH aP=>?_
 rcases bc (decide (((u.getD i 0:Nat):Int)≤127)) with ah|ah
 have a1:=oT ah
 have hb:=hu.at16 i
 refine wA tr2 [] 23 [ve (.int .u16 ((u.getD i 0:Nat):Int)),vF] aq ?_ ?_
 exact .M ax<| .b 0 (r_gtrK ah) .nil
 refine aftI aq aM aN fun dI bD aQ bY aR bZ aj=>?_
 have⟨bE,cM,cN,cO⟩:=aj.f4 bz bA bB bC
 have cP:=aj.f1 ax
 have cQ:=aj.g 1 14
 have b0:=aO.new_ bZ
 refine aP _ _<| wf cQ<| ws ?_
 refine bX _ _ ?_
 have hb:=hu.at16 i
 have htl:(u.take i).length=i:=by rw [List.length_take]; omega
 refine wp_g0 [true,true,true,true,false,false] [(4,false),(5,true)] 23
  [ve (sv A1 (u.take i) c1),ve (.int .u16 ((u.getD i 0:Nat):Int)),ve (.int .u8 (((u.getD i 0) % 256:Nat):Int)),
  (OP bD.heap.size 5 .u8 ([((u.getD i 0) % 256)])),vt,vt] aQ (.eq (.eq (.eq (.cons (fun _ _ _ n ⟨_,_,e,h⟩=>⟨_,_,e,h.new_ n⟩) (.tt (.tt .nil)))))) ?_ ?_
 refine .M bE<| .M cP<| .T (fun k=>v_conv rfl (k.eq1 1 16 rfl) (n_conv (by kernel_rfl) (by kernel_rfl) (by kernel_rfl) (n_wrap8 _))) ?_
 refine .o1 (tkA rfl (noG rfl) fun _ w hn k=>(by
  exact x_bslice (k:=.u8) (ps:=[(0,.int .u8 (((u.getD i 0) % 256:Nat):Int))]) [((u.getD i 0) % 256)] rfl (parts1 (k.eq1 2 17 rfl)) elB rfl (by omega) (by omega) (by first|kernel_rfl|(simp only [enc,List.map_cons,List.map_nil,Int.toNat_natCast,Int.toNat_of_nonneg (by omega:(0:Int)≤_)]; kernel_rfl)) fun A9 cT W' hmo=>⟨A9,cT,rfl,(hmo.more hn.size)⟩)) ?_
 exact .off<| .off .nil
 refine aftI aQ bY aR fun aS dJ aT b2 ay b4 ak=>?_
 have⟨dK,cU,b6,b7⟩:=ak.f4 bE cM cN cO
 have b8:=ak.g 0 15
 obtain⟨b9,a3,au,a4⟩:=ak.G 3 18
 have au:aS.eval (.tmp 18)=sv b9 ([((u.getD i 0) % 256)]) a3:=au
 have az:=b0.new_ b4
 have a5:=a4.more aR.size
 have hw118:=ay.size
 refine st_act rfl rfl fun c3 a6=>a_append (k:=.u8) (b:=w.heap.size) rfl elB b8 az au a5.row (by first|omega|(simp only [List.length_nil,List.length_cons,List.length_append,List.length_take,List.length_drop,List.length_replicate,List.length_set]; omega)) (by first|omega|(simp only [List.length_nil,List.length_cons,List.length_append,List.length_take,List.length_drop,List.length_replicate,List.length_set]; omega)) hw118 fun af ab c4 aA hg114=>a6 _ _ trivial ?_
 have a7:=ay.ownGrown az hg114
 obtain⟨av,ae⟩:∃ a',a'=aS.put (some 19) (sv af ((u.take i) ++ [((u.getD i 0) % 256)]) ab):=⟨_,rfl⟩
 have⟨aB,a8⟩:=pz2 ae aT b2
 have⟨ca,cb,cc⟩:=pN3 ae cU b6 b7
 have aU:=s7 ae aT
 show stepsTo _ _ _ _ _ (aS.put (some 19) (sv af ((u.take i) ++ [((u.getD i 0) % 256)]) ab)) _
 rw [← ae]
 refine sP aU aB a8 fun cd aC a9 ac aW=>?_
 have⟨aV,ce,cf⟩:=ac.q3 ca cb cc
 have c5:=ac.q aU
 refine st_nil ?_
 have he136:((u.take i) ++ [((u.getD i 0) % 256)])=(u.take (i + 1)):=by rw [take_up (by omega),show u.getD i 0 % 256=u.getD i 0 by omega]
 rw [he136] at aW
 rw [he136] at aA
 refine bU _ _<| wA [true,false] [(1,true)] 23 [ve (iv ((i + 1:Nat):Int)),vt] aC ?_ ?_
 exact .R (fun k=>v_bin rfl (k.fx 9 aV) rfl (fun _=>rfl) (n_add (by omega) (IntWalk.i64_in _ (by omega)))) (fun _=>rfl)<| .off .nil
 refine aftI aC a9 a7 fun aX c6 aD ba bb bd ai=>?_
 have⟨c8,ch,ci,cj⟩:=ai.f4 aV ce cf aW
 have aY:=ai.g 0 20
 have be:=aA.new_ bd
 refine st_take rfl rfl (y_move (v:=iv ((i + 1:Nat):Int)) rfl aY) rfl ?_
 obtain⟨cl,ad⟩:∃ a',a'=aX.put (some 9) (iv ((i + 1:Nat):Int)):=⟨_,rfl⟩
 have⟨bf,bg⟩:=pz2 ad aD ba
 have⟨cm,cn,co⟩:=pN3 ad ch ci cj
 have c9:=pN ad aY
 have cp:=s7 ad aD
 show stepsTo _ _ _ _ _ (aX.put (some 9) (iv ((i + 1:Nat):Int))) _
 rw [← ad]
 refine st_nil ?_
 refine then_n ?_
 exact⟨_,⟨i + 1,af,ab,rfl,bf,bg,bb,co,(cp.trans (congrArg (Value.int .i64) (by omega))),cm,cn,be,(by omega),(all_up (p:=(fun y:Nat=>decide ((y:Int)≤127))) (by omega) hall ah)⟩,(by omega)⟩
 have a1:=oF ah
 have hb:=hu.at16 i
 refine wA tr2 [] 23 [ve (.int .u16 ((u.getD i 0:Nat):Int)),vT] aq ?_ ?_
 exact .M ax<| .b 0 (r_gtrK ah) .nil
 refine aftI aq aM aN fun da db aE bh bi bj ag=>?_
 have⟨dc,dd,de,df⟩:=ag.f4 bz bA bB bC
 have dg:=ag.f1 ax
 have cq:=ag.g 1 14
 have cV:=aO.new_ bj
 refine aP _ _<| wt cq<| wk fun dh bk=>?_
 refine wA tr2 [] 23 [ve (.string ⟨#[]⟩),vF] aE ?_ ?_
 exact .c<| .c .nil
 refine aftI aE bh bi fun di dj cW bl bm cX aF=>?_
 have cr:=aF.g 0 2
 have cs:=aF.g 1 3
 refine bk _ _<| wp_ret (ret_k bl (v:=.tuple #[.string ⟨#[]⟩,.bool false]) (res_tt rfl cr cs _) ?_)
 have hp:plainT u=(⟨#[]⟩,false):=by unfold plainT; rw [all_bad (p:=(fun y:Nat=>decide ((y:Int)≤127))) (i:=i) (by omega) ah]; rfl
 exact⟨by rw [hp],bm⟩
 have aZ:=oF am
 have bn:=hB bx am
 refine wf bn<| wp_exit ?_
 refine bI _ _<| wk fun dk bo=>?_
 refine wA tr4 [] 23 [ve (sv A1 (u.take i) c1),ve (.string (strN (u.take i))),ve (.string (strN (u.take i))),vT] ap ?_ ?_
 exact .M bu<| .U (fun q k=>v_strB (e:=5) rfl (k.eq1 0 21 rfl) (aL.new_ q).row (by kernel_rfl) (by kernel_rfl) (by kernel_rfl))<| .B 1<| .c .nil
 refine aftI ap aK ar fun dl dm cY bp bq cZ aG=>?_
 have ct:=aG.g 2 2
 have cv:=aG.g 3 3
 refine bo _ _<| wp_ret (ret_k bp (v:=.tuple #[.string (strN (u.take i)),.bool true]) (res_tt rfl ct cv _) ?_)
 have hp:plainT u=(strN (u.take i),true):=by unfold plainT; rw [List.take_of_length_le (by omega)] at hall; rw [hall,List.take_of_length_le (by omega)]; rfl
 exact⟨by rw [hp],bq⟩
theorem neg_made {a:Bool} {m:List Nat} (hl:Limbs m):sgn (!(mayB a m && a)) (val (canon (goodI a m).natAbs)) = -(goodI a m):=by
  rw [← neg_good hl,val_canon]
  generalize goodI a m=z
  by_cases h:z < 0
  · rw [decide_eq_true h]; simp [sgn]; omega
  · rw [decide_eq_false h]; simp [sgn]; omega
def bNeg_c_P (a:Bool) (Aa:Option Addr) (ma:List Nat) (ca:Nat) (w:World) (en:Ending) (w':World):Prop:=∃ (Ar0:Option Addr) (cr0:Nat),en=.returned (.agg #[.bool (decide (-(goodI a ma) < 0)),sv Ar0 (canon (-(goodI a ma)).natAbs) cr0])∧SRow w' .u32 Ar0 (canon (-(goodI a ma)).natAbs) cr0∧New w w'
theorem bNeg_c (a:Bool) (Aa:Option Addr) (ma:List Nat) (ca:Nat) (w:World) (hra:SRow w .u32 Aa ma ca) (ha:Limbs ma) (hs:ma.length≤1000000):Calls prog 83 #[.agg #[.bool a,sv Aa ma ca]] w (bNeg_c_P a Aa ma ca w):=by
 refine enter_abs func83 rfl fun a0 af aF hp=>?_
 have af:a0.tmps.size=9:=af
 have ag:New w w:=Upd.refl _ _
 have hp0:a0.eval (.tmp 0)=.agg #[.bool a,sv Aa ma ca]:=hp 0 _ rfl
 refine wk fun K1 aG=>?_
 refine wB tr2 [] [] 9 [IsNew w 26 [.bool a,sv Aa ma ca],IsNew w 26 [.bool false,sv none ([]) 0]] [0,1] af ?_ heN ?_
 exact .X hp0<| .Y .nil
 refine aftI af aF ag fun a2 w3 ao aH ae aQ ah=>?_
 obtain⟨q9,h8,ar,ai⟩:=ah.G 0 1
 obtain⟨aI,ap,au,av⟩:=ah.G 1 2
 have hne16:=ah.ne 0 1 1 2 h8 ap
 have aM:=Nat.le_trans ag.size ar
 have aN:=Nat.le_trans ag.size au
 refine aG _ _ <| wk fun aR aw=>?_
 refine wp_g0 [true,true,true,true,true,true,false] [(6,false)] 9
  [ve (.agg #[.bool a,sv Aa ma ca]),
  (OP w3.heap.size 59 .u32 (canon (goodI a ma).natAbs)),ve (.agg #[.bool a,sv Aa ma ca]),ve (.bool (mayB a ma && a)),ve (.bool (!(mayB a ma && a))),(fun (v_:Value) (W:World)=>∃ (ab:Option Addr) (ac:Nat),v_=.agg #[.bool (decide (sgn (!(mayB a ma && a)) (val (canon (goodI a ma).natAbs)) < 0)),sv ab (canon (sgn (!(mayB a ma && a)) (val (canon (goodI a ma).natAbs))).natAbs) ac]∧SRow W .u32 ab (canon (sgn (!(mayB a ma && a)) (val (canon (goodI a ma).natAbs))).natAbs) ac),vt] ao (.eq (.cons (fun _ _ _ n ⟨_,_,e,h⟩=>⟨_,_,e,h.new_ n⟩) (.eq (.eq (.eq (.cons (fun _ _ _ n ⟨_,_,e,h⟩=>⟨_,_,e,h.new_ n⟩) (.tt .nil))))))) ?_ ?_
 refine .L6 h8 ai ?_
 refine .o1 (tkC rfl (noG rfl) rfl fun _ w hn k=>(by
  refine ⟨#[.agg #[.bool a,sv Aa ma ca]],_,args1 (k.eq1 0 3 rfl),fun w=>by kernel_rfl,bmag_c a _ ma _ _ (hra.new_ (ae.transNew hn)) ha (by first|omega|(simp only [List.length_nil,List.length_take,List.length_drop]; omega)|(simp only [List.length_cons,List.length_nil]; omega)),?_⟩
  rintro e w' ⟨A1,c2,rfl,hmo0,hm⟩
  exact⟨_,rfl,hm,⟨A1,c2,rfl,(hmo0.more hn.size)⟩⟩)) ?_
 refine .L6 h8 ai<| .C 2 (fun m=>bneg_c a _ ma _ _ (hra.new_ (ae.transNew m)))<| .T (fun k=>v_not rfl (k.eq1 3 6 rfl)) ?_
 refine .o1 (tkC rfl (noG rfl) rfl fun _ w hn k=>(by
  obtain⟨A5,c6,e7,aJ⟩:=k.G 1 4
  refine ⟨#[sv A5 (canon (goodI a ma).natAbs) c6,.bool (!(mayB a ma && a))],_,args2 e7 (k.eq1 4 7 rfl),fun w=>by kernel_rfl,bmade_c _ (canon (goodI a ma).natAbs) _ (!(mayB a ma && a)) _ aJ.row (limbs_canon _),?_⟩
  rintro e w' ⟨A9,aK,rfl,hmo0,hm⟩
  exact⟨_,rfl,hm,⟨A9,aK,rfl,hmo0⟩⟩)) ?_
 exact .off .nil
 refine aftI ao aH ae fun aL aS aO ax ay az aj=>?_
 have aq:=aj.f1 ap
 obtain⟨ad,aa,ak,aA⟩:=aj.G 5 8
 have ak:aL.eval (.tmp 8)=.agg #[.bool (decide (sgn (!(mayB a ma && a)) (val (canon (goodI a ma).natAbs)) < 0)),sv ad (canon (sgn (!(mayB a ma && a)) (val (canon (goodI a ma).natAbs))).natAbs) aa]:=ak
 have al:=av.new_ az
 refine sS6 aq ak al fun aT aB am aP=>?_
 have aD:=aA.fr al am
 have aE:=ay.tR am
 refine aw _ _<| wp_ret (ret_k ax (v:=.agg #[.bool (decide (sgn (!(mayB a ma && a)) (val (canon (goodI a ma).natAbs)) < 0)),sv ad (canon (sgn (!(mayB a ma && a)) (val (canon (goodI a ma).natAbs))).natAbs) aa]) (res_c rfl aq (l_two isAgg26 sizeOf26 aB)) ?_)
 have hz1:sgn (!(mayB a ma && a)) (val (canon (goodI a ma).natAbs)) = -(goodI a ma):=neg_made ha
 exact⟨ad,aa,congrArg (fun z:Int=>Ending.returned (Value.agg #[.bool (decide (z < 0)),sv ad (canon z.natAbs) aa])) hz1,Eq.mp (congrArg (fun z:Int=>SRow _ .u32 ad (canon z.natAbs) aa) hz1) aD,aE⟩
def ItoaOk (w0:World):Prop:=∀ n:Int,-9223372036854775808≤n→n≤9223372036854775807→∀ w',New w0 w'→Calls Tryz.prog 91 #[.int .i64 n] w' (IsRet (.string (itoaS n)) w')
theorem ItoaOk.up {w0 w:World} (h:ItoaOk w0) (hn:New w0 w):ItoaOk w:=fun n h1 h2 w' h3=>h n h1 h2 w' (hn.transNew h3)
theorem ntext_c (a:Nm) (w:World) (HT:ItoaOk w):Calls prog 48 #[nv a] w (IsRet (.string (textM a)) w):=by
 refine enter_abs func48 rfl fun a0 aj bC hp=>?_
 have aj:a0.tmps.size=16:=aj
 have aP:New w w:=Upd.refl _ _
 have hp0:a0.eval (.tmp 0)=nv a:=hp 0 _ rfl
 refine wk fun K1 bD=>?_
 refine wB tr2 [] [] 16 [IsNew w 23 [iv a.k,iv a.n],ve (.string ⟨#[]⟩)] [0] aj ?_ heN ?_
 exact .X hp0<| .c .nil
 refine aftI aj bC aP fun a2 w3 aQ bE aV b3 bF=>?_
 obtain⟨q9,h8,aW,ak⟩:=bF.G 0 1
 have bR:=Nat.le_trans aP.size aW
 refine bD _ _ <| wk fun b4 aX=>?_
 refine wk fun b5 aY=>?_
 refine wA [true,true,false] [(2,false)] 16 [ve (nv a),ve (nv (asM a)),vt] aQ ?_ ?_
 exact .L2 h8 ak<| .C 0 (fun m=>as_c a _)<| .off .nil
 refine aftI aQ bE aV fun b6 b7 al aZ a1 a3 am=>?_
 have an:=am.f1 h8
 have bG:=am.g 1 4
 have a4:=ak.new_ a3
 have hbd_a:=as_bd a
 refine sS2 an bG a4 fun b8 ao a5 bS=>?_
 have a7:=a1.tR a5
 refine aY _ _ <| wk fun ca a8=>?_
 refine wA tr2 [] 16 [ve (pv q9),ve (iv ((asM a).k))] al ?_ ?_
 exact .F an<| .J 0 isAgg3 ao .nil
 refine aftI al aZ a7 fun cb cc ap a9 ba bb aq=>?_
 have bH:=aq.f1 an
 have aR:=aq.g 1 6
 have bd:=ao.new_ bb
 refine a8 _ _<| wb<| wk fun cd be=>?_
 refine wA tr2 [] 16 [ve (.bool (decide (((asM a).k)=2))),ve (.bool (decide (((asM a).k)=2)))] ap ?_ ?_
 exact .H aR (r_eql rfl)<| .B 0 .nil
 refine aftI ap a9 ba fun ce cf ad ar au bf ah=>?_
 have⟨bI,aS⟩:=ah.f2 bH aR
 have aT:=ah.g 1 7
 have bg:=bd.new_ bf
 refine be _ _ ?_
 rcases bc (decide (((asM a).k)=2)) with aa|aa
 have aC:=oT aa
 have bh:=hB aT aa
 refine wt bh<| wk fun ch bi=>?_
 refine wA tr1 [] 16 [ve (.string ⟨#[78,97,78]⟩)] ad ?_ ?_
 exact .c .nil
 refine aftI ad ar au fun ci cj bT bj bk bU bl=>?_
 have bJ:=bl.g 0 2
 refine bi _ _<| wp_ret (ret_k bj (v:=.string ⟨#[78,97,78]⟩) (res_t rfl bJ _) ?_)
 refine ⟨?_,bk⟩
 show Ending.returned (.string ⟨#[78,97,78]⟩)=Ending.returned (.string (textM a))
 first|rfl|(simp only [textM,aa,bsm] <;> rfl)|(exfalso; omega)
 have aC:=oF aa
 have bm:=hB aT aa
 refine wf bm<| wk fun cl bn=>?_
 refine wA tr2 [] 16 [ve (.bool (decide (((asM a).k)=3))),ve (.bool (decide (((asM a).k)=3)))] ad ?_ ?_
 exact .H aS (r_eql rfl)<| .B 0 .nil
 refine aftI ad ar au fun cm cn ae av aw bo ai=>?_
 have⟨bK,bL⟩:=ai.f2 bI aS
 have aU:=ai.g 1 9
 have bp:=bg.new_ bo
 refine bn _ _ ?_
 rcases bc (decide (((asM a).k)=3)) with ac|ac
 have aD:=oT ac
 have bq:=hB aU ac
 refine wt bq<| wk fun co br=>?_
 refine wA tr1 [] 16 [ve (.string ⟨#[73,110,102,105,110,105,116,121]⟩)] ae ?_ ?_
 exact .c .nil
 refine aftI ae av aw fun cp cq bV bs bt bW bu=>?_
 have bM:=bu.g 0 2
 refine br _ _<| wp_ret (ret_k bs (v:=.string ⟨#[73,110,102,105,110,105,116,121]⟩) (res_t rfl bM _) ?_)
 refine ⟨?_,bt⟩
 show Ending.returned (.string ⟨#[73,110,102,105,110,105,116,121]⟩)=Ending.returned (.string (textM a))
 first|rfl|(simp only [textM,aa,ac,bsm] <;> rfl)|(exfalso; omega)
 have aD:=oF ac
 have bv:=hB aU ac
 refine wf bv<| wk fun cr bw=>?_
 refine wA tr2 [] 16 [ve (.bool (decide (((asM a).k)=4))),ve (.bool (decide (((asM a).k)=4)))] ae ?_ ?_
 exact .H bL (r_eql rfl)<| .B 0 .nil
 refine aftI ae av aw fun ct cu af ax ag bx ay=>?_
 have bz:=ay.f1 bK
 have az:=ay.g 1 11
 have aE:=bp.new_ bx
 refine bw _ _ ?_
 rcases bc (decide (((asM a).k)=4)) with ab|ab
 have aA:=oT ab
 have aF:=hB az ab
 refine wt aF<| wk fun bX aG=>?_
 refine wA tr1 [] 16 [ve (.string ⟨#[45,73,110,102,105,110,105,116,121]⟩)] af ?_ ?_
 exact .c .nil
 refine aftI af ax ag fun bY bZ bN aH aI bO aJ=>?_
 have bA:=aJ.g 0 2
 refine aG _ _<| wp_ret (ret_k aH (v:=.string ⟨#[45,73,110,102,105,110,105,116,121]⟩) (res_t rfl bA _) ?_)
 refine ⟨?_,aI⟩
 show Ending.returned (.string ⟨#[45,73,110,102,105,110,105,116,121]⟩)=Ending.returned (.string (textM a))
 first|rfl|(simp only [textM,aa,ac,ab,bsm] <;> rfl)|(exfalso; omega)
 have aA:=oF ab
 have aK:=hB az ab
 refine wf aK<| ws<| aX _ _<| wk fun b0 aL=>?_
 refine wA tr4 [] 16 [ve (.pointer (some ⟨q9,1,none⟩)),ve (iv ((asM a).n)),ve (.string (itoaS ((asM a).n))),ve (.string (itoaS ((asM a).n)))] af ?_ ?_
 exact .F bz<| .J 0 isAgg3 aE<| .C 1 (fun m=>HT ((asM a).n) (by omega) (by omega) _ (ag.transNew m))<| .B 2 .nil
 refine aftI af ax ag fun b1 b2 bP aM aN bQ aO=>?_
 have bB:=aO.g 3 2
 refine aL _ _<| wp_ret (ret_k aM (v:=.string (itoaS ((asM a).n))) (res_t rfl bB _) ?_)
 refine ⟨?_,aN⟩
 show Ending.returned (.string (itoaS ((asM a).n)))=Ending.returned (.string (textM a))
 first|rfl|(simp only [textM,aa,ac,ab,bsm] <;> rfl)|(exfalso; omega)
theorem big_in {w:World} {b:Bool} {A:Option Addr} {m:List Nat} {c:Nat} (hr:SRow w .u32 A m c) (hl:Limbs m):BigAt w (.agg #[.bool b,sv A m c]) (goodI b m):=⟨b,_,m,rfl,hr,hl,rfl⟩
theorem trim_len (u:List Nat):(trimN u).length≤u.length:=by
  unfold trimN rtrimN
  rw [List.length_reverse]
  have h1:=(List.dropWhile_sublist blankN (l:=(u.dropWhile blankN).reverse)).length_le
  have h2:=(List.dropWhile_sublist blankN (l:=u)).length_le
  rw [List.length_reverse] at h1
  omega
theorem bText_c (a:Bool) (Aa:Option Addr) (ma:List Nat) (ca:Nat) (w:World) (hra:SRow w .u32 Aa ma ca) (ha:Limbs ma):Calls Tryz.prog 49 #[.agg #[.bool a,sv Aa ma ca]] w (IsRet (.string (strOfNums (textI (goodI a ma)))) w):=text_any _ _ w (big_in hra ha)
def bParse_c_P (s:ByteArray) (w:World) (en:Ending) (w':World):Prop:=∃ (Ar0:Option Addr) (cr0:Nat),en=.returned (.tuple #[.agg #[.bool (decide ((parseZ s.data.toList).1 < 0)),sv Ar0 (canon ((parseZ s.data.toList).1).natAbs) cr0],iv ((parseZ s.data.toList).2)])∧SRow w' .u32 Ar0 (canon ((parseZ s.data.toList).1).natAbs) cr0∧New w w'
theorem bParse_c (s:ByteArray) (w:World) (hs:s.size≤100000):Calls Tryz.prog 82 #[.string s] w (bParse_c_P s w):=by
  refine (parse_any s w hs).mono fun e w' h=>?_
  obtain⟨f,A',n',c',rfl,hc,hn⟩:=h
  obtain⟨rfl,rfl,hr'⟩:=hc.parts
  exact⟨A',c',rfl,hr',hn⟩
def cparsed_c_P (Au:Option Addr) (u:List Nat) (cu:Nat) (w:World) (en:Ending) (w':World):Prop:=∃ (Ar0:Option Addr) (cr0:Nat),en=.returned (.tuple #[.agg #[.bool (decide ((parsedZ u).1 < 0)),sv Ar0 (canon ((parsedZ u).1).natAbs) cr0],iv ((parsedZ u).2)])∧SRow w' .u32 Ar0 (canon ((parsedZ u).1).natAbs) cr0∧New w w'
theorem cparsed_c (Au:Option Addr) (u:List Nat) (cu:Nat) (w:World) (hru:SRow w .u16 Au u cu) (hu:U16s u) (hs:u.length≤20000):Calls prog 42 #[sv Au u cu] w (cparsed_c_P Au u cu w):=by
 refine enter_abs func42 rfl fun a0 bG io hp=>?_
 have bG:a0.tmps.size=66:=bG
 have gj:New w w:=Upd.refl _ _
 have hp0:a0.eval (.tmp 0)=sv Au u cu:=hp 0 _ rfl
 have hut:=hu.trim
 have htl:=trim_len u
 have hb:=hut.at16 0
 refine wk fun K1 ip=>?_
 refine wB tr2 [] [] 66 [IsNew w 26 [.bool false,sv none ([]) 0],ve (iv 0)] [0] bG ?_ heN ?_
 exact .Y<| .c .nil
 refine aftI bG io gj fun a2 w3 gk iq cV kP gl=>?_
 have h8:=gl.f1 hp0
 obtain⟨aX,h9,gx,gy⟩:=gl.G 0 2
 have jz:=Nat.le_trans gj.size gx
 refine ip _ _ <| wk fun kQ gz=>?_
 refine wp_g0 [true,true,false] [(2,true)] 66
  [ve (sv Au u cu),
  (RP .u16 (trimN u)),vt] gk (.eq (.cons (fun _ _ _ n ⟨_,_,e,h⟩=>⟨_,_,e,h.new_ n⟩) (.tt .nil))) ?_ ?_
 refine .M h8 ?_
 refine .o1 (tkC rfl (noG rfl) rfl fun _ w hn k=>(by
  refine ⟨#[sv Au u cu],_,args1 (k.eq1 0 10 rfl),fun w=>by kernel_rfl,ctrim_c _ u _ _ (hru.new_ (cV.transNew hn)) hu,?_⟩
  rintro e w' ⟨A1,c2,rfl,hmo0,hm⟩
  exact⟨_,rfl,hm,⟨A1,c2,rfl,hmo0⟩⟩)) ?_
 exact .off .nil
 refine aftI gk iq cV fun cW kR cX gA gB gC bv=>?_
 have⟨kS,ir⟩:=bv.f2 h8 h9
 obtain⟨ag,ac,bH,gD⟩:=bv.G 1 11
 have bH:cW.eval (.tmp 11)=sv ag (trimN u) ac:=bH
 have gE:=gy.new_ gC
 refine sP bH cX gA fun it cY gF aI gn=>?_
 have⟨iu,kT⟩:=aI.q2 ir bH
 refine gz _ _ <| wk fun kU gG=>?_
 refine wk fun kV gH=>?_
 refine wA tr3 [] 66 [ve (sv ag (trimN u) ac),ve (iv ((trimN u).length:Int)),ve (.bool (decide (((trimN u).length:Int)=0)))] cY ?_ ?_
 exact .M gn<| .T (fun k=>v_lenR rfl elU (k.eq1 0 12 rfl))<| .b 1 (r_eql rfl) .nil
 refine aftI cY gF gB fun kW kX a7 cZ c0 c1 bw=>?_
 have⟨go,c3⟩:=bw.f2 iu gn
 have gp:=bw.g 2 14
 have⟨c9,da⟩:=nw2 c1 gE gD
 refine gH _ _ ?_
 rcases bc (decide (((trimN u).length:Int)=0)) with ab|ab
 have d7:=oT ab
 have gI:=hB gp ab
 refine wt gI<| wk fun kY gJ=>?_
 refine wA [true,false,false] [(1,false),(2,true)] 66 [ve (.agg #[.bool false,sv none ([]) 0]),vt,vt] a7 ?_ ?_
 exact .Z<| .off<| .off .nil
 refine aftI a7 cZ c0 fun gq kZ db gK gL gM dc=>?_
 have gr:=dc.f1 go
 have gs:=dc.g 0 15
 have gN:=c9.new_ gM
 refine sS6 gr gs gN fun k0 gO gP jA=>?_
 have gR:=gL.tR gP
 refine sP (v:=iv 0) rfl db gK fun iw jB gS aJ iy=>?_
 have⟨ix,k2⟩:=aJ.q2 gr gs
 refine gJ _ _<| wp_ret (ret_k gS (v:=.tuple #[.agg #[.bool false,sv none ([]) 0],iv 0]) (res_ct rfl ix iy (l_two isAgg26 sizeOf26 gO)) ?_)
 have ah:(canon ((parsedZ u).1).natAbs)=[]:=by first|rfl|(simp only [parsedZ,parsedB,Int.natAbs_zero,canon_zero,ab,bsm] <;> rfl)|(exfalso; omega)
 exact⟨none,0,(by show Ending.returned (.tuple #[.agg #[.bool false,sv none ([]) 0],iv 0])=Ending.returned (.tuple #[.agg #[.bool (decide ((parsedZ u).1 < 0)),sv none (canon ((parsedZ u).1).natAbs) 0],iv ((parsedZ u).2)]); (first|rfl|(simp only [parsedZ,parsedB,Int.natAbs_zero,canon_zero,ab,ah,bsm] <;> rfl)|(exfalso; omega))),(by rw [ah]; exact (SRow.nil _ _)),gR⟩
 have d7:=oF ab
 have gT:=hB gp ab
 refine wf gT<| ws<| gG _ _<| wk fun k3 gU=>?_
 refine wp_g0 [true,true,true,true,true,true,true] [] 66
  [ve (sv ag (trimN u) ac),ve (sv ag (trimN u) ac),
  (EP (.int .u16 (((trimN u).getD 0 0:Nat):Int))),ve (.int .u16 (((trimN u).getD 0 0:Nat):Int)),ve (.bool (decide ((((trimN u).getD 0 0:Nat):Int)=45))),ve (sv ag (trimN u) ac),ve (.bool (decide ((((trimN u).getD 0 0:Nat):Int)=45)))] a7 (.eq (.eq (.cons (fun _ _ _ n ⟨_,_,e,h⟩=>⟨_,_,e,h.new_ n⟩) (.eq (.eq (.eq (.eq .nil))))))) ?_ ?_
 refine .M c3<| .M c3 ?_
 refine .o1 (tk rfl rfl fun _ w hn k=>(by
  exact x_eaddr (k:=.u16) rfl elU (k.eq1 1 17 rfl) rfl (da.new_ hn) (by omega) fun iB iC hme=>⟨iB,iC,rfl,hme⟩)) ?_
 refine .o1 (tk rfl rfl fun _ w hn k=>(by
  obtain⟨k4,k5,iD,gV⟩:=k.G 2 18
  exact⟨_,v_load rfl iD (l_one isAgg79 gV.1),rfl⟩)) ?_
 exact .b 3 (r_eql rfl)<| .B 0<| .B 4 .nil
 refine aftI a7 cZ c0 fun k6 k7 a8 de df dg a9=>?_
 have⟨gt,dh⟩:=a9.f2 go c3
 have gu:=a9.g 5 4
 have gv:=a9.g 6 5
 have⟨di,bx⟩:=nw2 dg c9 da
 refine gU _ _ ?_
 refine wp_seq_j (fun (aa:Act) (ww:World)=>∃ (ng:Bool),∃ (dd:List Nat),∃ (A5:Option Addr),∃ (c5:Nat),aa.tmps.size=66∧aa.defers=[]∧New w ww∧aa.eval (.tmp 4)=sv A5 dd c5∧aa.eval (.tmp 5)=.bool ng∧aa.eval (.tmp 0)=sv ag (trimN u) ac∧aa.eval (.tmp 2)=pv aX∧Blk ww aX 26 [.bool false,sv none ([]) 0]∧SRow ww .u16 A5 dd c5∧SRow ww .u16 ag (trimN u) ac∧(parsedZ u=parsedB (trimN u) dd ng)∧(U16s dd)∧(dd.length≤20000)) ?_ ?_
 rintro k8 k9 ⟨ng,dd,A5,c5,dj,gW,gX,gw,gY,gZ,g0,d9,bI,ea,hbody,hdd,hdl⟩
 refine wk fun jC eb=>wb ?_
 refine wk fun jD ec=>?_
 refine wA tr3 [] 66 [ve (sv A5 dd c5),ve (.bool (digitsT dd)),ve (.bool (digitsT dd))] dj ?_ ?_
 exact .M gw<| .C 0 (fun p=>cdigits_c _ dd _ _ (bI.new_ p) hdd)<| .B 1 .nil
 refine aftI dj gW gX fun jE jF ba bJ bK bb aE=>?_
 have⟨g1,g2,g3,dk⟩:=aE.f4 gw gY gZ g0
 have dl:=aE.g 2 30
 have⟨bL,ed,ee⟩:=nw3 bb d9 bI ea
 refine ec _ _ ?_
 rcases bc (digitsT dd) with ad|ad
 have ef:=hB dl ad
 refine wt ef<| wp_seq_j (fun (aa:Act) (ww:World)=>∃ (A8:Option Addr),∃ (c8:Nat),aa.tmps.size=66∧aa.defers=[]∧New w ww∧aa.eval (.tmp 4)=sv A8 (stripN dd) c8∧aa.eval (.tmp 2)=pv aX∧aa.eval (.tmp 5)=.bool ng∧Blk ww aX 26 [.bool false,sv none ([]) 0]∧SRow ww .u16 A8 (stripN dd) c8∧(U16s (stripN dd))∧((stripN dd).length≤20000)) ?_ ?_
 rintro jG jH ⟨A8,c8,bM,eg,eh,g4,g5,g6,ei,ej,hsu,hsl⟩
 refine wk fun jI ek=>?_
 refine wA tr7 [] 66 [ve (sv A8 (stripN dd) c8),ve (.tuple #[.string ((plainT (stripN dd)).1),.bool ((plainT (stripN dd)).2)]),ve (.tuple #[.string ((plainT (stripN dd)).1),.bool ((plainT (stripN dd)).2)]),ve (.string ((plainT (stripN dd)).1)),ve (.bool ((plainT (stripN dd)).2)),ve (.string ((plainT (stripN dd)).1)),ve (.bool ((plainT (stripN dd)).2))] bM ?_ ?_
 exact .M g4<| .C 0 (fun p=>plain_c _ (stripN dd) _ _ (ej.new_ p) hsu (by omega))<| .N 1<| .E 2<| .E 2<| .B 3<| .B 4 .nil
 refine aftI bM eg eh fun jJ g7 bN el bO em bd=>?_
 have⟨g8,g9⟩:=bd.f2 g5 g6
 have ha:=bd.g 5 6
 have bP:=ei.new_ em
 refine ek _ _ <| wk fun jK en=>?_
 have hps:=plainT_size (stripN dd)
 refine wp_gS (fun W=>True) (fun W W' hn h=>trivial) trivial [true,true,true,true,true,true,false,false] [4] [(6,false),(7,true)] 66
  [ve (.string ((plainT (stripN dd)).1)),(fun (v_:Value) (W:World)=>∃ (aY:Option Addr) (aZ:Nat),v_=.tuple #[.agg #[.bool (decide ((parseZ ((plainT (stripN dd)).1).data.toList).1 < 0)),sv aY (canon ((parseZ ((plainT (stripN dd)).1).data.toList).1).natAbs) aZ],iv ((parseZ ((plainT (stripN dd)).1).data.toList).2)]∧SRow W .u32 aY (canon ((parseZ ((plainT (stripN dd)).1).data.toList).1).natAbs) aZ),(fun (v_:Value) (W:World)=>∃ (aC:Option Addr) (aD:Nat),v_=.tuple #[.agg #[.bool (decide ((parseZ ((plainT (stripN dd)).1).data.toList).1 < 0)),sv aC (canon ((parseZ ((plainT (stripN dd)).1).data.toList).1).natAbs) aD],iv ((parseZ ((plainT (stripN dd)).1).data.toList).2)]∧SRow W .u32 aC (canon ((parseZ ((plainT (stripN dd)).1).data.toList).1).natAbs) aD),(fun (v_:Value) (W:World)=>∃ (a1:Option Addr) (a3:Nat),v_=.agg #[.bool (decide ((parseZ ((plainT (stripN dd)).1).data.toList).1 < 0)),sv a1 (canon ((parseZ ((plainT (stripN dd)).1).data.toList).1).natAbs) a3]∧SRow W .u32 a1 (canon ((parseZ ((plainT (stripN dd)).1).data.toList).1).natAbs) a3),ve (iv ((parseZ ((plainT (stripN dd)).1).data.toList).2)),IsNew g7 26 [.bool false,sv none ([]) 0],vt,vt]
  [5] (newsCons (fun v w h=>IsNew.old h) newsNil) bN (.eq (.cons (fun _ _ _ n ⟨_,_,e,h⟩=>⟨_,_,e,h.new_ n⟩) (.cons (fun _ _ _ n ⟨_,_,e,h⟩=>⟨_,_,e,h.new_ n⟩) (.cons (fun _ _ _ n ⟨_,_,e,h⟩=>⟨_,_,e,h.new_ n⟩) (.eq (.nw (.tt (.tt .nil)))))))) ?_ ?_ ?_
 refine .M ha ?_
 refine .o1 (tkC rfl (noG rfl) rfl fun _ w hn k=>(by
  refine ⟨#[.string ((plainT (stripN dd)).1)],_,args1 (k.eq1 0 50 rfl),fun w=>by kernel_rfl,bParse_c ((plainT (stripN dd)).1) _ (by omega),?_⟩
  rintro e w' ⟨iE,iF,rfl,hmo0,hm⟩
  exact⟨_,rfl,hm,⟨iE,iF,rfl,hmo0⟩⟩)) ?_
 refine .o1 (tk rfl rfl fun _ w hn k=>(by
  obtain⟨iG,iH,iI,hc⟩:=k.G 1 51
  exact⟨_,v_move rfl iI,⟨iG,iH,rfl,hc⟩⟩)) ?_
 refine .o1 (tk rfl rfl fun _ w hn k=>(by
  obtain⟨iJ,iK,iL,hd⟩:=k.G 2 49
  exact⟨_,v_extract rfl iL rfl,⟨iJ,iK,rfl,hd⟩⟩)) ?_
 refine .o3 ?_
 exact .Y<| .off<| .off .nil
 refine eg1 ?_
 exact eager_takeG rfl (noG rfl) fun _ w hn k=>(by
  obtain⟨la,lc,iM,jL⟩:=k.G 2 49
  exact⟨_,fun w hS=>v_extract rfl iM rfl,rfl⟩)
 intro bz jM _ bQ av
 obtain⟨bR,eo,ep⟩:=aft av bN el bO bQ
 have⟨hf,hg⟩:=av.f2 g8 g9
 obtain⟨am,af,be,er⟩:=av.G 3 52
 have be:bz.eval (.tmp 52)=.agg #[.bool (decide ((parseZ ((plainT (stripN dd)).1).data.toList).1 < 0)),sv am (canon ((parseZ ((plainT (stripN dd)).1).data.toList).1).natAbs) af]:=be
 have dm:=av.g 4 53
 obtain⟨hh,dn,bS,bT⟩:=av.G 5 8
 have es:=bP.new_ bQ
 have hne166:aX ≠ hh:=by have h1:=bP.lt; have h2:=bS; omega
 have jm:=Nat.le_trans bO.size bS
 refine sS6 dn be bT fun jN et bU eu=>?_
 have ew:=er.fr bT bU
 have ex:=eu hne166 es
 have ey:=ep.tR bU
 refine sP dm bR eo fun hi bV ez ai hr=>?_
 have⟨hj,hl,jP⟩:=ai.q3 hf hg be
 have⟨jQ,ho⟩:=ai.q2 dm dn
 refine en _ _ <| wk fun jR eA=>?_
 refine wk fun jS eB=>?_
 refine wA tr2 [] 66 [ve (iv ((parseZ ((plainT (stripN dd)).1).data.toList).2)),ve (.bool (!decide (((parseZ ((plainT (stripN dd)).1).data.toList).2)=0)))] bV ?_ ?_
 exact .M hr<| .b 0 (r_neq rfl) .nil
 refine aftI bV ez ey fun jT jU aL bW bX bf aM=>?_
 have⟨dq,ht,hv⟩:=aM.f3 hj hl ho
 have dr:=aM.g 1 55
 have⟨bY,eC,eD⟩:=nw3 bf ex et ew
 refine eB _ _ ?_
 rcases bc ((!decide (((parseZ ((plainT (stripN dd)).1).data.toList).2)=0))) with ae|ae
 have eE:=hB dr ae
 have aF:(decide (((parseZ ((plainT (stripN dd)).1).data.toList).2)=0))=false:=nF ae
 have iN:=oF aF
 refine wt eE<| wk fun jV eF=>?_
 refine wA [true,false,false] [(1,false),(2,true)] 66 [ve (.agg #[.bool false,sv none ([]) 0]),vt,vt] aL ?_ ?_
 exact .Z<| .off<| .off .nil
 refine aftI aL bW bX fun ds jW bZ eG eH eI b0=>?_
 have dt:=b0.f1 dq
 have du:=b0.g 0 56
 have eJ:=bY.new_ eI
 refine sS6 dt du eJ fun jX eK eL jn=>?_
 have eN:=eH.tR eL
 refine sP (v:=iv 3) rfl bZ eG fun hw jo eO aw hy=>?_
 have⟨hx,jZ⟩:=aw.q2 dt du
 refine eF _ _<| wp_ret (ret_k eO (v:=.tuple #[.agg #[.bool false,sv none ([]) 0],iv 3]) (res_ct rfl hx hy (l_two isAgg26 sizeOf26 eK)) ?_)
 have ah:(canon ((parsedZ u).1).natAbs)=[]:=by first|rfl|(simp only [hbody,parsedB,good_parse,Int.natAbs_zero,canon_zero,ab,ad,ae,aF,aF,bsm] <;> rfl)|(exfalso; omega)
 exact⟨none,0,(by show Ending.returned (.tuple #[.agg #[.bool false,sv none ([]) 0],iv 3])=Ending.returned (.tuple #[.agg #[.bool (decide ((parsedZ u).1 < 0)),sv none (canon ((parsedZ u).1).natAbs) 0],iv ((parsedZ u).2)]); (first|rfl|(simp only [hbody,parsedB,good_parse,Int.natAbs_zero,canon_zero,ab,ad,ae,aF,aF,ah,bsm] <;> rfl)|(exfalso; omega))),(by rw [ah]; exact (SRow.nil _ _)),eN⟩
 have eP:=hB dr ae
 have aj:(decide (((parseZ ((plainT (stripN dd)).1).data.toList).2)=0))=true:=nT ae
 have iO:=oT aj
 refine wf eP<| ws<| eA _ _<| wk fun j0 b1=>wk fun j1 eQ=>?_
 refine wA tr1 [] 66 [ve (.bool ng)] aL ?_ ?_
 exact .M ht .nil
 refine aftI aL bW bX fun j2 j3 aN b2 b3 bg bh=>?_
 have⟨dw,bA⟩:=bh.f2 dq hv
 have dx:=bh.g 0 57
 have⟨b4,bi,bj⟩:=nw3 bg bY eC eD
 refine eQ _ _ ?_
 rcases bc (ng) with an|an
 have eR:=hB dx an
 refine wt eR ?_
 have hp8:=(canon_len8 _).2 (parseZ_lt (plainT (stripN dd)).1.data.toList)
 refine wp_g0 [true,true,false] [(2,false)] 66
  [ve (.agg #[.bool (decide ((parseZ ((plainT (stripN dd)).1).data.toList).1 < 0)),sv am (canon ((parseZ ((plainT (stripN dd)).1).data.toList).1).natAbs) af]),(fun (v_:Value) (W:World)=>∃ (a4:Option Addr) (a5:Nat),v_=.agg #[.bool (decide (-(goodI (decide ((parseZ ((plainT (stripN dd)).1).data.toList).1 < 0)) (canon ((parseZ ((plainT (stripN dd)).1).data.toList).1).natAbs)) < 0)),sv a4 (canon (-(goodI (decide ((parseZ ((plainT (stripN dd)).1).data.toList).1 < 0)) (canon ((parseZ ((plainT (stripN dd)).1).data.toList).1).natAbs))).natAbs) a5]∧SRow W .u32 a4 (canon (-(goodI (decide ((parseZ ((plainT (stripN dd)).1).data.toList).1 < 0)) (canon ((parseZ ((plainT (stripN dd)).1).data.toList).1).natAbs))).natAbs) a5),vt] aN (.eq (.cons (fun _ _ _ n ⟨_,_,e,h⟩=>⟨_,_,e,h.new_ n⟩) (.tt .nil))) ?_ ?_
 refine .L6 bA bi ?_
 refine .o1 (tkC rfl (noG rfl) rfl fun _ w hn k=>(by
  refine ⟨#[.agg #[.bool (decide ((parseZ ((plainT (stripN dd)).1).data.toList).1 < 0)),sv am (canon ((parseZ ((plainT (stripN dd)).1).data.toList).1).natAbs) af]],_,args1 (k.eq1 0 58 rfl),fun w=>by kernel_rfl,bNeg_c (decide ((parseZ ((plainT (stripN dd)).1).data.toList).1 < 0)) _ (canon ((parseZ ((plainT (stripN dd)).1).data.toList).1).natAbs) _ _ (bj.new_ hn) (limbs_canon _) (by first|omega|(simp only [List.length_nil,List.length_take,List.length_drop]; omega)|(simp only [List.length_cons,List.length_nil]; omega)),?_⟩
  rintro e w' ⟨iP,iQ,rfl,hmo0,hm⟩
  exact⟨_,rfl,hm,⟨iP,iQ,rfl,hmo0⟩⟩)) ?_
 exact .off .nil
 refine aftI aN b2 b3 fun hz j4 b5 eS eT bk bl=>?_
 have⟨hA,dy⟩:=bl.f2 dw bA
 obtain⟨au,ak,bB,eU⟩:=bl.G 1 59
 have bB:hz.eval (.tmp 59)=.agg #[.bool (decide (-(goodI (decide ((parseZ ((plainT (stripN dd)).1).data.toList).1 < 0)) (canon ((parseZ ((plainT (stripN dd)).1).data.toList).1).natAbs)) < 0)),sv au (canon (-(goodI (decide ((parseZ ((plainT (stripN dd)).1).data.toList).1 < 0)) (canon ((parseZ ((plainT (stripN dd)).1).data.toList).1).natAbs))).natAbs) ak]:=bB
 have⟨eV,bm,eW⟩:=nw3 bk b4 bi bj
 refine sS6 dy bB bm fun j5 eX bn eY=>?_
 have jp:=eW.fr bm bn
 have e0:=eU.fr bm bn
 have e1:=eY hne166 eV
 have e2:=eT.tR bn
 refine b1 _ _ <| wk fun j7 e3=>?_
 refine wA [true,false,false] [(1,false),(2,true)] 66 [ve (.agg #[.bool (decide (-(goodI (decide ((parseZ ((plainT (stripN dd)).1).data.toList).1 < 0)) (canon ((parseZ ((plainT (stripN dd)).1).data.toList).1).natAbs)) < 0)),sv au (canon (-(goodI (decide ((parseZ ((plainT (stripN dd)).1).data.toList).1 < 0)) (canon ((parseZ ((plainT (stripN dd)).1).data.toList).1).natAbs))).natAbs) ak]),vt,vt] b5 ?_ ?_
 exact .L6 dy eX<| .off<| .off .nil
 refine aftI b5 eS e2 fun dA j8 b6 e4 e5 b7 b8=>?_
 have dB:=b8.f1 hA
 have dC:=b8.g 0 60
 have⟨b9,e6⟩:=nw2 b7 e1 e0
 refine sS6 dB dC b9 fun j9 e7 ca jq=>?_
 have e9:=e6.fr b9 ca
 have fa:=e5.tR ca
 refine sP (v:=iv 0) rfl b6 e4 fun hC jr fb ax hE=>?_
 have⟨hD,kb⟩:=ax.q2 dB dC
 refine e3 _ _<| wp_ret (ret_k fb (v:=.tuple #[.agg #[.bool (decide (-(goodI (decide ((parseZ ((plainT (stripN dd)).1).data.toList).1 < 0)) (canon ((parseZ ((plainT (stripN dd)).1).data.toList).1).natAbs)) < 0)),sv au (canon (-(goodI (decide ((parseZ ((plainT (stripN dd)).1).data.toList).1 < 0)) (canon ((parseZ ((plainT (stripN dd)).1).data.toList).1).natAbs))).natAbs) ak],iv 0]) (res_ct rfl hD hE (l_two isAgg26 sizeOf26 e7)) ?_)
 have ah:(canon ((parsedZ u).1).natAbs)=(canon (-(goodI (decide ((parseZ ((plainT (stripN dd)).1).data.toList).1 < 0)) (canon ((parseZ ((plainT (stripN dd)).1).data.toList).1).natAbs))).natAbs):=by first|rfl|(simp only [hbody,parsedB,good_parse,Int.natAbs_zero,canon_zero,ab,ad,ae,aj,aj,an,bsm] <;> rfl)|(exfalso; omega)
 exact⟨au,ak,(by show Ending.returned (.tuple #[.agg #[.bool (decide (-(goodI (decide ((parseZ ((plainT (stripN dd)).1).data.toList).1 < 0)) (canon ((parseZ ((plainT (stripN dd)).1).data.toList).1).natAbs)) < 0)),sv au (canon (-(goodI (decide ((parseZ ((plainT (stripN dd)).1).data.toList).1 < 0)) (canon ((parseZ ((plainT (stripN dd)).1).data.toList).1).natAbs))).natAbs) ak],iv 0])=Ending.returned (.tuple #[.agg #[.bool (decide ((parsedZ u).1 < 0)),sv au (canon ((parsedZ u).1).natAbs) ak],iv ((parsedZ u).2)]); (first|rfl|(simp only [hbody,parsedB,good_parse,Int.natAbs_zero,canon_zero,ab,ad,ae,aj,aj,an,ah,bsm] <;> rfl)|(exfalso; omega))),(by rw [ah]; exact e9),fa⟩
 have fc:=hB dx an
 refine wf fc<| ws<| b1 _ _<| wk fun kc fd=>?_
 refine wA [true,false,false] [(1,false),(2,true)] 66 [ve (.agg #[.bool (decide ((parseZ ((plainT (stripN dd)).1).data.toList).1 < 0)),sv am (canon ((parseZ ((plainT (stripN dd)).1).data.toList).1).natAbs) af]),vt,vt] aN ?_ ?_
 exact .L6 bA bi<| .off<| .off .nil
 refine aftI aN b2 b3 fun dE kd cb fe ff cc cd=>?_
 have dF:=cd.f1 dw
 have dG:=cd.g 0 60
 have⟨ce,fg⟩:=nw2 cc b4 bj
 refine sS6 dF dG ce fun ke fh cf js=>?_
 have fj:=fg.fr ce cf
 have fk:=ff.tR cf
 refine sP (v:=iv 0) rfl cb fe fun hF jt fl ay hH=>?_
 have⟨hG,kg⟩:=ay.q2 dF dG
 refine fd _ _<| wp_ret (ret_k fl (v:=.tuple #[.agg #[.bool (decide ((parseZ ((plainT (stripN dd)).1).data.toList).1 < 0)),sv am (canon ((parseZ ((plainT (stripN dd)).1).data.toList).1).natAbs) af],iv 0]) (res_ct rfl hG hH (l_two isAgg26 sizeOf26 fh)) ?_)
 have ah:(canon ((parsedZ u).1).natAbs)=(canon ((parseZ ((plainT (stripN dd)).1).data.toList).1).natAbs):=by first|rfl|(simp only [hbody,parsedB,good_parse,Int.natAbs_zero,canon_zero,ab,ad,ae,aj,aj,an,bsm] <;> rfl)|(exfalso; omega)
 exact⟨am,af,(by show Ending.returned (.tuple #[.agg #[.bool (decide ((parseZ ((plainT (stripN dd)).1).data.toList).1 < 0)),sv am (canon ((parseZ ((plainT (stripN dd)).1).data.toList).1).natAbs) af],iv 0])=Ending.returned (.tuple #[.agg #[.bool (decide ((parsedZ u).1 < 0)),sv am (canon ((parsedZ u).1).natAbs) af],iv ((parsedZ u).2)]); (first|rfl|(simp only [hbody,parsedB,good_parse,Int.natAbs_zero,canon_zero,ab,ad,ae,aj,aj,an,ah,bsm] <;> rfl)|(exfalso; omega))),(by rw [ah]; exact fj),fk⟩
 intro kh ch
 refine wb<| wp_loopX (fun (mm:Nat) (aa:Act) (ww:World)=>∃ (cur:List Nat) (A6:Option Addr) (c6:Nat),mm=cur.length∧aa.tmps.size=66∧aa.defers=[]∧New w ww∧aa.eval (.tmp 4)=sv A6 cur c6∧aa.eval (.tmp 2)=pv aX∧aa.eval (.tmp 5)=.bool ng∧Blk ww aX 26 [.bool false,sv none ([]) 0]∧SRow ww .u16 A6 cur c6∧(stripN cur=stripN dd)∧(U16s cur)∧(cur.length≤20000)) (fun mm=>mm) ⟨_,⟨dd,A5,c5,rfl,ba,bJ,bK,g1,dk,g2,bL,ed,rfl,hdd,hdl⟩⟩ ?_
 rintro mm ki kj ⟨cur,A6,c6,hmm,aO,ci,cj,a6,dI,dJ,cl,bo,hst,hcu,hcl⟩
 refine wk fun kk fm=>wk fun kl cm=>?_
 rcases bc ((!decide ((cur.length:Int)≤1))) with bp|bp
 have cn:(decide ((cur.length:Int)≤1))=false:=nF bp
 have iR:=oF cn
 have iS:=hcu.at16 0
 refine wp_g0 (.replicate 9 true) [] 66
  [ve (sv A6 cur c6),ve (iv (cur.length:Int)),vT,vT,ve (sv A6 cur c6),
  (EP (.int .u16 ((cur.getD 0 0:Nat):Int))),ve (.int .u16 ((cur.getD 0 0:Nat):Int)),ve (.bool (decide (((cur.getD 0 0:Nat):Int)=48))),ve (.bool (decide (((cur.getD 0 0:Nat):Int)=48)))] aO (.eq (.eq (.eq (.eq (.eq (.cons (fun _ _ _ n ⟨_,_,e,h⟩=>⟨_,_,e,h.new_ n⟩) (.eq (.eq (.eq .nil))))))))) ?_ ?_
 refine .M a6<| .T (fun k=>v_lenR rfl elU (k.eq1 0 33 rfl))<| .b 1 (r_gtrK cn)<| .N 2<| .gm (fun k=>k.eq1 3 36 rfl) (fun k=>k.fx 4 a6) ?_
 refine .o1 (tg rfl rfl rfl (fun _ _ k=>k.eq1 3 36 rfl) fun _ w hn k=>(by
  exact x_eaddr (k:=.u16) rfl elU (k.eq1 4 37 rfl) rfl (bo.new_ hn) (by omega) fun iV iW hme=>⟨iV,iW,rfl,hme⟩)) ?_
 refine .o1 (tg rfl rfl rfl (fun _ _ k=>k.eq1 3 36 rfl) fun _ w hn k=>(by
  obtain⟨ld,le,iX,hI⟩:=k.G 5 38
  exact⟨_,v_load rfl iX (l_one isAgg79 hI.1),rfl⟩)) ?_
 exact .V (fun p k=>v_bin rfl (k.eq1 6 39 rfl) rfl (fun _=>rfl) (r_eql rfl))<| .T (fun k=>v_pickT rfl (k.eq1 3 36 rfl) (k.eq1 7 40 rfl)) .nil
 refine aftI aO ci cj fun km kn bq co cp cq aP=>?_
 have⟨br,dK,dL⟩:=aP.f3 a6 dI dJ
 have dM:=aP.g 8 41
 have⟨cr,aQ⟩:=nw2 cq cl bo
 refine cm _ _ ?_
 rcases bc (decide (((cur.getD 0 0:Nat):Int)=48)) with ao|ao
 have dN:=oT ao
 have fn:=hB dM ao
 refine wt fn<| ws<| fm _ _<| wb<| wp_g0 [true,true,false] [(2,true)] 66
  [ve (sv A6 cur c6),
  (RP .u16 (cur.drop 1)),vt] bq (.eq (.cons (fun _ _ _ n ⟨_,_,e,h⟩=>⟨_,_,e,h.new_ n⟩) (.tt .nil))) ?_ ?_
 refine .M br ?_
 refine .o1 (tk rfl rfl fun _ w hn k=>(by
  exact x_cutL (k:=.u16) rfl elU (k.eq1 0 42 rfl) rfl (aQ.new_ hn) (by omega) fun i0 i1 hmr=>⟨i0,i1,rfl,hmr⟩)) ?_
 exact .off .nil
 refine aftI bq co cp fun bC ko ct fo fp cv aR=>?_
 have⟨kp,hJ,hK⟩:=aR.f3 br dK dL
 obtain⟨aK,az,bs,fq⟩:=aR.G 1 43
 have bs:bC.eval (.tmp 43)=sv aK (cur.drop 1) az:=bs
 have⟨fs,ju⟩:=nw2 cv cr aQ
 refine sP bs ct fo fun hL ft fu ap hO=>?_
 have⟨hM,hN,kq⟩:=ap.q3 hJ hK bs
 refine st_nil ?_
 refine blk_n ?_
 refine then_n ?_
 exact⟨_,⟨(cur.drop 1),aK,az,rfl,ft,fu,fp,hO,hM,hN,fs,fq,((strip_step (by omega) ao).trans hst),(hcu.drop 1),(by rw [List.length_drop]; omega)⟩,(by rw [List.length_drop]; omega)⟩
 have dN:=oF ao
 have fv:=hB dM ao
 refine wf fv<| wp_exit ?_
 have hse:=strip_end (l:=cur) (Or.inr ao)
 have he392:cur=(stripN dd):=hse.symm.trans hst
 rw [he392] at br
 rw [he392] at aQ
 exact ch _ _ ⟨A6,c6,bq,co,cp,br,dK,dL,cr,aQ,(by rw [← hst,hse]; exact hcu),(by rw [← hst,hse]; exact hcl)⟩
 have cw:(decide ((cur.length:Int)≤1))=true:=nT bp
 have i2:=oT cw
 have iS:=hcu.at16 0
 refine wA tr9 [] 66 [ve (sv A6 cur c6),ve (iv (cur.length:Int)),vF,vF,vU,vU,vU,vU,vF] aO ?_ ?_
 exact .M a6<| .T (fun k=>v_lenR rfl elU (k.eq1 0 33 rfl))<| .b 1 (r_gtrK cw)<| .N 2<| .S<| .S<| .S<| .S<| .T (fun k=>v_pickF rfl (k.eq1 3 36 rfl) rfl) .nil
 refine aftI aO ci cj fun kr ks fw fy fz cx aS=>?_
 have⟨dO,hP,hQ⟩:=aS.f3 a6 dI dJ
 have hR:=aS.g 8 41
 have⟨fA,cy⟩:=nw2 cx cl bo
 refine cm _ _<| wf hR<| wp_exit ?_
 have hse:=strip_end (l:=cur) (Or.inl (by omega))
 have he407:cur=(stripN dd):=hse.symm.trans hst
 rw [he407] at dO
 rw [he407] at cy
 exact ch _ _ ⟨A6,c6,fw,fy,fz,dO,hP,hQ,fA,cy,(by rw [← hst,hse]; exact hcu),(by rw [← hst,hse]; exact hcl)⟩
 have fB:=hB dl ad
 refine wf fB<| wk fun kt fC=>?_
 refine wA tr3 [] 66 [ve (sv ag (trimN u) ac),ve (.bool (numericN ⟨#[120,88,111,79]⟩ (trimN u))),ve (.bool (numericN ⟨#[120,88,111,79]⟩ (trimN u)))] ba ?_ ?_
 exact .M g3<| .C 0 (fun p=>cstrange_c _ (trimN u) _ _ (ee.new_ p) hut)<| .B 1 .nil
 refine aftI ba bJ bK fun ku kv aT cz cA fD cB=>?_
 have dP:=cB.f1 dk
 have dQ:=cB.g 2 61
 have cC:=bL.new_ fD
 refine fC _ _ ?_
 rcases bc (numericN ⟨#[120,88,111,79]⟩ (trimN u)) with aq|aq
 have fE:=hB dQ aq
 refine wt fE<| wk fun kw fF=>?_
 refine wA [true,false,false] [(1,false),(2,true)] 66 [ve (.agg #[.bool false,sv none ([]) 0]),vt,vt] aT ?_ ?_
 exact .Z<| .off<| .off .nil
 refine aftI aT cz cA fun dR kx cD fG fH fI cE=>?_
 have dS:=cE.f1 dP
 have dT:=cE.g 0 64
 have fJ:=cC.new_ fI
 refine sS6 dS dT fJ fun ky fK fL jv=>?_
 have fN:=fH.tR fL
 refine sP (v:=iv 3) rfl cD fG fun hT jw fO aA hV=>?_
 have⟨hU,kA⟩:=aA.q2 dS dT
 refine fF _ _<| wp_ret (ret_k fO (v:=.tuple #[.agg #[.bool false,sv none ([]) 0],iv 3]) (res_ct rfl hU hV (l_two isAgg26 sizeOf26 fK)) ?_)
 have ah:(canon ((parsedZ u).1).natAbs)=[]:=by first|rfl|(simp only [hbody,parsedB,good_parse,Int.natAbs_zero,canon_zero,ab,ad,aq,bsm] <;> rfl)|(exfalso; omega)
 exact⟨none,0,(by show Ending.returned (.tuple #[.agg #[.bool false,sv none ([]) 0],iv 3])=Ending.returned (.tuple #[.agg #[.bool (decide ((parsedZ u).1 < 0)),sv none (canon ((parsedZ u).1).natAbs) 0],iv ((parsedZ u).2)]); (first|rfl|(simp only [hbody,parsedB,good_parse,Int.natAbs_zero,canon_zero,ab,ad,aq,ah,bsm] <;> rfl)|(exfalso; omega))),(by rw [ah]; exact (SRow.nil _ _)),fN⟩
 have fP:=hB dQ aq
 refine wf fP<| ws<| eb _ _<| wk fun kB fQ=>?_
 refine wA [true,false,false] [(1,false),(2,true)] 66 [ve (.agg #[.bool false,sv none ([]) 0]),vt,vt] aT ?_ ?_
 exact .Z<| .off<| .off .nil
 refine aftI aT cz cA fun dV kC cF fR fS fT cG=>?_
 have dW:=cG.f1 dP
 have dX:=cG.g 0 65
 have fU:=cC.new_ fT
 refine sS6 dW dX fU fun kD fV fW jx=>?_
 have fY:=fS.tR fW
 refine sP (v:=iv 5) rfl cF fR fun hW jy fZ aB hY=>?_
 have⟨hX,kF⟩:=aB.q2 dW dX
 refine fQ _ _<| wp_ret (ret_k fZ (v:=.tuple #[.agg #[.bool false,sv none ([]) 0],iv 5]) (res_ct rfl hX hY (l_two isAgg26 sizeOf26 fV)) ?_)
 have ah:(canon ((parsedZ u).1).natAbs)=[]:=by first|rfl|(simp only [hbody,parsedB,good_parse,Int.natAbs_zero,canon_zero,ab,ad,aq,bsm] <;> rfl)|(exfalso; omega)
 exact⟨none,0,(by show Ending.returned (.tuple #[.agg #[.bool false,sv none ([]) 0],iv 5])=Ending.returned (.tuple #[.agg #[.bool (decide ((parsedZ u).1 < 0)),sv none (canon ((parsedZ u).1).natAbs) 0],iv ((parsedZ u).2)]); (first|rfl|(simp only [hbody,parsedB,good_parse,Int.natAbs_zero,canon_zero,ab,ad,aq,ah,bsm] <;> rfl)|(exfalso; omega))),(by rw [ah]; exact (SRow.nil _ _)),fY⟩
 intro kG bt
 refine wk fun kH cH=>?_
 rcases bc (decide ((((trimN u).getD 0 0:Nat):Int)=45)) with al|al
 have dZ:=oT al
 have cI:=hB gv al
 refine wA tr7 [] 66 [vT,vT,vU,vU,vU,vU,vT] a8 ?_ ?_
 exact .M cI<| .N 0<| .S<| .S<| .S<| .S<| .T (fun k=>v_pickT rfl (k.eq1 1 22 rfl) rfl) .nil
 refine aftI a8 de df fun kI kJ cJ f0 f1 cK aG=>?_
 have⟨hZ,d0,kK,h3⟩:=aG.f4 gt dh gu cI
 have h4:=aG.g 6 27
 have⟨f2,cL⟩:=nw2 cK di bx
 refine cH _ _<| wt h4<| wp_g0 [true,true,true] [] 66
  [ve (sv ag (trimN u) ac),
  (RP .u16 ((trimN u).drop 1)),
  (RP .u16 ((trimN u).drop 1))] cJ (.eq (.cons (fun _ _ _ n ⟨_,_,e,h⟩=>⟨_,_,e,h.new_ n⟩) (.cons (fun _ _ _ n ⟨_,_,e,h⟩=>⟨_,_,e,h.new_ n⟩) .nil))) ?_ ?_
 refine .M d0 ?_
 refine .o1 (tk rfl rfl fun _ w hn k=>(by
  exact x_cutL (k:=.u16) rfl elU (k.eq1 0 28 rfl) rfl (cL.new_ hn) (by omega) fun i7 i8 hmr=>⟨i7,i8,rfl,hmr⟩)) ?_
 refine .o1 (tk rfl rfl fun _ w hn k=>(by
  obtain⟨i9,ja,jb,h5⟩:=k.G 1 29
  exact⟨_,v_assign rfl jb,⟨i9,ja,rfl,h5⟩⟩)) ?_
 exact .nil
 refine aftI cJ f0 f1 fun h6 kL f3 f4 f5 cM aU=>?_
 have⟨h7,ia,ib⟩:=aU.f3 hZ d0 h3
 obtain⟨d1,cN,bD,f6⟩:=aU.G 2 4
 have bD:h6.eval (.tmp 4)=sv d1 ((trimN u).drop 1) cN:=bD
 have⟨f7,f8⟩:=nw2 cM f2 cL
 refine st_nil ?_
 exact bt _ _ ⟨true,((trimN u).drop 1),d1,cN,f3,f4,f5,bD,ib,ia,h7,f7,f6,f8,(by unfold parsedZ; simp only [ab,al,bsm]),(hut.drop 1),(by first|omega|(rw [List.length_drop]; omega))⟩
 have dZ:=oF al
 have cO:=hB gv al
 refine wp_g0 [true,true,true,true,true,true,true] [] 66
  [vF,vF,ve (sv ag (trimN u) ac),
  (EP (.int .u16 (((trimN u).getD 0 0:Nat):Int))),ve (.int .u16 (((trimN u).getD 0 0:Nat):Int)),ve (.bool (decide ((((trimN u).getD 0 0:Nat):Int)=43))),ve (.bool (decide ((((trimN u).getD 0 0:Nat):Int)=43)))] a8 (.eq (.eq (.eq (.cons (fun _ _ _ n ⟨_,_,e,h⟩=>⟨_,_,e,h.new_ n⟩) (.eq (.eq (.eq .nil))))))) ?_ ?_
 refine .M cO<| .N 0<| .gm (fun k=>k.eq1 1 22 rfl) (fun k=>k.fx 0 dh) ?_
 refine .o1 (tg rfl rfl rfl (fun _ _ k=>k.eq1 1 22 rfl) fun _ w hn k=>(by
  exact x_eaddr (k:=.u16) rfl elU (k.eq1 2 23 rfl) rfl (bx.new_ hn) (by omega) fun je jf hme=>⟨je,jf,rfl,hme⟩)) ?_
 refine .o1 (tg rfl rfl rfl (fun _ _ k=>k.eq1 1 22 rfl) fun _ w hn k=>(by
  obtain⟨lf,lg,jg,ic⟩:=k.G 3 24
  exact⟨_,v_load rfl jg (l_one isAgg79 ic.1),rfl⟩)) ?_
 exact .V (fun p k=>v_bin rfl (k.eq1 4 25 rfl) rfl (fun _=>rfl) (r_eql rfl))<| .T (fun k=>v_pickF rfl (k.eq1 1 22 rfl) (k.eq1 5 26 rfl)) .nil
 refine aftI a8 de df fun kM kN bu cP cQ cR aH=>?_
 have⟨d2,bE,id,d3⟩:=aH.f4 gt dh gu cO
 have d4:=aH.g 6 27
 have⟨cS,aV⟩:=nw2 cR di bx
 refine cH _ _ ?_
 rcases bc (decide ((((trimN u).getD 0 0:Nat):Int)=43)) with ar|ar
 have d5:=oT ar
 have f9:=hB d4 ar
 refine wt f9<| wp_g0 [true,true,true] [] 66
  [ve (sv ag (trimN u) ac),
  (RP .u16 ((trimN u).drop 1)),
  (RP .u16 ((trimN u).drop 1))] bu (.eq (.cons (fun _ _ _ n ⟨_,_,e,h⟩=>⟨_,_,e,h.new_ n⟩) (.cons (fun _ _ _ n ⟨_,_,e,h⟩=>⟨_,_,e,h.new_ n⟩) .nil))) ?_ ?_
 refine .M bE ?_
 refine .o1 (tk rfl rfl fun _ w hn k=>(by
  exact x_cutL (k:=.u16) rfl elU (k.eq1 0 28 rfl) rfl (aV.new_ hn) (by omega) fun jj jk hmr=>⟨jj,jk,rfl,hmr⟩)) ?_
 refine .o1 (tk rfl rfl fun _ w hn k=>(by
  obtain⟨jl,ih,ii,ga⟩:=k.G 1 29
  exact⟨_,v_assign rfl ii,⟨jl,ih,rfl,ga⟩⟩)) ?_
 exact .nil
 refine aftI bu cP cQ fun ij kO gb gc gd cT aW=>?_
 have⟨ik,il,im⟩:=aW.f3 d2 bE d3
 obtain⟨d6,cU,bF,gf⟩:=aW.G 2 4
 have bF:ij.eval (.tmp 4)=sv d6 ((trimN u).drop 1) cU:=bF
 have⟨gg,gh⟩:=nw2 cT cS aV
 refine st_nil ?_
 exact bt _ _ ⟨false,((trimN u).drop 1),d6,cU,gb,gc,gd,bF,im,il,ik,gg,gf,gh,(by unfold parsedZ; simp only [ab,al,ar,bsm]),(hut.drop 1),(by first|omega|(rw [List.length_drop]; omega))⟩
 have d5:=oF ar
 have gi:=hB d4 ar
 refine wf gi<| ws<| bt _ _ ⟨false,(trimN u),ag,ac,bu,cP,cQ,id,d3,bE,d2,cS,aV,aV,(by unfold parsedZ; simp only [ab,al,ar,bsm]),hut,(by first|omega|(rw [List.length_drop]; omega))⟩
def cbigint_c_P (v:Vl) (Av:Option Addr) (cv:Nat) (Bv:Option Addr) (dv:Nat) (w:World) (en:Ending) (w':World):Prop:=∃ (Ar0:Option Addr) (cr0:Nat),en=.returned (.tuple #[.agg #[.bool ((bigintV v).1),sv Ar0 ((bigintV v).2.1) cr0],iv ((bigintV v).2.2)])∧SRow w' .u32 Ar0 ((bigintV v).2.1) cr0∧New w w'
theorem cbigint_c (v:Vl) (Av:Option Addr) (cv:Nat) (Bv:Option Addr) (dv:Nat) (w:World) (hmv:SRow w .u32 Av v.mag cv) (hsv:SRow w .u16 Bv v.s dv) (hvv:VOk v):Calls prog 12 #[vv v Av cv Bv dv] w (cbigint_c_P v Av cv Bv dv w):=by
 refine enter_abs func12 rfl fun a0 aZ eg hp=>?_
 have aZ:a0.tmps.size=29:=aZ
 have bs:New w w:=Upd.refl _ _
 have hp0:a0.eval (.tmp 0)=vv v Av cv Bv dv:=hp 0 _ rfl
 have hm:=hvv.clean.mlen
 have hsl:=hvv.clean.slen
 have fk:=hvv.clean.rlo
 have fl:=hvv.clean.rhi
 refine wk fun K1 eh=>?_
 refine wB tr3 [] [] 29 [IsNew w 29 (c7 v Av cv Bv dv),IsNew w 26 [.bool false,sv none ([]) 0],ve (iv 0)] [0,1] aZ ?_ heN ?_
 exact .X hp0<| .Y<| .c .nil
 refine aftI aZ eg bs fun a2 w3 di ei aS fm bt=>?_
 obtain⟨q9,h8,dr,bu⟩:=bt.G 0 1
 obtain⟨ej,dj,ds,dt⟩:=bt.G 1 2
 have hne16:=bt.ne 0 1 1 2 h8 dj
 have eL:=Nat.le_trans bs.size dr
 have eM:=Nat.le_trans bs.size ds
 refine eh _ _ <| wk fun fn du=>?_
 refine wp_g0 [true,true,false] [(2,false)] 29
  [ve (vv v Av cv Bv dv),
  (VP (cleanV v)),vt] di (.eq (.cons (fun _ _ _ n ⟨_,_,_,_,e,h,i⟩=>⟨_,_,_,_,e,h.new_ n,i.new_ n⟩) (.tt .nil))) ?_ ?_
 refine .L9 h8 bu ?_
 refine .o1 (tkC rfl (noG rfl) rfl fun _ w hn k=>(by
  refine ⟨#[vv v Av cv Bv dv],_,args1 (k.eq1 0 4 rfl),fun w=>by kernel_rfl,clean_c v _ _ _ _ _ (hmv.new_ (aS.transNew hn)) (hsv.new_ (aS.transNew hn)),?_⟩
  rintro e w' ⟨A1,c2,A3,c4,rfl,hmo0,hmo1,hm⟩
  exact⟨_,rfl,hm,⟨A1,c2,A3,c4,rfl,hmo0,hmo1⟩⟩)) ?_
 exact .off .nil
 refine aftI di ei aS fun ek fo bv dw dx bw aT=>?_
 have⟨bx,el⟩:=aT.f2 h8 dj
 obtain⟨aQ,aA,aR,aB,bz,dy,dz⟩:=aT.G 1 5
 have bz:ek.eval (.tmp 5)=vv (cleanV v) aQ aA aR aB:=bz
 have⟨aU,dA⟩:=nw2 bw bu dt
 refine sS9 bx bz aU fun em bA aV dB=>?_
 have dD:=dy.fr aU aV
 have dE:=dz.fr aU aV
 have dF:=dB hne16.symm dA
 have dG:=dx.tR aV
 refine du _ _ <| wk fun fq dH=>?_
 refine wk fun fs dI=>?_
 refine wA tr2 [] 29 [ve (pv q9),ve (iv ((cleanV v).k))] bv ?_ ?_
 exact .F bx<| .J 0 isAgg3 bA .nil
 refine aftI bv dw dG fun ft fu bB dJ dK aJ aW=>?_
 have⟨en,eo⟩:=aW.f2 bx el
 have dk:=aW.g 1 7
 have⟨dL,dM,dN,dO⟩:=nw4 aJ bA dF dD dE
 refine dI _ _<| wb<| wk fun fv dP=>?_
 refine wA tr2 [] 29 [ve (.bool (decide (((cleanV v).k)=2))),ve (.bool (decide (((cleanV v).k)=2)))] bB ?_ ?_
 exact .H dk (r_eql rfl)<| .B 0 .nil
 refine aftI bB dJ dK fun fw fy aK bC bD aL aM=>?_
 have⟨dl,dm,dn⟩:=aM.f3 en eo dk
 have dp:=aM.g 1 8
 have⟨bE,bF,dQ,dR⟩:=nw4 aL dL dM dN dO
 refine dP _ _ ?_
 rcases bc (decide (((cleanV v).k)=2)) with ab|ab
 have ca:=oT ab
 have dS:=hB dp ab
 refine wt dS<| wk fun fz dT=>?_
 refine wp_g0 [true,true,true,false,false] [(3,false),(4,true)] 29
  [ve (.pointer (some ⟨q9,6,none⟩)),ve (iv ((cleanV v).ref)),(fun (v_:Value) (W:World)=>∃ (aC:Option Addr) (aD:Nat),v_=.agg #[.bool (decide (((cleanV v).ref) < 0)),sv aC (canon (((cleanV v).ref)).natAbs) aD]∧SRow W .u32 aC (canon (((cleanV v).ref)).natAbs) aD),vt,vt] aK (.eq (.eq (.cons (fun _ _ _ n ⟨_,_,e,h⟩=>⟨_,_,e,h.new_ n⟩) (.tt (.tt .nil))))) ?_ ?_
 refine .F dl<| .J 0 isAgg3 bE ?_
 refine .o1 (tkC rfl (noG rfl) rfl fun _ w hn k=>(by
  refine ⟨#[iv ((cleanV v).ref)],_,args1 (k.eq1 1 11 rfl),fun w=>by kernel_rfl,bOf_c ((cleanV v).ref) _ (by omega) (by omega),?_⟩
  rintro e w' ⟨ep,er,rfl,hmo0,hm⟩
  exact⟨_,rfl,hm,⟨ep,er,rfl,hmo0⟩⟩)) ?_
 exact .off<| .off .nil
 refine aftI aK bC bD fun bG fA bH dU dV dW bI=>?_
 have dq:=bI.f1 dm
 obtain⟨aI,ao,a1,dX⟩:=bI.G 2 12
 have a1:bG.eval (.tmp 12)=.agg #[.bool (decide (((cleanV v).ref) < 0)),sv aI (canon (((cleanV v).ref)).natAbs) ao]:=a1
 have bJ:=bF.new_ dW
 refine sS6 dq a1 bJ fun fB cc a3 eA=>?_
 have ce:=dX.fr bJ a3
 have cf:=dV.tR a3
 refine sP (v:=iv 0) rfl bH dU fun dY eB ch ag d0=>?_
 have⟨dZ,eO⟩:=ag.q2 dq a1
 refine dT _ _<| wp_ret (ret_k ch (v:=.tuple #[.agg #[.bool (decide (((cleanV v).ref) < 0)),sv aI (canon (((cleanV v).ref)).natAbs) ao],iv 0]) (res_ct rfl dZ d0 (l_two isAgg26 sizeOf26 cc)) ?_)
 have ae:(bigintV v).2.1=(canon (((cleanV v).ref)).natAbs):=by first|rfl|(simp only [bigintV,ab,bsm] <;> rfl)|(exfalso; omega)
 exact⟨aI,ao,(by show Ending.returned (.tuple #[.agg #[.bool (decide (((cleanV v).ref) < 0)),sv aI (canon (((cleanV v).ref)).natAbs) ao],iv 0])=Ending.returned (.tuple #[.agg #[.bool ((bigintV v).1),sv aI ((bigintV v).2.1) ao],iv ((bigintV v).2.2)]); (first|rfl|(simp only [bigintV,ab,ae,bsm] <;> rfl)|(exfalso; omega))),(by rw [ae]; exact ce),cf⟩
 have ca:=oF ab
 have ci:=hB dp ab
 refine wf ci<| wk fun eP cj=>?_
 refine wA tr2 [] 29 [ve (.bool (decide (((cleanV v).k)=4))),ve (.bool (decide (((cleanV v).k)=4)))] aK ?_ ?_
 exact .H dn (r_eql rfl)<| .B 0 .nil
 refine aftI aK bC bD fun eQ eR ar a4 a5 au av=>?_
 have⟨bK,bL,bM⟩:=av.f3 dl dm dn
 have bN:=av.g 1 13
 have⟨a6,a7,a8,cl⟩:=nw4 au bE bF dQ dR
 refine cj _ _ ?_
 rcases bc (decide (((cleanV v).k)=4)) with aa|aa
 have bO:=oT aa
 have cm:=hB bN aa
 refine wt cm<| wk fun eS cn=>?_
 refine wp_g0 [true,true,true,false,false] [(3,false),(4,true)] 29
  [ve (.pointer (some ⟨q9,3,none⟩)),ve (.agg #[.bool ((cleanV v).neg),sv aQ ((cleanV v).mag) aA]),(fun (v_:Value) (W:World)=>∃ (aE:Option Addr) (aF:Nat),v_=.agg #[.bool ((cleanV v).neg),sv aE ((cleanV v).mag) aF]∧SRow W .u32 aE ((cleanV v).mag) aF),vt,vt] ar (.eq (.eq (.cons (fun _ _ _ n ⟨_,_,e,h⟩=>⟨_,_,e,h.new_ n⟩) (.tt (.tt .nil))))) ?_ ?_
 refine .F bK<| .K6 0 a6 ?_
 refine .o1 (tkC rfl (noG rfl) rfl fun _ w hn k=>(by
  refine ⟨#[.agg #[.bool ((cleanV v).neg),sv aQ ((cleanV v).mag) aA]],_,args1 (k.eq1 1 16 rfl),fun w=>by kernel_rfl,cown_c ((cleanV v).neg) _ ((cleanV v).mag) _ _ (a8.new_ hn) (by first|omega|(simp only [List.length_nil,List.length_take,List.length_drop]; omega)|(simp only [List.length_cons,List.length_nil]; omega)),?_⟩
  rintro e w' ⟨es,et,rfl,hmo0,hm⟩
  exact⟨_,rfl,hm,⟨es,et,rfl,hmo0⟩⟩)) ?_
 exact .off<| .off .nil
 refine aftI ar a4 a5 fun aX eT a9 co cp cq ba=>?_
 have bP:=ba.f1 bL
 obtain⟨ap,ah,aN,cr⟩:=ba.G 2 17
 have aN:aX.eval (.tmp 17)=.agg #[.bool ((cleanV v).neg),sv ap ((cleanV v).mag) ah]:=aN
 have bb:=a7.new_ cq
 refine sS6 bP aN bb fun eU ct bd eC=>?_
 have cw:=cr.fr bb bd
 have cx:=cp.tR bd
 refine sP (v:=iv 0) rfl a9 co fun d1 eD cy ai d3=>?_
 have⟨d2,eW⟩:=ai.q2 bP aN
 refine cn _ _<| wp_ret (ret_k cy (v:=.tuple #[.agg #[.bool ((cleanV v).neg),sv ap ((cleanV v).mag) ah],iv 0]) (res_ct rfl d2 d3 (l_two isAgg26 sizeOf26 ct)) ?_)
 have ae:(bigintV v).2.1=((cleanV v).mag):=by first|rfl|(simp only [bigintV,ab,aa,bsm] <;> rfl)|(exfalso; omega)
 exact⟨ap,ah,(by show Ending.returned (.tuple #[.agg #[.bool ((cleanV v).neg),sv ap ((cleanV v).mag) ah],iv 0])=Ending.returned (.tuple #[.agg #[.bool ((bigintV v).1),sv ap ((bigintV v).2.1) ah],iv ((bigintV v).2.2)]); (first|rfl|(simp only [bigintV,ab,aa,ae,bsm] <;> rfl)|(exfalso; omega))),(by rw [ae]; exact cw),cx⟩
 have bO:=oF aa
 have cz:=hB bN aa
 refine wf cz<| wk fun eX cA=>?_
 refine wA tr2 [] 29 [ve (.bool (decide (((cleanV v).k)=5))),ve (.bool (decide (((cleanV v).k)=5)))] ar ?_ ?_
 exact .H bM (r_eql rfl)<| .B 0 .nil
 refine aftI ar a4 a5 fun eY eZ aw be bf ax ay=>?_
 have⟨d4,bR,d5⟩:=ay.f3 bK bL bM
 have bS:=ay.g 1 18
 have⟨cB,bg,eE,cC⟩:=nw4 ax a6 a7 a8 cl
 refine cA _ _ ?_
 rcases bc (decide (((cleanV v).k)=5)) with ac|ac
 have bT:=oT ac
 have cD:=hB bS ac
 refine wt cD<| wk fun e0 cE=>?_
 refine wp_g0 [true,true,true,true,true,false,false] [(5,false),(6,true)] 29
  [ve (.pointer (some ⟨q9,5,none⟩)),ve (sv aR ((cleanV v).s) aB),(fun (v_:Value) (W:World)=>∃ (am:Option Addr) (an:Nat),v_=.tuple #[.agg #[.bool (decide ((parsedZ ((cleanV v).s)).1 < 0)),sv am (canon ((parsedZ ((cleanV v).s)).1).natAbs) an],iv ((parsedZ ((cleanV v).s)).2)]∧SRow W .u32 am (canon ((parsedZ ((cleanV v).s)).1).natAbs) an),(fun (v_:Value) (W:World)=>∃ (aG:Option Addr) (aH:Nat),v_=.agg #[.bool (decide ((parsedZ ((cleanV v).s)).1 < 0)),sv aG (canon ((parsedZ ((cleanV v).s)).1).natAbs) aH]∧SRow W .u32 aG (canon ((parsedZ ((cleanV v).s)).1).natAbs) aH),ve (iv ((parsedZ ((cleanV v).s)).2)),vt,vt] aw (.eq (.eq (.cons (fun _ _ _ n ⟨_,_,e,h⟩=>⟨_,_,e,h.new_ n⟩) (.cons (fun _ _ _ n ⟨_,_,e,h⟩=>⟨_,_,e,h.new_ n⟩) (.eq (.tt (.tt .nil))))))) ?_ ?_
 refine .F d4<| .J 0 isAgg27 cB ?_
 refine .o1 (tkC rfl (noG rfl) rfl fun _ w hn k=>(by
  refine ⟨#[sv aR ((cleanV v).s) aB],_,args1 (k.eq1 1 21 rfl),fun w=>by kernel_rfl,cparsed_c _ ((cleanV v).s) _ _ (cC.new_ hn) hvv.clean.units (by first|omega|(simp only [List.length_nil,List.length_take,List.length_drop]; omega)|(simp only [List.length_cons,List.length_nil]; omega)),?_⟩
  rintro e w' ⟨eu,ev,rfl,hmo0,hm⟩
  exact⟨_,rfl,hm,⟨eu,ev,rfl,hmo0⟩⟩)) ?_
 refine .o1 (tk rfl rfl fun _ w hn k=>(by
  obtain⟨ew,ex,ey,d6⟩:=k.G 2 22
  exact⟨_,v_extract rfl ey rfl,⟨ew,ex,rfl,d6⟩⟩)) ?_
 refine .o1 (tk rfl rfl fun _ w hn k=>(by
  obtain⟨fC,fD,ez,e1⟩:=k.G 2 22
  exact⟨_,v_extract rfl ez rfl,rfl⟩)) ?_
 exact .off<| .off .nil
 refine aftI aw be bf fun aY e2 bh cF cG cH aO=>?_
 have bU:=aO.f1 bR
 obtain⟨aq,aj,aP,cI⟩:=aO.G 3 23
 have aP:aY.eval (.tmp 23)=.agg #[.bool (decide ((parsedZ ((cleanV v).s)).1 < 0)),sv aq (canon ((parsedZ ((cleanV v).s)).1).natAbs) aj]:=aP
 have bV:=aO.g 4 24
 have bi:=bg.new_ cH
 refine sS6 bU aP bi fun e3 cJ bj eF=>?_
 have cL:=cI.fr bi bj
 have cM:=cG.tR bj
 refine sP bV bh cF fun d7 eG cN af d9=>?_
 have⟨d8,e5,e6⟩:=af.q3 bU aP bV
 refine cE _ _<| wp_ret (ret_k cN (v:=.tuple #[.agg #[.bool (decide ((parsedZ ((cleanV v).s)).1 < 0)),sv aq (canon ((parsedZ ((cleanV v).s)).1).natAbs) aj],iv ((parsedZ ((cleanV v).s)).2)]) (res_ct rfl d8 d9 (l_two isAgg26 sizeOf26 cJ)) ?_)
 have ae:(bigintV v).2.1=(canon ((parsedZ ((cleanV v).s)).1).natAbs):=by first|rfl|(simp only [bigintV,ab,aa,ac,bsm] <;> rfl)|(exfalso; omega)
 exact⟨aq,aj,(by show Ending.returned (.tuple #[.agg #[.bool (decide ((parsedZ ((cleanV v).s)).1 < 0)),sv aq (canon ((parsedZ ((cleanV v).s)).1).natAbs) aj],iv ((parsedZ ((cleanV v).s)).2)])=Ending.returned (.tuple #[.agg #[.bool ((bigintV v).1),sv aq ((bigintV v).2.1) aj],iv ((bigintV v).2.2)]); (first|rfl|(simp only [bigintV,ab,aa,ac,ae,bsm] <;> rfl)|(exfalso; omega))),(by rw [ae]; exact cL),cM⟩
 have bT:=oF ac
 have cO:=hB bS ac
 refine wf cO<| wk fun e7 cP=>?_
 refine wA tr2 [] 29 [ve (.bool (decide (((cleanV v).k)=6))),ve (.bool (decide (((cleanV v).k)=6)))] aw ?_ ?_
 exact .H d5 (r_eql rfl)<| .B 0 .nil
 refine aftI aw be bf fun e8 e9 az bk bl cQ bm=>?_
 have bX:=bm.f1 bR
 have bY:=bm.g 1 25
 have bn:=bg.new_ cQ
 refine cP _ _ ?_
 rcases bc (decide (((cleanV v).k)=6)) with ad|ad
 have bZ:=oT ad
 have cR:=hB bY ad
 refine wt cR<| wk fun fa cS=>?_
 refine wA [true,false,false] [(1,false),(2,true)] 29 [ve (.agg #[.bool false,sv none ([]) 0]),vt,vt] az ?_ ?_
 exact .Z<| .off<| .off .nil
 refine aftI az bk bl fun b0 fb bo cT cU cV bp=>?_
 have b1:=bp.f1 bX
 have b2:=bp.g 0 27
 have cW:=bn.new_ cV
 refine sS6 b1 b2 cW fun fc cX cY eH=>?_
 have c0:=cU.tR cY
 refine sP (v:=iv 3) rfl bo cT fun ea eI c1 ak ec=>?_
 have⟨eb,fe⟩:=ak.q2 b1 b2
 refine cS _ _<| wp_ret (ret_k c1 (v:=.tuple #[.agg #[.bool false,sv none ([]) 0],iv 3]) (res_ct rfl eb ec (l_two isAgg26 sizeOf26 cX)) ?_)
 have ae:(bigintV v).2.1=[]:=by first|rfl|(simp only [bigintV,ab,aa,ac,ad,bsm] <;> rfl)|(exfalso; omega)
 exact⟨none,0,(by show Ending.returned (.tuple #[.agg #[.bool false,sv none ([]) 0],iv 3])=Ending.returned (.tuple #[.agg #[.bool ((bigintV v).1),sv none ((bigintV v).2.1) 0],iv ((bigintV v).2.2)]); (first|rfl|(simp only [bigintV,ab,aa,ac,ad,ae,bsm] <;> rfl)|(exfalso; omega))),(by rw [ae]; exact (SRow.nil _ _)),c0⟩
 have bZ:=oF ad
 have c3:=hB bY ad
 refine wf c3<| ws<| dH _ _<| wk fun ff c5=>?_
 refine wA [true,false,false] [(1,false),(2,true)] 29 [ve (.agg #[.bool false,sv none ([]) 0]),vt,vt] az ?_ ?_
 exact .Z<| .off<| .off .nil
 refine aftI az bk bl fun b4 fg bq c9 da db br=>?_
 have b5:=br.f1 bX
 have b6:=br.g 0 28
 have dc:=bn.new_ db
 refine sS6 b5 b6 dc fun fh dd de eJ=>?_
 have dg:=da.tR de
 refine sP (v:=iv 1) rfl bq c9 fun ed eK dh al ef=>?_
 have⟨ee,fj⟩:=al.q2 b5 b6
 refine c5 _ _<| wp_ret (ret_k dh (v:=.tuple #[.agg #[.bool false,sv none ([]) 0],iv 1]) (res_ct rfl ee ef (l_two isAgg26 sizeOf26 dd)) ?_)
 have ae:(bigintV v).2.1=[]:=by first|rfl|(simp only [bigintV,ab,aa,ac,ad,bsm] <;> rfl)|(exfalso; omega)
 exact⟨none,0,(by show Ending.returned (.tuple #[.agg #[.bool false,sv none ([]) 0],iv 1])=Ending.returned (.tuple #[.agg #[.bool ((bigintV v).1),sv none ((bigintV v).2.1) 0],iv ((bigintV v).2.2)]); (first|rfl|(simp only [bigintV,ab,aa,ac,ad,ae,bsm] <;> rfl)|(exfalso; omega))),(by rw [ae]; exact (SRow.nil _ _)),dg⟩
def ctext_c_P (v:Vl) (Av:Option Addr) (cv:Nat) (Bv:Option Addr) (dv:Nat) (w:World) (en:Ending) (w':World):Prop:=∃ (Ar0:Option Addr) (cr0:Nat),en=.returned (.tuple #[sv Ar0 ((textV v).1) cr0,iv ((textV v).2)])∧SRow w' .u16 Ar0 ((textV v).1) cr0∧New w w'
theorem ctext_c (v:Vl) (Av:Option Addr) (cv:Nat) (Bv:Option Addr) (dv:Nat) (w:World) (hmv:SRow w .u32 Av v.mag cv) (hsv:SRow w .u16 Bv v.s dv) (hvv:VOk v) (HT:ItoaOk w):Calls prog 17 #[vv v Av cv Bv dv] w (ctext_c_P v Av cv Bv dv w):=by
 refine enter_abs func17 rfl fun a0 bh eh hp=>?_
 have bh:a0.tmps.size=38:=bh
 have de:New w w:=Upd.refl _ _
 have hp0:a0.eval (.tmp 0)=vv v Av cv Bv dv:=hp 0 _ rfl
 have hm:=hvv.clean.mlen
 have hsl:=hvv.clean.slen
 have hz1:(textM (Nm.mk (cleanV v).nk (cleanV v).nn)).size≤21:=textM_size (cleanV v).num
 have hz2:=textI_size (b:=(cleanV v).neg) hvv.clean.limbs
 refine wk fun K1 ei=>?_
 refine wB tr3 [] [] 38 [IsNew w 29 (c7 v Av cv Bv dv),ve (sv none ([]) 0),ve (iv 0)] [0] bh ?_ heN ?_
 exact .X hp0<| .c<| .c .nil
 refine aftI bh eh de fun a2 w3 df ej aY gh ek=>?_
 obtain⟨q9,h8,dl,bD⟩:=ek.G 0 1
 have fL:=Nat.le_trans de.size dl
 refine ei _ _ <| wk fun gi dm=>?_
 refine wp_g0 [true,true,false] [(2,false)] 38
  [ve (vv v Av cv Bv dv),
  (VP (cleanV v)),vt] df (.eq (.cons (fun _ _ _ n ⟨_,_,_,_,e,h,i⟩=>⟨_,_,_,_,e,h.new_ n,i.new_ n⟩) (.tt .nil))) ?_ ?_
 refine .L9 h8 bD ?_
 refine .o1 (tkC rfl (noG rfl) rfl fun _ w hn k=>(by
  refine ⟨#[vv v Av cv Bv dv],_,args1 (k.eq1 0 4 rfl),fun w=>by kernel_rfl,clean_c v _ _ _ _ _ (hmv.new_ (aY.transNew hn)) (hsv.new_ (aY.transNew hn)),?_⟩
  rintro e w' ⟨A1,c2,A3,c4,rfl,hmo0,hmo1,hm⟩
  exact⟨_,rfl,hm,⟨A1,c2,A3,c4,rfl,hmo0,hmo1⟩⟩)) ?_
 exact .off .nil
 refine aftI df ej aY fun el gj bE dn dp dq bF=>?_
 have bG:=bF.f1 h8
 obtain⟨aW,ay,az,aA,bH,dr,ds⟩:=bF.G 1 5
 have bH:el.eval (.tmp 5)=vv (cleanV v) aW ay az aA:=bH
 have aZ:=bD.new_ dq
 refine sS9 bG bH aZ fun em bI a1 fM=>?_
 have du:=dr.fr aZ a1
 have dw:=ds.fr aZ a1
 have dx:=dp.tR a1
 refine dm _ _ <| wk fun gl dy=>?_
 refine wk fun gm dz=>?_
 refine wA tr2 [] 38 [ve (pv q9),ve (iv ((cleanV v).k))] bE ?_ ?_
 exact .F bG<| .J 0 isAgg3 bI .nil
 refine aftI bE dn dx fun gn go bJ dA dB a3 bK=>?_
 have en:=bK.f1 bG
 have dg:=bK.g 1 7
 have⟨dC,dD,dE⟩:=nw3 a3 bI du dw
 refine dz _ _<| wb<| wk fun gp dF=>?_
 refine wA tr2 [] 38 [ve (.bool (decide (((cleanV v).k)=0))),ve (.bool (decide (((cleanV v).k)=0)))] bJ ?_ ?_
 exact .H dg (r_eql rfl)<| .B 0 .nil
 refine aftI bJ dA dB fun gq bi aI bL a4 a5 a6=>?_
 have⟨eo,dh⟩:=a6.f2 en dg
 have di:=a6.g 1 8
 have⟨dG,dH,dI⟩:=nw3 a5 dC dD dE
 refine dF _ _ ?_
 rcases bc (decide (((cleanV v).k)=0)) with ac|ac
 have b7:=oT ac
 have dJ:=hB di ac
 refine wt dJ<| wk fun gr dK=>?_
 refine wp_g0 [true,true,true] [] 38
  [(OP bi.heap.size 79 .u16 (asc ⟨#[117,110,100,101,102,105,110,101,100]⟩)),
  (OP bi.heap.size 79 .u16 (asc ⟨#[117,110,100,101,102,105,110,101,100]⟩)),ve (iv 0)] aI (.cons (fun _ _ _ n ⟨_,_,e,h⟩=>⟨_,_,e,h.new_ n⟩) (.cons (fun _ _ _ n ⟨_,_,e,h⟩=>⟨_,_,e,h.new_ n⟩) (.eq .nil))) ?_ ?_
 refine .o1 (tkC rfl (noG rfl) rfl fun _ w hn k=>(by
  refine ⟨#[.string ⟨#[117,110,100,101,102,105,110,101,100]⟩],_,args1 rfl,fun w=>by kernel_rfl,ascii_c ⟨#[117,110,100,101,102,105,110,101,100]⟩ _ (by first|omega|(show (_:Nat)≤_; decide)),?_⟩
  rintro e w' ⟨eu,ev,rfl,hmo0,hm⟩
  exact⟨_,rfl,hm,⟨eu,ev,rfl,(hmo0.more hn.size)⟩⟩)) ?_
 refine .o1 (tk rfl rfl fun _ w hn k=>(by
  obtain⟨ew,ex,ey,dL⟩:=k.G 0 10
  exact⟨_,v_assign rfl ey,⟨ew,ex,rfl,dL⟩⟩)) ?_
 exact .c .nil
 refine aftI aI bL a4 fun ez gs fN dM dN fO bM=>?_
 obtain⟨aX,aB,bN,dO⟩:=bM.G 1 2
 have bN:ez.eval (.tmp 2)=sv aX (asc ⟨#[117,110,100,101,102,105,110,101,100]⟩) aB:=bN
 have eA:=bM.g 2 3
 have dP:=dO.more a4.size
 refine dK _ _<| wp_ret (ret_k dM (v:=.tuple #[sv aX (asc ⟨#[117,110,100,101,102,105,110,101,100]⟩) aB,iv 0]) (res_tt rfl bN eA _) ?_)
 have ad:(textV v).1=(asc ⟨#[117,110,100,101,102,105,110,101,100]⟩):=by first|rfl|(simp only [textV,ac,bsm] <;> rfl)|(exfalso; omega)
 exact⟨aX,aB,(by show Ending.returned (.tuple #[sv aX (asc ⟨#[117,110,100,101,102,105,110,101,100]⟩) aB,iv 0])=Ending.returned (.tuple #[sv aX ((textV v).1) aB,iv ((textV v).2)]); (first|rfl|(simp only [textV,ac,ad,bsm] <;> rfl)|(exfalso; omega))),(by rw [ad]; exact dP.row),dN⟩
 have b7:=oF ac
 have dQ:=hB di ac
 refine wf dQ<| wk fun gt dR=>?_
 refine wA tr2 [] 38 [ve (.bool (decide (((cleanV v).k)=1))),ve (.bool (decide (((cleanV v).k)=1)))] aI ?_ ?_
 exact .H dh (r_eql rfl)<| .B 0 .nil
 refine aftI aI bL a4 fun gu bj aJ bO a7 a8 a9=>?_
 have⟨eB,dj⟩:=a9.f2 eo dh
 have dk:=a9.g 1 11
 have⟨dS,dT,dU⟩:=nw3 a8 dG dH dI
 refine dR _ _ ?_
 rcases bc (decide (((cleanV v).k)=1)) with aa|aa
 have bP:=oT aa
 have b8:=hB dk aa
 refine wt b8<| wk fun fP b9=>?_
 refine wp_g0 [true,true,true] [] 38
  [(OP bj.heap.size 79 .u16 (asc ⟨#[110,117,108,108]⟩)),
  (OP bj.heap.size 79 .u16 (asc ⟨#[110,117,108,108]⟩)),ve (iv 0)] aJ (.cons (fun _ _ _ n ⟨_,_,e,h⟩=>⟨_,_,e,h.new_ n⟩) (.cons (fun _ _ _ n ⟨_,_,e,h⟩=>⟨_,_,e,h.new_ n⟩) (.eq .nil))) ?_ ?_
 refine .o1 (tkC rfl (noG rfl) rfl fun _ w hn k=>(by
  refine ⟨#[.string ⟨#[110,117,108,108]⟩],_,args1 rfl,fun w=>by kernel_rfl,ascii_c ⟨#[110,117,108,108]⟩ _ (by first|omega|(show (_:Nat)≤_; decide)),?_⟩
  rintro e w' ⟨az,eG,rfl,hmo0,hm⟩
  exact⟨_,rfl,hm,⟨az,eG,rfl,(hmo0.more hn.size)⟩⟩)) ?_
 refine .o1 (tk rfl rfl fun _ w hn k=>(by
  obtain⟨eH,eI,eJ,dV⟩:=k.G 0 13
  exact⟨_,v_assign rfl eJ,⟨eH,eI,rfl,dV⟩⟩)) ?_
 exact .c .nil
 refine aftI aJ bO a7 fun dW fQ fu ca cb fv bk=>?_
 obtain⟨aC,aj,ba,cc⟩:=bk.G 1 2
 have ba:dW.eval (.tmp 2)=sv aC (asc ⟨#[110,117,108,108]⟩) aj:=ba
 have dX:=bk.g 2 3
 have cd:=cc.more a7.size
 refine b9 _ _<| wp_ret (ret_k ca (v:=.tuple #[sv aC (asc ⟨#[110,117,108,108]⟩) aj,iv 0]) (res_tt rfl ba dX _) ?_)
 have ad:(textV v).1=(asc ⟨#[110,117,108,108]⟩):=by first|rfl|(simp only [textV,ac,aa,bsm] <;> rfl)|(exfalso; omega)
 exact⟨aC,aj,(by show Ending.returned (.tuple #[sv aC (asc ⟨#[110,117,108,108]⟩) aj,iv 0])=Ending.returned (.tuple #[sv aC ((textV v).1) aj,iv ((textV v).2)]); (first|rfl|(simp only [textV,ac,aa,ad,bsm] <;> rfl)|(exfalso; omega))),(by rw [ad]; exact cd.row),cb⟩
 have bP:=oF aa
 have ce:=hB dk aa
 refine wf ce<| wk fun fR cf=>?_
 refine wA tr2 [] 38 [ve (.bool (decide (((cleanV v).k)=2))),ve (.bool (decide (((cleanV v).k)=2)))] aJ ?_ ?_
 exact .H dj (r_eql rfl)<| .B 0 .nil
 refine aftI aJ bO a7 fun fS fT ap bl bm aK aL=>?_
 have⟨bQ,bR⟩:=aL.f2 eB dj
 have bS:=aL.g 1 14
 have⟨bn,ch,ci⟩:=nw3 aK dS dT dU
 refine cf _ _ ?_
 rcases bc (decide (((cleanV v).k)=2)) with ab|ab
 have bT:=oT ab
 have cj:=hB bS ab
 refine wt cj<| wk fun fU cl=>wk fun fV cm=>?_
 refine wA tr3 [] 38 [ve (.pointer (some ⟨q9,6,none⟩)),ve (iv ((cleanV v).ref)),ve (.bool (decide (((cleanV v).ref)=1)))] ap ?_ ?_
 exact .F bQ<| .J 0 isAgg3 bn<| .b 1 (r_eql rfl) .nil
 refine aftI ap bl bm fun fW ai aq bo ar fw cn=>?_
 have bU:=cn.g 2 18
 refine cm _ _ ?_
 rcases bc (decide (((cleanV v).ref)=1)) with ag|ag
 have bV:=oT ag
 have co:=hB bU ag
 refine wt co<| wk fun fX cp=>?_
 refine wp_g0 [true,true,true] [] 38
  [(OP ai.heap.size 79 .u16 (asc ⟨#[116,114,117,101]⟩)),
  (OP ai.heap.size 79 .u16 (asc ⟨#[116,114,117,101]⟩)),ve (iv 0)] aq (.cons (fun _ _ _ n ⟨_,_,e,h⟩=>⟨_,_,e,h.new_ n⟩) (.cons (fun _ _ _ n ⟨_,_,e,h⟩=>⟨_,_,e,h.new_ n⟩) (.eq .nil))) ?_ ?_
 refine .o1 (tkC rfl (noG rfl) rfl fun _ w hn k=>(by
  refine ⟨#[.string ⟨#[116,114,117,101]⟩],_,args1 rfl,fun w=>by kernel_rfl,ascii_c ⟨#[116,114,117,101]⟩ _ (by first|omega|(show (_:Nat)≤_; decide)),?_⟩
  rintro e w' ⟨eO,eP,rfl,hmo0,hm⟩
  exact⟨_,rfl,hm,⟨eO,eP,rfl,(hmo0.more hn.size)⟩⟩)) ?_
 refine .o1 (tk rfl rfl fun _ w hn k=>(by
  obtain⟨eQ,eR,eS,dY⟩:=k.G 0 19
  exact⟨_,v_assign rfl eS,⟨eQ,eR,rfl,dY⟩⟩)) ?_
 exact .c .nil
 refine aftI aq bo ar fun dZ fY fy cq cr fz bp=>?_
 obtain⟨aD,ak,bb,ct⟩:=bp.G 1 2
 have bb:dZ.eval (.tmp 2)=sv aD (asc ⟨#[116,114,117,101]⟩) ak:=bb
 have d0:=bp.g 2 3
 have cu:=ct.more ar.size
 refine cp _ _<| wp_ret (ret_k cq (v:=.tuple #[sv aD (asc ⟨#[116,114,117,101]⟩) ak,iv 0]) (res_tt rfl bb d0 _) ?_)
 have ad:(textV v).1=(asc ⟨#[116,114,117,101]⟩):=by first|rfl|(simp only [textV,ac,aa,ab,ag,bsm] <;> rfl)|(exfalso; omega)
 exact⟨aD,ak,(by show Ending.returned (.tuple #[sv aD (asc ⟨#[116,114,117,101]⟩) ak,iv 0])=Ending.returned (.tuple #[sv aD ((textV v).1) ak,iv ((textV v).2)]); (first|rfl|(simp only [textV,ac,aa,ab,ag,ad,bsm] <;> rfl)|(exfalso; omega))),(by rw [ad]; exact cu.row),cr⟩
 have bV:=oF ag
 have cw:=hB bU ag
 refine wf cw<| ws<| cl _ _<| wk fun fZ cx=>?_
 refine wp_g0 [true,true,true] [] 38
  [(OP ai.heap.size 79 .u16 (asc ⟨#[102,97,108,115,101]⟩)),
  (OP ai.heap.size 79 .u16 (asc ⟨#[102,97,108,115,101]⟩)),ve (iv 0)] aq (.cons (fun _ _ _ n ⟨_,_,e,h⟩=>⟨_,_,e,h.new_ n⟩) (.cons (fun _ _ _ n ⟨_,_,e,h⟩=>⟨_,_,e,h.new_ n⟩) (.eq .nil))) ?_ ?_
 refine .o1 (tkC rfl (noG rfl) rfl fun _ w hn k=>(by
  refine ⟨#[.string ⟨#[102,97,108,115,101]⟩],_,args1 rfl,fun w=>by kernel_rfl,ascii_c ⟨#[102,97,108,115,101]⟩ _ (by first|omega|(show (_:Nat)≤_; decide)),?_⟩
  rintro e w' ⟨eX,eY,rfl,hmo0,hm⟩
  exact⟨_,rfl,hm,⟨eX,eY,rfl,(hmo0.more hn.size)⟩⟩)) ?_
 refine .o1 (tk rfl rfl fun _ w hn k=>(by
  obtain⟨eZ,e0,e1,d1⟩:=k.G 0 20
  exact⟨_,v_assign rfl e1,⟨eZ,e0,rfl,d1⟩⟩)) ?_
 exact .c .nil
 refine aftI aq bo ar fun d2 f0 fA cy cz fB bq=>?_
 obtain⟨aE,al,bd,cA⟩:=bq.G 1 2
 have bd:d2.eval (.tmp 2)=sv aE (asc ⟨#[102,97,108,115,101]⟩) al:=bd
 have d3:=bq.g 2 3
 have cB:=cA.more ar.size
 refine cx _ _<| wp_ret (ret_k cy (v:=.tuple #[sv aE (asc ⟨#[102,97,108,115,101]⟩) al,iv 0]) (res_tt rfl bd d3 _) ?_)
 have ad:(textV v).1=(asc ⟨#[102,97,108,115,101]⟩):=by first|rfl|(simp only [textV,ac,aa,ab,ag,bsm] <;> rfl)|(exfalso; omega)
 exact⟨aE,al,(by show Ending.returned (.tuple #[sv aE (asc ⟨#[102,97,108,115,101]⟩) al,iv 0])=Ending.returned (.tuple #[sv aE ((textV v).1) al,iv ((textV v).2)]); (first|rfl|(simp only [textV,ac,aa,ab,ag,ad,bsm] <;> rfl)|(exfalso; omega))),(by rw [ad]; exact cB.row),cz⟩
 have bT:=oF ab
 have cC:=hB bS ab
 refine wf cC<| wk fun f1 cD=>?_
 refine wA tr2 [] 38 [ve (.bool (decide (((cleanV v).k)=3))),ve (.bool (decide (((cleanV v).k)=3)))] ap ?_ ?_
 exact .H bR (r_eql rfl)<| .B 0 .nil
 refine aftI ap bl bm fun f2 aM au br av aN aO=>?_
 have⟨bW,bX⟩:=aO.f2 bQ bR
 have bY:=aO.g 1 21
 have⟨bs,cE,cF⟩:=nw3 aN bn ch ci
 refine cD _ _ ?_
 rcases bc (decide (((cleanV v).k)=3)) with ae|ae
 have bZ:=oT ae
 have cG:=hB bY ae
 refine wt cG<| wk fun f3 cH=>?_
 refine wp_g0 [true,true,true,true,true,true] [] 38
  [ve (.pointer (some ⟨q9,1,none⟩)),ve (nv (Nm.mk ((cleanV v).nk) ((cleanV v).nn))),ve (.string (textM (Nm.mk ((cleanV v).nk) ((cleanV v).nn)))),
  (OP aM.heap.size 79 .u16 (asc (textM (Nm.mk ((cleanV v).nk) ((cleanV v).nn))))),
  (OP aM.heap.size 79 .u16 (asc (textM (Nm.mk ((cleanV v).nk) ((cleanV v).nn))))),ve (iv 0)] au (.eq (.eq (.eq (.cons (fun _ _ _ n ⟨_,_,e,h⟩=>⟨_,_,e,h.new_ n⟩) (.cons (fun _ _ _ n ⟨_,_,e,h⟩=>⟨_,_,e,h.new_ n⟩) (.eq .nil)))))) ?_ ?_
 refine .F bW<| .K2 0 bs<| .C 1 (fun m=>ntext_c (Nm.mk ((cleanV v).nk) ((cleanV v).nn)) _ (HT.up (av.transNew m))) ?_
 refine .o1 (tkC rfl (noG rfl) rfl fun _ w hn k=>(by
  refine ⟨#[.string (textM (Nm.mk ((cleanV v).nk) ((cleanV v).nn)))],_,args1 (k.eq1 2 25 rfl),fun w=>by kernel_rfl,ascii_c (textM (Nm.mk ((cleanV v).nk) ((cleanV v).nn))) _ (by first|omega|(show (_:Nat)≤_; decide)),?_⟩
  rintro e w' ⟨e6,e7,rfl,hmo0,hm⟩
  exact⟨_,rfl,hm,⟨e6,e7,rfl,(hmo0.more hn.size)⟩⟩)) ?_
 refine .o1 (tk rfl rfl fun _ w hn k=>(by
  obtain⟨e8,e9,fa,d4⟩:=k.G 3 26
  exact⟨_,v_assign rfl fa,⟨e8,e9,rfl,d4⟩⟩)) ?_
 exact .c .nil
 refine aftI au br av fun d5 f4 fC cI cJ fD bt=>?_
 obtain⟨aF,am,be,cK⟩:=bt.G 4 2
 have be:d5.eval (.tmp 2)=sv aF (asc (textM (Nm.mk ((cleanV v).nk) ((cleanV v).nn)))) am:=be
 have d6:=bt.g 5 3
 have cL:=cK.more av.size
 refine cH _ _<| wp_ret (ret_k cI (v:=.tuple #[sv aF (asc (textM (Nm.mk ((cleanV v).nk) ((cleanV v).nn)))) am,iv 0]) (res_tt rfl be d6 _) ?_)
 have ad:(textV v).1=(asc (textM (Nm.mk ((cleanV v).nk) ((cleanV v).nn)))):=by first|rfl|(simp only [textV,ac,aa,ab,ae,bsm] <;> rfl)|(exfalso; omega)
 exact⟨aF,am,(by show Ending.returned (.tuple #[sv aF (asc (textM (Nm.mk ((cleanV v).nk) ((cleanV v).nn)))) am,iv 0])=Ending.returned (.tuple #[sv aF ((textV v).1) am,iv ((textV v).2)]); (first|rfl|(simp only [textV,ac,aa,ab,ae,ad,bsm] <;> rfl)|(exfalso; omega))),(by rw [ad]; exact cL.row),cJ⟩
 have bZ:=oF ae
 have cM:=hB bY ae
 refine wf cM<| wk fun f5 cN=>?_
 refine wA tr2 [] 38 [ve (.bool (decide (((cleanV v).k)=4))),ve (.bool (decide (((cleanV v).k)=4)))] au ?_ ?_
 exact .H bX (r_eql rfl)<| .B 0 .nil
 refine aftI au br av fun f6 aP aw bu aQ aR aS=>?_
 have⟨b0,d7⟩:=aS.f2 bW bX
 have b1:=aS.g 1 27
 have⟨bv,bw,cO⟩:=nw3 aR bs cE cF
 refine cN _ _ ?_
 rcases bc (decide (((cleanV v).k)=4)) with af|af
 have b2:=oT af
 have cP:=hB b1 af
 refine wt cP<| wk fun f7 cQ=>?_
 refine wp_g0 [true,true,true,true,true,true] [] 38
  [ve (.pointer (some ⟨q9,3,none⟩)),ve (.agg #[.bool ((cleanV v).neg),sv aW ((cleanV v).mag) ay]),ve (.string (strOfNums (textI (goodI ((cleanV v).neg) ((cleanV v).mag))))),
  (OP aP.heap.size 79 .u16 (asc (strOfNums (textI (goodI ((cleanV v).neg) ((cleanV v).mag)))))),
  (OP aP.heap.size 79 .u16 (asc (strOfNums (textI (goodI ((cleanV v).neg) ((cleanV v).mag)))))),ve (iv 0)] aw (.eq (.eq (.eq (.cons (fun _ _ _ n ⟨_,_,e,h⟩=>⟨_,_,e,h.new_ n⟩) (.cons (fun _ _ _ n ⟨_,_,e,h⟩=>⟨_,_,e,h.new_ n⟩) (.eq .nil)))))) ?_ ?_
 refine .F b0<| .K6 0 bv<| .C 1 (fun m=>bText_c ((cleanV v).neg) _ ((cleanV v).mag) _ _ (bw.new_ m) hvv.clean.limbs) ?_
 refine .o1 (tkC rfl (noG rfl) rfl fun _ w hn k=>(by
  refine ⟨#[.string (strOfNums (textI (goodI ((cleanV v).neg) ((cleanV v).mag))))],_,args1 (k.eq1 2 31 rfl),fun w=>by kernel_rfl,ascii_c (strOfNums (textI (goodI ((cleanV v).neg) ((cleanV v).mag)))) _ (by first|omega|(show (_:Nat)≤_; decide)),?_⟩
  rintro e w' ⟨ff,fg,rfl,hmo0,hm⟩
  exact⟨_,rfl,hm,⟨ff,fg,rfl,(hmo0.more hn.size)⟩⟩)) ?_
 refine .o1 (tk rfl rfl fun _ w hn k=>(by
  obtain⟨fh,fi,fj,d8⟩:=k.G 3 32
  exact⟨_,v_assign rfl fj,⟨fh,fi,rfl,d8⟩⟩)) ?_
 exact .c .nil
 refine aftI aw bu aQ fun d9 f8 fE cR cS fF bx=>?_
 obtain⟨aG,an,bf,cT⟩:=bx.G 4 2
 have bf:d9.eval (.tmp 2)=sv aG (asc (strOfNums (textI (goodI ((cleanV v).neg) ((cleanV v).mag))))) an:=bf
 have ea:=bx.g 5 3
 have cU:=cT.more aQ.size
 refine cQ _ _<| wp_ret (ret_k cR (v:=.tuple #[sv aG (asc (strOfNums (textI (goodI ((cleanV v).neg) ((cleanV v).mag))))) an,iv 0]) (res_tt rfl bf ea _) ?_)
 have ad:(textV v).1=(asc (strOfNums (textI (goodI ((cleanV v).neg) ((cleanV v).mag))))):=by first|rfl|(simp only [textV,ac,aa,ab,ae,af,bsm] <;> rfl)|(exfalso; omega)
 exact⟨aG,an,(by show Ending.returned (.tuple #[sv aG (asc (strOfNums (textI (goodI ((cleanV v).neg) ((cleanV v).mag))))) an,iv 0])=Ending.returned (.tuple #[sv aG ((textV v).1) an,iv ((textV v).2)]); (first|rfl|(simp only [textV,ac,aa,ab,ae,af,ad,bsm] <;> rfl)|(exfalso; omega))),(by rw [ad]; exact cU.row),cS⟩
 have b2:=oF af
 have cV:=hB b1 af
 refine wf cV<| wk fun f9 cW=>?_
 refine wA tr2 [] 38 [ve (.bool (decide (((cleanV v).k)=5))),ve (.bool (decide (((cleanV v).k)=5)))] aw ?_ ?_
 exact .H d7 (r_eql rfl)<| .B 0 .nil
 refine aftI aw bu aQ fun ga aT ax bz aU aV bA=>?_
 have eb:=bA.f1 b0
 have b3:=bA.g 1 33
 have⟨cX,fG,cY⟩:=nw3 aV bv bw cO
 refine cW _ _ ?_
 rcases bc (decide (((cleanV v).k)=5)) with ah|ah
 have b4:=oT ah
 have cZ:=hB b3 ah
 refine wt cZ<| wk fun gb c0=>?_
 refine wp_g0 [true,true,true,true,true] [] 38
  [ve (.pointer (some ⟨q9,5,none⟩)),ve (sv az ((cleanV v).s) aA),
  (OP aT.heap.size 79 .u16 ((cleanV v).s)),
  (OP aT.heap.size 79 .u16 ((cleanV v).s)),ve (iv 0)] ax (.eq (.eq (.cons (fun _ _ _ n ⟨_,_,e,h⟩=>⟨_,_,e,h.new_ n⟩) (.cons (fun _ _ _ n ⟨_,_,e,h⟩=>⟨_,_,e,h.new_ n⟩) (.eq .nil))))) ?_ ?_
 refine .F eb<| .J 0 isAgg27 cX ?_
 refine .o1 (tkC rfl (noG rfl) rfl fun _ w hn k=>(by
  refine ⟨#[sv az ((cleanV v).s) aA],_,args1 (k.eq1 1 36 rfl),fun w=>by kernel_rfl,clone16_c _ ((cleanV v).s) _ _ (cY.new_ hn) (by first|omega|(simp only [List.length_nil,List.length_take,List.length_drop]; omega)|(simp only [List.length_cons,List.length_nil]; omega)),?_⟩
  rintro e w' ⟨fo,fp,rfl,hmo0,hm⟩
  exact⟨_,rfl,hm,⟨fo,fp,rfl,(hmo0.more hn.size)⟩⟩)) ?_
 refine .o1 (tk rfl rfl fun _ w hn k=>(by
  obtain⟨fq,fs,ft,ec⟩:=k.G 2 37
  exact⟨_,v_assign rfl ft,⟨fq,fs,rfl,ec⟩⟩)) ?_
 exact .c .nil
 refine aftI ax bz aU fun ed gc fH c1 c3 fI bB=>?_
 obtain⟨aH,ao,bg,c5⟩:=bB.G 3 2
 have bg:ed.eval (.tmp 2)=sv aH ((cleanV v).s) ao:=bg
 have ee:=bB.g 4 3
 have c9:=c5.more aU.size
 refine c0 _ _<| wp_ret (ret_k c1 (v:=.tuple #[sv aH ((cleanV v).s) ao,iv 0]) (res_tt rfl bg ee _) ?_)
 have ad:(textV v).1=((cleanV v).s):=by first|rfl|(simp only [textV,ac,aa,ab,ae,af,ah,bsm] <;> rfl)|(exfalso; omega)
 exact⟨aH,ao,(by show Ending.returned (.tuple #[sv aH ((cleanV v).s) ao,iv 0])=Ending.returned (.tuple #[sv aH ((textV v).1) ao,iv ((textV v).2)]); (first|rfl|(simp only [textV,ac,aa,ab,ae,af,ah,ad,bsm] <;> rfl)|(exfalso; omega))),(by rw [ad]; exact c9.row),c3⟩
 have b4:=oF ah
 have da:=hB b3 ah
 refine wf da<| ws<| dy _ _<| wk fun gd db=>?_
 refine wA tr2 [] 38 [ve (sv none ([]) 0),ve (iv 3)] ax ?_ ?_
 exact .c<| .c .nil
 refine aftI ax bz aU fun gf gg fJ dc dd fK bC=>?_
 have ef:=bC.g 0 2
 have eg:=bC.g 1 3
 refine db _ _<| wp_ret (ret_k dc (v:=.tuple #[sv none ([]) 0,iv 3]) (res_tt rfl ef eg _) ?_)
 have ad:(textV v).1=[]:=by first|rfl|(simp only [textV,ac,aa,ab,ae,af,ah,bsm] <;> rfl)|(exfalso; omega)
 exact⟨none,0,(by show Ending.returned (.tuple #[sv none ([]) 0,iv 3])=Ending.returned (.tuple #[sv none ((textV v).1) 0,iv ((textV v).2)]); (first|rfl|(simp only [textV,ac,aa,ab,ae,af,ah,ad,bsm] <;> rfl)|(exfalso; omega))),(by rw [ad]; exact (SRow.nil _ _)),dd⟩
theorem parts5 {ac:Act} {i1 i2 i3 i4 i5:Nat} {x1 x2 x3 x4 x5:Operand} {u1 u2 u3 u4 u5:Value} (h1:ac.eval x1=u1) (h2:ac.eval x2=u2) (h3:ac.eval x3=u3) (h4:ac.eval x4=u4) (h5:ac.eval x5=u5):((#[(i1,x1),(i2,x2),(i3,x3),(i4,x4),(i5,x5)]:Array (Nat × Operand)).map fun (i,x)=>(i,ac.eval x))=[(i1,u1),(i2,u2),(i3,u3),(i4,u4),(i5,u5)].toArray:=by simp [h1,h2,h3,h4,h5]
theorem rkind_c (j:Int) (w:World):Calls prog 72 #[iv j] w (IsRet (nv (Nm.mk j 0)) w):=by
 refine enter_abs func72 rfl fun a0 aa av hp=>?_
 have aa:a0.tmps.size=5:=aa
 have ad:New w w:=Upd.refl _ _
 have hp0:a0.eval (.tmp 0)=iv j:=hp 0 _ rfl
 refine wk fun K1 aw=>?_
 refine wB tr1 [] [] 5 [IsNew w 23 [iv 0,iv 0]] [0] aa ?_ heN ?_
 exact .Y .nil
 refine aftI aa av ad fun a2 w3 ae ax ah aC af=>?_
 have h8:=af.f1 hp0
 obtain⟨aD,h9,ai,aj⟩:=af.G 0 2
 have az:=Nat.le_trans ad.size ai
 refine aw _ _ <| wk fun aE ak=>?_
 refine wA [true,true,false] [(2,false)] 5 [ve (iv j),ve (nv (Nm.mk j 0)),vt] ae ?_ ?_
 exact .M h8<| .T (fun k=>v_build (ps:=[(0,iv j)]) rfl (parts1 (k.eq1 0 3 rfl)) (by kernel_rfl))<| .off .nil
 refine aftI ae ax ah fun aF aG aA al am an ab=>?_
 have ag:=ab.f1 h9
 have ay:=ab.g 1 4
 have ao:=aj.new_ an
 refine sS2 ag ay ao fun aH ap aq aB=>?_
 have au:=am.tR aq
 refine ak _ _<| wp_ret (ret_k al (v:=nv (Nm.mk j 0)) (res_c rfl ag (l_two isAgg23 sizeOf23 ap)) ?_)
 exact⟨rfl,au⟩
theorem rNaN_c  (w:World):Calls prog 35 #[] w (IsRet (nv (Nm.mk 2 0)) w):=by
 refine enter_abs func35 rfl fun a0 aa au hp=>?_
 have aa:a0.tmps.size=2:=aa
 have ad:New w w:=Upd.refl _ _
 refine wk fun K1 av=>?_
 refine wB tr1 [] [] 2 [IsNew w 23 [iv 0,iv 0]] [0] aa ?_ heN ?_
 exact .Y .nil
 refine aftI aa au ad fun a2 w3 ae aw ag aC ax=>?_
 obtain⟨q9,h8,ah,ai⟩:=ax.G 0 0
 have az:=Nat.le_trans ad.size ah
 refine av _ _ <| wk fun aD aj=>?_
 refine wA [true,false] [(1,false)] 2 [ve (nv (Nm.mk 2 0)),vt] ae ?_ ?_
 exact .D (fun k=>args1 rfl) (fun n=>rkind_c 2 _)<| .off .nil
 refine aftI ae aw ag fun aE aF aA ak al am ab=>?_
 have af:=ab.f1 h8
 have ay:=ab.g 0 1
 have an:=ai.new_ am
 refine sS2 af ay an fun aG ao ap aB=>?_
 have ar:=al.tR ap
 refine aj _ _<| wp_ret (ret_k ak (v:=nv (Nm.mk 2 0)) (res_c rfl af (l_two isAgg23 sizeOf23 ao)) ?_)
 exact⟨rfl,ar⟩
theorem rmay_c0 (a:Nm) (w:World):Calls prog 116 #[nv a] w (IsRet (.bool (rMayB a)) w):=by
 refine enter_abs func116 rfl fun a0 ae aE hp=>?_
 have ae:a0.tmps.size=27:=ae
 have ak:New w w:=Upd.refl _ _
 have hp0:a0.eval (.tmp 0)=nv a:=hp 0 _ rfl
 refine wk fun K1 aF=>?_
 refine wB tr2 [] [] 27 [IsNew w 23 [iv a.k,iv a.n],vF] [0] ae ?_ heN ?_
 exact .X hp0<| .c .nil
 refine aftI ae aE ak fun a2 w3 al aG an aP aH=>?_
 obtain⟨q9,h8,ao,af⟩:=aH.G 0 1
 have aK:=Nat.le_trans ak.size ao
 refine aF _ _ <| wk fun aQ ap=>?_
 refine wk fun aR aq=>?_
 refine wA tr3 [] 27 [ve (pv q9),ve (iv a.k),ve (.bool (decide (a.k=0)))] al ?_ ?_
 exact .F h8<| .J 0 isAgg3 af<| .b 1 (r_eql rfl) .nil
 refine aftI al aG an fun aS aT ac ag ah ar ai=>?_
 have ad:=ai.f1 h8
 have am:=ai.g 2 5
 have ab:=af.new_ ar
 refine aq _ _ ?_
 rcases bc (decide (a.k=0)) with aa|aa
 have aj:=oT aa
 have au:=hB am aa
 refine wt au<| wk fun aU av=>?_
 refine wA tr9 [] 27 [ve (.pointer (some ⟨q9,1,none⟩)),ve (iv a.n),ve (.bool (!decide (a.n < -9007199254740991))),ve (.bool (!decide (a.n < -9007199254740991))),ve (gq (!decide (a.n < -9007199254740991)) (.pointer (some ⟨q9,1,none⟩))),ve (gq (!decide (a.n < -9007199254740991)) (iv a.n)),ve (gq (!decide (a.n < -9007199254740991)) (.bool (decide (a.n≤9007199254740991)))),ve (.bool ((!decide (a.n < -9007199254740991)) && (decide (a.n≤9007199254740991)))),ve (.bool ((!decide (a.n < -9007199254740991)) && (decide (a.n≤9007199254740991))))] ac ?_ ?_
 exact .F ad<| .J 0 isAgg3 ab<| .b 1 (r_geqK rfl)<| .N 2<| .Q (fun k=>g0 (k.eq1 3 9 rfl)) (fun hG p k=>v_field rfl (k.fx 1 ad) (fun w=>rfl))<| .Q (fun k=>g0 (k.eq1 3 9 rfl)) (fun hG p k=>v_load rfl (cT hG (k.eq1 4 10 rfl)) (l_one isAgg3 ((ab.new_ p).cell 1)))<| .Q (fun k=>g0 (k.eq1 3 9 rfl)) (fun hG p k=>v_bin rfl (cT hG (k.eq1 5 11 rfl)) rfl (fun _=>rfl) (r_leqK rfl))<| .O 3 6<| .B 7 .nil
 refine aftI ac ag ah fun aV aW aL aw ax aM ay=>?_
 have aI:=ay.g 8 2
 refine av _ _<| wp_ret (ret_k aw (v:=.bool ((!decide (a.n < -9007199254740991)) && (decide (a.n≤9007199254740991)))) (res_t rfl aI _) ?_)
 refine ⟨?_,ax⟩
 show Ending.returned (.bool ((!decide (a.n < -9007199254740991)) && (decide (a.n≤9007199254740991))))=Ending.returned (.bool (rMayB a))
 first|rfl|(simp only [rMayB,aa,bsm] <;> rfl)|(exfalso; omega)
 have aj:=oF aa
 have az:=hB am aa
 refine wf az<| ws<| ap _ _<| wk fun aX aA=>?_
 refine wA tr14 [] 27 [ve (pv q9),ve (iv a.k),ve (.bool (!decide (a.k < 1))),ve (.bool (!decide (a.k < 1))),ve (gq (!decide (a.k < 1)) (pv q9)),ve (gq (!decide (a.k < 1)) (iv a.k)),ve (gq (!decide (a.k < 1)) (.bool (decide (a.k≤4)))),ve (.bool ((!decide (a.k < 1)) && (decide (a.k≤4)))),ve (.bool ((!decide (a.k < 1)) && (decide (a.k≤4)))),ve (gq ((!decide (a.k < 1)) && (decide (a.k≤4))) (.pointer (some ⟨q9,1,none⟩))),ve (gq ((!decide (a.k < 1)) && (decide (a.k≤4))) (iv a.n)),ve (gq ((!decide (a.k < 1)) && (decide (a.k≤4))) (.bool (decide (a.n=0)))),ve (.bool (((!decide (a.k < 1)) && (decide (a.k≤4))) && (decide (a.n=0)))),ve (.bool (((!decide (a.k < 1)) && (decide (a.k≤4))) && (decide (a.n=0))))] ac ?_ ?_
 exact .F ad<| .J 0 isAgg3 ab<| .b 1 (r_geqK rfl)<| .N 2<| .Q (fun k=>g0 (k.eq1 3 17 rfl)) (fun hG p k=>v_field rfl (k.fx 1 ad) (fun w=>rfl))<| .Q (fun k=>g0 (k.eq1 3 17 rfl)) (fun hG p k=>v_load rfl (cT hG (k.eq1 4 18 rfl)) (l_one isAgg3 ((ab.new_ p).cell 0)))<| .Q (fun k=>g0 (k.eq1 3 17 rfl)) (fun hG p k=>v_bin rfl (cT hG (k.eq1 5 19 rfl)) rfl (fun _=>rfl) (r_leqK rfl))<| .O 3 6<| .N 7<| .Q (fun k=>g0 (k.eq1 8 22 rfl)) (fun hG p k=>v_field rfl (k.fx 1 ad) (fun w=>rfl))<| .Q (fun k=>g0 (k.eq1 8 22 rfl)) (fun hG p k=>v_load rfl (cT hG (k.eq1 9 23 rfl)) (l_one isAgg3 ((ab.new_ p).cell 1)))<| .Q (fun k=>g0 (k.eq1 8 22 rfl)) (fun hG p k=>v_bin rfl (cT hG (k.eq1 10 24 rfl)) rfl (fun _=>rfl) (r_eql rfl))<| .O 8 11<| .B 12 .nil
 refine aftI ac ag ah fun aY aZ aN aB aC aO aD=>?_
 have aJ:=aD.g 13 2
 refine aA _ _<| wp_ret (ret_k aB (v:=.bool (((!decide (a.k < 1)) && (decide (a.k≤4))) && (decide (a.n=0)))) (res_t rfl aJ _) ?_)
 refine ⟨?_,aC⟩
 show Ending.returned (.bool (((!decide (a.k < 1)) && (decide (a.k≤4))) && (decide (a.n=0))))=Ending.returned (.bool (rMayB a))
 first|rfl|(simp only [rMayB,aa,bsm] <;> rfl)|(exfalso; omega)
theorem rmay_c (a:Nm) (w:World):Calls Tryz.prog 116 #[nv a] w (IsRet (.bool (nmayB a)) w):=by
  have h:=rmay_c0 a w 
  rw [rMay_eq] at h
  exact h
theorem rgood_c (a:Nm) (w:World):Calls prog 96 #[nv a] w (IsRet (nv (asM a)) w):=by
 refine enter_abs func96 rfl fun a0 ad aY hp=>?_
 have ad:a0.tmps.size=7:=ad
 have ae:New w w:=Upd.refl _ _
 have hp0:a0.eval (.tmp 0)=nv a:=hp 0 _ rfl
 refine wk fun K1 aZ=>?_
 refine wB tr2 [] [] 7 [IsNew w 23 [iv a.k,iv a.n],IsNew w 23 [iv 0,iv 0]] [0,1] ad ?_ heN ?_
 exact .X hp0<| .Y .nil
 refine aftI ad aY ae fun a2 w3 ap a1 ax be af=>?_
 obtain⟨q9,h8,ay,ag⟩:=af.G 0 1
 obtain⟨a3,aq,az,aA⟩:=af.G 1 2
 have hne16:=af.ne 0 1 1 2 h8 aq
 have a7:=Nat.le_trans ae.size ay
 have a8:=Nat.le_trans ae.size az
 refine aZ _ _ <| wk fun bf aB=>?_
 refine wk fun bg aC=>?_
 refine wA tr2 [] 7 [ve (nv a),ve (.bool (nmayB a))] ap ?_ ?_
 exact .L2 h8 ag<| .C 0 (fun m=>rmay_c a _) .nil
 refine aftI ap a1 ax fun bh bi ab ah ai aj ac=>?_
 have⟨a4,ar⟩:=ac.f2 h8 aq
 have au:=ac.g 1 4
 have⟨aD,ak⟩:=nw2 aj ag aA
 refine aC _ _ ?_
 rcases bc (nmayB a) with aa|aa
 have aE:=hB au aa
 refine wt aE<| wk fun bj aF=>?_
 refine wA [true,false] [(1,false)] 7 [ve (nv a),vt] ab ?_ ?_
 exact .L2 a4 aD<| .off .nil
 refine aftI ab ah ai fun bk bl a9 aG aH aI al=>?_
 have av:=al.f1 ar
 have a5:=al.g 0 5
 have aJ:=ak.new_ aI
 refine sS2 av a5 aJ fun bm aK aL ba=>?_
 have aN:=aH.tR aL
 refine aF _ _<| wp_ret (ret_k aG (v:=nv a) (res_c rfl av (l_two isAgg23 sizeOf23 aK)) ?_)
 refine ⟨?_,aN⟩
 show Ending.returned (nv a)=Ending.returned (nv (asM a))
 first|rfl|(simp only [asM,aa,bsm] <;> rfl)|(exfalso; omega)
 have aO:=hB au aa
 refine wf aO<| ws<| aB _ _<| wk fun bo aP=>?_
 refine wA [true,false] [(1,false)] 7 [ve (nv (Nm.mk 2 0)),vt] ab ?_ ?_
 exact .D (fun k=>args1 rfl) (fun m=>rkind_c 2 _)<| .off .nil
 refine aftI ab ah ai fun bp bq bb aQ aR aS am=>?_
 have aw:=am.f1 ar
 have a6:=am.g 0 6
 have aT:=ak.new_ aS
 refine sS2 aw a6 aT fun br aU aV bd=>?_
 have aX:=aR.tR aV
 refine aP _ _<| wp_ret (ret_k aQ (v:=nv (Nm.mk 2 0)) (res_c rfl aw (l_two isAgg23 sizeOf23 aU)) ?_)
 refine ⟨?_,aX⟩
 show Ending.returned (nv (Nm.mk 2 0))=Ending.returned (nv (asM a))
 first|rfl|(simp only [asM,aa,bsm] <;> rfl)|(exfalso; omega)
theorem rnan_c (a:Nm) (w:World):Calls prog 119 #[nv a] w (IsRet (.bool (decide (a.k=2))) w):=by
 refine enter_abs func119 rfl fun a0 aa ak hp=>?_
 have aa:a0.tmps.size=6:=aa
 have ab:New w w:=Upd.refl _ _
 have hp0:a0.eval (.tmp 0)=nv a:=hp 0 _ rfl
 refine wk fun K1 al=>?_
 refine wB tr2 [] [] 6 [IsNew w 23 [iv a.k,iv a.n],vF] [0] aa ?_ heN ?_
 exact .X hp0<| .c .nil
 refine aftI aa ak ab fun a2 w3 ac am ad au an=>?_
 obtain⟨q9,h8,ae,af⟩:=an.G 0 1
 have ap:=Nat.le_trans ab.size ae
 refine al _ _ <| wk fun av ag=>?_
 refine wA tr4 [] 6 [ve (pv q9),ve (iv a.k),ve (.bool (decide (a.k=2))),ve (.bool (decide (a.k=2)))] ac ?_ ?_
 exact .F h8<| .J 0 isAgg3 af<| .b 1 (r_eql rfl)<| .B 2 .nil
 refine aftI ac am ad fun aw ax aq ah ai ar aj=>?_
 have ao:=aj.g 3 2
 refine ag _ _<| wp_ret (ret_k ah (v:=.bool (decide (a.k=2))) (res_t rfl ao _) ?_)
 exact⟨rfl,ai⟩
theorem rinf_c (a:Nm) (w:World):Calls prog 120 #[nv a] w (IsRet (.bool (infB a.k)) w):=by
 refine enter_abs func120 rfl fun a0 ac aq hp=>?_
 have ac:a0.tmps.size=11:=ac
 have ah:New w w:=Upd.refl _ _
 have hp0:a0.eval (.tmp 0)=nv a:=hp 0 _ rfl
 refine wk fun K1 ar=>?_
 refine wB tr2 [] [] 11 [IsNew w 23 [iv a.k,iv a.n],vF] [0] ac ?_ heN ?_
 exact .X hp0<| .c .nil
 refine aftI ac aq ah fun a2 w3 ad ai ae aC au=>?_
 obtain⟨q9,h8,aj,ab⟩:=au.G 0 1
 have ax:=Nat.le_trans ah.size aj
 refine ar _ _ <| wk fun aD af=>?_
 rcases bc (decide (a.k=3)) with aa|aa
 have ag:=oT aa
 refine wA tr9 [] 11 [ve (pv q9),ve (iv a.k),vT,vT,vU,vU,vU,vT,vT] ad ?_ ?_
 exact .F h8<| .J 0 isAgg3 ab<| .b 1 (r_eql aa)<| .N 2<| .S<| .S<| .S<| .T (fun k=>v_pickT rfl (k.eq1 3 6 rfl) rfl)<| .B 7 .nil
 refine aftI ad ai ae fun aE aF ay ak al az am=>?_
 have av:=am.g 8 2
 refine af _ _<| wp_ret (ret_k ak (v:=.bool true) (res_t rfl av _) ?_)
 refine ⟨?_,al⟩
 show Ending.returned (.bool true)=Ending.returned (.bool (infB a.k))
 first|rfl|(simp only [infB,aa,bsm] <;> rfl)|(exfalso; omega)
 have ag:=oF aa
 refine wA tr9 [] 11 [ve (pv q9),ve (iv a.k),vF,vF,ve (pv q9),ve (iv a.k),ve (.bool (decide (a.k=4))),ve (.bool (decide (a.k=4))),ve (.bool (decide (a.k=4)))] ad ?_ ?_
 exact .F h8<| .J 0 isAgg3 ab<| .b 1 (r_eql aa)<| .N 2<| .gf (fun k=>k.eq1 3 6 rfl) (fun k=>k.fx 1 h8)<| .V (fun p k=>v_load rfl (k.eq1 4 7 rfl) (l_one isAgg3 ((ab.new_ p).cell 0)))<| .V (fun p k=>v_bin rfl (k.eq1 5 8 rfl) rfl (fun _=>rfl) (r_eql rfl))<| .T (fun k=>v_pickF rfl (k.eq1 3 6 rfl) (k.eq1 6 9 rfl))<| .B 7 .nil
 refine aftI ad ai ae fun aG aH aA an ao aB ap=>?_
 have aw:=ap.g 8 2
 refine af _ _<| wp_ret (ret_k an (v:=.bool (decide (a.k=4))) (res_t rfl aw _) ?_)
 refine ⟨?_,ao⟩
 show Ending.returned (.bool (decide (a.k=4)))=Ending.returned (.bool (infB a.k))
 first|rfl|(simp only [infB,aa,bsm] <;> rfl)|(exfalso; omega)
theorem rnought_c (a:Nm) (w:World):Calls prog 121 #[nv a] w (IsRet (.bool (noughtB a)) w):=by
 refine enter_abs func121 rfl fun a0 ab al hp=>?_
 have ab:a0.tmps.size=16:=ab
 have ac:New w w:=Upd.refl _ _
 have hp0:a0.eval (.tmp 0)=nv a:=hp 0 _ rfl
 refine wk fun K1 am=>?_
 refine wB tr2 [] [] 16 [IsNew w 23 [iv a.k,iv a.n],vF] [0] ab ?_ heN ?_
 exact .X hp0<| .c .nil
 refine aftI ab al ac fun a2 w3 ad an ae av ao=>?_
 obtain⟨q9,h8,af,aa⟩:=ao.G 0 1
 have aq:=Nat.le_trans ac.size af
 refine am _ _ <| wk fun aw ag=>?_
 refine wA tr14 [] 16 [ve (pv q9),ve (iv a.k),ve (.bool (decide (a.k=1))),ve (.bool (decide (a.k=1))),ve (gq (!(decide (a.k=1))) (pv q9)),ve (gq (!(decide (a.k=1))) (iv a.k)),ve (gq (!(decide (a.k=1))) (.bool (decide (a.k=0)))),ve (gq (!(decide (a.k=1))) (.bool (decide (a.k=0)))),ve (gq ((!(decide (a.k=1))) && (decide (a.k=0))) (.pointer (some ⟨q9,1,none⟩))),ve (gq ((!(decide (a.k=1))) && (decide (a.k=0))) (iv a.n)),ve (gq ((!(decide (a.k=1))) && (decide (a.k=0))) (.bool (decide (a.n=0)))),ve (gq (!(decide (a.k=1))) (.bool ((decide (a.k=0)) && (decide (a.n=0))))),ve (.bool ((decide (a.k=1)) || ((decide (a.k=0)) && (decide (a.n=0))))),ve (.bool ((decide (a.k=1)) || ((decide (a.k=0)) && (decide (a.n=0)))))] ad ?_ ?_
 exact .F h8<| .J 0 isAgg3 aa<| .b 1 (r_eql rfl)<| .N 2<| .Q (fun k=>g0' (k.eq1 3 6 rfl)) (fun hG p k=>v_field rfl (k.fx 1 h8) (fun w=>rfl))<| .Q (fun k=>g0' (k.eq1 3 6 rfl)) (fun hG p k=>v_load rfl (cT hG (k.eq1 4 7 rfl)) (l_one isAgg3 ((aa.new_ p).cell 0)))<| .Q (fun k=>g0' (k.eq1 3 6 rfl)) (fun hG p k=>v_bin rfl (cT hG (k.eq1 5 8 rfl)) rfl (fun _=>rfl) (r_eql rfl))<| .Q (fun k=>g0' (k.eq1 3 6 rfl)) (fun hG p k=>v_move rfl (cT hG (k.eq1 6 9 rfl)))<| .Q (fun k=>g1 (k.eq1 7 10 rfl)) (fun hG p k=>v_field rfl (k.fx 1 h8) (fun w=>rfl))<| .Q (fun k=>g1 (k.eq1 7 10 rfl)) (fun hG p k=>v_load rfl (cT hG (k.eq1 8 11 rfl)) (l_one isAgg3 ((aa.new_ p).cell 1)))<| .Q (fun k=>g1 (k.eq1 7 10 rfl)) (fun hG p k=>v_bin rfl (cT hG (k.eq1 9 12 rfl)) rfl (fun _=>rfl) (r_eql rfl))<| .Q (fun k=>g0' (k.eq1 3 6 rfl)) (fun hG p k=>v_and rfl (cT hG (k.eq1 7 10 rfl)) (fun hg=>(cT (aj hG hg) (k.eq1 10 13 rfl))) rfl)<| .W 3 11<| .B 12 .nil
 refine aftI ad an ae fun ax ay ar ah ai au ak=>?_
 have ap:=ak.g 13 2
 refine ag _ _<| wp_ret (ret_k ah (v:=.bool ((decide (a.k=1)) || ((decide (a.k=0)) && (decide (a.n=0))))) (res_t rfl ap _) ?_)
 refine ⟨?_,ai⟩
 show Ending.returned (.bool ((decide (a.k=1)) || ((decide (a.k=0)) && (decide (a.n=0)))))=Ending.returned (.bool (noughtB a))
 first|rfl|(simp only [noughtB,bsm] <;> rfl)|(exfalso; omega)
theorem rbelow_c (a:Nm) (w:World):Calls prog 123 #[nv a] w (IsRet (.bool (belowB a)) w):=by
 refine enter_abs func123 rfl fun a0 ab al hp=>?_
 have ab:a0.tmps.size=21:=ab
 have ac:New w w:=Upd.refl _ _
 have hp0:a0.eval (.tmp 0)=nv a:=hp 0 _ rfl
 refine wk fun K1 am=>?_
 refine wB tr2 [] [] 21 [IsNew w 23 [iv a.k,iv a.n],vF] [0] ab ?_ heN ?_
 exact .X hp0<| .c .nil
 refine aftI ab al ac fun a2 w3 ad an ae av ao=>?_
 obtain⟨q9,h8,af,aa⟩:=ao.G 0 1
 have aq:=Nat.le_trans ac.size af
 refine am _ _ <| wk fun aw ag=>?_
 refine wA tr19 [] 21 [ve (pv q9),ve (iv a.k),ve (.bool (decide (a.k=1))),ve (.bool (decide (a.k=1))),ve (gq (!(decide (a.k=1))) (pv q9)),ve (gq (!(decide (a.k=1))) (iv a.k)),ve (gq (!(decide (a.k=1))) (.bool (decide (a.k=4)))),ve (.bool ((decide (a.k=1)) || (decide (a.k=4)))),ve (.bool ((decide (a.k=1)) || (decide (a.k=4)))),ve (gq (!((decide (a.k=1)) || (decide (a.k=4)))) (pv q9)),ve (gq (!((decide (a.k=1)) || (decide (a.k=4)))) (iv a.k)),ve (gq (!((decide (a.k=1)) || (decide (a.k=4)))) (.bool (decide (a.k=0)))),ve (gq (!((decide (a.k=1)) || (decide (a.k=4)))) (.bool (decide (a.k=0)))),ve (gq ((!((decide (a.k=1)) || (decide (a.k=4)))) && (decide (a.k=0))) (.pointer (some ⟨q9,1,none⟩))),ve (gq ((!((decide (a.k=1)) || (decide (a.k=4)))) && (decide (a.k=0))) (iv a.n)),ve (gq ((!((decide (a.k=1)) || (decide (a.k=4)))) && (decide (a.k=0))) (.bool (decide (a.n < 0)))),ve (gq (!((decide (a.k=1)) || (decide (a.k=4)))) (.bool ((decide (a.k=0)) && (decide (a.n < 0))))),ve (.bool (((decide (a.k=1)) || (decide (a.k=4))) || ((decide (a.k=0)) && (decide (a.n < 0))))),ve (.bool (((decide (a.k=1)) || (decide (a.k=4))) || ((decide (a.k=0)) && (decide (a.n < 0)))))] ad ?_ ?_
 exact .F h8<| .J 0 isAgg3 aa<| .b 1 (r_eql rfl)<| .N 2<| .Q (fun k=>g0' (k.eq1 3 6 rfl)) (fun hG p k=>v_field rfl (k.fx 1 h8) (fun w=>rfl))<| .Q (fun k=>g0' (k.eq1 3 6 rfl)) (fun hG p k=>v_load rfl (cT hG (k.eq1 4 7 rfl)) (l_one isAgg3 ((aa.new_ p).cell 0)))<| .Q (fun k=>g0' (k.eq1 3 6 rfl)) (fun hG p k=>v_bin rfl (cT hG (k.eq1 5 8 rfl)) rfl (fun _=>rfl) (r_eql rfl))<| .W 3 6<| .N 7<| .Q (fun k=>g0' (k.eq1 8 11 rfl)) (fun hG p k=>v_field rfl (k.fx 1 h8) (fun w=>rfl))<| .Q (fun k=>g0' (k.eq1 8 11 rfl)) (fun hG p k=>v_load rfl (cT hG (k.eq1 9 12 rfl)) (l_one isAgg3 ((aa.new_ p).cell 0)))<| .Q (fun k=>g0' (k.eq1 8 11 rfl)) (fun hG p k=>v_bin rfl (cT hG (k.eq1 10 13 rfl)) rfl (fun _=>rfl) (r_eql rfl))<| .Q (fun k=>g0' (k.eq1 8 11 rfl)) (fun hG p k=>v_move rfl (cT hG (k.eq1 11 14 rfl)))<| .Q (fun k=>g1 (k.eq1 12 15 rfl)) (fun hG p k=>v_field rfl (k.fx 1 h8) (fun w=>rfl))<| .Q (fun k=>g1 (k.eq1 12 15 rfl)) (fun hG p k=>v_load rfl (cT hG (k.eq1 13 16 rfl)) (l_one isAgg3 ((aa.new_ p).cell 1)))<| .Q (fun k=>g1 (k.eq1 12 15 rfl)) (fun hG p k=>v_bin rfl (cT hG (k.eq1 14 17 rfl)) rfl (fun _=>rfl) (r_lssK rfl))<| .Q (fun k=>g0' (k.eq1 8 11 rfl)) (fun hG p k=>v_and rfl (cT hG (k.eq1 12 15 rfl)) (fun hg=>(cT (aj hG hg) (k.eq1 15 18 rfl))) rfl)<| .W 8 16<| .B 17 .nil
 refine aftI ad an ae fun ax ay ar ah ai au ak=>?_
 have ap:=ak.g 18 2
 refine ag _ _<| wp_ret (ret_k ah (v:=.bool (((decide (a.k=1)) || (decide (a.k=4))) || ((decide (a.k=0)) && (decide (a.n < 0))))) (res_t rfl ap _) ?_)
 refine ⟨?_,ai⟩
 show Ending.returned (.bool (((decide (a.k=1)) || (decide (a.k=4))) || ((decide (a.k=0)) && (decide (a.n < 0)))))=Ending.returned (.bool (belowB a))
 first|rfl|(simp only [belowB,bsm] <;> rfl)|(exfalso; omega)
theorem rsigned_c (x:Bool) (d:Bool) (w:World):Calls prog 122 #[.bool x,.bool d] w (IsRet (nv (signedR x d)) w):=by
 refine enter_abs func122 rfl fun a0 aj b4 hp=>?_
 have aj:a0.tmps.size=18:=aj
 have bj:New w w:=Upd.refl _ _
 have hp0:a0.eval (.tmp 0)=.bool x:=hp 0 _ rfl
 have hp1:a0.eval (.tmp 1)=.bool d:=hp 1 _ rfl
 refine wk fun K1 b5=>?_
 refine wB tr1 [] [] 18 [IsNew w 23 [iv 0,iv 0]] [0] aj ?_ heN ?_
 exact .Y .nil
 refine aftI aj b4 bj fun a2 w3 ak bk au cI av=>?_
 have⟨h8,h9⟩:=av.f2 hp0 hp1
 obtain⟨cJ,bl,br,aw⟩:=av.G 0 4
 have cl:=Nat.le_trans bj.size br
 refine b5 _ _ <| wk fun cK bs=>?_
 refine wb<| wk fun cL ax=>?_
 rcases bc (x) with aa|aa
 have ay:=hB h8 aa
 refine wA tr5 [] 18 [vT,vT,ve (.bool d),ve (.bool d),ve (.bool d)] ak ?_ ?_
 exact .M ay<| .N 0<| .gm (fun k=>k.eq1 1 7 rfl) (fun k=>k.fx 1 h9)<| .T (fun k=>v_pickT rfl (k.eq1 1 7 rfl) (k.eq1 2 8 rfl))<| .B 3 .nil
 refine aftI ak bk au fun cM cN ae az aA bt af=>?_
 have⟨b6,bm,bn⟩:=af.f3 ay h9 bl
 have bo:=af.g 4 5
 have aB:=aw.new_ bt
 refine ax _ _ ?_
 rcases bc (d) with ab|ab
 have cm:=hB bm ab
 have bu:=hB bo ab
 refine wt bu<| wk fun cO bv=>?_
 refine wA [true,false] [(1,false)] 18 [ve (nv (Nm.mk 4 0)),vt] ae ?_ ?_
 exact .D (fun k=>args1 rfl) (fun n=>rkind_c 4 _)<| .off .nil
 refine aftI ae az aA fun cP cQ cn bw bx bz aC=>?_
 have bp:=aC.f1 bn
 have b7:=aC.g 0 10
 have bA:=aB.new_ bz
 refine sS2 bp b7 bA fun cR bB bC co=>?_
 have bE:=bx.tR bC
 refine bv _ _<| wp_ret (ret_k bw (v:=nv (Nm.mk 4 0)) (res_c rfl bp (l_two isAgg23 sizeOf23 bB)) ?_)
 refine ⟨?_,bE⟩
 show Ending.returned (nv (Nm.mk 4 0))=Ending.returned (nv (signedR x d))
 first|rfl|(simp only [signedR,aa,ab,bsm] <;> rfl)|(exfalso; omega)
 have bF:=hB bm ab
 have bG:=hB bo ab
 refine wf bG<| wk fun cT bH=>?_
 refine wA tr2 [] 18 [vT,vT] ae ?_ ?_
 exact .M b6<| .B 0 .nil
 refine aftI ae az aA fun cU cV aD bI bJ bK ai=>?_
 have⟨cW,b8⟩:=ai.f2 bF bn
 have b9:=ai.g 1 11
 have bL:=aB.new_ bK
 refine bH _ _<| wt b9<| wk fun cX bM=>?_
 refine wA [true,false] [(1,false)] 18 [ve (nv (Nm.mk 3 0)),vt] aD ?_ ?_
 exact .D (fun k=>args1 rfl) (fun n=>rkind_c 3 _)<| .off .nil
 refine aftI aD bI bJ fun cY cZ cp bN bO bP aE=>?_
 have bq:=aE.f1 b8
 have ca:=aE.g 0 13
 have bQ:=bL.new_ bP
 refine sS2 bq ca bQ fun c0 bR bS cq=>?_
 have bU:=bO.tR bS
 refine bM _ _<| wp_ret (ret_k bN (v:=nv (Nm.mk 3 0)) (res_c rfl bq (l_two isAgg23 sizeOf23 bR)) ?_)
 refine ⟨?_,bU⟩
 show Ending.returned (nv (Nm.mk 3 0))=Ending.returned (nv (signedR x d))
 first|rfl|(simp only [signedR,aa,ab,bsm] <;> rfl)|(exfalso; omega)
 have aF:=hB h8 aa
 refine wA tr5 [] 18 [vF,vF,vU,vF,vF] ak ?_ ?_
 exact .M aF<| .N 0<| .S<| .T (fun k=>v_pickF rfl (k.eq1 1 7 rfl) rfl)<| .B 3 .nil
 refine aftI ak bk au fun c2 c3 aG bV bW bX ag=>?_
 have⟨cb,cc,cd⟩:=ag.f3 aF h9 bl
 have ce:=ag.g 4 5
 have bY:=aw.new_ bX
 refine ax _ _<| wf ce<| wk fun cr aP=>?_
 refine wA tr2 [] 18 [vF,vF] aG ?_ ?_
 exact .M cb<| .B 0 .nil
 refine aftI aG bV bW fun ct cu al aQ aR aS ah=>?_
 have⟨bZ,b0⟩:=ah.f2 cc cd
 have b1:=ah.g 1 11
 have aT:=bY.new_ aS
 refine aP _ _<| wf b1<| wk fun cv aU=>?_
 refine wA tr2 [] 18 [ve (.bool d),ve (.bool d)] al ?_ ?_
 exact .M bZ<| .B 0 .nil
 refine aftI al aQ aR fun cw cx ad am an aV ao=>?_
 have aH:=ao.f1 b0
 have aI:=ao.g 1 14
 have ap:=aT.new_ aV
 refine aU _ _ ?_
 rcases bc (d) with ac|ac
 have aW:=hB aI ac
 refine wt aW<| wk fun cy aX=>?_
 refine wA [true,false] [(1,false)] 18 [ve (nv (Nm.mk 1 0)),vt] ad ?_ ?_
 exact .D (fun k=>args1 rfl) (fun n=>rkind_c 1 _)<| .off .nil
 refine aftI ad am an fun cz cA cf aY aZ a1 aq=>?_
 have aJ:=aq.f1 aH
 have b2:=aq.g 0 16
 have a3:=ap.new_ a1
 refine sS2 aJ b2 a3 fun cB a4 a5 ch=>?_
 have a7:=aZ.tR a5
 refine aX _ _<| wp_ret (ret_k aY (v:=nv (Nm.mk 1 0)) (res_c rfl aJ (l_two isAgg23 sizeOf23 a4)) ?_)
 refine ⟨?_,a7⟩
 show Ending.returned (nv (Nm.mk 1 0))=Ending.returned (nv (signedR x d))
 first|rfl|(simp only [signedR,aa,ac,bsm] <;> rfl)|(exfalso; omega)
 have a8:=hB aI ac
 refine wf a8<| ws<| bs _ _<| wk fun cD a9=>?_
 refine wA [true,false] [(1,false)] 18 [ve (nv (Nm.mk 0 0)),vt] ad ?_ ?_
 exact .Z<| .off .nil
 refine aftI ad am an fun cE cF ci ba bb bd ar=>?_
 have aL:=ar.f1 aH
 have b3:=ar.g 0 17
 have be:=ap.new_ bd
 refine sS2 aL b3 be fun cG bf bg cj=>?_
 have bi:=bb.tR bg
 refine a9 _ _<| wp_ret (ret_k ba (v:=nv (Nm.mk 0 0)) (res_c rfl aL (l_two isAgg23 sizeOf23 bf)) ?_)
 refine ⟨?_,bi⟩
 show Ending.returned (nv (Nm.mk 0 0))=Ending.returned (nv (signedR x d))
 first|rfl|(simp only [signedR,aa,ac,bsm] <;> rfl)|(exfalso; omega)
theorem rneg_c0 (a:Nm) (w:World):Calls prog 76 #[nv a] w (IsRet (nv (rNegM a)) w):=by
 refine enter_abs func76 rfl fun a0 aq cb hp=>?_
 have aq:a0.tmps.size=27:=aq
 have aA:New w w:=Upd.refl _ _
 have hp0:a0.eval (.tmp 0)=nv a:=hp 0 _ rfl
 refine wk fun K1 cc=>?_
 refine wB tr2 [] [] 27 [IsNew w 23 [iv a.k,iv a.n],IsNew w 23 [iv 0,iv 0]] [0,1] aq ?_ heN ?_
 exact .X hp0<| .Y .nil
 refine aftI aq cb aA fun a2 w3 bu cd aB cL aC=>?_
 obtain⟨q9,h8,bC,bD⟩:=aC.G 0 1
 obtain⟨bv,bw,bE,aD⟩:=aC.G 1 2
 have hne16:=aC.ne 0 1 1 2 h8 bw
 have cr:=Nat.le_trans aA.size bC
 have ct:=Nat.le_trans aA.size bE
 refine cc _ _ <| wk fun cM bF=>?_
 refine wB [true,true,true,false] [] [(3,false)] 27 [ve (nv a),ve (nv (asM a)),IsNew w3 23 [iv 0,iv 0],vt] [2] bu ?_ heN ?_
 exact .L2 h8 bD<| .C 0 (fun p=>rgood_c a _)<| .Y<| .off .nil
 refine aftI bu cd aB fun cN cO aE bG bH bI aj=>?_
 have ce:=aj.f1 bw
 have cf:=aj.g 1 5
 obtain⟨bx,aF,aG,bJ⟩:=aj.G 2 3
 have bK:=aD.new_ bI
 have hne34:bv ≠ bx:=by have h1:=aD.lt; have h2:=aG; omega
 have cu:=Nat.le_trans aB.size aG
 have hbd_a:=as_bd a
 refine sS2 aF cf bJ fun cP aH bL bM=>?_
 have bO:=bM hne34 bK
 have bP:=bH.tR bL
 refine bF _ _ <| wk fun cR bQ=>?_
 refine wb<| wk fun cS bR=>?_
 refine wA tr3 [] 27 [ve (nv (asM a)),ve (.bool (decide ((asM a).k=2))),ve (.bool (decide ((asM a).k=2)))] aE ?_ ?_
 exact .L2 aF aH<| .C 0 (fun p=>rnan_c (asM a) _)<| .B 1 .nil
 refine aftI aE bG bP fun cT cU ad ak al aI am=>?_
 have⟨aJ,ag⟩:=am.f2 ce aF
 have bz:=am.g 2 6
 have⟨an,ae⟩:=nw2 aI bO aH
 refine bR _ _ ?_
 rcases bc (decide ((asM a).k=2)) with aa|aa
 have aY:=oT aa
 have bS:=hB bz aa
 refine wt bS<| wk fun cV bT=>?_
 refine wA [true,false] [(1,false)] 27 [ve (nv (asM a)),vt] ad ?_ ?_
 exact .L2 ag ae<| .off .nil
 refine aftI ad ak al fun cW cX cv bU bV bW aK=>?_
 have bA:=aK.f1 aJ
 have ch:=aK.g 0 9
 have bX:=an.new_ bW
 refine sS2 bA ch bX fun cY bY bZ cw=>?_
 have b1:=bV.tR bZ
 refine bT _ _<| wp_ret (ret_k bU (v:=nv (asM a)) (res_c rfl bA (l_two isAgg23 sizeOf23 bY)) ?_)
 refine ⟨?_,b1⟩
 show Ending.returned (nv (asM a))=Ending.returned (nv (rNegM a))
 first|rfl|(simp only [rNegM,aa,bsm] <;> rfl)|(exfalso; omega)
 have aY:=oF aa
 have b2:=hB bz aa
 refine wf b2<| wk fun c0 aL=>?_
 rcases bc (infB (asM a).k) with ab|ab
 refine wA tr7 [] 27 [ve (nv (asM a)),vT,vT,vU,vU,vT,vT] ad ?_ ?_
 exact .L2 ag ae<| .o1 (ck rfl rfl rfl (fun _ w hn k=>⟨#[nv (asM a)],args1 (k.eq1 0 11 rfl),fun _=>by kernel_rfl,rinf_c (asM a) _ ⟩) fun _=>congrArg Value.bool ab)<| .N 1<| .S<| .S<| .T (fun k=>v_pickT rfl (k.eq1 2 13 rfl) rfl)<| .B 5 .nil
 refine aftI ad ak al fun c1 c2 aM b3 b4 aN ao=>?_
 have⟨ci,bB⟩:=ao.f2 aJ ag
 have cj:=ao.g 6 10
 have⟨b5,aO⟩:=nw2 aN an ae
 refine aL _ _<| wt cj<| wk fun c3 b6=>?_
 refine wA [true,true,true,true,true,true,false] [(6,false)] 27 [ve (nv (asM a)),vT,ve (nv (asM a)),ve (.bool (belowB (asM a))),ve (.bool (!(belowB (asM a)))),ve (nv (signedR true (!(belowB (asM a))))),vt] aM ?_ ?_
 exact .L2 bB aO<| .o1 (ck rfl rfl rfl (fun _ w hn k=>⟨#[nv (asM a)],args1 (k.eq1 0 17 rfl),fun _=>by kernel_rfl,rinf_c (asM a) _ ⟩) fun _=>congrArg Value.bool ab)<| .L2 bB aO<| .C 2 (fun p=>rbelow_c (asM a) _)<| .T (fun k=>v_not rfl (k.eq1 3 20 rfl))<| .C2 1 4 (fun p=>rsigned_c true (!(belowB (asM a))) _)<| .off .nil
 refine aftI aM b3 b4 fun c4 c5 cl a1 a3 b7 ar=>?_
 have aP:=ar.f1 ci
 have b8:=ar.g 5 22
 have a4:=b5.new_ b7
 refine sS2 aP b8 a4 fun cx a5 a6 cm=>?_
 have a8:=a3.tR a6
 refine b6 _ _<| wp_ret (ret_k a1 (v:=nv (signedR true (!(belowB (asM a))))) (res_c rfl aP (l_two isAgg23 sizeOf23 a5)) ?_)
 refine ⟨?_,a8⟩
 show Ending.returned (nv (signedR true (!(belowB (asM a)))))=Ending.returned (nv (rNegM a))
 first|rfl|(simp only [rNegM,aa,ab,bsm] <;> rfl)|(exfalso; omega)
 refine wA tr7 [] 27 [ve (nv (asM a)),vF,vF,ve (nv (asM a)),ve (.bool (noughtB (asM a))),ve (.bool (noughtB (asM a))),ve (.bool (noughtB (asM a)))] ad ?_ ?_
 exact .L2 ag ae<| .o1 (ck rfl rfl rfl (fun _ w hn k=>⟨#[nv (asM a)],args1 (k.eq1 0 11 rfl),fun _=>by kernel_rfl,rinf_c (asM a) _ ⟩) fun _=>congrArg Value.bool ab)<| .N 1<| .V (fun p k=>v_load rfl (k.fx 3 ag) (l_two isAgg23 sizeOf23 (ae.new_ p)))<| .o1 (cg rfl rfl rfl (fun _ _ k=>k.eq1 2 13 rfl) rfl (fun _ w hn k=>⟨#[nv (asM a)],args1 (k.eq1 3 14 rfl),fun _=>by kernel_rfl,rnought_c (asM a) _ ⟩) fun _=>rfl)<| .T (fun k=>v_pickF rfl (k.eq1 2 13 rfl) (k.eq1 4 15 rfl))<| .B 5 .nil
 refine aftI ad ak al fun cz cA af au av aw ah=>?_
 have⟨aR,ap⟩:=ah.f2 aJ ag
 have aS:=ah.g 6 10
 have⟨ax,ai⟩:=nw2 aw an ae
 refine aL _ _ ?_
 rcases bc (noughtB (asM a)) with ac|ac
 have a9:=hB aS ac
 refine wt a9<| wk fun cB ba=>?_
 refine wA [true,true,true,true,true,true,false] [(6,false)] 27 [ve (nv (asM a)),vF,ve (nv (asM a)),ve (.bool (belowB (asM a))),ve (.bool (!(belowB (asM a)))),ve (nv (signedR false (!(belowB (asM a))))),vt] af ?_ ?_
 exact .L2 ap ai<| .o1 (ck rfl rfl rfl (fun _ w hn k=>⟨#[nv (asM a)],args1 (k.eq1 0 17 rfl),fun _=>by kernel_rfl,rinf_c (asM a) _ ⟩) fun _=>congrArg Value.bool ab)<| .L2 ap ai<| .C 2 (fun p=>rbelow_c (asM a) _)<| .T (fun k=>v_not rfl (k.eq1 3 20 rfl))<| .C2 1 4 (fun p=>rsigned_c false (!(belowB (asM a))) _)<| .off .nil
 refine aftI af au av fun cC cD cn bb bd be ay=>?_
 have aT:=ay.f1 aR
 have b9:=ay.g 5 22
 have bf:=ax.new_ be
 refine sS2 aT b9 bf fun cE bg bh co=>?_
 have bj:=bd.tR bh
 refine ba _ _<| wp_ret (ret_k bb (v:=nv (signedR false (!(belowB (asM a))))) (res_c rfl aT (l_two isAgg23 sizeOf23 bg)) ?_)
 refine ⟨?_,bj⟩
 show Ending.returned (nv (signedR false (!(belowB (asM a)))))=Ending.returned (nv (rNegM a))
 first|rfl|(simp only [rNegM,aa,ab,ac,bsm] <;> rfl)|(exfalso; omega)
 have bk:=hB aS ac
 refine wf bk<| ws<| bQ _ _<| wk fun cG bl=>?_
 refine wA [true,true,true,true,false] [(4,false)] 27 [ve (.pointer (some ⟨bx,1,none⟩)),ve (iv ((asM a).n)),ve (iv (-((asM a).n))),ve (nv (Nm.mk 0 (-((asM a).n)))),vt] af ?_ ?_
 exact .F ap<| .J 0 isAgg3 ai<| .R (fun k=>v_neg rfl (k.eq1 1 24 rfl) (by omega)) (fun _=>rfl)<| .T (fun k=>v_build (ps:=[(1,iv (-((asM a).n)))]) rfl (parts1 (k.eq1 2 25 rfl)) (by kernel_rfl))<| .off .nil
 refine aftI af au av fun cH cI cp bm bn bo az=>?_
 have aV:=az.f1 aR
 have ca:=az.g 3 26
 have bp:=ax.new_ bo
 refine sS2 aV ca bp fun cJ bq br cq=>?_
 have bt:=bn.tR br
 refine bl _ _<| wp_ret (ret_k bm (v:=nv (Nm.mk 0 (-((asM a).n)))) (res_c rfl aV (l_two isAgg23 sizeOf23 bq)) ?_)
 refine ⟨?_,bt⟩
 show Ending.returned (nv (Nm.mk 0 (-((asM a).n))))=Ending.returned (nv (rNegM a))
 first|rfl|(simp only [rNegM,aa,ab,ac,bsm] <;> rfl)|(exfalso; omega)
theorem rneg_c (a:Nm) (w:World):Calls Tryz.prog 76 #[nv a] w (IsRet (nv (negM a)) w):=by
  have h:=rneg_c0 a w 
  rw [rNeg_eq] at h
  exact h
theorem rwhole_c (a:Nm) (w:World):Calls prog 102 #[nv a] w (IsRet (nv (wholeM a)) w):=by
 refine enter_abs func102 rfl fun a0 ah bm hp=>?_
 have ah:a0.tmps.size=15:=ah
 have aj:New w w:=Upd.refl _ _
 have hp0:a0.eval (.tmp 0)=nv a:=hp 0 _ rfl
 refine wk fun K1 bn=>?_
 refine wB tr2 [] [] 15 [IsNew w 23 [iv a.k,iv a.n],IsNew w 23 [iv 0,iv 0]] [0,1] ah ?_ heN ?_
 exact .X hp0<| .Y .nil
 refine aftI ah bm aj fun a2 w3 aC bo ak bF al=>?_
 obtain⟨q9,h8,aK,aL⟩:=al.G 0 1
 obtain⟨aD,aE,aM,am⟩:=al.G 1 2
 have hne16:=al.ne 0 1 1 2 h8 aE
 have bw:=Nat.le_trans aj.size aK
 have bx:=Nat.le_trans aj.size aM
 refine bn _ _ <| wk fun bG aN=>?_
 refine wB [true,true,true,false] [] [(3,false)] 15 [ve (nv a),ve (nv (asM a)),IsNew w3 23 [iv 0,iv 0],vt] [2] aC ?_ heN ?_
 exact .L2 h8 aL<| .C 0 (fun p=>rgood_c a _)<| .Y<| .off .nil
 refine aftI aC bo ak fun bH bI an aO aP aQ ac=>?_
 have bp:=ac.f1 aE
 have bq:=ac.g 1 5
 obtain⟨aF,ai,ao,aR⟩:=ac.G 2 3
 have aS:=am.new_ aQ
 have hne34:aD ≠ aF:=by have h1:=am.lt; have h2:=ao; omega
 have bz:=Nat.le_trans ak.size ao
 have hbd_a:=as_bd a
 refine sS2 ai bq aR fun bJ ad aT aU=>?_
 have aW:=aU hne34 aS
 have aX:=aP.tR aT
 refine aN _ _ <| wk fun bL aY=>?_
 refine wk fun bM aZ=>?_
 refine wA tr7 [] 15 [ve (nv (asM a)),ve (.bool (decide ((asM a).k=2))),ve (.bool (decide ((asM a).k=2))),ve (gq (!(decide ((asM a).k=2))) (pv aF)),ve (gq (!(decide ((asM a).k=2))) (iv ((asM a).k))),ve (gq (!(decide ((asM a).k=2))) (.bool (decide (((asM a).k)=1)))),ve (.bool ((decide ((asM a).k=2)) || (decide (((asM a).k)=1))))] an ?_ ?_
 exact .L2 ai ad<| .C 0 (fun p=>rnan_c (asM a) _)<| .N 1<| .Q (fun k=>g0' (k.eq1 2 8 rfl)) (fun hG p k=>v_field rfl (k.fx 3 ai) (fun w=>rfl))<| .Q (fun k=>g0' (k.eq1 2 8 rfl)) (fun hG p k=>v_load rfl (cT hG (k.eq1 3 9 rfl)) (l_one isAgg3 ((ad.new_ p).cell 0)))<| .Q (fun k=>g0' (k.eq1 2 8 rfl)) (fun hG p k=>v_bin rfl (cT hG (k.eq1 4 10 rfl)) rfl (fun _=>rfl) (r_eql rfl))<| .W 2 5 .nil
 refine aftI an aO aX fun bN bO ab ap aq ar ae=>?_
 have⟨aG,br⟩:=ae.f2 bp ai
 have aH:=ae.g 6 12
 have⟨au,a1⟩:=nw2 ar aW ad
 refine aZ _ _ ?_
 rcases bc (((decide ((asM a).k=2)) || (decide (((asM a).k)=1)))) with aa|aa
 have a3:=hB aH aa
 refine wt a3<| wk fun bP a4=>?_
 refine wA [true,false] [(1,false)] 15 [ve (nv (Nm.mk 0 0)),vt] ab ?_ ?_
 exact .Z<| .off .nil
 refine aftI ab ap aq fun bQ bR bA a5 a6 a7 av=>?_
 have aI:=av.f1 aG
 have bs:=av.g 0 13
 have a8:=au.new_ a7
 refine sS2 aI bs a8 fun bS a9 ba bB=>?_
 have bd:=a6.tR ba
 refine a4 _ _<| wp_ret (ret_k a5 (v:=nv (Nm.mk 0 0)) (res_c rfl aI (l_two isAgg23 sizeOf23 a9)) ?_)
 refine ⟨?_,bd⟩
 show Ending.returned (nv (Nm.mk 0 0))=Ending.returned (nv (wholeM a))
 first|rfl|(simp only [wholeM,aa,bsm] <;> rfl)|(exfalso; omega)
 have be:=hB aH aa
 have af:(decide ((asM a).k=2))=false:=ol aa
 have bu:=oF af
 have ag:(decide (((asM a).k)=1))=false:=or_ aa
 have bv:=oF ag
 refine wf be<| ws<| aY _ _<| wk fun bU bf=>?_
 refine wA [true,false] [(1,false)] 15 [ve (nv (asM a)),vt] ab ?_ ?_
 exact .L2 br a1<| .off .nil
 refine aftI ab ap aq fun bV bW bC bg bh bi aw=>?_
 have aJ:=aw.f1 aG
 have bt:=aw.g 0 14
 have bj:=au.new_ bi
 refine sS2 aJ bt bj fun bX bk bl bD=>?_
 have aB:=bh.tR bl
 refine bf _ _<| wp_ret (ret_k bg (v:=nv (asM a)) (res_c rfl aJ (l_two isAgg23 sizeOf23 bk)) ?_)
 refine ⟨?_,aB⟩
 show Ending.returned (nv (asM a))=Ending.returned (nv (wholeM a))
 first|rfl|(simp only [wholeM,aa,af,af,ag,ag,bsm] <;> rfl)|(exfalso; omega)
theorem rindex_c (a:Nm) (w:World):Calls prog 55 #[nv a] w (IsRet (.tuple #[iv ((indexM a).1),.bool ((indexM a).2)]) w):=by
 refine enter_abs func55 rfl fun a0 ag a4 hp=>?_
 have ag:a0.tmps.size=17:=ag
 have aA:New w w:=Upd.refl _ _
 have hp0:a0.eval (.tmp 0)=nv a:=hp 0 _ rfl
 refine wk fun K1 a5=>?_
 refine wB tr3 [] [] 17 [IsNew w 23 [iv a.k,iv a.n],ve (iv 0),vF] [0] ag ?_ heN ?_
 exact .X hp0<| .c<| .c .nil
 refine aftI ag a4 aA fun a2 w3 aB a6 ai bt a7=>?_
 obtain⟨q9,h8,aD,aE⟩:=a7.G 0 1
 have bi:=Nat.le_trans aA.size aD
 refine a5 _ _ <| wk fun bu aF=>?_
 refine wB [true,true,true,false] [] [(3,false)] 17 [ve (nv a),ve (nv (wholeM a)),IsNew w3 23 [iv 0,iv 0],vt] [2] aB ?_ heN ?_
 exact .L2 h8 aE<| .C 0 (fun p=>rwhole_c a _)<| .Y<| .off .nil
 refine aftI aB a6 ai fun bv bw ae aj aG bj ak=>?_
 have a8:=ak.g 1 6
 obtain⟨ah,ad,aH,aI⟩:=ak.G 2 4
 have bk:=Nat.le_trans ai.size aH
 have hwb_a:=whole_bd a
 refine sS2 ad a8 aI fun bx ac aJ bl=>?_
 have al:=aG.tR aJ
 refine aF _ _ <| wk fun bA aL=>?_
 refine wk fun bB am=>?_
 rcases bc (decide (((wholeM a).k)=0)) with aa|aa
 have ay:=oT aa
 refine wA tr8 [] 17 [ve (pv ah),ve (iv ((wholeM a).k)),vF,vF,ve (.pointer (some ⟨ah,1,none⟩)),ve (iv ((wholeM a).n)),ve (.bool (decide (((wholeM a).n) < 0))),ve (.bool (decide (((wholeM a).n) < 0)))] ae ?_ ?_
 exact .F ad<| .J 0 isAgg3 ac<| .b 1 (r_neq aa)<| .N 2<| .gf (fun k=>k.eq1 3 10 rfl) (fun k=>k.fx 4 ad)<| .V (fun p k=>v_load rfl (k.eq1 4 11 rfl) (l_one isAgg3 ((ac.new_ p).cell 1)))<| .V (fun p k=>v_bin rfl (k.eq1 5 12 rfl) rfl (fun _=>rfl) (r_lssK rfl))<| .T (fun k=>v_pickF rfl (k.eq1 3 10 rfl) (k.eq1 6 13 rfl)) .nil
 refine aftI ae aj al fun bC bD af an ao aM ap=>?_
 have a9:=ap.f1 ad
 have aC:=ap.g 7 14
 have aN:=ac.new_ aM
 refine am _ _ ?_
 rcases bc (decide (((wholeM a).n) < 0)) with ab|ab
 have az:=oT ab
 have aO:=hB aC ab
 refine wt aO<| wk fun bE aP=>?_
 refine wA tr2 [] 17 [ve (iv 0),vF] af ?_ ?_
 exact .c<| .c .nil
 refine aftI af an ao fun bF bG bm aQ aR bn aq=>?_
 have ba:=aq.g 0 2
 have bb:=aq.g 1 3
 refine aP _ _<| wp_ret (ret_k aQ (v:=.tuple #[iv 0,.bool false]) (res_tt rfl ba bb _) ?_)
 refine ⟨?_,aR⟩
 show Ending.returned (.tuple #[iv 0,.bool false])=Ending.returned (.tuple #[iv ((indexM a).1),.bool ((indexM a).2)])
 first|rfl|(simp only [indexM,aa,ab,bsm] <;> rfl)|(exfalso; omega)
 have az:=oF ab
 have aS:=hB aC ab
 refine wf aS<| ws<| aL _ _<| wk fun bH aT=>?_
 refine wA tr4 [] 17 [ve (.pointer (some ⟨ah,1,none⟩)),ve (iv ((wholeM a).n)),ve (iv ((wholeM a).n)),vT] af ?_ ?_
 exact .F a9<| .J 0 isAgg3 aN<| .B 1<| .c .nil
 refine aftI af an ao fun bI bJ bo aU aV bp ar=>?_
 have bd:=ar.g 2 2
 have be:=ar.g 3 3
 refine aT _ _<| wp_ret (ret_k aU (v:=.tuple #[iv ((wholeM a).n),.bool true]) (res_tt rfl bd be _) ?_)
 refine ⟨?_,aV⟩
 show Ending.returned (.tuple #[iv ((wholeM a).n),.bool true])=Ending.returned (.tuple #[iv ((indexM a).1),.bool ((indexM a).2)])
 first|rfl|(simp only [indexM,aa,ab,bsm] <;> rfl)|(exfalso; omega)
 have ay:=oF aa
 refine wA tr8 [] 17 [ve (pv ah),ve (iv ((wholeM a).k)),vT,vT,vU,vU,vU,vT] ae ?_ ?_
 exact .F ad<| .J 0 isAgg3 ac<| .b 1 (r_neq aa)<| .N 2<| .S<| .S<| .S<| .T (fun k=>v_pickT rfl (k.eq1 3 10 rfl) rfl) .nil
 refine aftI ae aj al fun bK bL au aW aX aY av=>?_
 have bM:=av.f1 ad
 have bf:=av.g 7 14
 have bq:=ac.new_ aY
 refine am _ _<| wt bf<| wk fun bN aZ=>?_
 refine wA tr2 [] 17 [ve (iv 0),vF] au ?_ ?_
 exact .c<| .c .nil
 refine aftI au aW aX fun bO bP br a1 a3 bs aw=>?_
 have bg:=aw.g 0 2
 have bh:=aw.g 1 3
 refine aZ _ _<| wp_ret (ret_k a1 (v:=.tuple #[iv 0,.bool false]) (res_tt rfl bg bh _) ?_)
 refine ⟨?_,a3⟩
 show Ending.returned (.tuple #[iv 0,.bool false])=Ending.returned (.tuple #[iv ((indexM a).1),.bool ((indexM a).2)])
 first|rfl|(simp only [indexM,aa,bsm] <;> rfl)|(exfalso; omega)
theorem rnum_c (a:Nm) (b:Nm) (w:World):Calls prog 14 #[nv a,nv b] w (IsRet (.bool (decide (a.k=b.k) && decide (a.n=b.n))) w):=by
 refine enter_abs func14 rfl fun a0 aa ap hp=>?_
 have aa:a0.tmps.size=17:=aa
 have ab:New w w:=Upd.refl _ _
 have hp0:a0.eval (.tmp 0)=nv a:=hp 0 _ rfl
 have hp1:a0.eval (.tmp 1)=nv b:=hp 1 _ rfl
 refine wk fun K1 aq=>?_
 refine wB tr3 [] [] 17 [IsNew w 23 [iv a.k,iv a.n],IsNew w 23 [iv b.k,iv b.n],vF] [0,1] aa ?_ heN ?_
 exact .X hp0<| .X hp1<| .c .nil
 refine aftI aa ap ab fun a2 w3 ae ar ai az af=>?_
 obtain⟨q9,h8,aj,ac⟩:=af.G 0 2
 obtain⟨ag,ah,ak,ad⟩:=af.G 1 3
 have av:=Nat.le_trans ab.size aj
 have aw:=Nat.le_trans ab.size ak
 refine aq _ _ <| wk fun aA al=>?_
 refine wA tr13 [] 17 [ve (pv q9),ve (iv a.k),ve (pv ag),ve (iv b.k),ve (.bool (decide (a.k=b.k))),ve (.bool (decide (a.k=b.k))),ve (gq (decide (a.k=b.k)) (.pointer (some ⟨q9,1,none⟩))),ve (gq (decide (a.k=b.k)) (iv a.n)),ve (gq (decide (a.k=b.k)) (.pointer (some ⟨ag,1,none⟩))),ve (gq (decide (a.k=b.k)) (iv b.n)),ve (gq (decide (a.k=b.k)) (.bool (decide (a.n=b.n)))),ve (.bool ((decide (a.k=b.k)) && (decide (a.n=b.n)))),ve (.bool ((decide (a.k=b.k)) && (decide (a.n=b.n))))] ae ?_ ?_
 exact .F h8<| .J 0 isAgg3 ac<| .F ah<| .J 2 isAgg3 ad<| .T (fun k=>v_bin rfl (k.eq1 1 6 rfl) (k.eq1 3 8 rfl) (fun _=>rfl) (r_eql rfl))<| .N 4<| .Q (fun k=>g0 (k.eq1 5 10 rfl)) (fun hG p k=>v_field rfl (k.fx 2 h8) (fun w=>rfl))<| .Q (fun k=>g0 (k.eq1 5 10 rfl)) (fun hG p k=>v_load rfl (cT hG (k.eq1 6 11 rfl)) (l_one isAgg3 ((ac.new_ p).cell 1)))<| .Q (fun k=>g0 (k.eq1 5 10 rfl)) (fun hG p k=>v_field rfl (k.fx 3 ah) (fun w=>rfl))<| .Q (fun k=>g0 (k.eq1 5 10 rfl)) (fun hG p k=>v_load rfl (cT hG (k.eq1 8 13 rfl)) (l_one isAgg3 ((ad.new_ p).cell 1)))<| .Q (fun k=>g0 (k.eq1 5 10 rfl)) (fun hG p k=>v_bin rfl (cT hG (k.eq1 7 12 rfl)) (cT hG (k.eq1 9 14 rfl)) (fun _=>rfl) (r_eql rfl))<| .O 5 10<| .B 11 .nil
 refine aftI ae ar ai fun aB aC ax am an ay ao=>?_
 have au:=ao.g 12 4
 refine al _ _<| wp_ret (ret_k am (v:=.bool ((decide (a.k=b.k)) && (decide (a.n=b.n)))) (res_t rfl au _) ?_)
 refine ⟨?_,an⟩
 show Ending.returned (.bool ((decide (a.k=b.k)) && (decide (a.n=b.n))))=Ending.returned (.bool (decide (a.k=b.k) && decide (a.n=b.n)))
 first|rfl|(simp only [bsm] <;> rfl)|(exfalso; omega)
end Go.Proofs.YtecgdgjlmlpcnaaGreatDoor
