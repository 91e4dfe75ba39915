import Derived.Test.YtecgdgjlmlpcnaaGreatDoorTld
namespace Go.Proofs.YtecgdgjlmlpcnaaGreatDoor
open Go.RowKit
open Tryz
set_option linter.unusedSimpArgs false
set_option linter.unusedVariables false
set_option maxHeartbeats 16000000
set_option maxRecDepth 100000
theorem rplus_c (A B:Option Addr) (a b:List Nat) (c d:Nat) (w:World) (hra:SRow w .u32 A a c) (hrb:SRow w .u32 B b d) (ha:Limbs a) (hb:Limbs b) (hsa:a.length≤900000) (hsb:b.length≤900000):Calls prog 128 #[sv A a c,sv B b d] w (RetS 59 .u32 (canon (val a + val b)) w):=by
 refine enter_abs func128 rfl fun a0 aB cR hp=>?_
 have aB:a0.tmps.size=37:=aB
 have cS:New w w:=Upd.refl _ _
 have hp0:a0.eval (.tmp 0)=sv A a c:=hp 0 _ rfl
 have hp1:a0.eval (.tmp 1)=sv B b d:=hp 1 _ rfl
 refine wk fun K1 cT=>?_
 refine wA tr1 [] 37 [ve (sv none ([]) 0)] aB ?_ ?_
 exact .c .nil
 refine aftI aB cR cS fun a2 w3 bA cU bO dM bB=>?_
 have⟨h8,h9⟩:=bB.f2 hp0 hp1
 refine cT _ _ <| wk fun dN bP=>?_
 refine wA tr1 [] 37 [ve (sv none ([]) 0)] bA ?_ ?_
 exact .c .nil
 refine aftI bA cU bO fun dO dP aL bQ bR du aw=>?_
 have⟨cV,cW⟩:=aw.f2 h8 h9
 have cX:=aw.g 0 5
 refine bP _ _ <| wk fun dQ bS=>?_
 refine wA tr1 [] 37 [ve (.int .u64 0)] aL ?_ ?_
 exact .c .nil
 refine aftI aL bQ bR fun dR dS aM bT bU dv ar=>?_
 have⟨cY,cZ,c0⟩:=ar.f3 cV cW cX
 have c3:=ar.g 0 6
 refine bS _ _ <| wk fun dT bV=>?_
 refine wk fun dU bW=>?_
 refine wA tr1 [] 37 [ve (iv 0)] aM ?_ ?_
 exact .c .nil
 refine aftI aM bT bU fun dV dW bX bY bZ dw ao=>?_
 have⟨c5,c9,da,db⟩:=ao.f4 cY cZ c0 c3
 have dc:=ao.g 0 7
 refine bW _ _<| wb<| wp_loopX (fun (mm:Nat) (aa:Act) (ww:World)=>∃ (i:Nat) (ds:List Nat) (cc:Nat) (A1:Option Addr) (c1:Nat),mm=max a.length b.length + 1 - i∧aa.tmps.size=37∧aa.defers=[]∧New w ww∧aa.eval (.tmp 5)=sv A1 ds c1∧aa.eval (.tmp 6)=.int .u64 (cc:Int)∧aa.eval (.tmp 7)=iv (i:Int)∧aa.eval (.tmp 0)=sv A a c∧aa.eval (.tmp 1)=sv B b d∧SOwn ww w.heap.size 59 .u32 A1 ds c1∧(i≤max a.length b.length + 1)∧(cc≤1)∧(ds.length=i)∧(Limbs ds)∧(val ds + 4294967296 ^ i * cc=val (a.take i) + val (b.take i))) (fun mm=>mm) ⟨_,⟨0,[],0,none,0,rfl,bX,bY,bZ,da,db,dc,c5,c9,SOwn.nil _ _ _ _,(by omega),(by omega),rfl,Limbs.nil,(by simp [val])⟩⟩ ?_
 rintro mm dX dY ⟨i,ds,cc,A1,c1,hmm,aN,b0,b1,dd,de,bC,bD,bE,b2,hi,hc,hln,hd,hv⟩
 refine wk fun dZ b3=>wk fun d0 b4=>?_
 refine wA tr8 [] 37 [ve (iv (i:Int)),ve (sv A a c),ve (iv (a.length:Int)),ve (sv B b d),ve (iv (b.length:Int)),ve (iv (max (a.length:Int) (b.length:Int))),ve (iv ((max (a.length:Int) (b.length:Int)) + 1)),ve (.bool (decide ((i:Int) < ((max (a.length:Int) (b.length:Int)) + 1))))] aN ?_ ?_
 exact .M bC<| .M bD<| .T (fun k=>v_lenR rfl elW (k.eq1 1 9 rfl))<| .M bE<| .T (fun k=>v_lenR rfl elW (k.eq1 3 11 rfl))<| .T (fun k=>v_max rfl (k.eq1 2 10 rfl) (k.eq1 4 12 rfl))<| .R (fun k=>v_bin rfl (k.eq1 5 13 rfl) rfl (fun _=>rfl) (r_add rfl (by omega))) (fun _=>rfl)<| .T (fun k=>v_bin rfl (k.eq1 0 8 rfl) (k.eq1 6 14 rfl) (fun _=>rfl) (r_lssK rfl)) .nil
 refine aftI aN b0 b1 fun d1 aC au aO ap b5 al=>?_
 have⟨bF,bG,aP,bH⟩:=al.f4 dd de bC bD
 have bI:=al.f1 bE
 have bJ:=al.g 7 15
 have aQ:=b2.new_ b5
 refine b4 _ _ ?_
 rcases bc (decide ((i:Int) < ((max (a.length:Int) (b.length:Int)) + 1))) with aq|aq
 have a4:=oT aq
 have b6:=hB bJ aq
 refine wt b6<| ws<| b3 _ _<| wk fun d2 b7=>wb ?_
 refine wk fun d3 b8=>?_
 have hai:=ha.at i
 have hbi:=hb.at i
 have hst:=plus_step (i:=i) ha hb hd hln hc hv
 refine wA [true,true,true,true,true,true,true,true,true,false] [(9,true)] 37 [ve (.int .u64 (cc:Int)),ve (sv A a c),ve (iv (i:Int)),ve (.int .u64 ((a.getD i 0:Nat):Int)),ve (.int .u64 ((cc + (a.getD i 0):Nat):Int)),ve (sv B b d),ve (iv (i:Int)),ve (.int .u64 ((b.getD i 0:Nat):Int)),ve (.int .u64 (((cc + (a.getD i 0)) + (b.getD i 0):Nat):Int)),vt] au ?_ ?_
 exact .M bG<| .M bH<| .M aP<| .C2 1 2 (fun p=>rword_c _ _ _ (i:Int) _ (hra.new_ (ap.transNew p)) ha (by omega))<| .R (fun k=>v_bin rfl (k.eq1 0 18 rfl) (k.eq1 3 21 rfl) (fun _=>rfl) (n_add (by omega) (IntWalk.u64_in _ (by omega)))) (fun _=>rfl)<| .M bI<| .M aP<| .C2 5 6 (fun p=>rword_c _ _ _ (i:Int) _ (hrb.new_ (ap.transNew p)) hb (by omega))<| .R (fun k=>v_bin rfl (k.eq1 4 22 rfl) (k.eq1 7 25 rfl) (fun _=>rfl) (n_add (by omega) (IntWalk.u64_in _ (by omega)))) (fun _=>rfl)<| .off .nil
 refine aftI au aO ap fun bK bL aR b9 aS ca am=>?_
 have⟨df,d4,dg,dh⟩:=am.f4 bF bG aP bH
 have di:=am.f1 bI
 have bM:=am.g 8 26
 have cb:=aQ.new_ ca
 refine sP bM aR b9 fun dj aT cd ag aU=>?_
 have⟨bN,dk,dl⟩:=ag.q3 df dg dh
 have⟨ce,dx⟩:=ag.q2 di bM
 refine b8 _ _ <| wk fun dy a5=>?_
 refine wp_g0 [true,true,true,true,true,false,false] [(5,false),(6,true)] 37
  [ve (sv A1 ds c1),ve (.int .u64 (((cc + (a.getD i 0)) + (b.getD i 0):Nat):Int)),ve (.int .u64 ((((cc + (a.getD i 0)) + (b.getD i 0)) % 4294967296:Nat):Int)),ve (.int .u32 ((((cc + (a.getD i 0)) + (b.getD i 0)) % 4294967296:Nat):Int)),
  (OP bL.heap.size 59 .u32 ([(((cc + (a.getD i 0)) + (b.getD i 0)) % 4294967296)])),vt,vt] aT (.eq (.eq (.eq (.eq (.cons (fun _ _ _ n ⟨_,_,e,h⟩=>⟨_,_,e,h.new_ n⟩) (.tt (.tt .nil))))))) ?_ ?_
 refine .M bN<| .M aU<| .R (fun k=>v_bin rfl (k.eq1 1 28 rfl) rfl (fun _=>rfl) (n_andMask64 ((cc + (a.getD i 0)) + (b.getD i 0)) (by omega))) (fun _=>rfl)<| .R (fun k=>v_conv rfl (k.eq1 2 29 rfl) (n_conv (by kernel_rfl) (by kernel_rfl) (by kernel_rfl) (IntWalk.u32_in _ (by omega)))) (fun _=>rfl) ?_
 refine .o1 (tkA rfl (noG rfl) fun _ w hn k=>(by
  exact x_bslice (k:=.u32) (ps:=[(0,.int .u32 ((((cc + (a.getD i 0)) + (b.getD i 0)) % 4294967296:Nat):Int))]) [(((cc + (a.getD i 0)) + (b.getD i 0)) % 4294967296)] rfl (parts1 (k.eq1 3 30 rfl)) elW rfl (by omega) (by omega) (by first|kernel_rfl|(simp only [enc,List.map_cons,List.map_nil,Int.toNat_natCast,Int.toNat_of_nonneg (by omega:(0:Int)≤_)]; kernel_rfl)) fun A1 c2 W' hmo=>⟨A1,c2,rfl,(hmo.more hn.size)⟩)) ?_
 exact .off<| .off .nil
 refine aftI aT cd aS fun ax dz aD a6 aE a7 ah=>?_
 have⟨dA,cf,ch,ci⟩:=ah.f4 bN dk dl ce
 have cj:=ah.f1 aU
 have cl:=ah.g 0 27
 obtain⟨cm,a8,ay,a9⟩:=ah.G 4 31
 have ay:ax.eval (.tmp 31)=sv cm ([(((cc + (a.getD i 0)) + (b.getD i 0)) % 4294967296)]) a8:=ay
 have aF:=cb.new_ a7
 have ba:=a9.more aS.size
 have hw131:=aE.size
 refine st_act rfl rfl fun dB bb=>a_append (k:=.u32) (b:=w.heap.size) rfl elW cl aF ay ba.row (by first|omega|(simp only [List.length_nil,List.length_cons,List.length_append,List.length_take,List.length_drop,List.length_replicate,List.length_set]; omega)) (by first|omega|(simp only [List.length_nil,List.length_cons,List.length_append,List.length_take,List.length_drop,List.length_replicate,List.length_set]; omega)) hw131 fun ai ae dC bd hg127=>bb _ _ trivial ?_
 have be:=aE.ownGrown aF hg127
 obtain⟨az,af⟩:∃ a',a'=ax.put (some 32) (sv ai (ds ++ [(((cc + (a.getD i 0)) + (b.getD i 0)) % 4294967296)]) ae):=⟨_,rfl⟩
 have⟨aG,bf⟩:=pz2 af aD a6
 have⟨cn,co,cp⟩:=pN3 af cf ch ci
 have cq:=pN af cj
 have aV:=s7 af aD
 show stepsTo _ _ _ _ _ (ax.put (some 32) (sv ai (ds ++ [(((cc + (a.getD i 0)) + (b.getD i 0)) % 4294967296)]) ae)) _
 rw [← af]
 refine sP aV aG bf fun cr aH bg ab cv=>?_
 have⟨cs,ct,cu⟩:=ab.q3 cn co cp
 have⟨aW,dD⟩:=ab.q2 cq aV
 refine a5 _ _<| wA [true,true,false] [(2,true)] 37 [ve (.int .u64 (((cc + (a.getD i 0)) + (b.getD i 0):Nat):Int)),ve (.int .u64 ((((cc + (a.getD i 0)) + (b.getD i 0)) / 4294967296:Nat):Int)),vt] aH ?_ ?_
 exact .M aW<| .T (fun k=>v_bin rfl (k.eq1 0 33 rfl) rfl (fun _=>rfl) (n_shr ((cc + (a.getD i 0)) + (b.getD i 0)) 32 (by decide)))<| .off .nil
 refine aftI aH bg be fun aX dE aI bh bi bj aj=>?_
 have⟨cw,cx,cy,dF⟩:=aj.f4 cs ct cu aW
 have cz:=aj.f1 cv
 have aY:=aj.g 1 34
 have bk:=bd.new_ bj
 refine sP aY aI bh fun cA aJ bl ac cE=>?_
 have⟨aZ,cB,cC⟩:=ac.q3 cw cx cy
 have⟨cD,dG⟩:=ac.q2 cz aY
 refine b7 _ _<| wA [true,true,false] [(2,true)] 37 [ve (iv (i:Int)),ve (iv ((i + 1:Nat):Int)),vt] aJ ?_ ?_
 exact .M aZ<| .R (fun k=>v_bin rfl (k.eq1 0 16 rfl) rfl (fun _=>rfl) (n_add (by omega) (IntWalk.i64_in _ (by omega)))) (fun _=>rfl)<| .off .nil
 refine aftI aJ bl bi fun a1 dH aK bm bn bo ak=>?_
 have⟨dI,cF,cG,cH⟩:=ak.f4 aZ cB cC cD
 have cI:=ak.f1 cE
 have a3:=ak.g 1 17
 have bp:=bk.new_ bo
 refine sP a3 aK bm fun cJ bq br ad cO=>?_
 have⟨cK,cL,cM⟩:=ad.q3 cF cG cH
 have⟨cN,dJ⟩:=ad.q2 cI a3
 refine st_nil ?_
 refine then_n ?_
 exact⟨_,⟨i + 1,(ds ++ [(((cc + (a.getD i 0)) + (b.getD i 0)) % 4294967296)]),(cc + a.getD i 0 + b.getD i 0) / 4294967296,ai,ae,rfl,bq,br,bn,cM,(cN.trans (congrArg (Value.int .u64) (by omega))),(cO.trans (congrArg (Value.int .i64) (by omega))),cK,cL,bp,(by omega),hst.2.1,(by simp; omega),hst.1,hst.2.2⟩,(by omega)⟩
 have a4:=oF aq
 have bs:=hB bJ aq
 refine wf bs<| wp_exit ?_
 refine bV _ _<| wk fun dK bt=>?_
 refine wp_g0 [true,true,true] [] 37
  [ve (sv A1 ds c1),
  (OP aC.heap.size 59 .u32 (canon (val ds))),
  (OP aC.heap.size 59 .u32 (canon (val ds)))] au (.eq (.cons (fun _ _ _ n ⟨_,_,e,h⟩=>⟨_,_,e,h.new_ n⟩) (.cons (fun _ _ _ n ⟨_,_,e,h⟩=>⟨_,_,e,h.new_ n⟩) .nil))) ?_ ?_
 refine .M bF ?_
 refine .o1 (tkC rfl (noG rfl) rfl fun _ w hn k=>(by
  refine ⟨#[sv A1 ds c1],_,args1 (k.eq1 0 35 rfl),fun w=>by kernel_rfl,rtrimL_c _ _ _ _ (aQ.new_ hn).row hd (by omega),?_⟩
  rintro e w' ⟨A5,c6,rfl,hmo,hm⟩
  exact⟨_,rfl,hm,⟨A5,c6,rfl,(hmo.more hn.size)⟩⟩)) ?_
 refine .o1 (tk rfl rfl fun _ w hn k=>(by
  obtain⟨A9,dp,dq,cP⟩:=k.G 1 36
  exact⟨_,v_assign rfl dq,⟨A9,dp,rfl,cP⟩⟩)) ?_
 exact .nil
 refine aftI au aO ap fun cQ dL dr bu bv dt bw=>?_
 obtain⟨av,an,aA,bx⟩:=bw.G 2 4
 have aA:cQ.eval (.tmp 4)=sv av (canon (val ds)) an:=aA
 have bz:=bx.more ap.size
 refine bt _ _<| wp_ret (ret_k bu (v:=sv av (canon (val ds)) an) (res_t rfl aA _) ?_)
 have hsp:(canon (val ds))=(canon (val a + val b)):=congrArg canon (plus_end ha hb hd hln hc (by omega) hv)
 exact⟨av,an,congrArg (fun l=>Ending.returned (sv av l an)) hsp,by rw [← hsp]; exact bz,bv⟩
theorem rminus_c (A B:Option Addr) (a b:List Nat) (c d:Nat) (w:World) (hra:SRow w .u32 A a c) (hrb:SRow w .u32 B b d) (ha:Limbs a) (hb:Limbs b) (hsa:a.length≤900000) (hsb:b.length≤900000) (hle:val b≤val a):Calls prog 133 #[sv A a c,sv B b d] w (RetS 59 .u32 (canon (val a - val b)) w):=by
 refine enter_abs func133 rfl fun a0 ay cz hp=>?_
 have ay:a0.tmps.size=36:=ay
 have cA:New w w:=Upd.refl _ _
 have hp0:a0.eval (.tmp 0)=sv A a c:=hp 0 _ rfl
 have hp1:a0.eval (.tmp 1)=sv B b d:=hp 1 _ rfl
 refine wk fun K1 cB=>?_
 refine wA tr1 [] 36 [ve (sv none ([]) 0)] ay ?_ ?_
 exact .c .nil
 refine aftI ay cz cA fun a2 w3 bn cC bz dl bo=>?_
 have⟨h8,h9⟩:=bo.f2 hp0 hp1
 refine cB _ _ <| wk fun dm bA=>?_
 refine wA tr1 [] 36 [ve (sv none ([]) 0)] bn ?_ ?_
 exact .c .nil
 refine aftI bn cC bz fun dn dp aG bB bC c5 au=>?_
 have⟨cD,cE⟩:=au.f2 h8 h9
 have cF:=au.g 0 5
 refine bA _ _ <| wk fun dq bD=>?_
 refine wA tr1 [] 36 [ve (.int .u64 0)] aG ?_ ?_
 exact .c .nil
 refine aftI aG bB bC fun dr dt aH bE bF c9 ap=>?_
 have⟨cG,cH,cI⟩:=ap.f3 cD cE cF
 have cJ:=ap.g 0 6
 refine bD _ _ <| wk fun du bG=>?_
 refine wk fun dv bH=>?_
 refine wA tr1 [] 36 [ve (iv 0)] aH ?_ ?_
 exact .c .nil
 refine aftI aH bE bF fun dw dx bI bJ bK da al=>?_
 have⟨cK,cL,cM,cN⟩:=al.f4 cG cH cI cJ
 have cO:=al.g 0 7
 refine bH _ _<| wb<| wp_loopX (fun (mm:Nat) (aa:Act) (ww:World)=>∃ (i:Nat) (ds:List Nat) (cc:Nat) (A1:Option Addr) (c1:Nat),mm=a.length - i∧aa.tmps.size=36∧aa.defers=[]∧New w ww∧aa.eval (.tmp 5)=sv A1 ds c1∧aa.eval (.tmp 6)=.int .u64 (cc:Int)∧aa.eval (.tmp 7)=iv (i:Int)∧aa.eval (.tmp 0)=sv A a c∧aa.eval (.tmp 1)=sv B b d∧SOwn ww w.heap.size 59 .u32 A1 ds c1∧(i≤a.length)∧(cc≤1)∧(ds.length=i)∧(Limbs ds)∧(val ds + val (b.take i)=val (a.take i) + 4294967296 ^ i * cc)) (fun mm=>mm) ⟨_,⟨0,[],0,none,0,rfl,bI,bJ,bK,cM,cN,cO,cK,cL,SOwn.nil _ _ _ _,(by omega),(by omega),rfl,Limbs.nil,(by simp [val])⟩⟩ ?_
 rintro mm dy dz ⟨i,ds,cc,A1,c1,hmm,aI,bL,bM,cP,cQ,bp,bq,cR,bN,hi,hc,hln,hd,hv⟩
 refine wk fun dA bO=>wk fun dB bP=>?_
 refine wA tr4 [] 36 [ve (iv (i:Int)),ve (sv A a c),ve (iv (a.length:Int)),ve (.bool (decide ((i:Int) < (a.length:Int))))] aI ?_ ?_
 exact .M bp<| .M bq<| .T (fun k=>v_lenR rfl elW (k.eq1 1 10 rfl))<| .T (fun k=>v_bin rfl (k.eq1 0 9 rfl) (k.eq1 2 11 rfl) (fun _=>rfl) (r_lssK rfl)) .nil
 refine aftI aI bL bM fun dC az aq aJ am bQ aj=>?_
 have⟨br,cS,aK,bs⟩:=aj.f4 cP cQ bp bq
 have bt:=aj.f1 cR
 have bu:=aj.g 3 12
 have aL:=bN.new_ bQ
 refine bP _ _ ?_
 rcases bc (decide ((i:Int) < (a.length:Int))) with an|an
 have aU:=oT an
 have bR:=hB bu an
 refine wt bR<| ws<| bO _ _<| wk fun dD bS=>wb ?_
 refine wk fun dE bT=>?_
 have hai:=ha.at i
 have hbi:=hb.at i
 have hst:=minus_step (i:=i) ha hb hd hln hc hv
 refine wA tr11 [] 36 [ve (sv A a c),ve (iv (i:Int)),ve (.int .u64 ((a.getD i 0:Nat):Int)),ve (.int .u64 (((a.getD i 0) + 4294967296:Nat):Int)),ve (sv B b d),ve (iv (i:Int)),ve (.int .u64 ((b.getD i 0:Nat):Int)),ve (.int .u64 ((((a.getD i 0) + 4294967296) - (b.getD i 0):Nat):Int)),ve (.int .u64 (cc:Int)),ve (.int .u64 (((((a.getD i 0) + 4294967296) - (b.getD i 0)) - cc:Nat):Int)),ve (.int .u64 (((((a.getD i 0) + 4294967296) - (b.getD i 0)) - cc:Nat):Int))] aq ?_ ?_
 exact .M bs<| .M aK<| .C2 0 1 (fun p=>rword_c _ _ _ (i:Int) _ (hra.new_ (am.transNew p)) ha (by omega))<| .R (fun k=>v_bin rfl (k.eq1 2 17 rfl) rfl (fun _=>rfl) (n_add (by omega) (IntWalk.u64_in _ (by omega)))) (fun _=>rfl)<| .M bt<| .M aK<| .C2 4 5 (fun p=>rword_c _ _ _ (i:Int) _ (hrb.new_ (am.transNew p)) hb (by omega))<| .R (fun k=>v_bin rfl (k.eq1 3 18 rfl) (k.eq1 6 21 rfl) (fun _=>rfl) (n_sub (by omega) (IntWalk.u64_in _ (by omega)))) (fun _=>rfl)<| .M cS<| .R (fun k=>v_bin rfl (k.eq1 7 22 rfl) (k.eq1 8 23 rfl) (fun _=>rfl) (n_sub (by omega) (IntWalk.u64_in _ (by omega)))) (fun _=>rfl)<| .B 9 .nil
 refine aftI aq aJ am fun dF bv aM bU aN bV ao=>?_
 have⟨bw,cT,cU,cV⟩:=ao.f4 br aK bs bt
 have bx:=ao.g 10 8
 have bW:=aL.new_ bV
 refine bT _ _ <| wk fun dG bX=>?_
 refine wp_g0 [true,true,true,true,true,false,false] [(5,false),(6,true)] 36
  [ve (sv A1 ds c1),ve (.int .u64 (((((a.getD i 0) + 4294967296) - (b.getD i 0)) - cc:Nat):Int)),ve (.int .u64 ((((((a.getD i 0) + 4294967296) - (b.getD i 0)) - cc) % 4294967296:Nat):Int)),ve (.int .u32 ((((((a.getD i 0) + 4294967296) - (b.getD i 0)) - cc) % 4294967296:Nat):Int)),
  (OP bv.heap.size 59 .u32 ([(((((a.getD i 0) + 4294967296) - (b.getD i 0)) - cc) % 4294967296)])),vt,vt] aM (.eq (.eq (.eq (.eq (.cons (fun _ _ _ n ⟨_,_,e,h⟩=>⟨_,_,e,h.new_ n⟩) (.tt (.tt .nil))))))) ?_ ?_
 refine .M bw<| .M bx<| .R (fun k=>v_bin rfl (k.eq1 1 26 rfl) rfl (fun _=>rfl) (n_andMask64 ((((a.getD i 0) + 4294967296) - (b.getD i 0)) - cc) (by omega))) (fun _=>rfl)<| .R (fun k=>v_conv rfl (k.eq1 2 27 rfl) (n_conv (by kernel_rfl) (by kernel_rfl) (by kernel_rfl) (IntWalk.u32_in _ (by omega)))) (fun _=>rfl) ?_
 refine .o1 (tkA rfl (noG rfl) fun _ w hn k=>(by
  exact x_bslice (k:=.u32) (ps:=[(0,.int .u32 ((((((a.getD i 0) + 4294967296) - (b.getD i 0)) - cc) % 4294967296:Nat):Int))]) [(((((a.getD i 0) + 4294967296) - (b.getD i 0)) - cc) % 4294967296)] rfl (parts1 (k.eq1 3 28 rfl)) elW rfl (by omega) (by omega) (by first|kernel_rfl|(simp only [enc,List.map_cons,List.map_nil,Int.toNat_natCast,Int.toNat_of_nonneg (by omega:(0:Int)≤_)]; kernel_rfl)) fun A1 c2 W' hmo=>⟨A1,c2,rfl,(hmo.more hn.size)⟩)) ?_
 exact .off<| .off .nil
 refine aftI aM bU aN fun aO dH aP bY aA bZ ah=>?_
 have⟨dI,b0,b1,b2⟩:=ah.f4 bw cT cU cV
 have b3:=ah.f1 bx
 have b4:=ah.g 0 25
 obtain⟨b5,aV,av,aW⟩:=ah.G 4 29
 have av:aO.eval (.tmp 29)=sv b5 ([(((((a.getD i 0) + 4294967296) - (b.getD i 0)) - cc) % 4294967296)]) aV:=av
 have aB:=bW.new_ bZ
 have aX:=aW.more aN.size
 have hw120:=aA.size
 refine st_act rfl rfl fun db aY=>a_append (k:=.u32) (b:=w.heap.size) rfl elW b4 aB av aX.row (by first|omega|(simp only [List.length_nil,List.length_cons,List.length_append,List.length_take,List.length_drop,List.length_replicate,List.length_set]; omega)) (by first|omega|(simp only [List.length_nil,List.length_cons,List.length_append,List.length_take,List.length_drop,List.length_replicate,List.length_set]; omega)) hw120 fun af ad dc aZ hg116=>aY _ _ trivial ?_
 have a1:=aA.ownGrown aB hg116
 obtain⟨aw,ae⟩:∃ a',a'=aO.put (some 30) (sv af (ds ++ [(((((a.getD i 0) + 4294967296) - (b.getD i 0)) - cc) % 4294967296)]) ad):=⟨_,rfl⟩
 have⟨aC,a3⟩:=pz2 ae aP bY
 have⟨b6,b7,b8⟩:=pN3 ae b0 b1 b2
 have b9:=pN ae b3
 have aQ:=s7 ae aP
 show stepsTo _ _ _ _ _ (aO.put (some 30) (sv af (ds ++ [(((((a.getD i 0) + 4294967296) - (b.getD i 0)) - cc) % 4294967296)]) ad)) _
 rw [← ae]
 refine sP aQ aC a3 fun ca aD a4 ab ch=>?_
 have⟨cb,cd,ce⟩:=ab.q3 b6 b7 b8
 have⟨cf,dd⟩:=ab.q2 b9 aQ
 refine bX _ _<| wA tr4 [] 36 [ve (.int .u64 (((((a.getD i 0) + 4294967296) - (b.getD i 0)) - cc:Nat):Int)),ve (.int .u64 ((((((a.getD i 0) + 4294967296) - (b.getD i 0)) - cc) / 4294967296:Nat):Int)),ve (.int .u64 ((1 - (((((a.getD i 0) + 4294967296) - (b.getD i 0)) - cc) / 4294967296):Nat):Int)),ve (.int .u64 ((1 - (((((a.getD i 0) + 4294967296) - (b.getD i 0)) - cc) / 4294967296):Nat):Int))] aD ?_ ?_
 exact .M cf<| .T (fun k=>v_bin rfl (k.eq1 0 31 rfl) rfl (fun _=>rfl) (n_shr ((((a.getD i 0) + 4294967296) - (b.getD i 0)) - cc) 32 (by decide)))<| .R (fun k=>v_bin rfl rfl (k.eq1 1 32 rfl) (fun _=>rfl) (n_sub (by omega) (IntWalk.u64_in _ (by omega)))) (fun _=>rfl)<| .B 2 .nil
 refine aftI aD a4 a1 fun de df aE a5 a6 a7 ai=>?_
 have⟨aR,ci,cj,cl⟩:=ai.f4 cb cd ce ch
 have cm:=ai.g 3 6
 have a8:=aZ.new_ a7
 refine bS _ _<| wA [true,true,false] [(2,true)] 36 [ve (iv (i:Int)),ve (iv ((i + 1:Nat):Int)),vt] aE ?_ ?_
 exact .M aR<| .R (fun k=>v_bin rfl (k.eq1 0 13 rfl) rfl (fun _=>rfl) (n_add (by omega) (IntWalk.i64_in _ (by omega)))) (fun _=>rfl)<| .off .nil
 refine aftI aE a5 a6 fun aS dg aF a9 ba bb ag=>?_
 have⟨dh,cn,co,cp⟩:=ag.f4 aR ci cj cl
 have cq:=ag.f1 cm
 have aT:=ag.g 1 14
 have bd:=a8.new_ bb
 refine sP aT aF a9 fun cr be bf ac cw=>?_
 have⟨cs,ct,cu⟩:=ac.q3 cn co cp
 have⟨cv,di⟩:=ac.q2 cq aT
 refine st_nil ?_
 refine then_n ?_
 exact⟨_,⟨i + 1,(ds ++ [(((((a.getD i 0) + 4294967296) - (b.getD i 0)) - cc) % 4294967296)]),1 - (a.getD i 0 + 4294967296 - b.getD i 0 - cc) / 4294967296,af,ad,rfl,be,bf,ba,cu,(cv.trans (congrArg (Value.int .u64) (by omega))),(cw.trans (congrArg (Value.int .i64) (by omega))),cs,ct,bd,(by omega),(by omega),(by simp; omega),hst.1,hst.2⟩,(by omega)⟩
 have aU:=oF an
 have bg:=hB bu an
 refine wf bg<| wp_exit ?_
 refine bG _ _<| wk fun dj bh=>?_
 refine wp_g0 [true,true,true] [] 36
  [ve (sv A1 ds c1),
  (OP az.heap.size 59 .u32 (canon (val ds))),
  (OP az.heap.size 59 .u32 (canon (val ds)))] aq (.eq (.cons (fun _ _ _ n ⟨_,_,e,h⟩=>⟨_,_,e,h.new_ n⟩) (.cons (fun _ _ _ n ⟨_,_,e,h⟩=>⟨_,_,e,h.new_ n⟩) .nil))) ?_ ?_
 refine .M br ?_
 refine .o1 (tkC rfl (noG rfl) rfl fun _ w hn k=>(by
  refine ⟨#[sv A1 ds c1],_,args1 (k.eq1 0 34 rfl),fun w=>by kernel_rfl,rtrimL_c _ _ _ _ (aL.new_ hn).row hd (by omega),?_⟩
  rintro e w' ⟨A5,c6,rfl,hmo,hm⟩
  exact⟨_,rfl,hm,⟨A5,c6,rfl,(hmo.more hn.size)⟩⟩)) ?_
 refine .o1 (tk rfl rfl fun _ w hn k=>(by
  obtain⟨A9,cY,cZ,cx⟩:=k.G 1 35
  exact⟨_,v_assign rfl cZ,⟨A9,cY,rfl,cx⟩⟩)) ?_
 exact .nil
 refine aftI aq aJ am fun cy dk c0 bi bj c3 bk=>?_
 obtain⟨ar,ak,ax,bl⟩:=bk.G 2 4
 have ax:cy.eval (.tmp 4)=sv ar (canon (val ds)) ak:=ax
 have bm:=bl.more am.size
 refine bh _ _<| wp_ret (ret_k bi (v:=sv ar (canon (val ds)) ak) (res_t rfl ax _) ?_)
 have hsp:(canon (val ds))=(canon (val a - val b)):=congrArg canon (minus_end ha hb hd (by omega) hle hv)
 exact⟨ar,ak,congrArg (fun l=>Ending.returned (sv ar l ak)) hsp,by rw [← hsp]; exact bm,bj⟩
theorem rcmp_c (A B:Option Addr) (a b:List Nat) (c d:Nat) (w:World) (hra:SRow w .u32 A a c) (hrb:SRow w .u32 B b d) (ha:Limbs a) (hb:Limbs b) (hsa:a.length≤900000) (hsb:b.length≤900000):Calls Tryz.prog 132 #[sv A a c,sv B b d] w (IsRet (.int .i64 (cmpN (val a) (val b))) w):=wcmp_c A a c B b d w hra hrb ha hb hsa hsb

theorem times_step {l l0 y:List Nat} {i k c u:Nat} (hl:Limbs l) (hy:Limbs y) (hik:i + k < l.length) (hu:u < 4294967296) (hc:c < 4294967296)
    (h:val l + 4294967296 ^ (i + k) * c=val l0 + u * (4294967296 ^ i * val (y.take k))) :
    Limbs (l.set (i + k) ((c + l.getD (i + k) 0 + u * y.getD k 0) % 4294967296))∧(c + l.getD (i + k) 0 + u * y.getD k 0) / 4294967296 < 4294967296∧c + l.getD (i + k) 0 + u * y.getD k 0 < 18446744073709551616 ∧
      val (l.set (i + k) ((c + l.getD (i + k) 0 + u * y.getD k 0) % 4294967296)) + 4294967296 ^ (i + (k + 1)) * ((c + l.getD (i + k) 0 + u * y.getD k 0) / 4294967296)=val l0 + u * (4294967296 ^ i * val (y.take (k + 1))):=by
  have h1:=mul_step hl hy hik hu hc h
  rw [show c + (u * y.getD k 0 + l.getD (i + k) 0)=c + l.getD (i + k) 0 + u * y.getD k 0 by omega] at h1
  exact h1
theorem times_row {a b L L0:List Nat} {i c kk:Nat} (ha:Limbs a) (hb:Limbs b) (hi:i < a.length) (hL:Limbs L) (h0:val L0=val (a.take i) * val b) (hk:kk=b.length + 1)
    (h:val L + 4294967296 ^ (i + kk) * c=val L0 + a.getD i 0 * (4294967296 ^ i * val (b.take kk))):val L=val (a.take (i + 1)) * val b:=by
  subst hk
  rw [List.take_of_length_le (by omega),h0] at h
  have h1:val (a.take i) * val b + a.getD i 0 * (4294967296 ^ i * val b)=val (a.take (i + 1)) * val b:=by
    rw [val_take,Nat.add_mul]
    congr 1
    rw [Nat.mul_left_comm,← Nat.mul_assoc]
  rw [h1] at h
  have h2:=mul_lt ha hb (i + 1)
  rw [show i + 1 + b.length=i + (b.length + 1) by omega] at h2
  rcases Nat.eq_zero_or_pos c with hc|hc
  · rw [hc,Nat.mul_zero,Nat.add_zero] at h; exact h
  · have:4294967296 ^ (i + (b.length + 1))≤4294967296 ^ (i + (b.length + 1)) * c:=Nat.le_mul_of_pos_right _ hc
    omega
theorem limbs_1:Limbs [1]:=Limbs.cons (by omega) Limbs.nil
def RetSS (T:TypeId) (k:IntKind) (xs ys:List Nat) (w:World) (en:Ending) (w':World):Prop:=∃ A c B d,en=.returned (.tuple #[sv A xs c,sv B ys d])∧SOwn w' w.heap.size T k A xs c∧SOwn w' w.heap.size T k B ys d∧New w w'
theorem div_start0 {a b:List Nat} (ha:Limbs a):val a / 2 ^ (32 * a.length) % val b=0:=by
  have:=val_lt ha
  rw [pow32] at this
  rw [Nat.div_eq_of_lt this,Nat.zero_mod]
theorem div_start {a b:List Nat} (ha:Limbs a):val (List.replicate a.length 0)=2 ^ (32 * a.length) * (val a / 2 ^ (32 * a.length) / val b):=by
  have:=val_lt ha
  rw [pow32] at this
  rw [val_rep,Nat.div_eq_of_lt this,Nat.zero_div,Nat.mul_zero]
theorem bit_at {a:List Nat} (ha:Limbs a) {T:Nat}:val a / 2 ^ T % 2=a.getD (T / 32) 0 / 2 ^ (T % 32) % 2:=by
  have h:=bit_of ha (p:=T / 32) (s:=T % 32) (by omega)
  rw [show 32 * (T / 32) + T % 32=T by omega] at h
  exact h
theorem rem_len {b:List Nat} {x:Nat} (hb:Limbs b) (hb0:0 < val b):(canon (x % val b)).length≤b.length:=canon_len_le (Nat.lt_trans (Nat.mod_lt _ hb0) (val_lt hb))
theorem rem_len2 {b:List Nat} {x:Nat} (hb:Limbs b) (hb0:0 < val b) (c:Nat) (hc:c≤1):(canon (2 * (x % val b) + c)).length≤b.length + 1:=by
  refine canon_len_le ?_
  have h1:=Nat.mod_lt x hb0
  have h2:=val_lt hb
  rw [Nat.pow_succ]
  generalize 4294967296 ^ b.length=p at *
  omega
theorem bit_one {x:Nat} (h:decide (((x % 2:Nat):Int)=1)=true):x % 2=1:=by have:=of_decide_eq_true h; omega
theorem bit_nil {x:Nat} (h:decide (((x % 2:Nat):Int)=1)=false):x % 2=0:=by have:=of_decide_eq_false h; omega
theorem cmpN_ge {a b:Nat} (h:decide (cmpN a b < 0)=false):b≤a:=by
  have:=of_decide_eq_false h
  unfold cmpN at this
  split at this
  · omega
  · split at this <;> omega
theorem cmpN_lt {a b:Nat} (h:decide (cmpN a b < 0)=true):a < b:=by
  have:=of_decide_eq_true h
  unfold cmpN at this
  split at this
  · omega
  · split at this <;> omega
theorem set_bit_at {l:List Nat} (hl:Limbs l) {T Q:Nat} (hT:0 < T) (hp:(T - 1) / 32 < l.length) (h:val l=2 ^ T * Q) :
    Limbs (l.set ((T - 1) / 32) (l.getD ((T - 1) / 32) 0 ||| 2 ^ ((T - 1) % 32)))∧val (l.set ((T - 1) / 32) (l.getD ((T - 1) / 32) 0 ||| 2 ^ ((T - 1) % 32)))=2 ^ (T - 1) * (2 * Q + 1)∧l.getD ((T - 1) / 32) 0 ||| 2 ^ ((T - 1) % 32) < 4294967296:=by
  have h1:=set_bit hl (p:=(T - 1) / 32) (s:=(T - 1) % 32) (Q:=Q) hp (by omega) (by rw [show 32 * ((T - 1) / 32) + (T - 1) % 32 + 1=T by omega]; exact h)
  rw [show 32 * ((T - 1) / 32) + (T - 1) % 32=T - 1 by omega] at h1
  exact h1
theorem div_yes1 {V B T q c:Nat} {Q:List Nat} (hB:0 < B) (hb:V / 2 ^ (T - 1) % 2=q) (hT:0 < T) (hc:c≤1) (hqc:q=c) (hq:val Q=2 ^ T * (V / 2 ^ T / B)) (hge:B≤2 * (V / 2 ^ T % B) + c) :
    V / 2 ^ (T - 1) % B=2 * (V / 2 ^ T % B) + c - B∧2 ^ (T - 1) * (2 * (V / 2 ^ T / B) + 1)=2 ^ (T - 1) * (V / 2 ^ (T - 1) / B):=by
  have h1:=div_two V (T - 1)
  rw [show T - 1 + 1=T by omega,hb,hqc] at h1
  obtain⟨h2,h3⟩:=div_yes (H:=V / 2 ^ T) hB hc hge
  rw [h1]
  exact⟨h3,by rw [h2]⟩
theorem div_no1 {V B T q c:Nat} {Q:List Nat} (hB:0 < B) (hb:V / 2 ^ (T - 1) % 2=q) (hT:0 < T) (hc:c≤1) (hqc:q=c) (hq:val Q=2 ^ T * (V / 2 ^ T / B)) (hlt:2 * (V / 2 ^ T % B) + c < B) :
    2 * (V / 2 ^ T % B) + c=V / 2 ^ (T - 1) % B∧val Q=2 ^ (T - 1) * (V / 2 ^ (T - 1) / B):=by
  have h1:=div_two V (T - 1)
  rw [show T - 1 + 1=T by omega,hb,hqc] at h1
  obtain⟨h2,h3⟩:=div_no (H:=V / 2 ^ T) hlt
  rw [h1]
  refine ⟨h3.symm,?_⟩
  rw [h2,hq,← Nat.mul_assoc,← Nat.pow_succ,show (T - 1).succ=T by omega]
theorem rtimes_c (A B:Option Addr) (a b:List Nat) (c d:Nat) (w:World) (hra:SRow w .u32 A a c) (hrb:SRow w .u32 B b d) (ha:Limbs a) (hb:Limbs b) (hsa:a.length≤400000) (hsb:b.length≤400000):Calls prog 129 #[sv A a c,sv B b d] w (RetS 59 .u32 (canon (val a * val b)) w):=by
 refine enter_abs func129 rfl fun a0 aI dQ hp=>?_
 have aI:a0.tmps.size=60:=aI
 have dR:New w w:=Upd.refl _ _
 have hp0:a0.eval (.tmp 0)=sv A a c:=hp 0 _ rfl
 have hp1:a0.eval (.tmp 1)=sv B b d:=hp 1 _ rfl
 refine wk fun K1 dS=>?_
 refine wA tr1 [] 60 [ve (sv none ([]) 0)] aI ?_ ?_
 exact .c .nil
 refine aftI aI dQ dR fun a2 w3 ce dT aT eZ cf=>?_
 have⟨h8,h9⟩:=cf.f2 hp0 hp1
 refine dS _ _ <| wk fun e0 co=>?_
 refine wp_g0 (.replicate 8 true) [] 60
  [ve (sv A a c),ve (iv (a.length:Int)),ve (sv B b d),ve (iv (b.length:Int)),ve (iv ((a.length + b.length:Nat):Int)),ve (iv (((a.length + b.length) + 1:Nat):Int)),
  (OP w3.heap.size 59 .u32 (List.replicate ((a.length + b.length) + 1) 0)),
  (OP w3.heap.size 59 .u32 (List.replicate ((a.length + b.length) + 1) 0))] ce (.eq (.eq (.eq (.eq (.eq (.eq (.cons (fun _ _ _ n ⟨_,_,e,h⟩=>⟨_,_,e,h.new_ n⟩) (.cons (fun _ _ _ n ⟨_,_,e,h⟩=>⟨_,_,e,h.new_ n⟩) .nil)))))))) ?_ ?_
 refine .M h8<| .T (fun k=>v_lenR rfl elW (k.eq1 0 9 rfl))<| .M h9<| .T (fun k=>v_lenR rfl elW (k.eq1 2 11 rfl))<| .R (fun k=>v_bin rfl (k.eq1 1 10 rfl) (k.eq1 3 12 rfl) (fun _=>rfl) (n_add (by omega) (IntWalk.i64_in _ (by omega)))) (fun _=>rfl)<| .R (fun k=>v_bin rfl (k.eq1 4 13 rfl) rfl (fun _=>rfl) (n_add (by omega) (IntWalk.i64_in _ (by omega)))) (fun _=>rfl) ?_
 refine .o1 (tkA rfl (noG rfl) fun _ w hn k=>(by
  exact x_make .u32 rfl (k.eq1 5 14 rfl) (k.eq1 5 14 rfl) elW (by omega) (by omega) (by omega) fun A1 c2 W' hmo=>⟨A1,c2,rfl,(hmo.more hn.size)⟩)) ?_
 refine .o1 (tk rfl rfl fun _ w hn k=>(by
  obtain⟨A5,c6,e7,dV⟩:=k.G 6 15
  exact⟨_,v_assign rfl e7,⟨A5,c6,rfl,dV⟩⟩)) ?_
 exact .nil
 refine aftI ce dT aT fun dW e1 aU cp cq eA aB=>?_
 have⟨dX,dY⟩:=aB.f2 h8 h9
 obtain⟨aV,ag,aW,cr⟩:=aB.G 7 5
 have aW:dW.eval (.tmp 5)=sv aV (List.replicate ((a.length + b.length) + 1) 0) ag:=aW
 have aX:=cr.more aT.size
 refine co _ _ <| wk fun e2 cs=>?_
 refine wk fun e3 ct=>?_
 obtain⟨gg,rfl,hge28⟩:=aX.head (by first|(simp; done)|(simp; omega))
 refine wA tr1 [] 60 [ve (iv 0)] aU ?_ ?_
 exact .c .nil
 refine aftI aU cp cq fun e4 e5 cu cv cw cx ax=>?_
 have⟨dZ,d0,d1⟩:=ax.f3 dX dY aW
 have d2:=ax.g 0 6
 have cy:=aX.new_ cx
 refine ct _ _<| wb<| wp_loopX (fun (mm:Nat) (aa:Act) (ww:World)=>∃ (ii:Nat) (L0:List Nat),mm=a.length - ii∧aa.tmps.size=60∧aa.defers=[]∧New w ww∧aa.eval (.tmp 5)=sv (some ⟨gg,0,none⟩) L0 ag∧aa.eval (.tmp 6)=iv (ii:Int)∧aa.eval (.tmp 0)=sv A a c∧aa.eval (.tmp 1)=sv B b d∧SOwn ww w.heap.size 59 .u32 (some ⟨gg,0,none⟩) L0 ag∧(ii≤a.length)∧(Limbs L0)∧(L0.length=a.length + b.length + 1)∧(val L0=val (a.take ii) * val b)) (fun mm=>mm) ⟨_,⟨0,(List.replicate ((a.length + b.length) + 1) 0),rfl,cu,cv,cw,d1,d2,dZ,d0,cy,(by omega),(Limbs.rep _),(by simp),(by simp [val,val_rep])⟩⟩ ?_
 rintro mm e6 e8 ⟨ii,L0,hmm,aY,cz,cA,d3,ch,ci,d4,cB,hi,cj,hln0,cl⟩
 refine wk fun e9 cC=>wk fun fa cD=>?_
 refine wA tr4 [] 60 [ve (iv (ii:Int)),ve (sv A a c),ve (iv (a.length:Int)),ve (.bool (decide ((ii:Int) < (a.length:Int))))] aY ?_ ?_
 exact .M ch<| .M ci<| .T (fun k=>v_lenR rfl elW (k.eq1 1 17 rfl))<| .T (fun k=>v_bin rfl (k.eq1 0 16 rfl) (k.eq1 2 18 rfl) (fun _=>rfl) (r_lssK rfl)) .nil
 refine aftI aY cz cA fun fb aJ ay aZ aC cE ar=>?_
 have⟨cm,d5,d6,d7⟩:=ar.f4 d3 ch ci d4
 have cn:=ar.g 3 19
 have a1:=cB.new_ cE
 refine cD _ _ ?_
 rcases bc (decide ((ii:Int) < (a.length:Int))) with au|au
 have bp:=oT au
 have cF:=hB cn au
 refine wt cF<| ws<| cC _ _<| wk fun fc cG=>wb ?_
 refine wk fun fd cH=>?_
 refine wA tr1 [] 60 [ve (.int .u64 0)] ay ?_ ?_
 exact .c .nil
 refine aftI ay aZ aC fun fe ff a3 cI cJ cK av=>?_
 have⟨d8,d9,ea,eb⟩:=av.f4 cm d5 d6 d7
 have ec:=av.g 0 7
 have cL:=a1.new_ cK
 refine cH _ _ <| wk fun fg cM=>?_
 refine wA tr1 [] 60 [ve (iv 0)] a3 ?_ ?_
 exact .c .nil
 refine aftI a3 cI cJ fun fh fi cN cO cP cQ an=>?_
 have⟨ed,ee,ef,eg⟩:=an.f4 d8 d9 ea eb
 have eh:=an.f1 ec
 have ei:=an.g 0 8
 have cR:=cL.new_ cQ
 refine cM _ _<| wb<| wp_loopX (fun (mm:Nat) (aa:Act) (ww:World)=>∃ (kk:Nat) (L:List Nat) (cc:Nat),mm=b.length + 1 - kk∧aa.tmps.size=60∧aa.defers=[]∧New w ww∧aa.eval (.tmp 5)=sv (some ⟨gg,0,none⟩) L ag∧aa.eval (.tmp 7)=.int .u64 (cc:Int)∧aa.eval (.tmp 8)=iv (kk:Int)∧aa.eval (.tmp 0)=sv A a c∧aa.eval (.tmp 1)=sv B b d∧aa.eval (.tmp 6)=iv (ii:Int)∧SOwn ww w.heap.size 59 .u32 (some ⟨gg,0,none⟩) L ag∧(kk≤b.length + 1)∧(cc < 4294967296)∧(Limbs L)∧(L.length=a.length + b.length + 1)∧(val L + 4294967296 ^ (ii + kk) * cc=val L0 + a.getD ii 0 * (4294967296 ^ ii * val (b.take kk)))) (fun mm=>mm) ⟨_,⟨0,L0,0,rfl,cN,cO,cP,ed,eh,ei,ef,eg,ee,cR,(by omega),(by omega),cj,hln0,(by simp [val])⟩⟩ ?_
 rintro mm fj fk ⟨kk,L,cc,hmm,aK,bq,br,cS,cT,a4,cU,a5,cV,bs,hk,hc,hL,hln,hv⟩
 refine wk fun eB bt=>wk fun eC bu=>?_
 refine wA tr5 [] 60 [ve (iv (kk:Int)),ve (sv B b d),ve (iv (b.length:Int)),ve (iv ((b.length + 1:Nat):Int)),ve (.bool (decide ((kk:Int) < ((b.length + 1:Nat):Int))))] aK ?_ ?_
 exact .M a4<| .M a5<| .T (fun k=>v_lenR rfl elW (k.eq1 1 23 rfl))<| .R (fun k=>v_bin rfl (k.eq1 2 24 rfl) rfl (fun _=>rfl) (n_add (by omega) (IntWalk.i64_in _ (by omega)))) (fun _=>rfl)<| .T (fun k=>v_bin rfl (k.eq1 0 22 rfl) (k.eq1 3 25 rfl) (fun _=>rfl) (r_lssK rfl)) .nil
 refine aftI aK bq br fun eD eE ao aL ap bv ah=>?_
 have⟨aD,a6,aE,aF⟩:=ah.f4 cS cT a4 cU
 have⟨aG,aw⟩:=ah.f2 a5 cV
 have a7:=ah.g 4 26
 have az:=bs.new_ bv
 refine bu _ _ ?_
 rcases bc (decide ((kk:Int) < ((b.length + 1:Nat):Int))) with al|al
 have a8:=oT al
 have bw:=hB a7 al
 refine wt bw<| ws<| bt _ _<| wk fun eF bx=>wb ?_
 refine wk fun eG bz=>?_
 have hai:=ha.at ii
 have hbk:=hb.at kk
 have hLk:=hL.at (ii + kk)
 have hm:a.getD ii 0 * b.getD kk 0≤4294967295 * 4294967295:=Nat.mul_le_mul (by omega) (by omega)
 have hst:=times_step hL hb (i:=ii) (k:=kk) (by omega) hai hc hv
 refine wp_g0 [true,true,true,true,true,true,true,true,true,true,true,true,true,true,true,true,true,true,true,false] [(19,true)] 60
  [ve (.int .u64 (cc:Int)),ve (sv (some ⟨gg,0,none⟩) L ag),ve (iv (ii:Int)),ve (iv (kk:Int)),ve (iv ((ii + kk:Nat):Int)),ve (.pointer (some ⟨gg,(ii + kk),none⟩)),ve (.int .u32 ((L.getD (ii + kk) 0:Nat):Int)),ve (.int .u64 ((L.getD (ii + kk) 0:Nat):Int)),ve (.int .u64 ((cc + (L.getD (ii + kk) 0):Nat):Int)),ve (sv A a c),ve (iv (ii:Int)),
  (EP (.int .u32 ((a.getD ii 0:Nat):Int))),ve (.int .u32 ((a.getD ii 0:Nat):Int)),ve (.int .u64 ((a.getD ii 0:Nat):Int)),ve (sv B b d),ve (iv (kk:Int)),ve (.int .u64 ((b.getD kk 0:Nat):Int)),ve (.int .u64 (((a.getD ii 0) * (b.getD kk 0):Nat):Int)),ve (.int .u64 (((cc + (L.getD (ii + kk) 0)) + ((a.getD ii 0) * (b.getD kk 0)):Nat):Int)),vt] ao (.eq (.eq (.eq (.eq (.eq (.eq (.eq (.eq (.eq (.eq (.eq (.cons (fun _ _ _ n ⟨_,_,e,h⟩=>⟨_,_,e,h.new_ n⟩) (.eq (.eq (.eq (.eq (.eq (.eq (.eq (.tt .nil)))))))))))))))))))) ?_ ?_
 refine .M a6<| .M aD<| .M aw<| .M aE<| .R (fun k=>v_bin rfl (k.eq1 2 31 rfl) (k.eq1 3 32 rfl) (fun _=>rfl) (n_add (by omega) (IntWalk.i64_in _ (by omega)))) (fun _=>rfl)<| .R (fun k=>v_eptr rfl elW (k.eq1 1 30 rfl) (k.eq1 4 33 rfl) (by omega)) (fun _=>rfl)<| .K 5 rfl (fun p=>l_own isAgg59 (az.new_ p).row (by omega))<| .R (fun k=>v_conv rfl (k.eq1 6 35 rfl) (n_conv (by kernel_rfl) (by kernel_rfl) (by kernel_rfl) (IntWalk.u64_in _ (by omega)))) (fun _=>rfl)<| .R (fun k=>v_bin rfl (k.eq1 0 29 rfl) (k.eq1 7 36 rfl) (fun _=>rfl) (n_add (by omega) (IntWalk.u64_in _ (by omega)))) (fun _=>rfl)<| .M aF<| .M aw ?_
 refine .o1 (tk rfl rfl fun _ w hn k=>(by
  exact x_eaddr (k:=.u32) rfl elW (k.eq1 9 38 rfl) (k.eq1 10 39 rfl) (hra.new_ (ap.transNew hn)) (by omega) fun el em hme=>⟨el,em,rfl,hme⟩)) ?_
 refine .o1 (tk rfl rfl fun _ w hn k=>(by
  obtain⟨fl,fm,en,cW⟩:=k.G 11 40
  exact⟨_,v_load rfl en (l_one isAgg59 cW.1),rfl⟩)) ?_
 exact .R (fun k=>v_conv rfl (k.eq1 12 41 rfl) (n_conv (by kernel_rfl) (by kernel_rfl) (by kernel_rfl) (IntWalk.u64_in _ (by omega)))) (fun _=>rfl)<| .M aG<| .M aE<| .C2 14 15 (fun p=>rword_c _ _ _ (kk:Int) _ (hrb.new_ (ap.transNew p)) hb (by omega))<| .R (fun k=>v_bin rfl (k.eq1 13 42 rfl) (k.eq1 16 45 rfl) (fun _=>rfl) (n_mul (Int.natCast_mul _ _).symm (IntWalk.u64_in _ (by omega)))) (fun _=>rfl)<| .R (fun k=>v_bin rfl (k.eq1 8 37 rfl) (k.eq1 17 46 rfl) (fun _=>rfl) (n_add (by omega) (IntWalk.u64_in _ (by omega)))) (fun _=>rfl)<| .off .nil
 refine aftI ao aL ap fun a9 eH aM bA bB bC ai=>?_
 have⟨cX,eI,cY,cZ⟩:=ai.f4 aD a6 aE aF
 have⟨c0,c1⟩:=ai.f2 aG aw
 have ba:=ai.g 18 47
 have bD:=az.new_ bC
 refine sP ba aM bA fun c3 aN bE ab bf=>?_
 have⟨bb,bd,c5⟩:=ab.q3 cX cY cZ
 have⟨c8,be,eJ⟩:=ab.q3 c0 c1 ba
 refine bz _ _ <| wk fun eK bF=>?_
 refine wA [true,true,true,true,true,true,true,true,false] [(8,false)] 60 [ve (sv (some ⟨gg,0,none⟩) L ag),ve (iv (ii:Int)),ve (iv (kk:Int)),ve (iv ((ii + kk:Nat):Int)),ve (.int .u64 (((cc + (L.getD (ii + kk) 0)) + ((a.getD ii 0) * (b.getD kk 0)):Nat):Int)),ve (.int .u64 ((((cc + (L.getD (ii + kk) 0)) + ((a.getD ii 0) * (b.getD kk 0))) % 4294967296:Nat):Int)),ve (.int .u32 ((((cc + (L.getD (ii + kk) 0)) + ((a.getD ii 0) * (b.getD kk 0))) % 4294967296:Nat):Int)),ve (.pointer (some ⟨gg,(ii + kk),none⟩)),vt] aN ?_ ?_
 exact .M bb<| .M be<| .M bd<| .R (fun k=>v_bin rfl (k.eq1 1 49 rfl) (k.eq1 2 50 rfl) (fun _=>rfl) (n_add (by omega) (IntWalk.i64_in _ (by omega)))) (fun _=>rfl)<| .M bf<| .R (fun k=>v_bin rfl (k.eq1 4 52 rfl) rfl (fun _=>rfl) (n_andMask64 ((cc + (L.getD (ii + kk) 0)) + ((a.getD ii 0) * (b.getD kk 0))) (by omega))) (fun _=>rfl)<| .R (fun k=>v_conv rfl (k.eq1 5 53 rfl) (n_conv (by kernel_rfl) (by kernel_rfl) (by kernel_rfl) (IntWalk.u32_in _ (by omega)))) (fun _=>rfl)<| .R (fun k=>v_eptr rfl elW (k.eq1 0 48 rfl) (k.eq1 3 51 rfl) (by omega)) (fun _=>rfl)<| .off .nil
 refine aftI aN bE bB fun c9 eL aO bG bH bI ae=>?_
 have⟨da,db,dc,dd⟩:=ae.f4 bb bd c5 c8
 have⟨de,bg⟩:=ae.f2 be bf
 have df:=ae.g 6 54
 have dg:=ae.g 7 55
 have bJ:=bD.new_ bI
 obtain⟨eM,-,bh,bK,hge177,bL,ex⟩:=s_elem (P:=prog) (t:=59) (i:=(ii + kk)) (((((cc + (L.getD (ii + kk) 0)) + ((a.getD ii 0) * (b.getD kk 0))) % 4294967296:Nat):Int)) sizeOf59 bJ (by omega) (by omega)
 refine st_act rfl rfl fun eN bM=>a_store' rfl dg df bh (bM _ _ trivial ?_)
 have bN:=bH.tR bL
 have dh:c9.eval (.tmp 5)=sv (some ⟨gg,0,none⟩) (L.set (ii + kk) (((cc + (L.getD (ii + kk) 0)) + ((a.getD ii 0) * (b.getD kk 0))) % 4294967296)) ag:=da.trans (sv_set _ _ _ _ _)
 refine bF _ _<| wA [true,true,false] [(2,true)] 60 [ve (.int .u64 (((cc + (L.getD (ii + kk) 0)) + ((a.getD ii 0) * (b.getD kk 0)):Nat):Int)),ve (.int .u64 ((((cc + (L.getD (ii + kk) 0)) + ((a.getD ii 0) * (b.getD kk 0))) / 4294967296:Nat):Int)),vt] aO ?_ ?_
 exact .M bg<| .T (fun k=>v_bin rfl (k.eq1 0 56 rfl) rfl (fun _=>rfl) (n_shr ((cc + (L.getD (ii + kk) 0)) + ((a.getD ii 0) * (b.getD kk 0))) 32 (by decide)))<| .off .nil
 refine aftI aO bG bN fun bi eO aP bO bP bQ aj=>?_
 have⟨di,dj,dk,dl⟩:=aj.f4 dh db dc dd
 have⟨dm,eP⟩:=aj.f2 de bg
 have bj:=aj.g 1 57
 have bR:=bK.new_ bQ
 refine sP bj aP bO fun dn aQ bS ac dt=>?_
 have⟨dp,bk,dq⟩:=ac.q3 di dj dk
 have⟨dr,ds,eQ⟩:=ac.q3 dl dm bj
 refine bx _ _<| wA [true,true,false] [(2,true)] 60 [ve (iv (kk:Int)),ve (iv ((kk + 1:Nat):Int)),vt] aQ ?_ ?_
 exact .M bk<| .R (fun k=>v_bin rfl (k.eq1 0 27 rfl) rfl (fun _=>rfl) (n_add (by omega) (IntWalk.i64_in _ (by omega)))) (fun _=>rfl)<| .off .nil
 refine aftI aQ bS bP fun bl eR aR bT bU bV ak=>?_
 have⟨du,eS,dv,dw⟩:=ak.f4 dp bk dq dr
 have⟨dx,dy⟩:=ak.f2 ds dt
 have bm:=ak.g 1 28
 have bW:=bR.new_ bV
 refine sP bm aR bT fun dz bX bY ad dF=>?_
 have⟨dA,dB,dC⟩:=ad.q3 du dv dw
 have⟨dD,dE,eT⟩:=ad.q3 dx dy bm
 refine st_nil ?_
 refine then_n ?_
 exact⟨_,⟨kk + 1,(L.set (ii + kk) (((cc + (L.getD (ii + kk) 0)) + ((a.getD ii 0) * (b.getD kk 0))) % 4294967296)),(cc + L.getD (ii + kk) 0 + a.getD ii 0 * b.getD kk 0) / 4294967296,rfl,bX,bY,bU,dA,(dE.trans (congrArg (Value.int .u64) (by omega))),(dF.trans (congrArg (Value.int .i64) (by omega))),dB,dC,dD,bW,(by omega),(by omega),hst.1,(by rw [List.length_set]; exact hln),hst.2.2.2⟩,(by omega)⟩
 have a8:=oF al
 have bZ:=hB a7 al
 refine wf bZ<| wp_exit ?_
 refine cG _ _<| wA [true,true,false] [(2,true)] 60 [ve (iv (ii:Int)),ve (iv ((ii + 1:Nat):Int)),vt] ao ?_ ?_
 exact .M aw<| .R (fun k=>v_bin rfl (k.eq1 0 20 rfl) rfl (fun _=>rfl) (n_add (by omega) (IntWalk.i64_in _ (by omega)))) (fun _=>rfl)<| .off .nil
 refine aftI ao aL ap fun bn eU aS b0 b1 b2 am=>?_
 have⟨dG,dH,dI,eV⟩:=am.f4 aD aF aG aw
 have bo:=am.g 1 21
 have b3:=az.new_ b2
 refine sP bo aS b0 fun dJ b4 b5 af dN=>?_
 have⟨dK,dL,dM⟩:=af.q3 dG dH dI
 have eW:=af.q bo
 refine st_nil ?_
 refine then_n ?_
 exact⟨_,⟨ii + 1,L,rfl,b4,b5,b1,dK,(dN.trans (congrArg (Value.int .i64) (by omega))),dL,dM,b3,(by omega),hL,hln,(times_row ha hb (by omega) hL cl (by omega) hv)⟩,(by omega)⟩
 have bp:=oF au
 have b6:=hB cn au
 refine wf b6<| wp_exit ?_
 refine cs _ _<| wk fun eX b7=>?_
 refine wp_g0 [true,true,true] [] 60
  [ve (sv (some ⟨gg,0,none⟩) L0 ag),
  (OP aJ.heap.size 59 .u32 (canon (val L0))),
  (OP aJ.heap.size 59 .u32 (canon (val L0)))] ay (.eq (.cons (fun _ _ _ n ⟨_,_,e,h⟩=>⟨_,_,e,h.new_ n⟩) (.cons (fun _ _ _ n ⟨_,_,e,h⟩=>⟨_,_,e,h.new_ n⟩) .nil))) ?_ ?_
 refine .M cm ?_
 refine .o1 (tkC rfl (noG rfl) rfl fun _ w hn k=>(by
  refine ⟨#[sv (some ⟨gg,0,none⟩) L0 ag],_,args1 (k.eq1 0 58 rfl),fun w=>by kernel_rfl,rtrimL_c _ _ _ _ (a1.new_ hn).row cj (by first|omega|(simp only [List.length_nil,List.length_cons,List.length_set,List.length_replicate]; omega)),?_⟩
  rintro e w' ⟨es,et,rfl,hmo,hm⟩
  exact⟨_,rfl,hm,⟨es,et,rfl,(hmo.more hn.size)⟩⟩)) ?_
 refine .o1 (tk rfl rfl fun _ w hn k=>(by
  obtain⟨eu,ev,ew,dO⟩:=k.G 1 59
  exact⟨_,v_assign rfl ew,⟨eu,ev,rfl,dO⟩⟩)) ?_
 exact .nil
 refine aftI ay aZ aC fun dP eY ey b8 b9 ez ca=>?_
 obtain⟨aA,aq,aH,cb⟩:=ca.G 2 4
 have aH:dP.eval (.tmp 4)=sv aA (canon (val L0)) aq:=aH
 have cd:=cb.more aC.size
 refine b7 _ _<| wp_ret (ret_k b8 (v:=sv aA (canon (val L0)) aq) (res_t rfl aH _) ?_)
 have hsp:(canon (val L0))=(canon (val a * val b)):=congrArg canon (by rw [cl,List.take_of_length_le (by omega)])
 exact⟨aA,aq,congrArg (fun l=>Ending.returned (sv aA l aq)) hsp,by rw [← hsp]; exact cd,b9⟩
theorem rdivide_c (A B:Option Addr) (a b:List Nat) (c d:Nat) (w:World) (hra:SRow w .u32 A a c) (hrb:SRow w .u32 B b d) (ha:Limbs a) (hb:Limbs b) (hsa:a.length≤10000) (hsb:b.length≤10000) (aX:0 < val b) (i5:0 < a.length):Calls prog 99 #[sv A a c,sv B b d] w (RetSS 59 .u32 (canon (val a / val b)) (canon (val a % val b)) w):=by
 refine enter_abs func99 rfl fun a0 bs gY hp=>?_
 have bs:a0.tmps.size=58:=bs
 have gZ:New w w:=Upd.refl _ _
 have hp0:a0.eval (.tmp 0)=sv A a c:=hp 0 _ rfl
 have hp1:a0.eval (.tmp 1)=sv B b d:=hp 1 _ rfl
 refine wk fun K1 g0=>?_
 refine wA tr2 [] 58 [ve (sv none ([]) 0),ve (sv none ([]) 0)] bs ?_ ?_
 exact .c<| .c .nil
 refine aftI bs gY gZ fun a2 w3 ez g1 cs i6 eA=>?_
 have⟨h8,h9⟩:=eA.f2 hp0 hp1
 refine g0 _ _ <| wk fun i7 eG=>?_
 refine wp_g0 [true,true,true,true] [] 58
  [ve (sv A a c),ve (iv (a.length:Int)),
  (OP w3.heap.size 59 .u32 (List.replicate a.length 0)),
  (OP w3.heap.size 59 .u32 (List.replicate a.length 0))] ez (.eq (.eq (.cons (fun _ _ _ n ⟨_,_,e,h⟩=>⟨_,_,e,h.new_ n⟩) (.cons (fun _ _ _ n ⟨_,_,e,h⟩=>⟨_,_,e,h.new_ n⟩) .nil)))) ?_ ?_
 refine .M h8<| .T (fun k=>v_lenR rfl elW (k.eq1 0 9 rfl)) ?_
 refine .o1 (tkA rfl (noG rfl) fun _ w hn k=>(by
  exact x_make .u32 rfl (k.eq1 1 10 rfl) (k.eq1 1 10 rfl) elW (by omega) (by omega) (by omega) fun A1 c2 W' hmo=>⟨A1,c2,rfl,(hmo.more hn.size)⟩)) ?_
 refine .o1 (tk rfl rfl fun _ w hn k=>(by
  obtain⟨A5,c6,e7,g3⟩:=k.G 2 11
  exact⟨_,v_assign rfl e7,⟨A5,c6,rfl,g3⟩⟩)) ?_
 exact .nil
 refine aftI ez g1 cs fun g4 i8 ct eH eI ih bf=>?_
 have⟨g5,g6⟩:=bf.f2 h8 h9
 obtain⟨cu,aq,cv,eJ⟩:=bf.G 3 6
 have cv:g4.eval (.tmp 6)=sv cu (List.replicate a.length 0) aq:=cv
 have eK:=eJ.more cs.size
 refine eG _ _ <| wk fun i9 eL=>?_
 refine wA tr1 [] 58 [ve (sv none ([]) 0)] ct ?_ ?_
 exact .c .nil
 refine aftI ct eH eI fun ja jb cw eM eN eO a4=>?_
 have⟨eB,g7,g8⟩:=a4.f3 g5 g6 cv
 have g9:=a4.g 0 7
 have cx:=eK.new_ eO
 refine eL _ _ <| wk fun jc eP=>?_
 refine wk fun jd eQ=>?_
 obtain⟨gg,rfl,hge41⟩:=cx.head (by first|(simp; done)|(simp; omega))
 refine wA tr5 [] 58 [ve (sv A a c),ve (iv (a.length:Int)),ve (iv ((32 * a.length:Nat):Int)),ve (iv (((32 * a.length:Nat):Int) - 1)),ve (iv (((32 * a.length:Nat):Int) - 1))] cw ?_ ?_
 exact .M eB<| .T (fun k=>v_lenR rfl elW (k.eq1 0 12 rfl))<| .R (fun k=>v_bin rfl rfl (k.eq1 1 13 rfl) (fun _=>rfl) (n_mul (by omega) (IntWalk.i64_in _ (by omega)))) (fun _=>rfl)<| .R (fun k=>v_bin rfl (k.eq1 2 14 rfl) rfl (fun _=>rfl) (r_sub rfl (by omega))) (fun _=>rfl)<| .B 3 .nil
 refine aftI cw eM eN fun je jf eR eS eT eU aY=>?_
 have⟨hc,hd,hf,hg⟩:=aY.f4 eB g7 g8 g9
 have hh:=aY.g 4 8
 have eV:=cx.new_ eU
 refine eQ _ _<| wb<| wp_loopX (fun (mm:Nat) (aa:Act) (ww:World)=>∃ (T:Nat) (Q:List Nat) (AR:Option Addr) (cR:Nat),mm=T∧aa.tmps.size=58∧aa.defers=[]∧New w ww∧aa.eval (.tmp 6)=sv (some ⟨gg,0,none⟩) Q aq∧aa.eval (.tmp 7)=sv AR (canon (val a / 2 ^ T % val b)) cR∧aa.eval (.tmp 8)=iv ((T:Int) - 1)∧aa.eval (.tmp 0)=sv A a c∧aa.eval (.tmp 1)=sv B b d∧SOwn ww w.heap.size 59 .u32 (some ⟨gg,0,none⟩) Q aq∧SOwn ww (gg + 1) 59 .u32 AR (canon (val a / 2 ^ T % val b)) cR∧(T≤32 * a.length)∧(Limbs Q)∧(Q.length=a.length)∧(val Q=2 ^ T * (val a / 2 ^ T / val b))) (fun mm=>mm) ⟨_,⟨(32 * a.length),(List.replicate a.length 0),none,0,rfl,eR,eS,eT,hf,(hg.trans (by rw [show val a / 2 ^ (32 * a.length) % val b=0 from div_start0 ha,canon_zero])),(hh.trans (congrArg (Value.int .i64) (by omega))),hc,hd,eV,(by rw [show val a / 2 ^ (32 * a.length) % val b=0 from div_start0 ha,canon_zero]; exact SOwn.nil _ _ _ _),(Nat.le_refl _),(Limbs.rep _),List.length_replicate,(div_start ha)⟩⟩ ?_
 rintro mm jg jh ⟨T,Q,AR,cR,hmm,a5,cy,cz,eC,eD,bt,eE,eF,cA,cB,hT,hQ,hln,hq⟩
 refine wk fun ji eW=>wk fun jj cC=>?_
 rcases bc (decide (((T:Int) - 1) < 0)) with aZ|aZ
 have dp:=oT aZ
 refine wA tr2 [] 58 [ve (iv ((T:Int) - 1)),vF] a5 ?_ ?_
 exact .M bt<| .b 0 (r_geqK aZ) .nil
 refine aftI a5 cy cz fun jk bu cD eX eY cE aP=>?_
 have⟨hi,hj,jl,jm⟩:=aP.f4 eC eD bt eE
 have jn:=aP.f1 eF
 have hl:=aP.g 1 17
 have⟨cF,eZ⟩:=nw2 cE cA cB
 refine cC _ _<| wf hl<| wp_exit ?_
 refine eP _ _<| wk fun jo e0=>?_
 refine wp_g0 [true,true,true,true,true] [] 58
  [ve (sv (some ⟨gg,0,none⟩) Q aq),
  (OP bu.heap.size 59 .u32 (canon (val Q))),ve (sv AR (canon (val a / 2 ^ T % val b)) cR),
  (OP bu.heap.size 59 .u32 (canon (val Q))),ve (sv AR (canon (val a / 2 ^ T % val b)) cR)] cD (.eq (.cons (fun _ _ _ n ⟨_,_,e,h⟩=>⟨_,_,e,h.new_ n⟩) (.eq (.cons (fun _ _ _ n ⟨_,_,e,h⟩=>⟨_,_,e,h.new_ n⟩) (.eq .nil))))) ?_ ?_
 refine .M hi ?_
 refine .o1 (tkC rfl (noG rfl) rfl fun _ w hn k=>(by
  refine ⟨#[sv (some ⟨gg,0,none⟩) Q aq],_,args1 (k.eq1 0 55 rfl),fun w=>by kernel_rfl,rtrimL_c _ _ _ _ (cF.new_ hn).row hQ (by first|omega|(simp only [List.length_nil,List.length_cons,List.length_set,List.length_replicate]; omega)),?_⟩
  rintro e w' ⟨hv,hw,rfl,hmo,hm⟩
  exact⟨_,rfl,hm,⟨hv,hw,rfl,(hmo.more hn.size)⟩⟩)) ?_
 refine .M hj ?_
 refine .o1 (tk rfl rfl fun _ w hn k=>(by
  obtain⟨hx,hy,hz,e3⟩:=k.G 1 56
  exact⟨_,v_assign rfl hz,⟨hx,hy,rfl,e3⟩⟩)) ?_
 exact .B 2 .nil
 refine aftI cD eX eY fun hA jp ii e4 e5 e6 cG=>?_
 obtain⟨cH,bg,cI,e8⟩:=cG.G 3 4
 have cI:hA.eval (.tmp 4)=sv cH (canon (val Q)) bg:=cI
 have hC:=cG.g 4 5
 have e9:=eZ.new_ e6
 have fa:=e8.more (Nat.succ_le_of_lt (cF.glt (by omega)))
 refine e0 _ _<| wp_ret (ret_k e4 (v:=.tuple #[sv cH (canon (val Q)) bg,sv AR (canon (val a / 2 ^ T % val b)) cR]) (res_tt rfl cI hC _) ?_)
 have hT0:T=0:=by omega
 have e1:(canon (val Q))=canon (val a / val b):=by rw [hq,hT0]; simp
 have e2:(canon (val a / 2 ^ T % val b))=canon (val a % val b):=by rw [hT0]; simp
 exact⟨cH,bg,AR,cR,by rw [← e1,← e2],by rw [← e1]; exact fa.more (by omega),by rw [← e2]; exact e9.more (by omega),e5⟩
 have dp:=oF aZ
 refine wA tr2 [] 58 [ve (iv ((T:Int) - 1)),vT] a5 ?_ ?_
 exact .M bt<| .b 0 (r_geqK aZ) .nil
 refine aftI a5 cy cz fun fb cJ bv dq dr bw av=>?_
 have⟨fc,bh,fd,fe⟩:=av.f4 eC eD bt eE
 have ff:=av.f1 eF
 have fg:=av.g 1 17
 have⟨bx,a6⟩:=nw2 bw cA cB
 refine cC _ _<| wt fg<| ws ?_
 refine eW _ _<| wk fun ij aT=>wb ?_
 refine wk fun ik ds=>?_
 have fh:fb.eval (.tmp 8)=iv ((T - 1:Nat):Int):=fd.trans (congrArg (Value.int .i64) (by omega))
 obtain⟨P,hP⟩:∃ P,P=(T - 1) / 32:=⟨_,rfl⟩
 obtain⟨s,hs⟩:∃ s,s=(T - 1) % 32:=⟨_,rfl⟩
 have hbt:=bit_at ha (T:=T - 1)
 have hdl:a.getD ((T - 1) / 32) 0 / 2 ^ ((T - 1) % 32)≤a.getD ((T - 1) / 32) 0:=Nat.div_le_self _ _
 have haj:=ha.at ((T - 1) / 32)
 have hlr:(canon (val a / 2 ^ T % val b)).length≤b.length:=rem_len hb aX
 have hl2:(canon (2 * (val a / 2 ^ T % val b))).length≤b.length + 1:=rem_len2 hb aX 0 (by omega)
 have hl3:(canon (2 * (val a / 2 ^ T % val b) + 1)).length≤b.length + 1:=rem_len2 hb aX 1 (by omega)
 refine wp_g0 [true,true,true,false] [(3,true)] 58
  [ve (sv AR (canon (val a / 2 ^ T % val b)) cR),ve (sv AR (canon (val a / 2 ^ T % val b)) cR),
  (OP cJ.heap.size 59 .u32 (canon (val (canon (val a / 2 ^ T % val b)) + val (canon (val a / 2 ^ T % val b))))),vt] bv (.eq (.eq (.cons (fun _ _ _ n ⟨_,_,e,h⟩=>⟨_,_,e,h.new_ n⟩) (.tt .nil)))) ?_ ?_
 refine .M bh<| .M bh ?_
 refine .o1 (tkC rfl (noG rfl) rfl fun _ w hn k=>(by
  refine ⟨#[sv AR (canon (val a / 2 ^ T % val b)) cR,sv AR (canon (val a / 2 ^ T % val b)) cR],_,args2 (k.eq1 0 20 rfl) (k.eq1 1 21 rfl),fun w=>by kernel_rfl,rplus_c _ _ _ _ _ _ _ (a6.new_ hn).row (a6.new_ hn).row (limbs_canon _) (limbs_canon _) (by first|omega|(simp only [List.length_nil,List.length_cons,List.length_set,List.length_replicate]; omega)) (by first|omega|(simp only [List.length_nil,List.length_cons,List.length_set,List.length_replicate]; omega)),?_⟩
  rintro e w' ⟨cu,hF,rfl,hmo,hm⟩
  exact⟨_,rfl,hm,⟨cu,hF,rfl,(hmo.more hn.size)⟩⟩)) ?_
 exact .off .nil
 refine aftI bv dq dr fun bi il bz dt bA bB aw=>?_
 have⟨fi,im,fj,fk⟩:=aw.f4 fc bh fh fe
 have fl:=aw.f1 ff
 obtain⟨ad,ab,a7,du⟩:=aw.G 2 22
 have a7:bi.eval (.tmp 22)=sv ad (canon (val (canon (val a / 2 ^ T % val b)) + val (canon (val a / 2 ^ T % val b)))) ab:=a7
 have⟨dv,ia⟩:=nw2 bB bx a6
 have bC:=du.more (Nat.succ_le_of_lt (bx.glt (by omega)))
 refine sP a7 bz dt fun fm bD dw af cL=>?_
 have⟨fn,bj,cK⟩:=af.q3 fi fj fk
 have⟨fo,io⟩:=af.q2 fl a7
 refine st_nil ?_
 have he147:(canon (val (canon (val a / 2 ^ T % val b)) + val (canon (val a / 2 ^ T % val b))))=(canon (2 * (val a / 2 ^ T % val b))):=by rw [val_canon,Nat.two_mul]
 rw [he147] at cL
 rw [he147] at bC
 refine ds _ _<| wk fun ip bE=>wk fun iq dx=>?_
 refine wp_g0 (.replicate 11 true) [] 58
  [ve (sv A a c),ve (iv ((T - 1:Nat):Int)),ve (iv (((T - 1) / 32:Nat):Int)),
  (EP (.int .u32 ((a.getD ((T - 1) / 32) 0:Nat):Int))),ve (.int .u32 ((a.getD ((T - 1) / 32) 0:Nat):Int)),ve (iv ((T - 1:Nat):Int)),ve (iv (((T - 1) % 32:Nat):Int)),ve (.int .u64 (((T - 1) % 32:Nat):Int)),ve (.int .u32 (((a.getD ((T - 1) / 32) 0) / 2 ^ ((T - 1) % 32):Nat):Int)),ve (.int .u32 ((((a.getD ((T - 1) / 32) 0) / 2 ^ ((T - 1) % 32)) % 2:Nat):Int)),ve (.bool (decide (((((a.getD ((T - 1) / 32) 0) / 2 ^ ((T - 1) % 32)) % 2:Nat):Int)=1)))] bD (.eq (.eq (.eq (.cons (fun _ _ _ n ⟨_,_,e,h⟩=>⟨_,_,e,h.new_ n⟩) (.eq (.eq (.eq (.eq (.eq (.eq (.eq .nil))))))))))) ?_ ?_
 refine .M cK<| .M bj<| .R (fun k=>v_bin rfl (k.eq1 1 24 rfl) rfl (fun _=>rfl) (n_quoN (T - 1) 32 (by omega) (IntWalk.i64_in _ (by omega)))) (fun _=>rfl) ?_
 refine .o1 (tk rfl rfl fun _ w hn k=>(by
  exact x_eaddr (k:=.u32) rfl elW (k.eq1 0 23 rfl) (k.eq1 2 25 rfl) (hra.new_ (bA.transNew hn)) (by omega) fun hI hJ hme=>⟨hI,hJ,rfl,hme⟩)) ?_
 refine .o1 (tk rfl rfl fun _ w hn k=>(by
  obtain⟨jq,jr,hK,fp⟩:=k.G 3 26
  exact⟨_,v_load rfl hK (l_one isAgg59 fp.1),rfl⟩)) ?_
 exact .M bj<| .R (fun k=>v_bin rfl (k.eq1 5 28 rfl) rfl (fun _=>rfl) (n_remN (T - 1) 32 (by omega))) (fun _=>rfl)<| .R (fun k=>v_conv rfl (k.eq1 6 29 rfl) (n_conv (by kernel_rfl) (by kernel_rfl) (by kernel_rfl) (IntWalk.u64_in _ (by omega)))) (fun _=>rfl)<| .R (fun k=>v_bin rfl (k.eq1 4 27 rfl) (k.eq1 7 30 rfl) (fun _=>rfl) (n_shr (a.getD ((T - 1) / 32) 0) ((T - 1) % 32) (by show _ < 32; omega))) (fun _=>rfl)<| .R (fun k=>v_bin rfl (k.eq1 8 31 rfl) rfl (fun _=>rfl) (n_bit32 ((a.getD ((T - 1) / 32) 0) / 2 ^ ((T - 1) % 32)) (by omega))) (fun _=>rfl)<| .b 9 (r_eql rfl) .nil
 refine aftI bD dw bA fun ir a8 ax a9 aN bF ay=>?_
 have⟨bk,bl,bm,a1⟩:=ay.f4 fn bj cK fo
 have aQ:=ay.f1 cL
 have cM:=ay.g 10 33
 have⟨aU,az⟩:=nw2 bF dv bC
 refine dx _ _ ?_
 rcases bc (decide (((((a.getD ((T - 1) / 32) 0) / 2 ^ ((T - 1) % 32)) % 2:Nat):Int)=1)) with ag|ag
 have cN:=oT ag
 have dy:=hB cM ag
 refine wt dy<| wp_g0 [true,true,true,false] [(3,true)] 58
  [ve (sv ad (canon (2 * (val a / 2 ^ T % val b))) ab),
  (OP a8.heap.size 59 .u32 ([1])),
  (OP a8.heap.size 59 .u32 (canon (val (canon (2 * (val a / 2 ^ T % val b))) + val ([1])))),vt] ax (.eq (.cons (fun _ _ _ n ⟨_,_,e,h⟩=>⟨_,_,e,h.new_ n⟩) (.cons (fun _ _ _ n ⟨_,_,e,h⟩=>⟨_,_,e,h.new_ n⟩) (.tt .nil)))) ?_ ?_
 refine .M aQ ?_
 refine .o1 (tkA rfl (noG rfl) fun _ w hn k=>(by
  exact x_bslice (k:=.u32) (ps:=[(0,.int .u32 1)]) [1] rfl (parts1 rfl) elW rfl (by omega) (by omega) (by first|kernel_rfl|(simp only [enc,List.map_cons,List.map_nil,Int.toNat_natCast,Int.toNat_of_nonneg (by omega:(0:Int)≤_)]; kernel_rfl)) fun hR hS W' hmo=>⟨hR,hS,rfl,(hmo.more hn.size)⟩)) ?_
 refine .o1 (tkC rfl (noG rfl) rfl fun _ w hn k=>(by
  obtain⟨hU,hV,hW,fq⟩:=k.G 1 35
  refine ⟨#[sv ad (canon (2 * (val a / 2 ^ T % val b))) ab,sv hU ([1]) hV],_,args2 (k.eq1 0 34 rfl) hW,fun w=>by kernel_rfl,rplus_c _ _ _ _ _ _ _ (az.new_ hn).row fq.row (limbs_canon _) limbs_1 (by first|omega|(simp only [List.length_nil,List.length_cons,List.length_set,List.length_replicate]; omega)) (by first|omega|(simp only [List.length_nil,List.length_cons,List.length_set,List.length_replicate]; omega)),?_⟩
  rintro e w' ⟨hX,hY,rfl,hmo,hm⟩
  exact⟨_,rfl,hm,⟨hX,hY,rfl,(hmo.more hn.size)⟩⟩)) ?_
 exact .off .nil
 refine aftI ax a9 aN fun bn it bG dz aV bH aA=>?_
 have⟨fs,ft,fu,fv⟩:=aA.f4 bk bl bm a1
 have iu:=aA.f1 aQ
 obtain⟨ae,ac,ba,dA⟩:=aA.G 2 36
 have ba:bn.eval (.tmp 36)=sv ae (canon (val (canon (2 * (val a / 2 ^ T % val b))) + val ([1]))) ac:=ba
 have⟨bI,ib⟩:=nw2 bH aU az
 have aO:=dA.more (Nat.succ_le_of_lt (aU.glt (by omega)))
 refine sP ba bG dz fun fw aW bJ ah a3=>?_
 have⟨cO,cP,cQ⟩:=ah.q3 fs ft fu
 have⟨bb,iw⟩:=ah.q2 fv ba
 refine st_nil ?_
 have he196:(canon (val (canon (2 * (val a / 2 ^ T % val b))) + val ([1])))=(canon (2 * (val a / 2 ^ T % val b) + 1)):=by rw [val_canon,val_one]
 rw [he196] at a3
 rw [he196] at aO
 refine bE _ _<| wk fun ix bK=>?_
 rcases bc (decide ((cmpN (val (canon (2 * (val a / 2 ^ T % val b) + 1))) (val b)) < 0)) with ao|ao
 have cS:=oT ao
 refine wA tr4 [] 58 [ve (sv ae (canon (2 * (val a / 2 ^ T % val b) + 1)) ac),ve (sv B b d),ve (iv (cmpN (val (canon (2 * (val a / 2 ^ T % val b) + 1))) (val b))),vF] aW ?_ ?_
 exact .M a3<| .M bb<| .C2 0 1 (fun p=>rcmp_c _ _ _ _ _ _ _ (aO.new_ p).row (hrb.new_ (aV.transNew p)) (limbs_canon _) hb (by first|omega|(simp only [List.length_nil,List.length_cons,List.length_set,List.length_replicate]; omega)) (by first|omega|(simp only [List.length_nil,List.length_cons,List.length_set,List.length_replicate]; omega)))<| .b 2 (r_geqK ao) .nil
 refine aftI aW bJ aV fun iy iz bL dB dC bM aB=>?_
 have⟨fy,cT,fz,fA⟩:=aB.f4 cO cP cQ bb
 have fB:=aB.f1 a3
 have fC:=aB.g 3 40
 have⟨dD,dE⟩:=nw2 bM bI aO
 refine bK _ _<| wf fC<| ws ?_
 refine aT _ _<| wA [true,true,false] [(2,true)] 58 [ve (iv ((T - 1:Nat):Int)),ve (iv (((T - 1:Nat):Int) - 1)),vt] bL ?_ ?_
 exact .M cT<| .R (fun k=>v_bin rfl (k.eq1 0 18 rfl) rfl (fun _=>rfl) (r_sub rfl (by omega))) (fun _=>rfl)<| .off .nil
 refine aftI bL dB dC fun cU iA bN dF dG bO aC=>?_
 have⟨fD,iB,fE,fF⟩:=aC.f4 fy cT fz fA
 have fG:=aC.f1 fB
 have cV:=aC.g 1 19
 have⟨dH,bP⟩:=nw2 bO dD dE
 refine sP cV bN dF fun fH dI dJ ai fL=>?_
 have⟨fI,fJ,fK⟩:=ai.q3 fD fE fF
 have⟨cW,iC⟩:=ai.q2 fG cV
 refine st_nil ?_
 refine then_n ?_
 have hno:=div_no1 (Q:=Q) aX hbt (c:=1) (by omega) (by omega) (bit_one ag) hq (by have:=cmpN_lt ao; rw [val_canon] at this; exact this)
 have he239:(canon (2 * (val a / 2 ^ T % val b) + 1))=(canon (val a / 2 ^ (T - 1) % val b)):=congrArg canon hno.1
 rw [he239] at cW
 rw [he239] at bP
 exact⟨_,⟨T - 1,Q,ae,ac,rfl,dI,dJ,dG,fI,cW,(fL.trans (congrArg (Value.int .i64) (by omega))),fJ,fK,dH,bP,(by omega),hQ,hln,hno.2⟩,(by omega)⟩
 have cS:=oF ao
 refine wA tr4 [] 58 [ve (sv ae (canon (2 * (val a / 2 ^ T % val b) + 1)) ac),ve (sv B b d),ve (iv (cmpN (val (canon (2 * (val a / 2 ^ T % val b) + 1))) (val b))),vT] aW ?_ ?_
 exact .M a3<| .M bb<| .C2 0 1 (fun p=>rcmp_c _ _ _ _ _ _ _ (aO.new_ p).row (hrb.new_ (aV.transNew p)) (limbs_canon _) hb (by first|omega|(simp only [List.length_nil,List.length_cons,List.length_set,List.length_replicate]; omega)) (by first|omega|(simp only [List.length_nil,List.length_cons,List.length_set,List.length_replicate]; omega)))<| .b 2 (r_geqK ao) .nil
 refine aftI aW bJ aV fun iD cX bQ dK bR bS aD=>?_
 have⟨fM,fN,fO,cY⟩:=aD.f4 cO cP cQ bb
 have cZ:=aD.f1 a3
 have fP:=aD.g 3 40
 have⟨bT,bU⟩:=nw2 bS bI aO
 refine bK _ _<| wt fP<| wk fun iE dL=>?_
 refine wp_g0 [true,true,true,false] [(3,true)] 58
  [ve (sv ae (canon (2 * (val a / 2 ^ T % val b) + 1)) ac),ve (sv B b d),
  (OP cX.heap.size 59 .u32 (canon (val (canon (2 * (val a / 2 ^ T % val b) + 1)) - val b))),vt] bQ (.eq (.eq (.cons (fun _ _ _ n ⟨_,_,e,h⟩=>⟨_,_,e,h.new_ n⟩) (.tt .nil)))) ?_ ?_
 refine .M cZ<| .M cY ?_
 refine .o1 (tkC rfl (noG rfl) rfl fun _ w hn k=>(by
  refine ⟨#[sv ae (canon (2 * (val a / 2 ^ T % val b) + 1)) ac,sv B b d],_,args2 (k.eq1 0 41 rfl) (k.eq1 1 42 rfl),fun w=>by kernel_rfl,rminus_c _ _ _ _ _ _ _ (bU.new_ hn).row (hrb.new_ (bR.transNew hn)) (limbs_canon _) hb (by first|omega|(simp only [List.length_nil,List.length_cons,List.length_set,List.length_replicate]; omega)) (by first|omega|(simp only [List.length_nil,List.length_cons,List.length_set,List.length_replicate]; omega)) (cmpN_ge ao),?_⟩
  rintro e w' ⟨h2,h3,rfl,hmo,hm⟩
  exact⟨_,rfl,hm,⟨h2,h3,rfl,(hmo.more hn.size)⟩⟩)) ?_
 exact .off .nil
 refine aftI bQ dK bR fun bo iF bV dM dN bW aE=>?_
 have⟨fQ,fR,fS,fT⟩:=aE.f4 fM fN fO cY
 have iG:=aE.f1 cZ
 obtain⟨aR,aF,bd,dO⟩:=aE.G 2 43
 have bd:bo.eval (.tmp 43)=sv aR (canon (val (canon (2 * (val a / 2 ^ T % val b) + 1)) - val b)) aF:=bd
 have⟨bX,ic⟩:=nw2 bW bT bU
 have bY:=dO.more (Nat.succ_le_of_lt (bT.glt (by omega)))
 refine sP bd bV dM fun fU bZ dP aj c1=>?_
 have⟨c0,bp,fV⟩:=aj.q3 fQ fR fS
 have⟨fW,iH⟩:=aj.q2 fT bd
 refine st_nil ?_
 have hyes:=div_yes1 (Q:=Q) aX hbt (c:=1) (by omega) (by omega) (bit_one ag) hq (by have:=cmpN_ge ao; rw [val_canon] at this; exact this)
 have he285:(canon (val (canon (2 * (val a / 2 ^ T % val b) + 1)) - val b))=(canon (val a / 2 ^ (T - 1) % val b)):=(congrArg (fun z=>canon (z - val b)) (val_canon _)).trans (congrArg canon hyes.1.symm)
 rw [he285] at c1
 rw [he285] at bY
 refine dL _ _ ?_
 have hset:=set_bit_at hQ (T:=T) (by omega) (by omega) hq
 have hQj:=hQ.at ((T - 1) / 32)
 have hor:=hset.2.2
 have hps:2 ^ ((T - 1) % 32) < 2 ^ 32:=Nat.pow_lt_pow_right (by omega) (by omega)
 refine wA [true,true,true,true,true,true,true,true,true,true,true,false] [(11,false)] 58 [ve (sv (some ⟨gg,0,none⟩) Q aq),ve (iv ((T - 1:Nat):Int)),ve (iv (((T - 1) / 32:Nat):Int)),ve (.pointer (some ⟨gg,((T - 1) / 32),none⟩)),ve (.int .u32 ((Q.getD ((T - 1) / 32) 0:Nat):Int)),ve (iv ((T - 1:Nat):Int)),ve (iv (((T - 1) % 32:Nat):Int)),ve (.int .u64 (((T - 1) % 32:Nat):Int)),ve (.int .u32 ((1 * 2 ^ ((T - 1) % 32):Nat):Int)),ve (.int .u32 (((Q.getD ((T - 1) / 32) 0) ||| (1 * 2 ^ ((T - 1) % 32)):Nat):Int)),ve (.pointer (some ⟨gg,((T - 1) / 32),none⟩)),vt] bZ ?_ ?_
 exact .M c0<| .M bp<| .R (fun k=>v_bin rfl (k.eq1 1 45 rfl) rfl (fun _=>rfl) (n_quoN (T - 1) 32 (by omega) (IntWalk.i64_in _ (by omega)))) (fun _=>rfl)<| .R (fun k=>v_eptr rfl elW (k.eq1 0 44 rfl) (k.eq1 2 46 rfl) (by omega)) (fun _=>rfl)<| .K 3 rfl (fun p=>l_own isAgg59 (bX.new_ p).row (by omega))<| .M bp<| .R (fun k=>v_bin rfl (k.eq1 5 49 rfl) rfl (fun _=>rfl) (n_remN (T - 1) 32 (by omega))) (fun _=>rfl)<| .R (fun k=>v_conv rfl (k.eq1 6 50 rfl) (n_conv (by kernel_rfl) (by kernel_rfl) (by kernel_rfl) (IntWalk.u64_in _ (by omega)))) (fun _=>rfl)<| .R (fun k=>v_bin rfl rfl (k.eq1 7 51 rfl) (fun _=>rfl) (n_shl 1 ((T - 1) % 32) (by show _ < 32; omega) (pow_wrap32 _ (by omega)))) (fun _=>rfl)<| .R (fun k=>v_bin rfl (k.eq1 4 48 rfl) (k.eq1 8 52 rfl) (fun _=>rfl) (n_orU32 (Q.getD ((T - 1) / 32) 0) (1 * 2 ^ ((T - 1) % 32)) (by omega) (by omega))) (fun _=>rfl)<| .R (fun k=>v_eptr rfl elW (k.eq1 0 44 rfl) (k.eq1 2 46 rfl) (by omega)) (fun _=>rfl)<| .off .nil
 refine aftI bZ dP dN fun fX iI b0 dQ dR b1 ar=>?_
 have⟨fY,c3,fZ,f0⟩:=ar.f4 c0 bp fV fW
 have f1:=ar.f1 c1
 have f2:=ar.g 9 53
 have f3:=ar.g 10 54
 have⟨dS,dT⟩:=nw2 b1 bX bY
 obtain⟨iJ,-,c5,dU,hge305,b2,id⟩:=s_elem (P:=prog) (t:=59) (i:=((T - 1) / 32)) ((((Q.getD ((T - 1) / 32) 0) ||| (1 * 2 ^ ((T - 1) % 32)):Nat):Int)) sizeOf59 dS (by omega) (by omega)
 refine st_act rfl rfl fun iK dV=>a_store' rfl f3 f2 c5 (dV _ _ trivial ?_)
 have dW:=dT.above b2
 have dX:=dR.tR b2
 have f4:fX.eval (.tmp 6)=sv (some ⟨gg,0,none⟩) (Q.set ((T - 1) / 32) ((Q.getD ((T - 1) / 32) 0) ||| (1 * 2 ^ ((T - 1) % 32)))) aq:=fY.trans (sv_set _ _ _ _ _)
 refine aT _ _<| wA [true,true,false] [(2,true)] 58 [ve (iv ((T - 1:Nat):Int)),ve (iv (((T - 1:Nat):Int) - 1)),vt] b0 ?_ ?_
 exact .M c3<| .R (fun k=>v_bin rfl (k.eq1 0 18 rfl) rfl (fun _=>rfl) (r_sub rfl (by omega))) (fun _=>rfl)<| .off .nil
 refine aftI b0 dQ dX fun c8 iL b3 dY dZ b4 aG=>?_
 have⟨f5,iM,f6,f7⟩:=aG.f4 f4 c3 fZ f0
 have f8:=aG.f1 f1
 have c9:=aG.g 1 19
 have⟨d0,d1⟩:=nw2 b4 dU dW
 refine sP c9 b3 dY fun f9 d2 d3 ak gf=>?_
 have⟨ga,gb,gc⟩:=ak.q3 f5 f6 f7
 have⟨gd,iN⟩:=ak.q2 f8 c9
 refine st_nil ?_
 refine then_n ?_
 exact⟨_,⟨T - 1,(Q.set ((T - 1) / 32) ((Q.getD ((T - 1) / 32) 0) ||| (1 * 2 ^ ((T - 1) % 32)))),aR,aF,rfl,d2,d3,dZ,ga,gd,(gf.trans (congrArg (Value.int .i64) (by omega))),gb,gc,d0,d1,(by omega),(by rw [Nat.one_mul]; exact hset.1),(by rw [List.length_set]; exact hln),(by rw [Nat.one_mul]; exact hset.2.1.trans hyes.2)⟩,(by omega)⟩
 have cN:=oF ag
 have d4:=hB cM ag
 refine wf d4<| ws<| bE _ _<| wk fun iO b5=>?_
 rcases bc (decide ((cmpN (val (canon (2 * (val a / 2 ^ T % val b)))) (val b)) < 0)) with ap|ap
 have da:=oT ap
 refine wA tr4 [] 58 [ve (sv ad (canon (2 * (val a / 2 ^ T % val b))) ab),ve (sv B b d),ve (iv (cmpN (val (canon (2 * (val a / 2 ^ T % val b)))) (val b))),vF] ax ?_ ?_
 exact .M aQ<| .M a1<| .C2 0 1 (fun p=>rcmp_c _ _ _ _ _ _ _ (az.new_ p).row (hrb.new_ (aN.transNew p)) (limbs_canon _) hb (by first|omega|(simp only [List.length_nil,List.length_cons,List.length_set,List.length_replicate]; omega)) (by first|omega|(simp only [List.length_nil,List.length_cons,List.length_set,List.length_replicate]; omega)))<| .b 2 (r_geqK ap) .nil
 refine aftI ax a9 aN fun iP iQ b6 d5 d6 b7 aH=>?_
 have⟨gh,db,gi,gj⟩:=aH.f4 bk bl bm a1
 have gk:=aH.f1 aQ
 have gl:=aH.g 3 40
 have⟨d7,d8⟩:=nw2 b7 aU az
 refine b5 _ _<| wf gl<| ws ?_
 refine aT _ _<| wA [true,true,false] [(2,true)] 58 [ve (iv ((T - 1:Nat):Int)),ve (iv (((T - 1:Nat):Int) - 1)),vt] b6 ?_ ?_
 exact .M db<| .R (fun k=>v_bin rfl (k.eq1 0 18 rfl) rfl (fun _=>rfl) (r_sub rfl (by omega))) (fun _=>rfl)<| .off .nil
 refine aftI b6 d5 d6 fun dc iR b8 d9 ea b9 aI=>?_
 have⟨gm,iS,gn,go⟩:=aI.f4 gh db gi gj
 have gp:=aI.f1 gk
 have dd:=aI.g 1 19
 have⟨eb,ca⟩:=nw2 b9 d7 d8
 refine sP dd b8 d9 fun gq ec ed al gu=>?_
 have⟨gr,gs,gt⟩:=al.q3 gm gn go
 have⟨de,iT⟩:=al.q2 gp dd
 refine st_nil ?_
 refine then_n ?_
 have hno:=div_no1 (Q:=Q) aX hbt (c:=0) (by omega) (by omega) (bit_nil ag) hq (by have:=cmpN_lt ap; rw [val_canon] at this; exact this)
 have he381:(canon (2 * (val a / 2 ^ T % val b)))=(canon (val a / 2 ^ (T - 1) % val b)):=congrArg canon hno.1
 rw [he381] at de
 rw [he381] at ca
 exact⟨_,⟨T - 1,Q,ad,ab,rfl,ec,ed,ea,gr,de,(gu.trans (congrArg (Value.int .i64) (by omega))),gs,gt,eb,ca,(by omega),hQ,hln,hno.2⟩,(by omega)⟩
 have da:=oF ap
 refine wA tr4 [] 58 [ve (sv ad (canon (2 * (val a / 2 ^ T % val b))) ab),ve (sv B b d),ve (iv (cmpN (val (canon (2 * (val a / 2 ^ T % val b)))) (val b))),vT] ax ?_ ?_
 exact .M aQ<| .M a1<| .C2 0 1 (fun p=>rcmp_c _ _ _ _ _ _ _ (az.new_ p).row (hrb.new_ (aN.transNew p)) (limbs_canon _) hb (by first|omega|(simp only [List.length_nil,List.length_cons,List.length_set,List.length_replicate]; omega)) (by first|omega|(simp only [List.length_nil,List.length_cons,List.length_set,List.length_replicate]; omega)))<| .b 2 (r_geqK ap) .nil
 refine aftI ax a9 aN fun iU df cb ee cc cd aJ=>?_
 have⟨gv,gw,gx,dg⟩:=aJ.f4 bk bl bm a1
 have dh:=aJ.f1 aQ
 have gy:=aJ.g 3 40
 have⟨ce,cf⟩:=nw2 cd aU az
 refine b5 _ _<| wt gy<| wk fun iV ef=>?_
 refine wp_g0 [true,true,true,false] [(3,true)] 58
  [ve (sv ad (canon (2 * (val a / 2 ^ T % val b))) ab),ve (sv B b d),
  (OP df.heap.size 59 .u32 (canon (val (canon (2 * (val a / 2 ^ T % val b))) - val b))),vt] cb (.eq (.eq (.cons (fun _ _ _ n ⟨_,_,e,h⟩=>⟨_,_,e,h.new_ n⟩) (.tt .nil)))) ?_ ?_
 refine .M dh<| .M dg ?_
 refine .o1 (tkC rfl (noG rfl) rfl fun _ w hn k=>(by
  refine ⟨#[sv ad (canon (2 * (val a / 2 ^ T % val b))) ab,sv B b d],_,args2 (k.eq1 0 41 rfl) (k.eq1 1 42 rfl),fun w=>by kernel_rfl,rminus_c _ _ _ _ _ _ _ (cf.new_ hn).row (hrb.new_ (cc.transNew hn)) (limbs_canon _) hb (by first|omega|(simp only [List.length_nil,List.length_cons,List.length_set,List.length_replicate]; omega)) (by first|omega|(simp only [List.length_nil,List.length_cons,List.length_set,List.length_replicate]; omega)) (cmpN_ge ap),?_⟩
  rintro e w' ⟨h6,h7,rfl,hmo,hm⟩
  exact⟨_,rfl,hm,⟨h6,h7,rfl,(hmo.more hn.size)⟩⟩)) ?_
 exact .off .nil
 refine aftI cb ee cc fun bq iW ch eg eh ci aK=>?_
 have⟨gz,gA,gB,gC⟩:=aK.f4 gv gw gx dg
 have iX:=aK.f1 dh
 obtain⟨aS,aL,be,ei⟩:=aK.G 2 43
 have be:bq.eval (.tmp 43)=sv aS (canon (val (canon (2 * (val a / 2 ^ T % val b))) - val b)) aL:=be
 have⟨cj,ie⟩:=nw2 ci ce cf
 have cl:=ei.more (Nat.succ_le_of_lt (ce.glt (by omega)))
 refine sP be ch eg fun gD cm ej am dj=>?_
 have⟨di,br,gE⟩:=am.q3 gz gA gB
 have⟨gF,iY⟩:=am.q2 gC be
 refine st_nil ?_
 have hyes:=div_yes1 (Q:=Q) aX hbt (c:=0) (by omega) (by omega) (bit_nil ag) hq (by have:=cmpN_ge ap; rw [val_canon] at this; exact this)
 have he427:(canon (val (canon (2 * (val a / 2 ^ T % val b))) - val b))=(canon (val a / 2 ^ (T - 1) % val b)):=(congrArg (fun z=>canon (z - val b)) (val_canon _)).trans (congrArg canon hyes.1.symm)
 rw [he427] at dj
 rw [he427] at cl
 refine ef _ _ ?_
 have hset:=set_bit_at hQ (T:=T) (by omega) (by omega) hq
 have hQj:=hQ.at ((T - 1) / 32)
 have hor:=hset.2.2
 have hps:2 ^ ((T - 1) % 32) < 2 ^ 32:=Nat.pow_lt_pow_right (by omega) (by omega)
 refine wA [true,true,true,true,true,true,true,true,true,true,true,false] [(11,false)] 58 [ve (sv (some ⟨gg,0,none⟩) Q aq),ve (iv ((T - 1:Nat):Int)),ve (iv (((T - 1) / 32:Nat):Int)),ve (.pointer (some ⟨gg,((T - 1) / 32),none⟩)),ve (.int .u32 ((Q.getD ((T - 1) / 32) 0:Nat):Int)),ve (iv ((T - 1:Nat):Int)),ve (iv (((T - 1) % 32:Nat):Int)),ve (.int .u64 (((T - 1) % 32:Nat):Int)),ve (.int .u32 ((1 * 2 ^ ((T - 1) % 32):Nat):Int)),ve (.int .u32 (((Q.getD ((T - 1) / 32) 0) ||| (1 * 2 ^ ((T - 1) % 32)):Nat):Int)),ve (.pointer (some ⟨gg,((T - 1) / 32),none⟩)),vt] cm ?_ ?_
 exact .M di<| .M br<| .R (fun k=>v_bin rfl (k.eq1 1 45 rfl) rfl (fun _=>rfl) (n_quoN (T - 1) 32 (by omega) (IntWalk.i64_in _ (by omega)))) (fun _=>rfl)<| .R (fun k=>v_eptr rfl elW (k.eq1 0 44 rfl) (k.eq1 2 46 rfl) (by omega)) (fun _=>rfl)<| .K 3 rfl (fun p=>l_own isAgg59 (cj.new_ p).row (by omega))<| .M br<| .R (fun k=>v_bin rfl (k.eq1 5 49 rfl) rfl (fun _=>rfl) (n_remN (T - 1) 32 (by omega))) (fun _=>rfl)<| .R (fun k=>v_conv rfl (k.eq1 6 50 rfl) (n_conv (by kernel_rfl) (by kernel_rfl) (by kernel_rfl) (IntWalk.u64_in _ (by omega)))) (fun _=>rfl)<| .R (fun k=>v_bin rfl rfl (k.eq1 7 51 rfl) (fun _=>rfl) (n_shl 1 ((T - 1) % 32) (by show _ < 32; omega) (pow_wrap32 _ (by omega)))) (fun _=>rfl)<| .R (fun k=>v_bin rfl (k.eq1 4 48 rfl) (k.eq1 8 52 rfl) (fun _=>rfl) (n_orU32 (Q.getD ((T - 1) / 32) 0) (1 * 2 ^ ((T - 1) % 32)) (by omega) (by omega))) (fun _=>rfl)<| .R (fun k=>v_eptr rfl elW (k.eq1 0 44 rfl) (k.eq1 2 46 rfl) (by omega)) (fun _=>rfl)<| .off .nil
 refine aftI cm ej eh fun gG iZ cn ek el co au=>?_
 have⟨gH,dk,gI,gJ⟩:=au.f4 di br gE gF
 have gK:=au.f1 dj
 have gL:=au.g 9 53
 have gM:=au.g 10 54
 have⟨em,en⟩:=nw2 co cj cl
 obtain⟨i0,-,dl,eo,hge447,cp,ig⟩:=s_elem (P:=prog) (t:=59) (i:=((T - 1) / 32)) ((((Q.getD ((T - 1) / 32) 0) ||| (1 * 2 ^ ((T - 1) % 32)):Nat):Int)) sizeOf59 em (by omega) (by omega)
 refine st_act rfl rfl fun i1 ep=>a_store' rfl gM gL dl (ep _ _ trivial ?_)
 have er:=en.above cp
 have es:=el.tR cp
 have gN:gG.eval (.tmp 6)=sv (some ⟨gg,0,none⟩) (Q.set ((T - 1) / 32) ((Q.getD ((T - 1) / 32) 0) ||| (1 * 2 ^ ((T - 1) % 32)))) aq:=gH.trans (sv_set _ _ _ _ _)
 refine aT _ _<| wA [true,true,false] [(2,true)] 58 [ve (iv ((T - 1:Nat):Int)),ve (iv (((T - 1:Nat):Int) - 1)),vt] cn ?_ ?_
 exact .M dk<| .R (fun k=>v_bin rfl (k.eq1 0 18 rfl) rfl (fun _=>rfl) (r_sub rfl (by omega))) (fun _=>rfl)<| .off .nil
 refine aftI cn ek es fun dm i2 cq et eu cr aM=>?_
 have⟨gO,i3,gP,gQ⟩:=aM.f4 gN dk gI gJ
 have gR:=aM.f1 gK
 have dn:=aM.g 1 19
 have⟨ev,ew⟩:=nw2 cr eo er
 refine sP dn cq et fun gS ex ey an gX=>?_
 have⟨gT,gU,gV⟩:=an.q3 gO gP gQ
 have⟨gW,i4⟩:=an.q2 gR dn
 refine st_nil ?_
 refine then_n ?_
 exact⟨_,⟨T - 1,(Q.set ((T - 1) / 32) ((Q.getD ((T - 1) / 32) 0) ||| (1 * 2 ^ ((T - 1) % 32)))),aS,aL,rfl,ex,ey,eu,gT,gW,(gX.trans (congrArg (Value.int .i64) (by omega))),gU,gV,ev,ew,(by omega),(by rw [Nat.one_mul]; exact hset.1),(by rw [List.length_set]; exact hln),(by rw [Nat.one_mul]; exact hset.2.1.trans hyes.2)⟩,(by omega)⟩
theorem wtext_c (a:Bool) (Aa:Option Addr) (ma:List Nat) (ca:Nat) (w:World) (hra:SRow w .u32 Aa ma ca) (ha:Limbs ma):Calls prog 53 #[.agg #[.bool a,sv Aa ma ca]] w (IsRet (.string (strOfNums (textI (goodI a ma)))) w):=by
 refine enter_abs func53 rfl fun a0 aO ds hp=>?_
 have aO:a0.tmps.size=39:=aO
 have cm:New w w:=Upd.refl _ _
 have hp0:a0.eval (.tmp 0)=.agg #[.bool a,sv Aa ma ca]:=hp 0 _ rfl
 refine wk fun K1 dt=>?_
 refine wB tr2 [] [] 39 [IsNew w 26 [.bool a,sv Aa ma ca],ve (.string ⟨#[]⟩)] [0] aO ?_ heN ?_
 exact .X hp0<| .c .nil
 refine aftI aO ds cm fun a2 w3 cn du aJ eR dv=>?_
 obtain⟨q9,h8,cu,cv⟩:=dv.G 0 1
 have ep:=Nat.le_trans cm.size cu
 refine dt _ _ <| wk fun eS cw=>?_
 refine wp_g [true,true,true,false] [] [(3,false)] 39
  [ve (.agg #[.bool a,sv Aa ma ca]),(fun (v_:Value) (W:World)=>∃ (A3:Option Addr) (c4:Nat),v_=.agg #[.bool (decide (goodI a ma < 0)),sv A3 (canon (goodI a ma).natAbs) c4]∧SRow W .u32 A3 (canon (goodI a ma).natAbs) c4),IsNew w3 26 [.bool false,sv none ([]) 0],vt]
  [2] (newsCons (fun v w h=>IsNew.old h) newsNil) cn (.eq (.cons (fun _ _ _ n ⟨_,_,e,h⟩=>⟨_,_,e,h.new_ n⟩) (.nw (.tt .nil)))) ?_ (fun i h=>by cases h) ?_
 refine .L6 h8 cv ?_
 refine .o1 (tkC rfl (noG rfl) rfl fun _ w hn k=>(by
  refine ⟨#[.agg #[.bool a,sv Aa ma ca]],_,args1 (k.eq1 0 8 rfl),fun w=>by kernel_rfl,sgood_c a _ ma _ _ (hra.new_ (aJ.transNew hn)) ha,?_⟩
  rintro e w' ⟨A1,c2,rfl,hmo0,hm⟩
  exact⟨_,rfl,hm,⟨A1,c2,rfl,hmo0⟩⟩)) ?_
 exact .Y<| .off .nil
 refine aftI cn du aJ fun dw eT a5 cx cy er a6=>?_
 obtain⟨ar,ak,a7,cz⟩:=a6.G 1 9
 have a7:dw.eval (.tmp 9)=.agg #[.bool (decide (goodI a ma < 0)),sv ar (canon (goodI a ma).natAbs) ak]:=a7
 obtain⟨aP,co,cA,a8⟩:=a6.G 2 3
 have es:=Nat.le_trans aJ.size cA
 refine sS6 co a7 a8 fun eU cB a9 et=>?_
 have cD:=cz.fr a8 a9
 have cE:=cy.tR a9
 refine cw _ _ <| wk fun eW cF=>?_
 refine wA tr1 [] 39 [ve (.string ⟨#[]⟩)] a5 ?_ ?_
 exact .c .nil
 refine aftI a5 cx cE fun eX eY ba cG cH bb bd=>?_
 have cp:=bd.f1 co
 have dx:=bd.g 0 4
 have⟨be,cI⟩:=nw2 bb cB cD
 refine cF _ _ <| wk fun eZ cJ=>?_
 refine wA tr3 [] 39 [ve (.pointer (some ⟨aP,1,none⟩)),ve (sv ar (canon (goodI a ma).natAbs) ak),ve (sv ar (canon (goodI a ma).natAbs) ak)] ba ?_ ?_
 exact .F cp<| .J 0 isAgg24 be<| .B 1 .nil
 refine aftI ba cG cH fun e0 e1 cK cL cM bf aK=>?_
 have⟨dy,dz⟩:=aK.f2 cp dx
 have dA:=aK.g 2 5
 have⟨cN,bg⟩:=nw2 bf be cI
 refine cJ _ _ <| wk fun e2 cO=>?_
 refine wb<| wp_loopX (fun (mm:Nat) (aa:Act) (ww:World)=>∃ (n:Nat) (t:List Nat) (A1:Option Addr) (c1:Nat),mm=n∧aa.tmps.size=39∧aa.defers=[]∧New w ww∧aa.eval (.tmp 4)=.string (strN t)∧aa.eval (.tmp 5)=sv A1 (canon n) c1∧aa.eval (.tmp 3)=pv aP∧Blk ww aP 26 [.bool (decide (goodI a ma < 0)),sv ar (canon (goodI a ma).natAbs) ak]∧SRow ww .u32 A1 (canon n) c1∧SRow ww .u32 ar (canon (goodI a ma).natAbs) ak∧(lettersN (goodI a ma).natAbs=lettersN n ++ t)∧(t.length + (digs n).length≤78)∧(n < 2 ^ 256)) (fun mm=>mm) ⟨_,⟨(goodI a ma).natAbs,[],ar,ak,rfl,cK,cL,cM,dz,dA,dy,cN,bg,bg,(by simp),(by simpa using digs_big (good_lt ha)),(good_lt ha)⟩⟩ ?_
 rintro mm e3 e4 ⟨n,t,A1,c1,hmm,ay,bh,bi,cq,aQ,cr,bj,bk,bl,htx,hlen,hnb⟩
 refine wk fun e5 cP=>wk fun e6 bm=>?_
 rcases bc (decide (((canon n).length:Int)≤0)) with ac|ac
 have bC:=oT ac
 refine wA tr3 [] 39 [ve (sv A1 (canon n) c1),ve (iv ((canon n).length:Int)),vF] ay ?_ ?_
 exact .M aQ<| .T (fun k=>v_lenR rfl elW (k.eq1 0 12 rfl))<| .b 1 (r_gtrK ac) .nil
 refine aftI ay bh bi fun e7 e8 bn cQ cR aL az=>?_
 have⟨ct,e9,dB⟩:=az.f3 cq aQ cr
 have dC:=az.g 2 14
 have⟨cS,eu,cT⟩:=nw3 aL bj bk bl
 refine bm _ _<| wf dC<| wp_exit ?_
 refine cO _ _<| wk fun fa cU=>wb ?_
 refine wk fun fb cV=>?_
 refine wA tr3 [] 39 [ve (.string (strN t)),ve (.bool (strEq (strN t) ⟨#[]⟩)),ve (.bool (strEq (strN t) ⟨#[]⟩))] bn ?_ ?_
 exact .M ct<| .b 0 (r_eqlS rfl)<| .B 1 .nil
 refine aftI bn cQ cR fun fc fd al aR aS bo aM=>?_
 have⟨cW,cX⟩:=aM.f2 ct dB
 have bp:=aM.g 2 30
 have⟨bD,eh⟩:=nw2 bo cS cT
 refine cV _ _ ?_
 rcases bc (strEq (strN t) ⟨#[]⟩) with af|af
 have bE:=hB bp af
 refine wt bE<| wk fun ev bF=>?_
 refine wA tr1 [] 39 [ve (.string ⟨#[48]⟩)] al ?_ ?_
 exact .c .nil
 refine aftI al aR aS fun ew ex ei bG bH ej bI=>?_
 have cY:=bI.g 0 2
 refine bF _ _<| wp_ret (ret_k bG (v:=.string ⟨#[48]⟩) (res_t rfl cY _) ?_)
 exact⟨congrArg (fun x=>Ending.returned (.string x)) (txt_zero ac af htx),bH⟩
 have bJ:=hB bp af
 refine wf bJ<| wk fun ey bK=>?_
 refine wA tr3 [] 39 [ve (pv aP),ve (.bool (decide (goodI a ma < 0))),ve (.bool (decide (goodI a ma < 0)))] al ?_ ?_
 exact .F cX<| .J 0 isAgg4 bD<| .B 1 .nil
 refine aftI al aR aS fun ez eA am aT aU ek aV=>?_
 have bq:=aV.f1 cW
 have br:=aV.g 2 33
 refine bK _ _ ?_
 rcases bc (decide (goodI a ma < 0)) with ad|ad
 have bs:=oT ad
 have bL:=hB br ad
 refine wt bL<| wk fun eB bM=>?_
 have hsz:(strN t).size≤78:=by rw [strN_size]; omega
 have fe:(⟨#[45]⟩:ByteArray).size=1:=rfl
 refine wA tr3 [] 39 [ve (.string (strN t)),ve (.string (⟨#[45]⟩ ++ (strN t))),ve (.string (⟨#[45]⟩ ++ (strN t)))] am ?_ ?_
 exact .M bq<| .R (fun k=>v_adds rfl rfl (k.eq1 0 36 rfl) (by first|omega|(simp only [strN_size,List.length_cons,List.length_nil] at *; omega))) (fun _=>rfl)<| .B 1 .nil
 refine aftI am aT aU fun eC eD el bN bO em bP=>?_
 have cZ:=bP.g 2 2
 refine bM _ _<| wp_ret (ret_k bN (v:=.string (⟨#[45]⟩ ++ (strN t))) (res_t rfl cZ _) ?_)
 exact⟨congrArg (fun x=>Ending.returned (.string x)) (txt_neg ac af ad htx),bO⟩
 have bs:=oF ad
 have bQ:=hB br ad
 refine wf bQ<| ws<| cU _ _<| wk fun eE bR=>?_
 refine wA tr2 [] 39 [ve (.string (strN t)),ve (.string (strN t))] am ?_ ?_
 exact .M bq<| .B 0 .nil
 refine aftI am aT aU fun eF eG en bS bT eo bU=>?_
 have c0:=bU.g 1 2
 refine bR _ _<| wp_ret (ret_k bS (v:=.string (strN t)) (res_t rfl c0 _) ?_)
 exact⟨congrArg (fun x=>Ending.returned (.string x)) (txt_pos ac af ad htx),bT⟩
 have bC:=oF ac
 refine wA tr3 [] 39 [ve (sv A1 (canon n) c1),ve (iv ((canon n).length:Int)),vT] ay ?_ ?_
 exact .M aQ<| .T (fun k=>v_lenR rfl elW (k.eq1 0 12 rfl))<| .b 1 (r_gtrK ac) .nil
 refine aftI ay bh bi fun eH ab aW bV aA aB an=>?_
 have⟨c3,c5,c6⟩:=an.f3 cq aQ cr
 have c8:=an.g 2 14
 have⟨bW,bX,bY⟩:=nw3 aB bj bk bl
 refine bm _ _<| wt c8<| ws ?_
 refine cP _ _<| wb<| wk fun eI bZ=>?_
 have bt:0 < n:=canon_pos_of ac
 have hl8:=(canon_len8 n).2 hnb
 have hl0:=canon_ne bt
 refine wp_g0 (.replicate 8 true) [] 39
  [ve (sv A1 (canon n) c1),
  (OP ab.heap.size 59 .u32 ([10])),(fun (v_:Value) (W:World)=>∃ (au:Option Addr) (av:Nat) (aw:Option Addr) (ax:Nat),v_=.tuple #[sv au (canon (val (canon n) / val ([10]))) av,sv aw (canon (val (canon n) % val ([10]))) ax]∧SOwn W ab.heap.size 59 .u32 au (canon (val (canon n) / val ([10]))) av∧SOwn W ab.heap.size 59 .u32 aw (canon (val (canon n) % val ([10]))) ax),(fun (v_:Value) (W:World)=>∃ (ag:Option Addr) (ah:Nat) (ai:Option Addr) (aj:Nat),v_=.tuple #[sv ag (canon (val (canon n) / val ([10]))) ah,sv ai (canon (val (canon n) % val ([10]))) aj]∧SOwn W ab.heap.size 59 .u32 ag (canon (val (canon n) / val ([10]))) ah∧SOwn W ab.heap.size 59 .u32 ai (canon (val (canon n) % val ([10]))) aj),
  (OP ab.heap.size 59 .u32 (canon (val (canon n) / val ([10])))),
  (OP ab.heap.size 59 .u32 (canon (val (canon n) % val ([10])))),
  (OP ab.heap.size 59 .u32 (canon (val (canon n) / val ([10])))),
  (OP ab.heap.size 59 .u32 (canon (val (canon n) % val ([10]))))] aW (.eq (.cons (fun _ _ _ n ⟨_,_,e,h⟩=>⟨_,_,e,h.new_ n⟩) (.cons (fun _ _ _ n ⟨_,_,_,_,e,h,i⟩=>⟨_,_,_,_,e,h.new_ n,i.new_ n⟩) (.cons (fun _ _ _ n ⟨_,_,_,_,e,h,i⟩=>⟨_,_,_,_,e,h.new_ n,i.new_ n⟩) (.cons (fun _ _ _ n ⟨_,_,e,h⟩=>⟨_,_,e,h.new_ n⟩) (.cons (fun _ _ _ n ⟨_,_,e,h⟩=>⟨_,_,e,h.new_ n⟩) (.cons (fun _ _ _ n ⟨_,_,e,h⟩=>⟨_,_,e,h.new_ n⟩) (.cons (fun _ _ _ n ⟨_,_,e,h⟩=>⟨_,_,e,h.new_ n⟩) .nil)))))))) ?_ ?_
 refine .M c5 ?_
 refine .o1 (tkA rfl (noG rfl) fun _ w hn k=>(by
  exact x_bslice (k:=.u32) (ps:=[(0,.int .u32 10)]) [10] rfl (parts1 rfl) elW rfl (by omega) (by omega) (by first|kernel_rfl|(simp only [enc,List.map_cons,List.map_nil,Int.toNat_natCast,Int.toNat_of_nonneg (by omega:(0:Int)≤_)]; kernel_rfl)) fun A9 dN W' hmo=>⟨A9,dN,rfl,(hmo.more hn.size)⟩)) ?_
 refine .o1 (tkC rfl (noG rfl) rfl fun _ w hn k=>(by
  obtain⟨dO,dP,dQ,c9⟩:=k.G 1 17
  refine ⟨#[sv A1 (canon n) c1,sv dO ([10]) dP],_,args2 (k.eq1 0 16 rfl) dQ,fun w=>by kernel_rfl,rdivide_c _ _ _ _ _ _ _ (bX.new_ hn) c9.row (limbs_canon _) limbs_10 (by first|omega|(simp only [List.length_nil,List.length_cons,List.length_set,List.length_replicate]; omega)) (by first|omega|(simp only [List.length_nil,List.length_cons,List.length_set,List.length_replicate]; omega)) ten_pos (by omega),?_⟩
  rintro e w' ⟨dR,dS,dT,dU,rfl,hmo,hmp,hm⟩
  exact⟨_,rfl,hm,⟨dR,dS,dT,dU,rfl,(hmo.more hn.size),(hmp.more hn.size)⟩⟩)) ?_
 refine .o1 (tk rfl rfl fun _ w hn k=>(by
  obtain⟨dV,dW,dX,dY,dZ,da,db⟩:=k.G 2 18
  exact⟨_,v_move rfl dZ,⟨dV,dW,dX,dY,rfl,da,db⟩⟩)) ?_
 refine .o1 (tk rfl rfl fun _ w hn k=>(by
  obtain⟨d0,d1,ff,fg,d2,dc,eJ⟩:=k.G 3 15
  exact⟨_,v_extract rfl d2 rfl,⟨d0,d1,rfl,dc⟩⟩)) ?_
 refine .o1 (tk rfl rfl fun _ w hn k=>(by
  obtain⟨fh,fi,d3,d4,d5,eK,dd⟩:=k.G 3 15
  exact⟨_,v_extract rfl d5 rfl,⟨d3,d4,rfl,dd⟩⟩)) ?_
 refine .o1 (tk rfl rfl fun _ w hn k=>(by
  obtain⟨d6,d7,d8,de⟩:=k.G 4 19
  exact⟨_,v_assign rfl d8,⟨d6,d7,rfl,de⟩⟩)) ?_
 refine .o1 (tk rfl rfl fun _ w hn k=>(by
  obtain⟨d9,ea,eb,df⟩:=k.G 5 20
  exact⟨_,v_assign rfl eb,⟨d9,ea,rfl,df⟩⟩)) ?_
 exact .nil
 refine aftI aW bV aA fun bu bv aX b0 b1 aY ao=>?_
 have⟨bw,dg⟩:=ao.f2 c3 c6
 obtain⟨aC,ap,aD,b2⟩:=ao.G 6 6
 have aD:bu.eval (.tmp 6)=sv aC (canon (val (canon n) / val ([10]))) ap:=aD
 obtain⟨aN,aE,aF,b3⟩:=ao.G 7 7
 have aF:bu.eval (.tmp 7)=sv aN (canon (val (canon n) % val ([10]))) aE:=aF
 have⟨b4,b5⟩:=nw2 aY bW bY
 have aZ:=b2.more aA.size
 have a1:=b3.more aA.size
 refine st_nil ?_
 have he187:(canon (val (canon n) / val ([10])))=(canon (n / 10)):=by rw [val_canon]; rfl
 rw [he187] at aD
 rw [he187] at aZ
 have he188:(canon (val (canon n) % val ([10])))=(canon (n % 10)):=by rw [val_canon]; rfl
 rw [he188] at aF
 rw [he188] at a1
 refine bZ _ _<| wk fun eL b6=>?_
 have hdg:(canon (n % 10)).getD 0 0=n % 10:=canon_small (by omega)
 have hsz:(strN t).size≤78:=by rw [strN_size]; omega
 refine wp_g0 [true,true,true,true,true,true,true,true,false] [(8,true)] 39
  [ve (sv aN (canon (n % 10)) aE),ve (.int .u64 (((canon (n % 10)).getD 0 0:Nat):Int)),ve (.int .u64 ((48 + ((canon (n % 10)).getD 0 0):Nat):Int)),ve (.int .u8 (((48 + ((canon (n % 10)).getD 0 0)) % 256:Nat):Int)),
  (OP bv.heap.size 5 .u8 ([((48 + ((canon (n % 10)).getD 0 0)) % 256)])),ve (.string (strN ([((48 + ((canon (n % 10)).getD 0 0)) % 256)]))),ve (.string (strN t)),ve (.string ((strN ([((48 + ((canon (n % 10)).getD 0 0)) % 256)])) ++ (strN t))),vt] aX (.eq (.eq (.eq (.eq (.cons (fun _ _ _ n ⟨_,_,e,h⟩=>⟨_,_,e,h.new_ n⟩) (.eq (.eq (.eq (.tt .nil))))))))) ?_ ?_
 refine .M aF<| .D (fun k=>args2 (k.eq1 0 21 rfl) rfl) (fun p=>sword_c _ _ _ 0 _ (a1.new_ p).row (limbs_canon _) (by omega))<| .R (fun k=>v_bin rfl rfl (k.eq1 1 22 rfl) (fun _=>rfl) (n_add (by omega) (IntWalk.u64_in _ (by omega)))) (fun _=>rfl)<| .T (fun k=>v_conv rfl (k.eq1 2 23 rfl) (n_conv (by kernel_rfl) (by kernel_rfl) (by kernel_rfl) (n_wrap8 _))) ?_
 refine .o1 (tkA rfl (noG rfl) fun _ w hn k=>(by
  exact x_bslice (k:=.u8) (ps:=[(0,.int .u8 (((48 + ((canon (n % 10)).getD 0 0)) % 256:Nat):Int))]) [((48 + ((canon (n % 10)).getD 0 0)) % 256)] rfl (parts1 (k.eq1 3 24 rfl)) elB rfl (by omega) (by omega) (by first|kernel_rfl|(simp only [enc,List.map_cons,List.map_nil,Int.toNat_natCast,Int.toNat_of_nonneg (by omega:(0:Int)≤_)]; kernel_rfl)) fun ee ef W' hmo=>⟨ee,ef,rfl,(hmo.more hn.size)⟩)) ?_
 refine .o1 (tk rfl rfl fun _ w hn k=>(by
  obtain⟨fj,fk,eg,dh⟩:=k.G 4 25
  exact⟨_,v_strB (e:=5) rfl eg dh.row (by kernel_rfl) (by kernel_rfl) (by kernel_rfl),rfl⟩)) ?_
 exact .M bw<| .R (fun k=>v_adds rfl (k.eq1 5 26 rfl) (k.eq1 6 27 rfl) (by first|omega|(simp only [strN_size,List.length_cons,List.length_nil] at *; omega))) (fun _=>rfl)<| .off .nil
 refine aftI aX b0 b1 fun bx eM a3 b7 b8 aG aq=>?_
 have⟨eN,di,dj⟩:=aq.f3 bw dg aD
 have bz:=aq.g 7 28
 have⟨b9,cb,cc⟩:=nw3 aG b4 b5 aZ
 refine sP bz a3 b7 fun bA a4 cd ae dm=>?_
 have⟨dk,dl,eO⟩:=ae.q3 di dj bz
 refine st_nil ?_
 have dn:bA.eval (.tmp 4)=.string (strN ((48 + n % 10) :: t)):=dm.trans (by rw [hdg,strN_app,show (48 + n % 10) % 256=48 + n % 10 by omega]; rfl)
 refine b6 _ _<| wA tr2 [] 39 [ve (sv aC (canon (n / 10)) ap),ve (sv aC (canon (n / 10)) ap)] a4 ?_ ?_
 exact .M dl<| .B 0 .nil
 refine aftI a4 cd b8 fun eP eQ ce cf ch aH aI=>?_
 have⟨dp,dq⟩:=aI.f2 dk dn
 have dr:=aI.g 1 5
 have⟨ci,cj,cl⟩:=nw3 aH b9 cb cc
 refine st_nil ?_
 refine blk_n ?_
 refine then_n ?_
 exact⟨_,⟨n / 10,((48 + n % 10) :: t),aC,ap,rfl,ce,cf,ch,dq,dr,dp,ci,cl.row,cj,(txt_step bt htx),(txt_len bt hlen),(Nat.lt_of_le_of_lt (Nat.div_le_self _ _) hnb)⟩,(by omega)⟩
def wNeg_c_P (a:Bool) (Aa:Option Addr) (ma:List Nat) (ca:Nat) (w:World) (en:Ending) (w':World):Prop:=∃ (Ar0:Option Addr) (cr0:Nat),en=.returned (.agg #[.bool (decide (-(goodI a ma) < 0)),sv Ar0 (canon (-(goodI a ma)).natAbs) cr0])∧SRow w' .u32 Ar0 (canon (-(goodI a ma)).natAbs) cr0∧New w w'
theorem wNeg_c (a:Bool) (Aa:Option Addr) (ma:List Nat) (ca:Nat) (w:World) (hra:SRow w .u32 Aa ma ca) (ha:Limbs ma):Calls prog 88 #[.agg #[.bool a,sv Aa ma ca]] w (wNeg_c_P a Aa ma ca w):=by
 refine enter_abs func88 rfl fun a0 ar br hp=>?_
 have ar:a0.tmps.size=12:=ar
 have au:New w w:=Upd.refl _ _
 have hp0:a0.eval (.tmp 0)=.agg #[.bool a,sv Aa ma ca]:=hp 0 _ rfl
 have h8:=(canon_len8 _).2 (good_lt (b:=a) ha)
 refine wk fun K1 bs=>?_
 refine wB tr2 [] [] 12 [IsNew w 26 [.bool a,sv Aa ma ca],IsNew w 26 [.bool false,sv none ([]) 0]] [0,1] ar ?_ heN ?_
 exact .X hp0<| .Y .nil
 refine aftI ar br au fun a2 w3 aS bt ap bI av=>?_
 obtain⟨q9,h8,aY,aZ⟩:=av.G 0 1
 obtain⟨aT,aU,a1,aw⟩:=av.G 1 2
 have hne16:=av.ne 0 1 1 2 h8 aU
 have bB:=Nat.le_trans au.size aY
 have bC:=Nat.le_trans au.size a1
 refine bs _ _ <| wk fun bJ a3=>?_
 refine wp_g [true,true,true,false] [] [(3,false)] 12
  [ve (.agg #[.bool a,sv Aa ma ca]),(fun (v_:Value) (W:World)=>∃ (A3:Option Addr) (c4:Nat),v_=.agg #[.bool (decide (goodI a ma < 0)),sv A3 (canon (goodI a ma).natAbs) c4]∧SRow W .u32 A3 (canon (goodI a ma).natAbs) c4),IsNew w3 26 [.bool false,sv none ([]) 0],vt]
  [2] (newsCons (fun v w h=>IsNew.old h) newsNil) aS (.eq (.cons (fun _ _ _ n ⟨_,_,e,h⟩=>⟨_,_,e,h.new_ n⟩) (.nw (.tt .nil)))) ?_ (fun i h=>by cases h) ?_
 refine .L6 h8 aZ ?_
 refine .o1 (tkC rfl (noG rfl) rfl fun _ w hn k=>(by
  refine ⟨#[.agg #[.bool a,sv Aa ma ca]],_,args1 (k.eq1 0 4 rfl),fun w=>by kernel_rfl,sgood_c a _ ma _ _ (hra.new_ (ap.transNew hn)) ha,?_⟩
  rintro e w' ⟨A1,c2,rfl,hmo0,hm⟩
  exact⟨_,rfl,hm,⟨A1,c2,rfl,hmo0⟩⟩)) ?_
 exact .Y<| .off .nil
 refine aftI aS bt ap fun bu bK al ax a4 a5 aq=>?_
 have aV:=aq.f1 aU
 obtain⟨ai,ab,ay,a6⟩:=aq.G 1 5
 have ay:bu.eval (.tmp 5)=.agg #[.bool (decide (goodI a ma < 0)),sv ai (canon (goodI a ma).natAbs) ab]:=ay
 obtain⟨an,ao,az,aA⟩:=aq.G 2 3
 have a7:=aw.new_ a5
 have hne37:aT ≠ an:=by have h1:=aw.lt; have h2:=az; omega
 have bD:=Nat.le_trans ap.size az
 refine sS6 ao ay aA fun bL am aB a8=>?_
 have aC:=a6.fr aA aB
 have aD:=a8 hne37 a7
 have aE:=a4.tR aB
 refine a3 _ _ <| wk fun bN aF=>?_
 rcases bc (decide (goodI a ma < 0)) with aa|aa
 have aP:=oT aa
 refine wp_g0 [true,true,true,true,true,true,false] [(6,false)] 12
  [ve (pv an),vT,vF,ve (.pointer (some ⟨an,1,none⟩)),ve (sv ai (canon (goodI a ma).natAbs) ab),(fun (v_:Value) (W:World)=>∃ (ae:Option Addr) (af:Nat),v_=.agg #[.bool (decide (sgn false (val (canon (goodI a ma).natAbs)) < 0)),sv ae (canon (sgn false (val (canon (goodI a ma).natAbs))).natAbs) af]∧SRow W .u32 ae (canon (sgn false (val (canon (goodI a ma).natAbs))).natAbs) af),vt] al (.eq (.eq (.eq (.eq (.eq (.cons (fun _ _ _ n ⟨_,_,e,h⟩=>⟨_,_,e,h.new_ n⟩) (.tt .nil))))))) ?_ ?_
 refine .F ao<| .o1 (tk rfl rfl fun _ w hn k=>⟨_,v_load rfl (k.eq1 0 6 rfl) (l_one isAgg4 ((am.new_ hn).cell 0)),congrArg Value.bool aa⟩)<| .T (fun k=>v_not rfl (k.eq1 1 7 rfl))<| .F ao<| .J 3 isAgg24 am ?_
 refine .o1 (tkC rfl (noG rfl) rfl fun _ w hn k=>(by
  refine ⟨#[.bool false,sv ai (canon (goodI a ma).natAbs) ab],_,args2 (k.eq1 2 8 rfl) (k.eq1 4 10 rfl),fun w=>by kernel_rfl,smade_c false _ (canon (goodI a ma).natAbs) _ _ (aC.new_ hn) (limbs_canon _) (by first|omega|(simp only [List.length_nil,List.length_take,List.length_drop]; omega)|(simp only [List.length_cons,List.length_nil]; omega)),?_⟩
  rintro e w' ⟨A9,bv,rfl,hmo0,hm⟩
  exact⟨_,rfl,hm,⟨A9,bv,rfl,hmo0⟩⟩)) ?_
 exact .off .nil
 refine aftI al ax aE fun bw bO bE ba bb bd aG=>?_
 have aW:=aG.f1 aV
 obtain⟨aj,ac,aH,be⟩:=aG.G 5 11
 have aH:bw.eval (.tmp 11)=.agg #[.bool (decide (sgn false (val (canon (goodI a ma).natAbs)) < 0)),sv aj (canon (sgn false (val (canon (goodI a ma).natAbs))).natAbs) ac]:=aH
 have aI:=aD.new_ bd
 refine sS6 aW aH aI fun bP bf aJ bF=>?_
 have bh:=be.fr aI aJ
 have bi:=bb.tR aJ
 refine aF _ _<| wp_ret (ret_k ba (v:=.agg #[.bool (decide (sgn false (val (canon (goodI a ma).natAbs)) < 0)),sv aj (canon (sgn false (val (canon (goodI a ma).natAbs))).natAbs) ac]) (res_c rfl aW (l_two isAgg26 sizeOf26 bf)) ?_)
 have hz1:sgn false (val (canon (goodI a ma).natAbs)) = -(goodI a ma):=neg_sgn aa
 exact⟨aj,ac,congrArg (fun z:Int=>Ending.returned (Value.agg #[.bool (decide (z < 0)),sv aj (canon z.natAbs) ac])) hz1,Eq.mp (congrArg (fun z:Int=>SRow _ .u32 aj (canon z.natAbs) ac) hz1) bh,bi⟩
 have aP:=oF aa
 refine wp_g0 [true,true,true,true,true,true,false] [(6,false)] 12
  [ve (pv an),vF,vT,ve (.pointer (some ⟨an,1,none⟩)),ve (sv ai (canon (goodI a ma).natAbs) ab),(fun (v_:Value) (W:World)=>∃ (ag:Option Addr) (ah:Nat),v_=.agg #[.bool (decide (sgn true (val (canon (goodI a ma).natAbs)) < 0)),sv ag (canon (sgn true (val (canon (goodI a ma).natAbs))).natAbs) ah]∧SRow W .u32 ag (canon (sgn true (val (canon (goodI a ma).natAbs))).natAbs) ah),vt] al (.eq (.eq (.eq (.eq (.eq (.cons (fun _ _ _ n ⟨_,_,e,h⟩=>⟨_,_,e,h.new_ n⟩) (.tt .nil))))))) ?_ ?_
 refine .F ao<| .o1 (tk rfl rfl fun _ w hn k=>⟨_,v_load rfl (k.eq1 0 6 rfl) (l_one isAgg4 ((am.new_ hn).cell 0)),congrArg Value.bool aa⟩)<| .T (fun k=>v_not rfl (k.eq1 1 7 rfl))<| .F ao<| .J 3 isAgg24 am ?_
 refine .o1 (tkC rfl (noG rfl) rfl fun _ w hn k=>(by
  refine ⟨#[.bool true,sv ai (canon (goodI a ma).natAbs) ab],_,args2 (k.eq1 2 8 rfl) (k.eq1 4 10 rfl),fun w=>by kernel_rfl,smade_c true _ (canon (goodI a ma).natAbs) _ _ (aC.new_ hn) (limbs_canon _) (by first|omega|(simp only [List.length_nil,List.length_take,List.length_drop]; omega)|(simp only [List.length_cons,List.length_nil]; omega)),?_⟩
  rintro e w' ⟨bx,bz,rfl,hmo0,hm⟩
  exact⟨_,rfl,hm,⟨bx,bz,rfl,hmo0⟩⟩)) ?_
 exact .off .nil
 refine aftI al ax aE fun bA bR bG bj bk bl aK=>?_
 have aX:=aK.f1 aV
 obtain⟨ak,ad,aL,bm⟩:=aK.G 5 11
 have aL:bA.eval (.tmp 11)=.agg #[.bool (decide (sgn true (val (canon (goodI a ma).natAbs)) < 0)),sv ak (canon (sgn true (val (canon (goodI a ma).natAbs))).natAbs) ad]:=aL
 have aM:=aD.new_ bl
 refine sS6 aX aL aM fun bS bn aN bH=>?_
 have bp:=bm.fr aM aN
 have bq:=bk.tR aN
 refine aF _ _<| wp_ret (ret_k bj (v:=.agg #[.bool (decide (sgn true (val (canon (goodI a ma).natAbs)) < 0)),sv ak (canon (sgn true (val (canon (goodI a ma).natAbs))).natAbs) ad]) (res_c rfl aX (l_two isAgg26 sizeOf26 bn)) ?_)
 have hz1:sgn true (val (canon (goodI a ma).natAbs)) = -(goodI a ma):=neg_sgn aa
 exact⟨ak,ad,congrArg (fun z:Int=>Ending.returned (Value.agg #[.bool (decide (z < 0)),sv ak (canon z.natAbs) ad])) hz1,Eq.mp (congrArg (fun z:Int=>SRow _ .u32 ak (canon z.natAbs) ad) hz1) bp,bq⟩
def wparse_0_P (s:ByteArray) (w:World) (en:Ending) (w':World):Prop:=∃ (Ar0:Option Addr) (cr0:Nat),en=.returned (.tuple #[.agg #[.bool (decide ((parseZ s.data.toList).1 < 0)),sv Ar0 (canon ((parseZ s.data.toList).1).natAbs) cr0],iv ((parseZ s.data.toList).2)])∧SRow w' .u32 Ar0 (canon ((parseZ s.data.toList).1).natAbs) cr0∧New w w'
theorem wparse_0 (s:ByteArray) (w:World) (hs:s.size≤100000) (h0:s.size=0):Calls prog 87 #[.string s] w (wparse_0_P s w):=by
 refine enter_abs func87 rfl fun a0 ag ba hp=>?_
 have ag:a0.tmps.size=78:=ag
 have ap:New w w:=Upd.refl _ _
 have hp0:a0.eval (.tmp 0)=.string s:=hp 0 _ rfl
 refine wk fun K1 bb=>?_
 refine wB tr2 [] [] 78 [IsNew w 26 [.bool false,sv none ([]) 0],ve (iv 0)] [0] ag ?_ heN ?_
 exact .Y<| .c .nil
 refine aftI ag ba ap fun a2 w3 aq bd aA bw ar=>?_
 have h8:=ar.f1 hp0
 obtain⟨bx,h9,aB,aC⟩:=ar.G 0 2
 have bs:=Nat.le_trans ap.size aB
 refine bb _ _ <| wk fun bz aD=>?_
 have ae:(decide ((s.size:Int)≤0))=true:=decide_eq_true (by omega)
 have br:=oT ae
 refine wA tr9 [] 78 [ve (.string s),ve (iv (s.size:Int)),vF,vF,vU,vU,vU,vF,vF] aq ?_ ?_
 exact .M h8<| .T (fun k=>v_lenS rfl (k.eq1 0 9 rfl) (by kernel_rfl))<| .b 1 (r_gtrK ae)<| .N 2<| .S<| .S<| .S<| .T (fun k=>v_pickF rfl (k.eq1 3 12 rfl) rfl)<| .B 7 .nil
 refine aftI aq bd aA fun bA bB ah aE aF aG af=>?_
 have⟨au,be⟩:=af.f2 h8 h9
 have bf:=af.g 8 4
 have aH:=aC.new_ aG
 refine aD _ _ <| wk fun bC aI=>?_
 refine wA tr2 [] 78 [ve (.string s),ve (.string s)] ah ?_ ?_
 exact .M au<| .B 0 .nil
 refine aftI ah aE aF fun bD bE ai aJ aK aL ac=>?_
 have⟨bg,bh,av⟩:=ac.f3 au be bf
 have bi:=ac.g 1 5
 have aM:=aH.new_ aL
 refine aI _ _ <| wk fun bF aN=>?_
 refine wk fun bG aO=>?_
 refine wA tr1 [] 78 [vF] ai ?_ ?_
 exact .M av .nil
 refine aftI ai aJ aK fun bH bI aj aP aQ aR ab=>?_
 have⟨bJ,bj,bk,aw⟩:=ab.f4 bg bh av bi
 have bl:=ab.g 0 18
 have aS:=aM.new_ aR
 refine aO _ _<| wf bl<| ws ?_
 refine aN _ _<| wk fun bK bt=>wk fun bL aT=>?_
 have hR:PRel s false s:=prel_pos (.inl ae)
 have hds0:=str_size0 (s:=s)
 have ak:(strEq s ⟨#[]⟩)=true:=strEq_nil0 h0
 refine wA tr15 [] 78 [ve (.string s),vT,vT,vU,vU,vU,vU,vU,vU,vU,vU,vU,vU,vU,vT] aj ?_ ?_
 exact .M aw<| .b 0 (r_eqlS ak)<| .N 1<| .S<| .S<| .S<| .S<| .o1 (su rfl rfl rfl (fun _ _ _ k=>k.eq1 6 27 rfl) (fun _=>rfl))<| .o1 (su rfl rfl rfl (fun _ _ _ k=>k.eq1 6 27 rfl) (fun _=>rfl))<| .o1 (su rfl rfl rfl (fun _ _ _ k=>k.eq1 6 27 rfl) (fun _=>rfl))<| .o1 (su rfl rfl rfl (fun _ _ _ k=>k.eq1 6 27 rfl) (fun _=>rfl))<| .o1 (su rfl rfl rfl (fun _ _ _ k=>k.eq1 10 31 rfl) (fun _=>rfl))<| .o1 (su rfl rfl rfl (fun _ _ _ k=>k.eq1 6 27 rfl) (fun _=>rfl))<| .S<| .T (fun k=>v_pickT rfl (k.eq1 2 23 rfl) rfl) .nil
 refine aftI aj aP aQ fun bM bN al aU aV aW ad=>?_
 have⟨bm,bO,bP⟩:=ad.f3 bj bk aw
 have bn:=ad.g 14 35
 have aX:=aS.new_ aW
 refine aT _ _<| wt bn<| wk fun bQ aY=>?_
 refine wA [true,false,false] [(1,false),(2,true)] 78 [ve (.agg #[.bool false,sv none ([]) 0]),vt,vt] al ?_ ?_
 exact .Z<| .off<| .off .nil
 refine aftI al aU aV fun ax bR am aZ a1 a3 an=>?_
 have ay:=an.f1 bm
 have az:=an.g 0 36
 have a4:=aX.new_ a3
 refine sS6 ay az a4 fun bS a5 a6 bu=>?_
 have a8:=a1.tR a6
 refine sP (v:=iv 2) rfl am aZ fun bo bv a9 aa bq=>?_
 have⟨bp,bU⟩:=aa.q2 ay az
 refine aY _ _<| wp_ret (ret_k a9 (v:=.tuple #[.agg #[.bool false,sv none ([]) 0],iv 2]) (res_ct rfl bp bq (l_two isAgg26 sizeOf26 a5)) ?_)
 have hpz:=pz_bad hR (.inl (digB_empty ak))
 have hz2:canon (parseZ s.data.toList).1.natAbs=[]:=by rw [hpz]; exact canon_zero
 exact⟨none,0,by rw [hz2,hpz]; rfl,by rw [hz2]; exact (SRow.nil _ _),a8⟩
def wparse_m_P (s:ByteArray) (w:World) (en:Ending) (w':World):Prop:=∃ (Ar0:Option Addr) (cr0:Nat),en=.returned (.tuple #[.agg #[.bool (decide ((parseZ s.data.toList).1 < 0)),sv Ar0 (canon ((parseZ s.data.toList).1).natAbs) cr0],iv ((parseZ s.data.toList).2)])∧SRow w' .u32 Ar0 (canon ((parseZ s.data.toList).1).natAbs) cr0∧New w w'
theorem wparse_m (s:ByteArray) (w:World) (hs:s.size≤100000) (h0:s.size ≠ 0) (hm:bAt s 0=45):Calls prog 87 #[.string s] w (wparse_m_P s w):=by
 refine enter_abs func87 rfl fun a0 bt hY hp=>?_
 have bt:a0.tmps.size=78:=bt
 have fD:New w w:=Upd.refl _ _
 have hp0:a0.eval (.tmp 0)=.string s:=hp 0 _ rfl
 refine wk fun K1 hZ=>?_
 refine wB tr2 [] [] 78 [IsNew w 26 [.bool false,sv none ([]) 0],ve (iv 0)] [0] bt ?_ heN ?_
 exact .Y<| .c .nil
 refine aftI bt hY fD fun a2 w3 fE h1 fM kE fF=>?_
 have h8:=fF.f1 hp0
 obtain⟨bu,h9,fN,fO⟩:=fF.G 0 2
 have i3:=Nat.le_trans fD.size fN
 refine hZ _ _ <| wk fun kF fP=>?_
 have bn:(decide ((s.size:Int)≤0))=false:=decide_eq_false (by omega)
 have iK:=oF bn
 refine wA tr9 [] 78 [ve (.string s),ve (iv (s.size:Int)),vT,vT,ve (.string s),ve (.int .u8 ((bAt s 0:Nat):Int)),ve (.bool (decide (((bAt s 0:Nat):Int)=45))),ve (.bool (decide (((bAt s 0:Nat):Int)=45))),ve (.bool (decide (((bAt s 0:Nat):Int)=45)))] fE ?_ ?_
 exact .M h8<| .T (fun k=>v_lenS rfl (k.eq1 0 9 rfl) (by kernel_rfl))<| .b 1 (r_gtrK bn)<| .N 2<| .gm (fun k=>k.eq1 3 12 rfl) (fun k=>k.fx 0 h8)<| .V (fun p k=>v_idxN rfl (k.eq1 4 13 rfl) rfl (by kernel_rfl) (by omega))<| .V (fun p k=>v_bin rfl (k.eq1 5 14 rfl) rfl (fun _=>rfl) (r_eql rfl))<| .T (fun k=>v_pickT rfl (k.eq1 3 12 rfl) (k.eq1 6 15 rfl))<| .B 7 .nil
 refine aftI fE h1 fM fun kG kH ca fQ fR fS bo=>?_
 have⟨fG,h2⟩:=bo.f2 h8 h9
 have h3:=bo.g 8 4
 have fT:=fO.new_ fS
 refine fP _ _ <| wk fun kI fU=>?_
 refine wA tr2 [] 78 [ve (.string s),ve (.string s)] ca ?_ ?_
 exact .M fG<| .B 0 .nil
 refine aftI ca fQ fR fun kJ kK cb fV fW fX a5=>?_
 have⟨h4,h5,fH⟩:=a5.f3 fG h2 h3
 have h6:=a5.g 1 5
 have fY:=fT.new_ fX
 refine fU _ _ <| wk fun kL fZ=>?_
 refine wk fun kM f0=>?_
 refine wA tr1 [] 78 [ve (.bool (decide (((bAt s 0:Nat):Int)=45)))] cb ?_ ?_
 exact .M fH .nil
 refine aftI cb fV fW fun kN kO cc f1 f2 f3 aZ=>?_
 have⟨h7,ia,ib,kP⟩:=aZ.f4 h4 h5 fH h6
 have ic:=aZ.g 0 18
 have f4:=fY.new_ f3
 refine f0 _ _ ?_
 have a6:(decide (((bAt s 0:Nat):Int)=45))=true:=decide_eq_true (by omega)
 have iL:=oT a6
 have f5:=hB ib a6
 have f6:=hB ic a6
 refine wt f6<| wp_g0 [true,true,true] [] 78
  [ve (.string s),ve (.string (s.extract 1 s.size)),ve (.string (s.extract 1 s.size))] cc (.eq (.eq (.eq .nil))) ?_ ?_
 exact .M h7<| .R (fun k=>v_tailS rfl (k.eq1 0 19 rfl) rfl (by kernel_rfl) (by omega)) (fun _=>rfl)<| .B 1 .nil
 refine aftI cc f1 f2 fun kQ kR ao a7 a8 f7 bp=>?_
 have⟨bv,bm⟩:=bp.f2 ia f5
 have ak:=bp.g 2 5
 have a9:=f4.new_ f7
 refine fZ _ _ <| wk fun kS f8=>?_
 refine wk fun kT ba=>?_
 have hR:PRel s true (s.extract 1 s.size):=prel_neg bn a6
 have hds:=ext_size s 1 (by omega)
 have hds0:=str_size0 (s:=(s.extract 1 s.size))
 rcases bc (strEq (s.extract 1 s.size) ⟨#[]⟩) with ae|ae
 refine wA tr15 [] 78 [ve (.string (s.extract 1 s.size)),vT,vT,vU,vU,vU,vU,vU,vU,vU,vU,vU,vU,vU,vT] ao ?_ ?_
 exact .M ak<| .b 0 (r_eqlS ae)<| .N 1<| .S<| .S<| .S<| .S<| .o1 (su rfl rfl rfl (fun _ _ _ k=>k.eq1 6 27 rfl) (fun _=>rfl))<| .o1 (su rfl rfl rfl (fun _ _ _ k=>k.eq1 6 27 rfl) (fun _=>rfl))<| .o1 (su rfl rfl rfl (fun _ _ _ k=>k.eq1 6 27 rfl) (fun _=>rfl))<| .o1 (su rfl rfl rfl (fun _ _ _ k=>k.eq1 6 27 rfl) (fun _=>rfl))<| .o1 (su rfl rfl rfl (fun _ _ _ k=>k.eq1 10 31 rfl) (fun _=>rfl))<| .o1 (su rfl rfl rfl (fun _ _ _ k=>k.eq1 6 27 rfl) (fun _=>rfl))<| .S<| .T (fun k=>v_pickT rfl (k.eq1 2 23 rfl) rfl) .nil
 refine aftI ao a7 a8 fun kU kV cd f9 ga gb bb=>?_
 have⟨id,kW,kX⟩:=bb.f3 bv bm ak
 have ie:=bb.g 14 35
 have gc:=a9.new_ gb
 refine ba _ _<| wt ie<| wk fun kY gd=>?_
 refine wA [true,false,false] [(1,false),(2,true)] 78 [ve (.agg #[.bool false,sv none ([]) 0]),vt,vt] cd ?_ ?_
 exact .Z<| .off<| .off .nil
 refine aftI cd f9 ga fun fI kZ ce gf gg gh cf=>?_
 have fJ:=cf.f1 id
 have fK:=cf.g 0 36
 have gi:=gc.new_ gh
 refine sS6 fJ fK gi fun k0 gj gk iM=>?_
 have dd:=gg.tR gk
 refine sP (v:=iv 2) rfl ce gf fun gl iN de ar go=>?_
 have⟨gn,i5⟩:=ar.q2 fJ fK
 refine gd _ _<| wp_ret (ret_k de (v:=.tuple #[.agg #[.bool false,sv none ([]) 0],iv 2]) (res_ct rfl gn go (l_two isAgg26 sizeOf26 gj)) ?_)
 have hpz:=pz_bad hR (.inl (digB_empty ae))
 have hz2:canon (parseZ s.data.toList).1.natAbs=[]:=by rw [hpz]; exact canon_zero
 exact⟨none,0,by rw [hz2,hpz]; rfl,by rw [hz2]; exact (SRow.nil _ _),dd⟩
 rcases bc (decide (((bAt (s.extract 1 s.size) 0:Nat):Int)=48)) with ab|ab
 have ch:=oT ab
 rcases bc (decide (((s.extract 1 s.size).size:Int)≤1)) with al|al
 have ci:=oT al
 have hsp:=size_pos ae
 refine wA tr15 [] 78 [ve (.string (s.extract 1 s.size)),vF,vF,ve (.string (s.extract 1 s.size)),ve (.int .u8 ((bAt (s.extract 1 s.size) 0:Nat):Int)),vT,vT,ve (.string (s.extract 1 s.size)),ve (iv ((s.extract 1 s.size).size:Int)),vF,vF,vT,vT,vT,vT] ao ?_ ?_
 exact .M ak<| .b 0 (r_eqlS ae)<| .N 1<| .gm (fun k=>k.eq1 2 23 rfl) (fun k=>k.fx 5 ak)<| .V (fun p k=>v_idxN rfl (k.eq1 3 24 rfl) rfl (by kernel_rfl) (by omega))<| .V (fun p k=>v_bin rfl (k.eq1 4 25 rfl) rfl (fun _=>rfl) (r_eql ab))<| .gm (fun k=>k.eq1 2 23 rfl) (fun k=>k.eq1 5 26 rfl)<| .gm (fun k=>k.eq1 6 27 rfl) (fun k=>k.fx 5 ak)<| .V (fun p k=>v_lenS rfl (k.eq1 7 28 rfl) (by kernel_rfl))<| .V (fun p k=>v_bin rfl (k.eq1 8 29 rfl) rfl (fun _=>rfl) (r_gtrK al))<| .gm (fun k=>k.eq1 6 27 rfl) (fun k=>k.eq1 9 30 rfl)<| .gm (fun k=>k.eq1 10 31 rfl) (fun k=>k.fx 4 bm)<| .V (fun p k=>v_pickF rfl (k.eq1 10 31 rfl) (k.eq1 11 32 rfl))<| .V (fun p k=>v_pickT rfl (k.eq1 6 27 rfl) (k.eq1 12 33 rfl))<| .T (fun k=>v_pickF rfl (k.eq1 2 23 rfl) (k.eq1 13 34 rfl)) .nil
 refine aftI ao a7 a8 fun i6 i7 bw df dg dh aO=>?_
 have⟨gp,i8,i9⟩:=aO.f3 bv bm ak
 have gq:=aO.g 14 35
 have di:=a9.new_ dh
 refine ba _ _<| wt gq<| wk fun ja dj=>?_
 refine wA [true,false,false] [(1,false),(2,true)] 78 [ve (.agg #[.bool false,sv none ([]) 0]),vt,vt] bw ?_ ?_
 exact .Z<| .off<| .off .nil
 refine aftI bw df dg fun cj jb bx dk dl dm bz=>?_
 have cl:=bz.f1 gp
 have cm:=bz.g 0 36
 have dn:=di.new_ dm
 refine sS6 cl cm dn fun jc dp dq iO=>?_
 have ds:=dl.tR dq
 refine sP (v:=iv 2) rfl bx dk fun gr iP dt au gt=>?_
 have⟨gs,je⟩:=au.q2 cl cm
 refine dj _ _<| wp_ret (ret_k dt (v:=.tuple #[.agg #[.bool false,sv none ([]) 0],iv 2]) (res_ct rfl gs gt (l_two isAgg26 sizeOf26 dp)) ?_)
 have hpz:=pz_bad hR (.inr (one_zero (size_pos ae) ab al))
 have hz2:canon (parseZ s.data.toList).1.natAbs=[]:=by rw [hpz]; exact canon_zero
 exact⟨none,0,by rw [hz2,hpz]; rfl,by rw [hz2]; exact (SRow.nil _ _),ds⟩
 have ci:=oF al
 have hsp:=size_pos ae
 refine wA tr15 [] 78 [ve (.string (s.extract 1 s.size)),vF,vF,ve (.string (s.extract 1 s.size)),ve (.int .u8 ((bAt (s.extract 1 s.size) 0:Nat):Int)),vT,vT,ve (.string (s.extract 1 s.size)),ve (iv ((s.extract 1 s.size).size:Int)),vT,vT,vU,vT,vT,vT] ao ?_ ?_
 exact .M ak<| .b 0 (r_eqlS ae)<| .N 1<| .gm (fun k=>k.eq1 2 23 rfl) (fun k=>k.fx 5 ak)<| .V (fun p k=>v_idxN rfl (k.eq1 3 24 rfl) rfl (by kernel_rfl) (by omega))<| .V (fun p k=>v_bin rfl (k.eq1 4 25 rfl) rfl (fun _=>rfl) (r_eql ab))<| .gm (fun k=>k.eq1 2 23 rfl) (fun k=>k.eq1 5 26 rfl)<| .gm (fun k=>k.eq1 6 27 rfl) (fun k=>k.fx 5 ak)<| .V (fun p k=>v_lenS rfl (k.eq1 7 28 rfl) (by kernel_rfl))<| .V (fun p k=>v_bin rfl (k.eq1 8 29 rfl) rfl (fun _=>rfl) (r_gtrK al))<| .gm (fun k=>k.eq1 6 27 rfl) (fun k=>k.eq1 9 30 rfl)<| .S<| .V (fun p k=>v_pickT rfl (k.eq1 10 31 rfl) rfl)<| .V (fun p k=>v_pickT rfl (k.eq1 6 27 rfl) (k.eq1 12 33 rfl))<| .T (fun k=>v_pickF rfl (k.eq1 2 23 rfl) (k.eq1 13 34 rfl)) .nil
 refine aftI ao a7 a8 fun jf jg bA du dv dw aP=>?_
 have⟨gu,jh,ji⟩:=aP.f3 bv bm ak
 have gv:=aP.g 14 35
 have dx:=a9.new_ dw
 refine ba _ _<| wt gv<| wk fun jj dy=>?_
 refine wA [true,false,false] [(1,false),(2,true)] 78 [ve (.agg #[.bool false,sv none ([]) 0]),vt,vt] bA ?_ ?_
 exact .Z<| .off<| .off .nil
 refine aftI bA du dv fun co jk bB dz dA dB bC=>?_
 have cp:=bC.f1 gu
 have cq:=bC.g 0 36
 have dC:=dx.new_ dB
 refine sS6 cp cq dC fun jl dD dE iQ=>?_
 have dG:=dA.tR dE
 refine sP (v:=iv 2) rfl bB dz fun gw iR dH av gy=>?_
 have⟨gx,jn⟩:=av.q2 cp cq
 refine dy _ _<| wp_ret (ret_k dH (v:=.tuple #[.agg #[.bool false,sv none ([]) 0],iv 2]) (res_ct rfl gx gy (l_two isAgg26 sizeOf26 dD)) ?_)
 have hpz:=pz_bad hR (.inl (digB_lead ab al))
 have hz2:canon (parseZ s.data.toList).1.natAbs=[]:=by rw [hpz]; exact canon_zero
 exact⟨none,0,by rw [hz2,hpz]; rfl,by rw [hz2]; exact (SRow.nil _ _),dG⟩
 have ch:=oF ab
 have hsp:=size_pos ae
 refine wA tr15 [] 78 [ve (.string (s.extract 1 s.size)),vF,vF,ve (.string (s.extract 1 s.size)),ve (.int .u8 ((bAt (s.extract 1 s.size) 0:Nat):Int)),vF,vF,vU,vU,vU,vU,vU,vU,vF,vF] ao ?_ ?_
 exact .M ak<| .b 0 (r_eqlS ae)<| .N 1<| .gm (fun k=>k.eq1 2 23 rfl) (fun k=>k.fx 5 ak)<| .V (fun p k=>v_idxN rfl (k.eq1 3 24 rfl) rfl (by kernel_rfl) (by omega))<| .V (fun p k=>v_bin rfl (k.eq1 4 25 rfl) rfl (fun _=>rfl) (r_eql ab))<| .gm (fun k=>k.eq1 2 23 rfl) (fun k=>k.eq1 5 26 rfl)<| .S<| .S<| .S<| .S<| .o1 (su rfl rfl rfl (fun _ _ _ k=>k.eq1 10 31 rfl) (fun _=>rfl))<| .S<| .V (fun p k=>v_pickF rfl (k.eq1 6 27 rfl) rfl)<| .T (fun k=>v_pickF rfl (k.eq1 2 23 rfl) (k.eq1 13 34 rfl)) .nil
 refine aftI ao a7 a8 fun jo jp bD dI dJ dK aQ=>?_
 have⟨gz,gA,gB⟩:=aQ.f3 bv bm ak
 have gC:=aQ.g 14 35
 have dL:=a9.new_ dK
 refine ba _ _<| wf gC<| ws ?_
 refine f8 _ _<| wk fun jq dM=>wk fun jr dN=>?_
 have hne:0 < (s.extract 1 s.size).size:=size_pos ae
 have hlead:bAt (s.extract 1 s.size) 0 ≠ 48 ∨ (s.extract 1 s.size).size=1:=.inl (by have:=oF ab; omega)
 have hnz:bAt (s.extract 1 s.size) 0 ≠ 48:=by have:=oF ab; omega
 refine wA tr1 [] 78 [ve (iv 0)] bD ?_ ?_
 exact .c .nil
 refine aftI bD dI dJ fun js jt dO dP dQ dR aR=>?_
 have⟨gD,gE,gF⟩:=aR.f3 gz gA gB
 have gG:=aR.g 0 6
 have dS:=dL.new_ dR
 refine dN _ _<| wb<| wp_loopX (fun (mm:Nat) (aa:Act) (ww:World)=>∃ (i:Nat),mm=(s.extract 1 s.size).size - i∧aa.tmps.size=78∧aa.defers=[]∧New w ww∧aa.eval (.tmp 6)=iv (i:Int)∧aa.eval (.tmp 2)=pv bu∧aa.eval (.tmp 4)=.bool true∧aa.eval (.tmp 5)=.string (s.extract 1 s.size)∧Blk ww bu 26 [.bool false,sv none ([]) 0]∧(i≤(s.extract 1 s.size).size)∧(∀ j,j < i→48≤bAt (s.extract 1 s.size) j∧bAt (s.extract 1 s.size) j≤57)) (fun mm=>mm) ⟨_,⟨0,rfl,dO,dP,dQ,gG,gD,gE,gF,dS,(Nat.zero_le _),(fun j h=>absurd h (Nat.not_lt_zero _))⟩⟩ ?_
 rintro mm ju jv ⟨i,hmm,bE,dT,dU,ct,gH,gI,cu,dV,hi,hdg⟩
 refine wk fun jw dW=>wk fun jx dX=>?_
 refine wA tr4 [] 78 [ve (iv (i:Int)),ve (.string (s.extract 1 s.size)),ve (iv ((s.extract 1 s.size).size:Int)),ve (.bool (decide ((i:Int) < ((s.extract 1 s.size).size:Int))))] bE ?_ ?_
 exact .M ct<| .M cu<| .T (fun k=>v_lenS rfl (k.eq1 1 38 rfl) (by kernel_rfl))<| .T (fun k=>v_bin rfl (k.eq1 0 37 rfl) (k.eq1 2 39 rfl) (fun _=>rfl) (r_lssK rfl)) .nil
 refine aftI bE dT dU fun jy jz af aS aT dY aG=>?_
 have⟨ap,bd,be,am⟩:=aG.f4 ct gH gI cu
 have cv:=aG.g 3 40
 have aU:=dV.new_ dY
 refine dX _ _ ?_
 rcases bc (decide ((i:Int) < ((s.extract 1 s.size).size:Int))) with aH|aH
 have cw:=oT aH
 have dZ:=hB cv aH
 refine wt dZ<| ws<| dW _ _<| wk fun jA d0=>wb ?_
 refine wk fun jB bf=>?_
 rcases bc (decide (((bAt (s.extract 1 s.size) i:Nat):Int) < 48)) with ag|ag
 have cx:=oT ag
 refine wA tr10 [] 78 [ve (.string (s.extract 1 s.size)),ve (iv (i:Int)),ve (.int .u8 ((bAt (s.extract 1 s.size) i:Nat):Int)),vT,vT,vU,vU,vU,vU,vT] af ?_ ?_
 exact .M am<| .M ap<| .R (fun k=>v_idxN rfl (k.eq1 0 43 rfl) (k.eq1 1 44 rfl) (by kernel_rfl) (by omega)) (fun _=>rfl)<| .b 2 (r_lssK ag)<| .N 3<| .S<| .S<| .S<| .S<| .T (fun k=>v_pickT rfl (k.eq1 4 47 rfl) rfl) .nil
 refine aftI af aS aT fun jC jD bF d1 d2 d3 aI=>?_
 have⟨jE,gJ,jF,jG⟩:=aI.f4 ap bd be am
 have gK:=aI.g 9 52
 have d4:=aU.new_ d3
 refine bf _ _<| wt gK<| wk fun jH d5=>?_
 refine wA [true,false,false] [(1,false),(2,true)] 78 [ve (.agg #[.bool false,sv none ([]) 0]),vt,vt] bF ?_ ?_
 exact .Z<| .off<| .off .nil
 refine aftI bF d1 d2 fun cy jI bG d6 d7 d8 bH=>?_
 have cz:=bH.f1 gJ
 have cA:=bH.g 0 53
 have d9:=d4.new_ d8
 refine sS6 cz cA d9 fun jJ ea eb iS=>?_
 have ed:=d7.tR eb
 refine sP (v:=iv 2) rfl bG d6 fun gL iT ee aw gN=>?_
 have⟨gM,jL⟩:=aw.q2 cz cA
 refine d5 _ _<| wp_ret (ret_k ee (v:=.tuple #[.agg #[.bool false,sv none ([]) 0],iv 2]) (res_ct rfl gM gN (l_two isAgg26 sizeOf26 ea)) ?_)
 have hpz:=pz_bad hR (.inl (pdigB_bad (i:=i) (by omega) (.inl ag)))
 have hz2:canon (parseZ s.data.toList).1.natAbs=[]:=by rw [hpz]; exact canon_zero
 exact⟨none,0,by rw [hz2,hpz]; rfl,by rw [hz2]; exact (SRow.nil _ _),ed⟩
 have cx:=oF ag
 rcases bc (decide (((bAt (s.extract 1 s.size) i:Nat):Int)≤57)) with an|an
 have cC:=oT an
 refine wA tr10 [] 78 [ve (.string (s.extract 1 s.size)),ve (iv (i:Int)),ve (.int .u8 ((bAt (s.extract 1 s.size) i:Nat):Int)),vF,vF,ve (.string (s.extract 1 s.size)),ve (iv (i:Int)),ve (.int .u8 ((bAt (s.extract 1 s.size) i:Nat):Int)),vF,vF] af ?_ ?_
 exact .M am<| .M ap<| .R (fun k=>v_idxN rfl (k.eq1 0 43 rfl) (k.eq1 1 44 rfl) (by kernel_rfl) (by omega)) (fun _=>rfl)<| .b 2 (r_lssK ag)<| .N 3<| .gm (fun k=>k.eq1 4 47 rfl) (fun k=>k.fx 5 am)<| .gm (fun k=>k.eq1 4 47 rfl) (fun k=>k.fx 6 ap)<| .V (fun p k=>v_idxN rfl (k.eq1 5 48 rfl) (k.eq1 6 49 rfl) (by kernel_rfl) (by omega))<| .V (fun p k=>v_bin rfl (k.eq1 7 50 rfl) rfl (fun _=>rfl) (r_gtrK an))<| .T (fun k=>v_pickF rfl (k.eq1 4 47 rfl) (k.eq1 8 51 rfl)) .nil
 refine aftI af aS aT fun jM jN bI ef eg eh aJ=>?_
 have⟨cD,gO,gP,gQ⟩:=aJ.f4 ap bd be am
 have gR:=aJ.g 9 52
 have ei:=aU.new_ eh
 refine bf _ _<| wf gR<| ws ?_
 refine d0 _ _<| wA [true,true,false] [(2,true)] 78 [ve (iv (i:Int)),ve (iv ((i + 1:Nat):Int)),vt] bI ?_ ?_
 exact .M cD<| .R (fun k=>v_bin rfl (k.eq1 0 41 rfl) rfl (fun _=>rfl) (n_add (by omega) (IntWalk.i64_in _ (by omega)))) (fun _=>rfl)<| .off .nil
 refine aftI bI ef eg fun cE jO bJ ej ek el aK=>?_
 have⟨jP,gS,gT,gU⟩:=aK.f4 cD gO gP gQ
 have cF:=aK.g 1 42
 have em:=ei.new_ el
 refine sP cF bJ ej fun gV en eo ah gZ=>?_
 have⟨gW,gX,gY⟩:=ah.q3 gS gT gU
 have jQ:=ah.q cF
 refine st_nil ?_
 refine then_n ?_
 exact⟨_,⟨i + 1,rfl,en,eo,ek,(gZ.trans (congrArg (Value.int .i64) (by omega))),gW,gX,gY,em,(by omega),(pdig_up hdg ag an)⟩,(by omega)⟩
 have cC:=oF an
 refine wA tr10 [] 78 [ve (.string (s.extract 1 s.size)),ve (iv (i:Int)),ve (.int .u8 ((bAt (s.extract 1 s.size) i:Nat):Int)),vF,vF,ve (.string (s.extract 1 s.size)),ve (iv (i:Int)),ve (.int .u8 ((bAt (s.extract 1 s.size) i:Nat):Int)),vT,vT] af ?_ ?_
 exact .M am<| .M ap<| .R (fun k=>v_idxN rfl (k.eq1 0 43 rfl) (k.eq1 1 44 rfl) (by kernel_rfl) (by omega)) (fun _=>rfl)<| .b 2 (r_lssK ag)<| .N 3<| .gm (fun k=>k.eq1 4 47 rfl) (fun k=>k.fx 5 am)<| .gm (fun k=>k.eq1 4 47 rfl) (fun k=>k.fx 6 ap)<| .V (fun p k=>v_idxN rfl (k.eq1 5 48 rfl) (k.eq1 6 49 rfl) (by kernel_rfl) (by omega))<| .V (fun p k=>v_bin rfl (k.eq1 7 50 rfl) rfl (fun _=>rfl) (r_gtrK an))<| .T (fun k=>v_pickF rfl (k.eq1 4 47 rfl) (k.eq1 8 51 rfl)) .nil
 refine aftI af aS aT fun jR jS bK ep er es aL=>?_
 have⟨jT,g0,jU,jV⟩:=aL.f4 ap bd be am
 have g1:=aL.g 9 52
 have et:=aU.new_ es
 refine bf _ _<| wt g1<| wk fun jW eu=>?_
 refine wA [true,false,false] [(1,false),(2,true)] 78 [ve (.agg #[.bool false,sv none ([]) 0]),vt,vt] bK ?_ ?_
 exact .Z<| .off<| .off .nil
 refine aftI bK ep er fun cG jX bL ev ew ex bM=>?_
 have cH:=bM.f1 g0
 have cI:=bM.g 0 53
 have ey:=et.new_ ex
 refine sS6 cH cI ey fun jY ez eA iU=>?_
 have eC:=ew.tR eA
 refine sP (v:=iv 2) rfl bL ev fun g2 iV eD ax g4=>?_
 have⟨g3,j0⟩:=ax.q2 cH cI
 refine eu _ _<| wp_ret (ret_k eD (v:=.tuple #[.agg #[.bool false,sv none ([]) 0],iv 2]) (res_ct rfl g3 g4 (l_two isAgg26 sizeOf26 ez)) ?_)
 have hpz:=pz_bad hR (.inl (pdigB_bad (i:=i) (by omega) (.inr an)))
 have hz2:canon (parseZ s.data.toList).1.natAbs=[]:=by rw [hpz]; exact canon_zero
 exact⟨none,0,by rw [hz2,hpz]; rfl,by rw [hz2]; exact (SRow.nil _ _),eC⟩
 have cw:=oF aH
 have eE:=hB cv aH
 refine wf eE<| wp_exit ?_
 refine dM _ _<| wk fun j1 eF=>?_
 have hall:∀ j,j < (s.extract 1 s.size).size→48≤bAt (s.extract 1 s.size) j∧bAt (s.extract 1 s.size) j≤57:=fun j hj=>hdg j (by omega)
 have hdB:digB (s.extract 1 s.size).data.toList=true:=digB_yes hne hall hlead
 refine wA tr1 [] 78 [ve (sv none ([]) 0)] af ?_ ?_
 exact .c .nil
 refine aftI af aS aT fun j2 j3 bN eG eH eI aV=>?_
 have⟨g5,g6,g7⟩:=aV.f3 bd be am
 have g8:=aV.g 0 7
 have eJ:=aU.new_ eI
 refine eF _ _ <| wk fun j4 eK=>?_
 refine wk fun j5 eL=>?_
 refine wA tr1 [] 78 [ve (iv 0)] bN ?_ ?_
 exact .c .nil
 refine aftI bN eG eH fun j6 j7 eM eN eO eP aM=>?_
 have⟨g9,ha,hc,hd⟩:=aM.f4 g5 g6 g7 g8
 have hf:=aM.g 0 8
 have eQ:=eJ.new_ eP
 refine eL _ _<| wb<| wp_loopX (fun (mm:Nat) (aa:Act) (ww:World)=>∃ (i2:Nat) (A1:Option Addr) (c1:Nat),mm=(s.extract 1 s.size).size - i2∧aa.tmps.size=78∧aa.defers=[]∧New w ww∧aa.eval (.tmp 7)=sv A1 (canon (decV ((s.extract 1 s.size).data.toList.take i2))) c1∧aa.eval (.tmp 8)=iv (i2:Int)∧aa.eval (.tmp 2)=pv bu∧aa.eval (.tmp 4)=.bool true∧aa.eval (.tmp 5)=.string (s.extract 1 s.size)∧Blk ww bu 26 [.bool false,sv none ([]) 0]∧SOwn ww w.heap.size 59 .u32 A1 (canon (decV ((s.extract 1 s.size).data.toList.take i2))) c1∧(i2≤(s.extract 1 s.size).size)∧((canon (decV ((s.extract 1 s.size).data.toList.take i2))).length≤8)) (fun mm=>mm) ⟨_,⟨0,none,0,rfl,eM,eN,eO,(hd.trans (by rw [List.take_zero,show decV []=0 from rfl,canon_zero])),hf,g9,ha,hc,eQ,(by rw [List.take_zero,show decV []=0 from rfl,canon_zero]; exact SOwn.nil _ _ _ _),(Nat.zero_le _),(by simp [decV,canon_zero])⟩⟩ ?_
 rintro mm j8 j9 ⟨i2,A1,c1,hmm,bO,eR,eS,hg,cK,hh,hl,cL,eT,eU,hi2,fL⟩
 refine wk fun ka eV=>wk fun kb eW=>?_
 refine wA tr4 [] 78 [ve (iv (i2:Int)),ve (.string (s.extract 1 s.size)),ve (iv ((s.extract 1 s.size).size:Int)),ve (.bool (decide ((i2:Int) < ((s.extract 1 s.size).size:Int))))] bO ?_ ?_
 exact .M cK<| .M cL<| .T (fun k=>v_lenS rfl (k.eq1 1 55 rfl) (by kernel_rfl))<| .T (fun k=>v_bin rfl (k.eq1 0 54 rfl) (k.eq1 2 56 rfl) (fun _=>rfl) (r_lssK rfl)) .nil
 refine aftI bO eR eS fun kc aj aW bP bg bQ ay=>?_
 have⟨bq,cM,cN,cO⟩:=ay.f4 hg cK hh hl
 have cP:=ay.f1 cL
 have cQ:=ay.g 3 57
 have⟨bR,bh⟩:=nw2 bQ eT eU
 refine eW _ _ ?_
 rcases bc (decide ((i2:Int) < ((s.extract 1 s.size).size:Int))) with aN|aN
 have cR:=oT aN
 have eX:=hB cQ aN
 refine wt eX<| ws<| eV _ _<| wk fun kd eY=>wb ?_
 refine wk fun ke eZ=>?_
 have k1:=hall i2 (by omega)
 have hbl:=bAt_lt (s.extract 1 s.size) i2
 have hstep:=decV_step (s:=(s.extract 1 s.size)) (i:=i2) (by omega)
 have hl9:(canon (val (canon (decV ((s.extract 1 s.size).data.toList.take i2))) * val [10])).length≤9:=ten_len fL
 have hl1:(canon (val [(bAt (s.extract 1 s.size) i2 - 48)])).length≤1:=one_len (by omega)
 refine wp_g0 [true,true,true,true,true,true,true,true,true,true,true,false] [(11,true)] 78
  [ve (sv A1 (canon (decV ((s.extract 1 s.size).data.toList.take i2))) c1),
  (OP aj.heap.size 59 .u32 ([10])),
  (OP aj.heap.size 59 .u32 (canon (val (canon (decV ((s.extract 1 s.size).data.toList.take i2))) * val ([10])))),ve (.string (s.extract 1 s.size)),ve (iv (i2:Int)),ve (.int .u8 ((bAt (s.extract 1 s.size) i2:Nat):Int)),ve (.int .u8 (((bAt (s.extract 1 s.size) i2) - 48:Nat):Int)),ve (.int .u32 (((bAt (s.extract 1 s.size) i2) - 48:Nat):Int)),
  (OP aj.heap.size 59 .u32 ([((bAt (s.extract 1 s.size) i2) - 48)])),
  (OP aj.heap.size 59 .u32 (canon (val ([((bAt (s.extract 1 s.size) i2) - 48)])))),
  (OP aj.heap.size 59 .u32 (canon (val (canon (val (canon (decV ((s.extract 1 s.size).data.toList.take i2))) * val ([10]))) + val (canon (val ([((bAt (s.extract 1 s.size) i2) - 48)])))))),vt] aW (.eq (.cons (fun _ _ _ n ⟨_,_,e,h⟩=>⟨_,_,e,h.new_ n⟩) (.cons (fun _ _ _ n ⟨_,_,e,h⟩=>⟨_,_,e,h.new_ n⟩) (.eq (.eq (.eq (.eq (.eq (.cons (fun _ _ _ n ⟨_,_,e,h⟩=>⟨_,_,e,h.new_ n⟩) (.cons (fun _ _ _ n ⟨_,_,e,h⟩=>⟨_,_,e,h.new_ n⟩) (.cons (fun _ _ _ n ⟨_,_,e,h⟩=>⟨_,_,e,h.new_ n⟩) (.tt .nil)))))))))))) ?_ ?_
 refine .M bq ?_
 refine .o1 (tkA rfl (noG rfl) fun _ w hn k=>(by
  exact x_bslice (k:=.u32) (ps:=[(0,.int .u32 10)]) [10] rfl (parts1 rfl) elW rfl (by omega) (by omega) (by first|kernel_rfl|(simp only [enc,List.map_cons,List.map_nil,Int.toNat_natCast,Int.toNat_of_nonneg (by omega:(0:Int)≤_)]; kernel_rfl)) fun A1 c2 W' hmo=>⟨A1,c2,rfl,(hmo.more hn.size)⟩)) ?_
 refine .o1 (tkC rfl (noG rfl) rfl fun _ w hn k=>(by
  obtain⟨A5,c6,e7,ip⟩:=k.G 1 61
  refine ⟨#[sv A1 (canon (decV ((s.extract 1 s.size).data.toList.take i2))) c1,sv A5 ([10]) c6],_,args2 (k.eq1 0 60 rfl) e7,fun w=>by kernel_rfl,rtimes_c _ _ _ _ _ _ _ (bh.new_ hn).row ip.row (limbs_canon _) limbs_10 (by first|omega|(simp only [List.length_nil,List.length_cons,List.length_set,List.length_replicate]; omega)) (by first|omega|(simp only [List.length_nil,List.length_cons,List.length_set,List.length_replicate]; omega)),?_⟩
  rintro e w' ⟨A9,iq,rfl,hmo,hm⟩
  exact⟨_,rfl,hm,⟨A9,iq,rfl,(hmo.more hn.size)⟩⟩)) ?_
 refine .M cP<| .M cM<| .R (fun k=>v_idxN rfl (k.eq1 3 63 rfl) (k.eq1 4 64 rfl) (by kernel_rfl) (by omega)) (fun _=>rfl)<| .R (fun k=>v_bin rfl (k.eq1 5 65 rfl) rfl (fun _=>rfl) (n_sub (by omega) (IntWalk.u8_in _ (by omega)))) (fun _=>rfl)<| .R (fun k=>v_conv rfl (k.eq1 6 66 rfl) (n_conv (by kernel_rfl) (by kernel_rfl) (by kernel_rfl) (IntWalk.u32_in _ (by omega)))) (fun _=>rfl) ?_
 refine .o1 (tkA rfl (noG rfl) fun _ w hn k=>(by
  exact x_bslice (k:=.u32) (ps:=[(0,.int .u32 (((bAt (s.extract 1 s.size) i2) - 48:Nat):Int))]) [((bAt (s.extract 1 s.size) i2) - 48)] rfl (parts1 (k.eq1 7 67 rfl)) elW rfl (by omega) (by omega) (by first|kernel_rfl|(simp only [enc,List.map_cons,List.map_nil,Int.toNat_natCast,Int.toNat_of_nonneg (by omega:(0:Int)≤_)]; kernel_rfl)) fun ir it W' hmo=>⟨ir,it,rfl,(hmo.more hn.size)⟩)) ?_
 refine .o1 (tkC rfl (noG rfl) rfl fun _ w hn k=>(by
  obtain⟨iu,iw,ix,ho⟩:=k.G 8 68
  refine ⟨#[sv iu ([((bAt (s.extract 1 s.size) i2) - 48)]) iw],_,args1 ix,fun w=>by kernel_rfl,strim_c _ ([((bAt (s.extract 1 s.size) i2) - 48)]) _ _ ho.row (limbs_d (bAt_lt _ _)) (by first|omega|(simp only [List.length_nil,List.length_take,List.length_drop]; omega)|(simp only [List.length_cons,List.length_nil]; omega)),?_⟩
  rintro e w' ⟨iy,iz,rfl,hmo0,hm⟩
  exact⟨_,rfl,hm,⟨iy,iz,rfl,(hmo0.more hn.size)⟩⟩)) ?_
 refine .o1 (tkC rfl (noG rfl) rfl fun _ w hn k=>(by
  obtain⟨iA,iB,iC,hr⟩:=k.G 2 62
  obtain⟨iD,iE,iF,ht⟩:=k.G 9 69
  refine ⟨#[sv iA (canon (val (canon (decV ((s.extract 1 s.size).data.toList.take i2))) * val ([10]))) iB,sv iD (canon (val ([((bAt (s.extract 1 s.size) i2) - 48)]))) iE],_,args2 iC iF,fun w=>by kernel_rfl,rplus_c _ _ _ _ _ _ _ hr.row ht.row (limbs_canon _) (limbs_canon _) (by first|omega|(simp only [List.length_nil,List.length_cons,List.length_set,List.length_replicate]; omega)) (by first|omega|(simp only [List.length_nil,List.length_cons,List.length_set,List.length_replicate]; omega)),?_⟩
  rintro e w' ⟨iG,iH,rfl,hmo,hm⟩
  exact⟨_,rfl,hm,⟨iG,iH,rfl,(hmo.more hn.size)⟩⟩)) ?_
 exact .off .nil
 refine aftI aW bP bg fun br kf bS e0 bT bU az=>?_
 have⟨kg,hu,hv,hw⟩:=az.f4 bq cM cN cO
 have hx:=az.f1 cP
 obtain⟨aq,ai,bi,e1⟩:=az.G 10 70
 have bi:br.eval (.tmp 70)=sv aq (canon (val (canon (val (canon (decV ((s.extract 1 s.size).data.toList.take i2))) * val ([10]))) + val (canon (val ([((bAt (s.extract 1 s.size) i2) - 48)]))))) ai:=bi
 have⟨bV,iW⟩:=nw2 bU bR bh
 have bj:=e1.more bg.size
 refine sP bi bS e0 fun hy aX bW ac a1=>?_
 have⟨cS,cT,cU⟩:=ac.q3 hu hv hw
 have⟨cV,kh⟩:=ac.q2 hx bi
 refine st_nil ?_
 have he450:(canon (val (canon (val (canon (decV ((s.extract 1 s.size).data.toList.take i2))) * val ([10]))) + val (canon (val ([((bAt (s.extract 1 s.size) i2) - 48)])))))=(canon (decV ((s.extract 1 s.size).data.toList.take (i2 + 1)))):=by rw [hstep,val_canon,val_canon,val_canon,val_one,val_one,Nat.mul_comm]
 rw [he450] at a1
 rw [he450] at bj
 refine eZ _ _<| wk fun ki bX=>?_
 rcases bc (decide (((canon (decV ((s.extract 1 s.size).data.toList.take (i2 + 1)))).length:Int)≤8)) with aA|aA
 have cW:=oT aA
 refine wA tr3 [] 78 [ve (sv aq (canon (decV ((s.extract 1 s.size).data.toList.take (i2 + 1)))) ai),ve (iv ((canon (decV ((s.extract 1 s.size).data.toList.take (i2 + 1)))).length:Int)),vF] aX ?_ ?_
 exact .M a1<| .T (fun k=>v_lenR rfl elW (k.eq1 0 71 rfl))<| .b 1 (r_gtrK aA) .nil
 refine aftI aX bW bT fun kj kk bY e2 e3 bZ aB=>?_
 have⟨cX,hz,hA,hC⟩:=aB.f4 cS cT cU cV
 have hD:=aB.f1 a1
 have hE:=aB.g 2 73
 have⟨e4,e5⟩:=nw2 bZ bV bj
 refine bX _ _<| wf hE<| ws ?_
 refine eY _ _<| wA [true,true,false] [(2,true)] 78 [ve (iv (i2:Int)),ve (iv ((i2 + 1:Nat):Int)),vt] bY ?_ ?_
 exact .M cX<| .R (fun k=>v_bin rfl (k.eq1 0 58 rfl) rfl (fun _=>rfl) (n_add (by omega) (IntWalk.i64_in _ (by omega)))) (fun _=>rfl)<| .off .nil
 refine aftI bY e2 e3 fun cY kl b0 e6 e8 b1 aC=>?_
 have⟨km,hF,hG,hH⟩:=aC.f4 cX hz hA hC
 have hI:=aC.f1 hD
 have cZ:=aC.g 1 59
 have⟨e9,fa⟩:=nw2 b1 e4 e5
 refine sP cZ b0 e6 fun hJ fb fc ad hO=>?_
 have⟨hK,hL,hM⟩:=ad.q3 hF hG hH
 have⟨hN,kn⟩:=ad.q2 hI cZ
 refine st_nil ?_
 refine then_n ?_
 exact⟨_,⟨i2 + 1,aq,ai,rfl,fb,fc,e8,hN,(hO.trans (congrArg (Value.int .i64) (by omega))),hK,hL,hM,e9,fa,(by omega),(by omega)⟩,(by omega)⟩
 have cW:=oF aA
 refine wA tr3 [] 78 [ve (sv aq (canon (decV ((s.extract 1 s.size).data.toList.take (i2 + 1)))) ai),ve (iv ((canon (decV ((s.extract 1 s.size).data.toList.take (i2 + 1)))).length:Int)),vT] aX ?_ ?_
 exact .M a1<| .T (fun k=>v_lenR rfl elW (k.eq1 0 71 rfl))<| .b 1 (r_gtrK aA) .nil
 refine aftI aX bW bT fun ko kp b2 fd fe b3 aD=>?_
 have⟨kq,hP,kr,ks⟩:=aD.f4 cS cT cU cV
 have kt:=aD.f1 a1
 have hQ:=aD.g 2 73
 have⟨ff,iX⟩:=nw2 b3 bV bj
 refine bX _ _<| wt hQ<| wk fun ku fg=>?_
 refine wA [true,false,false] [(1,false),(2,true)] 78 [ve (.agg #[.bool false,sv none ([]) 0]),vt,vt] b2 ?_ ?_
 exact .Z<| .off<| .off .nil
 refine aftI b2 fd fe fun c0 kv b4 fh fi fj b5=>?_
 have c3:=b5.f1 hP
 have c5:=b5.g 0 74
 have fk:=ff.new_ fj
 refine sS6 c3 c5 fk fun kw fl fm iY=>?_
 have fo:=fi.tR fm
 refine sP (v:=iv 3) rfl b4 fh fun hS iZ fp aE hU=>?_
 have⟨hT,ky⟩:=aE.q2 c3 c5
 refine fg _ _<| wp_ret (ret_k fp (v:=.tuple #[.agg #[.bool false,sv none ([]) 0],iv 3]) (res_ct rfl hT hU (l_two isAgg26 sizeOf26 fl)) ?_)
 have hpz:=pz_long hR hdB (fun _=>not_zero hnz) (dec_long aA)
 have hz2:canon (parseZ s.data.toList).1.natAbs=[]:=by rw [hpz]; exact canon_zero
 exact⟨none,0,by rw [hz2,hpz]; rfl,by rw [hz2]; exact (SRow.nil _ _),fo⟩
 have cR:=oF aN
 have fq:=hB cQ aN
 refine wf fq<| wp_exit ?_
 refine eK _ _<| wk fun kz fs=>?_
 refine wp_g0 [true,true,true,false,false] [(3,false),(4,true)] 78
  [vT,ve (sv A1 (canon (decV ((s.extract 1 s.size).data.toList.take i2))) c1),(fun (v_:Value) (W:World)=>∃ (a3:Option Addr) (a4:Nat),v_=.agg #[.bool (decide (sgn true (val (canon (decV ((s.extract 1 s.size).data.toList.take i2)))) < 0)),sv a3 (canon (sgn true (val (canon (decV ((s.extract 1 s.size).data.toList.take i2))))).natAbs) a4]∧SRow W .u32 a3 (canon (sgn true (val (canon (decV ((s.extract 1 s.size).data.toList.take i2))))).natAbs) a4),vt,vt] aW (.eq (.eq (.cons (fun _ _ _ n ⟨_,_,e,h⟩=>⟨_,_,e,h.new_ n⟩) (.tt (.tt .nil))))) ?_ ?_
 refine .M cO<| .M bq ?_
 refine .o1 (tkC rfl (noG rfl) rfl fun _ w hn k=>(by
  refine ⟨#[.bool true,sv A1 (canon (decV ((s.extract 1 s.size).data.toList.take i2))) c1],_,args2 (k.eq1 0 75 rfl) (k.eq1 1 76 rfl),fun w=>by kernel_rfl,smade_c true _ (canon (decV ((s.extract 1 s.size).data.toList.take i2))) _ _ (bh.new_ hn).row (limbs_canon _) (by first|omega|(simp only [List.length_nil,List.length_take,List.length_drop]; omega)|(simp only [List.length_cons,List.length_nil]; omega)),?_⟩
  rintro e w' ⟨iI,iJ,rfl,hmo0,hm⟩
  exact⟨_,rfl,hm,⟨iI,iJ,rfl,hmo0⟩⟩)) ?_
 exact .off<| .off .nil
 refine aftI aW bP bg fun bs kA b6 ft fu fv b7=>?_
 have c9:=b7.f1 cN
 obtain⟨bk,aY,bl,fw⟩:=b7.G 2 77
 have bl:bs.eval (.tmp 77)=.agg #[.bool (decide (sgn true (val (canon (decV ((s.extract 1 s.size).data.toList.take i2)))) < 0)),sv bk (canon (sgn true (val (canon (decV ((s.extract 1 s.size).data.toList.take i2))))).natAbs) aY]:=bl
 have b8:=bR.new_ fv
 refine sS6 c9 bl b8 fun kB fy b9 i0=>?_
 have fA:=fw.fr b8 b9
 have fB:=fu.tR b9
 refine sP (v:=iv 0) rfl b6 ft fun hV i1 fC aF hX=>?_
 have⟨hW,kD⟩:=aF.q2 c9 bl
 refine fs _ _<| wp_ret (ret_k fC (v:=.tuple #[.agg #[.bool (decide (sgn true (val (canon (decV ((s.extract 1 s.size).data.toList.take i2)))) < 0)),sv bk (canon (sgn true (val (canon (decV ((s.extract 1 s.size).data.toList.take i2))))).natAbs) aY],iv 0]) (res_ct rfl hW hX (l_two isAgg26 sizeOf26 fy)) ?_)
 have hpz:=pz_ok hR hdB (fun _=>not_zero hnz) (dec_ok (i:=i2) (by omega) fL)
 have hz1:sgn true (val (canon (decV ((s.extract 1 s.size).data.toList.take i2))))=(parseZ s.data.toList).1:=by rw [hpz,val_canon,dec_all (by omega)]
 exact⟨bk,aY,by rw [hz1,hpz],by rw [← hz1]; exact fA,fB⟩
def wparse_p_P (s:ByteArray) (w:World) (en:Ending) (w':World):Prop:=∃ (Ar0:Option Addr) (cr0:Nat),en=.returned (.tuple #[.agg #[.bool (decide ((parseZ s.data.toList).1 < 0)),sv Ar0 (canon ((parseZ s.data.toList).1).natAbs) cr0],iv ((parseZ s.data.toList).2)])∧SRow w' .u32 Ar0 (canon ((parseZ s.data.toList).1).natAbs) cr0∧New w w'
theorem wparse_p (s:ByteArray) (w:World) (hs:s.size≤100000) (h0:s.size ≠ 0) (hm:bAt s 0 ≠ 45):Calls prog 87 #[.string s] w (wparse_p_P s w):=by
 refine enter_abs func87 rfl fun a0 cl mC hp=>?_
 have cl:a0.tmps.size=78:=cl
 have jr:New w w:=Upd.refl _ _
 have hp0:a0.eval (.tmp 0)=.string s:=hp 0 _ rfl
 refine wk fun K1 mD=>?_
 refine wB tr2 [] [] 78 [IsNew w 26 [.bool false,sv none ([]) 0],ve (iv 0)] [0] cl ?_ heN ?_
 exact .Y<| .c .nil
 refine aftI cl mC jr fun a2 w3 js mE jz rc jt=>?_
 have h8:=jt.f1 hp0
 obtain⟨bj,h9,jA,jB⟩:=jt.G 0 2
 have oj:=Nat.le_trans jr.size jA
 refine mD _ _ <| wk fun rd jC=>?_
 have dB:(decide ((s.size:Int)≤0))=false:=decide_eq_false (by omega)
 have nU:=oF dB
 refine wA tr9 [] 78 [ve (.string s),ve (iv (s.size:Int)),vT,vT,ve (.string s),ve (.int .u8 ((bAt s 0:Nat):Int)),ve (.bool (decide (((bAt s 0:Nat):Int)=45))),ve (.bool (decide (((bAt s 0:Nat):Int)=45))),ve (.bool (decide (((bAt s 0:Nat):Int)=45)))] js ?_ ?_
 exact .M h8<| .T (fun k=>v_lenS rfl (k.eq1 0 9 rfl) (by kernel_rfl))<| .b 1 (r_gtrK dB)<| .N 2<| .gm (fun k=>k.eq1 3 12 rfl) (fun k=>k.fx 0 h8)<| .V (fun p k=>v_idxN rfl (k.eq1 4 13 rfl) rfl (by kernel_rfl) (by omega))<| .V (fun p k=>v_bin rfl (k.eq1 5 14 rfl) rfl (fun _=>rfl) (r_eql rfl))<| .T (fun k=>v_pickT rfl (k.eq1 3 12 rfl) (k.eq1 6 15 rfl))<| .B 7 .nil
 refine aftI js mE jz fun re rf dC jD jE jF cc=>?_
 have⟨ju,mF⟩:=cc.f2 h8 h9
 have mG:=cc.g 8 4
 have jG:=jB.new_ jF
 refine jC _ _ <| wk fun rg jH=>?_
 refine wA tr2 [] 78 [ve (.string s),ve (.string s)] dC ?_ ?_
 exact .M ju<| .B 0 .nil
 refine aftI dC jD jE fun rh ri dD jI jJ jK bM=>?_
 have⟨mH,mI,jv⟩:=bM.f3 ju mF mG
 have mJ:=bM.g 1 5
 have jL:=jG.new_ jK
 refine jH _ _ <| wk fun rj jM=>?_
 refine wk fun rk jN=>?_
 refine wA tr1 [] 78 [ve (.bool (decide (((bAt s 0:Nat):Int)=45)))] dD ?_ ?_
 exact .M jv .nil
 refine aftI dD jI jJ fun rl rm az bN bO jO bE=>?_
 have⟨rn,cm,mK,ar⟩:=bE.f4 mH mI jv mJ
 have mL:=bE.g 0 18
 have bP:=jL.new_ jO
 refine jN _ _ ?_
 have bQ:(decide (((bAt s 0:Nat):Int)=45))=false:=decide_eq_false (by omega)
 have nV:=oF bQ
 have bF:=hB mK bQ
 have jP:=hB mL bQ
 refine wf jP<| ws<| jM _ _<| wk fun ro dE=>wk fun rp bR=>?_
 have hR:PRel s false s:=prel_pos (.inr bQ)
 have hds0:=str_size0 (s:=s)
 rcases bc (strEq s ⟨#[]⟩) with af|af
 refine wA tr15 [] 78 [ve (.string s),vT,vT,vU,vU,vU,vU,vU,vU,vU,vU,vU,vU,vU,vT] az ?_ ?_
 exact .M ar<| .b 0 (r_eqlS af)<| .N 1<| .S<| .S<| .S<| .S<| .o1 (su rfl rfl rfl (fun _ _ _ k=>k.eq1 6 27 rfl) (fun _=>rfl))<| .o1 (su rfl rfl rfl (fun _ _ _ k=>k.eq1 6 27 rfl) (fun _=>rfl))<| .o1 (su rfl rfl rfl (fun _ _ _ k=>k.eq1 6 27 rfl) (fun _=>rfl))<| .o1 (su rfl rfl rfl (fun _ _ _ k=>k.eq1 6 27 rfl) (fun _=>rfl))<| .o1 (su rfl rfl rfl (fun _ _ _ k=>k.eq1 10 31 rfl) (fun _=>rfl))<| .o1 (su rfl rfl rfl (fun _ _ _ k=>k.eq1 6 27 rfl) (fun _=>rfl))<| .S<| .T (fun k=>v_pickT rfl (k.eq1 2 23 rfl) rfl) .nil
 refine aftI az bN bO fun rq rr dF jQ jR jS bS=>?_
 have⟨mM,rs,rt⟩:=bS.f3 cm bF ar
 have mN:=bS.g 14 35
 have jT:=bP.new_ jS
 refine bR _ _<| wt mN<| wk fun ru jU=>?_
 refine wA [true,false,false] [(1,false),(2,true)] 78 [ve (.agg #[.bool false,sv none ([]) 0]),vt,vt] dF ?_ ?_
 exact .Z<| .off<| .off .nil
 refine aftI dF jQ jR fun jw rv dG jV jW jX dH=>?_
 have jx:=dH.f1 mM
 have jy:=dH.g 0 36
 have jY:=jT.new_ jX
 refine sS6 jx jy jY fun rx jZ j0 ok=>?_
 have j2:=jW.tR j0
 refine sP (v:=iv 2) rfl dG jV fun mO ol j3 bi mQ=>?_
 have⟨mP,rz⟩:=bi.q2 jx jy
 refine jU _ _<| wp_ret (ret_k j3 (v:=.tuple #[.agg #[.bool false,sv none ([]) 0],iv 2]) (res_ct rfl mP mQ (l_two isAgg26 sizeOf26 jZ)) ?_)
 have hpz:=pz_bad hR (.inl (digB_empty af))
 have hz2:canon (parseZ s.data.toList).1.natAbs=[]:=by rw [hpz]; exact canon_zero
 exact⟨none,0,by rw [hz2,hpz]; rfl,by rw [hz2]; exact (SRow.nil _ _),j2⟩
 rcases bc (decide (((bAt s 0:Nat):Int)=48)) with ag|ag
 have dI:=oT ag
 rcases bc (decide ((s.size:Int)≤1)) with au|au
 have dJ:=oT au
 have hsp:=size_pos af
 refine wA tr15 [] 78 [ve (.string s),vF,vF,ve (.string s),ve (.int .u8 ((bAt s 0:Nat):Int)),vT,vT,ve (.string s),ve (iv (s.size:Int)),vF,vF,vF,vF,vF,vF] az ?_ ?_
 exact .M ar<| .b 0 (r_eqlS af)<| .N 1<| .gm (fun k=>k.eq1 2 23 rfl) (fun k=>k.fx 5 ar)<| .V (fun p k=>v_idxN rfl (k.eq1 3 24 rfl) rfl (by kernel_rfl) (by omega))<| .V (fun p k=>v_bin rfl (k.eq1 4 25 rfl) rfl (fun _=>rfl) (r_eql ag))<| .gm (fun k=>k.eq1 2 23 rfl) (fun k=>k.eq1 5 26 rfl)<| .gm (fun k=>k.eq1 6 27 rfl) (fun k=>k.fx 5 ar)<| .V (fun p k=>v_lenS rfl (k.eq1 7 28 rfl) (by kernel_rfl))<| .V (fun p k=>v_bin rfl (k.eq1 8 29 rfl) rfl (fun _=>rfl) (r_gtrK au))<| .gm (fun k=>k.eq1 6 27 rfl) (fun k=>k.eq1 9 30 rfl)<| .gm (fun k=>k.eq1 10 31 rfl) (fun k=>k.fx 4 bF)<| .V (fun p k=>v_pickF rfl (k.eq1 10 31 rfl) (k.eq1 11 32 rfl))<| .V (fun p k=>v_pickT rfl (k.eq1 6 27 rfl) (k.eq1 12 33 rfl))<| .T (fun k=>v_pickF rfl (k.eq1 2 23 rfl) (k.eq1 13 34 rfl)) .nil
 refine aftI az bN bO fun om oo cn e6 e8 e9 bk=>?_
 have⟨j4,j5,j6⟩:=bk.f3 cm bF ar
 have j7:=bk.g 14 35
 have fa:=bP.new_ e9
 refine bR _ _<| wf j7<| ws ?_
 refine dE _ _<| wk fun op fb=>wk fun oq fc=>?_
 have hne:0 < s.size:=size_pos af
 have hlead:bAt s 0 ≠ 48 ∨ s.size=1:=.inr (by have:=oT au; omega)
 refine wA tr1 [] 78 [ve (iv 0)] cn ?_ ?_
 exact .c .nil
 refine aftI cn e6 e8 fun os ot fd fe ff fg bl=>?_
 have⟨j8,j9,ka⟩:=bl.f3 j4 j5 j6
 have kb:=bl.g 0 6
 have fh:=fa.new_ fg
 refine fc _ _<| wb<| wp_loopX (fun (mm:Nat) (aa:Act) (ww:World)=>∃ (i:Nat),mm=s.size - i∧aa.tmps.size=78∧aa.defers=[]∧New w ww∧aa.eval (.tmp 6)=iv (i:Int)∧aa.eval (.tmp 2)=pv bj∧aa.eval (.tmp 4)=.bool false∧aa.eval (.tmp 5)=.string s∧Blk ww bj 26 [.bool false,sv none ([]) 0]∧(i≤s.size)∧(∀ j,j < i→48≤bAt s j∧bAt s j≤57)) (fun mm=>mm) ⟨_,⟨0,rfl,fd,fe,ff,kb,j8,j9,ka,fh,(Nat.zero_le _),(fun j h=>absurd h (Nat.not_lt_zero _))⟩⟩ ?_
 rintro mm ou ov ⟨i,hmm,co,fi,fj,dK,kc,kd,dL,fk,hi,hdg⟩
 refine wk fun ow fl=>wk fun ox fm=>?_
 refine wA tr4 [] 78 [ve (iv (i:Int)),ve (.string s),ve (iv (s.size:Int)),ve (.bool (decide ((i:Int) < (s.size:Int))))] co ?_ ?_
 exact .M dK<| .M dL<| .T (fun k=>v_lenS rfl (k.eq1 1 38 rfl) (by kernel_rfl))<| .T (fun k=>v_bin rfl (k.eq1 0 37 rfl) (k.eq1 2 39 rfl) (fun _=>rfl) (r_lssK rfl)) .nil
 refine aftI co fi fj fun oy oz ah bm bn fn aZ=>?_
 have⟨aA,bT,bU,av⟩:=aZ.f4 dK kc kd dL
 have dM:=aZ.g 3 40
 have bo:=fk.new_ fn
 refine fm _ _ ?_
 rcases bc (decide ((i:Int) < (s.size:Int))) with a1|a1
 have dN:=oT a1
 have fo:=hB dM a1
 refine wt fo<| ws<| fl _ _<| wk fun oA fp=>wb ?_
 refine wk fun oB bV=>?_
 rcases bc (decide (((bAt s i:Nat):Int) < 48)) with ai|ai
 have dO:=oT ai
 refine wA tr10 [] 78 [ve (.string s),ve (iv (i:Int)),ve (.int .u8 ((bAt s i:Nat):Int)),vT,vT,vU,vU,vU,vU,vT] ah ?_ ?_
 exact .M av<| .M aA<| .R (fun k=>v_idxN rfl (k.eq1 0 43 rfl) (k.eq1 1 44 rfl) (by kernel_rfl) (by omega)) (fun _=>rfl)<| .b 2 (r_lssK ai)<| .N 3<| .S<| .S<| .S<| .S<| .T (fun k=>v_pickT rfl (k.eq1 4 47 rfl) rfl) .nil
 refine aftI ah bm bn fun oC oD cp fq fs ft a3=>?_
 have⟨oE,ke,oG,oH⟩:=a3.f4 aA bT bU av
 have kf:=a3.g 9 52
 have fu:=bo.new_ ft
 refine bV _ _<| wt kf<| wk fun oI fv=>?_
 refine wA [true,false,false] [(1,false),(2,true)] 78 [ve (.agg #[.bool false,sv none ([]) 0]),vt,vt] cp ?_ ?_
 exact .Z<| .off<| .off .nil
 refine aftI cp fq fs fun dP oJ cq fw fy fz cr=>?_
 have dQ:=cr.f1 ke
 have dR:=cr.g 0 53
 have fA:=fu.new_ fz
 refine sS6 dQ dR fA fun oK fB fC nW=>?_
 have fE:=fy.tR fC
 refine sP (v:=iv 2) rfl cq fw fun kg nX fF aE ki=>?_
 have⟨kh,oM⟩:=aE.q2 dQ dR
 refine fv _ _<| wp_ret (ret_k fF (v:=.tuple #[.agg #[.bool false,sv none ([]) 0],iv 2]) (res_ct rfl kh ki (l_two isAgg26 sizeOf26 fB)) ?_)
 have hpz:=pz_bad hR (.inl (pdigB_bad (i:=i) (by omega) (.inl ai)))
 have hz2:canon (parseZ s.data.toList).1.natAbs=[]:=by rw [hpz]; exact canon_zero
 exact⟨none,0,by rw [hz2,hpz]; rfl,by rw [hz2]; exact (SRow.nil _ _),fE⟩
 have dO:=oF ai
 rcases bc (decide (((bAt s i:Nat):Int)≤57)) with aw|aw
 have dT:=oT aw
 refine wA tr10 [] 78 [ve (.string s),ve (iv (i:Int)),ve (.int .u8 ((bAt s i:Nat):Int)),vF,vF,ve (.string s),ve (iv (i:Int)),ve (.int .u8 ((bAt s i:Nat):Int)),vF,vF] ah ?_ ?_
 exact .M av<| .M aA<| .R (fun k=>v_idxN rfl (k.eq1 0 43 rfl) (k.eq1 1 44 rfl) (by kernel_rfl) (by omega)) (fun _=>rfl)<| .b 2 (r_lssK ai)<| .N 3<| .gm (fun k=>k.eq1 4 47 rfl) (fun k=>k.fx 5 av)<| .gm (fun k=>k.eq1 4 47 rfl) (fun k=>k.fx 6 aA)<| .V (fun p k=>v_idxN rfl (k.eq1 5 48 rfl) (k.eq1 6 49 rfl) (by kernel_rfl) (by omega))<| .V (fun p k=>v_bin rfl (k.eq1 7 50 rfl) rfl (fun _=>rfl) (r_gtrK aw))<| .T (fun k=>v_pickF rfl (k.eq1 4 47 rfl) (k.eq1 8 51 rfl)) .nil
 refine aftI ah bm bn fun oN oO ct fG fH fI a4=>?_
 have⟨dU,kj,kk,kl⟩:=a4.f4 aA bT bU av
 have km:=a4.g 9 52
 have fJ:=bo.new_ fI
 refine bV _ _<| wf km<| ws ?_
 refine fp _ _<| wA [true,true,false] [(2,true)] 78 [ve (iv (i:Int)),ve (iv ((i + 1:Nat):Int)),vt] ct ?_ ?_
 exact .M dU<| .R (fun k=>v_bin rfl (k.eq1 0 41 rfl) rfl (fun _=>rfl) (n_add (by omega) (IntWalk.i64_in _ (by omega)))) (fun _=>rfl)<| .off .nil
 refine aftI ct fG fH fun dV oP cu fK fL fM a5=>?_
 have⟨oQ,kn,ko,kp⟩:=a5.f4 dU kj kk kl
 have dW:=a5.g 1 42
 have fN:=fJ.new_ fM
 refine sP dW cu fK fun kq fO fP aj ku=>?_
 have⟨kr,ks,kt⟩:=aj.q3 kn ko kp
 have oR:=aj.q dW
 refine st_nil ?_
 refine then_n ?_
 exact⟨_,⟨i + 1,rfl,fO,fP,fL,(ku.trans (congrArg (Value.int .i64) (by omega))),kr,ks,kt,fN,(by omega),(pdig_up hdg ai aw)⟩,(by omega)⟩
 have dT:=oF aw
 refine wA tr10 [] 78 [ve (.string s),ve (iv (i:Int)),ve (.int .u8 ((bAt s i:Nat):Int)),vF,vF,ve (.string s),ve (iv (i:Int)),ve (.int .u8 ((bAt s i:Nat):Int)),vT,vT] ah ?_ ?_
 exact .M av<| .M aA<| .R (fun k=>v_idxN rfl (k.eq1 0 43 rfl) (k.eq1 1 44 rfl) (by kernel_rfl) (by omega)) (fun _=>rfl)<| .b 2 (r_lssK ai)<| .N 3<| .gm (fun k=>k.eq1 4 47 rfl) (fun k=>k.fx 5 av)<| .gm (fun k=>k.eq1 4 47 rfl) (fun k=>k.fx 6 aA)<| .V (fun p k=>v_idxN rfl (k.eq1 5 48 rfl) (k.eq1 6 49 rfl) (by kernel_rfl) (by omega))<| .V (fun p k=>v_bin rfl (k.eq1 7 50 rfl) rfl (fun _=>rfl) (r_gtrK aw))<| .T (fun k=>v_pickF rfl (k.eq1 4 47 rfl) (k.eq1 8 51 rfl)) .nil
 refine aftI ah bm bn fun oS oU cv fQ fR fS a6=>?_
 have⟨oV,kv,oW,oX⟩:=a6.f4 aA bT bU av
 have kw:=a6.g 9 52
 have fT:=bo.new_ fS
 refine bV _ _<| wt kw<| wk fun oY fU=>?_
 refine wA [true,false,false] [(1,false),(2,true)] 78 [ve (.agg #[.bool false,sv none ([]) 0]),vt,vt] cv ?_ ?_
 exact .Z<| .off<| .off .nil
 refine aftI cv fQ fR fun dX oZ cw fV fW fX cx=>?_
 have dY:=cx.f1 kv
 have dZ:=cx.g 0 53
 have fY:=fT.new_ fX
 refine sS6 dY dZ fY fun o0 fZ f0 nY=>?_
 have f2:=fW.tR f0
 refine sP (v:=iv 2) rfl cw fV fun kx nZ f3 aF kz=>?_
 have⟨ky,o4⟩:=aF.q2 dY dZ
 refine fU _ _<| wp_ret (ret_k f3 (v:=.tuple #[.agg #[.bool false,sv none ([]) 0],iv 2]) (res_ct rfl ky kz (l_two isAgg26 sizeOf26 fZ)) ?_)
 have hpz:=pz_bad hR (.inl (pdigB_bad (i:=i) (by omega) (.inr aw)))
 have hz2:canon (parseZ s.data.toList).1.natAbs=[]:=by rw [hpz]; exact canon_zero
 exact⟨none,0,by rw [hz2,hpz]; rfl,by rw [hz2]; exact (SRow.nil _ _),f2⟩
 have dN:=oF a1
 have f4:=hB dM a1
 refine wf f4<| wp_exit ?_
 refine fb _ _<| wk fun o5 f5=>?_
 have hall:∀ j,j < s.size→48≤bAt s j∧bAt s j≤57:=fun j hj=>hdg j (by omega)
 have hdB:digB s.data.toList=true:=digB_yes hne hall hlead
 refine wA tr1 [] 78 [ve (sv none ([]) 0)] ah ?_ ?_
 exact .c .nil
 refine aftI ah bm bn fun o6 o7 cy f6 f7 f8 bp=>?_
 have⟨kA,kB,kC⟩:=bp.f3 bT bU av
 have kD:=bp.g 0 7
 have f9:=bo.new_ f8
 refine f5 _ _ <| wk fun o8 ga=>?_
 refine wk fun o9 gb=>?_
 refine wA tr1 [] 78 [ve (iv 0)] cy ?_ ?_
 exact .c .nil
 refine aftI cy f6 f7 fun pa pb gc gd gf gg a7=>?_
 have⟨kE,kF,kG,kH⟩:=a7.f4 kA kB kC kD
 have kI:=a7.g 0 8
 have gh:=f9.new_ gg
 refine gb _ _<| wb<| wp_loopX (fun (mm:Nat) (aa:Act) (ww:World)=>∃ (i2:Nat) (A1:Option Addr) (c1:Nat),mm=s.size - i2∧aa.tmps.size=78∧aa.defers=[]∧New w ww∧aa.eval (.tmp 7)=sv A1 (canon (decV (s.data.toList.take i2))) c1∧aa.eval (.tmp 8)=iv (i2:Int)∧aa.eval (.tmp 2)=pv bj∧aa.eval (.tmp 4)=.bool false∧aa.eval (.tmp 5)=.string s∧Blk ww bj 26 [.bool false,sv none ([]) 0]∧SOwn ww w.heap.size 59 .u32 A1 (canon (decV (s.data.toList.take i2))) c1∧(i2≤s.size)∧((canon (decV (s.data.toList.take i2))).length≤8)) (fun mm=>mm) ⟨_,⟨0,none,0,rfl,gc,gd,gf,(kH.trans (by rw [List.take_zero,show decV []=0 from rfl,canon_zero])),kI,kE,kF,kG,gh,(by rw [List.take_zero,show decV []=0 from rfl,canon_zero]; exact SOwn.nil _ _ _ _),(Nat.zero_le _),(by simp [decV,canon_zero])⟩⟩ ?_
 rintro mm pc pe ⟨i2,A1,c1,hmm,cz,gi,gj,kJ,d1,kK,kL,d2,gk,gl,hi2,cb⟩
 refine wk fun pf gn=>wk fun pg go=>?_
 refine wA tr4 [] 78 [ve (iv (i2:Int)),ve (.string s),ve (iv (s.size:Int)),ve (.bool (decide ((i2:Int) < (s.size:Int))))] cz ?_ ?_
 exact .M d1<| .M d2<| .T (fun k=>v_lenS rfl (k.eq1 1 55 rfl) (by kernel_rfl))<| .T (fun k=>v_bin rfl (k.eq1 0 54 rfl) (k.eq1 2 56 rfl) (fun _=>rfl) (r_lssK rfl)) .nil
 refine aftI cz gi gj fun ph ap bq cA bW cB aG=>?_
 have⟨cd,d3,d4,d5⟩:=aG.f4 kJ d1 kK kL
 have d6:=aG.f1 d2
 have d7:=aG.g 3 57
 have⟨cC,bX⟩:=nw2 cB gk gl
 refine go _ _ ?_
 rcases bc (decide ((i2:Int) < (s.size:Int))) with a8|a8
 have d8:=oT a8
 have gp:=hB d7 a8
 refine wt gp<| ws<| gn _ _<| wk fun pi gq=>wb ?_
 refine wk fun pj gr=>?_
 have mR:=hall i2 (by omega)
 have hbl:=bAt_lt s i2
 have hstep:=decV_step (s:=s) (i:=i2) (by omega)
 have hl9:(canon (val (canon (decV (s.data.toList.take i2))) * val [10])).length≤9:=ten_len cb
 have hl1:(canon (val [(bAt s i2 - 48)])).length≤1:=one_len (by omega)
 refine wp_g0 [true,true,true,true,true,true,true,true,true,true,true,false] [(11,true)] 78
  [ve (sv A1 (canon (decV (s.data.toList.take i2))) c1),
  (OP ap.heap.size 59 .u32 ([10])),
  (OP ap.heap.size 59 .u32 (canon (val (canon (decV (s.data.toList.take i2))) * val ([10])))),ve (.string s),ve (iv (i2:Int)),ve (.int .u8 ((bAt s i2:Nat):Int)),ve (.int .u8 (((bAt s i2) - 48:Nat):Int)),ve (.int .u32 (((bAt s i2) - 48:Nat):Int)),
  (OP ap.heap.size 59 .u32 ([((bAt s i2) - 48)])),
  (OP ap.heap.size 59 .u32 (canon (val ([((bAt s i2) - 48)])))),
  (OP ap.heap.size 59 .u32 (canon (val (canon (val (canon (decV (s.data.toList.take i2))) * val ([10]))) + val (canon (val ([((bAt s i2) - 48)])))))),vt] bq (.eq (.cons (fun _ _ _ n ⟨_,_,e,h⟩=>⟨_,_,e,h.new_ n⟩) (.cons (fun _ _ _ n ⟨_,_,e,h⟩=>⟨_,_,e,h.new_ n⟩) (.eq (.eq (.eq (.eq (.eq (.cons (fun _ _ _ n ⟨_,_,e,h⟩=>⟨_,_,e,h.new_ n⟩) (.cons (fun _ _ _ n ⟨_,_,e,h⟩=>⟨_,_,e,h.new_ n⟩) (.cons (fun _ _ _ n ⟨_,_,e,h⟩=>⟨_,_,e,h.new_ n⟩) (.tt .nil)))))))))))) ?_ ?_
 refine .M cd ?_
 refine .o1 (tkA rfl (noG rfl) fun _ w hn k=>(by
  exact x_bslice (k:=.u32) (ps:=[(0,.int .u32 10)]) [10] rfl (parts1 rfl) elW rfl (by omega) (by omega) (by first|kernel_rfl|(simp only [enc,List.map_cons,List.map_nil,Int.toNat_natCast,Int.toNat_of_nonneg (by omega:(0:Int)≤_)]; kernel_rfl)) fun A1 c2 W' hmo=>⟨A1,c2,rfl,(hmo.more hn.size)⟩)) ?_
 refine .o1 (tkC rfl (noG rfl) rfl fun _ w hn k=>(by
  obtain⟨A5,c6,e7,m0⟩:=k.G 1 61
  refine ⟨#[sv A1 (canon (decV (s.data.toList.take i2))) c1,sv A5 ([10]) c6],_,args2 (k.eq1 0 60 rfl) e7,fun w=>by kernel_rfl,rtimes_c _ _ _ _ _ _ _ (bX.new_ hn).row m0.row (limbs_canon _) limbs_10 (by first|omega|(simp only [List.length_nil,List.length_cons,List.length_set,List.length_replicate]; omega)) (by first|omega|(simp only [List.length_nil,List.length_cons,List.length_set,List.length_replicate]; omega)),?_⟩
  rintro e w' ⟨A9,m1,rfl,hmo,hm⟩
  exact⟨_,rfl,hm,⟨A9,m1,rfl,(hmo.more hn.size)⟩⟩)) ?_
 refine .M d6<| .M d3<| .R (fun k=>v_idxN rfl (k.eq1 3 63 rfl) (k.eq1 4 64 rfl) (by kernel_rfl) (by omega)) (fun _=>rfl)<| .R (fun k=>v_bin rfl (k.eq1 5 65 rfl) rfl (fun _=>rfl) (n_sub (by omega) (IntWalk.u8_in _ (by omega)))) (fun _=>rfl)<| .R (fun k=>v_conv rfl (k.eq1 6 66 rfl) (n_conv (by kernel_rfl) (by kernel_rfl) (by kernel_rfl) (IntWalk.u32_in _ (by omega)))) (fun _=>rfl) ?_
 refine .o1 (tkA rfl (noG rfl) fun _ w hn k=>(by
  exact x_bslice (k:=.u32) (ps:=[(0,.int .u32 (((bAt s i2) - 48:Nat):Int))]) [((bAt s i2) - 48)] rfl (parts1 (k.eq1 7 67 rfl)) elW rfl (by omega) (by omega) (by first|kernel_rfl|(simp only [enc,List.map_cons,List.map_nil,Int.toNat_natCast,Int.toNat_of_nonneg (by omega:(0:Int)≤_)]; kernel_rfl)) fun m2 m3 W' hmo=>⟨m2,m3,rfl,(hmo.more hn.size)⟩)) ?_
 refine .o1 (tkC rfl (noG rfl) rfl fun _ w hn k=>(by
  obtain⟨m4,m5,m6,kM⟩:=k.G 8 68
  refine ⟨#[sv m4 ([((bAt s i2) - 48)]) m5],_,args1 m6,fun w=>by kernel_rfl,strim_c _ ([((bAt s i2) - 48)]) _ _ kM.row (limbs_d (bAt_lt _ _)) (by first|omega|(simp only [List.length_nil,List.length_take,List.length_drop]; omega)|(simp only [List.length_cons,List.length_nil]; omega)),?_⟩
  rintro e w' ⟨m7,m8,rfl,hmo0,hm⟩
  exact⟨_,rfl,hm,⟨m7,m8,rfl,(hmo0.more hn.size)⟩⟩)) ?_
 refine .o1 (tkC rfl (noG rfl) rfl fun _ w hn k=>(by
  obtain⟨m9,na,nb,kN⟩:=k.G 2 62
  obtain⟨nc,nd,ne,kO⟩:=k.G 9 69
  refine ⟨#[sv m9 (canon (val (canon (decV (s.data.toList.take i2))) * val ([10]))) na,sv nc (canon (val ([((bAt s i2) - 48)]))) nd],_,args2 nb ne,fun w=>by kernel_rfl,rplus_c _ _ _ _ _ _ _ kN.row kO.row (limbs_canon _) (limbs_canon _) (by first|omega|(simp only [List.length_nil,List.length_cons,List.length_set,List.length_replicate]; omega)) (by first|omega|(simp only [List.length_nil,List.length_cons,List.length_set,List.length_replicate]; omega)),?_⟩
  rintro e w' ⟨nf,ng,rfl,hmo,hm⟩
  exact⟨_,rfl,hm,⟨nf,ng,rfl,(hmo.more hn.size)⟩⟩)) ?_
 exact .off .nil
 refine aftI bq cA bW fun ce pk cD gs cE cF aH=>?_
 have⟨pl,kP,kQ,kR⟩:=aH.f4 cd d3 d4 d5
 have kS:=aH.f1 d6
 obtain⟨aB,ak,bY,gt⟩:=aH.G 10 70
 have bY:ce.eval (.tmp 70)=sv aB (canon (val (canon (val (canon (decV (s.data.toList.take i2))) * val ([10]))) + val (canon (val ([((bAt s i2) - 48)]))))) ak:=bY
 have⟨cG,n0⟩:=nw2 cF cC bX
 have bZ:=gt.more bW.size
 refine sP bY cD gs fun kT br cH ab bG=>?_
 have⟨d9,ea,eb⟩:=ab.q3 kP kQ kR
 have⟨ec,pm⟩:=ab.q2 kS bY
 refine st_nil ?_
 have he363:(canon (val (canon (val (canon (decV (s.data.toList.take i2))) * val ([10]))) + val (canon (val ([((bAt s i2) - 48)])))))=(canon (decV (s.data.toList.take (i2 + 1)))):=by rw [hstep,val_canon,val_canon,val_canon,val_one,val_one,Nat.mul_comm]
 rw [he363] at bG
 rw [he363] at bZ
 refine gr _ _<| wk fun po cI=>?_
 rcases bc (decide (((canon (decV (s.data.toList.take (i2 + 1)))).length:Int)≤8)) with aI|aI
 have ed:=oT aI
 refine wA tr3 [] 78 [ve (sv aB (canon (decV (s.data.toList.take (i2 + 1)))) ak),ve (iv ((canon (decV (s.data.toList.take (i2 + 1)))).length:Int)),vF] br ?_ ?_
 exact .M bG<| .T (fun k=>v_lenR rfl elW (k.eq1 0 71 rfl))<| .b 1 (r_gtrK aI) .nil
 refine aftI br cH cE fun pp pq cJ gu gv cK aJ=>?_
 have⟨ee,kU,kV,kW⟩:=aJ.f4 d9 ea eb ec
 have kX:=aJ.f1 bG
 have kY:=aJ.g 2 73
 have⟨gw,gx⟩:=nw2 cK cG bZ
 refine cI _ _<| wf kY<| ws ?_
 refine gq _ _<| wA [true,true,false] [(2,true)] 78 [ve (iv (i2:Int)),ve (iv ((i2 + 1:Nat):Int)),vt] cJ ?_ ?_
 exact .M ee<| .R (fun k=>v_bin rfl (k.eq1 0 58 rfl) rfl (fun _=>rfl) (n_add (by omega) (IntWalk.i64_in _ (by omega)))) (fun _=>rfl)<| .off .nil
 refine aftI cJ gu gv fun ef pr cL gy gz cM aK=>?_
 have⟨pt,kZ,k0,k1⟩:=aK.f4 ee kU kV kW
 have k2:=aK.f1 kX
 have eg:=aK.g 1 59
 have⟨gA,gB⟩:=nw2 cM gw gx
 refine sP eg cL gy fun k3 gC gD ac k8=>?_
 have⟨k4,k5,k6⟩:=ac.q3 kZ k0 k1
 have⟨k7,pu⟩:=ac.q2 k2 eg
 refine st_nil ?_
 refine then_n ?_
 exact⟨_,⟨i2 + 1,aB,ak,rfl,gC,gD,gz,k7,(k8.trans (congrArg (Value.int .i64) (by omega))),k4,k5,k6,gA,gB,(by omega),(by omega)⟩,(by omega)⟩
 have ed:=oF aI
 refine wA tr3 [] 78 [ve (sv aB (canon (decV (s.data.toList.take (i2 + 1)))) ak),ve (iv ((canon (decV (s.data.toList.take (i2 + 1)))).length:Int)),vT] br ?_ ?_
 exact .M bG<| .T (fun k=>v_lenR rfl elW (k.eq1 0 71 rfl))<| .b 1 (r_gtrK aI) .nil
 refine aftI br cH cE fun pw px cN gE gF cO aL=>?_
 have⟨py,k9,pA,pB⟩:=aL.f4 d9 ea eb ec
 have pC:=aL.f1 bG
 have la:=aL.g 2 73
 have⟨gG,n1⟩:=nw2 cO cG bZ
 refine cI _ _<| wt la<| wk fun pD gH=>?_
 refine wA [true,false,false] [(1,false),(2,true)] 78 [ve (.agg #[.bool false,sv none ([]) 0]),vt,vt] cN ?_ ?_
 exact .Z<| .off<| .off .nil
 refine aftI cN gE gF fun eh pE cP gI gJ gK cQ=>?_
 have ei:=cQ.f1 k9
 have ej:=cQ.g 0 74
 have gL:=gG.new_ gK
 refine sS6 ei ej gL fun pF gM gN n2=>?_
 have gP:=gJ.tR gN
 refine sP (v:=iv 3) rfl cP gI fun lc n3 gQ aM le=>?_
 have⟨ld,pH⟩:=aM.q2 ei ej
 refine gH _ _<| wp_ret (ret_k gQ (v:=.tuple #[.agg #[.bool false,sv none ([]) 0],iv 3]) (res_ct rfl ld le (l_two isAgg26 sizeOf26 gM)) ?_)
 have hpz:=pz_long hR hdB (fun h=>by cases h) (dec_long aI)
 have hz2:canon (parseZ s.data.toList).1.natAbs=[]:=by rw [hpz]; exact canon_zero
 exact⟨none,0,by rw [hz2,hpz]; rfl,by rw [hz2]; exact (SRow.nil _ _),gP⟩
 have d8:=oF a8
 have gR:=hB d7 a8
 refine wf gR<| wp_exit ?_
 refine ga _ _<| wk fun pI gS=>?_
 refine wp_g0 [true,true,true,false,false] [(3,false),(4,true)] 78
  [vF,ve (sv A1 (canon (decV (s.data.toList.take i2))) c1),(fun (v_:Value) (W:World)=>∃ (bH:Option Addr) (bI:Nat),v_=.agg #[.bool (decide (sgn false (val (canon (decV (s.data.toList.take i2)))) < 0)),sv bH (canon (sgn false (val (canon (decV (s.data.toList.take i2))))).natAbs) bI]∧SRow W .u32 bH (canon (sgn false (val (canon (decV (s.data.toList.take i2))))).natAbs) bI),vt,vt] bq (.eq (.eq (.cons (fun _ _ _ n ⟨_,_,e,h⟩=>⟨_,_,e,h.new_ n⟩) (.tt (.tt .nil))))) ?_ ?_
 refine .M d5<| .M cd ?_
 refine .o1 (tkC rfl (noG rfl) rfl fun _ w hn k=>(by
  refine ⟨#[.bool false,sv A1 (canon (decV (s.data.toList.take i2))) c1],_,args2 (k.eq1 0 75 rfl) (k.eq1 1 76 rfl),fun w=>by kernel_rfl,smade_c false _ (canon (decV (s.data.toList.take i2))) _ _ (bX.new_ hn).row (limbs_canon _) (by first|omega|(simp only [List.length_nil,List.length_take,List.length_drop]; omega)|(simp only [List.length_cons,List.length_nil]; omega)),?_⟩
  rintro e w' ⟨nh,ni,rfl,hmo0,hm⟩
  exact⟨_,rfl,hm,⟨nh,ni,rfl,hmo0⟩⟩)) ?_
 exact .off<| .off .nil
 refine aftI bq cA bW fun cf pJ cR gT gU gV cS=>?_
 have el:=cS.f1 d4
 obtain⟨b0,bs,b1,gW⟩:=cS.G 2 77
 have b1:cf.eval (.tmp 77)=.agg #[.bool (decide (sgn false (val (canon (decV (s.data.toList.take i2)))) < 0)),sv b0 (canon (sgn false (val (canon (decV (s.data.toList.take i2))))).natAbs) bs]:=b1
 have cT:=cC.new_ gV
 refine sS6 el b1 cT fun pK gX cU n4=>?_
 have gZ:=gW.fr cT cU
 have g0:=gU.tR cU
 refine sP (v:=iv 0) rfl cR gT fun lf n5 g1 aN lh=>?_
 have⟨lg,pM⟩:=aN.q2 el b1
 refine gS _ _<| wp_ret (ret_k g1 (v:=.tuple #[.agg #[.bool (decide (sgn false (val (canon (decV (s.data.toList.take i2)))) < 0)),sv b0 (canon (sgn false (val (canon (decV (s.data.toList.take i2))))).natAbs) bs],iv 0]) (res_ct rfl lg lh (l_two isAgg26 sizeOf26 gX)) ?_)
 have hpz:=pz_ok hR hdB (fun h=>by cases h) (dec_ok (i:=i2) (by omega) cb)
 have hz1:sgn false (val (canon (decV (s.data.toList.take i2))))=(parseZ s.data.toList).1:=by rw [hpz,val_canon,dec_all (by omega)]
 exact⟨b0,bs,by rw [hz1,hpz],by rw [← hz1]; exact gZ,g0⟩
 have dJ:=oF au
 have hsp:=size_pos af
 refine wA tr15 [] 78 [ve (.string s),vF,vF,ve (.string s),ve (.int .u8 ((bAt s 0:Nat):Int)),vT,vT,ve (.string s),ve (iv (s.size:Int)),vT,vT,vU,vT,vT,vT] az ?_ ?_
 exact .M ar<| .b 0 (r_eqlS af)<| .N 1<| .gm (fun k=>k.eq1 2 23 rfl) (fun k=>k.fx 5 ar)<| .V (fun p k=>v_idxN rfl (k.eq1 3 24 rfl) rfl (by kernel_rfl) (by omega))<| .V (fun p k=>v_bin rfl (k.eq1 4 25 rfl) rfl (fun _=>rfl) (r_eql ag))<| .gm (fun k=>k.eq1 2 23 rfl) (fun k=>k.eq1 5 26 rfl)<| .gm (fun k=>k.eq1 6 27 rfl) (fun k=>k.fx 5 ar)<| .V (fun p k=>v_lenS rfl (k.eq1 7 28 rfl) (by kernel_rfl))<| .V (fun p k=>v_bin rfl (k.eq1 8 29 rfl) rfl (fun _=>rfl) (r_gtrK au))<| .gm (fun k=>k.eq1 6 27 rfl) (fun k=>k.eq1 9 30 rfl)<| .S<| .V (fun p k=>v_pickT rfl (k.eq1 10 31 rfl) rfl)<| .V (fun p k=>v_pickT rfl (k.eq1 6 27 rfl) (k.eq1 12 33 rfl))<| .T (fun k=>v_pickF rfl (k.eq1 2 23 rfl) (k.eq1 13 34 rfl)) .nil
 refine aftI az bN bO fun pN pO cV g2 g3 g4 bt=>?_
 have⟨li,pP,pQ⟩:=bt.f3 cm bF ar
 have lj:=bt.g 14 35
 have g5:=bP.new_ g4
 refine bR _ _<| wt lj<| wk fun pR g6=>?_
 refine wA [true,false,false] [(1,false),(2,true)] 78 [ve (.agg #[.bool false,sv none ([]) 0]),vt,vt] cV ?_ ?_
 exact .Z<| .off<| .off .nil
 refine aftI cV g2 g3 fun en pS cW g7 g8 g9 cX=>?_
 have eo:=cX.f1 li
 have ep:=cX.g 0 36
 have ha:=g5.new_ g9
 refine sS6 eo ep ha fun pT hc hd n6=>?_
 have hg:=g8.tR hd
 refine sP (v:=iv 2) rfl cW g7 fun lk n7 hh aO lm=>?_
 have⟨ll,pV⟩:=aO.q2 eo ep
 refine g6 _ _<| wp_ret (ret_k hh (v:=.tuple #[.agg #[.bool false,sv none ([]) 0],iv 2]) (res_ct rfl ll lm (l_two isAgg26 sizeOf26 hc)) ?_)
 have hpz:=pz_bad hR (.inl (digB_lead ag au))
 have hz2:canon (parseZ s.data.toList).1.natAbs=[]:=by rw [hpz]; exact canon_zero
 exact⟨none,0,by rw [hz2,hpz]; rfl,by rw [hz2]; exact (SRow.nil _ _),hg⟩
 have dI:=oF ag
 have hsp:=size_pos af
 refine wA tr15 [] 78 [ve (.string s),vF,vF,ve (.string s),ve (.int .u8 ((bAt s 0:Nat):Int)),vF,vF,vU,vU,vU,vU,vU,vU,vF,vF] az ?_ ?_
 exact .M ar<| .b 0 (r_eqlS af)<| .N 1<| .gm (fun k=>k.eq1 2 23 rfl) (fun k=>k.fx 5 ar)<| .V (fun p k=>v_idxN rfl (k.eq1 3 24 rfl) rfl (by kernel_rfl) (by omega))<| .V (fun p k=>v_bin rfl (k.eq1 4 25 rfl) rfl (fun _=>rfl) (r_eql ag))<| .gm (fun k=>k.eq1 2 23 rfl) (fun k=>k.eq1 5 26 rfl)<| .S<| .S<| .S<| .S<| .o1 (su rfl rfl rfl (fun _ _ _ k=>k.eq1 10 31 rfl) (fun _=>rfl))<| .S<| .V (fun p k=>v_pickF rfl (k.eq1 6 27 rfl) rfl)<| .T (fun k=>v_pickF rfl (k.eq1 2 23 rfl) (k.eq1 13 34 rfl)) .nil
 refine aftI az bN bO fun pW pX cY hl ho hr bu=>?_
 have⟨ln,lo,lp⟩:=bu.f3 cm bF ar
 have lq:=bu.g 14 35
 have ht:=bP.new_ hr
 refine bR _ _<| wf lq<| ws ?_
 refine dE _ _<| wk fun pY hu=>wk fun pZ hv=>?_
 have hne:0 < s.size:=size_pos af
 have hlead:bAt s 0 ≠ 48 ∨ s.size=1:=.inl (by have:=oF ag; omega)
 refine wA tr1 [] 78 [ve (iv 0)] cY ?_ ?_
 exact .c .nil
 refine aftI cY hl ho fun p0 p1 hw hx hy hz bv=>?_
 have⟨lr,ls,lt⟩:=bv.f3 ln lo lp
 have lu:=bv.g 0 6
 have hA:=ht.new_ hz
 refine hv _ _<| wb<| wp_loopX (fun (mm:Nat) (aa:Act) (ww:World)=>∃ (i:Nat),mm=s.size - i∧aa.tmps.size=78∧aa.defers=[]∧New w ww∧aa.eval (.tmp 6)=iv (i:Int)∧aa.eval (.tmp 2)=pv bj∧aa.eval (.tmp 4)=.bool false∧aa.eval (.tmp 5)=.string s∧Blk ww bj 26 [.bool false,sv none ([]) 0]∧(i≤s.size)∧(∀ j,j < i→48≤bAt s j∧bAt s j≤57)) (fun mm=>mm) ⟨_,⟨0,rfl,hw,hx,hy,lu,lr,ls,lt,hA,(Nat.zero_le _),(fun j h=>absurd h (Nat.not_lt_zero _))⟩⟩ ?_
 rintro mm p2 p3 ⟨i,hmm,cZ,hC,hD,es,lv,lw,et,hE,hi,hdg⟩
 refine wk fun p4 hF=>wk fun p5 hG=>?_
 refine wA tr4 [] 78 [ve (iv (i:Int)),ve (.string s),ve (iv (s.size:Int)),ve (.bool (decide ((i:Int) < (s.size:Int))))] cZ ?_ ?_
 exact .M es<| .M et<| .T (fun k=>v_lenS rfl (k.eq1 1 38 rfl) (by kernel_rfl))<| .T (fun k=>v_bin rfl (k.eq1 0 37 rfl) (k.eq1 2 39 rfl) (fun _=>rfl) (r_lssK rfl)) .nil
 refine aftI cZ hC hD fun p6 p7 al bw bx hH a9=>?_
 have⟨aC,b2,b3,ax⟩:=a9.f4 es lv lw et
 have eu:=a9.g 3 40
 have bz:=hE.new_ hH
 refine hG _ _ ?_
 rcases bc (decide ((i:Int) < (s.size:Int))) with ba|ba
 have ev:=oT ba
 have hI:=hB eu ba
 refine wt hI<| ws<| hF _ _<| wk fun p8 hJ=>wb ?_
 refine wk fun p9 b4=>?_
 rcases bc (decide (((bAt s i:Nat):Int) < 48)) with am|am
 have ew:=oT am
 refine wA tr10 [] 78 [ve (.string s),ve (iv (i:Int)),ve (.int .u8 ((bAt s i:Nat):Int)),vT,vT,vU,vU,vU,vU,vT] al ?_ ?_
 exact .M ax<| .M aC<| .R (fun k=>v_idxN rfl (k.eq1 0 43 rfl) (k.eq1 1 44 rfl) (by kernel_rfl) (by omega)) (fun _=>rfl)<| .b 2 (r_lssK am)<| .N 3<| .S<| .S<| .S<| .S<| .T (fun k=>v_pickT rfl (k.eq1 4 47 rfl) rfl) .nil
 refine aftI al bw bx fun qa qb c0 hK hL hM bb=>?_
 have⟨qc,lx,qd,qe⟩:=bb.f4 aC b2 b3 ax
 have ly:=bb.g 9 52
 have hN:=bz.new_ hM
 refine b4 _ _<| wt ly<| wk fun qf hO=>?_
 refine wA [true,false,false] [(1,false),(2,true)] 78 [ve (.agg #[.bool false,sv none ([]) 0]),vt,vt] c0 ?_ ?_
 exact .Z<| .off<| .off .nil
 refine aftI c0 hK hL fun ex qg c3 hP hQ hS c5=>?_
 have ey:=c5.f1 lx
 have ez:=c5.g 0 53
 have hT:=hN.new_ hS
 refine sS6 ey ez hT fun qh hU hV n8=>?_
 have hX:=hQ.tR hV
 refine sP (v:=iv 2) rfl c3 hP fun lz n9 hY aP lB=>?_
 have⟨lA,qj⟩:=aP.q2 ey ez
 refine hO _ _<| wp_ret (ret_k hY (v:=.tuple #[.agg #[.bool false,sv none ([]) 0],iv 2]) (res_ct rfl lA lB (l_two isAgg26 sizeOf26 hU)) ?_)
 have hpz:=pz_bad hR (.inl (pdigB_bad (i:=i) (by omega) (.inl am)))
 have hz2:canon (parseZ s.data.toList).1.natAbs=[]:=by rw [hpz]; exact canon_zero
 exact⟨none,0,by rw [hz2,hpz]; rfl,by rw [hz2]; exact (SRow.nil _ _),hX⟩
 have ew:=oF am
 rcases bc (decide (((bAt s i:Nat):Int)≤57)) with ay|ay
 have eB:=oT ay
 refine wA tr10 [] 78 [ve (.string s),ve (iv (i:Int)),ve (.int .u8 ((bAt s i:Nat):Int)),vF,vF,ve (.string s),ve (iv (i:Int)),ve (.int .u8 ((bAt s i:Nat):Int)),vF,vF] al ?_ ?_
 exact .M ax<| .M aC<| .R (fun k=>v_idxN rfl (k.eq1 0 43 rfl) (k.eq1 1 44 rfl) (by kernel_rfl) (by omega)) (fun _=>rfl)<| .b 2 (r_lssK am)<| .N 3<| .gm (fun k=>k.eq1 4 47 rfl) (fun k=>k.fx 5 ax)<| .gm (fun k=>k.eq1 4 47 rfl) (fun k=>k.fx 6 aC)<| .V (fun p k=>v_idxN rfl (k.eq1 5 48 rfl) (k.eq1 6 49 rfl) (by kernel_rfl) (by omega))<| .V (fun p k=>v_bin rfl (k.eq1 7 50 rfl) rfl (fun _=>rfl) (r_gtrK ay))<| .T (fun k=>v_pickF rfl (k.eq1 4 47 rfl) (k.eq1 8 51 rfl)) .nil
 refine aftI al bw bx fun qk ql c8 hZ h1 h2 bd=>?_
 have⟨eC,lC,lD,lE⟩:=bd.f4 aC b2 b3 ax
 have lF:=bd.g 9 52
 have h3:=bz.new_ h2
 refine b4 _ _<| wf lF<| ws ?_
 refine hJ _ _<| wA [true,true,false] [(2,true)] 78 [ve (iv (i:Int)),ve (iv ((i + 1:Nat):Int)),vt] c8 ?_ ?_
 exact .M eC<| .R (fun k=>v_bin rfl (k.eq1 0 41 rfl) rfl (fun _=>rfl) (n_add (by omega) (IntWalk.i64_in _ (by omega)))) (fun _=>rfl)<| .off .nil
 refine aftI c8 hZ h1 fun eD qm c9 h4 h5 h6 be=>?_
 have⟨qn,lG,lH,lI⟩:=be.f4 eC lC lD lE
 have eE:=be.g 1 42
 have h7:=h3.new_ h6
 refine sP eE c9 h4 fun lJ ia ib an lN=>?_
 have⟨lK,lL,lM⟩:=an.q3 lG lH lI
 have qo:=an.q eE
 refine st_nil ?_
 refine then_n ?_
 exact⟨_,⟨i + 1,rfl,ia,ib,h5,(lN.trans (congrArg (Value.int .i64) (by omega))),lK,lL,lM,h7,(by omega),(pdig_up hdg am ay)⟩,(by omega)⟩
 have eB:=oF ay
 refine wA tr10 [] 78 [ve (.string s),ve (iv (i:Int)),ve (.int .u8 ((bAt s i:Nat):Int)),vF,vF,ve (.string s),ve (iv (i:Int)),ve (.int .u8 ((bAt s i:Nat):Int)),vT,vT] al ?_ ?_
 exact .M ax<| .M aC<| .R (fun k=>v_idxN rfl (k.eq1 0 43 rfl) (k.eq1 1 44 rfl) (by kernel_rfl) (by omega)) (fun _=>rfl)<| .b 2 (r_lssK am)<| .N 3<| .gm (fun k=>k.eq1 4 47 rfl) (fun k=>k.fx 5 ax)<| .gm (fun k=>k.eq1 4 47 rfl) (fun k=>k.fx 6 aC)<| .V (fun p k=>v_idxN rfl (k.eq1 5 48 rfl) (k.eq1 6 49 rfl) (by kernel_rfl) (by omega))<| .V (fun p k=>v_bin rfl (k.eq1 7 50 rfl) rfl (fun _=>rfl) (r_gtrK ay))<| .T (fun k=>v_pickF rfl (k.eq1 4 47 rfl) (k.eq1 8 51 rfl)) .nil
 refine aftI al bw bx fun qp qq da ic id ie bf=>?_
 have⟨qr,lO,qs,qt⟩:=bf.f4 aC b2 b3 ax
 have lP:=bf.g 9 52
 have ig:=bz.new_ ie
 refine b4 _ _<| wt lP<| wk fun qu ih=>?_
 refine wA [true,false,false] [(1,false),(2,true)] 78 [ve (.agg #[.bool false,sv none ([]) 0]),vt,vt] da ?_ ?_
 exact .Z<| .off<| .off .nil
 refine aftI da ic id fun eF qv db ii ij ik dc=>?_
 have eG:=dc.f1 lO
 have eH:=dc.g 0 53
 have il:=ig.new_ ik
 refine sS6 eG eH il fun qw im io oa=>?_
 have iq:=ij.tR io
 refine sP (v:=iv 2) rfl db ii fun lQ ob ir aQ lS=>?_
 have⟨lR,qy⟩:=aQ.q2 eG eH
 refine ih _ _<| wp_ret (ret_k ir (v:=.tuple #[.agg #[.bool false,sv none ([]) 0],iv 2]) (res_ct rfl lR lS (l_two isAgg26 sizeOf26 im)) ?_)
 have hpz:=pz_bad hR (.inl (pdigB_bad (i:=i) (by omega) (.inr ay)))
 have hz2:canon (parseZ s.data.toList).1.natAbs=[]:=by rw [hpz]; exact canon_zero
 exact⟨none,0,by rw [hz2,hpz]; rfl,by rw [hz2]; exact (SRow.nil _ _),iq⟩
 have ev:=oF ba
 have it:=hB eu ba
 refine wf it<| wp_exit ?_
 refine hu _ _<| wk fun qz iu=>?_
 have hall:∀ j,j < s.size→48≤bAt s j∧bAt s j≤57:=fun j hj=>hdg j (by omega)
 have hdB:digB s.data.toList=true:=digB_yes hne hall hlead
 refine wA tr1 [] 78 [ve (sv none ([]) 0)] al ?_ ?_
 exact .c .nil
 refine aftI al bw bx fun qA qB dd iw ix iy bA=>?_
 have⟨lT,lU,lV⟩:=bA.f3 b2 b3 ax
 have lW:=bA.g 0 7
 have iz:=bz.new_ iy
 refine iu _ _ <| wk fun qC iA=>?_
 refine wk fun qD iB=>?_
 refine wA tr1 [] 78 [ve (iv 0)] dd ?_ ?_
 exact .c .nil
 refine aftI dd iw ix fun qE qF iC iD iE iF bg=>?_
 have⟨lX,lY,lZ,l0⟩:=bg.f4 lT lU lV lW
 have l1:=bg.g 0 8
 have iG:=iz.new_ iF
 refine iB _ _<| wb<| wp_loopX (fun (mm:Nat) (aa:Act) (ww:World)=>∃ (i2:Nat) (A1:Option Addr) (c1:Nat),mm=s.size - i2∧aa.tmps.size=78∧aa.defers=[]∧New w ww∧aa.eval (.tmp 7)=sv A1 (canon (decV (s.data.toList.take i2))) c1∧aa.eval (.tmp 8)=iv (i2:Int)∧aa.eval (.tmp 2)=pv bj∧aa.eval (.tmp 4)=.bool false∧aa.eval (.tmp 5)=.string s∧Blk ww bj 26 [.bool false,sv none ([]) 0]∧SOwn ww w.heap.size 59 .u32 A1 (canon (decV (s.data.toList.take i2))) c1∧(i2≤s.size)∧((canon (decV (s.data.toList.take i2))).length≤8)) (fun mm=>mm) ⟨_,⟨0,none,0,rfl,iC,iD,iE,(l0.trans (by rw [List.take_zero,show decV []=0 from rfl,canon_zero])),l1,lX,lY,lZ,iG,(by rw [List.take_zero,show decV []=0 from rfl,canon_zero]; exact SOwn.nil _ _ _ _),(Nat.zero_le _),(by simp [decV,canon_zero])⟩⟩ ?_
 rintro mm qG qH ⟨i2,A1,c1,hmm,de,iH,iI,l2,eJ,l3,l4,eK,iJ,iK,hi2,cb⟩
 refine wk fun qI iL=>wk fun qJ iM=>?_
 refine wA tr4 [] 78 [ve (iv (i2:Int)),ve (.string s),ve (iv (s.size:Int)),ve (.bool (decide ((i2:Int) < (s.size:Int))))] de ?_ ?_
 exact .M eJ<| .M eK<| .T (fun k=>v_lenS rfl (k.eq1 1 55 rfl) (by kernel_rfl))<| .T (fun k=>v_bin rfl (k.eq1 0 54 rfl) (k.eq1 2 56 rfl) (fun _=>rfl) (r_lssK rfl)) .nil
 refine aftI de iH iI fun qK aq bB df b5 dg aR=>?_
 have⟨ch,eL,eM,eN⟩:=aR.f4 l2 eJ l3 l4
 have eO:=aR.f1 eK
 have eP:=aR.g 3 57
 have⟨dh,b6⟩:=nw2 dg iJ iK
 refine iM _ _ ?_
 rcases bc (decide ((i2:Int) < (s.size:Int))) with bh|bh
 have eQ:=oT bh
 have iN:=hB eP bh
 refine wt iN<| ws<| iL _ _<| wk fun qL iO=>wb ?_
 refine wk fun qM iP=>?_
 have mR:=hall i2 (by omega)
 have hbl:=bAt_lt s i2
 have hstep:=decV_step (s:=s) (i:=i2) (by omega)
 have hl9:(canon (val (canon (decV (s.data.toList.take i2))) * val [10])).length≤9:=ten_len cb
 have hl1:(canon (val [(bAt s i2 - 48)])).length≤1:=one_len (by omega)
 refine wp_g0 [true,true,true,true,true,true,true,true,true,true,true,false] [(11,true)] 78
  [ve (sv A1 (canon (decV (s.data.toList.take i2))) c1),
  (OP aq.heap.size 59 .u32 ([10])),
  (OP aq.heap.size 59 .u32 (canon (val (canon (decV (s.data.toList.take i2))) * val ([10])))),ve (.string s),ve (iv (i2:Int)),ve (.int .u8 ((bAt s i2:Nat):Int)),ve (.int .u8 (((bAt s i2) - 48:Nat):Int)),ve (.int .u32 (((bAt s i2) - 48:Nat):Int)),
  (OP aq.heap.size 59 .u32 ([((bAt s i2) - 48)])),
  (OP aq.heap.size 59 .u32 (canon (val ([((bAt s i2) - 48)])))),
  (OP aq.heap.size 59 .u32 (canon (val (canon (val (canon (decV (s.data.toList.take i2))) * val ([10]))) + val (canon (val ([((bAt s i2) - 48)])))))),vt] bB (.eq (.cons (fun _ _ _ n ⟨_,_,e,h⟩=>⟨_,_,e,h.new_ n⟩) (.cons (fun _ _ _ n ⟨_,_,e,h⟩=>⟨_,_,e,h.new_ n⟩) (.eq (.eq (.eq (.eq (.eq (.cons (fun _ _ _ n ⟨_,_,e,h⟩=>⟨_,_,e,h.new_ n⟩) (.cons (fun _ _ _ n ⟨_,_,e,h⟩=>⟨_,_,e,h.new_ n⟩) (.cons (fun _ _ _ n ⟨_,_,e,h⟩=>⟨_,_,e,h.new_ n⟩) (.tt .nil)))))))))))) ?_ ?_
 refine .M ch ?_
 refine .o1 (tkA rfl (noG rfl) fun _ w hn k=>(by
  exact x_bslice (k:=.u32) (ps:=[(0,.int .u32 10)]) [10] rfl (parts1 rfl) elW rfl (by omega) (by omega) (by first|kernel_rfl|(simp only [enc,List.map_cons,List.map_nil,Int.toNat_natCast,Int.toNat_of_nonneg (by omega:(0:Int)≤_)]; kernel_rfl)) fun nu nx W' hmo=>⟨nu,nx,rfl,(hmo.more hn.size)⟩)) ?_
 refine .o1 (tkC rfl (noG rfl) rfl fun _ w hn k=>(by
  obtain⟨ny,nz,nA,l5⟩:=k.G 1 61
  refine ⟨#[sv A1 (canon (decV (s.data.toList.take i2))) c1,sv ny ([10]) nz],_,args2 (k.eq1 0 60 rfl) nA,fun w=>by kernel_rfl,rtimes_c _ _ _ _ _ _ _ (b6.new_ hn).row l5.row (limbs_canon _) limbs_10 (by first|omega|(simp only [List.length_nil,List.length_cons,List.length_set,List.length_replicate]; omega)) (by first|omega|(simp only [List.length_nil,List.length_cons,List.length_set,List.length_replicate]; omega)),?_⟩
  rintro e w' ⟨nB,nC,rfl,hmo,hm⟩
  exact⟨_,rfl,hm,⟨nB,nC,rfl,(hmo.more hn.size)⟩⟩)) ?_
 refine .M eO<| .M eL<| .R (fun k=>v_idxN rfl (k.eq1 3 63 rfl) (k.eq1 4 64 rfl) (by kernel_rfl) (by omega)) (fun _=>rfl)<| .R (fun k=>v_bin rfl (k.eq1 5 65 rfl) rfl (fun _=>rfl) (n_sub (by omega) (IntWalk.u8_in _ (by omega)))) (fun _=>rfl)<| .R (fun k=>v_conv rfl (k.eq1 6 66 rfl) (n_conv (by kernel_rfl) (by kernel_rfl) (by kernel_rfl) (IntWalk.u32_in _ (by omega)))) (fun _=>rfl) ?_
 refine .o1 (tkA rfl (noG rfl) fun _ w hn k=>(by
  exact x_bslice (k:=.u32) (ps:=[(0,.int .u32 (((bAt s i2) - 48:Nat):Int))]) [((bAt s i2) - 48)] rfl (parts1 (k.eq1 7 67 rfl)) elW rfl (by omega) (by omega) (by first|kernel_rfl|(simp only [enc,List.map_cons,List.map_nil,Int.toNat_natCast,Int.toNat_of_nonneg (by omega:(0:Int)≤_)]; kernel_rfl)) fun nD nE W' hmo=>⟨nD,nE,rfl,(hmo.more hn.size)⟩)) ?_
 refine .o1 (tkC rfl (noG rfl) rfl fun _ w hn k=>(by
  obtain⟨nF,nG,nH,l6⟩:=k.G 8 68
  refine ⟨#[sv nF ([((bAt s i2) - 48)]) nG],_,args1 nH,fun w=>by kernel_rfl,strim_c _ ([((bAt s i2) - 48)]) _ _ l6.row (limbs_d (bAt_lt _ _)) (by first|omega|(simp only [List.length_nil,List.length_take,List.length_drop]; omega)|(simp only [List.length_cons,List.length_nil]; omega)),?_⟩
  rintro e w' ⟨nI,nJ,rfl,hmo0,hm⟩
  exact⟨_,rfl,hm,⟨nI,nJ,rfl,(hmo0.more hn.size)⟩⟩)) ?_
 refine .o1 (tkC rfl (noG rfl) rfl fun _ w hn k=>(by
  obtain⟨nK,nL,nM,l7⟩:=k.G 2 62
  obtain⟨nN,nO,nP,l8⟩:=k.G 9 69
  refine ⟨#[sv nK (canon (val (canon (decV (s.data.toList.take i2))) * val ([10]))) nL,sv nN (canon (val ([((bAt s i2) - 48)]))) nO],_,args2 nM nP,fun w=>by kernel_rfl,rplus_c _ _ _ _ _ _ _ l7.row l8.row (limbs_canon _) (limbs_canon _) (by first|omega|(simp only [List.length_nil,List.length_cons,List.length_set,List.length_replicate]; omega)) (by first|omega|(simp only [List.length_nil,List.length_cons,List.length_set,List.length_replicate]; omega)),?_⟩
  rintro e w' ⟨nQ,nR,rfl,hmo,hm⟩
  exact⟨_,rfl,hm,⟨nQ,nR,rfl,(hmo.more hn.size)⟩⟩)) ?_
 exact .off .nil
 refine aftI bB df b5 fun ci qN di iQ dj dk aS=>?_
 have⟨qO,l9,ma,mb⟩:=aS.f4 ch eL eM eN
 have mc:=aS.f1 eO
 obtain⟨aD,ao,b7,iR⟩:=aS.G 10 70
 have b7:ci.eval (.tmp 70)=sv aD (canon (val (canon (val (canon (decV (s.data.toList.take i2))) * val ([10]))) + val (canon (val ([((bAt s i2) - 48)]))))) ao:=b7
 have⟨dl,oc⟩:=nw2 dk dh b6
 have b8:=iR.more b5.size
 refine sP b7 di iQ fun md bC dm ad bJ=>?_
 have⟨eR,eS,eT⟩:=ad.q3 l9 ma mb
 have⟨eU,qP⟩:=ad.q2 mc b7
 refine st_nil ?_
 have he777:(canon (val (canon (val (canon (decV (s.data.toList.take i2))) * val ([10]))) + val (canon (val ([((bAt s i2) - 48)])))))=(canon (decV (s.data.toList.take (i2 + 1)))):=by rw [hstep,val_canon,val_canon,val_canon,val_one,val_one,Nat.mul_comm]
 rw [he777] at bJ
 rw [he777] at b8
 refine iP _ _<| wk fun qQ dn=>?_
 rcases bc (decide (((canon (decV (s.data.toList.take (i2 + 1)))).length:Int)≤8)) with aT|aT
 have eV:=oT aT
 refine wA tr3 [] 78 [ve (sv aD (canon (decV (s.data.toList.take (i2 + 1)))) ao),ve (iv ((canon (decV (s.data.toList.take (i2 + 1)))).length:Int)),vF] bC ?_ ?_
 exact .M bJ<| .T (fun k=>v_lenR rfl elW (k.eq1 0 71 rfl))<| .b 1 (r_gtrK aT) .nil
 refine aftI bC dm dj fun qR qS dp iS iT dq aU=>?_
 have⟨eW,me,mf,mg⟩:=aU.f4 eR eS eT eU
 have mh:=aU.f1 bJ
 have mi:=aU.g 2 73
 have⟨iU,iV⟩:=nw2 dq dl b8
 refine dn _ _<| wf mi<| ws ?_
 refine iO _ _<| wA [true,true,false] [(2,true)] 78 [ve (iv (i2:Int)),ve (iv ((i2 + 1:Nat):Int)),vt] dp ?_ ?_
 exact .M eW<| .R (fun k=>v_bin rfl (k.eq1 0 58 rfl) rfl (fun _=>rfl) (n_add (by omega) (IntWalk.i64_in _ (by omega)))) (fun _=>rfl)<| .off .nil
 refine aftI dp iS iT fun eX qT dr iW iX ds aV=>?_
 have⟨qU,mj,mk,ml⟩:=aV.f4 eW me mf mg
 have mn:=aV.f1 mh
 have eY:=aV.g 1 59
 have⟨iY,iZ⟩:=nw2 ds iU iV
 refine sP eY dr iW fun mo i0 i1 ae mt=>?_
 have⟨mp,mq,mr⟩:=ae.q3 mj mk ml
 have⟨ms,qV⟩:=ae.q2 mn eY
 refine st_nil ?_
 refine then_n ?_
 exact⟨_,⟨i2 + 1,aD,ao,rfl,i0,i1,iX,ms,(mt.trans (congrArg (Value.int .i64) (by omega))),mp,mq,mr,iY,iZ,(by omega),(by omega)⟩,(by omega)⟩
 have eV:=oF aT
 refine wA tr3 [] 78 [ve (sv aD (canon (decV (s.data.toList.take (i2 + 1)))) ao),ve (iv ((canon (decV (s.data.toList.take (i2 + 1)))).length:Int)),vT] bC ?_ ?_
 exact .M bJ<| .T (fun k=>v_lenR rfl elW (k.eq1 0 71 rfl))<| .b 1 (r_gtrK aT) .nil
 refine aftI bC dm dj fun qW qX dt i3 i4 du aW=>?_
 have⟨qY,mu,qZ,q0⟩:=aW.f4 eR eS eT eU
 have q1:=aW.f1 bJ
 have mv:=aW.g 2 73
 have⟨i5,od⟩:=nw2 du dl b8
 refine dn _ _<| wt mv<| wk fun q2 i6=>?_
 refine wA [true,false,false] [(1,false),(2,true)] 78 [ve (.agg #[.bool false,sv none ([]) 0]),vt,vt] dt ?_ ?_
 exact .Z<| .off<| .off .nil
 refine aftI dt i3 i4 fun eZ q3 dv i7 i8 i9 dw=>?_
 have e0:=dw.f1 mu
 have e1:=dw.g 0 74
 have ja:=i5.new_ i9
 refine sS6 e0 e1 ja fun q4 jb jc oe=>?_
 have je:=i8.tR jc
 refine sP (v:=iv 3) rfl dv i7 fun mw og jf aX my=>?_
 have⟨mx,q6⟩:=aX.q2 e0 e1
 refine i6 _ _<| wp_ret (ret_k jf (v:=.tuple #[.agg #[.bool false,sv none ([]) 0],iv 3]) (res_ct rfl mx my (l_two isAgg26 sizeOf26 jb)) ?_)
 have hpz:=pz_long hR hdB (fun h=>by cases h) (dec_long aT)
 have hz2:canon (parseZ s.data.toList).1.natAbs=[]:=by rw [hpz]; exact canon_zero
 exact⟨none,0,by rw [hz2,hpz]; rfl,by rw [hz2]; exact (SRow.nil _ _),je⟩
 have eQ:=oF bh
 have jg:=hB eP bh
 refine wf jg<| wp_exit ?_
 refine iA _ _<| wk fun q7 jh=>?_
 refine wp_g0 [true,true,true,false,false] [(3,false),(4,true)] 78
  [vF,ve (sv A1 (canon (decV (s.data.toList.take i2))) c1),(fun (v_:Value) (W:World)=>∃ (bK:Option Addr) (bL:Nat),v_=.agg #[.bool (decide (sgn false (val (canon (decV (s.data.toList.take i2)))) < 0)),sv bK (canon (sgn false (val (canon (decV (s.data.toList.take i2))))).natAbs) bL]∧SRow W .u32 bK (canon (sgn false (val (canon (decV (s.data.toList.take i2))))).natAbs) bL),vt,vt] bB (.eq (.eq (.cons (fun _ _ _ n ⟨_,_,e,h⟩=>⟨_,_,e,h.new_ n⟩) (.tt (.tt .nil))))) ?_ ?_
 refine .M eN<| .M ch ?_
 refine .o1 (tkC rfl (noG rfl) rfl fun _ w hn k=>(by
  refine ⟨#[.bool false,sv A1 (canon (decV (s.data.toList.take i2))) c1],_,args2 (k.eq1 0 75 rfl) (k.eq1 1 76 rfl),fun w=>by kernel_rfl,smade_c false _ (canon (decV (s.data.toList.take i2))) _ _ (b6.new_ hn).row (limbs_canon _) (by first|omega|(simp only [List.length_nil,List.length_take,List.length_drop]; omega)|(simp only [List.length_cons,List.length_nil]; omega)),?_⟩
  rintro e w' ⟨nS,nT,rfl,hmo0,hm⟩
  exact⟨_,rfl,hm,⟨nS,nT,rfl,hmo0⟩⟩)) ?_
 exact .off<| .off .nil
 refine aftI bB df b5 fun cj q8 dx ji jj jk dy=>?_
 have e3:=dy.f1 eM
 obtain⟨b9,bD,ca,jl⟩:=dy.G 2 77
 have ca:cj.eval (.tmp 77)=.agg #[.bool (decide (sgn false (val (canon (decV (s.data.toList.take i2)))) < 0)),sv b9 (canon (sgn false (val (canon (decV (s.data.toList.take i2))))).natAbs) bD]:=ca
 have dz:=dh.new_ jk
 refine sS6 e3 ca dz fun q9 jm dA oh=>?_
 have jo:=jl.fr dz dA
 have jp:=jj.tR dA
 refine sP (v:=iv 0) rfl dx ji fun mz oi jq aY mB=>?_
 have⟨mA,rb⟩:=aY.q2 e3 ca
 refine jh _ _<| wp_ret (ret_k jq (v:=.tuple #[.agg #[.bool (decide (sgn false (val (canon (decV (s.data.toList.take i2)))) < 0)),sv b9 (canon (sgn false (val (canon (decV (s.data.toList.take i2))))).natAbs) bD],iv 0]) (res_ct rfl mA mB (l_two isAgg26 sizeOf26 jm)) ?_)
 have hpz:=pz_ok hR hdB (fun h=>by cases h) (dec_ok (i:=i2) (by omega) cb)
 have hz1:sgn false (val (canon (decV (s.data.toList.take i2))))=(parseZ s.data.toList).1:=by rw [hpz,val_canon,dec_all (by omega)]
 exact⟨b9,bD,by rw [hz1,hpz],by rw [← hz1]; exact jo,jp⟩
def wParse_c_P (s:ByteArray) (w:World) (en:Ending) (w':World):Prop:=∃ (Ar0:Option Addr) (cr0:Nat),en=.returned (.tuple #[.agg #[.bool (decide ((parseZ s.data.toList).1 < 0)),sv Ar0 (canon ((parseZ s.data.toList).1).natAbs) cr0],iv ((parseZ s.data.toList).2)])∧SRow w' .u32 Ar0 (canon ((parseZ s.data.toList).1).natAbs) cr0∧New w w'
theorem wParse_c (s:ByteArray) (w:World) (hs:s.size≤100000):Calls Tryz.prog 87 #[.string s] w (wParse_c_P s w):=by
  by_cases h0:s.size=0
  · exact wparse_0 s w hs h0
  · by_cases hm:bAt s 0=45
    · exact wparse_m s w hs h0 hm
    · exact wparse_p s w hs h0 hm

def qdigits_c_P (Au:Option Addr) (u:List Nat) (cu:Nat) (w:World) (en:Ending) (w':World):Prop:=∃ (Ar0:Option Addr) (cr0:Nat),en=.returned (.tuple #[.agg #[.bool (decide ((digitsR u).1 < 0)),sv Ar0 (canon ((digitsR u).1).natAbs) cr0],iv ((digitsR u).2)])∧SRow w' .u32 Ar0 (canon ((digitsR u).1).natAbs) cr0∧New w w'
theorem qdigits_c (Au:Option Addr) (u:List Nat) (cu:Nat) (w:World) (hru:SRow w .u16 Au u cu) (hu:U16s u) (hs:u.length≤20000):Calls prog 44 #[sv Au u cu] w (qdigits_c_P Au u cu w):=by
 refine enter_abs func44 rfl fun a0 bA iq hp=>?_
 have bA:a0.tmps.size=69:=bA
 have f9:New w w:=Upd.refl _ _
 have hp0:a0.eval (.tmp 0)=sv Au u cu:=hp 0 _ rfl
 have hb:=hu.at16 0
 refine wk fun K1 ir=>?_
 refine wB tr2 [] [] 69 [IsNew w 26 [.bool false,sv none ([]) 0],ve (iv 0)] [0] bA ?_ heN ?_
 exact .Y<| .c .nil
 refine aftI bA iq f9 fun a2 w3 ga it gq kW gb=>?_
 have h8:=gb.f1 hp0
 obtain⟨aR,h9,gr,gs⟩:=gb.G 0 2
 have jD:=Nat.le_trans f9.size gr
 refine ir _ _ <| wk fun kX gt=>?_
 refine wk fun kY gu=>?_
 refine wA tr3 [] 69 [ve (sv Au u cu),ve (iv (u.length:Int)),ve (.bool (decide ((u.length:Int)=0)))] ga ?_ ?_
 exact .M h8<| .T (fun k=>v_lenR rfl elU (k.eq1 0 11 rfl))<| .b 1 (r_eql rfl) .nil
 refine aftI ga it gq fun kZ k0 a3 cN cO gv bp=>?_
 have⟨gc,gd⟩:=bp.f2 h8 h9
 have gf:=bp.g 2 13
 have cP:=gs.new_ gv
 refine gu _ _ ?_
 rcases bc (decide ((u.length:Int)=0)) with ab|ab
 have dW:=oT ab
 have gw:=hB gf ab
 refine wt gw<| wk fun k1 gx=>?_
 refine wA [true,false,false] [(1,false),(2,true)] 69 [ve (.agg #[.bool false,sv none ([]) 0]),vt,vt] a3 ?_ ?_
 exact .Z<| .off<| .off .nil
 refine aftI a3 cN cO fun gg k2 cQ gy gz gA cR=>?_
 have gh:=cR.f1 gd
 have gi:=cR.g 0 14
 have gB:=cP.new_ gA
 refine sS6 gh gi gB fun k3 gC gD jE=>?_
 have gF:=gz.tR gD
 refine sP (v:=iv 0) rfl cQ gy fun iu jF gG aG ix=>?_
 have⟨iw,k5⟩:=aG.q2 gh gi
 refine gx _ _<| wp_ret (ret_k gG (v:=.tuple #[.agg #[.bool false,sv none ([]) 0],iv 0]) (res_ct rfl iw ix (l_two isAgg26 sizeOf26 gC)) ?_)
 have af:(canon ((digitsR u).1).natAbs)=[]:=by first|rfl|(simp only [digitsR,parsedB,Int.natAbs_zero,canon_zero,ab,bsm] <;> rfl)|(exfalso; omega)
 exact⟨none,0,(by show Ending.returned (.tuple #[.agg #[.bool false,sv none ([]) 0],iv 0])=Ending.returned (.tuple #[.agg #[.bool (decide ((digitsR u).1 < 0)),sv none (canon ((digitsR u).1).natAbs) 0],iv ((digitsR u).2)]); (first|rfl|(simp only [digitsR,parsedB,Int.natAbs_zero,canon_zero,ab,af,bsm] <;> rfl)|(exfalso; omega))),(by rw [af]; exact (SRow.nil _ _)),gF⟩
 have dW:=oF ab
 have gH:=hB gf ab
 refine wf gH<| ws<| gt _ _<| wk fun k6 gI=>?_
 refine wA tr2 [] 69 [ve (sv Au u cu),ve (sv Au u cu)] a3 ?_ ?_
 exact .M gc<| .B 0 .nil
 refine aftI a3 cN cO fun k7 k8 cS gJ cT gK bq=>?_
 have⟨gj,iy⟩:=bq.f2 gc gd
 have iz:=bq.g 1 4
 have gL:=cP.new_ gK
 refine gI _ _ <| wk fun k9 gM=>?_
 refine wp_g0 [true,true,true,true,true] [] 69
  [ve (sv Au u cu),
  (EP (.int .u16 ((u.getD 0 0:Nat):Int))),ve (.int .u16 ((u.getD 0 0:Nat):Int)),ve (.bool (decide (((u.getD 0 0:Nat):Int)=45))),ve (.bool (decide (((u.getD 0 0:Nat):Int)=45)))] cS (.eq (.cons (fun _ _ _ n ⟨_,_,e,h⟩=>⟨_,_,e,h.new_ n⟩) (.eq (.eq (.eq .nil))))) ?_ ?_
 refine .M gj ?_
 refine .o1 (tk rfl rfl fun _ w hn k=>(by
  exact x_eaddr (k:=.u16) rfl elU (k.eq1 0 16 rfl) rfl (hru.new_ (cT.transNew hn)) (by omega) fun b1 o2 hme=>⟨b1,o2,rfl,hme⟩)) ?_
 refine .o1 (tk rfl rfl fun _ w hn k=>(by
  obtain⟨b5,o6,e7,iA⟩:=k.G 1 17
  exact⟨_,v_load rfl e7 (l_one isAgg79 iA.1),rfl⟩)) ?_
 exact .b 2 (r_eql rfl)<| .B 3 .nil
 refine aftI cS gJ cT fun la lc a4 cU br gN a5=>?_
 have⟨cV,gk,gl⟩:=a5.f3 gj iy iz
 have gn:=a5.g 4 5
 have cW:=gL.new_ gN
 refine gM _ _ ?_
 refine wp_seq_j (fun (aa:Act) (ww:World)=>∃ (ng:Bool),∃ (dd:List Nat),∃ (A5:Option Addr),∃ (c5:Nat),aa.tmps.size=69∧aa.defers=[]∧New w ww∧aa.eval (.tmp 4)=sv A5 dd c5∧aa.eval (.tmp 5)=.bool ng∧aa.eval (.tmp 0)=sv Au u cu∧aa.eval (.tmp 2)=pv aR∧Blk ww aR 26 [.bool false,sv none ([]) 0]∧SRow ww .u16 A5 dd c5∧(digitsR u=parsedB u dd ng)∧(U16s dd)∧(dd.length≤20000)) ?_ ?_
 rintro ld le ⟨ng,dd,A5,c5,cX,gO,gP,go,iB,iC,iD,gQ,cY,hbody,hdd,hdl⟩
 refine wk fun lf gR=>wk fun lg gS=>?_
 refine wA tr3 [] 69 [ve (sv A5 dd c5),ve (.bool (digitsT dd)),ve (.bool (!(digitsT dd)))] cX ?_ ?_
 exact .M go<| .C 0 (fun p=>rdigits_c _ dd _ _ (cY.new_ p) hdd)<| .T (fun k=>v_not rfl (k.eq1 1 30 rfl)) .nil
 refine aftI cX gO gP fun gp lh a6 bB a7 cZ aS=>?_
 have⟨gT,gU,gV,c0⟩:=aS.f4 go iB iC iD
 have c1:=aS.g 2 31
 have⟨bC,dY⟩:=nw2 cZ gQ cY
 refine gS _ _ ?_
 rcases bc (digitsT dd) with ac|ac
 have dZ:gp.eval (.tmp 31)=.bool false:=c1.trans (congrArg Value.bool (by rw [ac]; rfl))
 refine wf dZ<| ws<| gR _ _<| wk fun jG d0=>?_
 refine wA tr1 [] 69 [ve (iv 0)] a6 ?_ ?_
 exact .c .nil
 refine aftI a6 bB a7 fun jH jI d1 d2 d3 bD aH=>?_
 have⟨gW,gX,gY⟩:=aH.f3 gT gU c0
 have gZ:=aH.g 0 6
 have⟨d4,d5⟩:=nw2 bD bC dY
 refine d0 _ _ ?_
 refine wp_seq_j (fun (aa:Act) (ww:World)=>∃ (jj:Nat),aa.tmps.size=69∧aa.defers=[]∧New w ww∧aa.eval (.tmp 6)=iv (jj:Int)∧aa.eval (.tmp 2)=pv aR∧aa.eval (.tmp 4)=sv A5 dd c5∧aa.eval (.tmp 5)=.bool ng∧Blk ww aR 26 [.bool false,sv none ([]) 0]∧SRow ww .u16 A5 dd c5∧(dd.drop jj=stripN dd)∧(jj≤dd.length)) ?_ ?_
 rintro jJ jK ⟨jj,bE,d6,d7,g0,g1,g2,g3,d8,d9,hse,hjj⟩
 refine wk fun jL ea=>?_
 have hdl2:(dd.drop jj).length≤20000:=by rw [List.length_drop]; omega
 refine wp_g0 (.replicate 9 true) [] 69
  [ve (sv A5 dd c5),ve (iv (jj:Int)),
  (RP .u16 (dd.drop jj)),ve (.tuple #[.string ((plainT (dd.drop jj)).1),.bool ((plainT (dd.drop jj)).2)]),ve (.tuple #[.string ((plainT (dd.drop jj)).1),.bool ((plainT (dd.drop jj)).2)]),ve (.string ((plainT (dd.drop jj)).1)),ve (.bool ((plainT (dd.drop jj)).2)),ve (.string ((plainT (dd.drop jj)).1)),ve (.bool ((plainT (dd.drop jj)).2))] bE (.eq (.eq (.cons (fun _ _ _ n ⟨_,_,e,h⟩=>⟨_,_,e,h.new_ n⟩) (.eq (.eq (.eq (.eq (.eq (.eq .nil))))))))) ?_ ?_
 refine .M g2<| .M g0 ?_
 refine .o1 (tk rfl rfl fun _ w hn k=>(by
  exact x_cutL (k:=.u16) rfl elU (k.eq1 0 51 rfl) (k.eq1 1 52 rfl) (d9.new_ hn) (by omega) fun A9 iG hmr=>⟨A9,iG,rfl,hmr⟩)) ?_
 refine .o1 (tkC rfl (noG rfl) rfl fun _ w hn k=>(by
  obtain⟨iH,iI,iJ,g4⟩:=k.G 2 53
  refine ⟨#[sv iH (dd.drop jj) iI],_,args1 iJ,fun w=>by kernel_rfl,rplain_c _ (dd.drop jj) _ _ g4 (hdd.drop jj) (by omega),?_⟩
  rintro e w' ⟨rfl,hm⟩
  exact⟨_,rfl,hm,rfl⟩)) ?_
 exact .N 3<| .E 4<| .E 4<| .B 5<| .B 6 .nil
 refine aftI bE d6 d7 fun g5 g6 bF eb bG ec a8=>?_
 have⟨g7,g8⟩:=a8.f2 g1 g3
 have g9:=a8.g 7 7
 have bH:=d8.new_ ec
 refine st_nil ?_
 have ha:g5.eval (.tmp 7)=.string ((plainT (stripN dd)).1):=g9.trans (by rw [hse])
 refine ea _ _<| wk fun jM ed=>?_
 have hps:=plainT_size (stripN dd)
 have hsl:=strip_len dd
 refine wp_gS (fun W=>True) (fun W W' hn h=>trivial) trivial [true,true,true,true,true,true,false,false] [4] [(6,false),(7,true)] 69
  [ve (.string ((plainT (stripN dd)).1)),(fun (v_:Value) (W:World)=>∃ (aT:Option Addr) (aU:Nat),v_=.tuple #[.agg #[.bool (decide ((parseZ ((plainT (stripN dd)).1).data.toList).1 < 0)),sv aT (canon ((parseZ ((plainT (stripN dd)).1).data.toList).1).natAbs) aU],iv ((parseZ ((plainT (stripN dd)).1).data.toList).2)]∧SRow W .u32 aT (canon ((parseZ ((plainT (stripN dd)).1).data.toList).1).natAbs) aU),(fun (v_:Value) (W:World)=>∃ (ay:Option Addr) (az:Nat),v_=.tuple #[.agg #[.bool (decide ((parseZ ((plainT (stripN dd)).1).data.toList).1 < 0)),sv ay (canon ((parseZ ((plainT (stripN dd)).1).data.toList).1).natAbs) az],iv ((parseZ ((plainT (stripN dd)).1).data.toList).2)]∧SRow W .u32 ay (canon ((parseZ ((plainT (stripN dd)).1).data.toList).1).natAbs) az),(fun (v_:Value) (W:World)=>∃ (aV:Option Addr) (aW:Nat),v_=.agg #[.bool (decide ((parseZ ((plainT (stripN dd)).1).data.toList).1 < 0)),sv aV (canon ((parseZ ((plainT (stripN dd)).1).data.toList).1).natAbs) aW]∧SRow W .u32 aV (canon ((parseZ ((plainT (stripN dd)).1).data.toList).1).natAbs) aW),ve (iv ((parseZ ((plainT (stripN dd)).1).data.toList).2)),IsNew g6 26 [.bool false,sv none ([]) 0],vt,vt]
  [5] (newsCons (fun v w h=>IsNew.old h) newsNil) bF (.eq (.cons (fun _ _ _ n ⟨_,_,e,h⟩=>⟨_,_,e,h.new_ n⟩) (.cons (fun _ _ _ n ⟨_,_,e,h⟩=>⟨_,_,e,h.new_ n⟩) (.cons (fun _ _ _ n ⟨_,_,e,h⟩=>⟨_,_,e,h.new_ n⟩) (.eq (.nw (.tt (.tt .nil)))))))) ?_ ?_ ?_
 refine .M ha ?_
 refine .o1 (tkC rfl (noG rfl) rfl fun _ w hn k=>(by
  refine ⟨#[.string ((plainT (stripN dd)).1)],_,args1 (k.eq1 0 58 rfl),fun w=>by kernel_rfl,wParse_c ((plainT (stripN dd)).1) _ (by omega),?_⟩
  rintro e w' ⟨iK,iL,rfl,hmo0,hm⟩
  exact⟨_,rfl,hm,⟨iK,iL,rfl,hmo0⟩⟩)) ?_
 refine .o1 (tk rfl rfl fun _ w hn k=>(by
  obtain⟨iM,iN,iO,hc⟩:=k.G 1 59
  exact⟨_,v_move rfl iO,⟨iM,iN,rfl,hc⟩⟩)) ?_
 refine .o1 (tk rfl rfl fun _ w hn k=>(by
  obtain⟨iP,iQ,iR,hd⟩:=k.G 2 57
  exact⟨_,v_extract rfl iR rfl,⟨iP,iQ,rfl,hd⟩⟩)) ?_
 refine .o3 ?_
 exact .Y<| .off<| .off .nil
 refine eg1 ?_
 exact eager_takeG rfl (noG rfl) fun _ w hn k=>(by
  obtain⟨li,lj,iS,jN⟩:=k.G 2 57
  exact⟨_,fun w hS=>v_extract rfl iS rfl,rfl⟩)
 intro bs jO _ bI aq
 obtain⟨bJ,ee,ef⟩:=aft aq bF eb bG bI
 have⟨hf,hg⟩:=aq.f2 g7 g8
 obtain⟨ak,ae,a9,eg⟩:=aq.G 3 60
 have a9:bs.eval (.tmp 60)=.agg #[.bool (decide ((parseZ ((plainT (stripN dd)).1).data.toList).1 < 0)),sv ak (canon ((parseZ ((plainT (stripN dd)).1).data.toList).1).natAbs) ae]:=a9
 have c2:=aq.g 4 61
 obtain⟨hh,c3,bK,bL⟩:=aq.G 5 9
 have eh:=bH.new_ bI
 have hne168:aR ≠ hh:=by have h1:=bH.lt; have h2:=bK; omega
 have jp:=Nat.le_trans bG.size bK
 refine sS6 c3 a9 bL fun jP bM bN ei=>?_
 have bO:=eg.fr bL bN
 have bP:=ei hne168 eh
 have bQ:=ef.tR bN
 refine sP c2 bJ ee fun hj aI bR ag da=>?_
 have⟨c6,c8,jR⟩:=ag.q3 hf hg a9
 have⟨jS,c9⟩:=ag.q2 c2 c3
 refine ed _ _ <| wk fun jT ek=>?_
 refine wk fun jU bS=>?_
 rcases bc (decide (((parseZ ((plainT (stripN dd)).1).data.toList).2)=0)) with ad|ad
 have db:=oT ad
 refine wA tr2 [] 69 [ve (iv ((parseZ ((plainT (stripN dd)).1).data.toList).2)),vF] aI ?_ ?_
 exact .M da<| .b 0 (r_neq ad) .nil
 refine aftI aI bR bQ fun jV jW bT el em ba aJ=>?_
 have⟨hl,ho,hr⟩:=aJ.f3 c6 c8 c9
 have ht:=aJ.g 1 63
 have⟨en,eo,ep⟩:=nw3 ba bP bM bO
 refine bS _ _<| wf ht<| ws ?_
 refine ek _ _<| wk fun jX bU=>wk fun jY er=>?_
 refine wA tr1 [] 69 [ve (.bool ng)] bT ?_ ?_
 exact .M ho .nil
 refine aftI bT el em fun jZ j0 aK bV bW bb bd=>?_
 have⟨dc,bt⟩:=bd.f2 hl hr
 have de:=bd.g 0 65
 have⟨bX,be,bf⟩:=nw3 bb en eo ep
 refine er _ _ ?_
 rcases bc (ng) with al|al
 have es:=hB de al
 refine wt es<| wp_g0 [true,true,false] [(2,false)] 69
  [ve (.agg #[.bool (decide ((parseZ ((plainT (stripN dd)).1).data.toList).1 < 0)),sv ak (canon ((parseZ ((plainT (stripN dd)).1).data.toList).1).natAbs) ae]),(fun (v_:Value) (W:World)=>∃ (aX:Option Addr) (aY:Nat),v_=.agg #[.bool (decide (-(goodI (decide ((parseZ ((plainT (stripN dd)).1).data.toList).1 < 0)) (canon ((parseZ ((plainT (stripN dd)).1).data.toList).1).natAbs)) < 0)),sv aX (canon (-(goodI (decide ((parseZ ((plainT (stripN dd)).1).data.toList).1 < 0)) (canon ((parseZ ((plainT (stripN dd)).1).data.toList).1).natAbs))).natAbs) aY]∧SRow W .u32 aX (canon (-(goodI (decide ((parseZ ((plainT (stripN dd)).1).data.toList).1 < 0)) (canon ((parseZ ((plainT (stripN dd)).1).data.toList).1).natAbs))).natAbs) aY),vt] aK (.eq (.cons (fun _ _ _ n ⟨_,_,e,h⟩=>⟨_,_,e,h.new_ n⟩) (.tt .nil))) ?_ ?_
 refine .L6 bt be ?_
 refine .o1 (tkC rfl (noG rfl) rfl fun _ w hn k=>(by
  refine ⟨#[.agg #[.bool (decide ((parseZ ((plainT (stripN dd)).1).data.toList).1 < 0)),sv ak (canon ((parseZ ((plainT (stripN dd)).1).data.toList).1).natAbs) ae]],_,args1 (k.eq1 0 66 rfl),fun w=>by kernel_rfl,wNeg_c (decide ((parseZ ((plainT (stripN dd)).1).data.toList).1 < 0)) _ (canon ((parseZ ((plainT (stripN dd)).1).data.toList).1).natAbs) _ _ (bf.new_ hn) (limbs_canon _),?_⟩
  rintro e w' ⟨iT,iU,rfl,hmo0,hm⟩
  exact⟨_,rfl,hm,⟨iT,iU,rfl,hmo0⟩⟩)) ?_
 exact .off .nil
 refine aftI aK bV bW fun hv j1 bY et eu bg bh=>?_
 have⟨hw,df⟩:=bh.f2 dc bt
 obtain⟨ap,ah,bu,ev⟩:=bh.G 1 67
 have bu:hv.eval (.tmp 67)=.agg #[.bool (decide (-(goodI (decide ((parseZ ((plainT (stripN dd)).1).data.toList).1 < 0)) (canon ((parseZ ((plainT (stripN dd)).1).data.toList).1).natAbs)) < 0)),sv ap (canon (-(goodI (decide ((parseZ ((plainT (stripN dd)).1).data.toList).1 < 0)) (canon ((parseZ ((plainT (stripN dd)).1).data.toList).1).natAbs))).natAbs) ah]:=bu
 have⟨ew,bi,ex⟩:=nw3 bg bX be bf
 refine sS6 df bu bi fun j2 ey bj ez=>?_
 have jq:=ex.fr bi bj
 have eB:=ev.fr bi bj
 have eC:=ez hne168 ew
 have eD:=eu.tR bj
 refine bU _ _ <| wk fun j4 eE=>?_
 refine wA [true,false,false] [(1,false),(2,true)] 69 [ve (.agg #[.bool (decide (-(goodI (decide ((parseZ ((plainT (stripN dd)).1).data.toList).1 < 0)) (canon ((parseZ ((plainT (stripN dd)).1).data.toList).1).natAbs)) < 0)),sv ap (canon (-(goodI (decide ((parseZ ((plainT (stripN dd)).1).data.toList).1 < 0)) (canon ((parseZ ((plainT (stripN dd)).1).data.toList).1).natAbs))).natAbs) ah]),vt,vt] bY ?_ ?_
 exact .L6 df ey<| .off<| .off .nil
 refine aftI bY et eD fun dh j5 bZ eF eG b0 b2=>?_
 have di:=b2.f1 hw
 have dj:=b2.g 0 68
 have⟨b4,eH⟩:=nw2 b0 eC eB
 refine sS6 di dj b4 fun j6 eI b6 jr=>?_
 have eK:=eH.fr b4 b6
 have eL:=eG.tR b6
 refine sP (v:=iv 0) rfl bZ eF fun hx js eM ar hz=>?_
 have⟨hy,j8⟩:=ar.q2 di dj
 refine eE _ _<| wp_ret (ret_k eM (v:=.tuple #[.agg #[.bool (decide (-(goodI (decide ((parseZ ((plainT (stripN dd)).1).data.toList).1 < 0)) (canon ((parseZ ((plainT (stripN dd)).1).data.toList).1).natAbs)) < 0)),sv ap (canon (-(goodI (decide ((parseZ ((plainT (stripN dd)).1).data.toList).1 < 0)) (canon ((parseZ ((plainT (stripN dd)).1).data.toList).1).natAbs))).natAbs) ah],iv 0]) (res_ct rfl hy hz (l_two isAgg26 sizeOf26 eI)) ?_)
 have af:(canon ((digitsR u).1).natAbs)=(canon (-(goodI (decide ((parseZ ((plainT (stripN dd)).1).data.toList).1 < 0)) (canon ((parseZ ((plainT (stripN dd)).1).data.toList).1).natAbs))).natAbs):=by first|rfl|(simp only [hbody,parsedB,good_parse,Int.natAbs_zero,canon_zero,ab,ac,ad,al,bsm] <;> rfl)|(exfalso; omega)
 exact⟨ap,ah,(by show Ending.returned (.tuple #[.agg #[.bool (decide (-(goodI (decide ((parseZ ((plainT (stripN dd)).1).data.toList).1 < 0)) (canon ((parseZ ((plainT (stripN dd)).1).data.toList).1).natAbs)) < 0)),sv ap (canon (-(goodI (decide ((parseZ ((plainT (stripN dd)).1).data.toList).1 < 0)) (canon ((parseZ ((plainT (stripN dd)).1).data.toList).1).natAbs))).natAbs) ah],iv 0])=Ending.returned (.tuple #[.agg #[.bool (decide ((digitsR u).1 < 0)),sv ap (canon ((digitsR u).1).natAbs) ah],iv ((digitsR u).2)]); (first|rfl|(simp only [hbody,parsedB,good_parse,Int.natAbs_zero,canon_zero,ab,ac,ad,al,af,bsm] <;> rfl)|(exfalso; omega))),(by rw [af]; exact eK),eL⟩
 have eN:=hB de al
 refine wf eN<| ws<| bU _ _<| wk fun j9 eO=>?_
 refine wA [true,false,false] [(1,false),(2,true)] 69 [ve (.agg #[.bool (decide ((parseZ ((plainT (stripN dd)).1).data.toList).1 < 0)),sv ak (canon ((parseZ ((plainT (stripN dd)).1).data.toList).1).natAbs) ae]),vt,vt] aK ?_ ?_
 exact .L6 bt be<| .off<| .off .nil
 refine aftI aK bV bW fun dl ka b7 eP eQ b8 b9=>?_
 have dm:=b9.f1 dc
 have dn:=b9.g 0 68
 have⟨ca,eR⟩:=nw2 b8 bX bf
 refine sS6 dm dn ca fun kb eS cb jt=>?_
 have eU:=eR.fr ca cb
 have eV:=eQ.tR cb
 refine sP (v:=iv 0) rfl b7 eP fun hA ju eW au hD=>?_
 have⟨hC,kd⟩:=au.q2 dm dn
 refine eO _ _<| wp_ret (ret_k eW (v:=.tuple #[.agg #[.bool (decide ((parseZ ((plainT (stripN dd)).1).data.toList).1 < 0)),sv ak (canon ((parseZ ((plainT (stripN dd)).1).data.toList).1).natAbs) ae],iv 0]) (res_ct rfl hC hD (l_two isAgg26 sizeOf26 eS)) ?_)
 have af:(canon ((digitsR u).1).natAbs)=(canon ((parseZ ((plainT (stripN dd)).1).data.toList).1).natAbs):=by first|rfl|(simp only [hbody,parsedB,good_parse,Int.natAbs_zero,canon_zero,ab,ac,ad,al,bsm] <;> rfl)|(exfalso; omega)
 exact⟨ak,ae,(by show Ending.returned (.tuple #[.agg #[.bool (decide ((parseZ ((plainT (stripN dd)).1).data.toList).1 < 0)),sv ak (canon ((parseZ ((plainT (stripN dd)).1).data.toList).1).natAbs) ae],iv 0])=Ending.returned (.tuple #[.agg #[.bool (decide ((digitsR u).1 < 0)),sv ak (canon ((digitsR u).1).natAbs) ae],iv ((digitsR u).2)]); (first|rfl|(simp only [hbody,parsedB,good_parse,Int.natAbs_zero,canon_zero,ab,ac,ad,al,af,bsm] <;> rfl)|(exfalso; omega))),(by rw [af]; exact eU),eV⟩
 have db:=oF ad
 refine wA tr2 [] 69 [ve (iv ((parseZ ((plainT (stripN dd)).1).data.toList).2)),vT] aI ?_ ?_
 exact .M da<| .b 0 (r_neq ad) .nil
 refine aftI aI bR bQ fun ke kf cc eX eY bk aL=>?_
 have⟨hE,kg,kh⟩:=aL.f3 c6 c8 c9
 have hF:=aL.g 1 63
 have⟨eZ,jv,jw⟩:=nw3 bk bP bM bO
 refine bS _ _<| wt hF<| wk fun ki e0=>?_
 refine wA [true,false,false] [(1,false),(2,true)] 69 [ve (.agg #[.bool false,sv none ([]) 0]),vt,vt] cc ?_ ?_
 exact .Z<| .off<| .off .nil
 refine aftI cc eX eY fun dq kj cd e1 e2 e3 ce=>?_
 have dr:=ce.f1 hE
 have ds:=ce.g 0 64
 have e4:=eZ.new_ e3
 refine sS6 dr ds e4 fun kk e5 e6 jx=>?_
 have e9:=e2.tR e6
 refine sP (v:=iv 3) rfl cd e1 fun hG jy fa av hI=>?_
 have⟨hH,km⟩:=av.q2 dr ds
 refine e0 _ _<| wp_ret (ret_k fa (v:=.tuple #[.agg #[.bool false,sv none ([]) 0],iv 3]) (res_ct rfl hH hI (l_two isAgg26 sizeOf26 e5)) ?_)
 have af:(canon ((digitsR u).1).natAbs)=[]:=by first|rfl|(simp only [hbody,parsedB,good_parse,Int.natAbs_zero,canon_zero,ab,ac,ad,bsm] <;> rfl)|(exfalso; omega)
 exact⟨none,0,(by show Ending.returned (.tuple #[.agg #[.bool false,sv none ([]) 0],iv 3])=Ending.returned (.tuple #[.agg #[.bool (decide ((digitsR u).1 < 0)),sv none (canon ((digitsR u).1).natAbs) 0],iv ((digitsR u).2)]); (first|rfl|(simp only [hbody,parsedB,good_parse,Int.natAbs_zero,canon_zero,ab,ac,ad,af,bsm] <;> rfl)|(exfalso; omega))),(by rw [af]; exact (SRow.nil _ _)),e9⟩
 intro kn cf
 refine wb<| wp_loopX (fun (mm:Nat) (aa:Act) (ww:World)=>∃ (i:Nat),mm=dd.length - i∧aa.tmps.size=69∧aa.defers=[]∧New w ww∧aa.eval (.tmp 6)=iv (i:Int)∧aa.eval (.tmp 2)=pv aR∧aa.eval (.tmp 4)=sv A5 dd c5∧aa.eval (.tmp 5)=.bool ng∧Blk ww aR 26 [.bool false,sv none ([]) 0]∧SRow ww .u16 A5 dd c5∧(stripN (dd.drop i)=stripN dd)∧(i≤dd.length)) (fun mm=>mm) ⟨_,⟨0,rfl,d1,d2,d3,gZ,gY,gW,gX,d4,d5,(by rw [List.drop_zero]),(Nat.zero_le _)⟩⟩ ?_
 rintro mm ko kp ⟨i,hmm,aM,ch,ci,aZ,du,a1,dv,cj,bl,hst,hi⟩
 refine wk fun kq fb=>wk fun kr cl=>?_
 rcases bc (decide ((i:Int) < ((dd.length:Int) - 1))) with aA|aA
 have dw:=oT aA
 have iV:=hdd.at16 i
 refine wp_g0 (.replicate 12 true) [] 69
  [ve (iv (i:Int)),ve (sv A5 dd c5),ve (iv (dd.length:Int)),ve (iv ((dd.length:Int) - 1)),vT,vT,ve (sv A5 dd c5),ve (iv (i:Int)),
  (EP (.int .u16 ((dd.getD i 0:Nat):Int))),ve (.int .u16 ((dd.getD i 0:Nat):Int)),ve (.bool (decide (((dd.getD i 0:Nat):Int)=48))),ve (.bool (decide (((dd.getD i 0:Nat):Int)=48)))] aM (.eq (.eq (.eq (.eq (.eq (.eq (.eq (.eq (.cons (fun _ _ _ n ⟨_,_,e,h⟩=>⟨_,_,e,h.new_ n⟩) (.eq (.eq (.eq .nil)))))))))))) ?_ ?_
 refine .M aZ<| .M a1<| .T (fun k=>v_lenR rfl elU (k.eq1 1 37 rfl))<| .R (fun k=>v_bin rfl (k.eq1 2 38 rfl) rfl (fun _=>rfl) (r_sub rfl (by omega))) (fun _=>rfl)<| .T (fun k=>v_bin rfl (k.eq1 0 36 rfl) (k.eq1 3 39 rfl) (fun _=>rfl) (r_lssK aA))<| .N 4<| .gm (fun k=>k.eq1 5 41 rfl) (fun k=>k.fx 4 a1)<| .gm (fun k=>k.eq1 5 41 rfl) (fun k=>k.fx 6 aZ) ?_
 refine .o1 (tg rfl rfl rfl (fun _ _ k=>k.eq1 5 41 rfl) fun _ w hn k=>(by
  exact x_eaddr (k:=.u16) rfl elU (k.eq1 6 42 rfl) (k.eq1 7 43 rfl) (bl.new_ hn) (by omega) fun iY iZ hme=>⟨iY,iZ,rfl,hme⟩)) ?_
 refine .o1 (tg rfl rfl rfl (fun _ _ k=>k.eq1 5 41 rfl) fun _ w hn k=>(by
  obtain⟨lk,ll,i0,hJ⟩:=k.G 8 44
  exact⟨_,v_load rfl i0 (l_one isAgg79 hJ.1),rfl⟩)) ?_
 exact .V (fun p k=>v_bin rfl (k.eq1 9 45 rfl) rfl (fun _=>rfl) (r_eql rfl))<| .T (fun k=>v_pickT rfl (k.eq1 5 41 rfl) (k.eq1 10 46 rfl)) .nil
 refine aftI aM ch ci fun ks kt bm cm cn co aB=>?_
 have⟨bv,dx,dy,dz⟩:=aB.f4 aZ du a1 dv
 have dA:=aB.g 11 47
 have⟨cp,cq⟩:=nw2 co cj bl
 refine cl _ _ ?_
 rcases bc (decide (((dd.getD i 0:Nat):Int)=48)) with am|am
 have dB:=oT am
 have fc:=hB dA am
 refine wt fc<| ws<| fb _ _<| wb<| wp_g0 [true,true,false] [(2,true)] 69
  [ve (iv (i:Int)),ve (iv ((i + 1:Nat):Int)),vt] bm (.eq (.eq (.tt .nil))) ?_ ?_
 exact .M bv<| .R (fun k=>v_bin rfl (k.eq1 0 48 rfl) rfl (fun _=>rfl) (n_add (by omega) (IntWalk.i64_in _ (by omega)))) (fun _=>rfl)<| .off .nil
 refine aftI bm cm cn fun dC ku cr fd fe ct aC=>?_
 have⟨kv,hK,hL,hM⟩:=aC.f4 bv dx dy dz
 have dD:=aC.g 1 49
 have⟨ff,fg⟩:=nw2 ct cp cq
 refine sP dD cr fd fun hN fh fi ai hR=>?_
 have⟨hO,hP,hQ⟩:=ai.q3 hK hL hM
 have kw:=ai.q dD
 refine st_nil ?_
 refine blk_n ?_
 refine then_n ?_
 exact⟨_,⟨i + 1,rfl,fh,fi,fe,(hR.trans (congrArg (Value.int .i64) (by omega))),hO,hP,hQ,ff,fg,(strip_up (by omega) am hst),(by omega)⟩,(by omega)⟩
 have dB:=oF am
 have fj:=hB dA am
 refine wf fj<| wp_exit ?_
 exact cf _ _ ⟨i,bm,cm,cn,bv,dx,dy,dz,cp,cq,(strip_at (Or.inr am) hst),(by omega)⟩
 have dw:=oF aA
 have iV:=hdd.at16 i
 refine wA tr12 [] 69 [ve (iv (i:Int)),ve (sv A5 dd c5),ve (iv (dd.length:Int)),ve (iv ((dd.length:Int) - 1)),vF,vF,vU,vU,vU,vU,vU,vF] aM ?_ ?_
 exact .M aZ<| .M a1<| .T (fun k=>v_lenR rfl elU (k.eq1 1 37 rfl))<| .R (fun k=>v_bin rfl (k.eq1 2 38 rfl) rfl (fun _=>rfl) (r_sub rfl (by omega))) (fun _=>rfl)<| .T (fun k=>v_bin rfl (k.eq1 0 36 rfl) (k.eq1 3 39 rfl) (fun _=>rfl) (r_lssK aA))<| .N 4<| .S<| .S<| .S<| .S<| .S<| .T (fun k=>v_pickF rfl (k.eq1 5 41 rfl) rfl) .nil
 refine aftI aM ch ci fun kx ky fk fl fm cv aD=>?_
 have⟨hT,hU,hV,hW⟩:=aD.f4 aZ du a1 dv
 have hX:=aD.g 11 47
 have⟨fn,fo⟩:=nw2 cv cj bl
 refine cl _ _<| wf hX<| wp_exit ?_
 exact cf _ _ ⟨i,fk,fl,fm,hT,hU,hV,hW,fn,fo,(strip_at (Or.inl (by omega)) hst),(by omega)⟩
 have fp:gp.eval (.tmp 31)=.bool true:=c1.trans (congrArg Value.bool (by rw [ac]; rfl))
 refine wt fp<| wk fun kz fq=>wk fun kA fs=>?_
 refine wA tr2 [] 69 [ve (sv Au u cu),ve (.bool (numericN ⟨#[120,88,111,79]⟩ u))] a6 ?_ ?_
 exact .M gV<| .D (fun k=>args2 (k.eq1 0 32 rfl) rfl) (fun p=>rnumeric_c _ u _ ⟨#[120,88,111,79]⟩ _ (hru.new_ (a7.transNew p)) hu (by first|omega|(show (_:Nat)≤_; decide))) .nil
 refine aftI a6 bB a7 fun kB kC aN cw cx ft cy=>?_
 have dE:=cy.f1 c0
 have dF:=cy.g 1 33
 have cz:=bC.new_ ft
 refine fs _ _ ?_
 rcases bc (numericN ⟨#[120,88,111,79]⟩ u) with an|an
 have fu:=hB dF an
 refine wt fu<| wk fun kD fv=>?_
 refine wA [true,false,false] [(1,false),(2,true)] 69 [ve (.agg #[.bool false,sv none ([]) 0]),vt,vt] aN ?_ ?_
 exact .Z<| .off<| .off .nil
 refine aftI aN cw cx fun dG kE cA fw fy fz cB=>?_
 have dH:=cB.f1 dE
 have dI:=cB.g 0 34
 have fA:=cz.new_ fz
 refine sS6 dH dI fA fun kF fB fC jz=>?_
 have fE:=fy.tR fC
 refine sP (v:=iv 3) rfl cA fw fun hY jA fF aw h3=>?_
 have⟨hZ,kH⟩:=aw.q2 dH dI
 refine fv _ _<| wp_ret (ret_k fF (v:=.tuple #[.agg #[.bool false,sv none ([]) 0],iv 3]) (res_ct rfl hZ h3 (l_two isAgg26 sizeOf26 fB)) ?_)
 have af:(canon ((digitsR u).1).natAbs)=[]:=by first|rfl|(simp only [hbody,parsedB,good_parse,Int.natAbs_zero,canon_zero,ab,ac,an,bsm] <;> rfl)|(exfalso; omega)
 exact⟨none,0,(by show Ending.returned (.tuple #[.agg #[.bool false,sv none ([]) 0],iv 3])=Ending.returned (.tuple #[.agg #[.bool (decide ((digitsR u).1 < 0)),sv none (canon ((digitsR u).1).natAbs) 0],iv ((digitsR u).2)]); (first|rfl|(simp only [hbody,parsedB,good_parse,Int.natAbs_zero,canon_zero,ab,ac,an,af,bsm] <;> rfl)|(exfalso; omega))),(by rw [af]; exact (SRow.nil _ _)),fE⟩
 have fG:=hB dF an
 refine wf fG<| ws<| fq _ _<| wk fun kI fH=>?_
 refine wA [true,false,false] [(1,false),(2,true)] 69 [ve (.agg #[.bool false,sv none ([]) 0]),vt,vt] aN ?_ ?_
 exact .Z<| .off<| .off .nil
 refine aftI aN cw cx fun dK kJ cC fI fJ fK cD=>?_
 have dL:=cD.f1 dE
 have dM:=cD.g 0 35
 have fL:=cz.new_ fK
 refine sS6 dL dM fL fun kK fM fN jB=>?_
 have fP:=fJ.tR fN
 refine sP (v:=iv 5) rfl cC fI fun h4 jC fQ ax h6=>?_
 have⟨h5,kM⟩:=ax.q2 dL dM
 refine fH _ _<| wp_ret (ret_k fQ (v:=.tuple #[.agg #[.bool false,sv none ([]) 0],iv 5]) (res_ct rfl h5 h6 (l_two isAgg26 sizeOf26 fM)) ?_)
 have af:(canon ((digitsR u).1).natAbs)=[]:=by first|rfl|(simp only [hbody,parsedB,good_parse,Int.natAbs_zero,canon_zero,ab,ac,an,bsm] <;> rfl)|(exfalso; omega)
 exact⟨none,0,(by show Ending.returned (.tuple #[.agg #[.bool false,sv none ([]) 0],iv 5])=Ending.returned (.tuple #[.agg #[.bool (decide ((digitsR u).1 < 0)),sv none (canon ((digitsR u).1).natAbs) 0],iv ((digitsR u).2)]); (first|rfl|(simp only [hbody,parsedB,good_parse,Int.natAbs_zero,canon_zero,ab,ac,an,af,bsm] <;> rfl)|(exfalso; omega))),(by rw [af]; exact (SRow.nil _ _)),fP⟩
 intro kN bn
 refine wk fun kO cE=>?_
 rcases bc (decide (((u.getD 0 0:Nat):Int)=45)) with aj|aj
 have dO:=oT aj
 have cF:=hB gn aj
 refine wA tr7 [] 69 [vT,vT,vU,vU,vU,vU,vT] a4 ?_ ?_
 exact .M cF<| .N 0<| .S<| .S<| .S<| .S<| .T (fun k=>v_pickT rfl (k.eq1 1 21 rfl) rfl) .nil
 refine aftI a4 cU br fun kP kQ cG fR cH fS aE=>?_
 have⟨dP,h7,kR,ia⟩:=aE.f4 cV gk gl cF
 have ib:=aE.g 6 26
 have fT:=cW.new_ fS
 refine cE _ _<| wt ib<| wp_g0 [true,true,true] [] 69
  [ve (sv Au u cu),
  (RP .u16 (u.drop 1)),
  (RP .u16 (u.drop 1))] cG (.eq (.cons (fun _ _ _ n ⟨_,_,e,h⟩=>⟨_,_,e,h.new_ n⟩) (.cons (fun _ _ _ n ⟨_,_,e,h⟩=>⟨_,_,e,h.new_ n⟩) .nil))) ?_ ?_
 refine .M dP ?_
 refine .o1 (tk rfl rfl fun _ w hn k=>(by
  exact x_cutL (k:=.u16) rfl elU (k.eq1 0 27 rfl) rfl (hru.new_ (cH.transNew hn)) (by omega) fun i5 i6 hmr=>⟨i5,i6,rfl,hmr⟩)) ?_
 refine .o1 (tk rfl rfl fun _ w hn k=>(by
  obtain⟨i7,i8,i9,ic⟩:=k.G 1 28
  exact⟨_,v_assign rfl i9,⟨i7,i8,rfl,ic⟩⟩)) ?_
 exact .nil
 refine aftI cG fR cH fun id kS fU fV fW fX aO=>?_
 have⟨ie,ig,ih⟩:=aO.f3 dP h7 ia
 obtain⟨dQ,cI,bw,fY⟩:=aO.G 2 4
 have bw:id.eval (.tmp 4)=sv dQ (u.drop 1) cI:=bw
 have fZ:=fT.new_ fX
 refine st_nil ?_
 exact bn _ _ ⟨true,(u.drop 1),dQ,cI,fU,fV,fW,bw,ih,ie,ig,fZ,fY,(by unfold digitsR; simp only [ab,aj,bsm]),(hu.drop 1),(by first|omega|(rw [List.length_drop]; omega))⟩
 have dO:=oF aj
 have cJ:=hB gn aj
 refine wp_g0 [true,true,true,true,true,true,true] [] 69
  [vF,vF,ve (sv Au u cu),
  (EP (.int .u16 ((u.getD 0 0:Nat):Int))),ve (.int .u16 ((u.getD 0 0:Nat):Int)),ve (.bool (decide (((u.getD 0 0:Nat):Int)=43))),ve (.bool (decide (((u.getD 0 0:Nat):Int)=43)))] a4 (.eq (.eq (.eq (.cons (fun _ _ _ n ⟨_,_,e,h⟩=>⟨_,_,e,h.new_ n⟩) (.eq (.eq (.eq .nil))))))) ?_ ?_
 refine .M cJ<| .N 0<| .gm (fun k=>k.eq1 1 21 rfl) (fun k=>k.fx 0 cV) ?_
 refine .o1 (tg rfl rfl rfl (fun _ _ k=>k.eq1 1 21 rfl) fun _ w hn k=>(by
  exact x_eaddr (k:=.u16) rfl elU (k.eq1 2 22 rfl) rfl (hru.new_ (br.transNew hn)) (by omega) fun jc jd hme=>⟨jc,jd,rfl,hme⟩)) ?_
 refine .o1 (tg rfl rfl rfl (fun _ _ k=>k.eq1 1 21 rfl) fun _ w hn k=>(by
  obtain⟨lm,ln,je,ii⟩:=k.G 3 23
  exact⟨_,v_load rfl je (l_one isAgg79 ii.1),rfl⟩)) ?_
 exact .V (fun p k=>v_bin rfl (k.eq1 4 24 rfl) rfl (fun _=>rfl) (r_eql rfl))<| .T (fun k=>v_pickF rfl (k.eq1 1 21 rfl) (k.eq1 5 25 rfl)) .nil
 refine aftI a4 cU br fun kT kU bo cK aP f0 aF=>?_
 have⟨bx,dR,ij,dS⟩:=aF.f4 cV gk gl cJ
 have dT:=aF.g 6 26
 have cL:=cW.new_ f0
 refine cE _ _ ?_
 rcases bc (decide (((u.getD 0 0:Nat):Int)=43)) with ao|ao
 have dU:=oT ao
 have f1:=hB dT ao
 refine wt f1<| wp_g0 [true,true,true] [] 69
  [ve (sv Au u cu),
  (RP .u16 (u.drop 1)),
  (RP .u16 (u.drop 1))] bo (.eq (.cons (fun _ _ _ n ⟨_,_,e,h⟩=>⟨_,_,e,h.new_ n⟩) (.cons (fun _ _ _ n ⟨_,_,e,h⟩=>⟨_,_,e,h.new_ n⟩) .nil))) ?_ ?_
 refine .M bx ?_
 refine .o1 (tk rfl rfl fun _ w hn k=>(by
  exact x_cutL (k:=.u16) rfl elU (k.eq1 0 27 rfl) rfl (hru.new_ (aP.transNew hn)) (by omega) fun jk jl hmr=>⟨jk,jl,rfl,hmr⟩)) ?_
 refine .o1 (tk rfl rfl fun _ w hn k=>(by
  obtain⟨jm,jn,jo,ik⟩:=k.G 1 28
  exact⟨_,v_assign rfl jo,⟨jm,jn,rfl,ik⟩⟩)) ?_
 exact .nil
 refine aftI bo cK aP fun il kV f2 f3 f4 f5 aQ=>?_
 have⟨im,io,ip⟩:=aQ.f3 bx dR dS
 obtain⟨dV,cM,bz,f6⟩:=aQ.G 2 4
 have bz:il.eval (.tmp 4)=sv dV (u.drop 1) cM:=bz
 have f7:=cL.new_ f5
 refine st_nil ?_
 exact bn _ _ ⟨false,(u.drop 1),dV,cM,f2,f3,f4,bz,ip,im,io,f7,f6,(by unfold digitsR; simp only [ab,aj,ao,bsm]),(hu.drop 1),(by first|omega|(rw [List.length_drop]; omega))⟩
 have dU:=oF ao
 have f8:=hB dT ao
 refine wf f8<| ws<| bn _ _ ⟨false,u,Au,cu,bo,cK,aP,ij,dS,bx,dR,cL,(hru.new_ aP),(by unfold digitsR; simp only [ab,aj,ao,bsm]),hu,(by first|omega|(rw [List.length_drop]; omega))⟩
def qtobig_c_P (v:Vl) (Av:Option Addr) (cv:Nat) (Bv:Option Addr) (dv:Nat) (w:World) (en:Ending) (w':World):Prop:=∃ (Ar0:Option Addr) (cr0:Nat),en=.returned (.tuple #[.agg #[.bool ((bigintV v).1),sv Ar0 ((bigintV v).2.1) cr0],iv ((bigintV v).2.2)])∧SRow w' .u32 Ar0 ((bigintV v).2.1) cr0∧New w w'
theorem qtobig_c (v:Vl) (Av:Option Addr) (cv:Nat) (Bv:Option Addr) (dv:Nat) (w:World) (hmv:SRow w .u32 Av v.mag cv) (hsv:SRow w .u16 Bv v.s dv) (hvv:VOk v):Calls prog 13 #[vv v Av cv Bv dv] w (qtobig_c_P v Av cv Bv dv w):=by
 refine enter_abs func13 rfl fun a0 a1 ek hp=>?_
 have a1:a0.tmps.size=31:=a1
 have bu:New w w:=Upd.refl _ _
 have hp0:a0.eval (.tmp 0)=vv v Av cv Bv dv:=hp 0 _ rfl
 have hm:=hvv.clean.mlen
 have hsl:=hvv.clean.slen
 have fw:=hvv.clean.rlo
 have fy:=hvv.clean.rhi
 have htl:=trim_len (cleanV v).s
 refine wk fun K1 el=>?_
 refine wB tr3 [] [] 31 [IsNew w 32 (c7 v Av cv Bv dv),IsNew w 26 [.bool false,sv none ([]) 0],ve (iv 0)] [0,1] a1 ?_ heN ?_
 exact .X hp0<| .Y<| .c .nil
 refine aftI a1 ek bu fun a2 w3 dk em aL fz bv=>?_
 obtain⟨q9,h8,du,dw⟩:=bv.G 0 1
 obtain⟨dl,dm,dx,bw⟩:=bv.G 1 2
 have hne16:=bv.ne 0 1 1 2 h8 dm
 have eU:=Nat.le_trans bu.size du
 have eV:=Nat.le_trans bu.size dx
 refine el _ _ <| wk fun fA dy=>?_
 refine wp_g [true,true,true,false] [] [(3,false)] 31
  [ve (vv v Av cv Bv dv),
  (VP (cleanV v)),IsNew w3 32 z7,vt]
  [2] (newsCons (fun v w h=>IsNew.old h) newsNil) dk (.eq (.cons (fun _ _ _ n ⟨_,_,_,_,e,h,i⟩=>⟨_,_,_,_,e,h.new_ n,i.new_ n⟩) (.nw (.tt .nil)))) ?_ (fun i h=>by cases h) ?_
 refine .L8 h8 dw ?_
 refine .o1 (tkC rfl (noG rfl) rfl fun _ w hn k=>(by
  refine ⟨#[vv v Av cv Bv dv],_,args1 (k.eq1 0 5 rfl),fun w=>by kernel_rfl,qgood_c v _ _ _ _ _ (hmv.new_ (aL.transNew hn)) (hsv.new_ (aL.transNew hn)),?_⟩
  rintro e w' ⟨A1,c2,A3,c4,rfl,hmo0,hmo1,hm⟩
  exact⟨_,rfl,hm,⟨A1,c2,A3,c4,rfl,hmo0,hmo1⟩⟩)) ?_
 exact .Y<| .off .nil
 refine aftI dk em aL fun en fB bx dz dA dB aU=>?_
 have eo:=aU.f1 dm
 obtain⟨aT,aA,aB,aC,bz,dC,dD⟩:=aU.G 1 6
 have bz:en.eval (.tmp 6)=vv (cleanV v) aT aA aB aC:=bz
 obtain⟨aJ,bA,bB,aV⟩:=aU.G 2 4
 have dE:=bw.new_ dB
 have hne40:dl ≠ aJ:=by have h1:=bw.lt; have h2:=bB; omega
 have eW:=Nat.le_trans aL.size bB
 refine sS8 bA bz aV fun ep bC aW dF=>?_
 have dH:=dC.fr aV aW
 have dI:=dD.fr aV aW
 have dJ:=dF hne40 dE
 have dK:=dA.tR aW
 refine dy _ _ <| wk fun fD dL=>?_
 refine wk fun fE dM=>?_
 refine wA tr2 [] 31 [ve (pv aJ),ve (iv ((cleanV v).k))] bx ?_ ?_
 exact .F bA<| .J 0 isAgg3 bC .nil
 refine aftI bx dz dK fun fF fG bD dN dO aM aX=>?_
 have⟨er,es⟩:=aX.f2 eo bA
 have dn:=aX.g 1 8
 have⟨dP,dQ,dR,dS⟩:=nw4 aM dJ bC dH dI
 refine dM _ _<| wb<| wk fun fH dT=>?_
 refine wA tr2 [] 31 [ve (.bool (decide (((cleanV v).k)=2))),ve (.bool (decide (((cleanV v).k)=2)))] bD ?_ ?_
 exact .H dn (r_eql rfl)<| .B 0 .nil
 refine aftI bD dN dO fun fI fJ aN bE bF aO aP=>?_
 have⟨dp,dq,dr⟩:=aP.f3 er es dn
 have ds:=aP.g 1 9
 have⟨bG,bH,dU,dV⟩:=nw4 aO dP dQ dR dS
 refine dT _ _ ?_
 rcases bc (decide (((cleanV v).k)=2)) with ab|ab
 have cc:=oT ab
 have dW:=hB ds ab
 refine wt dW<| wk fun fK dX=>?_
 refine wp_g0 [true,true,true,false,false] [(3,false),(4,true)] 31
  [ve (.pointer (some ⟨aJ,6,none⟩)),ve (iv ((cleanV v).ref)),(fun (v_:Value) (W:World)=>∃ (aD:Option Addr) (aE:Nat),v_=.agg #[.bool (decide (((cleanV v).ref) < 0)),sv aD (canon (((cleanV v).ref)).natAbs) aE]∧SRow W .u32 aD (canon (((cleanV v).ref)).natAbs) aE),vt,vt] aN (.eq (.eq (.cons (fun _ _ _ n ⟨_,_,e,h⟩=>⟨_,_,e,h.new_ n⟩) (.tt (.tt .nil))))) ?_ ?_
 refine .F dq<| .J 0 isAgg3 bH ?_
 refine .o1 (tkC rfl (noG rfl) rfl fun _ w hn k=>(by
  refine ⟨#[iv ((cleanV v).ref)],_,args1 (k.eq1 1 12 rfl),fun w=>by kernel_rfl,sOf_c ((cleanV v).ref) _ (by omega) (by omega),?_⟩
  rintro e w' ⟨et,eu,rfl,hmo0,hm⟩
  exact⟨_,rfl,hm,⟨et,eu,rfl,hmo0⟩⟩)) ?_
 exact .off<| .off .nil
 refine aftI aN bE bF fun bI fL bJ dY cd dZ bK=>?_
 have dt:=bK.f1 dp
 obtain⟨aK,ao,a3,d0⟩:=bK.G 2 13
 have a3:bI.eval (.tmp 13)=.agg #[.bool (decide (((cleanV v).ref) < 0)),sv aK (canon (((cleanV v).ref)).natAbs) ao]:=a3
 have a4:=bG.new_ dZ
 refine sS6 dt a3 a4 fun eX ce a5 eJ=>?_
 have ch:=d0.fr a4 a5
 have ci:=cd.tR a5
 refine sP (v:=iv 0) rfl bJ dY fun d1 eK cj ag d3=>?_
 have⟨d2,eZ⟩:=ag.q2 dt a3
 refine dX _ _<| wp_ret (ret_k cj (v:=.tuple #[.agg #[.bool (decide (((cleanV v).ref) < 0)),sv aK (canon (((cleanV v).ref)).natAbs) ao],iv 0]) (res_ct rfl d2 d3 (l_two isAgg26 sizeOf26 ce)) ?_)
 have ae:(bigintV v).2.1=(canon (((cleanV v).ref)).natAbs):=by first|rfl|(simp only [bigintV,digitsR_eq,ab,bsm] <;> rfl)|(exfalso; omega)
 exact⟨aK,ao,(by show Ending.returned (.tuple #[.agg #[.bool (decide (((cleanV v).ref) < 0)),sv aK (canon (((cleanV v).ref)).natAbs) ao],iv 0])=Ending.returned (.tuple #[.agg #[.bool ((bigintV v).1),sv aK ((bigintV v).2.1) ao],iv ((bigintV v).2.2)]); (first|rfl|(simp only [bigintV,digitsR_eq,ab,ae,bsm] <;> rfl)|(exfalso; omega))),(by rw [ae]; exact ch),ci⟩
 have cc:=oF ab
 have cl:=hB ds ab
 refine wf cl<| wk fun e0 cm=>?_
 refine wA tr2 [] 31 [ve (.bool (decide (((cleanV v).k)=4))),ve (.bool (decide (((cleanV v).k)=4)))] aN ?_ ?_
 exact .H dr (r_eql rfl)<| .B 0 .nil
 refine aftI aN bE bF fun e1 e2 ar a6 a7 au av=>?_
 have⟨bM,bN,bO⟩:=av.f3 dp dq dr
 have bP:=av.g 1 14
 have⟨a8,a9,ba,cn⟩:=nw4 au bG bH dU dV
 refine cm _ _ ?_
 rcases bc (decide (((cleanV v).k)=4)) with aa|aa
 have bQ:=oT aa
 have co:=hB bP aa
 refine wt co<| wk fun e3 cp=>?_
 refine wp_g0 [true,true,true,false,false] [(3,false),(4,true)] 31
  [ve (.pointer (some ⟨aJ,3,none⟩)),ve (.agg #[.bool ((cleanV v).neg),sv aT ((cleanV v).mag) aA]),(fun (v_:Value) (W:World)=>∃ (aF:Option Addr) (aG:Nat),v_=.agg #[.bool ((cleanV v).neg),sv aF ((cleanV v).mag) aG]∧SRow W .u32 aF ((cleanV v).mag) aG),vt,vt] ar (.eq (.eq (.cons (fun _ _ _ n ⟨_,_,e,h⟩=>⟨_,_,e,h.new_ n⟩) (.tt (.tt .nil))))) ?_ ?_
 refine .F bN<| .K6 0 a9 ?_
 refine .o1 (tkC rfl (noG rfl) rfl fun _ w hn k=>(by
  refine ⟨#[.agg #[.bool ((cleanV v).neg),sv aT ((cleanV v).mag) aA]],_,args1 (k.eq1 1 17 rfl),fun w=>by kernel_rfl,cbigs_c ((cleanV v).neg) _ ((cleanV v).mag) _ _ (ba.new_ hn) (by first|omega|(simp only [List.length_nil,List.length_take,List.length_drop]; omega)|(simp only [List.length_cons,List.length_nil]; omega)),?_⟩
  rintro e w' ⟨ev,ew,rfl,hmo0,hm⟩
  exact⟨_,rfl,hm,⟨ev,ew,rfl,hmo0⟩⟩)) ?_
 exact .off<| .off .nil
 refine aftI ar a6 a7 fun aY e4 bb cq cr ct bd=>?_
 have bR:=bd.f1 bM
 obtain⟨ap,ah,aQ,cu⟩:=bd.G 2 18
 have aQ:aY.eval (.tmp 18)=.agg #[.bool ((cleanV v).neg),sv ap ((cleanV v).mag) ah]:=aQ
 have be:=a8.new_ ct
 refine sS6 bR aQ be fun e5 cw bf eL=>?_
 have cy:=cu.fr be bf
 have cz:=cr.tR bf
 refine sP (v:=iv 0) rfl bb cq fun d4 eM cA ai d6=>?_
 have⟨d5,e7⟩:=ai.q2 bR aQ
 refine cp _ _<| wp_ret (ret_k cA (v:=.tuple #[.agg #[.bool ((cleanV v).neg),sv ap ((cleanV v).mag) ah],iv 0]) (res_ct rfl d5 d6 (l_two isAgg26 sizeOf26 cw)) ?_)
 have ae:(bigintV v).2.1=((cleanV v).mag):=by first|rfl|(simp only [bigintV,digitsR_eq,ab,aa,bsm] <;> rfl)|(exfalso; omega)
 exact⟨ap,ah,(by show Ending.returned (.tuple #[.agg #[.bool ((cleanV v).neg),sv ap ((cleanV v).mag) ah],iv 0])=Ending.returned (.tuple #[.agg #[.bool ((bigintV v).1),sv ap ((bigintV v).2.1) ah],iv ((bigintV v).2.2)]); (first|rfl|(simp only [bigintV,digitsR_eq,ab,aa,ae,bsm] <;> rfl)|(exfalso; omega))),(by rw [ae]; exact cy),cz⟩
 have bQ:=oF aa
 have cB:=hB bP aa
 refine wf cB<| wk fun e8 cC=>?_
 refine wA tr2 [] 31 [ve (.bool (decide (((cleanV v).k)=5))),ve (.bool (decide (((cleanV v).k)=5)))] ar ?_ ?_
 exact .H bO (r_eql rfl)<| .B 0 .nil
 refine aftI ar a6 a7 fun e9 fa aw bg bh ax ay=>?_
 have⟨bT,d7,d8⟩:=ay.f3 bM bN bO
 have bU:=ay.g 1 19
 have⟨bi,cD,eN,cE⟩:=nw4 ax a8 a9 ba cn
 refine cC _ _ ?_
 rcases bc (decide (((cleanV v).k)=5)) with ac|ac
 have bV:=oT ac
 have cF:=hB bU ac
 refine wt cF<| wk fun fb cG=>?_
 refine wp_g0 [true,true,true,true,true,true,false,false] [(6,false),(7,true)] 31
  [ve (.pointer (some ⟨aJ,5,none⟩)),ve (sv aB ((cleanV v).s) aC),
  (RP .u16 (trimN ((cleanV v).s))),(fun (v_:Value) (W:World)=>∃ (am:Option Addr) (an:Nat),v_=.tuple #[.agg #[.bool (decide ((digitsR (trimN ((cleanV v).s))).1 < 0)),sv am (canon ((digitsR (trimN ((cleanV v).s))).1).natAbs) an],iv ((digitsR (trimN ((cleanV v).s))).2)]∧SRow W .u32 am (canon ((digitsR (trimN ((cleanV v).s))).1).natAbs) an),(fun (v_:Value) (W:World)=>∃ (aH:Option Addr) (aI:Nat),v_=.agg #[.bool (decide ((digitsR (trimN ((cleanV v).s))).1 < 0)),sv aH (canon ((digitsR (trimN ((cleanV v).s))).1).natAbs) aI]∧SRow W .u32 aH (canon ((digitsR (trimN ((cleanV v).s))).1).natAbs) aI),ve (iv ((digitsR (trimN ((cleanV v).s))).2)),vt,vt] aw (.eq (.eq (.cons (fun _ _ _ n ⟨_,_,e,h⟩=>⟨_,_,e,h.new_ n⟩) (.cons (fun _ _ _ n ⟨_,_,e,h⟩=>⟨_,_,e,h.new_ n⟩) (.cons (fun _ _ _ n ⟨_,_,e,h⟩=>⟨_,_,e,h.new_ n⟩) (.eq (.tt (.tt .nil)))))))) ?_ ?_
 refine .F d7<| .J 0 isAgg27 cD ?_
 refine .o1 (tkC rfl (noG rfl) rfl fun _ w hn k=>(by
  refine ⟨#[sv aB ((cleanV v).s) aC],_,args1 (k.eq1 1 22 rfl),fun w=>by kernel_rfl,rtrim_c _ ((cleanV v).s) _ _ (cE.new_ hn) hvv.clean.units,?_⟩
  rintro e w' ⟨aB,ez,rfl,hmo0,hm⟩
  exact⟨_,rfl,hm,⟨aB,ez,rfl,hmo0⟩⟩)) ?_
 refine .o1 (tkC rfl (noG rfl) rfl fun _ w hn k=>(by
  obtain⟨eA,eB,eC,d9⟩:=k.G 2 23
  refine ⟨#[sv eA (trimN ((cleanV v).s)) eB],_,args1 eC,fun w=>by kernel_rfl,qdigits_c _ (trimN ((cleanV v).s)) _ _ d9 hvv.clean.units.trim (by first|omega|(simp only [List.length_nil,List.length_take,List.length_drop]; omega)|(simp only [List.length_cons,List.length_nil]; omega)),?_⟩
  rintro e w' ⟨eD,eE,rfl,hmo0,hm⟩
  exact⟨_,rfl,hm,⟨eD,eE,rfl,hmo0⟩⟩)) ?_
 refine .o1 (tk rfl rfl fun _ w hn k=>(by
  obtain⟨eF,eG,eH,ea⟩:=k.G 3 24
  exact⟨_,v_extract rfl eH rfl,⟨eF,eG,rfl,ea⟩⟩)) ?_
 refine .o1 (tk rfl rfl fun _ w hn k=>(by
  obtain⟨fM,fN,eI,fc⟩:=k.G 3 24
  exact⟨_,v_extract rfl eI rfl,rfl⟩)) ?_
 exact .off<| .off .nil
 refine aftI aw bg bh fun aZ fd bj cH cI cJ aR=>?_
 have bW:=aR.f1 bT
 obtain⟨aq,aj,aS,cK⟩:=aR.G 4 25
 have aS:aZ.eval (.tmp 25)=.agg #[.bool (decide ((digitsR (trimN ((cleanV v).s))).1 < 0)),sv aq (canon ((digitsR (trimN ((cleanV v).s))).1).natAbs) aj]:=aS
 have bX:=aR.g 5 26
 have bk:=bi.new_ cJ
 refine sS6 bW aS bk fun fe cL bl eO=>?_
 have cN:=cK.fr bk bl
 have cO:=cI.tR bl
 refine sP bX bj cH fun eb eP cP af ed=>?_
 have⟨ec,fg,fh⟩:=af.q3 bW aS bX
 refine cG _ _<| wp_ret (ret_k cP (v:=.tuple #[.agg #[.bool (decide ((digitsR (trimN ((cleanV v).s))).1 < 0)),sv aq (canon ((digitsR (trimN ((cleanV v).s))).1).natAbs) aj],iv ((digitsR (trimN ((cleanV v).s))).2)]) (res_ct rfl ec ed (l_two isAgg26 sizeOf26 cL)) ?_)
 have ae:(bigintV v).2.1=(canon ((digitsR (trimN ((cleanV v).s))).1).natAbs):=by first|rfl|(simp only [bigintV,digitsR_eq,ab,aa,ac,bsm] <;> rfl)|(exfalso; omega)
 exact⟨aq,aj,(by show Ending.returned (.tuple #[.agg #[.bool (decide ((digitsR (trimN ((cleanV v).s))).1 < 0)),sv aq (canon ((digitsR (trimN ((cleanV v).s))).1).natAbs) aj],iv ((digitsR (trimN ((cleanV v).s))).2)])=Ending.returned (.tuple #[.agg #[.bool ((bigintV v).1),sv aq ((bigintV v).2.1) aj],iv ((bigintV v).2.2)]); (first|rfl|(simp only [bigintV,digitsR_eq,ab,aa,ac,ae,bsm] <;> rfl)|(exfalso; omega))),(by rw [ae]; exact cN),cO⟩
 have bV:=oF ac
 have cQ:=hB bU ac
 refine wf cQ<| wk fun fi cR=>?_
 refine wA tr2 [] 31 [ve (.bool (decide (((cleanV v).k)=6))),ve (.bool (decide (((cleanV v).k)=6)))] aw ?_ ?_
 exact .H d8 (r_eql rfl)<| .B 0 .nil
 refine aftI aw bg bh fun fj fk az bm bn cS bo=>?_
 have bZ:=bo.f1 bT
 have b0:=bo.g 1 27
 have bp:=bi.new_ cS
 refine cR _ _ ?_
 rcases bc (decide (((cleanV v).k)=6)) with ad|ad
 have b1:=oT ad
 have cT:=hB b0 ad
 refine wt cT<| wk fun fl cU=>?_
 refine wA [true,false,false] [(1,false),(2,true)] 31 [ve (.agg #[.bool false,sv none ([]) 0]),vt,vt] az ?_ ?_
 exact .Z<| .off<| .off .nil
 refine aftI az bm bn fun b2 fm bq cV cW cX br=>?_
 have b3:=br.f1 bZ
 have b4:=br.g 0 29
 have cY:=bp.new_ cX
 refine sS6 b3 b4 cY fun fn cZ c0 eQ=>?_
 have c3:=cW.tR c0
 refine sP (v:=iv 3) rfl bq cV fun ee eR c5 ak eg=>?_
 have⟨ef,fp⟩:=ak.q2 b3 b4
 refine cU _ _<| wp_ret (ret_k c5 (v:=.tuple #[.agg #[.bool false,sv none ([]) 0],iv 3]) (res_ct rfl ef eg (l_two isAgg26 sizeOf26 cZ)) ?_)
 have ae:(bigintV v).2.1=[]:=by first|rfl|(simp only [bigintV,digitsR_eq,ab,aa,ac,ad,bsm] <;> rfl)|(exfalso; omega)
 exact⟨none,0,(by show Ending.returned (.tuple #[.agg #[.bool false,sv none ([]) 0],iv 3])=Ending.returned (.tuple #[.agg #[.bool ((bigintV v).1),sv none ((bigintV v).2.1) 0],iv ((bigintV v).2.2)]); (first|rfl|(simp only [bigintV,digitsR_eq,ab,aa,ac,ad,ae,bsm] <;> rfl)|(exfalso; omega))),(by rw [ae]; exact (SRow.nil _ _)),c3⟩
 have b1:=oF ad
 have c9:=hB b0 ad
 refine wf c9<| ws<| dL _ _<| wk fun fq da=>?_
 refine wA [true,false,false] [(1,false),(2,true)] 31 [ve (.agg #[.bool false,sv none ([]) 0]),vt,vt] az ?_ ?_
 exact .Z<| .off<| .off .nil
 refine aftI az bm bn fun b6 fs bs db dc dd bt=>?_
 have b7:=bt.f1 bZ
 have b8:=bt.g 0 30
 have de:=bp.new_ dd
 refine sS6 b7 b8 de fun ft df dg eS=>?_
 have di:=dc.tR dg
 refine sP (v:=iv 1) rfl bs db fun eh eT dj al ej=>?_
 have⟨ei,fv⟩:=al.q2 b7 b8
 refine da _ _<| wp_ret (ret_k dj (v:=.tuple #[.agg #[.bool false,sv none ([]) 0],iv 1]) (res_ct rfl ei ej (l_two isAgg26 sizeOf26 df)) ?_)
 have ae:(bigintV v).2.1=[]:=by first|rfl|(simp only [bigintV,digitsR_eq,ab,aa,ac,ad,bsm] <;> rfl)|(exfalso; omega)
 exact⟨none,0,(by show Ending.returned (.tuple #[.agg #[.bool false,sv none ([]) 0],iv 1])=Ending.returned (.tuple #[.agg #[.bool ((bigintV v).1),sv none ((bigintV v).2.1) 0],iv ((bigintV v).2.2)]); (first|rfl|(simp only [bigintV,digitsR_eq,ab,aa,ac,ad,ae,bsm] <;> rfl)|(exfalso; omega))),(by rw [ae]; exact (SRow.nil _ _)),di⟩
def qtext_c_P (v:Vl) (Av:Option Addr) (cv:Nat) (Bv:Option Addr) (dv:Nat) (w:World) (en:Ending) (w':World):Prop:=∃ (Ar0:Option Addr) (cr0:Nat),en=.returned (.tuple #[sv Ar0 ((textV v).1) cr0,iv ((textV v).2)])∧SRow w' .u16 Ar0 ((textV v).1) cr0∧New w w'
theorem qtext_c (v:Vl) (Av:Option Addr) (cv:Nat) (Bv:Option Addr) (dv:Nat) (w:World) (hmv:SRow w .u32 Av v.mag cv) (hsv:SRow w .u16 Bv v.s dv) (hvv:VOk v):Calls prog 18 #[vv v Av cv Bv dv] w (qtext_c_P v Av cv Bv dv w):=by
 refine enter_abs func18 rfl fun a0 bf d0 hp=>?_
 have bf:a0.tmps.size=40:=bf
 have cT:New w w:=Upd.refl _ _
 have hp0:a0.eval (.tmp 0)=vv v Av cv Bv dv:=hp 0 _ rfl
 have hm:=hvv.clean.mlen
 have hsl:=hvv.clean.slen
 have hz1:(textM (Nm.mk (cleanV v).nk (cleanV v).nn)).size≤21:=textM_size (cleanV v).num
 have hz2:=textI_size (b:=(cleanV v).neg) hvv.clean.limbs
 refine wk fun K1 d1=>?_
 refine wB tr3 [] [] 40 [IsNew w 32 (c7 v Av cv Bv dv),ve (sv none ([]) 0),ve (iv 0)] [0] bf ?_ heN ?_
 exact .X hp0<| .c<| .c .nil
 refine aftI bf d0 cT fun a2 w3 cU d2 aC fR d3=>?_
 obtain⟨q9,h8,c1,c3⟩:=d3.G 0 1
 have fo:=Nat.le_trans cT.size c1
 refine d1 _ _ <| wk fun fS c5=>?_
 refine wp_g [true,true,true,false] [] [(3,false)] 40
  [ve (vv v Av cv Bv dv),
  (VP (cleanV v)),IsNew w3 32 z7,vt]
  [2] (newsCons (fun v w h=>IsNew.old h) newsNil) cU (.eq (.cons (fun _ _ _ n ⟨_,_,_,_,e,h,i⟩=>⟨_,_,_,_,e,h.new_ n,i.new_ n⟩) (.nw (.tt .nil)))) ?_ (fun i h=>by cases h) ?_
 refine .L8 h8 c3 ?_
 refine .o1 (tkC rfl (noG rfl) rfl fun _ w hn k=>(by
  refine ⟨#[vv v Av cv Bv dv],_,args1 (k.eq1 0 5 rfl),fun w=>by kernel_rfl,qgood_c v _ _ _ _ _ (hmv.new_ (aC.transNew hn)) (hsv.new_ (aC.transNew hn)),?_⟩
  rintro e w' ⟨A1,c2,A3,c4,rfl,hmo0,hmo1,hm⟩
  exact⟨_,rfl,hm,⟨A1,c2,A3,c4,rfl,hmo0,hmo1⟩⟩)) ?_
 exact .Y<| .off .nil
 refine aftI cU d2 aC fun d4 fT bx c9 da fp bz=>?_
 obtain⟨aW,ap,aX,aq,bA,db,dc⟩:=bz.G 1 6
 have bA:d4.eval (.tmp 6)=vv (cleanV v) aW ap aX aq:=bA
 obtain⟨aB,bB,dd,aY⟩:=bz.G 2 4
 have fq:=Nat.le_trans aC.size dd
 refine sS8 bB bA aY fun d5 bC aZ fs=>?_
 have df:=db.fr aY aZ
 have dg:=dc.fr aY aZ
 have dh:=da.tR aZ
 refine c5 _ _ <| wk fun fV di=>?_
 refine wk fun fW dj=>?_
 refine wA tr2 [] 40 [ve (pv aB),ve (iv ((cleanV v).k))] bx ?_ ?_
 exact .F bB<| .J 0 isAgg3 bC .nil
 refine aftI bx c9 dh fun fX fY bD dk dl a1 bE=>?_
 have d6:=bE.f1 bB
 have cV:=bE.g 1 8
 have⟨dm,dn,dp⟩:=nw3 a1 bC df dg
 refine dj _ _<| wb<| wk fun fZ dq=>?_
 refine wA tr2 [] 40 [ve (.bool (decide (((cleanV v).k)=0))),ve (.bool (decide (((cleanV v).k)=0)))] bD ?_ ?_
 exact .H cV (r_eql rfl)<| .B 0 .nil
 refine aftI bD dk dl fun f0 bg aD bF a3 a4 a5=>?_
 have⟨d7,cW⟩:=a5.f2 d6 cV
 have cX:=a5.g 1 9
 have⟨dr,ds,dt⟩:=nw3 a4 dm dn dp
 refine dq _ _ ?_
 rcases bc (decide (((cleanV v).k)=0)) with ac|ac
 have bZ:=oT ac
 have du:=hB cX ac
 refine wt du<| wk fun f1 dw=>?_
 refine wp_g0 [true,true,true] [] 40
  [(OP bg.heap.size 79 .u16 (asc ⟨#[117,110,100,101,102,105,110,101,100]⟩)),
  (OP bg.heap.size 79 .u16 (asc ⟨#[117,110,100,101,102,105,110,101,100]⟩)),ve (iv 0)] aD (.cons (fun _ _ _ n ⟨_,_,e,h⟩=>⟨_,_,e,h.new_ n⟩) (.cons (fun _ _ _ n ⟨_,_,e,h⟩=>⟨_,_,e,h.new_ n⟩) (.eq .nil))) ?_ ?_
 refine .o1 (tkC rfl (noG rfl) rfl fun _ w hn k=>(by
  refine ⟨#[.string ⟨#[117,110,100,101,102,105,110,101,100]⟩],_,args1 rfl,fun w=>by kernel_rfl,rascii_c ⟨#[117,110,100,101,102,105,110,101,100]⟩ _ (by first|omega|(show (_:Nat)≤_; decide)),?_⟩
  rintro e w' ⟨ec,ed,rfl,hmo0,hm⟩
  exact⟨_,rfl,hm,⟨ec,ed,rfl,(hmo0.more hn.size)⟩⟩)) ?_
 refine .o1 (tk rfl rfl fun _ w hn k=>(by
  obtain⟨ee,ef,eg,dx⟩:=k.G 0 11
  exact⟨_,v_assign rfl eg,⟨ee,ef,rfl,dx⟩⟩)) ?_
 exact .c .nil
 refine aftI aD bF a3 fun eh f2 ft dy dz fu bG=>?_
 obtain⟨ar,au,bH,dA⟩:=bG.G 1 2
 have bH:eh.eval (.tmp 2)=sv ar (asc ⟨#[117,110,100,101,102,105,110,101,100]⟩) au:=bH
 have ei:=bG.g 2 3
 have dB:=dA.more a3.size
 refine dw _ _<| wp_ret (ret_k dy (v:=.tuple #[sv ar (asc ⟨#[117,110,100,101,102,105,110,101,100]⟩) au,iv 0]) (res_tt rfl bH ei _) ?_)
 have ae:(textV v).1=(asc ⟨#[117,110,100,101,102,105,110,101,100]⟩):=by first|rfl|(simp only [textV,ac,bsm] <;> rfl)|(exfalso; omega)
 exact⟨ar,au,(by show Ending.returned (.tuple #[sv ar (asc ⟨#[117,110,100,101,102,105,110,101,100]⟩) au,iv 0])=Ending.returned (.tuple #[sv ar ((textV v).1) au,iv ((textV v).2)]); (first|rfl|(simp only [textV,ac,ae,bsm] <;> rfl)|(exfalso; omega))),(by rw [ae]; exact dB.row),dz⟩
 have bZ:=oF ac
 have dC:=hB cX ac
 refine wf dC<| wk fun f3 dD=>?_
 refine wA tr2 [] 40 [ve (.bool (decide (((cleanV v).k)=1))),ve (.bool (decide (((cleanV v).k)=1)))] aD ?_ ?_
 exact .H cW (r_eql rfl)<| .B 0 .nil
 refine aftI aD bF a3 fun f4 bh aE bI aF a6 a7=>?_
 have⟨ej,cY⟩:=a7.f2 d7 cW
 have cZ:=a7.g 1 12
 have⟨dE,b0,b1⟩:=nw3 a6 dr ds dt
 refine dD _ _ ?_
 rcases bc (decide (((cleanV v).k)=1)) with aa|aa
 have bJ:=oT aa
 have b2:=hB cZ aa
 refine wt b2<| wk fun fv b3=>?_
 refine wp_g0 [true,true,true] [] 40
  [(OP bh.heap.size 79 .u16 (asc ⟨#[110,117,108,108]⟩)),
  (OP bh.heap.size 79 .u16 (asc ⟨#[110,117,108,108]⟩)),ve (iv 0)] aE (.cons (fun _ _ _ n ⟨_,_,e,h⟩=>⟨_,_,e,h.new_ n⟩) (.cons (fun _ _ _ n ⟨_,_,e,h⟩=>⟨_,_,e,h.new_ n⟩) (.eq .nil))) ?_ ?_
 refine .o1 (tkC rfl (noG rfl) rfl fun _ w hn k=>(by
  refine ⟨#[.string ⟨#[110,117,108,108]⟩],_,args1 rfl,fun w=>by kernel_rfl,rascii_c ⟨#[110,117,108,108]⟩ _ (by first|omega|(show (_:Nat)≤_; decide)),?_⟩
  rintro e w' ⟨eo,ep,rfl,hmo0,hm⟩
  exact⟨_,rfl,hm,⟨eo,ep,rfl,(hmo0.more hn.size)⟩⟩)) ?_
 refine .o1 (tk rfl rfl fun _ w hn k=>(by
  obtain⟨er,es,et,dF⟩:=k.G 0 14
  exact⟨_,v_assign rfl et,⟨er,es,rfl,dF⟩⟩)) ?_
 exact .c .nil
 refine aftI aE bI aF fun dG fw fb b4 b5 fc bi=>?_
 obtain⟨av,ah,a8,b6⟩:=bi.G 1 2
 have a8:dG.eval (.tmp 2)=sv av (asc ⟨#[110,117,108,108]⟩) ah:=a8
 have dH:=bi.g 2 3
 have b7:=b6.more aF.size
 refine b3 _ _<| wp_ret (ret_k b4 (v:=.tuple #[sv av (asc ⟨#[110,117,108,108]⟩) ah,iv 0]) (res_tt rfl a8 dH _) ?_)
 have ae:(textV v).1=(asc ⟨#[110,117,108,108]⟩):=by first|rfl|(simp only [textV,ac,aa,bsm] <;> rfl)|(exfalso; omega)
 exact⟨av,ah,(by show Ending.returned (.tuple #[sv av (asc ⟨#[110,117,108,108]⟩) ah,iv 0])=Ending.returned (.tuple #[sv av ((textV v).1) ah,iv ((textV v).2)]); (first|rfl|(simp only [textV,ac,aa,ae,bsm] <;> rfl)|(exfalso; omega))),(by rw [ae]; exact b7.row),b5⟩
 have bJ:=oF aa
 have b8:=hB cZ aa
 refine wf b8<| wk fun fy b9=>?_
 refine wA tr2 [] 40 [ve (.bool (decide (((cleanV v).k)=2))),ve (.bool (decide (((cleanV v).k)=2)))] aE ?_ ?_
 exact .H cY (r_eql rfl)<| .B 0 .nil
 refine aftI aE bI aF fun fz aG al bj aH aI aJ=>?_
 have⟨bK,bL⟩:=aJ.f2 ej cY
 have bM:=aJ.g 1 15
 have⟨bk,ca,cb⟩:=nw3 aI dE b0 b1
 refine b9 _ _ ?_
 rcases bc (decide (((cleanV v).k)=2)) with ab|ab
 have bN:=oT ab
 have cc:=hB bM ab
 refine wt cc<| wk fun fA cd=>?_
 have c0:=may_2 (may_clean v) (oT ab)
 have htz:=truth_size c0
 have htl:=tfN_len
 refine wp_g0 (.replicate 8 true) [] 40
  [(fun (v_:Value) (W:World)=>∃ (aw:Option Addr) (ax:Nat),v_=svT aw tfN ax∧TRow W aw tfN ax),ve (.pointer (some ⟨aB,6,none⟩)),ve (iv ((cleanV v).ref)),
  (EP (.string (tfN.getD (((cleanV v).ref:Int).toNat) ⟨#[]⟩))),ve (.string (tfN.getD (((cleanV v).ref:Int).toNat) ⟨#[]⟩)),
  (OP aG.heap.size 79 .u16 (asc (tfN.getD (((cleanV v).ref:Int).toNat) ⟨#[]⟩))),
  (OP aG.heap.size 79 .u16 (asc (tfN.getD (((cleanV v).ref:Int).toNat) ⟨#[]⟩))),ve (iv 0)] al (.cons (fun _ _ _ n ⟨_,_,e,h⟩=>⟨_,_,e,h.new_ n⟩) (.eq (.eq (.cons (fun _ _ _ n ⟨_,_,e,h⟩=>⟨_,_,e,h.new_ n⟩) (.eq (.cons (fun _ _ _ n ⟨_,_,e,h⟩=>⟨_,_,e,h.new_ n⟩) (.cons (fun _ _ _ n ⟨_,_,e,h⟩=>⟨_,_,e,h.new_ n⟩) (.eq .nil)))))))) ?_ ?_
 refine .o1 (tkA rfl (noG rfl) fun _ w hn k=>(by
  exact x_bsliceT (ps:=[(0,.string ⟨#[102,97,108,115,101]⟩),(1,.string ⟨#[116,114,117,101]⟩)]) tfN rfl (by simp [Act.eval]) elT rfl (by decide) (by omega) (by kernel_rfl) fun eA eB W' hmo=>⟨eA,eB,rfl,hmo⟩)) ?_
 refine .F bK<| .J 1 isAgg3 bk ?_
 refine .o1 (tk rfl rfl fun _ w hn k=>(by
  obtain⟨f5,f6,eC,dI⟩:=k.G 0 17
  exact x_eaddrT rfl elT eC (k.eq1 2 19 rfl) dI (by omega) fun eD eE hme=>⟨eD,eE,rfl,hme⟩)) ?_
 refine .o1 (tk rfl rfl fun _ w hn k=>(by
  obtain⟨f7,f8,eF,dJ⟩:=k.G 3 20
  exact⟨_,v_load rfl eF (l_one isAgg9 dJ.1),rfl⟩)) ?_
 refine .o1 (tkC rfl (noG rfl) rfl fun _ w hn k=>(by
  refine ⟨#[.string (tfN.getD (((cleanV v).ref:Int).toNat) ⟨#[]⟩)],_,args1 (k.eq1 4 21 rfl),fun w=>by kernel_rfl,rascii_c (tfN.getD (((cleanV v).ref:Int).toNat) ⟨#[]⟩) _ (by first|omega|(show (_:Nat)≤_; decide)),?_⟩
  rintro e w' ⟨eG,eH,rfl,hmo0,hm⟩
  exact⟨_,rfl,hm,⟨eG,eH,rfl,(hmo0.more hn.size)⟩⟩)) ?_
 refine .o1 (tk rfl rfl fun _ w hn k=>(by
  obtain⟨eI,eJ,eK,dK⟩:=k.G 5 22
  exact⟨_,v_assign rfl eK,⟨eI,eJ,rfl,dK⟩⟩)) ?_
 exact .c .nil
 refine aftI al bj aH fun dL fB fd ce cf fe bl=>?_
 obtain⟨a9,aK,ba,ch⟩:=bl.G 6 2
 have ba:dL.eval (.tmp 2)=sv a9 (asc (tfN.getD (((cleanV v).ref:Int).toNat) ⟨#[]⟩)) aK:=ba
 have dM:=bl.g 7 3
 have ci:=ch.more aH.size
 refine cd _ _<| wp_ret (ret_k ce (v:=.tuple #[sv a9 (asc (tfN.getD (((cleanV v).ref:Int).toNat) ⟨#[]⟩)) aK,iv 0]) (res_tt rfl ba dM _) ?_)
 have ae:=textV_truth ab c0
 exact⟨a9,aK,by rw [ae],by rw [ae]; exact ci.row,cf⟩
 have bN:=oF ab
 have cj:=hB bM ab
 refine wf cj<| wk fun fC cl=>?_
 refine wA tr2 [] 40 [ve (.bool (decide (((cleanV v).k)=3))),ve (.bool (decide (((cleanV v).k)=3)))] al ?_ ?_
 exact .H bL (r_eql rfl)<| .B 0 .nil
 refine aftI al bj aH fun fD aL am bm aM aN aO=>?_
 have⟨bO,bP⟩:=aO.f2 bK bL
 have bQ:=aO.g 1 23
 have⟨bn,cm,cn⟩:=nw3 aN bk ca cb
 refine cl _ _ ?_
 rcases bc (decide (((cleanV v).k)=3)) with ad|ad
 have bR:=oT ad
 have co:=hB bQ ad
 refine wt co<| wk fun fE cp=>?_
 refine wp_g0 [true,true,true,true,true,true] [] 40
  [ve (.pointer (some ⟨aB,1,none⟩)),ve (nv (Nm.mk ((cleanV v).nk) ((cleanV v).nn))),ve (.string (textM (Nm.mk ((cleanV v).nk) ((cleanV v).nn)))),
  (OP aL.heap.size 79 .u16 (asc (textM (Nm.mk ((cleanV v).nk) ((cleanV v).nn))))),
  (OP aL.heap.size 79 .u16 (asc (textM (Nm.mk ((cleanV v).nk) ((cleanV v).nn))))),ve (iv 0)] am (.eq (.eq (.eq (.cons (fun _ _ _ n ⟨_,_,e,h⟩=>⟨_,_,e,h.new_ n⟩) (.cons (fun _ _ _ n ⟨_,_,e,h⟩=>⟨_,_,e,h.new_ n⟩) (.eq .nil)))))) ?_ ?_
 refine .F bO<| .K2 0 bn<| .C 1 (fun m=>rntext_c (Nm.mk ((cleanV v).nk) ((cleanV v).nn)) _) ?_
 refine .o1 (tkC rfl (noG rfl) rfl fun _ w hn k=>(by
  refine ⟨#[.string (textM (Nm.mk ((cleanV v).nk) ((cleanV v).nn)))],_,args1 (k.eq1 2 27 rfl),fun w=>by kernel_rfl,rascii_c (textM (Nm.mk ((cleanV v).nk) ((cleanV v).nn))) _ (by first|omega|(show (_:Nat)≤_; decide)),?_⟩
  rintro e w' ⟨eP,eQ,rfl,hmo0,hm⟩
  exact⟨_,rfl,hm,⟨eP,eQ,rfl,(hmo0.more hn.size)⟩⟩)) ?_
 refine .o1 (tk rfl rfl fun _ w hn k=>(by
  obtain⟨eR,eS,eT,dN⟩:=k.G 3 28
  exact⟨_,v_assign rfl eT,⟨eR,eS,rfl,dN⟩⟩)) ?_
 exact .c .nil
 refine aftI am bm aM fun dO fF ff cq cr fg bo=>?_
 obtain⟨ay,ai,bb,ct⟩:=bo.G 4 2
 have bb:dO.eval (.tmp 2)=sv ay (asc (textM (Nm.mk ((cleanV v).nk) ((cleanV v).nn)))) ai:=bb
 have dP:=bo.g 5 3
 have cu:=ct.more aM.size
 refine cp _ _<| wp_ret (ret_k cq (v:=.tuple #[sv ay (asc (textM (Nm.mk ((cleanV v).nk) ((cleanV v).nn)))) ai,iv 0]) (res_tt rfl bb dP _) ?_)
 have ae:(textV v).1=(asc (textM (Nm.mk ((cleanV v).nk) ((cleanV v).nn)))):=by first|rfl|(simp only [textV,ac,aa,ab,ad,bsm] <;> rfl)|(exfalso; omega)
 exact⟨ay,ai,(by show Ending.returned (.tuple #[sv ay (asc (textM (Nm.mk ((cleanV v).nk) ((cleanV v).nn)))) ai,iv 0])=Ending.returned (.tuple #[sv ay ((textV v).1) ai,iv ((textV v).2)]); (first|rfl|(simp only [textV,ac,aa,ab,ad,ae,bsm] <;> rfl)|(exfalso; omega))),(by rw [ae]; exact cu.row),cr⟩
 have bR:=oF ad
 have cw:=hB bQ ad
 refine wf cw<| wk fun fG cx=>?_
 refine wA tr2 [] 40 [ve (.bool (decide (((cleanV v).k)=4))),ve (.bool (decide (((cleanV v).k)=4)))] am ?_ ?_
 exact .H bP (r_eql rfl)<| .B 0 .nil
 refine aftI am bm aM fun fH aP an bp aQ aR aS=>?_
 have⟨bS,dQ⟩:=aS.f2 bO bP
 have bT:=aS.g 1 29
 have⟨bq,br,cy⟩:=nw3 aR bn cm cn
 refine cx _ _ ?_
 rcases bc (decide (((cleanV v).k)=4)) with af|af
 have bU:=oT af
 have cz:=hB bT af
 refine wt cz<| wk fun fI cA=>?_
 refine wp_g0 [true,true,true,true,true,true] [] 40
  [ve (.pointer (some ⟨aB,3,none⟩)),ve (.agg #[.bool ((cleanV v).neg),sv aW ((cleanV v).mag) ap]),ve (.string (strOfNums (textI (goodI ((cleanV v).neg) ((cleanV v).mag))))),
  (OP aP.heap.size 79 .u16 (asc (strOfNums (textI (goodI ((cleanV v).neg) ((cleanV v).mag)))))),
  (OP aP.heap.size 79 .u16 (asc (strOfNums (textI (goodI ((cleanV v).neg) ((cleanV v).mag)))))),ve (iv 0)] an (.eq (.eq (.eq (.cons (fun _ _ _ n ⟨_,_,e,h⟩=>⟨_,_,e,h.new_ n⟩) (.cons (fun _ _ _ n ⟨_,_,e,h⟩=>⟨_,_,e,h.new_ n⟩) (.eq .nil)))))) ?_ ?_
 refine .F bS<| .K6 0 bq<| .C 1 (fun m=>wtext_c ((cleanV v).neg) _ ((cleanV v).mag) _ _ (br.new_ m) hvv.clean.limbs) ?_
 refine .o1 (tkC rfl (noG rfl) rfl fun _ w hn k=>(by
  refine ⟨#[.string (strOfNums (textI (goodI ((cleanV v).neg) ((cleanV v).mag))))],_,args1 (k.eq1 2 33 rfl),fun w=>by kernel_rfl,rascii_c (strOfNums (textI (goodI ((cleanV v).neg) ((cleanV v).mag)))) _ (by first|omega|(show (_:Nat)≤_; decide)),?_⟩
  rintro e w' ⟨eY,eZ,rfl,hmo0,hm⟩
  exact⟨_,rfl,hm,⟨eY,eZ,rfl,(hmo0.more hn.size)⟩⟩)) ?_
 refine .o1 (tk rfl rfl fun _ w hn k=>(by
  obtain⟨e0,e1,e2,dR⟩:=k.G 3 34
  exact⟨_,v_assign rfl e2,⟨e0,e1,rfl,dR⟩⟩)) ?_
 exact .c .nil
 refine aftI an bp aQ fun dS fJ fh cB cC fi bs=>?_
 obtain⟨az,aj,bd,cD⟩:=bs.G 4 2
 have bd:dS.eval (.tmp 2)=sv az (asc (strOfNums (textI (goodI ((cleanV v).neg) ((cleanV v).mag))))) aj:=bd
 have dT:=bs.g 5 3
 have cE:=cD.more aQ.size
 refine cA _ _<| wp_ret (ret_k cB (v:=.tuple #[sv az (asc (strOfNums (textI (goodI ((cleanV v).neg) ((cleanV v).mag))))) aj,iv 0]) (res_tt rfl bd dT _) ?_)
 have ae:(textV v).1=(asc (strOfNums (textI (goodI ((cleanV v).neg) ((cleanV v).mag))))):=by first|rfl|(simp only [textV,ac,aa,ab,ad,af,bsm] <;> rfl)|(exfalso; omega)
 exact⟨az,aj,(by show Ending.returned (.tuple #[sv az (asc (strOfNums (textI (goodI ((cleanV v).neg) ((cleanV v).mag))))) aj,iv 0])=Ending.returned (.tuple #[sv az ((textV v).1) aj,iv ((textV v).2)]); (first|rfl|(simp only [textV,ac,aa,ab,ad,af,ae,bsm] <;> rfl)|(exfalso; omega))),(by rw [ae]; exact cE.row),cC⟩
 have bU:=oF af
 have cF:=hB bT af
 refine wf cF<| wk fun fK cG=>?_
 refine wA tr2 [] 40 [ve (.bool (decide (((cleanV v).k)=5))),ve (.bool (decide (((cleanV v).k)=5)))] an ?_ ?_
 exact .H dQ (r_eql rfl)<| .B 0 .nil
 refine aftI an bp aQ fun fL aT ao bt aU aV bu=>?_
 have dU:=bu.f1 bS
 have bV:=bu.g 1 35
 have⟨cH,fj,cI⟩:=nw3 aV bq br cy
 refine cG _ _ ?_
 rcases bc (decide (((cleanV v).k)=5)) with ag|ag
 have bW:=oT ag
 have cJ:=hB bV ag
 refine wt cJ<| wk fun fM cK=>?_
 refine wp_g0 [true,true,true,true,true] [] 40
  [ve (.pointer (some ⟨aB,5,none⟩)),ve (sv aX ((cleanV v).s) aq),
  (OP aT.heap.size 79 .u16 ((cleanV v).s)),
  (OP aT.heap.size 79 .u16 ((cleanV v).s)),ve (iv 0)] ao (.eq (.eq (.cons (fun _ _ _ n ⟨_,_,e,h⟩=>⟨_,_,e,h.new_ n⟩) (.cons (fun _ _ _ n ⟨_,_,e,h⟩=>⟨_,_,e,h.new_ n⟩) (.eq .nil))))) ?_ ?_
 refine .F dU<| .J 0 isAgg27 cH ?_
 refine .o1 (tkC rfl (noG rfl) rfl fun _ w hn k=>(by
  refine ⟨#[sv aX ((cleanV v).s) aq],_,args1 (k.eq1 1 38 rfl),fun w=>by kernel_rfl,cunits_c _ ((cleanV v).s) _ _ (cI.new_ hn) (by first|omega|(simp only [List.length_nil,List.length_take,List.length_drop]; omega)|(simp only [List.length_cons,List.length_nil]; omega)),?_⟩
  rintro e w' ⟨ar,e7,rfl,hmo0,hm⟩
  exact⟨_,rfl,hm,⟨ar,e7,rfl,(hmo0.more hn.size)⟩⟩)) ?_
 refine .o1 (tk rfl rfl fun _ w hn k=>(by
  obtain⟨e8,e9,fa,dV⟩:=k.G 2 39
  exact⟨_,v_assign rfl fa,⟨e8,e9,rfl,dV⟩⟩)) ?_
 exact .c .nil
 refine aftI ao bt aU fun dW fN fk cL cM fl bv=>?_
 obtain⟨aA,ak,be,cN⟩:=bv.G 3 2
 have be:dW.eval (.tmp 2)=sv aA ((cleanV v).s) ak:=be
 have dX:=bv.g 4 3
 have cO:=cN.more aU.size
 refine cK _ _<| wp_ret (ret_k cL (v:=.tuple #[sv aA ((cleanV v).s) ak,iv 0]) (res_tt rfl be dX _) ?_)
 have ae:(textV v).1=((cleanV v).s):=by first|rfl|(simp only [textV,ac,aa,ab,ad,af,ag,bsm] <;> rfl)|(exfalso; omega)
 exact⟨aA,ak,(by show Ending.returned (.tuple #[sv aA ((cleanV v).s) ak,iv 0])=Ending.returned (.tuple #[sv aA ((textV v).1) ak,iv ((textV v).2)]); (first|rfl|(simp only [textV,ac,aa,ab,ad,af,ag,ae,bsm] <;> rfl)|(exfalso; omega))),(by rw [ae]; exact cO.row),cM⟩
 have bW:=oF ag
 have cP:=hB bV ag
 refine wf cP<| ws<| di _ _<| wk fun fO cQ=>?_
 refine wA tr2 [] 40 [ve (sv none ([]) 0),ve (iv 3)] ao ?_ ?_
 exact .c<| .c .nil
 refine aftI ao bt aU fun fP fQ fm cR cS fn bw=>?_
 have dY:=bw.g 0 2
 have dZ:=bw.g 1 3
 refine cQ _ _<| wp_ret (ret_k cR (v:=.tuple #[sv none ([]) 0,iv 3]) (res_tt rfl dY dZ _) ?_)
 have ae:(textV v).1=[]:=by first|rfl|(simp only [textV,ac,aa,ab,ad,af,ag,bsm] <;> rfl)|(exfalso; omega)
 exact⟨none,0,(by show Ending.returned (.tuple #[sv none ([]) 0,iv 3])=Ending.returned (.tuple #[sv none ((textV v).1) 0,iv ((textV v).2)]); (first|rfl|(simp only [textV,ac,aa,ab,ad,af,ag,ae,bsm] <;> rfl)|(exfalso; omega))),(by rw [ae]; exact (SRow.nil _ _)),cS⟩
theorem qindex_c (v:Vl) (Av:Option Addr) (cv:Nat) (Bv:Option Addr) (dv:Nat) (w:World) (hmv:SRow w .u32 Av v.mag cv) (hsv:SRow w .u16 Bv v.s dv) (hvv:VOk v):Calls prog 20 #[vv v Av cv Bv dv] w (IsRet (.tuple #[iv ((indexV v).1),iv ((indexV v).2)]) w):=by
 refine enter_abs func20 rfl fun a0 aw cj hp=>?_
 have aw:a0.tmps.size=30:=aw
 have bt:New w w:=Upd.refl _ _
 have hp0:a0.eval (.tmp 0)=vv v Av cv Bv dv:=hp 0 _ rfl
 refine wk fun K1 cl=>?_
 refine wB tr3 [] [] 30 [IsNew w 32 (c7 v Av cv Bv dv),ve (iv 0),ve (iv 0)] [0] aw ?_ heN ?_
 exact .X hp0<| .c<| .c .nil
 refine aftI aw cj bt fun a2 w3 bu cm ah dh cn=>?_
 obtain⟨q9,h8,bC,bD⟩:=cn.G 0 1
 have cG:=Nat.le_trans bt.size bC
 refine cl _ _ <| wk fun di bE=>?_
 refine wp_g [true,true,true,false] [] [(3,false)] 30
  [ve (vv v Av cv Bv dv),
  (VP (cleanV v)),IsNew w3 32 z7,vt]
  [2] (newsCons (fun v w h=>IsNew.old h) newsNil) bu (.eq (.cons (fun _ _ _ n ⟨_,_,_,_,e,h,i⟩=>⟨_,_,_,_,e,h.new_ n,i.new_ n⟩) (.nw (.tt .nil)))) ?_ (fun i h=>by cases h) ?_
 refine .L8 h8 bD ?_
 refine .o1 (tkC rfl (noG rfl) rfl fun _ w hn k=>(by
  refine ⟨#[vv v Av cv Bv dv],_,args1 (k.eq1 0 9 rfl),fun w=>by kernel_rfl,qgood_c v _ _ _ _ _ (hmv.new_ (ah.transNew hn)) (hsv.new_ (ah.transNew hn)),?_⟩
  rintro e w' ⟨A1,c2,A3,c4,rfl,hmo0,hmo1,hm⟩
  exact⟨_,rfl,hm,⟨A1,c2,A3,c4,rfl,hmo0,hmo1⟩⟩)) ?_
 exact .Y<| .off .nil
 refine aftI bu cm ah fun co dj aI bF bG cH aJ=>?_
 obtain⟨an,af,ao,ag,aK,bH,bI⟩:=aJ.G 1 10
 have aK:co.eval (.tmp 10)=vv (cleanV v) an af ao ag:=aK
 obtain⟨bv,aL,bJ,ap⟩:=aJ.G 2 4
 have cI:=Nat.le_trans ah.size bJ
 refine sS8 aL aK ap fun cp aM aq cJ=>?_
 have bL:=bH.fr ap aq
 have bM:=bI.fr ap aq
 have bN:=bG.tR aq
 refine bE _ _ <| wk fun dl bO=>?_
 refine wk fun dm bP=>?_
 refine wA tr3 [] 30 [ve (pv bv),ve (iv ((cleanV v).k)),ve (.bool (decide (((cleanV v).k)=0)))] aI ?_ ?_
 exact .F aL<| .J 0 isAgg3 aM<| .b 1 (r_eql rfl) .nil
 refine aftI aI bF bN fun dn cq ai aN ar au aO=>?_
 have cr:=aO.f1 aL
 have bw:=aO.g 2 13
 have⟨bQ,bR,bS⟩:=nw3 au aM bL bM
 refine bP _ _ ?_
 rcases bc (decide (((cleanV v).k)=0)) with ab|ab
 have a1:=oT ab
 have bT:=hB bw ab
 refine wt bT<| wk fun dp bU=>?_
 refine wA tr2 [] 30 [ve (iv 0),ve (iv 0)] ai ?_ ?_
 exact .c<| .c .nil
 refine aftI ai aN ar fun dq dr cK bV bW cL aP=>?_
 have ct:=aP.g 0 2
 have cu:=aP.g 1 3
 refine bU _ _<| wp_ret (ret_k bV (v:=.tuple #[iv 0,iv 0]) (res_tt rfl ct cu _) ?_)
 refine ⟨?_,bW⟩
 show Ending.returned (.tuple #[iv 0,iv 0])=Ending.returned (.tuple #[iv ((indexV v).1),iv ((indexV v).2)])
 first|rfl|(simp only [indexV,clean_clean,ab,bsm] <;> rfl)|(exfalso; omega)
 have a1:=oF ab
 have bX:=hB bw ab
 refine wf bX<| ws<| bO _ _<| wk fun ds bY=>?_
 refine wB [true,true,true,true,true,true,false,false] [4] [(6,false),(7,true)] 30 [ve (vv (cleanV v) an af ao ag),ve (.tuple #[nv ((numberV (cleanV v)).1),iv ((numberV (cleanV v)).2)]),ve (.tuple #[nv ((numberV (cleanV v)).1),iv ((numberV (cleanV v)).2)]),ve (nv ((numberV (cleanV v)).1)),ve (iv ((numberV (cleanV v)).2)),IsNew cq 23 [iv 0,iv 0],vt,vt] [5] ai ?_ ?_ ?_
 refine .L8 cr bQ<| .C 0 (fun p=>qnumber_c (cleanV v) _ _ _ _ _ (bR.new_ p) (bS.new_ p) hvv.clean)<| .N 1<| .E 2 ?_
 refine .o3 ?_
 exact .Y<| .off<| .off .nil
 refine eg1 ?_
 exact eager_take rfl rfl fun _ w hn k=>⟨iv ((numberV (cleanV v)).2),fun w=>v_extract rfl (k.eq1 2 14 rfl) rfl,rfl⟩
 refine aftI ai aN ar fun bx dt aQ bZ b0 cM av=>?_
 have bz:=av.g 3 17
 have bA:=av.g 4 18
 obtain⟨du,bB,b1,b2⟩:=av.G 5 5
 have cN:=Nat.le_trans ar.size b1
 refine sS2 bB bz b2 fun dw aR b3 cO=>?_
 have aS:=b0.tR b3
 refine sP bA aQ bZ fun cw aj aT ac ak=>?_
 have⟨dy,dz,aU⟩:=ac.q3 bz bA bB
 refine bY _ _ <| wk fun cP a4=>?_
 refine wk fun cQ ax=>?_
 rcases bc (decide (((numberV (cleanV v)).2)=0)) with aa|aa
 have aV:=oT aa
 refine wA tr2 [] 30 [ve (iv ((numberV (cleanV v)).2)),vF] aj ?_ ?_
 exact .M ak<| .b 0 (r_neq aa) .nil
 refine aftI aj aT aS fun cR cS ay a5 a6 a7 al=>?_
 have⟨b5,cT⟩:=al.f2 aU ak
 have b6:=al.g 1 20
 have a8:=aR.new_ a7
 refine ax _ _<| wf b6<| ws ?_
 refine a4 _ _<| wk fun cU a9=>?_
 refine wA tr7 [] 30 [ve (nv ((numberV (cleanV v)).1)),ve (.tuple #[iv ((indexM ((numberV (cleanV v)).1)).1),.bool ((indexM ((numberV (cleanV v)).1)).2)]),ve (.tuple #[iv ((indexM ((numberV (cleanV v)).1)).1),.bool ((indexM ((numberV (cleanV v)).1)).2)]),ve (iv ((indexM ((numberV (cleanV v)).1)).1)),ve (.bool ((indexM ((numberV (cleanV v)).1)).2)),ve (iv ((indexM ((numberV (cleanV v)).1)).1)),ve (.bool ((indexM ((numberV (cleanV v)).1)).2))] ay ?_ ?_
 exact .L2 b5 a8<| .C 0 (fun p=>rindex_c ((numberV (cleanV v)).1) _)<| .N 1<| .E 2<| .E 2<| .B 3<| .B 4 .nil
 refine aftI ay a5 a6 fun cV cW az ba bb cx aA=>?_
 have b7:=aA.g 5 7
 have b8:=aA.g 6 8
 refine a9 _ _ <| wk fun cX bd=>?_
 refine wk fun cY be=>?_
 refine wA tr2 [] 30 [ve (.bool ((indexM ((numberV (cleanV v)).1)).2)),ve (.bool (!((indexM ((numberV (cleanV v)).1)).2)))] az ?_ ?_
 exact .M b8<| .T (fun k=>v_not rfl (k.eq1 0 27 rfl)) .nil
 refine aftI az ba bb fun aW cZ ae aB aC cy aD=>?_
 have b9:=aD.f1 b7
 have aX:=aD.g 1 28
 refine be _ _ ?_
 rcases bc ((indexM ((numberV (cleanV v)).1)).2) with ad|ad
 have bf:aW.eval (.tmp 28)=.bool false:=aX.trans (congrArg Value.bool (by rw [ad]; rfl))
 refine wf bf<| ws<| bd _ _<| wk fun c0 bg=>?_
 refine wA tr3 [] 30 [ve (iv ((indexM ((numberV (cleanV v)).1)).1)),ve (iv ((indexM ((numberV (cleanV v)).1)).1)),ve (iv 0)] ae ?_ ?_
 exact .M b9<| .B 0<| .c .nil
 refine aftI ae aB aC fun c1 c3 cz bh bi cA aE=>?_
 have ca:=aE.g 1 2
 have cb:=aE.g 2 3
 refine bg _ _<| wp_ret (ret_k bh (v:=.tuple #[iv ((indexM ((numberV (cleanV v)).1)).1),iv 0]) (res_tt rfl ca cb _) ?_)
 refine ⟨?_,bi⟩
 show Ending.returned (.tuple #[iv ((indexM ((numberV (cleanV v)).1)).1),iv 0])=Ending.returned (.tuple #[iv ((indexV v).1),iv ((indexV v).2)])
 first|rfl|(simp only [indexV,clean_clean,ab,aa,ad,bsm] <;> rfl)|(exfalso; omega)
 have bj:aW.eval (.tmp 28)=.bool true:=aX.trans (congrArg Value.bool (by rw [ad]; rfl))
 refine wt bj<| wk fun c5 bk=>?_
 refine wA tr2 [] 30 [ve (iv 0),ve (iv 2)] ae ?_ ?_
 exact .c<| .c .nil
 refine aftI ae aB aC fun c9 da cB bl bm cC aF=>?_
 have cc:=aF.g 0 2
 have cd:=aF.g 1 3
 refine bk _ _<| wp_ret (ret_k bl (v:=.tuple #[iv 0,iv 2]) (res_tt rfl cc cd _) ?_)
 refine ⟨?_,bm⟩
 show Ending.returned (.tuple #[iv 0,iv 2])=Ending.returned (.tuple #[iv ((indexV v).1),iv ((indexV v).2)])
 first|rfl|(simp only [indexV,clean_clean,ab,aa,ad,bsm] <;> rfl)|(exfalso; omega)
 have aV:=oF aa
 refine wA tr2 [] 30 [ve (iv ((numberV (cleanV v)).2)),vT] aj ?_ ?_
 exact .M ak<| .b 0 (r_neq aa) .nil
 refine aftI aj aT aS fun db dc aG bn bo bp am=>?_
 have⟨dd,ce⟩:=am.f2 aU ak
 have cf:=am.g 1 20
 have cD:=aR.new_ bp
 refine ax _ _<| wt cf<| wk fun de bq=>?_
 refine wA tr3 [] 30 [ve (iv ((numberV (cleanV v)).2)),ve (iv 0),ve (iv ((numberV (cleanV v)).2))] aG ?_ ?_
 exact .M ce<| .c<| .B 0 .nil
 refine aftI aG bn bo fun df dg cE br bs cF aH=>?_
 have ch:=aH.g 1 2
 have ci:=aH.g 2 3
 refine bq _ _<| wp_ret (ret_k br (v:=.tuple #[iv 0,iv ((numberV (cleanV v)).2)]) (res_tt rfl ch ci _) ?_)
 refine ⟨?_,bs⟩
 show Ending.returned (.tuple #[iv 0,iv ((numberV (cleanV v)).2)])=Ending.returned (.tuple #[iv ((indexV v).1),iv ((indexV v).2)])
 first|rfl|(simp only [indexV,clean_clean,ab,aa,bsm] <;> rfl)|(exfalso; omega)
theorem VOk.str (s:ByteArray) (h:s.size≤20000):VOk ⟨5,0,0,false,[],asc s,0⟩:=⟨Limbs.nil,U16s.asc s,Nat.zero_le _,by rw [asc_len]; exact h,(show (-9223372036854775808:Int)≤0 by decide),(show (0:Int)≤9223372036854775807 by decide),(show (-9223372036854775808:Int)≤0 by decide),(show (0:Int)≤9223372036854775807 by decide)⟩
theorem VOk.whole {n:Int} (h1:-9223372036854775808≤n) (h2:n≤9223372036854775807):VOk ⟨3,0,n,false,[],[],0⟩:=⟨Limbs.nil,U16s.nil,Nat.zero_le _,Nat.zero_le _,h1,h2,(show (-9223372036854775808:Int)≤0 by decide),(show (0:Int)≤9223372036854775807 by decide)⟩
theorem VOk.big {x:Nat} (h:x < 4294967296):VOk ⟨4,0,0,false,[x],[],0⟩:=⟨Limbs.cons h Limbs.nil,U16s.nil,(show (1:Nat)≤40 by decide),Nat.zero_le _,(show (-9223372036854775808:Int)≤0 by decide),(show (0:Int)≤9223372036854775807 by decide),(show (-9223372036854775808:Int)≤0 by decide),(show (0:Int)≤9223372036854775807 by decide)⟩
theorem VOk.null:VOk ⟨1,0,0,false,[],[],0⟩:=⟨Limbs.nil,U16s.nil,by decide,by decide,by decide,by decide,by decide,by decide⟩
theorem VOk.truth (t:Bool):VOk (truthV t):=by cases t <;> exact⟨Limbs.nil,U16s.nil,by decide,by decide,by decide,by decide,by decide,by decide⟩
theorem sameV_self (v:Vl):sameV v v=true:=by simp [sameV]
theorem few_ok {v:Vl} (h:(decide ((v.s.length:Int)≤20000) && decide ((v.mag.length:Int)≤40))=true) (hl:Limbs v.mag) (hu:U16s v.s) (h1:-9223372036854775808≤v.nn) (h2:v.nn≤9223372036854775807) (h3:-9223372036854775808≤v.ref) (h4:v.ref≤9223372036854775807):VOk v:=by
  simp only [Bool.and_eq_true,decide_eq_true_eq] at h
  exact⟨hl,hu,by omega,by omega,h1,h2,h3,h4⟩
set_option maxRecDepth 100000 in
theorem first_n1 (A0:Option Addr) (c0:Nat) (B0:Option Addr) (d0:Nat) (w:World) (hm0:SRow w .u32 A0 [] c0) (hs0:SRow w .u16 B0 (asc ⟨#[49,50]⟩) d0):Calls Tryz.prog 8 #[vv (Vl.mk 5 0 0 false [] (asc ⟨#[49,50]⟩) 0) A0 c0 B0 d0] w (IsRet (.tuple #[nv (Nm.mk 0 12),iv 0]) w):=by
  have h:=cnumber_c (Vl.mk 5 0 0 false [] (asc ⟨#[49,50]⟩) 0) A0 c0 B0 d0 w hm0 hs0 (VOk.str ⟨#[49,50]⟩ (by first|omega|decide))
  rw [show numberV (Vl.mk 5 0 0 false [] (asc ⟨#[49,50]⟩) 0)=(⟨0,12⟩,0) from by decide +kernel] at h
  exact h
set_option maxRecDepth 100000 in
theorem first_n2 (A0:Option Addr) (c0:Nat) (B0:Option Addr) (d0:Nat) (w:World) (hm0:SRow w .u32 A0 [] c0) (hs0:SRow w .u16 B0 (asc ⟨#[49,46,53]⟩) d0):Calls Tryz.prog 8 #[vv (Vl.mk 5 0 0 false [] (asc ⟨#[49,46,53]⟩) 0) A0 c0 B0 d0] w (IsRet (.tuple #[nv (Nm.mk 0 0),iv 3]) w):=by
  have h:=cnumber_c (Vl.mk 5 0 0 false [] (asc ⟨#[49,46,53]⟩) 0) A0 c0 B0 d0 w hm0 hs0 (VOk.str ⟨#[49,46,53]⟩ (by first|omega|decide))
  rw [show numberV (Vl.mk 5 0 0 false [] (asc ⟨#[49,46,53]⟩) 0)=(⟨0,0⟩,3) from by decide +kernel] at h
  exact h
set_option maxRecDepth 100000 in
theorem first_n3 (A0:Option Addr) (c0:Nat) (B0:Option Addr) (d0:Nat) (w:World) (hm0:SRow w .u32 A0 [5] c0) (hs0:SRow w .u16 B0 [] d0):Calls Tryz.prog 8 #[vv (Vl.mk 4 0 0 false [5] [] 0) A0 c0 B0 d0] w (IsRet (.tuple #[nv (Nm.mk 0 0),iv 1]) w):=by
  have h:=cnumber_c (Vl.mk 4 0 0 false [5] [] 0) A0 c0 B0 d0 w hm0 hs0 (VOk.big (by omega))
  rw [show numberV (Vl.mk 4 0 0 false [5] [] 0)=(⟨0,0⟩,1) from by decide +kernel] at h
  exact h
set_option maxRecDepth 100000 in
theorem first_l2 (A0:Option Addr) (c0:Nat) (B0:Option Addr) (d0:Nat) (A1:Option Addr) (c1:Nat) (B1:Option Addr) (d1:Nat) (w:World) (hm0:SRow w .u32 A0 [2] c0) (hs0:SRow w .u16 B0 [] d0) (hm1:SRow w .u32 A1 [] c1) (hs1:SRow w .u16 B1 [] d1):Calls Tryz.prog 27 #[vv (Vl.mk 4 0 0 false [2] [] 0) A0 c0 B0 d0,vv (Vl.mk 3 0 2 false [] [] 0) A1 c1 B1 d1] w (IsRet (.tuple #[.bool true,iv 0]) w):=by
  have h:=cloose_c (Vl.mk 4 0 0 false [2] [] 0) A0 c0 B0 d0 (Vl.mk 3 0 2 false [] [] 0) A1 c1 B1 d1 w hm0 hs0 hm1 hs1 (VOk.big (by omega)) (VOk.whole (by omega) (by omega))
  rw [show looseV (Vl.mk 4 0 0 false [2] [] 0) (Vl.mk 3 0 2 false [] [] 0)=(true,0) from by decide +kernel] at h
  exact h
set_option maxRecDepth 100000 in
theorem first_l3 (A0:Option Addr) (c0:Nat) (B0:Option Addr) (d0:Nat) (A1:Option Addr) (c1:Nat) (B1:Option Addr) (d1:Nat) (w:World) (hm0:SRow w .u32 A0 [] c0) (hs0:SRow w .u16 B0 [] d0) (hm1:SRow w .u32 A1 [] c1) (hs1:SRow w .u16 B1 [] d1):Calls Tryz.prog 27 #[vv (Vl.mk 1 0 0 false [] [] 0) A0 c0 B0 d0,vv (Vl.mk 3 0 0 false [] [] 0) A1 c1 B1 d1] w (IsRet (.tuple #[.bool false,iv 0]) w):=by
  have h:=cloose_c (Vl.mk 1 0 0 false [] [] 0) A0 c0 B0 d0 (Vl.mk 3 0 0 false [] [] 0) A1 c1 B1 d1 w hm0 hs0 hm1 hs1 VOk.null (VOk.whole (by omega) (by omega))
  rw [show looseV (Vl.mk 1 0 0 false [] [] 0) (Vl.mk 3 0 0 false [] [] 0)=(false,0) from by decide +kernel] at h
  exact h
set_option maxRecDepth 100000 in
theorem first_l1 (A0:Option Addr) (c0:Nat) (B0:Option Addr) (d0:Nat) (A1:Option Addr) (c1:Nat) (B1:Option Addr) (d1:Nat) (w:World) (hm0:SRow w .u32 A0 [] c0) (hs0:SRow w .u16 B0 (asc ⟨#[49]⟩) d0) (hm1:SRow w .u32 A1 (truthV true).mag c1) (hs1:SRow w .u16 B1 (truthV true).s d1):Calls Tryz.prog 27 #[vv (Vl.mk 5 0 0 false [] (asc ⟨#[49]⟩) 0) A0 c0 B0 d0,vv (truthV true) A1 c1 B1 d1] w (IsRet (.tuple #[.bool true,iv 0]) w):=by
  have h:=cloose_c (Vl.mk 5 0 0 false [] (asc ⟨#[49]⟩) 0) A0 c0 B0 d0 (truthV true) A1 c1 B1 d1 w hm0 hs0 hm1 hs1 (VOk.str ⟨#[49]⟩ (by first|omega|decide)) (VOk.truth _)
  rw [show looseV (Vl.mk 5 0 0 false [] (asc ⟨#[49]⟩) 0) (truthV true)=(true,0) from by decide +kernel] at h
  exact h
set_option maxRecDepth 100000 in
theorem first_i1 (A0:Option Addr) (c0:Nat) (B0:Option Addr) (d0:Nat) (w:World) (hm0:SRow w .u32 A0 [] c0) (hs0:SRow w .u16 B0 [] d0):Calls Tryz.prog 19 #[vv (Vl.mk 3 0 (-1) false [] [] 0) A0 c0 B0 d0] w (IsRet (.tuple #[iv 0,iv 2]) w):=by
  have h:=cindex_c (Vl.mk 3 0 (-1) false [] [] 0) A0 c0 B0 d0 w hm0 hs0 (VOk.whole (by omega) (by omega))
  rw [show indexV (Vl.mk 3 0 (-1) false [] [] 0)=(0,2) from by decide +kernel] at h
  exact h
theorem first_c  (w:World):Calls prog 4 #[] w (IsRet (.bool true) w):=by
 refine enter_abs func4 rfl fun a0 au cM hp=>?_
 have au:a0.tmps.size=94:=au
 have cN:New w w:=Upd.refl _ _
 refine wk fun K1 cO=>?_
 refine wA tr1 [] 94 [vF] au ?_ ?_
 exact .c .nil
 refine aftI au cM cN fun a2 w3 bm cP bn eb ec=>?_
 refine cO _ _ <| wk fun K9 cQ=>?_
 refine wp_g [true,true,true,true,true,true,false,false] [4] [(6,false),(7,true)] 94
  [(fun (v_:Value) (W:World)=>∃ (A3:Option Addr) (c4:Nat),v_=vv (Vl.mk 5 0 0 false [] (asc ⟨#[49,50]⟩) 0) none 0 A3 c4∧SRow W .u16 A3 (asc ⟨#[49,50]⟩) c4),ve (.tuple #[nv (Nm.mk 0 12),iv 0]),ve (.tuple #[nv (Nm.mk 0 12),iv 0]),ve (nv (Nm.mk 0 12)),ve (iv 0),IsNew w3 23 [iv 0,iv 0],vt,vt]
  [5] (newsCons (fun v w h=>IsNew.old h) newsNil) bm (.cons (fun _ _ _ n ⟨_,_,e,h⟩=>⟨_,_,e,h.new_ n⟩) (.eq (.eq (.eq (.eq (.nw (.tt (.tt .nil)))))))) ?_ ?_ ?_
 refine .o1 (tkC rfl (noG rfl) rfl fun _ w hn k=>(by
  refine ⟨#[.string ⟨#[49,50]⟩],_,args1 rfl,fun w=>by kernel_rfl,lstr_c ⟨#[49,50]⟩ _ (by first|omega|(show (_:Nat)≤_; decide)),?_⟩
  rintro e w' ⟨A1,c2,rfl,hmo0,hm⟩
  exact⟨_,rfl,hm,⟨A1,c2,rfl,hmo0⟩⟩)) ?_
 refine .o1 (tkC rfl (noG rfl) rfl fun _ w hn k=>(by
  obtain⟨A5,c6,e7,cR⟩:=k.G 0 16
  refine ⟨#[vv (Vl.mk 5 0 0 false [] (asc ⟨#[49,50]⟩) 0) none 0 A5 c6],_,args1 e7,fun w=>by kernel_rfl,first_n1 _ _ _ _ _ (SRow.nil _ _) cR,?_⟩
  rintro e w' ⟨rfl,hm⟩
  exact⟨_,rfl,hm,rfl⟩)) ?_
 refine .N 1<| .E 2 ?_
 refine .o3 ?_
 exact .Y<| .off<| .off .nil
 refine eg1 ?_
 exact eager_take rfl rfl fun _ w hn k=>⟨iv 0,fun w=>v_extract rfl (k.eq1 2 15 rfl) rfl,rfl⟩
 refine aftI bm cP bn fun bo ed aA bB bC dM ar=>?_
 have bp:=ar.g 3 18
 have bq:=ar.g 4 19
 obtain⟨aB,br,bD,bE⟩:=ar.G 5 1
 have dN:=Nat.le_trans bn.size bD
 refine sS2 br bp bE fun cS aC bF dO=>?_
 have aD:=bC.tR bF
 refine sP bq aA bB fun cT aE bH ag cV=>?_
 have⟨ef,eg,cU⟩:=ag.q3 bp bq br
 refine cQ _ _ <| wk fun eh bI=>?_
 refine wp_g [true,true,true,true,true,true,false,false] [4] [(6,false),(7,true)] 94
  [(fun (v_:Value) (W:World)=>∃ (ai:Option Addr) (aj:Nat),v_=vv (Vl.mk 5 0 0 false [] (asc ⟨#[49,46,53]⟩) 0) none 0 ai aj∧SRow W .u16 ai (asc ⟨#[49,46,53]⟩) aj),ve (.tuple #[nv (Nm.mk 0 0),iv 3]),ve (.tuple #[nv (Nm.mk 0 0),iv 3]),ve (nv (Nm.mk 0 0)),ve (iv 3),IsNew cS 23 [iv 0,iv 0],vt,vt]
  [5] (newsCons (fun v w h=>IsNew.old h) newsNil) aE (.cons (fun _ _ _ n ⟨_,_,e,h⟩=>⟨_,_,e,h.new_ n⟩) (.eq (.eq (.eq (.eq (.nw (.tt (.tt .nil)))))))) ?_ ?_ ?_
 refine .o1 (tkC rfl (noG rfl) rfl fun _ w hn k=>(by
  refine ⟨#[.string ⟨#[49,46,53]⟩],_,args1 rfl,fun w=>by kernel_rfl,lstr_c ⟨#[49,46,53]⟩ _ (by first|omega|(show (_:Nat)≤_; decide)),?_⟩
  rintro e w' ⟨A9,cW,rfl,hmo0,hm⟩
  exact⟨_,rfl,hm,⟨A9,cW,rfl,hmo0⟩⟩)) ?_
 refine .o1 (tkC rfl (noG rfl) rfl fun _ w hn k=>(by
  obtain⟨cX,cY,cZ,bJ⟩:=k.G 0 21
  refine ⟨#[vv (Vl.mk 5 0 0 false [] (asc ⟨#[49,46,53]⟩) 0) none 0 cX cY],_,args1 cZ,fun w=>by kernel_rfl,first_n2 _ _ _ _ _ (SRow.nil _ _) bJ,?_⟩
  rintro e w' ⟨rfl,hm⟩
  exact⟨_,rfl,hm,rfl⟩)) ?_
 refine .N 1<| .E 2 ?_
 refine .o3 ?_
 exact .Y<| .off<| .off .nil
 refine eg1 ?_
 exact eager_take rfl rfl fun _ w hn k=>⟨iv 3,fun w=>v_extract rfl (k.eq1 2 20 rfl) rfl,rfl⟩
 refine aftI aE bH aD fun bs ei aF bK bL bM ak=>?_
 have⟨c0,c1⟩:=ak.f2 cU cV
 have bt:=ak.g 3 23
 have bu:=ak.g 4 24
 obtain⟨c3,bv,aG,bN⟩:=ak.G 5 3
 have bO:=aC.new_ bM
 have hne56:aB ≠ c3:=by have h1:=aC.lt; have h2:=aG; omega
 have dP:=Nat.le_trans aD.size aG
 refine sS2 bv bt bN fun c5 dQ bP bQ=>?_
 have aH:=bQ hne56 bO
 have aI:=bL.tR bP
 refine sP bu aF bK fun c8 aJ bS ae db=>?_
 have⟨c9,da,ek⟩:=ae.q3 c0 c1 bt
 have⟨el,em⟩:=ae.q2 bu bv
 refine bI _ _ <| wk fun en bT=>?_
 refine wp_g [true,true,true,true,true,true,false,false] [4] [(6,false),(7,true)] 94
  [(fun (v_:Value) (W:World)=>∃ (al:Option Addr) (am:Nat),v_=vv (Vl.mk 4 0 0 false [5] [] 0) al am none 0∧SRow W .u32 al ([5]) am),ve (.tuple #[nv (Nm.mk 0 0),iv 1]),ve (.tuple #[nv (Nm.mk 0 0),iv 1]),ve (nv (Nm.mk 0 0)),ve (iv 1),IsNew c5 23 [iv 0,iv 0],vt,vt]
  [5] (newsCons (fun v w h=>IsNew.old h) newsNil) aJ (.cons (fun _ _ _ n ⟨_,_,e,h⟩=>⟨_,_,e,h.new_ n⟩) (.eq (.eq (.eq (.eq (.nw (.tt (.tt .nil)))))))) ?_ ?_ ?_
 refine .o1 (tkC rfl (noG rfl) rfl fun _ w hn k=>(by
  refine ⟨#[.int .u32 5],_,args1 rfl,fun w=>by kernel_rfl,lbig_c 5 _ (by omega),?_⟩
  rintro e w' ⟨dc,dd,rfl,hmo0,hm⟩
  exact⟨_,rfl,hm,⟨dc,dd,rfl,hmo0⟩⟩)) ?_
 refine .o1 (tkC rfl (noG rfl) rfl fun _ w hn k=>(by
  obtain⟨de,df,dg,bU⟩:=k.G 0 26
  refine ⟨#[vv (Vl.mk 4 0 0 false [5] [] 0) de df none 0],_,args1 dg,fun w=>by kernel_rfl,first_n3 _ _ _ _ _ bU (SRow.nil _ _),?_⟩
  rintro e w' ⟨rfl,hm⟩
  exact⟨_,rfl,hm,rfl⟩)) ?_
 refine .N 1<| .E 2 ?_
 refine .o3 ?_
 exact .Y<| .off<| .off .nil
 refine eg1 ?_
 exact eager_take rfl rfl fun _ w hn k=>⟨iv 1,fun w=>v_extract rfl (k.eq1 2 25 rfl) rfl,rfl⟩
 refine aftI aJ bS aI fun bw eo aK bV bW bX ah=>?_
 have⟨dh,di,dj⟩:=ah.f3 c9 da db
 have bx:=ah.g 3 28
 have bz:=ah.g 4 29
 obtain⟨dk,bA,aL,bY⟩:=ah.G 5 5
 have bZ:=aH.new_ bX
 have hne95:aB ≠ dk:=by have h1:=aH.lt; have h2:=aL; omega
 have dR:=Nat.le_trans aI.size aL
 refine sS2 bA bx bY fun ep dJ aP aQ=>?_
 have aS:=aQ hne95 bZ
 have aT:=bW.tR aP
 refine sP bz aK bV fun b0 av aU ab b4=>?_
 have⟨b1,b2,b3⟩:=ab.q3 dh di dj
 have⟨dT,dU,dV⟩:=ab.q3 bx bz bA
 refine bT _ _ <| wk fun dW aV=>?_
 refine wp_g0 (.replicate 8 true) [] 94
  [(fun (v_:Value) (W:World)=>∃ (an:Option Addr) (ao:Nat),v_=vv (Vl.mk 5 0 0 false [] (asc ⟨#[49]⟩) 0) none 0 an ao∧SRow W .u16 an (asc ⟨#[49]⟩) ao),
  (VP (truthV true)),ve (.tuple #[.bool true,iv 0]),ve (.tuple #[.bool true,iv 0]),vT,ve (iv 0),vT,ve (iv 0)] av (.cons (fun _ _ _ n ⟨_,_,e,h⟩=>⟨_,_,e,h.new_ n⟩) (.cons (fun _ _ _ n ⟨_,_,_,_,e,h,i⟩=>⟨_,_,_,_,e,h.new_ n,i.new_ n⟩) (.eq (.eq (.eq (.eq (.eq (.eq .nil)))))))) ?_ ?_
 refine .o1 (tkC rfl (noG rfl) rfl fun _ w hn k=>(by
  refine ⟨#[.string ⟨#[49]⟩],_,args1 rfl,fun w=>by kernel_rfl,lstr_c ⟨#[49]⟩ _ (by first|omega|(show (_:Nat)≤_; decide)),?_⟩
  rintro e w' ⟨dq,dr,rfl,hmo0,hm⟩
  exact⟨_,rfl,hm,⟨dq,dr,rfl,hmo0⟩⟩)) ?_
 refine .o1 (tkC rfl (noG rfl) rfl fun _ w hn k=>(by
  refine ⟨#[.bool true],_,args1 rfl,fun w=>by kernel_rfl,truth_c true _ ,?_⟩
  rintro e w' ⟨ds,dt,du,dv,rfl,hmo0,hmo1,hm⟩
  exact⟨_,rfl,hm,⟨ds,dt,du,dv,rfl,hmo0,hmo1⟩⟩)) ?_
 refine .o1 (tkC rfl (noG rfl) rfl fun _ w hn k=>(by
  obtain⟨dw,dx,dy,b5⟩:=k.G 0 31
  obtain⟨dz,dA,dB,dC,dD,b6,b7⟩:(VP (truthV true)) _ _:=k.dep 1 32 (by kernel_rfl) (by kernel_rfl)
  refine ⟨#[vv (Vl.mk 5 0 0 false [] (asc ⟨#[49]⟩) 0) none 0 dw dx,vv (truthV true) dz dA dB dC],_,args2 dy dD,fun w=>by kernel_rfl,first_l1 _ _ _ _ _ _ _ _ _ (SRow.nil _ _) b5 b6 b7,?_⟩
  rintro e w' ⟨rfl,hm⟩
  exact⟨_,rfl,hm,rfl⟩)) ?_
 exact .N 2<| .E 3<| .E 3<| .B 4<| .B 5 .nil
 refine aftI av aU aT fun dX dY aw aW aX aY af=>?_
 have⟨b8,b9,ca,cb⟩:=af.f4 b1 b2 b3 b4
 have cc:=af.g 6 7
 have cd:=af.g 7 8
 have aZ:=aS.new_ aY
 refine aV _ _ <| wk fun dZ a1=>?_
 refine wp_g0 (.replicate 8 true) [] 94
  [(fun (v_:Value) (W:World)=>∃ (ap:Option Addr) (aq:Nat),v_=vv (Vl.mk 4 0 0 false [2] [] 0) ap aq none 0∧SRow W .u32 ap ([2]) aq),ve (vv (Vl.mk 3 0 2 false [] [] 0) none 0 none 0),ve (.tuple #[.bool true,iv 0]),ve (.tuple #[.bool true,iv 0]),vT,ve (iv 0),vT,ve (iv 0)] aw (.cons (fun _ _ _ n ⟨_,_,e,h⟩=>⟨_,_,e,h.new_ n⟩) (.eq (.eq (.eq (.eq (.eq (.eq (.eq .nil)))))))) ?_ ?_
 refine .o1 (tkC rfl (noG rfl) rfl fun _ w hn k=>(by
  refine ⟨#[.int .u32 2],_,args1 rfl,fun w=>by kernel_rfl,lbig_c 2 _ (by omega),?_⟩
  rintro e w' ⟨dE,dF,rfl,hmo0,hm⟩
  exact⟨_,rfl,hm,⟨dE,dF,rfl,hmo0⟩⟩)) ?_
 refine .D (fun k=>args1 rfl) (fun p=>lwhole_c 2 _) ?_
 refine .o1 (tkC rfl (noG rfl) rfl fun _ w hn k=>(by
  obtain⟨dG,dH,dI,ce⟩:=k.G 0 37
  refine ⟨#[vv (Vl.mk 4 0 0 false [2] [] 0) dG dH none 0,vv (Vl.mk 3 0 2 false [] [] 0) none 0 none 0],_,args2 dI (k.eq1 1 38 rfl),fun w=>by kernel_rfl,first_l2 _ _ _ _ _ _ _ _ _ ce (SRow.nil _ _) (SRow.nil _ _) (SRow.nil _ _),?_⟩
  rintro e w' ⟨rfl,hm⟩
  exact⟨_,rfl,hm,rfl⟩)) ?_
 exact .N 2<| .E 3<| .E 3<| .B 4<| .B 5 .nil
 refine aftI aw aW aX fun d0 d1 ax a3 a4 a5 ad=>?_
 have⟨cf,ch,ci,cj⟩:=ad.f4 b8 b9 ca cb
 have⟨cl,cm⟩:=ad.f2 cc cd
 have cn:=ad.g 6 9
 have co:=ad.g 7 10
 have a6:=aZ.new_ a5
 refine a1 _ _ <| wk fun d2 a7=>?_
 refine wA tr8 [] 94 [ve (vv (Vl.mk 1 0 0 false [] [] 0) none 0 none 0),ve (vv (Vl.mk 3 0 0 false [] [] 0) none 0 none 0),ve (.tuple #[.bool false,iv 0]),ve (.tuple #[.bool false,iv 0]),vF,ve (iv 0),vF,ve (iv 0)] ax ?_ ?_
 exact .T (fun k=>v_build (ps:=[(0,iv 1)]) rfl (parts1 rfl) (by kernel_rfl))<| .D (fun k=>args1 rfl) (fun p=>lwhole_c 0 _)<| .C2 0 1 (fun p=>first_l3 _ _ _ _ _ _ _ _ _ (SRow.nil _ _) (SRow.nil _ _) (SRow.nil _ _) (SRow.nil _ _))<| .N 2<| .E 3<| .E 3<| .B 4<| .B 5 .nil
 refine aftI ax a3 a4 fun d3 d4 ay a8 a9 ba ac=>?_
 have⟨cp,cq,cr,ct⟩:=ac.f4 cf ch ci cj
 have⟨cu,cv,cw,cx⟩:=ac.f4 cl cm cn co
 have cy:=ac.g 6 11
 have cz:=ac.g 7 12
 have bb:=a6.new_ ba
 refine a7 _ _ <| wk fun d5 bd=>?_
 refine wA tr7 [] 94 [ve (vv (Vl.mk 3 0 (-1) false [] [] 0) none 0 none 0),ve (.tuple #[iv 0,iv 2]),ve (.tuple #[iv 0,iv 2]),ve (iv 0),ve (iv 2),ve (iv 0),ve (iv 2)] ay ?_ ?_
 exact .D (fun k=>args1 rfl) (fun p=>lwhole_c (-1) _)<| .C 0 (fun p=>first_i1 _ _ _ _ _ (SRow.nil _ _) (SRow.nil _ _))<| .N 1<| .E 2<| .E 2<| .B 3<| .B 4 .nil
 refine aftI ay a8 a9 fun d6 d7 az be bf bg aa=>?_
 have⟨cA,cB,cC,cD⟩:=aa.f4 cp cq cr ct
 have⟨cE,cF,cG,cH⟩:=aa.f4 cu cv cw cx
 have⟨cI,cJ⟩:=aa.f2 cy cz
 have cK:=aa.g 6 14
 have bh:=bb.new_ bg
 refine bd _ _ <| wk fun d8 bi=>?_
 refine wA tr42 [] 94 [ve (iv 0),vT,vT,ve (.pointer (some ⟨aB,1,none⟩)),ve (iv 12),vT,vT,vT,ve (iv 3),vT,vT,vT,ve (iv 1),vT,vT,vT,ve (iv 0),vT,vT,vT,vT,vT,vT,ve (iv 0),vT,vT,vT,vT,vT,vT,ve (iv 0),vT,vT,vT,vF,vT,vT,vT,ve (iv 2),vT,vT,vT] az ?_ ?_
 exact .M cB<| .T (fun k=>v_bin rfl (k.eq1 0 53 rfl) rfl (fun _=>rfl) (fun w=>by kernel_rfl))<| .N 1<| .gf (fun k=>k.eq1 2 55 rfl) (fun k=>k.fx 1 cA)<| .V (fun p k=>v_load rfl (k.eq1 3 56 rfl) (l_one isAgg3 ((bh.new_ p).cell 1)))<| .V (fun p k=>v_bin rfl (k.eq1 4 57 rfl) rfl (fun _=>rfl) (fun w=>by kernel_rfl))<| .T (fun k=>v_pickT rfl (k.eq1 2 55 rfl) (k.eq1 5 58 rfl))<| .N 6<| .gm (fun k=>k.eq1 7 60 rfl) (fun k=>k.fx 4 cC)<| .V (fun p k=>v_bin rfl (k.eq1 8 61 rfl) rfl (fun _=>rfl) (fun w=>by kernel_rfl))<| .T (fun k=>v_pickT rfl (k.eq1 7 60 rfl) (k.eq1 9 62 rfl))<| .N 10<| .gm (fun k=>k.eq1 11 64 rfl) (fun k=>k.fx 6 cD)<| .V (fun p k=>v_bin rfl (k.eq1 12 65 rfl) rfl (fun _=>rfl) (fun w=>by kernel_rfl))<| .T (fun k=>v_pickT rfl (k.eq1 11 64 rfl) (k.eq1 13 66 rfl))<| .N 14<| .gm (fun k=>k.eq1 15 68 rfl) (fun k=>k.fx 8 cF)<| .V (fun p k=>v_bin rfl (k.eq1 16 69 rfl) rfl (fun _=>rfl) (fun w=>by kernel_rfl))<| .T (fun k=>v_pickT rfl (k.eq1 15 68 rfl) (k.eq1 17 70 rfl))<| .N 18<| .gm (fun k=>k.eq1 19 72 rfl) (fun k=>k.fx 7 cE)<| .T (fun k=>v_pickT rfl (k.eq1 19 72 rfl) (k.eq1 20 73 rfl))<| .N 21<| .gm (fun k=>k.eq1 22 75 rfl) (fun k=>k.fx 10 cH)<| .V (fun p k=>v_bin rfl (k.eq1 23 76 rfl) rfl (fun _=>rfl) (fun w=>by kernel_rfl))<| .T (fun k=>v_pickT rfl (k.eq1 22 75 rfl) (k.eq1 24 77 rfl))<| .N 25<| .gm (fun k=>k.eq1 26 79 rfl) (fun k=>k.fx 9 cG)<| .T (fun k=>v_pickT rfl (k.eq1 26 79 rfl) (k.eq1 27 80 rfl))<| .N 28<| .gm (fun k=>k.eq1 29 82 rfl) (fun k=>k.fx 12 cJ)<| .V (fun p k=>v_bin rfl (k.eq1 30 83 rfl) rfl (fun _=>rfl) (fun w=>by kernel_rfl))<| .T (fun k=>v_pickT rfl (k.eq1 29 82 rfl) (k.eq1 31 84 rfl))<| .N 32<| .gm (fun k=>k.eq1 33 86 rfl) (fun k=>k.fx 11 cI)<| .V (fun p k=>v_not rfl (k.eq1 34 87 rfl))<| .T (fun k=>v_pickT rfl (k.eq1 33 86 rfl) (k.eq1 35 88 rfl))<| .N 36<| .gm (fun k=>k.eq1 37 90 rfl) (fun k=>k.fx 14 cK)<| .V (fun p k=>v_bin rfl (k.eq1 38 91 rfl) rfl (fun _=>rfl) (fun w=>by kernel_rfl))<| .T (fun k=>v_pickT rfl (k.eq1 37 90 rfl) (k.eq1 39 92 rfl))<| .B 40 .nil
 refine aftI az be bf fun d9 ea dK bj bk dL bl=>?_
 have cL:=bl.g 41 0
 refine bi _ _<| wp_ret (ret_k bj (v:=.bool true) (res_t rfl cL _) ?_)
 exact⟨rfl,bk⟩
end Go.Proofs.YtecgdgjlmlpcnaaGreatDoor
