import Derived.Test.YtjakfchffigkkaaGreatDoorOqc
namespace Go.Proofs.YtjakfchffigkkaaGreatDoor
open Go.RowKit
set_option linter.unusedSimpArgs false
set_option linter.unusedVariables false
set_option maxHeartbeats 16000000
set_option maxRecDepth 100000
theorem scmp_c (Aa:Option Addr) (a:List Nat) (ca:Nat) (Ab:Option Addr) (b:List Nat) (cb:Nat) (w:World) (hra:SRow w .u16 Aa a ca) (hrb:SRow w .u16 Ab b cb) (ha:U16s a) (hb:U16s b):Calls Tryz.prog 151 #[sv Aa a ca,sv Ab b cb] w (IsRet (iv (cmpU a b)) w):=by
 refine enter_abs Tryz.func151 rfl fun a0 ay cI hp=>?_
 have ay:a0.tmps.size=36:=ay
 have cJ:New w w:=Upd.refl _ _
 have hp0:a0.eval (.tmp 0)=sv Aa a ca:=hp 0 _ rfl
 have hp1:a0.eval (.tmp 1)=sv Ab b cb:=hp 1 _ rfl
 have hmx:=hra.max
 have hmy:=hrb.max
 refine wp_seq_k fun K1 cK=>?_
 refine wp_g0 [true] [] 36
   [ve (iv 0)] ay (.eq (.nil)) ?_ ?_
 exact .t (fun _ w hn k=>⟨_,v_assign rfl rfl,rfl⟩) .nil
 refine aftI ay cI cJ fun a2 w3 bI cL bW ef bJ=>?_
 have h8:=bJ.fx 0 hp0
 have h9:=bJ.fx 1 hp1
 refine st_nil (cK _ _ (wp_seq_k fun eg bX=>?_))
 refine wp_seq_k fun eh bY=>?_
 refine wp_g0 [true,true,true] [] 36
   [ve (sv Aa a ca),ve (iv (a.length:Int)),ve (iv 0)] bI (.eq (.eq (.eq (.nil)))) ?_ ?_
 exact .m (fun k=>k.fx 0 h8)<| .t (fun _ w hn k=>⟨_,v_lenR rfl elU (k.eq1 0 9 rfl),rfl⟩)<| .t (fun _ w hn k=>⟨_,v_move rfl rfl,rfl⟩) .nil
 refine aftI bI cL bW fun ei ej bZ b0 b2 du ap=>?_
 have cM:=ap.fx 0 h8
 have cN:=ap.fx 1 h9
 have cO:=ap.ge 0 9 rfl
 have cP:=ap.ge 1 10 rfl
 have cQ:=ap.ge 2 11 rfl
 refine st_nil (bY _ _ ?_)
 refine wp_block ?_
 refine wp_loopX (fun (mm:Nat) (aa:Act) (ww:World)=>∃ (i:Nat),mm=a.length - i∧aa.tmps.size=36∧aa.defers=[]∧New w ww∧aa.eval (.tmp 11)=iv (i:Int)∧aa.eval (.tmp 0)=sv Aa a ca∧aa.eval (.tmp 1)=sv Ab b cb∧aa.eval (.tmp 9)=sv Aa a ca∧aa.eval (.tmp 10)=iv (a.length:Int)∧(i≤a.length)∧(i≤b.length)∧(cmpU (a.drop i) (b.drop i)=cmpU a b)) (fun mm=>mm) ⟨_,⟨0,rfl,bZ,b0,b2,cQ,cM,cN,cO,cP,(Nat.zero_le _),(Nat.zero_le _),rfl⟩⟩ ?_
 rintro mm ek el ⟨i,hmm,aK,b4,b6,bK,cR,cS,cT,bL,hi,hi2,hcm⟩
 refine wp_seq_k fun em b7=>?_
 refine wp_g0 [true] [] 36
   [ve (.bool (decide ((i:Int) < (a.length:Int))))] aK (.eq (.nil)) ?_ ?_
 exact .t (fun _ w hn k=>⟨_,v_bin rfl (k.fx 11 bK) (k.fx 10 bL) (fun _=>rfl) (r_lssK rfl),rfl⟩) .nil
 refine aftI aK b4 b6 fun en eo au aL ax dv am=>?_
 have aM:=am.fx 11 bK
 have bM:=am.fx 0 cR
 have bN:=am.fx 1 cS
 have bO:=am.fx 9 cT
 have cU:=am.fx 10 bL
 have bP:=am.ge 0 12 rfl
 refine st_nil (b7 _ _ (wp_seq_k fun ep b8=>?_))
 rcases bc (decide ((i:Int) < (a.length:Int))) with aq|aq
 have a6:=oT aq
 have cc:=hB bP aq
 refine wp_cond_true cc ?_
 refine wp_skip ?_
 refine b8 _ _ ?_
 refine wp_seq_k fun er cd=>?_
 refine wp_block ?_
 refine wp_seq_k fun es ce=>?_
 refine wp_g0 [true,true,true,true,true] [] 36
   [ve (iv (i:Int)),
    (EP (.int .u16 ((a.getD i 0:Nat):Int))),ve (.int .u16 ((a.getD i 0:Nat):Int)),ve (iv (i:Int)),ve (.int .u16 ((a.getD i 0:Nat):Int))] au (.eq (.cons (fun _ _ _ n ⟨_,_,e,h⟩=>⟨_,_,e,h.new_ n⟩) (.eq (.eq (.eq (.nil)))))) ?_ ?_
 refine .m (fun k=>k.fx 11 aM) ?_
 refine .o1 (tk rfl rfl fun _ w hn k=>(by
       exact x_eaddr (k:=.u16) rfl elU (k.fx 9 bO) (k.fx 11 aM) (hra.new_ (ax.transNew hn)) (by omega) fun b1 o2 hme=>⟨b1,o2,rfl,hme⟩)) ?_
 refine .o1 (tk rfl rfl fun _ w hn k=>(by
       obtain⟨b5,o6,e7,cV⟩:(EP (.int .u16 ((a.getD i 0:Nat):Int))) _ _:=k.dep 1 14 (by kernel_rfl) (by kernel_rfl)
       exact⟨_,v_load rfl e7 (l_one Tryz.isAgg74 cV.1),rfl⟩)) ?_
 exact .a (fun k=>k.eq1 0 13 rfl)<| .a (fun k=>k.eq1 2 15 rfl) .nil
 refine aftI au aL ax fun et eu av aN aO dw aj=>?_
 have bQ:=aj.fx 11 aM
 have bR:=aj.fx 0 bM
 have az:=aj.fx 1 bN
 have bS:=aj.fx 9 bO
 have bT:=aj.fx 10 cU
 have aA:=aj.ge 3 5 rfl
 have bU:=aj.ge 4 6 rfl
 refine st_nil (ce _ _ (wp_seq_k fun ev cf=>?_))
 refine wp_seq_k fun ew aP=>?_
 rcases bc (decide ((i:Int) < (b.length:Int))) with ar|ar
 have a7:=oT ar
 refine wp_g0 [true,true,true,true] [] 36
   [ve (iv (i:Int)),ve (sv Ab b cb),ve (iv (b.length:Int)),vF] av (.eq (.eq (.eq (.eq (.nil))))) ?_ ?_
 exact .m (fun k=>k.fx 5 aA)<| .m (fun k=>k.fx 1 az)<| .t (fun _ w hn k=>⟨_,v_lenR rfl elU (k.eq1 1 17 rfl),rfl⟩)<| .t (fun _ w hn k=>⟨_,v_bin rfl (k.eq1 0 16 rfl) (k.eq1 2 18 rfl) (fun _=>rfl) (r_geqK ar),rfl⟩) .nil
 refine aftI av aN aO fun ex ey aQ ch aR dx ag=>?_
 have cW:=ag.fx 11 bQ
 have cX:=ag.fx 0 bR
 have bV:=ag.fx 1 az
 have cY:=ag.fx 9 bS
 have cZ:=ag.fx 10 bT
 have c0:=ag.fx 5 aA
 have c1:=ag.fx 6 bU
 have c2:=ag.ge 3 19 rfl
 refine st_nil (aP _ _ ?_)
 refine wp_cond_false c2 ?_
 refine wp_skip ?_
 refine cf _ _ ?_
 refine wp_seq_k fun ez ci=>?_
 refine wp_g0 [true,true,true,true,true] [] 36
   [ve (sv Ab b cb),ve (iv (i:Int)),
    (EP (.int .u16 ((b.getD i 0:Nat):Int))),ve (.int .u16 ((b.getD i 0:Nat):Int)),ve (.int .u16 ((b.getD i 0:Nat):Int))] aQ (.eq (.eq (.cons (fun _ _ _ n ⟨_,_,e,h⟩=>⟨_,_,e,h.new_ n⟩) (.eq (.eq (.nil)))))) ?_ ?_
 refine .m (fun k=>k.fx 1 bV)<| .m (fun k=>k.fx 5 c0) ?_
 refine .o1 (tk rfl rfl fun _ w hn k=>(by
       exact x_eaddr (k:=.u16) rfl elU (k.eq1 0 20 rfl) (k.eq1 1 21 rfl) (hrb.new_ (aR.transNew hn)) (by omega) fun b9 c5 hme=>⟨b9,c5,rfl,hme⟩)) ?_
 refine .o1 (tk rfl rfl fun _ w hn k=>(by
       obtain⟨eA,eB,c6,cj⟩:(EP (.int .u16 ((b.getD i 0:Nat):Int))) _ _:=k.dep 2 22 (by kernel_rfl) (by kernel_rfl)
       exact⟨_,v_load rfl c6 (l_one Tryz.isAgg74 cj.1),rfl⟩)) ?_
 exact .a (fun k=>k.eq1 3 23 rfl) .nil
 refine aftI aQ ch aR fun eC eD aS cl a8 dy ak=>?_
 have c8:=ak.fx 11 cW
 have c9:=ak.fx 0 cX
 have da:=ak.fx 1 bV
 have db:=ak.fx 9 cY
 have dc:=ak.fx 10 cZ
 have dd:=ak.fx 6 c1
 have de:=ak.ge 4 7 rfl
 refine st_nil (ci _ _ (wp_seq_k fun dz a9=>?_))
 have eE:=ha.at16 i
 have eF:=hb.at16 i
 refine wp_g0 [true,true,true,true] [] 36
   [ve (.int .u16 ((a.getD i 0:Nat):Int)),ve (.int .u16 ((b.getD i 0:Nat):Int)),ve (iv (cmpI (a.getD i 0) (b.getD i 0))),ve (iv (cmpI (a.getD i 0) (b.getD i 0)))] aS (.eq (.eq (.eq (.eq (.nil))))) ?_ ?_
 exact .m (fun k=>k.fx 6 dd)<| .m (fun k=>k.fx 7 de)<| .o1 (ck rfl rfl rfl (fun _ w hn k=>⟨#[.int .u16 ((a.getD i 0:Nat):Int),.int .u16 ((b.getD i 0:Nat):Int)],args2 (k.eq1 0 24 rfl) (k.eq1 1 25 rfl),fun _=>by kernel_rfl,ccmp_c (a.getD i 0) (b.getD i 0) _ (by omega) (by omega)⟩) fun _=>rfl)<| .a (fun k=>k.eq1 2 26 rfl) .nil
 refine aftI aS cl a8 fun dA dB an aB aC df ah=>?_
 have aT:=ah.fx 11 c8
 have aU:=ah.fx 0 c9
 have aV:=ah.fx 1 da
 have aW:=ah.fx 9 db
 have aX:=ah.fx 10 dc
 have aw:=ah.ge 3 8 rfl
 refine st_nil (a9 _ _ (wp_seq_k fun dC aD=>?_))
 rcases bc (decide ((cmpI (a.getD i 0) (b.getD i 0))=0)) with ad|ad
 have aY:=oT ad
 refine wp_g0 [true,true] [] 36
   [ve (iv (cmpI (a.getD i 0) (b.getD i 0))),vF] an (.eq (.eq (.nil))) ?_ ?_
 exact .m (fun k=>k.fx 8 aw)<| .t (fun _ w hn k=>⟨_,v_bin rfl (k.eq1 0 27 rfl) rfl (fun _=>rfl) (r_neq ad),rfl⟩) .nil
 refine aftI an aB aC fun dD dE aE ba bb dg ae=>?_
 have aZ:=ae.fx 11 aT
 have cm:=ae.fx 0 aU
 have cn:=ae.fx 1 aV
 have co:=ae.fx 9 aW
 have cp:=ae.fx 10 aX
 have dF:=ae.fx 8 aw
 have cq:=ae.ge 1 28 rfl
 refine st_nil (aD _ _ ?_)
 refine wp_cond_false cq ?_
 refine wp_skip ?_
 refine cd _ _ ?_
 refine wp_g0 [true,false] [(1,true)] 36
   [ve (iv ((i + 1:Nat):Int)),vt] aE (.eq (.tt (.nil))) ?_ ?_
 exact .t (fun _ w hn k=>⟨_,v_bin rfl (k.fx 11 aZ) rfl (fun _=>rfl) (n_add (by omega) (IntWalk.i64_in _ (by omega))),rfl⟩)<| .off .nil
 refine aftI aE ba bb fun a1 dG aF bd be dh ai=>?_
 have dH:=ai.fx 11 aZ
 have cr:=ai.fx 0 cm
 have cs:=ai.fx 1 cn
 have ct:=ai.fx 9 co
 have cu:=ai.fx 10 cp
 have a3:=ai.ge 0 30 rfl
 refine st_take rfl rfl (y_move (v:=iv ((i + 1:Nat):Int)) rfl a3) rfl ?_
 obtain⟨cv,ab⟩:∃ a',a'=a1.put (some 11) (iv ((i + 1:Nat):Int)):=⟨_,rfl⟩
 have bf:=pz ab aF
 have bg:=pd ab bd
 have cw:=pn ab cr (by decide)
 have cx:=pn ab cs (by decide)
 have cy:=pn ab ct (by decide)
 have cz:=pn ab cu (by decide)
 have dI:=pn ab a3 (by decide)
 have cA:cv.eval (.tmp 11)=iv ((i + 1:Nat):Int):=by rw [ab]; exact put_same _ _ _ (by rw [aF]; decide)
 show stepsTo _ _ _ _ _ (a1.put (some 11) (iv ((i + 1:Nat):Int))) _
 rw [← ab]
 refine st_nil ?_
 refine then_n ?_
 exact⟨_,⟨i + 1,rfl,bf,bg,be,(cA.trans (congrArg (Value.int .i64) (by omega))),cw,cx,cy,cz,(by omega),(by omega),(cmpU_next (by omega) (by omega) ad hcm)⟩,(by omega)⟩
 have aY:=oF ad
 refine wp_g0 [true,true] [] 36
   [ve (iv (cmpI (a.getD i 0) (b.getD i 0))),vT] an (.eq (.eq (.nil))) ?_ ?_
 exact .m (fun k=>k.fx 8 aw)<| .t (fun _ w hn k=>⟨_,v_bin rfl (k.eq1 0 27 rfl) rfl (fun _=>rfl) (r_neq ad),rfl⟩) .nil
 refine aftI an aB aC fun dJ dK aG bh bi di af=>?_
 have dL:=af.fx 11 aT
 have dM:=af.fx 0 aU
 have dN:=af.fx 1 aV
 have dO:=af.fx 9 aW
 have dP:=af.fx 10 aX
 have cB:=af.fx 8 aw
 have cC:=af.ge 1 28 rfl
 refine st_nil (aD _ _ ?_)
 refine wp_cond_true cC ?_
 refine wp_seq_k fun dQ bj=>?_
 refine wp_g0 [true,true] [] 36
   [ve (iv (cmpI (a.getD i 0) (b.getD i 0))),ve (iv (cmpI (a.getD i 0) (b.getD i 0)))] aG (.eq (.eq (.nil))) ?_ ?_
 exact .m (fun k=>k.fx 8 cB)<| .a (fun k=>k.eq1 0 29 rfl) .nil
 refine aftI aG bh bi fun dR dS dj bk bl dk bm=>?_
 have cD:=bm.ge 1 4 rfl
 refine st_nil (bj _ _ ?_)
 refine wp_ret (ret_k bk (v:=iv (cmpI (a.getD i 0) (b.getD i 0))) (res_t rfl cD _) ?_)
 exact⟨congrArg (fun n=>Ending.returned (iv n)) (show (cmpI (a.getD i 0) (b.getD i 0))=cmpU a b from (by first|exact cmpU_more (by omega) (by omega) hcm|exact cmpU_out (by omega) (by omega) ad hcm|exact cmpU_less (i:=i) (by omega) (by omega) hcm|exact cmpU_end (i:=i) (by omega) (by omega) hcm)),bl⟩
 have a7:=oF ar
 refine wp_g0 [true,true,true,true] [] 36
   [ve (iv (i:Int)),ve (sv Ab b cb),ve (iv (b.length:Int)),vT] av (.eq (.eq (.eq (.eq (.nil))))) ?_ ?_
 exact .m (fun k=>k.fx 5 aA)<| .m (fun k=>k.fx 1 az)<| .t (fun _ w hn k=>⟨_,v_lenR rfl elU (k.eq1 1 17 rfl),rfl⟩)<| .t (fun _ w hn k=>⟨_,v_bin rfl (k.eq1 0 16 rfl) (k.eq1 2 18 rfl) (fun _=>rfl) (r_geqK ar),rfl⟩) .nil
 refine aftI av aN aO fun dT dU aH bn bo dl ac=>?_
 have dV:=ac.fx 11 bQ
 have dW:=ac.fx 0 bR
 have dX:=ac.fx 1 az
 have dY:=ac.fx 9 bS
 have dZ:=ac.fx 10 bT
 have d0:=ac.fx 5 aA
 have d1:=ac.fx 6 bU
 have cE:=ac.ge 3 19 rfl
 refine st_nil (aP _ _ ?_)
 refine wp_cond_true cE ?_
 refine wp_seq_k fun d2 bp=>?_
 refine wp_g0 [true] [] 36
   [ve (iv 1)] aH (.eq (.nil)) ?_ ?_
 exact .t (fun _ w hn k=>⟨_,v_assign rfl rfl,rfl⟩) .nil
 refine aftI aH bn bo fun d3 d4 dm bq br dn bs=>?_
 have cF:=bs.ge 0 4 rfl
 refine st_nil (bp _ _ ?_)
 refine wp_ret (ret_k bq (v:=iv 1) (res_t rfl cF _) ?_)
 exact⟨congrArg (fun n=>Ending.returned (iv n)) (show (1)=cmpU a b from (by first|exact cmpU_more (by omega) (by omega) hcm|exact cmpU_less (i:=i) (by omega) (by omega) hcm|exact cmpU_end (i:=i) (by omega) (by omega) hcm)),br⟩
 have a6:=oF aq
 have bt:=hB bP aq
 refine wp_cond_false bt ?_
 refine wp_exit ?_
 refine bX _ _ ?_
 refine wp_seq_k fun d5 bu=>?_
 refine wp_seq_k fun d6 bv=>?_
 refine wp_g0 [true,true,true,true,true] [] 36
   [ve (sv Aa a ca),ve (iv (a.length:Int)),ve (sv Ab b cb),ve (iv (b.length:Int)),ve (.bool (decide ((a.length:Int) < (b.length:Int))))] au (.eq (.eq (.eq (.eq (.eq (.nil)))))) ?_ ?_
 exact .m (fun k=>k.fx 0 bM)<| .t (fun _ w hn k=>⟨_,v_lenR rfl elU (k.eq1 0 31 rfl),rfl⟩)<| .m (fun k=>k.fx 1 bN)<| .t (fun _ w hn k=>⟨_,v_lenR rfl elU (k.eq1 2 33 rfl),rfl⟩)<| .t (fun _ w hn k=>⟨_,v_bin rfl (k.eq1 1 32 rfl) (k.eq1 3 34 rfl) (fun _=>rfl) (r_lssK rfl),rfl⟩) .nil
 refine aftI au aL ax fun d7 d8 ao aI aJ dp bw=>?_
 have a4:=bw.ge 4 35 rfl
 refine st_nil (bv _ _ ?_)
 rcases bc (decide ((a.length:Int) < (b.length:Int))) with al|al
 have a5:=oT al
 have bx:=hB a4 al
 refine wp_cond_true bx ?_
 refine wp_seq_k fun d9 bz=>?_
 refine wp_g0 [true] [] 36
   [ve (iv (-1))] ao (.eq (.nil)) ?_ ?_
 exact .t (fun _ w hn k=>⟨_,v_assign rfl rfl,rfl⟩) .nil
 refine aftI ao aI aJ fun ea eb dq bA bB dr bC=>?_
 have cG:=bC.ge 0 4 rfl
 refine st_nil (bz _ _ ?_)
 refine wp_ret (ret_k bA (v:=iv (-1)) (res_t rfl cG _) ?_)
 exact⟨congrArg (fun n=>Ending.returned (iv n)) (show (-1)=cmpU a b from (by first|exact cmpU_more (by omega) (by omega) hcm|exact cmpU_less (i:=i) (by omega) (by omega) hcm|exact cmpU_end (i:=i) (by omega) (by omega) hcm)),bB⟩
 have a5:=oF al
 have bD:=hB a4 al
 refine wp_cond_false bD ?_
 refine wp_skip ?_
 refine bu _ _ ?_
 refine wp_seq_k fun ec bE=>?_
 refine wp_g0 [true] [] 36
   [ve (iv 0)] ao (.eq (.nil)) ?_ ?_
 exact .t (fun _ w hn k=>⟨_,v_assign rfl rfl,rfl⟩) .nil
 refine aftI ao aI aJ fun ed ee ds bF bG dt bH=>?_
 have cH:=bH.ge 0 4 rfl
 refine st_nil (bE _ _ ?_)
 refine wp_ret (ret_k bF (v:=iv 0) (res_t rfl cH _) ?_)
 exact⟨congrArg (fun n=>Ending.returned (iv n)) (show (0)=cmpU a b from (by first|exact cmpU_more (by omega) (by omega) hcm|exact cmpU_less (i:=i) (by omega) (by omega) hcm|exact cmpU_end (i:=i) (by omega) (by omega) hcm)),bG⟩
theorem tless_c (Aa:Option Addr) (a:List Nat) (ca:Nat) (Ab:Option Addr) (b:List Nat) (cb:Nat) (w:World) (hra:SRow w .u16 Aa a ca) (hrb:SRow w .u16 Ab b cb) (ha:U16s a) (hb:U16s b):Calls Tryz.prog 80 #[sv Aa a ca,sv Ab b cb] w (IsRet (.bool (decide (cmpU a b < 0))) w):=by
 refine enter_abs Tryz.func80 rfl fun a0 ab ai hp=>?_
 have ab:a0.tmps.size=9:=ab
 have aj:New w w:=Upd.refl _ _
 have hp0:a0.eval (.tmp 0)=sv Aa a ca:=hp 0 _ rfl
 have hp1:a0.eval (.tmp 1)=sv Ab b cb:=hp 1 _ rfl
 refine wp_seq_k fun K1 ak=>?_
 refine wp_g0 [true] [] 9
   [vF] ab (.eq (.nil)) ?_ ?_
 exact .t (fun _ w hn k=>⟨_,v_assign rfl rfl,rfl⟩) .nil
 refine aftI ab ai aj fun a2 w3 ac al aa ap ad=>?_
 have h8:=ad.fx 0 hp0
 have h9:=ad.fx 1 hp1
 refine st_nil (ak _ _ (wp_seq_k fun aq ae=>?_))
 refine wp_g0 [true,true,true,true,true] [] 9
   [ve (sv Aa a ca),ve (sv Ab b cb),ve (iv (cmpU a b)),ve (.bool (decide ((cmpU a b) < 0))),ve (.bool (decide ((cmpU a b) < 0)))] ac (.eq (.eq (.eq (.eq (.eq (.nil)))))) ?_ ?_
 exact .m (fun k=>k.fx 0 h8)<| .m (fun k=>k.fx 1 h9)<| .o1 (ck rfl rfl rfl (fun _ w hn k=>⟨#[sv Aa a ca,sv Ab b cb],args2 (k.eq1 0 5 rfl) (k.eq1 1 6 rfl),fun _=>by kernel_rfl,scmp_c _ a _ _ b _ _ (hra.new_ (aa.transNew hn)) (hrb.new_ (aa.transNew hn)) ha hb⟩) fun _=>rfl)<| .t (fun _ w hn k=>⟨_,v_bin rfl (k.eq1 2 7 rfl) rfl (fun _=>rfl) (r_lssK rfl),rfl⟩)<| .a (fun k=>k.eq1 3 8 rfl) .nil
 refine aftI ac al aa fun ar au an af ag ao ah=>?_
 have am:=ah.ge 4 4 rfl
 refine st_nil (ae _ _ ?_)
 refine wp_ret (ret_k af (v:=.bool (decide ((cmpU a b) < 0))) (res_t rfl am _) ?_)
 refine ⟨?_,ag⟩
 show Ending.returned (.bool (decide ((cmpU a b) < 0)))=Ending.returned (.bool (decide (cmpU a b < 0)))
 first|rfl|(simp only [bsm] <;> rfl)|(exfalso; omega)
theorem beside_c (a:Bool) (Aa:Option Addr) (ma:List Nat) (ca:Nat) (x:Nm) (w:World) (hra:SRow w .u32 Aa ma ca) (ha:Limbs ma) (hs:ma.length≤1000000) (hlo:-9223372036854775808≤x.n) (hhi:x.n≤9223372036854775807):Calls Tryz.prog 153 #[.agg #[.bool a,sv Aa ma ca],nv x] w (IsRet (.tuple #[iv ((besideO a ma x).1),.bool ((besideO a ma x).2)]) w):=by
 refine enter_abs Tryz.func153 rfl fun a0 al bz hp=>?_
 have al:a0.tmps.size=19:=al
 have ao:New w w:=Upd.refl _ _
 have hp0:a0.eval (.tmp 0)=.agg #[.bool a,sv Aa ma ca]:=hp 0 _ rfl
 have hp1:a0.eval (.tmp 1)=nv x:=hp 1 _ rfl
 have hnl:(canon x.n.natAbs).length≤8:=(canon_len8 _).2 (by omega)
 refine wp_seq_k fun K1 bA=>?_
 refine wp_g [true,true,true,true] [] [] 19
   [IsNew w 26 [.bool a,sv Aa ma ca],IsNew w 23 [iv x.k,iv x.n],ve (iv 0),vF]
   [0,1] (newsCons (fun v w h=>IsNew.old h) (newsCons (fun v w h=>IsNew.old h) newsNil)) al (.nw (.nw (.eq (.eq (.nil))))) ?_ (fun i h=>by cases h) ?_
 exact .o2 (step_allocN (cs:=[.bool a,sv Aa ma ca]) (t:=26) rfl (noG rfl) (fun _ w hn k=>v_box rfl (k.fx 0 hp0) (fun w=>rfl)) (fun q _ hq hb=>⟨q,rfl,hq,hb⟩))<| .o2 (step_allocN (cs:=[iv x.k,iv x.n]) (t:=23) rfl (noG rfl) (fun _ w hn k=>v_box rfl (k.fx 1 hp1) (fun w=>rfl)) (fun q _ hq hb=>⟨q,rfl,hq,hb⟩))<| .t (fun _ w hn k=>⟨_,v_assign rfl rfl,rfl⟩)<| .t (fun _ w hn k=>⟨_,v_assign rfl rfl,rfl⟩) .nil
 refine aftI al bz ao fun a2 w3 aP bB aY b6 aQ=>?_
 obtain⟨q9,h8,aZ,a1⟩:=aQ.G 0 2
 obtain⟨aR,aS,a3,ap⟩:=aQ.G 1 3
 have bU:=Nat.le_trans ao.size aZ
 have bV:=Nat.le_trans ao.size a3
 refine st_nil (bA _ _ (wp_seq_k fun b7 a4=>?_))
 refine wp_seq_k fun b8 a5=>?_
 refine wp_g0 [true,true] [] 19
   [ve (pv aR),ve (iv x.k)] aP (.eq (.eq (.nil))) ?_ ?_
 exact .f (fun k=>k.fx 3 aS)<| .t (fun _ w hn k=>⟨_,v_load rfl (k.eq1 0 6 rfl) (l_one Tryz.isAgg3 ((ap.new_ hn).cell 0)),rfl⟩) .nil
 refine aftI aP bB aY fun b9 cb aq a6 a7 ar ai=>?_
 have bC:=ai.fx 2 h8
 have bD:=ai.fx 3 aS
 have aT:=ai.ge 1 7 rfl
 have a8:=a1.new_ ar
 have a9:=ap.new_ ar
 refine st_nil (a5 _ _ ?_)
 refine wp_block ?_
 refine wp_seq_k fun cc ba=>?_
 refine wp_g0 [true,true] [] 19
   [ve (.bool (decide (x.k=2))),ve (.bool (decide (x.k=2)))] aq (.eq (.eq (.nil))) ?_ ?_
 exact .t (fun _ w hn k=>⟨_,v_bin rfl (k.fx 7 aT) rfl (fun _=>rfl) (r_eql rfl),rfl⟩)<| .a (fun k=>k.eq1 0 9 rfl) .nil
 refine aftI aq a6 a7 fun cd ce ad au av aw ae=>?_
 have bE:=ae.fx 2 bC
 have bF:=ae.fx 3 bD
 have aU:=ae.fx 7 aT
 have aV:=ae.ge 1 8 rfl
 have bb:=a8.new_ aw
 have bd:=a9.new_ aw
 refine st_nil (ba _ _ ?_)
 rcases bc (decide (x.k=2)) with aa|aa
 have aF:=oT aa
 have be:=hB aV aa
 refine wp_cond_true be ?_
 refine wp_seq_k fun cf bf=>?_
 refine wp_g0 [true,true] [] 19
   [ve (iv 0),vF] ad (.eq (.eq (.nil))) ?_ ?_
 exact .t (fun _ w hn k=>⟨_,v_assign rfl rfl,rfl⟩)<| .t (fun _ w hn k=>⟨_,v_assign rfl rfl,rfl⟩) .nil
 refine aftI ad au av fun ch ci bW bg bh bX ax=>?_
 have bG:=ax.ge 0 4 rfl
 have bH:=ax.ge 1 5 rfl
 refine st_nil (bf _ _ ?_)
 refine wp_ret (ret_k bg (v:=.tuple #[iv 0,.bool false]) (res_tt rfl bG bH _) ?_)
 refine ⟨?_,bh⟩
 show Ending.returned (.tuple #[iv 0,.bool false])=Ending.returned (.tuple #[iv ((besideO a ma x).1),.bool ((besideO a ma x).2)])
 first|rfl|(simp only [besideO,aa,good_canon (z:=x.n) (by omega),bsm] <;> rfl)|(exfalso; omega)
 have aF:=oF aa
 have bi:=hB aV aa
 refine wp_cond_false bi ?_
 refine wp_seq_k fun cj bj=>?_
 refine wp_g0 [true,true] [] 19
   [ve (.bool (decide (x.k=3))),ve (.bool (decide (x.k=3)))] ad (.eq (.eq (.nil))) ?_ ?_
 exact .t (fun _ w hn k=>⟨_,v_bin rfl (k.fx 7 aU) rfl (fun _=>rfl) (r_eql rfl),rfl⟩)<| .a (fun k=>k.eq1 0 11 rfl) .nil
 refine aftI ad au av fun cl cm af ay az aA ag=>?_
 have bI:=ag.fx 2 bE
 have bJ:=ag.fx 3 bF
 have bK:=ag.fx 7 aU
 have aW:=ag.ge 1 10 rfl
 have bk:=bb.new_ aA
 have bl:=bd.new_ aA
 refine st_nil (bj _ _ ?_)
 rcases bc (decide (x.k=3)) with ac|ac
 have aG:=oT ac
 have bm:=hB aW ac
 refine wp_cond_true bm ?_
 refine wp_seq_k fun cn bn=>?_
 refine wp_g0 [true,true] [] 19
   [ve (iv (-1)),vT] af (.eq (.eq (.nil))) ?_ ?_
 exact .t (fun _ w hn k=>⟨_,v_assign rfl rfl,rfl⟩)<| .t (fun _ w hn k=>⟨_,v_assign rfl rfl,rfl⟩) .nil
 refine aftI af ay az fun co cp bY bo bp bZ aB=>?_
 have bL:=aB.ge 0 4 rfl
 have bM:=aB.ge 1 5 rfl
 refine st_nil (bn _ _ ?_)
 refine wp_ret (ret_k bo (v:=.tuple #[iv (-1),.bool true]) (res_tt rfl bL bM _) ?_)
 refine ⟨?_,bp⟩
 show Ending.returned (.tuple #[iv (-1),.bool true])=Ending.returned (.tuple #[iv ((besideO a ma x).1),.bool ((besideO a ma x).2)])
 first|rfl|(simp only [besideO,aa,ac,good_canon (z:=x.n) (by omega),bsm] <;> rfl)|(exfalso; omega)
 have aG:=oF ac
 have bq:=hB aW ac
 refine wp_cond_false bq ?_
 refine wp_seq_k fun cq br=>?_
 refine wp_g0 [true,true] [] 19
   [ve (.bool (decide (x.k=4))),ve (.bool (decide (x.k=4)))] af (.eq (.eq (.nil))) ?_ ?_
 exact .t (fun _ w hn k=>⟨_,v_bin rfl (k.fx 7 bK) rfl (fun _=>rfl) (r_eql rfl),rfl⟩)<| .a (fun k=>k.eq1 0 13 rfl) .nil
 refine aftI af ay az fun cr ct ah aC aj aD ak=>?_
 have bN:=ak.fx 2 bI
 have bO:=ak.fx 3 bJ
 have aX:=ak.ge 1 12 rfl
 have bs:=bk.new_ aD
 have bt:=bl.new_ aD
 refine st_nil (br _ _ ?_)
 rcases bc (decide (x.k=4)) with ab|ab
 have aE:=oT ab
 have aH:=hB aX ab
 refine wp_cond_true aH ?_
 refine wp_seq_k fun b0 aI=>?_
 refine wp_g0 [true,true] [] 19
   [ve (iv 1),vT] ah (.eq (.eq (.nil))) ?_ ?_
 exact .t (fun _ w hn k=>⟨_,v_assign rfl rfl,rfl⟩)<| .t (fun _ w hn k=>⟨_,v_assign rfl rfl,rfl⟩) .nil
 refine aftI ah aC aj fun b1 b2 bQ aJ aK bR am=>?_
 have bu:=am.ge 0 4 rfl
 have bv:=am.ge 1 5 rfl
 refine st_nil (aI _ _ ?_)
 refine wp_ret (ret_k aJ (v:=.tuple #[iv 1,.bool true]) (res_tt rfl bu bv _) ?_)
 refine ⟨?_,aK⟩
 show Ending.returned (.tuple #[iv 1,.bool true])=Ending.returned (.tuple #[iv ((besideO a ma x).1),.bool ((besideO a ma x).2)])
 first|rfl|(simp only [besideO,aa,ac,ab,good_canon (z:=x.n) (by omega),bsm] <;> rfl)|(exfalso; omega)
 have aE:=oF ab
 have aL:=hB aX ab
 refine wp_cond_false aL ?_
 refine wp_skip ?_
 refine a4 _ _ ?_
 refine wp_seq_k fun b3 aM=>?_
 refine wp_g0 [true,true,true,true,true,true,true] [] 19
   [ve (.agg #[.bool a,sv Aa ma ca]),ve (.pointer (some ⟨aR,1,none⟩)),ve (iv x.n),(fun (v_:Value) (W:World)=>∃ (A3:Option Addr) (c4:Nat),v_=.agg #[.bool (decide (x.n < 0)),sv A3 (canon (x.n).natAbs) c4]∧SRow W .u32 A3 (canon (x.n).natAbs) c4),ve (iv (cmpZ (goodI a ma) (goodI (decide (x.n < 0)) (canon (x.n).natAbs)))),ve (iv (cmpZ (goodI a ma) (goodI (decide (x.n < 0)) (canon (x.n).natAbs)))),vT] ah (.eq (.eq (.eq (.cons (fun _ _ _ n ⟨_,_,e,h⟩=>⟨_,_,e,h.new_ n⟩) (.eq (.eq (.eq (.nil)))))))) ?_ ?_
 refine .t (fun _ w hn k=>⟨_,v_load rfl (k.fx 2 bN) (l_two Tryz.isAgg26 Tryz.sizeOf26 (bs.new_ hn)),rfl⟩)<| .f (fun k=>k.fx 3 bO)<| .t (fun _ w hn k=>⟨_,v_load rfl (k.eq1 1 15 rfl) (l_one Tryz.isAgg3 ((bt.new_ hn).cell 1)),rfl⟩) ?_
 refine .o1 (tkC rfl (noG rfl) rfl fun _ w hn k=>(by
       refine ⟨#[iv x.n],_,args1 (k.eq1 2 16 rfl),fun w=>by kernel_rfl,bOf_c x.n _ (by omega) (by omega),?_⟩
       rintro e w' ⟨A1,c2,rfl,hmo0,hm⟩
       exact⟨_,rfl,hm,⟨A1,c2,rfl,hmo0⟩⟩)) ?_
 refine .o1 (tkC rfl (noG rfl) rfl fun _ w hn k=>(by
       obtain⟨A5,c6,e7,bP⟩:(fun (v_:Value) (W:World)=>∃ (A3:Option Addr) (c4:Nat),v_=.agg #[.bool (decide (x.n < 0)),sv A3 (canon (x.n).natAbs) c4]∧SRow W .u32 A3 (canon (x.n).natAbs) c4) _ _:=k.dep 3 17 (by kernel_rfl) (by kernel_rfl)
       refine ⟨#[.agg #[.bool a,sv Aa ma ca],.agg #[.bool (decide (x.n < 0)),sv A5 (canon (x.n).natAbs) c6]],_,args2 (k.eq1 0 14 rfl) e7,fun w=>by kernel_rfl,bCmp_c a _ ma _ (decide (x.n < 0)) _ (canon (x.n).natAbs) _ _ (hra.new_ (aj.transNew hn)) bP ha (limbs_canon _) (by first|omega|(simp only [List.length_nil,List.length_take,List.length_drop]; omega)|(simp only [List.length_cons,List.length_nil]; omega)) (by first|omega|(simp only [List.length_nil,List.length_take,List.length_drop]; omega)|(simp only [List.length_cons,List.length_nil]; omega)),?_⟩
       rintro e w' ⟨rfl,hm⟩
       exact⟨_,rfl,hm,rfl⟩)) ?_
 exact .a (fun k=>k.eq1 4 18 rfl)<| .t (fun _ w hn k=>⟨_,v_assign rfl rfl,rfl⟩) .nil
 refine aftI ah aC aj fun b4 b5 bS aN aO bT an=>?_
 have bw:=an.ge 5 4 rfl
 have bx:=an.ge 6 5 rfl
 refine st_nil (aM _ _ ?_)
 refine wp_ret (ret_k aN (v:=.tuple #[iv (cmpZ (goodI a ma) (goodI (decide (x.n < 0)) (canon (x.n).natAbs))),.bool true]) (res_tt rfl bw bx _) ?_)
 refine ⟨?_,aO⟩
 show Ending.returned (.tuple #[iv (cmpZ (goodI a ma) (goodI (decide (x.n < 0)) (canon (x.n).natAbs))),.bool true])=Ending.returned (.tuple #[iv ((besideO a ma x).1),.bool ((besideO a ma x).2)])
 first|rfl|(simp only [besideO,aa,ac,ab,good_canon (z:=x.n) (by omega),bsm] <;> rfl)|(exfalso; omega)
theorem order_c (v:Vl) (Av:Option Addr) (cv:Nat) (Bv:Option Addr) (dv:Nat) (u:Vl) (Au:Option Addr) (cu:Nat) (Bu:Option Addr) (du:Nat) (w:World) (hmv:SRow w .u32 Av v.mag cv) (hsv:SRow w .u16 Bv v.s dv) (hmu:SRow w .u32 Au u.mag cu) (hsu:SRow w .u16 Bu u.s du) (hvv:VOk v) (hvu:VOk u):Calls Tryz.prog 81 #[vv v Av cv Bv dv,vv u Au cu Bu du] w (IsRet (.tuple #[iv ((orderO v u).1),.bool ((orderO v u).2)]) w):=by
 refine enter_abs Tryz.func81 rfl fun a0 aB cj hp=>?_
 have aB:a0.tmps.size=65:=aB
 have aO:New w w:=Upd.refl _ _
 have hp0:a0.eval (.tmp 0)=vv v Av cv Bv dv:=hp 0 _ rfl
 have hp1:a0.eval (.tmp 1)=vv u Au cu Bu du:=hp 1 _ rfl
 have c8:=hvv.mlen
 have c9:=hvu.mlen
 have hy1:=hvv.nlo
 have hy2:=hvv.nhi
 have hz1:=hvu.nlo
 have hz2:=hvu.nhi
 have hbs:=besideO_bd u.neg u.mag (Nm.mk v.nk v.nn)
 refine wp_seq_k fun K1 cl=>?_
 refine wp_g [true,true,true,true] [] [] 65
   [IsNew w 29 (c7 v Av cv Bv dv),IsNew w 29 (c7 u Au cu Bu du),ve (iv 0),vF]
   [0,1] (newsCons (fun v w h=>IsNew.old h) (newsCons (fun v w h=>IsNew.old h) newsNil)) aB (.nw (.nw (.eq (.eq (.nil))))) ?_ (fun i h=>by cases h) ?_
 exact .o2 (step_allocN (cs:=(c7 v Av cv Bv dv)) (t:=29) rfl (noG rfl) (fun _ w hn k=>v_box rfl (k.fx 0 hp0) (fun w=>rfl)) (fun q _ hq hb=>⟨q,rfl,hq,hb⟩))<| .o2 (step_allocN (cs:=(c7 u Au cu Bu du)) (t:=29) rfl (noG rfl) (fun _ w hn k=>v_box rfl (k.fx 1 hp1) (fun w=>rfl)) (fun q _ hq hb=>⟨q,rfl,hq,hb⟩))<| .t (fun _ w hn k=>⟨_,v_assign rfl rfl,rfl⟩)<| .t (fun _ w hn k=>⟨_,v_assign rfl rfl,rfl⟩) .nil
 refine aftI aB cj aO fun a2 w3 bF cm bN da bG=>?_
 obtain⟨q9,h8,bO,aP⟩:=bG.G 0 2
 obtain⟨af,bH,bP,aQ⟩:=bG.G 1 3
 have cH:=Nat.le_trans aO.size bO
 have cI:=Nat.le_trans aO.size bP
 refine st_nil (cl _ _ (wp_seq_k fun db bQ=>?_))
 refine wp_block ?_
 refine wp_seq_k fun dc bR=>?_
 refine wp_g0 (.replicate 9 true) [] 65
   [ve (pv q9),ve (iv v.k),ve (.bool (decide (v.k=4))),ve (.bool (decide (v.k=4))),ve (gq (decide (v.k=4)) (pv af)),ve (gq (decide (v.k=4)) (iv u.k)),ve (gq (decide (v.k=4)) (.bool (decide (u.k=4)))),ve (.bool ((decide (v.k=4)) && (decide (u.k=4)))),ve (.bool ((decide (v.k=4)) && (decide (u.k=4))))] bF (.eq (.eq (.eq (.eq (.eq (.eq (.eq (.eq (.eq (.nil)))))))))) ?_ ?_
 exact .f (fun k=>k.fx 2 h8)<| .t (fun _ w hn k=>⟨_,v_load rfl (k.eq1 0 9 rfl) (l_one Tryz.isAgg3 ((aP.new_ hn).cell 0)),rfl⟩)<| .t (fun _ w hn k=>⟨_,v_bin rfl (k.eq1 1 10 rfl) rfl (fun _=>rfl) (r_eql rfl),rfl⟩)<| .m (fun k=>k.eq1 2 11 rfl)<| .o1 (sc (G:=(decide (v.k=4))) rfl rfl rfl (fun _ _ k=>g0 (k.eq1 3 12 rfl)) (fun hG _ w hn k=>v_field rfl (k.fx 3 bH) (fun w=>rfl)))<| .o1 (sc (G:=(decide (v.k=4))) rfl rfl rfl (fun _ _ k=>g0 (k.eq1 3 12 rfl)) (fun hG _ w hn k=>v_load rfl (cT hG (k.eq1 4 13 rfl)) (l_one Tryz.isAgg3 ((aQ.new_ hn).cell 0))))<| .o1 (sc (G:=(decide (v.k=4))) rfl rfl rfl (fun _ _ k=>g0 (k.eq1 3 12 rfl)) (fun hG _ w hn k=>v_bin rfl (cT hG (k.eq1 5 14 rfl)) rfl (fun _=>rfl) (r_eql rfl)))<| .t (fun _ w hn k=>⟨_,v_and rfl (k.eq1 3 12 rfl) (fun hg=>(cT hg (k.eq1 6 15 rfl))) rfl,rfl⟩)<| .a (fun k=>k.eq1 7 16 rfl) .nil
 refine aftI bF cm bN fun dd de ai aR aj aS ap=>?_
 have aT:=ap.fx 2 h8
 have bI:=ap.fx 3 bH
 have bJ:=ap.ge 8 8 rfl
 have aq:=aP.new_ aS
 have aU:=aQ.new_ aS
 refine st_nil (bR _ _ ?_)
 rcases bc (((decide (v.k=4)) && (decide (u.k=4)))) with aa|aa
 have bS:=hB bJ aa
 have aV:(decide (v.k=4))=true:=al aa
 have cw:=oT aV
 have aW:(decide (u.k=4))=true:=ar aa
 have cx:=oT aW
 refine wp_cond_true bS ?_
 refine wp_seq_k fun df bT=>?_
 refine wp_g0 [true,true,true,true,true,true,true] [] 65
   [ve (.pointer (some ⟨q9,3,none⟩)),ve (.agg #[.bool v.neg,sv Av v.mag cv]),ve (.pointer (some ⟨af,3,none⟩)),ve (.agg #[.bool u.neg,sv Au u.mag cu]),ve (iv (cmpZ (goodI v.neg v.mag) (goodI u.neg u.mag))),ve (iv (cmpZ (goodI v.neg v.mag) (goodI u.neg u.mag))),vT] ai (.eq (.eq (.eq (.eq (.eq (.eq (.eq (.nil)))))))) ?_ ?_
 exact .f (fun k=>k.fx 2 aT)<| .t (fun _ w hn k=>⟨_,v_load rfl (k.eq1 0 17 rfl) (l_part Tryz.isAgg26 Tryz.sizeOf26 (aq.new_ hn) lb),rfl⟩)<| .f (fun k=>k.fx 3 bI)<| .t (fun _ w hn k=>⟨_,v_load rfl (k.eq1 2 19 rfl) (l_part Tryz.isAgg26 Tryz.sizeOf26 (aU.new_ hn) lb),rfl⟩)<| .o1 (ck rfl rfl rfl (fun _ w hn k=>⟨#[.agg #[.bool v.neg,sv Av v.mag cv],.agg #[.bool u.neg,sv Au u.mag cu]],args2 (k.eq1 1 18 rfl) (k.eq1 3 20 rfl),fun _=>by kernel_rfl,bCmp_c v.neg _ v.mag _ u.neg _ u.mag _ _ (hmv.new_ (aj.transNew hn)) (hmu.new_ (aj.transNew hn)) hvv.limbs hvu.limbs (by first|omega|(simp only [List.length_nil,List.length_take,List.length_drop]; omega)|(simp only [List.length_cons,List.length_nil]; omega)) (by first|omega|(simp only [List.length_nil,List.length_take,List.length_drop]; omega)|(simp only [List.length_cons,List.length_nil]; omega))⟩) fun _=>rfl)<| .a (fun k=>k.eq1 4 21 rfl)<| .t (fun _ w hn k=>⟨_,v_assign rfl rfl,rfl⟩) .nil
 refine aftI ai aR aj fun dg dh cJ bU bV cK aX=>?_
 have cn:=aX.ge 5 4 rfl
 have co:=aX.ge 6 5 rfl
 refine st_nil (bT _ _ ?_)
 refine wp_ret (ret_k bU (v:=.tuple #[iv (cmpZ (goodI v.neg v.mag) (goodI u.neg u.mag)),.bool true]) (res_tt rfl cn co _) ?_)
 refine ⟨?_,bV⟩
 show Ending.returned (.tuple #[iv (cmpZ (goodI v.neg v.mag) (goodI u.neg u.mag)),.bool true])=Ending.returned (.tuple #[iv ((orderO v u).1),.bool ((orderO v u).2)])
 first|rfl|(simp only [orderO,aa,bsm] <;> first|rfl|(simp only [orderO,aa,aV,aW,bsm] <;> rfl))|(exfalso; omega)
 have bW:=hB bJ aa
 refine wp_cond_false bW ?_
 refine wp_seq_k fun di bX=>?_
 refine wp_g0 [true,true,true,true] [] 65
   [ve (pv q9),ve (iv v.k),ve (.bool (decide (v.k=4))),ve (.bool (decide (v.k=4)))] ai (.eq (.eq (.eq (.eq (.nil))))) ?_ ?_
 exact .f (fun k=>k.fx 2 aT)<| .t (fun _ w hn k=>⟨_,v_load rfl (k.eq1 0 23 rfl) (l_one Tryz.isAgg3 ((aq.new_ hn).cell 0)),rfl⟩)<| .t (fun _ w hn k=>⟨_,v_bin rfl (k.eq1 1 24 rfl) rfl (fun _=>rfl) (r_eql rfl),rfl⟩)<| .a (fun k=>k.eq1 2 25 rfl) .nil
 refine aftI ai aR aj fun dj dk ak aY au aZ av=>?_
 have bK:=av.fx 2 aT
 have a1:=av.fx 3 bI
 have bL:=av.ge 3 22 rfl
 have a3:=aq.new_ aZ
 have aw:=aU.new_ aZ
 refine st_nil (bX _ _ ?_)
 rcases bc (decide (v.k=4)) with ab|ab
 have bh:=oT ab
 have bY:=hB bL ab
 have a4:(decide (u.k=4))=false:=ax1 aa ab
 have cy:=oF a4
 refine wp_cond_true bY ?_
 refine wp_seq_k fun dl bZ=>?_
 refine wp_g0 (.replicate 9 true) [] 65
   [ve (.pointer (some ⟨q9,3,none⟩)),ve (.agg #[.bool v.neg,sv Av v.mag cv]),ve (.pointer (some ⟨af,1,none⟩)),ve (nv (Nm.mk u.nk u.nn)),ve (.tuple #[iv ((besideO v.neg v.mag (Nm.mk u.nk u.nn)).1),.bool ((besideO v.neg v.mag (Nm.mk u.nk u.nn)).2)]),ve (iv ((besideO v.neg v.mag (Nm.mk u.nk u.nn)).1)),ve (.bool ((besideO v.neg v.mag (Nm.mk u.nk u.nn)).2)),ve (iv ((besideO v.neg v.mag (Nm.mk u.nk u.nn)).1)),ve (.bool ((besideO v.neg v.mag (Nm.mk u.nk u.nn)).2))] ak (.eq (.eq (.eq (.eq (.eq (.eq (.eq (.eq (.eq (.nil)))))))))) ?_ ?_
 exact .f (fun k=>k.fx 2 bK)<| .t (fun _ w hn k=>⟨_,v_load rfl (k.eq1 0 26 rfl) (l_part Tryz.isAgg26 Tryz.sizeOf26 (a3.new_ hn) lb),rfl⟩)<| .f (fun k=>k.fx 3 a1)<| .t (fun _ w hn k=>⟨_,v_load rfl (k.eq1 2 28 rfl) (l_part Tryz.isAgg23 Tryz.sizeOf23 (aw.new_ hn) lb),rfl⟩)<| .o1 (ck rfl rfl rfl (fun _ w hn k=>⟨#[.agg #[.bool v.neg,sv Av v.mag cv],nv (Nm.mk u.nk u.nn)],args2 (k.eq1 1 27 rfl) (k.eq1 3 29 rfl),fun _=>by kernel_rfl,beside_c v.neg _ v.mag _ (Nm.mk u.nk u.nn) _ (hmv.new_ (au.transNew hn)) hvv.limbs (by first|omega|(simp only [List.length_nil,List.length_take,List.length_drop]; omega)|(simp only [List.length_cons,List.length_nil]; omega)) (by omega) (by omega)⟩) fun _=>rfl)<| .t (fun _ w hn k=>⟨_,v_extract rfl (k.eq1 4 30 rfl) rfl,rfl⟩)<| .t (fun _ w hn k=>⟨_,v_extract rfl (k.eq1 4 30 rfl) rfl,rfl⟩)<| .a (fun k=>k.eq1 5 31 rfl)<| .a (fun k=>k.eq1 6 32 rfl) .nil
 refine aftI ak aY au fun dm dn cL b0 b1 cM a5=>?_
 have cp:=a5.ge 7 4 rfl
 have cq:=a5.ge 8 5 rfl
 refine st_nil (bZ _ _ ?_)
 refine wp_ret (ret_k b0 (v:=.tuple #[iv ((besideO v.neg v.mag (Nm.mk u.nk u.nn)).1),.bool ((besideO v.neg v.mag (Nm.mk u.nk u.nn)).2)]) (res_tt rfl cp cq _) ?_)
 refine ⟨?_,b1⟩
 show Ending.returned (.tuple #[iv ((besideO v.neg v.mag (Nm.mk u.nk u.nn)).1),.bool ((besideO v.neg v.mag (Nm.mk u.nk u.nn)).2)])=Ending.returned (.tuple #[iv ((orderO v u).1),.bool ((orderO v u).2)])
 first|rfl|(simp only [orderO,aa,bsm] <;> first|rfl|(simp only [orderO,aa,ab,a4,bsm] <;> rfl))|(exfalso; omega)
 have bh:=oF ab
 have b2:=hB bL ab
 refine wp_cond_false b2 ?_
 refine wp_seq_k fun dp b3=>?_
 refine wp_g0 [true,true,true,true] [] 65
   [ve (pv af),ve (iv u.k),ve (.bool (decide (u.k=4))),ve (.bool (decide (u.k=4)))] ak (.eq (.eq (.eq (.eq (.nil))))) ?_ ?_
 exact .f (fun k=>k.fx 3 a1)<| .t (fun _ w hn k=>⟨_,v_load rfl (k.eq1 0 34 rfl) (l_one Tryz.isAgg3 ((aw.new_ hn).cell 0)),rfl⟩)<| .t (fun _ w hn k=>⟨_,v_bin rfl (k.eq1 1 35 rfl) rfl (fun _=>rfl) (r_eql rfl),rfl⟩)<| .a (fun k=>k.eq1 2 36 rfl) .nil
 refine aftI ak aY au fun dq dr am a6 ax a7 ay=>?_
 have a8:=ay.fx 2 bK
 have a9:=ay.fx 3 a1
 have bM:=ay.ge 3 33 rfl
 have az:=a3.new_ a7
 have aA:=aw.new_ a7
 refine st_nil (b3 _ _ ?_)
 rcases bc (decide (u.k=4)) with ac|ac
 have bi:=oT ac
 have b4:=hB bM ac
 refine wp_cond_true b4 ?_
 refine wp_seq_k fun ds b5=>?_
 refine wp_g0 (.replicate 10 true) [] 65
   [ve (.pointer (some ⟨af,3,none⟩)),ve (.agg #[.bool u.neg,sv Au u.mag cu]),ve (.pointer (some ⟨q9,1,none⟩)),ve (nv (Nm.mk v.nk v.nn)),ve (.tuple #[iv ((besideO u.neg u.mag (Nm.mk v.nk v.nn)).1),.bool ((besideO u.neg u.mag (Nm.mk v.nk v.nn)).2)]),ve (.tuple #[iv ((besideO u.neg u.mag (Nm.mk v.nk v.nn)).1),.bool ((besideO u.neg u.mag (Nm.mk v.nk v.nn)).2)]),ve (iv ((besideO u.neg u.mag (Nm.mk v.nk v.nn)).1)),ve (.bool ((besideO u.neg u.mag (Nm.mk v.nk v.nn)).2)),ve (iv ((besideO u.neg u.mag (Nm.mk v.nk v.nn)).1)),ve (.bool ((besideO u.neg u.mag (Nm.mk v.nk v.nn)).2))] am (.eq (.eq (.eq (.eq (.eq (.eq (.eq (.eq (.eq (.eq (.nil))))))))))) ?_ ?_
 exact .f (fun k=>k.fx 3 a9)<| .t (fun _ w hn k=>⟨_,v_load rfl (k.eq1 0 38 rfl) (l_part Tryz.isAgg26 Tryz.sizeOf26 (aA.new_ hn) lb),rfl⟩)<| .f (fun k=>k.fx 2 a8)<| .t (fun _ w hn k=>⟨_,v_load rfl (k.eq1 2 40 rfl) (l_part Tryz.isAgg23 Tryz.sizeOf23 (az.new_ hn) lb),rfl⟩)<| .o1 (ck rfl rfl rfl (fun _ w hn k=>⟨#[.agg #[.bool u.neg,sv Au u.mag cu],nv (Nm.mk v.nk v.nn)],args2 (k.eq1 1 39 rfl) (k.eq1 3 41 rfl),fun _=>by kernel_rfl,beside_c u.neg _ u.mag _ (Nm.mk v.nk v.nn) _ (hmu.new_ (ax.transNew hn)) hvu.limbs (by first|omega|(simp only [List.length_nil,List.length_take,List.length_drop]; omega)|(simp only [List.length_cons,List.length_nil]; omega)) (by omega) (by omega)⟩) fun _=>rfl)<| .m (fun k=>k.eq1 4 42 rfl)<| .t (fun _ w hn k=>⟨_,v_extract rfl (k.eq1 5 37 rfl) rfl,rfl⟩)<| .t (fun _ w hn k=>⟨_,v_extract rfl (k.eq1 5 37 rfl) rfl,rfl⟩)<| .a (fun k=>k.eq1 6 43 rfl)<| .a (fun k=>k.eq1 7 44 rfl) .nil
 refine aftI am a6 ax fun dt dw ba b6 b7 cN bb=>?_
 have cr:=bb.ge 8 6 rfl
 have ct:=bb.ge 9 7 rfl
 refine st_nil (b5 _ _ (wp_seq_k fun cO bj=>?_))
 refine wp_g0 [true,true,true,true,true] [] 65
   [ve (iv ((besideO u.neg u.mag (Nm.mk v.nk v.nn)).1)),ve (iv (-((besideO u.neg u.mag (Nm.mk v.nk v.nn)).1))),ve (.bool ((besideO u.neg u.mag (Nm.mk v.nk v.nn)).2)),ve (iv (-((besideO u.neg u.mag (Nm.mk v.nk v.nn)).1))),ve (.bool ((besideO u.neg u.mag (Nm.mk v.nk v.nn)).2))] ba (.eq (.eq (.eq (.eq (.eq (.nil)))))) ?_ ?_
 exact .m (fun k=>k.fx 6 cr)<| .t (fun _ w hn k=>⟨_,v_neg rfl (k.eq1 0 45 rfl) (by omega),rfl⟩)<| .m (fun k=>k.fx 7 ct)<| .a (fun k=>k.eq1 1 46 rfl)<| .a (fun k=>k.eq1 2 47 rfl) .nil
 refine aftI ba b6 b7 fun cP cQ cz bk bl cA aC=>?_
 have b8:=aC.ge 3 4 rfl
 have b9:=aC.ge 4 5 rfl
 refine st_nil (bj _ _ ?_)
 refine wp_ret (ret_k bk (v:=.tuple #[iv (-((besideO u.neg u.mag (Nm.mk v.nk v.nn)).1)),.bool ((besideO u.neg u.mag (Nm.mk v.nk v.nn)).2)]) (res_tt rfl b8 b9 _) ?_)
 refine ⟨?_,bl⟩
 show Ending.returned (.tuple #[iv (-((besideO u.neg u.mag (Nm.mk v.nk v.nn)).1)),.bool ((besideO u.neg u.mag (Nm.mk v.nk v.nn)).2)])=Ending.returned (.tuple #[iv ((orderO v u).1),.bool ((orderO v u).2)])
 first|rfl|(simp only [orderO,aa,bsm] <;> first|rfl|(simp only [orderO,aa,ab,ac,bsm] <;> rfl))|(exfalso; omega)
 have bi:=oF ac
 have bm:=hB bM ac
 refine wp_cond_false bm ?_
 refine wp_seq_k fun cR bn=>?_
 refine wp_g0 [true,true,true,true,true,true] [] 65
   [ve (.pointer (some ⟨q9,1,none⟩)),ve (nv (Nm.mk v.nk v.nn)),ve (.pointer (some ⟨af,1,none⟩)),ve (nv (Nm.mk u.nk u.nn)),ve (.bool (lessM (Nm.mk v.nk v.nn) (Nm.mk u.nk u.nn))),ve (.bool (lessM (Nm.mk v.nk v.nn) (Nm.mk u.nk u.nn)))] am (.eq (.eq (.eq (.eq (.eq (.eq (.nil))))))) ?_ ?_
 exact .f (fun k=>k.fx 2 a8)<| .t (fun _ w hn k=>⟨_,v_load rfl (k.eq1 0 49 rfl) (l_part Tryz.isAgg23 Tryz.sizeOf23 (az.new_ hn) lb),rfl⟩)<| .f (fun k=>k.fx 3 a9)<| .t (fun _ w hn k=>⟨_,v_load rfl (k.eq1 2 51 rfl) (l_part Tryz.isAgg23 Tryz.sizeOf23 (aA.new_ hn) lb),rfl⟩)<| .o1 (ck rfl rfl rfl (fun _ w hn k=>⟨#[nv (Nm.mk v.nk v.nn),nv (Nm.mk u.nk u.nn)],args2 (k.eq1 1 50 rfl) (k.eq1 3 52 rfl),fun _=>by kernel_rfl,nless_c (Nm.mk v.nk v.nn) (Nm.mk u.nk u.nn) _ ⟩) fun _=>rfl)<| .a (fun k=>k.eq1 4 53 rfl) .nil
 refine aftI am a6 ax fun cS cU ag aD aE aF an=>?_
 have bd:=an.fx 2 a8
 have be:=an.fx 3 a9
 have bf:=an.ge 5 48 rfl
 have aG:=az.new_ aF
 have aH:=aA.new_ aF
 refine st_nil (bn _ _ ?_)
 rcases bc (lessM (Nm.mk v.nk v.nn) (Nm.mk u.nk u.nn)) with ad|ad
 have bo:=hB bf ad
 refine wp_cond_true bo ?_
 refine wp_seq_k fun cV bp=>?_
 refine wp_g0 [true,true] [] 65
   [ve (iv (-1)),vT] ag (.eq (.eq (.nil))) ?_ ?_
 exact .t (fun _ w hn k=>⟨_,v_assign rfl rfl,rfl⟩)<| .t (fun _ w hn k=>⟨_,v_assign rfl rfl,rfl⟩) .nil
 refine aftI ag aD aE fun cW cX cB bq br cC aI=>?_
 have ca:=aI.ge 0 4 rfl
 have cb:=aI.ge 1 5 rfl
 refine st_nil (bp _ _ ?_)
 refine wp_ret (ret_k bq (v:=.tuple #[iv (-1),.bool true]) (res_tt rfl ca cb _) ?_)
 refine ⟨?_,br⟩
 show Ending.returned (.tuple #[iv (-1),.bool true])=Ending.returned (.tuple #[iv ((orderO v u).1),.bool ((orderO v u).2)])
 first|rfl|(simp only [orderO,aa,bsm] <;> first|rfl|(simp only [orderO,aa,ab,ac,ad,bsm] <;> rfl))|(exfalso; omega)
 have bs:=hB bf ad
 refine wp_cond_false bs ?_
 refine wp_seq_k fun cY bt=>?_
 refine wp_g0 [true,true,true,true,true,true] [] 65
   [ve (.pointer (some ⟨q9,1,none⟩)),ve (nv (Nm.mk v.nk v.nn)),ve (.pointer (some ⟨af,1,none⟩)),ve (nv (Nm.mk u.nk u.nn)),ve (.bool (equalM (Nm.mk v.nk v.nn) (Nm.mk u.nk u.nn))),ve (.bool (equalM (Nm.mk v.nk v.nn) (Nm.mk u.nk u.nn)))] ag (.eq (.eq (.eq (.eq (.eq (.eq (.nil))))))) ?_ ?_
 exact .f (fun k=>k.fx 2 bd)<| .t (fun _ w hn k=>⟨_,v_load rfl (k.eq1 0 55 rfl) (l_part Tryz.isAgg23 Tryz.sizeOf23 (aG.new_ hn) lb),rfl⟩)<| .f (fun k=>k.fx 3 be)<| .t (fun _ w hn k=>⟨_,v_load rfl (k.eq1 2 57 rfl) (l_part Tryz.isAgg23 Tryz.sizeOf23 (aH.new_ hn) lb),rfl⟩)<| .o1 (ck rfl rfl rfl (fun _ w hn k=>⟨#[nv (Nm.mk v.nk v.nn),nv (Nm.mk u.nk u.nn)],args2 (k.eq1 1 56 rfl) (k.eq1 3 58 rfl),fun _=>by kernel_rfl,equal_c (Nm.mk v.nk v.nn) (Nm.mk u.nk u.nn) _ ⟩) fun _=>rfl)<| .a (fun k=>k.eq1 4 59 rfl) .nil
 refine aftI ag aD aE fun cZ c0 ah aJ aK aL ao=>?_
 have cc:=ao.fx 2 bd
 have cd:=ao.fx 3 be
 have bg:=ao.ge 5 54 rfl
 have bu:=aG.new_ aL
 have bv:=aH.new_ aL
 refine st_nil (bt _ _ ?_)
 rcases bc (equalM (Nm.mk v.nk v.nn) (Nm.mk u.nk u.nn)) with ae|ae
 have bw:=hB bg ae
 refine wp_cond_true bw ?_
 refine wp_seq_k fun c1 bx=>?_
 refine wp_g0 [true,true] [] 65
   [ve (iv 0),vT] ah (.eq (.eq (.nil))) ?_ ?_
 exact .t (fun _ w hn k=>⟨_,v_assign rfl rfl,rfl⟩)<| .t (fun _ w hn k=>⟨_,v_assign rfl rfl,rfl⟩) .nil
 refine aftI ah aJ aK fun c2 c3 cD bz bA cE aM=>?_
 have ce:=aM.ge 0 4 rfl
 have cf:=aM.ge 1 5 rfl
 refine st_nil (bx _ _ ?_)
 refine wp_ret (ret_k bz (v:=.tuple #[iv 0,.bool true]) (res_tt rfl ce cf _) ?_)
 refine ⟨?_,bA⟩
 show Ending.returned (.tuple #[iv 0,.bool true])=Ending.returned (.tuple #[iv ((orderO v u).1),.bool ((orderO v u).2)])
 first|rfl|(simp only [orderO,aa,bsm] <;> first|rfl|(simp only [orderO,aa,ab,ac,ad,ae,bsm] <;> rfl))|(exfalso; omega)
 have bB:=hB bg ae
 refine wp_cond_false bB ?_
 refine wp_skip ?_
 refine bQ _ _ ?_
 refine wp_seq_k fun c4 bC=>?_
 refine wp_g0 [true,true,true,true,true,true,true] [] 65
   [ve (.pointer (some ⟨af,1,none⟩)),ve (nv (Nm.mk u.nk u.nn)),ve (.pointer (some ⟨q9,1,none⟩)),ve (nv (Nm.mk v.nk v.nn)),ve (.bool (lessM (Nm.mk u.nk u.nn) (Nm.mk v.nk v.nn))),ve (iv 1),ve (.bool (lessM (Nm.mk u.nk u.nn) (Nm.mk v.nk v.nn)))] ah (.eq (.eq (.eq (.eq (.eq (.eq (.eq (.nil)))))))) ?_ ?_
 exact .f (fun k=>k.fx 3 cd)<| .t (fun _ w hn k=>⟨_,v_load rfl (k.eq1 0 60 rfl) (l_part Tryz.isAgg23 Tryz.sizeOf23 (bv.new_ hn) lb),rfl⟩)<| .f (fun k=>k.fx 2 cc)<| .t (fun _ w hn k=>⟨_,v_load rfl (k.eq1 2 62 rfl) (l_part Tryz.isAgg23 Tryz.sizeOf23 (bu.new_ hn) lb),rfl⟩)<| .o1 (ck rfl rfl rfl (fun _ w hn k=>⟨#[nv (Nm.mk u.nk u.nn),nv (Nm.mk v.nk v.nn)],args2 (k.eq1 1 61 rfl) (k.eq1 3 63 rfl),fun _=>by kernel_rfl,nless_c (Nm.mk u.nk u.nn) (Nm.mk v.nk v.nn) _ ⟩) fun _=>rfl)<| .t (fun _ w hn k=>⟨_,v_assign rfl rfl,rfl⟩)<| .a (fun k=>k.eq1 4 64 rfl) .nil
 refine aftI ah aJ aK fun c5 c6 cF bD bE cG aN=>?_
 have ch:=aN.ge 5 4 rfl
 have ci:=aN.ge 6 5 rfl
 refine st_nil (bC _ _ ?_)
 refine wp_ret (ret_k bD (v:=.tuple #[iv 1,.bool (lessM (Nm.mk u.nk u.nn) (Nm.mk v.nk v.nn))]) (res_tt rfl ch ci _) ?_)
 refine ⟨?_,bE⟩
 show Ending.returned (.tuple #[iv 1,.bool (lessM (Nm.mk u.nk u.nn) (Nm.mk v.nk v.nn))])=Ending.returned (.tuple #[iv ((orderO v u).1),.bool ((orderO v u).2)])
 first|rfl|(simp only [orderO,aa,bsm] <;> first|rfl|(simp only [orderO,aa,ab,ac,ad,ae,bsm] <;> rfl))|(exfalso; omega)
theorem truthN_c (t:Bool) (w:World):Calls Tryz.prog 39 #[.bool t] w (IsRet (vv (Vl.mk 2 0 0 false [] [] (truthR t)) none 0 none 0) w):=by
 refine enter_abs Tryz.func39 rfl fun a0 ac aX hp=>?_
 have ac:a0.tmps.size=6:=ac
 have an:New w w:=Upd.refl _ _
 have hp0:a0.eval (.tmp 0)=.bool t:=hp 0 _ rfl
 refine wp_seq_k fun K1 aY=>?_
 refine wp_g [true] [] [] 6
   [IsNew w 29 z7]
   [0] (newsCons (fun v w h=>IsNew.old h) newsNil) ac (.nw (.nil)) ?_ (fun i h=>by cases h) ?_
 exact .o2 (step_allocN (cs:=z7) (t:=29) rfl (noG rfl) (fun _ w hn k=>rfl) (fun q _ hq hb=>⟨q,rfl,hq,hb⟩)) .nil
 refine aftI ac aX an fun a2 w3 ao aZ ax bb ap=>?_
 have h8:=ap.fx 0 hp0
 obtain⟨aq,h9,ay,az⟩:=ap.G 0 2
 have a6:=Nat.le_trans an.size ay
 refine st_nil (aY _ _ (wp_seq_k fun bd aA=>?_))
 refine wp_seq_k fun be aB=>?_
 refine wp_g0 [true] [] 6
   [ve (.bool t)] ao (.eq (.nil)) ?_ ?_
 exact .m (fun k=>k.fx 0 h8) .nil
 refine aftI ao aZ ax fun bf bg ab ad ae aC af=>?_
 have ar:=af.fx 2 h9
 have au:=af.ge 0 3 rfl
 have ag:=az.new_ aC
 refine st_nil (aB _ _ ?_)
 rcases bc (t) with aa|aa
 have aD:=hB au aa
 refine wp_cond_true aD ?_
 refine wp_seq_k fun bh aE=>?_
 refine wp_g0 [true,false] [(1,false)] 6
   [ve (vv (Vl.mk 2 0 0 false [] [] 1) none 0 none 0),vt] ab (.eq (.tt (.nil))) ?_ ?_
 exact .t (fun _ w hn k=>⟨_,v_build (ps:=[(0,iv 2),(4,iv 1)]) rfl (parts2 rfl rfl) (by kernel_rfl),rfl⟩)<| .off .nil
 refine aftI ab ad ae fun bi bj a7 aF aG aH ah=>?_
 have av:=ah.fx 2 ar
 have a1:=ah.ge 0 4 rfl
 have aI:=ag.new_ aH
 obtain⟨a3,aj,ak,aJ,a8⟩:=s_many (P:=Tryz.prog) (t:=29) (i:=0) [iv 2,iv 0,iv 0,.bool false,sv none ([]) 0,sv none ([]) 0,iv 1] Tryz.sizeOf29 rfl rfl rfl aI lb
 have aK:Blk a3 aq 29 [iv 2,iv 0,iv 0,.bool false,sv none ([]) 0,sv none ([]) 0,iv 1]:=ak
 refine st_act rfl rfl fun bk aL=>a_store' rfl av a1 aj (aL _ _ trivial ?_)
 have aM:=aG.trans aJ (fun _ h b=>by subst b; omega)
 refine st_nil (aE _ _ ?_)
 refine wp_ret (ret_k aF (v:=vv (Vl.mk 2 0 0 false [] [] 1) none 0 none 0) (res_c rfl av (l_agg Tryz.isAgg29 Tryz.sizeOf29 aK rfl)) ?_)
 refine ⟨?_,aM⟩
 show Ending.returned (vv (Vl.mk 2 0 0 false [] [] 1) none 0 none 0)=Ending.returned (vv (Vl.mk 2 0 0 false [] [] (truthR t)) none 0 none 0)
 first|rfl|(simp only [truthR,aa,bsm] <;> rfl)|(exfalso; omega)
 have aN:=hB au aa
 refine wp_cond_false aN ?_
 refine wp_skip ?_
 refine aA _ _ ?_
 refine wp_seq_k fun bl aO=>?_
 refine wp_g0 [true,false] [(1,false)] 6
   [ve (vv (Vl.mk 2 0 0 false [] [] 0) none 0 none 0),vt] ab (.eq (.tt (.nil))) ?_ ?_
 exact .t (fun _ w hn k=>⟨_,v_build (ps:=[(0,iv 2)]) rfl (parts1 rfl) (by kernel_rfl),rfl⟩)<| .off .nil
 refine aftI ab ad ae fun bm bn a9 aP aQ aR ai=>?_
 have aw:=ai.fx 2 ar
 have a4:=ai.ge 0 5 rfl
 have aS:=ag.new_ aR
 obtain⟨a5,al,am,aT,ba⟩:=s_many (P:=Tryz.prog) (t:=29) (i:=0) [iv 2,iv 0,iv 0,.bool false,sv none ([]) 0,sv none ([]) 0,iv 0] Tryz.sizeOf29 rfl rfl rfl aS lb
 have aU:Blk a5 aq 29 [iv 2,iv 0,iv 0,.bool false,sv none ([]) 0,sv none ([]) 0,iv 0]:=am
 refine st_act rfl rfl fun bo aV=>a_store' rfl aw a4 al (aV _ _ trivial ?_)
 have aW:=aQ.trans aT (fun _ h b=>by subst b; omega)
 refine st_nil (aO _ _ ?_)
 refine wp_ret (ret_k aP (v:=vv (Vl.mk 2 0 0 false [] [] 0) none 0 none 0) (res_c rfl aw (l_agg Tryz.isAgg29 Tryz.sizeOf29 aU rfl)) ?_)
 refine ⟨?_,aW⟩
 show Ending.returned (vv (Vl.mk 2 0 0 false [] [] 0) none 0 none 0)=Ending.returned (vv (Vl.mk 2 0 0 false [] [] (truthR t)) none 0 none 0)
 first|rfl|(simp only [truthR,aa,bsm] <;> rfl)|(exfalso; omega)
theorem less_c (v:Vl) (Av:Option Addr) (cv:Nat) (Bv:Option Addr) (dv:Nat) (u:Vl) (Au:Option Addr) (cu:Nat) (Bu:Option Addr) (du:Nat) (t:Bool) (n:Bool) (w:World) (hmv:SRow w .u32 Av v.mag cv) (hsv:SRow w .u16 Bv v.s dv) (hmu:SRow w .u32 Au u.mag cu) (hsu:SRow w .u16 Bu u.s du) (hvv:VOk v) (hvu:VOk u):Calls Tryz.prog 38 #[vv v Av cv Bv dv,vv u Au cu Bu du,.bool t,.bool n] w (IsRet (.tuple #[vv (Vl.mk (lessT v u t n).1 0 0 false [] [] (lessT v u t n).2.1) none 0 none 0,iv ((lessT v u t n).2.2)]) w):=by
 refine enter_abs Tryz.func38 rfl fun a0 ci ka hp=>?_
 have ci:a0.tmps.size=100:=ci
 have cj:New w w:=Upd.refl _ _
 have hp0:a0.eval (.tmp 0)=vv v Av cv Bv dv:=hp 0 _ rfl
 have hp1:a0.eval (.tmp 1)=vv u Au cu Bu du:=hp 1 _ rfl
 have hp2:a0.eval (.tmp 2)=.bool t:=hp 2 _ rfl
 have hp3:a0.eval (.tmp 3)=.bool n:=hp 3 _ rfl
 refine wp_seq_k fun K1 kb=>?_
 refine wp_g [true,true,true,true] [] [] 100
   [IsNew w 29 (c7 v Av cv Bv dv),IsNew w 29 (c7 u Au cu Bu du),IsNew w 29 z7,ve (iv 0)]
   [0,1,2] (newsCons (fun v w h=>IsNew.old h) (newsCons (fun v w h=>IsNew.old h) (newsCons (fun v w h=>IsNew.old h) newsNil))) ci (.nw (.nw (.nw (.eq (.nil))))) ?_ (fun i h=>by cases h) ?_
 exact .o2 (step_allocN (cs:=(c7 v Av cv Bv dv)) (t:=29) rfl (noG rfl) (fun _ w hn k=>v_box rfl (k.fx 0 hp0) (fun w=>rfl)) (fun q _ hq hb=>⟨q,rfl,hq,hb⟩))<| .o2 (step_allocN (cs:=(c7 u Au cu Bu du)) (t:=29) rfl (noG rfl) (fun _ w hn k=>v_box rfl (k.fx 1 hp1) (fun w=>rfl)) (fun q _ hq hb=>⟨q,rfl,hq,hb⟩))<| .o2 (step_allocN (cs:=z7) (t:=29) rfl (noG rfl) (fun _ w hn k=>rfl) (fun q _ hq hb=>⟨q,rfl,hq,hb⟩))<| .t (fun _ w hn k=>⟨_,v_assign rfl rfl,rfl⟩) .nil
 refine aftI ci ka cj fun a2 w3 hZ kc ih mr bk=>?_
 have h8:=bk.fx 2 hp2
 have h9:=bk.fx 3 hp3
 obtain⟨aZ,cl,ii,dh⟩:=bk.G 0 4
 obtain⟨aQ,cm,ij,di⟩:=bk.G 1 5
 obtain⟨aF,dj,ik,il⟩:=bk.G 2 8
 have hne22:aZ ≠ aQ:=bk.ne 0 1 4 5 cl cm
 have hne23:aZ ≠ aF:=bk.ne 0 2 4 8 cl dj
 have hne24:aQ ≠ aF:=bk.ne 1 2 5 8 cm dj
 have k6:=Nat.le_trans cj.size ii
 have k7:=Nat.le_trans cj.size ij
 have k8:=Nat.le_trans cj.size ik
 refine st_nil (kb _ _ (wp_seq_k fun ms im=>?_))
 refine wp_block ?_
 refine wp_seq_k fun mt io=>?_
 refine wp_g0 (.replicate 9 true) [] 100
   [ve (pv aZ),ve (iv v.k),ve (.bool (decide (v.k=6))),ve (.bool (decide (v.k=6))),ve (gq (!(decide (v.k=6))) (pv aQ)),ve (gq (!(decide (v.k=6))) (iv u.k)),ve (gq (!(decide (v.k=6))) (.bool (decide (u.k=6)))),ve (.bool ((decide (v.k=6)) || (decide (u.k=6)))),ve (.bool ((decide (v.k=6)) || (decide (u.k=6))))] hZ (.eq (.eq (.eq (.eq (.eq (.eq (.eq (.eq (.eq (.nil)))))))))) ?_ ?_
 exact .f (fun k=>k.fx 4 cl)<| .t (fun _ w hn k=>⟨_,v_load rfl (k.eq1 0 16 rfl) (l_one Tryz.isAgg3 ((dh.new_ hn).cell 0)),rfl⟩)<| .t (fun _ w hn k=>⟨_,v_bin rfl (k.eq1 1 17 rfl) rfl (fun _=>rfl) (r_eql rfl),rfl⟩)<| .m (fun k=>k.eq1 2 18 rfl)<| .o1 (sc (G:=(!(decide (v.k=6)))) rfl rfl rfl (fun _ _ k=>g0' (k.eq1 3 19 rfl)) (fun hG _ w hn k=>v_field rfl (k.fx 5 cm) (fun w=>rfl)))<| .o1 (sc (G:=(!(decide (v.k=6)))) rfl rfl rfl (fun _ _ k=>g0' (k.eq1 3 19 rfl)) (fun hG _ w hn k=>v_load rfl (cT hG (k.eq1 4 20 rfl)) (l_one Tryz.isAgg3 ((di.new_ hn).cell 0))))<| .o1 (sc (G:=(!(decide (v.k=6)))) rfl rfl rfl (fun _ _ k=>g0' (k.eq1 3 19 rfl)) (fun hG _ w hn k=>v_bin rfl (cT hG (k.eq1 5 21 rfl)) rfl (fun _=>rfl) (r_eql rfl)))<| .t (fun _ w hn k=>⟨_,v_or rfl (k.eq1 3 19 rfl) rfl (fun hg=>(cT (nt hg) (k.eq1 6 22 rfl))),rfl⟩)<| .a (fun k=>k.eq1 7 23 rfl) .nil
 refine aftI hZ kc ih fun mu mv bI dk dl b7 bh=>?_
 have kd:=bh.fx 2 h8
 have ke:=bh.fx 3 h9
 have h3:=bh.fx 4 cl
 have h4:=bh.fx 5 cm
 have h5:=bh.fx 8 dj
 have h6:=bh.ge 8 15 rfl
 have dm:=dh.new_ b7
 have dn:=di.new_ b7
 have dp:=il.new_ b7
 refine st_nil (io _ _ ?_)
 rcases bc (((decide (v.k=6)) || (decide (u.k=6)))) with aa|aa
 have ip:=hB h6 aa
 refine wp_cond_true ip ?_
 refine wp_seq_k fun mw iq=>?_
 refine wp_g0 [true,false,false] [(1,false),(2,true)] 100
   [ve (vv (Vl.mk 0 0 0 false [] [] 0) none 0 none 0),vt,vt] bI (.eq (.tt (.tt (.nil)))) ?_ ?_
 exact .t (fun _ w hn k=>⟨_,v_build (ps:=[]) rfl parts0 (by kernel_rfl),rfl⟩)<| .off<| .off .nil
 refine aftI bI dk dl fun h7 mx dq ir it iu dr=>?_
 have ia:=dr.fx 8 h5
 have ib:=dr.ge 0 24 rfl
 have iw:=dp.new_ iu
 obtain⟨kf,eJ,eK,ix,k9⟩:=s_many (P:=Tryz.prog) (t:=29) (i:=0) z7 Tryz.sizeOf29 rfl rfl rfl iw lb
 have iy:Blk kf aF 29 z7:=eK
 refine st_act rfl rfl fun my iz=>a_store' rfl ia ib eJ (iz _ _ trivial ?_)
 have iA:=it.trans ix (fun _ h b=>by subst b; omega)
 refine st_take rfl rfl (y_assign (v:=iv 3) rfl rfl) rfl ?_
 obtain⟨kg,bi⟩:∃ a',a'=h7.put (some 9) (iv 3):=⟨_,rfl⟩
 have la:=pz bi dq
 have iB:=pd bi ir
 have kh:=pn bi ia (by decide)
 have mz:=pn bi ib (by decide)
 have ki:kg.eval (.tmp 9)=iv 3:=by rw [bi]; exact put_same _ _ _ (by rw [dq]; decide)
 show stepsTo _ _ _ _ _ (h7.put (some 9) (iv 3)) _
 rw [← bi]
 refine st_nil (iq _ _ ?_)
 refine wp_ret (ret_k iB (v:=.tuple #[vv (Vl.mk 0 0 0 false [] [] 0) none 0 none 0,iv 3]) (res_ct rfl kh ki (l_agg Tryz.isAgg29 Tryz.sizeOf29 iy rfl)) ?_)
 refine ⟨?_,iA⟩
 show Ending.returned (.tuple #[vv (Vl.mk 0 0 0 false [] [] 0) none 0 none 0,iv 3])=Ending.returned (.tuple #[vv (Vl.mk (lessT v u t n).1 0 0 false [] [] (lessT v u t n).2.1) none 0 none 0,iv ((lessT v u t n).2.2)])
 first|rfl|(simp only [lessT,aa,bsm] <;> first|rfl|(simp only [lessT,aa,bsm] <;> rfl))|(exfalso; omega)
 have iC:=hB h6 aa
 have aG:(decide (v.k=6))=false:=ol aa
 have kM:=oF aG
 have aH:(decide (u.k=6))=false:=or_ aa
 have kN:=oF aH
 refine wp_cond_false iC ?_
 refine wp_seq_k fun mA iD=>?_
 refine wp_g0 (.replicate 9 true) [] 100
   [ve (pv aZ),ve (iv v.k),ve (.bool (decide (v.k=5))),ve (.bool (decide (v.k=5))),ve (gq (decide (v.k=5)) (pv aQ)),ve (gq (decide (v.k=5)) (iv u.k)),ve (gq (decide (v.k=5)) (.bool (decide (u.k=5)))),ve (.bool ((decide (v.k=5)) && (decide (u.k=5)))),ve (.bool ((decide (v.k=5)) && (decide (u.k=5))))] bI (.eq (.eq (.eq (.eq (.eq (.eq (.eq (.eq (.eq (.nil)))))))))) ?_ ?_
 exact .f (fun k=>k.fx 4 h3)<| .t (fun _ w hn k=>⟨_,v_load rfl (k.eq1 0 26 rfl) (l_one Tryz.isAgg3 ((dm.new_ hn).cell 0)),rfl⟩)<| .t (fun _ w hn k=>⟨_,v_bin rfl (k.eq1 1 27 rfl) rfl (fun _=>rfl) (r_eql rfl),rfl⟩)<| .m (fun k=>k.eq1 2 28 rfl)<| .o1 (sc (G:=(decide (v.k=5))) rfl rfl rfl (fun _ _ k=>g0 (k.eq1 3 29 rfl)) (fun hG _ w hn k=>v_field rfl (k.fx 5 h4) (fun w=>rfl)))<| .o1 (sc (G:=(decide (v.k=5))) rfl rfl rfl (fun _ _ k=>g0 (k.eq1 3 29 rfl)) (fun hG _ w hn k=>v_load rfl (cT hG (k.eq1 4 30 rfl)) (l_one Tryz.isAgg3 ((dn.new_ hn).cell 0))))<| .o1 (sc (G:=(decide (v.k=5))) rfl rfl rfl (fun _ _ k=>g0 (k.eq1 3 29 rfl)) (fun hG _ w hn k=>v_bin rfl (cT hG (k.eq1 5 31 rfl)) rfl (fun _=>rfl) (r_eql rfl)))<| .t (fun _ w hn k=>⟨_,v_and rfl (k.eq1 3 29 rfl) (fun hg=>(cT hg (k.eq1 6 32 rfl))) rfl,rfl⟩)<| .a (fun k=>k.eq1 7 33 rfl) .nil
 refine aftI bI dk dl fun mB mC bJ ds dt b8 bj=>?_
 have ic:=bj.fx 2 kd
 have id:=bj.fx 3 ke
 have cn:=bj.fx 4 h3
 have co:=bj.fx 5 h4
 have ie:=bj.fx 8 h5
 have ig:=bj.ge 8 25 rfl
 have bK:=dm.new_ b8
 have bL:=dn.new_ b8
 have dw:=dp.new_ b8
 refine st_nil (iD _ _ ?_)
 rcases bc (((decide (v.k=5)) && (decide (u.k=5)))) with ab|ab
 have iE:=hB ig ab
 have b9:(decide (v.k=5))=true:=al ab
 have kO:=oT b9
 have ca:(decide (u.k=5))=true:=ar ab
 have kP:=oT ca
 refine wp_cond_true iE ?_
 refine wp_seq_k fun mD dx=>?_
 refine wp_seq_k fun lc eL=>?_
 refine wp_g0 [true] [] 100
   [ve (.bool t)] bJ (.eq (.nil)) ?_ ?_
 exact .m (fun k=>k.fx 2 ic) .nil
 refine aftI bJ ds dt fun ld le bl cp bm bM a1=>?_
 have dy:=a1.fx 3 id
 have cb:=a1.fx 4 cn
 have cc:=a1.fx 5 co
 have dz:=a1.fx 8 ie
 have dA:=a1.ge 0 34 rfl
 have bN:=bK.new_ bM
 have bO:=bL.new_ bM
 have cq:=dw.new_ bM
 refine st_nil (eL _ _ ?_)
 rcases bc (t) with a3|a3
 have eM:=hB dA a3
 refine wp_cond_true eM ?_
 refine wp_g0 [true,true,false,false] [(2,false),(3,false)] 100
   [ve (vv u Au cu Bu du),ve (vv v Av cv Bv dv),vt,vt] bl (.eq (.eq (.tt (.tt (.nil))))) ?_ ?_
 exact .t (fun _ w hn k=>⟨_,v_load rfl (k.fx 5 cc) (l_agg Tryz.isAgg29 Tryz.sizeOf29 (bO.new_ hn) rfl),rfl⟩)<| .t (fun _ w hn k=>⟨_,v_load rfl (k.fx 4 cb) (l_agg Tryz.isAgg29 Tryz.sizeOf29 (bN.new_ hn) rfl),rfl⟩)<| .off<| .off .nil
 refine aftI bl cp bm fun lf lg cr eN eO bP aI=>?_
 have iF:=aI.fx 3 dy
 have dB:=aI.fx 4 cb
 have dC:=aI.fx 5 cc
 have iG:=aI.fx 8 dz
 have iH:=aI.ge 0 35 rfl
 have iI:=aI.ge 1 36 rfl
 have eP:=bN.new_ bP
 have eQ:=bO.new_ bP
 have eR:=cq.new_ bP
 obtain⟨iJ,dD,dE,eS,ct⟩:=s_many (P:=Tryz.prog) (t:=29) (i:=0) (c7 u Au cu Bu du) Tryz.sizeOf29 rfl rfl rfl eP lb
 have eT:Blk iJ aZ 29 (c7 u Au cu Bu du):=dE
 refine st_act rfl rfl fun lh eU=>a_store' rfl dB iH dD (eU _ _ trivial ?_)
 have eV:=ct _ _ _ (fun h=>hne22 h.symm) eQ
 have eW:=ct _ _ _ (fun h=>hne23 h.symm) eR
 have eX:=eO.trans eS (fun _ h b=>by subst b; omega)
 obtain⟨iK,dF,dG,eY,cw⟩:=s_many (P:=Tryz.prog) (t:=29) (i:=0) (c7 v Av cv Bv dv) Tryz.sizeOf29 rfl rfl rfl eV lb
 have eZ:Blk iK aQ 29 (c7 v Av cv Bv dv):=dG
 refine st_act rfl rfl fun li e0=>a_store' rfl dC iI dF (e0 _ _ trivial ?_)
 have e1:=cw _ _ _ (hne22) eT
 have e2:=cw _ _ _ (fun h=>hne24 h.symm) eW
 have bQ:=eX.trans eY (fun _ h b=>by subst b; omega)
 refine st_nil (dx _ _ (wp_seq_k fun lj e3=>?_))
 refine wp_g0 [true,true,true,true,true,true,true,true,false,false] [(8,false),(9,true)] 100
   [ve (.pointer (some ⟨aZ,5,none⟩)),ve (sv Bu u.s du),ve (.pointer (some ⟨aQ,5,none⟩)),ve (sv Bv v.s dv),ve (.bool (decide (cmpU u.s v.s < 0))),ve (.bool n),ve (.bool ((decide (cmpU u.s v.s < 0)) != n)),ve (vv (Vl.mk 2 0 0 false [] [] (truthR ((decide (cmpU u.s v.s < 0)) != n))) none 0 none 0),vt,vt] cr (.eq (.eq (.eq (.eq (.eq (.eq (.eq (.eq (.tt (.tt (.nil))))))))))) ?_ ?_
 exact .f (fun k=>k.fx 4 dB)<| .t (fun _ w hn k=>⟨_,v_load rfl (k.eq1 0 37 rfl) (l_one Tryz.isAgg27 ((e1.new_ hn).cell 5)),rfl⟩)<| .f (fun k=>k.fx 5 dC)<| .t (fun _ w hn k=>⟨_,v_load rfl (k.eq1 2 39 rfl) (l_one Tryz.isAgg27 ((eZ.new_ hn).cell 5)),rfl⟩)<| .o1 (ck rfl rfl rfl (fun _ w hn k=>⟨#[sv Bu u.s du,sv Bv v.s dv],args2 (k.eq1 1 38 rfl) (k.eq1 3 40 rfl),fun _=>by kernel_rfl,tless_c _ u.s _ _ v.s _ _ (hsu.new_ (bQ.transNew hn)) (hsv.new_ (bQ.transNew hn)) hvu.units hvv.units⟩) fun _=>rfl)<| .m (fun k=>k.fx 3 iF)<| .t (fun _ w hn k=>⟨_,v_bin rfl (k.eq1 4 41 rfl) (k.eq1 5 42 rfl) (fun _=>rfl) (r_neqB _ _),rfl⟩)<| .o1 (ck rfl rfl rfl (fun _ w hn k=>⟨#[.bool ((decide (cmpU u.s v.s < 0)) != n)],args1 (k.eq1 6 43 rfl),fun _=>by kernel_rfl,truthN_c ((decide (cmpU u.s v.s < 0)) != n) _ ⟩) fun _=>rfl)<| .off<| .off .nil
 refine aftI cr eN bQ fun dH lk cx e4 e5 e6 cy=>?_
 have dI:=cy.fx 8 iG
 have dJ:=cy.ge 7 44 rfl
 have e7:=e2.new_ e6
 obtain⟨iL,dK,dL,e8,kQ⟩:=s_many (P:=Tryz.prog) (t:=29) (i:=0) [iv 2,iv 0,iv 0,.bool false,sv none ([]) 0,sv none ([]) 0,iv (truthR ((decide (cmpU u.s v.s < 0)) != n))] Tryz.sizeOf29 rfl rfl rfl e7 lb
 have e9:Blk iL aF 29 [iv 2,iv 0,iv 0,.bool false,sv none ([]) 0,sv none ([]) 0,iv (truthR ((decide (cmpU u.s v.s < 0)) != n))]:=dL
 refine st_act rfl rfl fun ll fa=>a_store' rfl dI dJ dK (fa _ _ trivial ?_)
 have fb:=e5.trans e8 (fun _ h b=>by subst b; omega)
 refine st_take rfl rfl (y_assign (v:=iv 0) rfl rfl) rfl ?_
 obtain⟨iM,aJ⟩:∃ a',a'=dH.put (some 9) (iv 0):=⟨_,rfl⟩
 have kR:=pz aJ cx
 have fc:=pd aJ e4
 have iN:=pn aJ dI (by decide)
 have lm:=pn aJ dJ (by decide)
 have iO:iM.eval (.tmp 9)=iv 0:=by rw [aJ]; exact put_same _ _ _ (by rw [cx]; decide)
 show stepsTo _ _ _ _ _ (dH.put (some 9) (iv 0)) _
 rw [← aJ]
 refine st_nil (e3 _ _ ?_)
 refine wp_ret (ret_k fc (v:=.tuple #[vv (Vl.mk 2 0 0 false [] [] (truthR ((decide (cmpU u.s v.s < 0)) != n))) none 0 none 0,iv 0]) (res_ct rfl iN iO (l_agg Tryz.isAgg29 Tryz.sizeOf29 e9 rfl)) ?_)
 refine ⟨?_,fb⟩
 show Ending.returned (.tuple #[vv (Vl.mk 2 0 0 false [] [] (truthR ((decide (cmpU u.s v.s < 0)) != n))) none 0 none 0,iv 0])=Ending.returned (.tuple #[vv (Vl.mk (lessT v u t n).1 0 0 false [] [] (lessT v u t n).2.1) none 0 none 0,iv ((lessT v u t n).2.2)])
 first|rfl|(simp only [lessT,aa,ab,bsm] <;> first|rfl|(simp only [lessT,aa,aG,aH,ab,b9,ca,a3,bsm] <;> rfl))|(exfalso; omega)
 have fd:=hB dA a3
 refine wp_cond_false fd ?_
 refine wp_skip ?_
 refine dx _ _ ?_
 refine wp_seq_k fun ln fe=>?_
 refine wp_g0 [true,true,true,true,true,true,true,true,false,false] [(8,false),(9,true)] 100
   [ve (.pointer (some ⟨aZ,5,none⟩)),ve (sv Bv v.s dv),ve (.pointer (some ⟨aQ,5,none⟩)),ve (sv Bu u.s du),ve (.bool (decide (cmpU v.s u.s < 0))),ve (.bool n),ve (.bool ((decide (cmpU v.s u.s < 0)) != n)),ve (vv (Vl.mk 2 0 0 false [] [] (truthR ((decide (cmpU v.s u.s < 0)) != n))) none 0 none 0),vt,vt] bl (.eq (.eq (.eq (.eq (.eq (.eq (.eq (.eq (.tt (.tt (.nil))))))))))) ?_ ?_
 exact .f (fun k=>k.fx 4 cb)<| .t (fun _ w hn k=>⟨_,v_load rfl (k.eq1 0 37 rfl) (l_one Tryz.isAgg27 ((bN.new_ hn).cell 5)),rfl⟩)<| .f (fun k=>k.fx 5 cc)<| .t (fun _ w hn k=>⟨_,v_load rfl (k.eq1 2 39 rfl) (l_one Tryz.isAgg27 ((bO.new_ hn).cell 5)),rfl⟩)<| .o1 (ck rfl rfl rfl (fun _ w hn k=>⟨#[sv Bv v.s dv,sv Bu u.s du],args2 (k.eq1 1 38 rfl) (k.eq1 3 40 rfl),fun _=>by kernel_rfl,tless_c _ v.s _ _ u.s _ _ (hsv.new_ (bm.transNew hn)) (hsu.new_ (bm.transNew hn)) hvv.units hvu.units⟩) fun _=>rfl)<| .m (fun k=>k.fx 3 dy)<| .t (fun _ w hn k=>⟨_,v_bin rfl (k.eq1 4 41 rfl) (k.eq1 5 42 rfl) (fun _=>rfl) (r_neqB _ _),rfl⟩)<| .o1 (ck rfl rfl rfl (fun _ w hn k=>⟨#[.bool ((decide (cmpU v.s u.s < 0)) != n)],args1 (k.eq1 6 43 rfl),fun _=>by kernel_rfl,truthN_c ((decide (cmpU v.s u.s < 0)) != n) _ ⟩) fun _=>rfl)<| .off<| .off .nil
 refine aftI bl cp bm fun dM lo cz ff fg fh cA=>?_
 have dN:=cA.fx 8 dz
 have dO:=cA.ge 7 44 rfl
 have fi:=cq.new_ fh
 obtain⟨iP,dP,dQ,fj,kS⟩:=s_many (P:=Tryz.prog) (t:=29) (i:=0) [iv 2,iv 0,iv 0,.bool false,sv none ([]) 0,sv none ([]) 0,iv (truthR ((decide (cmpU v.s u.s < 0)) != n))] Tryz.sizeOf29 rfl rfl rfl fi lb
 have fk:Blk iP aF 29 [iv 2,iv 0,iv 0,.bool false,sv none ([]) 0,sv none ([]) 0,iv (truthR ((decide (cmpU v.s u.s < 0)) != n))]:=dQ
 refine st_act rfl rfl fun lp fl=>a_store' rfl dN dO dP (fl _ _ trivial ?_)
 have fm:=fg.trans fj (fun _ h b=>by subst b; omega)
 refine st_take rfl rfl (y_assign (v:=iv 0) rfl rfl) rfl ?_
 obtain⟨iQ,aK⟩:∃ a',a'=dM.put (some 9) (iv 0):=⟨_,rfl⟩
 have kT:=pz aK cz
 have fn:=pd aK ff
 have iR:=pn aK dN (by decide)
 have lq:=pn aK dO (by decide)
 have iS:iQ.eval (.tmp 9)=iv 0:=by rw [aK]; exact put_same _ _ _ (by rw [cz]; decide)
 show stepsTo _ _ _ _ _ (dM.put (some 9) (iv 0)) _
 rw [← aK]
 refine st_nil (fe _ _ ?_)
 refine wp_ret (ret_k fn (v:=.tuple #[vv (Vl.mk 2 0 0 false [] [] (truthR ((decide (cmpU v.s u.s < 0)) != n))) none 0 none 0,iv 0]) (res_ct rfl iR iS (l_agg Tryz.isAgg29 Tryz.sizeOf29 fk rfl)) ?_)
 refine ⟨?_,fm⟩
 show Ending.returned (.tuple #[vv (Vl.mk 2 0 0 false [] [] (truthR ((decide (cmpU v.s u.s < 0)) != n))) none 0 none 0,iv 0])=Ending.returned (.tuple #[vv (Vl.mk (lessT v u t n).1 0 0 false [] [] (lessT v u t n).2.1) none 0 none 0,iv ((lessT v u t n).2.2)])
 first|rfl|(simp only [lessT,aa,ab,bsm] <;> first|rfl|(simp only [lessT,aa,aG,aH,ab,b9,ca,a3,bsm] <;> rfl))|(exfalso; omega)
 have fo:=hB ig ab
 refine wp_cond_false fo ?_
 refine wp_seq_k fun lr fp=>?_
 refine wp_g0 (.replicate 19 true) [] 100
   [ve (pv aZ),ve (iv v.k),ve (.bool (decide (v.k=5))),ve (.bool (decide (v.k=5))),ve (gq (decide (v.k=5)) (pv aQ)),ve (gq (decide (v.k=5)) (iv u.k)),ve (gq (decide (v.k=5)) (.bool (decide (u.k=4)))),ve (.bool ((decide (v.k=5)) && (decide (u.k=4)))),ve (.bool ((decide (v.k=5)) && (decide (u.k=4)))),ve (gq (!((decide (v.k=5)) && (decide (u.k=4)))) (pv aZ)),ve (gq (!((decide (v.k=5)) && (decide (u.k=4)))) (iv v.k)),ve (gq (!((decide (v.k=5)) && (decide (u.k=4)))) (.bool (decide (v.k=4)))),ve (gq (!((decide (v.k=5)) && (decide (u.k=4)))) (.bool (decide (v.k=4)))),ve (gq ((!((decide (v.k=5)) && (decide (u.k=4)))) && (decide (v.k=4))) (pv aQ)),ve (gq ((!((decide (v.k=5)) && (decide (u.k=4)))) && (decide (v.k=4))) (iv u.k)),ve (gq ((!((decide (v.k=5)) && (decide (u.k=4)))) && (decide (v.k=4))) (.bool (decide (u.k=5)))),ve (gq (!((decide (v.k=5)) && (decide (u.k=4)))) (.bool ((decide (v.k=4)) && (decide (u.k=5))))),ve (.bool (((decide (v.k=5)) && (decide (u.k=4))) || ((decide (v.k=4)) && (decide (u.k=5))))),ve (.bool (((decide (v.k=5)) && (decide (u.k=4))) || ((decide (v.k=4)) && (decide (u.k=5)))))] bJ (.eq (.eq (.eq (.eq (.eq (.eq (.eq (.eq (.eq (.eq (.eq (.eq (.eq (.eq (.eq (.eq (.eq (.eq (.eq (.nil)))))))))))))))))))) ?_ ?_
 exact .f (fun k=>k.fx 4 cn)<| .t (fun _ w hn k=>⟨_,v_load rfl (k.eq1 0 46 rfl) (l_one Tryz.isAgg3 ((bK.new_ hn).cell 0)),rfl⟩)<| .t (fun _ w hn k=>⟨_,v_bin rfl (k.eq1 1 47 rfl) rfl (fun _=>rfl) (r_eql rfl),rfl⟩)<| .m (fun k=>k.eq1 2 48 rfl)<| .o1 (sc (G:=(decide (v.k=5))) rfl rfl rfl (fun _ _ k=>g0 (k.eq1 3 49 rfl)) (fun hG _ w hn k=>v_field rfl (k.fx 5 co) (fun w=>rfl)))<| .o1 (sc (G:=(decide (v.k=5))) rfl rfl rfl (fun _ _ k=>g0 (k.eq1 3 49 rfl)) (fun hG _ w hn k=>v_load rfl (cT hG (k.eq1 4 50 rfl)) (l_one Tryz.isAgg3 ((bL.new_ hn).cell 0))))<| .o1 (sc (G:=(decide (v.k=5))) rfl rfl rfl (fun _ _ k=>g0 (k.eq1 3 49 rfl)) (fun hG _ w hn k=>v_bin rfl (cT hG (k.eq1 5 51 rfl)) rfl (fun _=>rfl) (r_eql rfl)))<| .t (fun _ w hn k=>⟨_,v_and rfl (k.eq1 3 49 rfl) (fun hg=>(cT hg (k.eq1 6 52 rfl))) rfl,rfl⟩)<| .m (fun k=>k.eq1 7 53 rfl)<| .o1 (sc (G:=(!((decide (v.k=5)) && (decide (u.k=4))))) rfl rfl rfl (fun _ _ k=>g0' (k.eq1 8 54 rfl)) (fun hG _ w hn k=>v_field rfl (k.fx 4 cn) (fun w=>rfl)))<| .o1 (sc (G:=(!((decide (v.k=5)) && (decide (u.k=4))))) rfl rfl rfl (fun _ _ k=>g0' (k.eq1 8 54 rfl)) (fun hG _ w hn k=>v_load rfl (cT hG (k.eq1 9 55 rfl)) (l_one Tryz.isAgg3 ((bK.new_ hn).cell 0))))<| .o1 (sc (G:=(!((decide (v.k=5)) && (decide (u.k=4))))) rfl rfl rfl (fun _ _ k=>g0' (k.eq1 8 54 rfl)) (fun hG _ w hn k=>v_bin rfl (cT hG (k.eq1 10 56 rfl)) rfl (fun _=>rfl) (r_eql rfl)))<| .o1 (sc (G:=(!((decide (v.k=5)) && (decide (u.k=4))))) rfl rfl rfl (fun _ _ k=>g0' (k.eq1 8 54 rfl)) (fun hG _ w hn k=>v_move rfl (cT hG (k.eq1 11 57 rfl))))<| .o1 (sc (G:=((!((decide (v.k=5)) && (decide (u.k=4)))) && (decide (v.k=4)))) rfl rfl rfl (fun _ _ k=>g1 (k.eq1 12 58 rfl)) (fun hG _ w hn k=>v_field rfl (k.fx 5 co) (fun w=>rfl)))<| .o1 (sc (G:=((!((decide (v.k=5)) && (decide (u.k=4)))) && (decide (v.k=4)))) rfl rfl rfl (fun _ _ k=>g1 (k.eq1 12 58 rfl)) (fun hG _ w hn k=>v_load rfl (cT hG (k.eq1 13 59 rfl)) (l_one Tryz.isAgg3 ((bL.new_ hn).cell 0))))<| .o1 (sc (G:=((!((decide (v.k=5)) && (decide (u.k=4)))) && (decide (v.k=4)))) rfl rfl rfl (fun _ _ k=>g1 (k.eq1 12 58 rfl)) (fun hG _ w hn k=>v_bin rfl (cT hG (k.eq1 14 60 rfl)) rfl (fun _=>rfl) (r_eql rfl)))<| .o1 (sc (G:=(!((decide (v.k=5)) && (decide (u.k=4))))) rfl rfl rfl (fun _ _ k=>g0' (k.eq1 8 54 rfl)) (fun hG _ w hn k=>v_and rfl (cT hG (k.eq1 12 58 rfl)) (fun hg=>(cT (aj hG hg) (k.eq1 15 61 rfl))) rfl))<| .t (fun _ w hn k=>⟨_,v_or rfl (k.eq1 8 54 rfl) rfl (fun hg=>(cT (nt hg) (k.eq1 16 62 rfl))),rfl⟩)<| .a (fun k=>k.eq1 17 63 rfl) .nil
 refine aftI bJ ds dt fun ls iT bn cB a4 bR aL=>?_
 have iU:=aL.fx 2 ic
 have iV:=aL.fx 3 id
 have iW:=aL.fx 4 cn
 have iX:=aL.fx 5 co
 have dR:=aL.fx 8 ie
 have dS:=aL.ge 18 45 rfl
 have fq:=bK.new_ bR
 have cC:=bL.new_ bR
 have bS:=dw.new_ bR
 refine st_nil (fp _ _ ?_)
 rcases bc ((((decide (v.k=5)) && (decide (u.k=4))) || ((decide (v.k=4)) && (decide (u.k=5))))) with ac|ac
 have fs:=hB dS ac
 refine wp_cond_true fs ?_
 refine wp_seq_k fun lu ft=>?_
 refine wp_g0 [true,false,false] [(1,false),(2,true)] 100
   [ve (vv (Vl.mk 0 0 0 false [] [] 0) none 0 none 0),vt,vt] bn (.eq (.tt (.tt (.nil)))) ?_ ?_
 exact .t (fun _ w hn k=>⟨_,v_build (ps:=[]) rfl parts0 (by kernel_rfl),rfl⟩)<| .off<| .off .nil
 refine aftI bn cB a4 fun dT lv cD fu fv fw cE=>?_
 have dU:=cE.fx 8 dR
 have dV:=cE.ge 0 64 rfl
 have fy:=bS.new_ fw
 obtain⟨iY,dW,dX,fz,kU⟩:=s_many (P:=Tryz.prog) (t:=29) (i:=0) z7 Tryz.sizeOf29 rfl rfl rfl fy lb
 have fA:Blk iY aF 29 z7:=dX
 refine st_act rfl rfl fun lw fB=>a_store' rfl dU dV dW (fB _ _ trivial ?_)
 have fC:=fv.trans fz (fun _ h b=>by subst b; omega)
 refine st_take rfl rfl (y_assign (v:=iv 3) rfl rfl) rfl ?_
 obtain⟨iZ,aM⟩:∃ a',a'=dT.put (some 9) (iv 3):=⟨_,rfl⟩
 have kV:=pz aM cD
 have fD:=pd aM fu
 have i0:=pn aM dU (by decide)
 have lx:=pn aM dV (by decide)
 have i1:iZ.eval (.tmp 9)=iv 3:=by rw [aM]; exact put_same _ _ _ (by rw [cD]; decide)
 show stepsTo _ _ _ _ _ (dT.put (some 9) (iv 3)) _
 rw [← aM]
 refine st_nil (ft _ _ ?_)
 refine wp_ret (ret_k fD (v:=.tuple #[vv (Vl.mk 0 0 0 false [] [] 0) none 0 none 0,iv 3]) (res_ct rfl i0 i1 (l_agg Tryz.isAgg29 Tryz.sizeOf29 fA rfl)) ?_)
 refine ⟨?_,fC⟩
 show Ending.returned (.tuple #[vv (Vl.mk 0 0 0 false [] [] 0) none 0 none 0,iv 3])=Ending.returned (.tuple #[vv (Vl.mk (lessT v u t n).1 0 0 false [] [] (lessT v u t n).2.1) none 0 none 0,iv ((lessT v u t n).2.2)])
 first|rfl|(simp only [lessT,aa,ab,ac,bsm] <;> first|rfl|(simp only [lessT,aa,aG,aH,ab,ac,bsm] <;> rfl))|(exfalso; omega)
 have fE:=hB dS ac
 have an:((decide (v.k=5)) && (decide (u.k=4)))=false:=ol ac
 have ao:((decide (v.k=4)) && (decide (u.k=5)))=false:=or_ ac
 refine wp_cond_false fE ?_
 refine wp_skip ?_
 refine im _ _ ?_
 refine wp_seq_k fun ly fF=>?_
 refine wp_gS (fun W=>True) (fun W W' hn h=>trivial) trivial [true,true,true,true,true,true,false,false] [4] [(6,false),(7,true)] 100
   [ve (vv v Av cv Bv dv),(TP (numericV v).1 ((numericV v).2)),(TP (numericV v).1 ((numericV v).2)),(fun (v_:Value) (W:World)=>∃ (bu:Option Addr) (bv:Nat) (bw:Option Addr) (bx:Nat),v_=vv (numericV v).1 bu bv bw bx∧SRow W .u32 bu ((numericV v).1.mag) bv∧SRow W .u16 bw ((numericV v).1.s) bx),ve (iv ((numericV v).2)),IsNew iT 29 z7,vt,vt]
   [5] (newsCons (fun v w h=>IsNew.old h) newsNil) bn (.eq (.cons (fun _ _ _ n ⟨_,_,_,_,e,h,i⟩=>⟨_,_,_,_,e,h.new_ n,i.new_ n⟩) (.cons (fun _ _ _ n ⟨_,_,_,_,e,h,i⟩=>⟨_,_,_,_,e,h.new_ n,i.new_ n⟩) (.cons (fun _ _ _ n ⟨_,_,_,_,e,h,i⟩=>⟨_,_,_,_,e,h.new_ n,i.new_ n⟩) (.eq (.nw (.tt (.tt (.nil))))))))) ?_ ?_ ?_
 refine .t (fun _ w hn k=>⟨_,v_load rfl (k.fx 4 iW) (l_agg Tryz.isAgg29 Tryz.sizeOf29 (fq.new_ hn) rfl),rfl⟩) ?_
 refine .o1 (tkC rfl (noG rfl) rfl fun _ w hn k=>(by
       refine ⟨#[vv v Av cv Bv dv],_,args1 (k.eq1 0 66 rfl),fun w=>by kernel_rfl,cnumeric_c v _ _ _ _ _ (hmv.new_ (a4.transNew hn)) (hsv.new_ (a4.transNew hn)) hvv,?_⟩
       rintro e w' ⟨A1,c2,A3,c4,rfl,hmo0,hmo1,hm⟩
       exact⟨_,rfl,hm,⟨A1,c2,A3,c4,rfl,hmo0,hmo1⟩⟩)) ?_
 refine .o1 (tk rfl rfl fun _ w hn k=>(by
       obtain⟨A9,kj,kk,kl,km,i2,i3⟩:(TP (numericV v).1 ((numericV v).2)) _ _:=k.dep 1 67 (by kernel_rfl) (by kernel_rfl)
       exact⟨_,v_move rfl km,⟨A9,kj,kk,kl,rfl,i2,i3⟩⟩)) ?_
 refine .o1 (tk rfl rfl fun _ w hn k=>(by
       obtain⟨kn,ko,kp,kq,kr,i4,i5⟩:(TP (numericV v).1 ((numericV v).2)) _ _:=k.dep 2 65 (by kernel_rfl) (by kernel_rfl)
       exact⟨_,v_extract rfl kr rfl,⟨kn,ko,kp,kq,rfl,i4,i5⟩⟩)) ?_
 refine .o3 ?_
 exact .o2 (step_allocN (cs:=z7) (t:=29) rfl (noG rfl) (fun _ w hn k=>rfl) (fun q _ hq hb=>⟨q,rfl,hq,hb⟩))<| .off<| .off .nil
 intro i h
 simp only [List.contains_eq_mem,List.mem_cons,List.not_mem_nil,or_false,decide_eq_true_eq] at h
 subst h
 exact eager_takeG rfl (noG rfl) fun _ w hn k=>(by
     obtain⟨mE,mF,mG,mH,ks,lz,lA⟩:(TP (numericV v).1 ((numericV v).2)) _ _:=k.dep 2 65 (by kernel_rfl) (by kernel_rfl)
     exact⟨_,fun w hS=>v_extract rfl ks rfl,rfl⟩)
 intro cd lB _ bT ap
 obtain⟨cF,fG,fH⟩:=aft ap bn cB a4 bT
 have i6:=ap.fx 2 iU
 have i7:=ap.fx 3 iV
 have i8:=ap.fx 5 iX
 have i9:=ap.fx 8 dR
 obtain⟨au,af,av,ag,bU,fI,fJ⟩:=ap.G 3 68
 have bU:cd.eval (.tmp 68)=vv (numericV v).1 au af av ag:=bU
 have dY:=ap.ge 4 69 rfl
 obtain⟨bz,dZ,bV,bW⟩:=ap.G 5 10
 have fK:=cC.new_ bT
 have fL:=bS.new_ bT
 have hne281:aQ ≠ bz:=by have h1:=cC.lt; have h2:=bV; omega
 have hne282:aF ≠ bz:=by have h1:=bS.lt; have h2:=bV; omega
 have kW:=Nat.le_trans a4.size bV
 obtain⟨ja,d0,d1,bX,cG⟩:=s_many (P:=Tryz.prog) (t:=29) (i:=0) (c7 (numericV v).1 au af av ag) Tryz.sizeOf29 rfl rfl rfl bW lb
 have fM:Blk ja bz 29 (c7 (numericV v).1 au af av ag):=d1
 refine st_act rfl rfl fun lC fN=>a_store' rfl dZ bU d0 (fN _ _ trivial ?_)
 have fO:=fI.fr bW bX
 have fP:=fJ.fr bW bX
 have fQ:=cG _ _ _ (hne281) fK
 have fR:=cG _ _ _ (hne282) fL
 have fS:=fH.trans bX (fun _ h b=>by subst b; omega)
 refine st_take rfl rfl (y_assign (v:=iv ((numericV v).2)) rfl dY) rfl ?_
 obtain⟨jb,ad⟩:∃ a',a'=cd.put (some 11) (iv ((numericV v).2)):=⟨_,rfl⟩
 have cH:=pz ad cF
 have fT:=pd ad fG
 have jc:=pn ad i6 (by decide)
 have jd:=pn ad i7 (by decide)
 have je:=pn ad i8 (by decide)
 have jf:=pn ad i9 (by decide)
 have lD:=pn ad bU (by decide)
 have lE:=pn ad dY (by decide)
 have jg:=pn ad dZ (by decide)
 have d2:jb.eval (.tmp 11)=iv ((numericV v).2):=by rw [ad]; exact put_same _ _ _ (by rw [cF]; decide)
 show stepsTo _ _ _ _ _ (cd.put (some 11) (iv ((numericV v).2))) _
 rw [← ad]
 refine st_nil (fF _ _ (wp_seq_k fun lF fU=>?_))
 refine wp_seq_k fun lG fV=>?_
 refine wp_g0 [true,true] [] 100
   [ve (iv ((numericV v).2)),ve (.bool (!decide (((numericV v).2)=0)))] cH (.eq (.eq (.nil))) ?_ ?_
 exact .m (fun k=>k.fx 11 d2)<| .t (fun _ w hn k=>⟨_,v_bin rfl (k.eq1 0 70 rfl) rfl (fun _=>rfl) (r_neq rfl),rfl⟩) .nil
 refine aftI cH fT fS fun lH jh bo cI a5 a6 ay=>?_
 have ji:=ay.fx 2 jc
 have jj:=ay.fx 3 jd
 have jk:=ay.fx 5 je
 have d3:=ay.fx 8 jf
 have jl:=ay.fx 10 jg
 have d4:=ay.fx 11 d2
 have d5:=ay.ge 1 71 rfl
 have fW:=fQ.new_ a6
 have bY:=fR.new_ a6
 have cJ:=fM.new_ a6
 have fX:=fO.new_ a6
 have fY:=fP.new_ a6
 refine st_nil (fV _ _ ?_)
 rcases bc ((!decide (((numericV v).2)=0))) with ak|ak
 have fZ:=hB d5 ak
 have cK:(decide (((numericV v).2)=0))=false:=nF ak
 have kt:=oF cK
 refine wp_cond_true fZ ?_
 refine wp_seq_k fun lI f0=>?_
 refine wp_g [true,true,false,false] [1] [(2,false),(3,true)] 100
   [ve (vv (Vl.mk 0 0 0 false [] [] 0) none 0 none 0),ve (iv ((numericV v).2)),vt,vt]
   [] newsNil bo (.eq (.eq (.tt (.tt (.nil))))) ?_ ?_ ?_
 refine .t (fun _ w hn k=>⟨_,v_build (ps:=[]) rfl parts0 (by kernel_rfl),rfl⟩) ?_
 refine .o3 ?_
 exact .off<| .off .nil
 intro i h
 simp only [List.contains_eq_mem,List.mem_cons,List.not_mem_nil,or_false,decide_eq_true_eq] at h
 subst h
 exact eager_take rfl rfl fun _ w hn k=>⟨iv ((numericV v).2),fun w=>v_move rfl (k.fx 11 d4),rfl⟩
 refine aftI bo cI a5 fun d6 lJ cL f1 f2 f3 bZ=>?_
 have d7:=bZ.fx 8 d3
 have d8:=bZ.ge 0 72 rfl
 have d9:=bZ.ge 1 73 rfl
 have f4:=bY.new_ f3
 obtain⟨jm,ea,eb,f5,kX⟩:=s_many (P:=Tryz.prog) (t:=29) (i:=0) z7 Tryz.sizeOf29 rfl rfl rfl f4 lb
 have f6:Blk jm aF 29 z7:=eb
 refine st_act rfl rfl fun lK f7=>a_store' rfl d7 d8 ea (f7 _ _ trivial ?_)
 have f8:=f2.trans f5 (fun _ h b=>by subst b; omega)
 refine st_take rfl rfl (y_assign (v:=iv ((numericV v).2)) rfl d9) rfl ?_
 obtain⟨jn,az⟩:∃ a',a'=d6.put (some 9) (iv ((numericV v).2)):=⟨_,rfl⟩
 have kY:=pz az cL
 have f9:=pd az f1
 have jo:=pn az d7 (by decide)
 have lL:=pn az d8 (by decide)
 have lM:=pn az d9 (by decide)
 have jp:jn.eval (.tmp 9)=iv ((numericV v).2):=by rw [az]; exact put_same _ _ _ (by rw [cL]; decide)
 show stepsTo _ _ _ _ _ (d6.put (some 9) (iv ((numericV v).2))) _
 rw [← az]
 refine st_nil (f0 _ _ ?_)
 refine wp_ret (ret_k f9 (v:=.tuple #[vv (Vl.mk 0 0 0 false [] [] 0) none 0 none 0,iv ((numericV v).2)]) (res_ct rfl jo jp (l_agg Tryz.isAgg29 Tryz.sizeOf29 f6 rfl)) ?_)
 refine ⟨?_,f8⟩
 show Ending.returned (.tuple #[vv (Vl.mk 0 0 0 false [] [] 0) none 0 none 0,iv ((numericV v).2)])=Ending.returned (.tuple #[vv (Vl.mk (lessT v u t n).1 0 0 false [] [] (lessT v u t n).2.1) none 0 none 0,iv ((lessT v u t n).2.2)])
 first|rfl|(simp only [lessT,aa,ab,ac,an,ao,bsm] <;> first|rfl|(simp only [lessT,aa,aG,aH,ab,ac,an,ao,ak,cK,bsm] <;> rfl))|(exfalso; omega)
 have ga:=hB d5 ak
 have bp:(decide (((numericV v).2)=0))=true:=nT ak
 have ku:=oT bp
 refine wp_cond_false ga ?_
 refine wp_skip ?_
 refine fU _ _ ?_
 refine wp_seq_k fun lN gb=>?_
 refine wp_gS (fun W=>True) (fun W W' hn h=>trivial) trivial [true,true,true,true,true,true,false,false] [4] [(6,false),(7,true)] 100
   [ve (vv u Au cu Bu du),(TP (numericV u).1 ((numericV u).2)),(TP (numericV u).1 ((numericV u).2)),(fun (v_:Value) (W:World)=>∃ (bE:Option Addr) (bF:Nat) (bG:Option Addr) (bH:Nat),v_=vv (numericV u).1 bE bF bG bH∧SRow W .u32 bE ((numericV u).1.mag) bF∧SRow W .u16 bG ((numericV u).1.s) bH),ve (iv ((numericV u).2)),IsNew jh 29 z7,vt,vt]
   [5] (newsCons (fun v w h=>IsNew.old h) newsNil) bo (.eq (.cons (fun _ _ _ n ⟨_,_,_,_,e,h,i⟩=>⟨_,_,_,_,e,h.new_ n,i.new_ n⟩) (.cons (fun _ _ _ n ⟨_,_,_,_,e,h,i⟩=>⟨_,_,_,_,e,h.new_ n,i.new_ n⟩) (.cons (fun _ _ _ n ⟨_,_,_,_,e,h,i⟩=>⟨_,_,_,_,e,h.new_ n,i.new_ n⟩) (.eq (.nw (.tt (.tt (.nil))))))))) ?_ ?_ ?_
 refine .t (fun _ w hn k=>⟨_,v_load rfl (k.fx 5 jk) (l_agg Tryz.isAgg29 Tryz.sizeOf29 (fW.new_ hn) rfl),rfl⟩) ?_
 refine .o1 (tkC rfl (noG rfl) rfl fun _ w hn k=>(by
       refine ⟨#[vv u Au cu Bu du],_,args1 (k.eq1 0 75 rfl),fun w=>by kernel_rfl,cnumeric_c u _ _ _ _ _ (hmu.new_ (a5.transNew hn)) (hsu.new_ (a5.transNew hn)) hvu,?_⟩
       rintro e w' ⟨kv,kw,kx,ky,rfl,hmo0,hmo1,hm⟩
       exact⟨_,rfl,hm,⟨kv,kw,kx,ky,rfl,hmo0,hmo1⟩⟩)) ?_
 refine .o1 (tk rfl rfl fun _ w hn k=>(by
       obtain⟨kz,kA,kB,kC,kD,jq,jr⟩:(TP (numericV u).1 ((numericV u).2)) _ _:=k.dep 1 76 (by kernel_rfl) (by kernel_rfl)
       exact⟨_,v_move rfl kD,⟨kz,kA,kB,kC,rfl,jq,jr⟩⟩)) ?_
 refine .o1 (tk rfl rfl fun _ w hn k=>(by
       obtain⟨kE,kF,kG,kH,kI,js,jt⟩:(TP (numericV u).1 ((numericV u).2)) _ _:=k.dep 2 74 (by kernel_rfl) (by kernel_rfl)
       exact⟨_,v_extract rfl kI rfl,⟨kE,kF,kG,kH,rfl,js,jt⟩⟩)) ?_
 refine .o3 ?_
 exact .o2 (step_allocN (cs:=z7) (t:=29) rfl (noG rfl) (fun _ w hn k=>rfl) (fun q _ hq hb=>⟨q,rfl,hq,hb⟩))<| .off<| .off .nil
 intro i h
 simp only [List.contains_eq_mem,List.mem_cons,List.not_mem_nil,or_false,decide_eq_true_eq] at h
 subst h
 exact eager_takeG rfl (noG rfl) fun _ w hn k=>(by
     obtain⟨mI,mJ,mK,mL,kJ,lO,lP⟩:(TP (numericV u).1 ((numericV u).2)) _ _:=k.dep 2 74 (by kernel_rfl) (by kernel_rfl)
     exact⟨_,fun w hS=>v_extract rfl kJ rfl,rfl⟩)
 intro ce lQ _ a7 am
 obtain⟨cM,gc,gd⟩:=aft am bo cI a5 a7
 have ju:=am.fx 2 ji
 have jv:=am.fx 3 jj
 have jw:=am.fx 8 d3
 have jx:=am.fx 10 jl
 have lR:=am.fx 11 d4
 obtain⟨aw,ah,ax,ai,b0,gf,gg⟩:=am.G 3 77
 have b0:ce.eval (.tmp 77)=vv (numericV u).1 aw ah ax ai:=b0
 have ec:=am.ge 4 78 rfl
 obtain⟨b1,ed,b2,a8⟩:=am.G 5 12
 have gh:=bY.new_ a7
 have gi:=cJ.new_ a7
 have hne389:aF ≠ b1:=by have h1:=bY.lt; have h2:=b2; omega
 have hne390:bz ≠ b1:=by have h1:=cJ.lt; have h2:=b2; omega
 have kZ:=Nat.le_trans a5.size b2
 have gj:=fX.new_ a7
 have gk:=fY.new_ a7
 obtain⟨jy,ee,ef,a9,cN⟩:=s_many (P:=Tryz.prog) (t:=29) (i:=0) (c7 (numericV u).1 aw ah ax ai) Tryz.sizeOf29 rfl rfl rfl a8 lb
 have gl:Blk jy b1 29 (c7 (numericV u).1 aw ah ax ai):=ef
 refine st_act rfl rfl fun lS gm=>a_store' rfl ed b0 ee (gm _ _ trivial ?_)
 have gn:=gj.fr a8 a9
 have go:=gk.fr a8 a9
 have gp:=gf.fr a8 a9
 have gr:=gg.fr a8 a9
 have gs:=cN _ _ _ (hne389) gh
 have gt:=cN _ _ _ (hne390) gi
 have gu:=gd.trans a9 (fun _ h b=>by subst b; omega)
 refine st_take rfl rfl (y_assign (v:=iv ((numericV u).2)) rfl ec) rfl ?_
 obtain⟨jz,ae⟩:∃ a',a'=ce.put (some 11) (iv ((numericV u).2)):=⟨_,rfl⟩
 have cO:=pz ae cM
 have gv:=pd ae gc
 have jA:=pn ae ju (by decide)
 have jB:=pn ae jv (by decide)
 have jC:=pn ae jw (by decide)
 have jD:=pn ae jx (by decide)
 have lT:=pn ae b0 (by decide)
 have lU:=pn ae ec (by decide)
 have jE:=pn ae ed (by decide)
 have eg:jz.eval (.tmp 11)=iv ((numericV u).2):=by rw [ae]; exact put_same _ _ _ (by rw [cM]; decide)
 show stepsTo _ _ _ _ _ (ce.put (some 11) (iv ((numericV u).2))) _
 rw [← ae]
 refine st_nil (gb _ _ (wp_seq_k fun lV gw=>?_))
 refine wp_seq_k fun lW gx=>?_
 refine wp_g0 [true,true] [] 100
   [ve (iv ((numericV u).2)),ve (.bool (!decide (((numericV u).2)=0)))] cO (.eq (.eq (.nil))) ?_ ?_
 exact .m (fun k=>k.fx 11 eg)<| .t (fun _ w hn k=>⟨_,v_bin rfl (k.eq1 0 79 rfl) rfl (fun _=>rfl) (r_neq rfl),rfl⟩) .nil
 refine aftI cO gv gu fun lX lY bq cP cQ aA aB=>?_
 have jF:=aB.fx 2 jA
 have jG:=aB.fx 3 jB
 have eh:=aB.fx 8 jC
 have jH:=aB.fx 10 jD
 have jI:=aB.fx 12 jE
 have jJ:=aB.fx 11 eg
 have ei:=aB.ge 1 80 rfl
 have cR:=gs.new_ aA
 have gy:=gt.new_ aA
 have gz:=gl.new_ aA
 have gA:=gn.new_ aA
 have gB:=go.new_ aA
 have gC:=gp.new_ aA
 have gD:=gr.new_ aA
 refine st_nil (gx _ _ ?_)
 rcases bc ((!decide (((numericV u).2)=0))) with aq|aq
 have gE:=hB ei aq
 have cS:(decide (((numericV u).2)=0))=false:=nF aq
 have kK:=oF cS
 refine wp_cond_true gE ?_
 refine wp_seq_k fun lZ gF=>?_
 refine wp_g [true,true,false,false] [1] [(2,false),(3,true)] 100
   [ve (vv (Vl.mk 0 0 0 false [] [] 0) none 0 none 0),ve (iv ((numericV u).2)),vt,vt]
   [] newsNil bq (.eq (.eq (.tt (.tt (.nil))))) ?_ ?_ ?_
 refine .t (fun _ w hn k=>⟨_,v_build (ps:=[]) rfl parts0 (by kernel_rfl),rfl⟩) ?_
 refine .o3 ?_
 exact .off<| .off .nil
 intro i h
 simp only [List.contains_eq_mem,List.mem_cons,List.not_mem_nil,or_false,decide_eq_true_eq] at h
 subst h
 exact eager_take rfl rfl fun _ w hn k=>⟨iv ((numericV u).2),fun w=>v_move rfl (k.fx 11 jJ),rfl⟩
 refine aftI bq cP cQ fun ej l0 cU gG gH gI b3=>?_
 have ek:=b3.fx 8 eh
 have el:=b3.ge 0 81 rfl
 have em:=b3.ge 1 82 rfl
 have gJ:=cR.new_ gI
 obtain⟨jK,en,eo,gK,k0⟩:=s_many (P:=Tryz.prog) (t:=29) (i:=0) z7 Tryz.sizeOf29 rfl rfl rfl gJ lb
 have gL:Blk jK aF 29 z7:=eo
 refine st_act rfl rfl fun l1 gM=>a_store' rfl ek el en (gM _ _ trivial ?_)
 have gN:=gH.trans gK (fun _ h b=>by subst b; omega)
 refine st_take rfl rfl (y_assign (v:=iv ((numericV u).2)) rfl em) rfl ?_
 obtain⟨jL,aC⟩:∃ a',a'=ej.put (some 9) (iv ((numericV u).2)):=⟨_,rfl⟩
 have k1:=pz aC cU
 have gO:=pd aC gG
 have jM:=pn aC ek (by decide)
 have l2:=pn aC el (by decide)
 have l3:=pn aC em (by decide)
 have jN:jL.eval (.tmp 9)=iv ((numericV u).2):=by rw [aC]; exact put_same _ _ _ (by rw [cU]; decide)
 show stepsTo _ _ _ _ _ (ej.put (some 9) (iv ((numericV u).2))) _
 rw [← aC]
 refine st_nil (gF _ _ ?_)
 refine wp_ret (ret_k gO (v:=.tuple #[vv (Vl.mk 0 0 0 false [] [] 0) none 0 none 0,iv ((numericV u).2)]) (res_ct rfl jM jN (l_agg Tryz.isAgg29 Tryz.sizeOf29 gL rfl)) ?_)
 refine ⟨?_,gN⟩
 show Ending.returned (.tuple #[vv (Vl.mk 0 0 0 false [] [] 0) none 0 none 0,iv ((numericV u).2)])=Ending.returned (.tuple #[vv (Vl.mk (lessT v u t n).1 0 0 false [] [] (lessT v u t n).2.1) none 0 none 0,iv ((lessT v u t n).2.2)])
 first|rfl|(simp only [lessT,aa,ab,ac,an,ao,bsm] <;> first|rfl|(simp only [lessT,aa,aG,aH,ab,ac,an,ao,ak,bp,aq,cS,bsm] <;> rfl))|(exfalso; omega)
 have gP:=hB ei aq
 have b4:(decide (((numericV u).2)=0))=true:=nT aq
 have kL:=oT b4
 refine wp_cond_false gP ?_
 refine wp_skip ?_
 refine gw _ _ ?_
 refine wp_seq_k fun l4 cV=>?_
 refine wp_seq_k fun l5 gQ=>?_
 refine wp_g0 [true] [] 100
   [ve (.bool t)] bq (.eq (.nil)) ?_ ?_
 exact .m (fun k=>k.fx 2 jF) .nil
 refine aftI bq cP cQ fun l6 l7 br cW cX aD ba=>?_
 have ep:=ba.fx 3 jG
 have er:=ba.fx 8 eh
 have cf:=ba.fx 10 jH
 have ch:=ba.fx 12 jI
 have es:=ba.ge 0 83 rfl
 have cY:=cR.new_ aD
 have b5:=gy.new_ aD
 have b6:=gz.new_ aD
 have cZ:=gA.new_ aD
 have c0:=gB.new_ aD
 have c1:=gC.new_ aD
 have c3:=gD.new_ aD
 refine st_nil (gQ _ _ ?_)
 rcases bc (t) with bb|bb
 have gR:=hB es bb
 refine wp_cond_true gR ?_
 refine wp_g0 [true,true,false,false] [(2,false),(3,false)] 100
   [ve (vv (numericV u).1 aw ah ax ai),ve (vv (numericV v).1 au af av ag),vt,vt] br (.eq (.eq (.tt (.tt (.nil))))) ?_ ?_
 exact .t (fun _ w hn k=>⟨_,v_load rfl (k.fx 12 ch) (l_agg Tryz.isAgg29 Tryz.sizeOf29 (b6.new_ hn) rfl),rfl⟩)<| .t (fun _ w hn k=>⟨_,v_load rfl (k.fx 10 cf) (l_agg Tryz.isAgg29 Tryz.sizeOf29 (b5.new_ hn) rfl),rfl⟩)<| .off<| .off .nil
 refine aftI br cW cX fun l8 l9 c5 gS gT aE aN=>?_
 have jO:=aN.fx 3 ep
 have jP:=aN.fx 8 er
 have et:=aN.fx 10 cf
 have eu:=aN.fx 12 ch
 have jQ:=aN.ge 0 84 rfl
 have jR:=aN.ge 1 85 rfl
 have gU:=cY.new_ aE
 have bd:=b5.new_ aE
 have gV:=b6.new_ aE
 have gW:=cZ.new_ aE
 have gX:=c0.new_ aE
 have gY:=c1.new_ aE
 have gZ:=c3.new_ aE
 obtain⟨jS,ev,ew,be,c9⟩:=s_many (P:=Tryz.prog) (t:=29) (i:=0) (c7 (numericV u).1 aw ah ax ai) Tryz.sizeOf29 rfl rfl rfl bd lb
 have g2:Blk jS bz 29 (c7 (numericV u).1 aw ah ax ai):=ew
 refine st_act rfl rfl fun ma g3=>a_store' rfl et jQ ev (g3 _ _ trivial ?_)
 have g4:=gW.fr bd be
 have g5:=gX.fr bd be
 have g6:=gY.fr bd be
 have g7:=gZ.fr bd be
 have g8:=c9 _ _ _ (hne282) gU
 have bf:=c9 _ _ _ (fun h=>hne390 h.symm) gV
 have g9:=gT.trans be (fun _ h b=>by subst b; omega)
 obtain⟨jT,ex,ey,bg,da⟩:=s_many (P:=Tryz.prog) (t:=29) (i:=0) (c7 (numericV v).1 au af av ag) Tryz.sizeOf29 rfl rfl rfl bf lb
 have ha:Blk jT b1 29 (c7 (numericV v).1 au af av ag):=ey
 refine st_act rfl rfl fun mb hc=>a_store' rfl eu jR ex (hc _ _ trivial ?_)
 have hd:=g4.fr bf bg
 have hf:=g5.fr bf bg
 have hh:=g6.fr bf bg
 have hi:=g7.fr bf bg
 have hj:=da _ _ _ (hne389) g8
 have hl:=da _ _ _ (hne390) g2
 have ho:=g9.trans bg (fun _ h b=>by subst b; omega)
 refine st_nil (cV _ _ (wp_seq_k fun mc hr=>?_))
 refine wp_g0 (.replicate 8 true) [] 100
   [ve (vv (numericV u).1 aw ah ax ai),ve (vv (numericV v).1 au af av ag),ve (.tuple #[iv ((orderO ((numericV u).1) ((numericV v).1)).1),.bool ((orderO ((numericV u).1) ((numericV v).1)).2)]),ve (.tuple #[iv ((orderO ((numericV u).1) ((numericV v).1)).1),.bool ((orderO ((numericV u).1) ((numericV v).1)).2)]),ve (iv ((orderO ((numericV u).1) ((numericV v).1)).1)),ve (.bool ((orderO ((numericV u).1) ((numericV v).1)).2)),ve (iv ((orderO ((numericV u).1) ((numericV v).1)).1)),ve (.bool ((orderO ((numericV u).1) ((numericV v).1)).2))] c5 (.eq (.eq (.eq (.eq (.eq (.eq (.eq (.eq (.nil))))))))) ?_ ?_
 exact .t (fun _ w hn k=>⟨_,v_load rfl (k.fx 10 et) (l_agg Tryz.isAgg29 Tryz.sizeOf29 (hl.new_ hn) rfl),rfl⟩)<| .t (fun _ w hn k=>⟨_,v_load rfl (k.fx 12 eu) (l_agg Tryz.isAgg29 Tryz.sizeOf29 (ha.new_ hn) rfl),rfl⟩)<| .o1 (ck rfl rfl rfl (fun _ w hn k=>⟨#[vv (numericV u).1 aw ah ax ai,vv (numericV v).1 au af av ag],args2 (k.eq1 0 87 rfl) (k.eq1 1 88 rfl),fun _=>by kernel_rfl,order_c ((numericV u).1) _ _ _ _ ((numericV v).1) _ _ _ _ _ (hh.new_ hn) (hi.new_ hn) (hd.new_ hn) (hf.new_ hn) (VOk.numeric hvu) (VOk.numeric hvv)⟩) fun _=>rfl)<| .m (fun k=>k.eq1 2 89 rfl)<| .t (fun _ w hn k=>⟨_,v_extract rfl (k.eq1 3 86 rfl) rfl,rfl⟩)<| .t (fun _ w hn k=>⟨_,v_extract rfl (k.eq1 3 86 rfl) rfl,rfl⟩)<| .a (fun k=>k.eq1 4 90 rfl)<| .a (fun k=>k.eq1 5 91 rfl) .nil
 refine aftI c5 gS ho fun md me db hs ht hu bs=>?_
 have jU:=bs.fx 3 jO
 have jV:=bs.fx 8 jP
 have jW:=bs.ge 6 13 rfl
 have jX:=bs.ge 7 14 rfl
 have hv:=hj.new_ hu
 refine st_nil (hr _ _ (wp_seq_k fun mf hw=>?_))
 refine wp_g0 [true,true,true,true,true,true,true,true,false,false] [(8,false),(9,true)] 100
   [ve (.bool ((orderO ((numericV u).1) ((numericV v).1)).2)),ve (.bool ((orderO ((numericV u).1) ((numericV v).1)).2)),ve (gq ((orderO ((numericV u).1) ((numericV v).1)).2) (iv ((orderO ((numericV u).1) ((numericV v).1)).1))),ve (gq ((orderO ((numericV u).1) ((numericV v).1)).2) (.bool (decide (((orderO ((numericV u).1) ((numericV v).1)).1) < 0)))),ve (gq ((orderO ((numericV u).1) ((numericV v).1)).2) (.bool n)),ve (gq ((orderO ((numericV u).1) ((numericV v).1)).2) (.bool ((decide (((orderO ((numericV u).1) ((numericV v).1)).1) < 0)) != n))),ve (.bool (((orderO ((numericV u).1) ((numericV v).1)).2) && ((decide (((orderO ((numericV u).1) ((numericV v).1)).1) < 0)) != n))),ve (vv (Vl.mk 2 0 0 false [] [] (truthR (((orderO ((numericV u).1) ((numericV v).1)).2) && ((decide (((orderO ((numericV u).1) ((numericV v).1)).1) < 0)) != n)))) none 0 none 0),vt,vt] db (.eq (.eq (.eq (.eq (.eq (.eq (.eq (.eq (.tt (.tt (.nil))))))))))) ?_ ?_
 exact .m (fun k=>k.fx 14 jX)<| .m (fun k=>k.eq1 0 92 rfl)<| .o1 (sc (G:=((orderO ((numericV u).1) ((numericV v).1)).2)) rfl rfl rfl (fun _ _ k=>g0 (k.eq1 1 93 rfl)) (fun hG _ w hn k=>v_move rfl (k.fx 13 jW)))<| .o1 (sc (G:=((orderO ((numericV u).1) ((numericV v).1)).2)) rfl rfl rfl (fun _ _ k=>g0 (k.eq1 1 93 rfl)) (fun hG _ w hn k=>v_bin rfl (cT hG (k.eq1 2 94 rfl)) rfl (fun _=>rfl) (r_lssK rfl)))<| .o1 (sc (G:=((orderO ((numericV u).1) ((numericV v).1)).2)) rfl rfl rfl (fun _ _ k=>g0 (k.eq1 1 93 rfl)) (fun hG _ w hn k=>v_move rfl (k.fx 3 jU)))<| .o1 (sc (G:=((orderO ((numericV u).1) ((numericV v).1)).2)) rfl rfl rfl (fun _ _ k=>g0 (k.eq1 1 93 rfl)) (fun hG _ w hn k=>v_bin rfl (cT hG (k.eq1 3 95 rfl)) (cT hG (k.eq1 4 96 rfl)) (fun _=>rfl) (r_neqB _ _)))<| .t (fun _ w hn k=>⟨_,v_and rfl (k.eq1 1 93 rfl) (fun hg=>(cT hg (k.eq1 5 97 rfl))) rfl,rfl⟩)<| .o1 (ck rfl rfl rfl (fun _ w hn k=>⟨#[.bool (((orderO ((numericV u).1) ((numericV v).1)).2) && ((decide (((orderO ((numericV u).1) ((numericV v).1)).1) < 0)) != n))],args1 (k.eq1 6 98 rfl),fun _=>by kernel_rfl,truthN_c (((orderO ((numericV u).1) ((numericV v).1)).2) && ((decide (((orderO ((numericV u).1) ((numericV v).1)).1) < 0)) != n)) _ ⟩) fun _=>rfl)<| .off<| .off .nil
 refine aftI db hs ht fun ez mg dc hx hy hz dd=>?_
 have eA:=dd.fx 8 jV
 have eB:=dd.ge 7 99 rfl
 have hA:=hv.new_ hz
 obtain⟨jY,eC,eD,hC,k2⟩:=s_many (P:=Tryz.prog) (t:=29) (i:=0) [iv 2,iv 0,iv 0,.bool false,sv none ([]) 0,sv none ([]) 0,iv (truthR (((orderO ((numericV u).1) ((numericV v).1)).2) && ((decide (((orderO ((numericV u).1) ((numericV v).1)).1) < 0)) != n)))] Tryz.sizeOf29 rfl rfl rfl hA lb
 have hD:Blk jY aF 29 [iv 2,iv 0,iv 0,.bool false,sv none ([]) 0,sv none ([]) 0,iv (truthR (((orderO ((numericV u).1) ((numericV v).1)).2) && ((decide (((orderO ((numericV u).1) ((numericV v).1)).1) < 0)) != n)))]:=eD
 refine st_act rfl rfl fun mh hE=>a_store' rfl eA eB eC (hE _ _ trivial ?_)
 have hF:=hy.trans hC (fun _ h b=>by subst b; omega)
 refine st_take rfl rfl (y_assign (v:=iv 0) rfl rfl) rfl ?_
 obtain⟨jZ,aO⟩:∃ a',a'=ez.put (some 9) (iv 0):=⟨_,rfl⟩
 have k3:=pz aO dc
 have hH:=pd aO hx
 have j0:=pn aO eA (by decide)
 have mi:=pn aO eB (by decide)
 have j1:jZ.eval (.tmp 9)=iv 0:=by rw [aO]; exact put_same _ _ _ (by rw [dc]; decide)
 show stepsTo _ _ _ _ _ (ez.put (some 9) (iv 0)) _
 rw [← aO]
 refine st_nil (hw _ _ ?_)
 refine wp_ret (ret_k hH (v:=.tuple #[vv (Vl.mk 2 0 0 false [] [] (truthR (((orderO ((numericV u).1) ((numericV v).1)).2) && ((decide (((orderO ((numericV u).1) ((numericV v).1)).1) < 0)) != n)))) none 0 none 0,iv 0]) (res_ct rfl j0 j1 (l_agg Tryz.isAgg29 Tryz.sizeOf29 hD rfl)) ?_)
 refine ⟨?_,hF⟩
 show Ending.returned (.tuple #[vv (Vl.mk 2 0 0 false [] [] (truthR (((orderO ((numericV u).1) ((numericV v).1)).2) && ((decide (((orderO ((numericV u).1) ((numericV v).1)).1) < 0)) != n)))) none 0 none 0,iv 0])=Ending.returned (.tuple #[vv (Vl.mk (lessT v u t n).1 0 0 false [] [] (lessT v u t n).2.1) none 0 none 0,iv ((lessT v u t n).2.2)])
 first|rfl|(simp only [lessT,aa,ab,ac,an,ao,bsm] <;> first|rfl|(simp only [lessT,aa,aG,aH,ab,ac,an,ao,ak,bp,aq,b4,bb,bsm] <;> rfl))|(exfalso; omega)
 have hI:=hB es bb
 refine wp_cond_false hI ?_
 refine wp_skip ?_
 refine cV _ _ ?_
 refine wp_seq_k fun mj hJ=>?_
 refine wp_g0 (.replicate 8 true) [] 100
   [ve (vv (numericV v).1 au af av ag),ve (vv (numericV u).1 aw ah ax ai),ve (.tuple #[iv ((orderO ((numericV v).1) ((numericV u).1)).1),.bool ((orderO ((numericV v).1) ((numericV u).1)).2)]),ve (.tuple #[iv ((orderO ((numericV v).1) ((numericV u).1)).1),.bool ((orderO ((numericV v).1) ((numericV u).1)).2)]),ve (iv ((orderO ((numericV v).1) ((numericV u).1)).1)),ve (.bool ((orderO ((numericV v).1) ((numericV u).1)).2)),ve (iv ((orderO ((numericV v).1) ((numericV u).1)).1)),ve (.bool ((orderO ((numericV v).1) ((numericV u).1)).2))] br (.eq (.eq (.eq (.eq (.eq (.eq (.eq (.eq (.nil))))))))) ?_ ?_
 exact .t (fun _ w hn k=>⟨_,v_load rfl (k.fx 10 cf) (l_agg Tryz.isAgg29 Tryz.sizeOf29 (b5.new_ hn) rfl),rfl⟩)<| .t (fun _ w hn k=>⟨_,v_load rfl (k.fx 12 ch) (l_agg Tryz.isAgg29 Tryz.sizeOf29 (b6.new_ hn) rfl),rfl⟩)<| .o1 (ck rfl rfl rfl (fun _ w hn k=>⟨#[vv (numericV v).1 au af av ag,vv (numericV u).1 aw ah ax ai],args2 (k.eq1 0 87 rfl) (k.eq1 1 88 rfl),fun _=>by kernel_rfl,order_c ((numericV v).1) _ _ _ _ ((numericV u).1) _ _ _ _ _ (cZ.new_ hn) (c0.new_ hn) (c1.new_ hn) (c3.new_ hn) (VOk.numeric hvv) (VOk.numeric hvu)⟩) fun _=>rfl)<| .m (fun k=>k.eq1 2 89 rfl)<| .t (fun _ w hn k=>⟨_,v_extract rfl (k.eq1 3 86 rfl) rfl,rfl⟩)<| .t (fun _ w hn k=>⟨_,v_extract rfl (k.eq1 3 86 rfl) rfl,rfl⟩)<| .a (fun k=>k.eq1 4 90 rfl)<| .a (fun k=>k.eq1 5 91 rfl) .nil
 refine aftI br cW cX fun ml mm de hK hL hM bt=>?_
 have j2:=bt.fx 3 ep
 have j3:=bt.fx 8 er
 have j4:=bt.ge 6 13 rfl
 have j5:=bt.ge 7 14 rfl
 have hN:=cY.new_ hM
 refine st_nil (hJ _ _ (wp_seq_k fun mn hO=>?_))
 refine wp_g0 [true,true,true,true,true,true,true,true,false,false] [(8,false),(9,true)] 100
   [ve (.bool ((orderO ((numericV v).1) ((numericV u).1)).2)),ve (.bool ((orderO ((numericV v).1) ((numericV u).1)).2)),ve (gq ((orderO ((numericV v).1) ((numericV u).1)).2) (iv ((orderO ((numericV v).1) ((numericV u).1)).1))),ve (gq ((orderO ((numericV v).1) ((numericV u).1)).2) (.bool (decide (((orderO ((numericV v).1) ((numericV u).1)).1) < 0)))),ve (gq ((orderO ((numericV v).1) ((numericV u).1)).2) (.bool n)),ve (gq ((orderO ((numericV v).1) ((numericV u).1)).2) (.bool ((decide (((orderO ((numericV v).1) ((numericV u).1)).1) < 0)) != n))),ve (.bool (((orderO ((numericV v).1) ((numericV u).1)).2) && ((decide (((orderO ((numericV v).1) ((numericV u).1)).1) < 0)) != n))),ve (vv (Vl.mk 2 0 0 false [] [] (truthR (((orderO ((numericV v).1) ((numericV u).1)).2) && ((decide (((orderO ((numericV v).1) ((numericV u).1)).1) < 0)) != n)))) none 0 none 0),vt,vt] de (.eq (.eq (.eq (.eq (.eq (.eq (.eq (.eq (.tt (.tt (.nil))))))))))) ?_ ?_
 exact .m (fun k=>k.fx 14 j5)<| .m (fun k=>k.eq1 0 92 rfl)<| .o1 (sc (G:=((orderO ((numericV v).1) ((numericV u).1)).2)) rfl rfl rfl (fun _ _ k=>g0 (k.eq1 1 93 rfl)) (fun hG _ w hn k=>v_move rfl (k.fx 13 j4)))<| .o1 (sc (G:=((orderO ((numericV v).1) ((numericV u).1)).2)) rfl rfl rfl (fun _ _ k=>g0 (k.eq1 1 93 rfl)) (fun hG _ w hn k=>v_bin rfl (cT hG (k.eq1 2 94 rfl)) rfl (fun _=>rfl) (r_lssK rfl)))<| .o1 (sc (G:=((orderO ((numericV v).1) ((numericV u).1)).2)) rfl rfl rfl (fun _ _ k=>g0 (k.eq1 1 93 rfl)) (fun hG _ w hn k=>v_move rfl (k.fx 3 j2)))<| .o1 (sc (G:=((orderO ((numericV v).1) ((numericV u).1)).2)) rfl rfl rfl (fun _ _ k=>g0 (k.eq1 1 93 rfl)) (fun hG _ w hn k=>v_bin rfl (cT hG (k.eq1 3 95 rfl)) (cT hG (k.eq1 4 96 rfl)) (fun _=>rfl) (r_neqB _ _)))<| .t (fun _ w hn k=>⟨_,v_and rfl (k.eq1 1 93 rfl) (fun hg=>(cT hg (k.eq1 5 97 rfl))) rfl,rfl⟩)<| .o1 (ck rfl rfl rfl (fun _ w hn k=>⟨#[.bool (((orderO ((numericV v).1) ((numericV u).1)).2) && ((decide (((orderO ((numericV v).1) ((numericV u).1)).1) < 0)) != n))],args1 (k.eq1 6 98 rfl),fun _=>by kernel_rfl,truthN_c (((orderO ((numericV v).1) ((numericV u).1)).2) && ((decide (((orderO ((numericV v).1) ((numericV u).1)).1) < 0)) != n)) _ ⟩) fun _=>rfl)<| .off<| .off .nil
 refine aftI de hK hL fun eE mo df hP hQ hR dg=>?_
 have eF:=dg.fx 8 j3
 have eG:=dg.ge 7 99 rfl
 have hT:=hN.new_ hR
 obtain⟨j6,eH,eI,hU,k4⟩:=s_many (P:=Tryz.prog) (t:=29) (i:=0) [iv 2,iv 0,iv 0,.bool false,sv none ([]) 0,sv none ([]) 0,iv (truthR (((orderO ((numericV v).1) ((numericV u).1)).2) && ((decide (((orderO ((numericV v).1) ((numericV u).1)).1) < 0)) != n)))] Tryz.sizeOf29 rfl rfl rfl hT lb
 have hV:Blk j6 aF 29 [iv 2,iv 0,iv 0,.bool false,sv none ([]) 0,sv none ([]) 0,iv (truthR (((orderO ((numericV v).1) ((numericV u).1)).2) && ((decide (((orderO ((numericV v).1) ((numericV u).1)).1) < 0)) != n)))]:=eI
 refine st_act rfl rfl fun mp hW=>a_store' rfl eF eG eH (hW _ _ trivial ?_)
 have hX:=hQ.trans hU (fun _ h b=>by subst b; omega)
 refine st_take rfl rfl (y_assign (v:=iv 0) rfl rfl) rfl ?_
 obtain⟨j7,aP⟩:∃ a',a'=eE.put (some 9) (iv 0):=⟨_,rfl⟩
 have k5:=pz aP df
 have hY:=pd aP hP
 have j8:=pn aP eF (by decide)
 have mq:=pn aP eG (by decide)
 have j9:j7.eval (.tmp 9)=iv 0:=by rw [aP]; exact put_same _ _ _ (by rw [df]; decide)
 show stepsTo _ _ _ _ _ (eE.put (some 9) (iv 0)) _
 rw [← aP]
 refine st_nil (hO _ _ ?_)
 refine wp_ret (ret_k hY (v:=.tuple #[vv (Vl.mk 2 0 0 false [] [] (truthR (((orderO ((numericV v).1) ((numericV u).1)).2) && ((decide (((orderO ((numericV v).1) ((numericV u).1)).1) < 0)) != n)))) none 0 none 0,iv 0]) (res_ct rfl j8 j9 (l_agg Tryz.isAgg29 Tryz.sizeOf29 hV rfl)) ?_)
 refine ⟨?_,hX⟩
 show Ending.returned (.tuple #[vv (Vl.mk 2 0 0 false [] [] (truthR (((orderO ((numericV v).1) ((numericV u).1)).2) && ((decide (((orderO ((numericV v).1) ((numericV u).1)).1) < 0)) != n)))) none 0 none 0,iv 0])=Ending.returned (.tuple #[vv (Vl.mk (lessT v u t n).1 0 0 false [] [] (lessT v u t n).2.1) none 0 none 0,iv ((lessT v u t n).2.2)])
 first|rfl|(simp only [lessT,aa,ab,ac,an,ao,bsm] <;> first|rfl|(simp only [lessT,aa,aG,aH,ab,ac,an,ao,ak,bp,aq,b4,bb,bsm] <;> rfl))|(exfalso; omega)
theorem binLt_c  (v:Vl) (Av:Option Addr) (cv:Nat) (Bv:Option Addr) (dv:Nat) (u:Vl) (Au:Option Addr) (cu:Nat) (Bu:Option Addr) (du:Nat) (w:World) (hmv:SRow w .u32 Av v.mag cv) (hsv:SRow w .u16 Bv v.s dv) (hmu:SRow w .u32 Au u.mag cu) (hsu:SRow w .u16 Bu u.s du) (hvv:VOk v) (hvu:VOk u):Calls Tryz.prog 12 #[.string ⟨#[60]⟩,vv v Av cv Bv dv,vv u Au cu Bu du] w (IsRet (.tuple #[vv (Vl.mk (lessT (cleanV v) (cleanV u) false false).1 0 0 false [] [] (lessT (cleanV v) (cleanV u) false false).2.1) none 0 none 0,iv ((lessT (cleanV v) (cleanV u) false false).2.2)]) w):=by
 refine enter_abs Tryz.func12 rfl fun a0 aU fS hp=>?_
 have aU:a0.tmps.size=120:=aU
 have aV:New w w:=Upd.refl _ _
 have hp0:a0.eval (.tmp 0)=.string ⟨#[60]⟩:=hp 0 _ rfl
 have hp1:a0.eval (.tmp 1)=vv v Av cv Bv dv:=hp 1 _ rfl
 have hp2:a0.eval (.tmp 2)=vv u Au cu Bu du:=hp 2 _ rfl
 refine wp_seq_k fun K1 fT=>?_
 refine wp_g [true,true,true,true] [] [] 120
   [IsNew w 29 (c7 v Av cv Bv dv),IsNew w 29 (c7 u Au cu Bu du),IsNew w 29 z7,ve (iv 0)]
   [0,1,2] (newsCons (fun v w h=>IsNew.old h) (newsCons (fun v w h=>IsNew.old h) (newsCons (fun v w h=>IsNew.old h) newsNil))) aU (.nw (.nw (.nw (.eq (.nil))))) ?_ (fun i h=>by cases h) ?_
 exact .o2 (step_allocN (cs:=(c7 v Av cv Bv dv)) (t:=29) rfl (noG rfl) (fun _ w hn k=>v_box rfl (k.fx 1 hp1) (fun w=>rfl)) (fun q _ hq hb=>⟨q,rfl,hq,hb⟩))<| .o2 (step_allocN (cs:=(c7 u Au cu Bu du)) (t:=29) rfl (noG rfl) (fun _ w hn k=>v_box rfl (k.fx 2 hp2) (fun w=>rfl)) (fun q _ hq hb=>⟨q,rfl,hq,hb⟩))<| .o2 (step_allocN (cs:=z7) (t:=29) rfl (noG rfl) (fun _ w hn k=>rfl) (fun q _ hq hb=>⟨q,rfl,hq,hb⟩))<| .t (fun _ w hn k=>⟨_,v_assign rfl rfl,rfl⟩) .nil
 refine aftI aU fS aV fun a2 w3 ea fU aD gX aE=>?_
 have h8:=aE.fx 0 hp0
 obtain⟨bd,h9,eg,be⟩:=aE.G 0 4
 obtain⟨bf,aW,eh,bg⟩:=aE.G 1 5
 obtain⟨bh,bi,ei,ej⟩:=aE.G 2 6
 have hne21:bd ≠ bf:=aE.ne 0 1 4 5 h9 aW
 have hne22:bd ≠ bh:=aE.ne 0 2 4 6 h9 bi
 have hne23:bf ≠ bh:=aE.ne 1 2 5 6 aW bi
 have gb:=Nat.le_trans aV.size eg
 have gc:=Nat.le_trans aV.size eh
 have gd:=Nat.le_trans aV.size ei
 refine st_nil (fT _ _ (wp_seq_k fun gY ek=>?_))
 refine wp_g0 [true,true,true,true,false,false] [(4,false),(5,false)] 120
   [ve (vv v Av cv Bv dv),
    (VP (cleanV v)),ve (vv u Au cu Bu du),
    (VP (cleanV u)),vt,vt] ea (.eq (.cons (fun _ _ _ n ⟨_,_,_,_,e,h,i⟩=>⟨_,_,_,_,e,h.new_ n,i.new_ n⟩) (.eq (.cons (fun _ _ _ n ⟨_,_,_,_,e,h,i⟩=>⟨_,_,_,_,e,h.new_ n,i.new_ n⟩) (.tt (.tt (.nil))))))) ?_ ?_
 refine .t (fun _ w hn k=>⟨_,v_load rfl (k.fx 4 h9) (l_agg Tryz.isAgg29 Tryz.sizeOf29 (be.new_ hn) rfl),rfl⟩) ?_
 refine .o1 (tkC rfl (noG rfl) rfl fun _ w hn k=>(by
       refine ⟨#[vv v Av cv Bv dv],_,args1 (k.eq1 0 10 rfl),fun w=>by kernel_rfl,clean_c v _ _ _ _ _ (hmv.new_ (aD.transNew hn)) (hsv.new_ (aD.transNew hn)),?_⟩
       rintro e w' ⟨A1,c2,A3,c4,rfl,hmo0,hmo1,hm⟩
       exact⟨_,rfl,hm,⟨A1,c2,A3,c4,rfl,hmo0,hmo1⟩⟩)) ?_
 refine .t (fun _ w hn k=>⟨_,v_load rfl (k.fx 5 aW) (l_agg Tryz.isAgg29 Tryz.sizeOf29 (bg.new_ hn) rfl),rfl⟩) ?_
 refine .o1 (tkC rfl (noG rfl) rfl fun _ w hn k=>(by
       refine ⟨#[vv u Au cu Bu du],_,args1 (k.eq1 2 12 rfl),fun w=>by kernel_rfl,clean_c u _ _ _ _ _ (hmu.new_ (aD.transNew hn)) (hsu.new_ (aD.transNew hn)),?_⟩
       rintro e w' ⟨A9,fZ,f0,f1,rfl,hmo0,hmo1,hm⟩
       exact⟨_,rfl,hm,⟨A9,fZ,f0,f1,rfl,hmo0,hmo1⟩⟩)) ?_
 exact .off<| .off .nil
 refine aftI ea fU aD fun eb gZ bj el em aT aC=>?_
 have ec:=aC.fx 0 h8
 have ed:=aC.fx 4 h9
 have ee:=aC.fx 5 aW
 have f2:=aC.fx 6 bi
 obtain⟨aP,aF,aQ,aG,bk,en,eo⟩:=aC.G 1 11
 have bk:eb.eval (.tmp 11)=vv (cleanV v) aP aF aQ aG:=bk
 obtain⟨aR,aH,aS,aI,bl,ep,er⟩:=aC.G 3 13
 have bl:eb.eval (.tmp 13)=vv (cleanV u) aR aH aS aI:=bl
 have aJ:=be.new_ aT
 have es:=bg.new_ aT
 have et:=ej.new_ aT
 obtain⟨f3,bH,bI,aK,bm⟩:=s_many (P:=Tryz.prog) (t:=29) (i:=0) (c7 (cleanV v) aP aF aQ aG) Tryz.sizeOf29 rfl rfl rfl aJ lb
 have eu:Blk f3 bd 29 (c7 (cleanV v) aP aF aQ aG):=bI
 refine st_act rfl rfl fun g0 ev=>a_store' rfl ed bk bH (ev _ _ trivial ?_)
 have ew:=en.fr aJ aK
 have ex:=eo.fr aJ aK
 have ey:=ep.fr aJ aK
 have ez:=er.fr aJ aK
 have aL:=bm _ _ _ (fun h=>hne21 h.symm) es
 have eA:=bm _ _ _ (fun h=>hne22 h.symm) et
 have eB:=em.trans aK (fun _ h b=>by subst b; omega)
 obtain⟨f4,bJ,bK,aM,bn⟩:=s_many (P:=Tryz.prog) (t:=29) (i:=0) (c7 (cleanV u) aR aH aS aI) Tryz.sizeOf29 rfl rfl rfl aL lb
 have eC:Blk f4 bf 29 (c7 (cleanV u) aR aH aS aI):=bK
 refine st_act rfl rfl fun g1 eD=>a_store' rfl ee bl bJ (eD _ _ trivial ?_)
 have eE:=ew.fr aL aM
 have eF:=ex.fr aL aM
 have eG:=ey.fr aL aM
 have eH:=ez.fr aL aM
 have eI:=bn _ _ _ (hne21) eu
 have eJ:=bn _ _ _ (fun h=>hne23 h.symm) eA
 have eK:=eB.trans aM (fun _ h b=>by subst b; omega)
 refine st_nil (ek _ _ (wp_seq_k fun g2 gf=>?_))
 refine wp_seq_k fun g3 eL=>?_
 refine wp_g0 [true] [] 120
   [ve (.string ⟨#[60]⟩)] bj (.eq (.nil)) ?_ ?_
 exact .m (fun k=>k.fx 0 ec) .nil
 refine aftI bj el eK fun g4 g5 bo eM bL aB aN=>?_
 have f5:=aN.fx 0 ec
 have f6:=aN.fx 4 ed
 have f7:=aN.fx 5 ee
 have f8:=aN.fx 6 f2
 have ef:=aN.ge 0 14 rfl
 have eN:=eI.new_ aB
 have eO:=eC.new_ aB
 have bM:=eJ.new_ aB
 have bN:=eE.new_ aB
 have bO:=eF.new_ aB
 have bP:=eG.new_ aB
 have bQ:=eH.new_ aB
 refine st_nil (eL _ _ ?_)
 refine wp_block ?_
 refine wp_seq_k fun gg bR=>?_
 refine wp_g0 [true,true] [] 120
   [vF,vF] bo (.eq (.eq (.nil))) ?_ ?_
 exact .t (fun _ w hn k=>⟨_,v_bin rfl (k.fx 14 ef) rfl (fun _=>rfl) (r_eqlS (r:=false) (by kernel_rfl)),rfl⟩)<| .a (fun k=>k.eq1 0 16 rfl) .nil
 refine aftI bo eM bL fun gh gi aX bS bT aa an=>?_
 have eP:=an.fx 0 f5
 have eQ:=an.fx 4 f6
 have eR:=an.fx 5 f7
 have eS:=an.fx 6 f8
 have bp:=an.fx 14 ef
 have eT:=an.ge 1 15 rfl
 have bU:=eN.new_ aa
 have bV:=eO.new_ aa
 have bW:=bM.new_ aa
 have bX:=bN.new_ aa
 have bY:=bO.new_ aa
 have bZ:=bP.new_ aa
 have b0:=bQ.new_ aa
 refine st_nil (bR _ _ ?_)
 refine wp_cond_false eT ?_
 refine wp_seq_k fun gj b1=>?_
 refine wp_seq_k fun gk b2=>?_
 refine wp_g0 [true,true] [] 120
   [vF,vF] aX (.eq (.eq (.nil))) ?_ ?_
 exact .t (fun _ w hn k=>⟨_,v_bin rfl (k.fx 14 bp) rfl (fun _=>rfl) (r_eqlS (r:=false) (by kernel_rfl)),rfl⟩)<| .a (fun k=>k.eq1 0 37 rfl) .nil
 refine aftI aX bS bT fun gl gm aY b3 b4 ab ao=>?_
 have eU:=ao.fx 0 eP
 have eV:=ao.fx 4 eQ
 have eW:=ao.fx 5 eR
 have eX:=ao.fx 6 eS
 have bq:=ao.fx 14 bp
 have eY:=ao.ge 1 36 rfl
 have b5:=bU.new_ ab
 have b6:=bV.new_ ab
 have b7:=bW.new_ ab
 have b8:=bX.new_ ab
 have b9:=bY.new_ ab
 have ca:=bZ.new_ ab
 have cb:=b0.new_ ab
 refine st_nil (b2 _ _ ?_)
 refine wp_cond_false eY ?_
 refine wp_seq_k fun gn cc=>?_
 refine wp_g0 [true,true] [] 120
   [vF,vF] aY (.eq (.eq (.nil))) ?_ ?_
 exact .t (fun _ w hn k=>⟨_,v_bin rfl (k.fx 14 bq) rfl (fun _=>rfl) (r_eqlS (r:=false) (by kernel_rfl)),rfl⟩)<| .a (fun k=>k.eq1 0 38 rfl) .nil
 refine aftI aY b3 b4 fun go gp aZ cd ce ac ap=>?_
 have eZ:=ap.fx 0 eU
 have e0:=ap.fx 4 eV
 have e1:=ap.fx 5 eW
 have e2:=ap.fx 6 eX
 have br:=ap.fx 14 bq
 have e3:=ap.ge 1 36 rfl
 have cf:=b5.new_ ac
 have ch:=b6.new_ ac
 have ci:=b7.new_ ac
 have cj:=b8.new_ ac
 have cl:=b9.new_ ac
 have cm:=ca.new_ ac
 have cn:=cb.new_ ac
 refine st_nil (cc _ _ ?_)
 refine wp_cond_false e3 ?_
 refine wp_seq_k fun gq co=>?_
 refine wp_g0 [true,true] [] 120
   [vF,vF] aZ (.eq (.eq (.nil))) ?_ ?_
 exact .t (fun _ w hn k=>⟨_,v_bin rfl (k.fx 14 br) rfl (fun _=>rfl) (r_eqlS (r:=false) (by kernel_rfl)),rfl⟩)<| .a (fun k=>k.eq1 0 39 rfl) .nil
 refine aftI aZ cd ce fun gr gs a1 cp cq ad aq=>?_
 have e4:=aq.fx 0 eZ
 have e5:=aq.fx 4 e0
 have e6:=aq.fx 5 e1
 have e7:=aq.fx 6 e2
 have bs:=aq.fx 14 br
 have e8:=aq.ge 1 36 rfl
 have cr:=cf.new_ ad
 have ct:=ch.new_ ad
 have cw:=ci.new_ ad
 have cx:=cj.new_ ad
 have cy:=cl.new_ ad
 have cz:=cm.new_ ad
 have cA:=cn.new_ ad
 refine st_nil (co _ _ ?_)
 refine wp_cond_false e8 ?_
 refine wp_g0 [true,true] [] 120
   [vF,vF] a1 (.eq (.eq (.nil))) ?_ ?_
 exact .t (fun _ w hn k=>⟨_,v_bin rfl (k.fx 14 bs) rfl (fun _=>rfl) (r_eqlS (r:=false) (by kernel_rfl)),rfl⟩)<| .a (fun k=>k.eq1 0 40 rfl) .nil
 refine aftI a1 cp cq fun gt gu a3 cB cC ae ar=>?_
 have e9:=ar.fx 0 e4
 have fa:=ar.fx 4 e5
 have fb:=ar.fx 5 e6
 have fc:=ar.fx 6 e7
 have bt:=ar.fx 14 bs
 have fd:=ar.ge 1 36 rfl
 have cD:=cr.new_ ae
 have cE:=ct.new_ ae
 have cF:=cw.new_ ae
 have cG:=cx.new_ ae
 have cH:=cy.new_ ae
 have cI:=cz.new_ ae
 have cJ:=cA.new_ ae
 refine st_nil (b1 _ _ ?_)
 refine wp_cond_false fd ?_
 refine wp_seq_k fun gv cK=>?_
 refine wp_seq_k fun gw cL=>?_
 refine wp_g0 [true,true] [] 120
   [vF,vF] a3 (.eq (.eq (.nil))) ?_ ?_
 exact .t (fun _ w hn k=>⟨_,v_bin rfl (k.fx 14 bt) rfl (fun _=>rfl) (r_eqlS (r:=false) (by kernel_rfl)),rfl⟩)<| .a (fun k=>k.eq1 0 48 rfl) .nil
 refine aftI a3 cB cC fun gx gy a4 cM cN af au=>?_
 have fe:=au.fx 0 e9
 have ff:=au.fx 4 fa
 have fg:=au.fx 5 fb
 have fh:=au.fx 6 fc
 have bu:=au.fx 14 bt
 have fi:=au.ge 1 47 rfl
 have cO:=cD.new_ af
 have cP:=cE.new_ af
 have cQ:=cF.new_ af
 have cR:=cG.new_ af
 have cS:=cH.new_ af
 have cT:=cI.new_ af
 have cU:=cJ.new_ af
 refine st_nil (cL _ _ ?_)
 refine wp_cond_false fi ?_
 refine wp_seq_k fun gz cV=>?_
 refine wp_g0 [true,true] [] 120
   [vF,vF] a4 (.eq (.eq (.nil))) ?_ ?_
 exact .t (fun _ w hn k=>⟨_,v_bin rfl (k.fx 14 bu) rfl (fun _=>rfl) (r_eqlS (r:=false) (by kernel_rfl)),rfl⟩)<| .a (fun k=>k.eq1 0 49 rfl) .nil
 refine aftI a4 cM cN fun gA gB a5 cW cX ag av=>?_
 have fj:=av.fx 0 fe
 have fk:=av.fx 4 ff
 have fl:=av.fx 5 fg
 have fm:=av.fx 6 fh
 have bv:=av.fx 14 bu
 have fn:=av.ge 1 47 rfl
 have cY:=cO.new_ ag
 have cZ:=cP.new_ ag
 have c0:=cQ.new_ ag
 have c1:=cR.new_ ag
 have c3:=cS.new_ ag
 have c5:=cT.new_ ag
 have c9:=cU.new_ ag
 refine st_nil (cV _ _ ?_)
 refine wp_cond_false fn ?_
 refine wp_seq_k fun gC da=>?_
 refine wp_g0 [true,true] [] 120
   [vF,vF] a5 (.eq (.eq (.nil))) ?_ ?_
 exact .t (fun _ w hn k=>⟨_,v_bin rfl (k.fx 14 bv) rfl (fun _=>rfl) (r_eqlS (r:=false) (by kernel_rfl)),rfl⟩)<| .a (fun k=>k.eq1 0 50 rfl) .nil
 refine aftI a5 cW cX fun gD gE a6 db dc ah aw=>?_
 have fo:=aw.fx 0 fj
 have fp:=aw.fx 4 fk
 have fq:=aw.fx 5 fl
 have fs:=aw.fx 6 fm
 have bw:=aw.fx 14 bv
 have ft:=aw.ge 1 47 rfl
 have dd:=cY.new_ ah
 have de:=cZ.new_ ah
 have df:=c0.new_ ah
 have dg:=c1.new_ ah
 have dh:=c3.new_ ah
 have di:=c5.new_ ah
 have dj:=c9.new_ ah
 refine st_nil (da _ _ ?_)
 refine wp_cond_false ft ?_
 refine wp_seq_k fun gF dk=>?_
 refine wp_g0 [true,true] [] 120
   [vF,vF] a6 (.eq (.eq (.nil))) ?_ ?_
 exact .t (fun _ w hn k=>⟨_,v_bin rfl (k.fx 14 bw) rfl (fun _=>rfl) (r_eqlS (r:=false) (by kernel_rfl)),rfl⟩)<| .a (fun k=>k.eq1 0 51 rfl) .nil
 refine aftI a6 db dc fun gG gH a7 dl dm ai ax=>?_
 have fu:=ax.fx 0 fo
 have fv:=ax.fx 4 fp
 have fw:=ax.fx 5 fq
 have fy:=ax.fx 6 fs
 have bx:=ax.fx 14 bw
 have fz:=ax.ge 1 47 rfl
 have dn:=dd.new_ ai
 have dp:=de.new_ ai
 have dq:=df.new_ ai
 have dr:=dg.new_ ai
 have ds:=dh.new_ ai
 have dt:=di.new_ ai
 have dw:=dj.new_ ai
 refine st_nil (dk _ _ ?_)
 refine wp_cond_false fz ?_
 refine wp_seq_k fun gI dx=>?_
 refine wp_g0 [true,true] [] 120
   [vF,vF] a7 (.eq (.eq (.nil))) ?_ ?_
 exact .t (fun _ w hn k=>⟨_,v_bin rfl (k.fx 14 bx) rfl (fun _=>rfl) (r_eqlS (r:=false) (by kernel_rfl)),rfl⟩)<| .a (fun k=>k.eq1 0 52 rfl) .nil
 refine aftI a7 dl dm fun gJ gK a8 dy dz aj ay=>?_
 have fA:=ay.fx 0 fu
 have fB:=ay.fx 4 fv
 have fC:=ay.fx 5 fw
 have fD:=ay.fx 6 fy
 have bz:=ay.fx 14 bx
 have fE:=ay.ge 1 47 rfl
 have dA:=dn.new_ aj
 have dB:=dp.new_ aj
 have dC:=dq.new_ aj
 have dD:=dr.new_ aj
 have dE:=ds.new_ aj
 have dF:=dt.new_ aj
 have dG:=dw.new_ aj
 refine st_nil (dx _ _ ?_)
 refine wp_cond_false fE ?_
 refine wp_g0 [true,true] [] 120
   [vF,vF] a8 (.eq (.eq (.nil))) ?_ ?_
 exact .t (fun _ w hn k=>⟨_,v_bin rfl (k.fx 14 bz) rfl (fun _=>rfl) (r_eqlS (r:=false) (by kernel_rfl)),rfl⟩)<| .a (fun k=>k.eq1 0 53 rfl) .nil
 refine aftI a8 dy dz fun gL gM a9 dH dI ak az=>?_
 have fF:=az.fx 0 fA
 have fG:=az.fx 4 fB
 have fH:=az.fx 5 fC
 have fI:=az.fx 6 fD
 have bA:=az.fx 14 bz
 have fJ:=az.ge 1 47 rfl
 have dJ:=dA.new_ ak
 have dK:=dB.new_ ak
 have dL:=dC.new_ ak
 have dM:=dD.new_ ak
 have dN:=dE.new_ ak
 have dO:=dF.new_ ak
 have dP:=dG.new_ ak
 refine st_nil (cK _ _ ?_)
 refine wp_cond_false fJ ?_
 refine wp_seq_k fun gN dQ=>?_
 refine wp_g0 [true,true] [] 120
   [vT,vT] a9 (.eq (.eq (.nil))) ?_ ?_
 exact .t (fun _ w hn k=>⟨_,v_bin rfl (k.fx 14 bA) rfl (fun _=>rfl) (r_eqlS (r:=true) (by kernel_rfl)),rfl⟩)<| .a (fun k=>k.eq1 0 61 rfl) .nil
 refine aftI a9 dH dI fun gO gP ba dR dS al aA=>?_
 have gQ:=aA.fx 0 fF
 have fK:=aA.fx 4 fG
 have fL:=aA.fx 5 fH
 have fM:=aA.fx 6 fI
 have gR:=aA.fx 14 bA
 have fN:=aA.ge 1 60 rfl
 have dT:=dJ.new_ al
 have dU:=dK.new_ al
 have dV:=dL.new_ al
 have dW:=dM.new_ al
 have dX:=dN.new_ al
 have dY:=dO.new_ al
 have dZ:=dP.new_ al
 refine st_nil (dQ _ _ ?_)
 refine wp_cond_true fN ?_
 refine wp_seq_k fun gS d0=>?_
 refine wp_g0 [true,true,true,true,true,false,false] [(5,false),(6,true)] 120
   [ve (vv (cleanV v) aP aF aQ aG),ve (vv (cleanV u) aR aH aS aI),ve (.tuple #[vv (Vl.mk (lessT (cleanV v) (cleanV u) false false).1 0 0 false [] [] (lessT (cleanV v) (cleanV u) false false).2.1) none 0 none 0,iv ((lessT (cleanV v) (cleanV u) false false).2.2)]),ve (vv (Vl.mk (lessT (cleanV v) (cleanV u) false false).1 0 0 false [] [] (lessT (cleanV v) (cleanV u) false false).2.1) none 0 none 0),ve (iv ((lessT (cleanV v) (cleanV u) false false).2.2)),vt,vt] ba (.eq (.eq (.eq (.eq (.eq (.tt (.tt (.nil)))))))) ?_ ?_
 exact .t (fun _ w hn k=>⟨_,v_load rfl (k.fx 4 fK) (l_agg Tryz.isAgg29 Tryz.sizeOf29 (dT.new_ hn) rfl),rfl⟩)<| .t (fun _ w hn k=>⟨_,v_load rfl (k.fx 5 fL) (l_agg Tryz.isAgg29 Tryz.sizeOf29 (dU.new_ hn) rfl),rfl⟩)<| .o1 (ck rfl rfl rfl (fun _ w hn k=>⟨#[vv (cleanV v) aP aF aQ aG,vv (cleanV u) aR aH aS aI,.bool false,.bool false],args4 (k.eq1 0 62 rfl) (k.eq1 1 63 rfl) rfl rfl,fun _=>by kernel_rfl,less_c (cleanV v) _ _ _ _ (cleanV u) _ _ _ _ false false _ (dW.new_ hn) (dX.new_ hn) (dY.new_ hn) (dZ.new_ hn) hvv.clean hvu.clean⟩) fun _=>rfl)<| .t (fun _ w hn k=>⟨_,v_extract rfl (k.eq1 2 64 rfl) rfl,rfl⟩)<| .t (fun _ w hn k=>⟨_,v_extract rfl (k.eq1 2 64 rfl) rfl,rfl⟩)<| .off<| .off .nil
 refine aftI ba dR dS fun bB gT bb d1 d2 d3 aO=>?_
 have bC:=aO.fx 6 fM
 have bD:=aO.ge 3 65 rfl
 have bE:=aO.ge 4 66 rfl
 have d4:=dV.new_ d3
 obtain⟨fO,bF,bG,d5,f9⟩:=s_many (P:=Tryz.prog) (t:=29) (i:=0) [iv ((lessT (cleanV v) (cleanV u) false false).1),iv 0,iv 0,.bool false,sv none ([]) 0,sv none ([]) 0,iv ((lessT (cleanV v) (cleanV u) false false).2.1)] Tryz.sizeOf29 rfl rfl rfl d4 lb
 have d6:Blk fO bh 29 [iv ((lessT (cleanV v) (cleanV u) false false).1),iv 0,iv 0,.bool false,sv none ([]) 0,sv none ([]) 0,iv ((lessT (cleanV v) (cleanV u) false false).2.1)]:=bG
 refine st_act rfl rfl fun gU d7=>a_store' rfl bC bD bF (d7 _ _ trivial ?_)
 have d8:=d2.trans d5 (fun _ h b=>by subst b; omega)
 refine st_take rfl rfl (y_assign (v:=iv ((lessT (cleanV v) (cleanV u) false false).2.2)) rfl bE) rfl ?_
 obtain⟨fP,am⟩:∃ a',a'=bB.put (some 7) (iv ((lessT (cleanV v) (cleanV u) false false).2.2)):=⟨_,rfl⟩
 have ga:=pz am bb
 have d9:=pd am d1
 have fQ:=pn am bC (by decide)
 have gV:=pn am bD (by decide)
 have gW:=pn am bE (by decide)
 have fR:fP.eval (.tmp 7)=iv ((lessT (cleanV v) (cleanV u) false false).2.2):=by rw [am]; exact put_same _ _ _ (by rw [bb]; decide)
 show stepsTo _ _ _ _ _ (bB.put (some 7) (iv ((lessT (cleanV v) (cleanV u) false false).2.2))) _
 rw [← am]
 refine st_nil (d0 _ _ ?_)
 refine wp_ret (ret_k d9 (v:=.tuple #[vv (Vl.mk (lessT (cleanV v) (cleanV u) false false).1 0 0 false [] [] (lessT (cleanV v) (cleanV u) false false).2.1) none 0 none 0,iv ((lessT (cleanV v) (cleanV u) false false).2.2)]) (res_ct rfl fQ fR (l_agg Tryz.isAgg29 Tryz.sizeOf29 d6 rfl)) ?_)
 exact⟨rfl,d8⟩
theorem binGt_c  (v:Vl) (Av:Option Addr) (cv:Nat) (Bv:Option Addr) (dv:Nat) (u:Vl) (Au:Option Addr) (cu:Nat) (Bu:Option Addr) (du:Nat) (w:World) (hmv:SRow w .u32 Av v.mag cv) (hsv:SRow w .u16 Bv v.s dv) (hmu:SRow w .u32 Au u.mag cu) (hsu:SRow w .u16 Bu u.s du) (hvv:VOk v) (hvu:VOk u):Calls Tryz.prog 12 #[.string ⟨#[62]⟩,vv v Av cv Bv dv,vv u Au cu Bu du] w (IsRet (.tuple #[vv (Vl.mk (lessT (cleanV v) (cleanV u) true false).1 0 0 false [] [] (lessT (cleanV v) (cleanV u) true false).2.1) none 0 none 0,iv ((lessT (cleanV v) (cleanV u) true false).2.2)]) w):=by
 refine enter_abs Tryz.func12 rfl fun a0 aW gb hp=>?_
 have aW:a0.tmps.size=120:=aW
 have aX:New w w:=Upd.refl _ _
 have hp0:a0.eval (.tmp 0)=.string ⟨#[62]⟩:=hp 0 _ rfl
 have hp1:a0.eval (.tmp 1)=vv v Av cv Bv dv:=hp 1 _ rfl
 have hp2:a0.eval (.tmp 2)=vv u Au cu Bu du:=hp 2 _ rfl
 refine wp_seq_k fun K1 gc=>?_
 refine wp_g [true,true,true,true] [] [] 120
   [IsNew w 29 (c7 v Av cv Bv dv),IsNew w 29 (c7 u Au cu Bu du),IsNew w 29 z7,ve (iv 0)]
   [0,1,2] (newsCons (fun v w h=>IsNew.old h) (newsCons (fun v w h=>IsNew.old h) (newsCons (fun v w h=>IsNew.old h) newsNil))) aW (.nw (.nw (.nw (.eq (.nil))))) ?_ (fun i h=>by cases h) ?_
 exact .o2 (step_allocN (cs:=(c7 v Av cv Bv dv)) (t:=29) rfl (noG rfl) (fun _ w hn k=>v_box rfl (k.fx 1 hp1) (fun w=>rfl)) (fun q _ hq hb=>⟨q,rfl,hq,hb⟩))<| .o2 (step_allocN (cs:=(c7 u Au cu Bu du)) (t:=29) rfl (noG rfl) (fun _ w hn k=>v_box rfl (k.fx 2 hp2) (fun w=>rfl)) (fun q _ hq hb=>⟨q,rfl,hq,hb⟩))<| .o2 (step_allocN (cs:=z7) (t:=29) rfl (noG rfl) (fun _ w hn k=>rfl) (fun q _ hq hb=>⟨q,rfl,hq,hb⟩))<| .t (fun _ w hn k=>⟨_,v_assign rfl rfl,rfl⟩) .nil
 refine aftI aW gb aX fun a2 w3 eo gd aF ho aG=>?_
 have h8:=aG.fx 0 hp0
 obtain⟨bg,h9,ev,bh⟩:=aG.G 0 4
 obtain⟨bi,aY,ew,bj⟩:=aG.G 1 5
 obtain⟨bk,bl,ex,ey⟩:=aG.G 2 6
 have hne21:bg ≠ bi:=aG.ne 0 1 4 5 h9 aY
 have hne22:bg ≠ bk:=aG.ne 0 2 4 6 h9 bl
 have hne23:bi ≠ bk:=aG.ne 1 2 5 6 aY bl
 have gv:=Nat.le_trans aX.size ev
 have gw:=Nat.le_trans aX.size ew
 have gx:=Nat.le_trans aX.size ex
 refine st_nil (gc _ _ (wp_seq_k fun hr ez=>?_))
 refine wp_g0 [true,true,true,true,false,false] [(4,false),(5,false)] 120
   [ve (vv v Av cv Bv dv),
    (VP (cleanV v)),ve (vv u Au cu Bu du),
    (VP (cleanV u)),vt,vt] eo (.eq (.cons (fun _ _ _ n ⟨_,_,_,_,e,h,i⟩=>⟨_,_,_,_,e,h.new_ n,i.new_ n⟩) (.eq (.cons (fun _ _ _ n ⟨_,_,_,_,e,h,i⟩=>⟨_,_,_,_,e,h.new_ n,i.new_ n⟩) (.tt (.tt (.nil))))))) ?_ ?_
 refine .t (fun _ w hn k=>⟨_,v_load rfl (k.fx 4 h9) (l_agg Tryz.isAgg29 Tryz.sizeOf29 (bh.new_ hn) rfl),rfl⟩) ?_
 refine .o1 (tkC rfl (noG rfl) rfl fun _ w hn k=>(by
       refine ⟨#[vv v Av cv Bv dv],_,args1 (k.eq1 0 10 rfl),fun w=>by kernel_rfl,clean_c v _ _ _ _ _ (hmv.new_ (aF.transNew hn)) (hsv.new_ (aF.transNew hn)),?_⟩
       rintro e w' ⟨A1,c2,A3,c4,rfl,hmo0,hmo1,hm⟩
       exact⟨_,rfl,hm,⟨A1,c2,A3,c4,rfl,hmo0,hmo1⟩⟩)) ?_
 refine .t (fun _ w hn k=>⟨_,v_load rfl (k.fx 5 aY) (l_agg Tryz.isAgg29 Tryz.sizeOf29 (bj.new_ hn) rfl),rfl⟩) ?_
 refine .o1 (tkC rfl (noG rfl) rfl fun _ w hn k=>(by
       refine ⟨#[vv u Au cu Bu du],_,args1 (k.eq1 2 12 rfl),fun w=>by kernel_rfl,clean_c u _ _ _ _ _ (hmu.new_ (aF.transNew hn)) (hsu.new_ (aF.transNew hn)),?_⟩
       rintro e w' ⟨A9,gj,gk,gl,rfl,hmo0,hmo1,hm⟩
       exact⟨_,rfl,hm,⟨A9,gj,gk,gl,rfl,hmo0,hmo1⟩⟩)) ?_
 exact .off<| .off .nil
 refine aftI eo gd aF fun ep hs bm eA eB aV aE=>?_
 have er:=aE.fx 0 h8
 have es:=aE.fx 4 h9
 have et:=aE.fx 5 aY
 have gm:=aE.fx 6 bl
 obtain⟨aR,aH,aS,aI,bn,eC,eD⟩:=aE.G 1 11
 have bn:ep.eval (.tmp 11)=vv (cleanV v) aR aH aS aI:=bn
 obtain⟨aT,aJ,aU,aK,bo,eE,eF⟩:=aE.G 3 13
 have bo:ep.eval (.tmp 13)=vv (cleanV u) aT aJ aU aK:=bo
 have aL:=bh.new_ aV
 have eG:=bj.new_ aV
 have eH:=ey.new_ aV
 obtain⟨gn,bL,bM,aM,bp⟩:=s_many (P:=Tryz.prog) (t:=29) (i:=0) (c7 (cleanV v) aR aH aS aI) Tryz.sizeOf29 rfl rfl rfl aL lb
 have eI:Blk gn bg 29 (c7 (cleanV v) aR aH aS aI):=bM
 refine st_act rfl rfl fun ht eJ=>a_store' rfl es bn bL (eJ _ _ trivial ?_)
 have eK:=eC.fr aL aM
 have eL:=eD.fr aL aM
 have eM:=eE.fr aL aM
 have eN:=eF.fr aL aM
 have aN:=bp _ _ _ (fun h=>hne21 h.symm) eG
 have eO:=bp _ _ _ (fun h=>hne22 h.symm) eH
 have eP:=eB.trans aM (fun _ h b=>by subst b; omega)
 obtain⟨go,bN,bO,aO,bq⟩:=s_many (P:=Tryz.prog) (t:=29) (i:=0) (c7 (cleanV u) aT aJ aU aK) Tryz.sizeOf29 rfl rfl rfl aN lb
 have eQ:Blk go bi 29 (c7 (cleanV u) aT aJ aU aK):=bO
 refine st_act rfl rfl fun hu eR=>a_store' rfl et bo bN (eR _ _ trivial ?_)
 have eS:=eK.fr aN aO
 have eT:=eL.fr aN aO
 have eU:=eM.fr aN aO
 have eV:=eN.fr aN aO
 have eW:=bq _ _ _ (hne21) eI
 have eX:=bq _ _ _ (fun h=>hne23 h.symm) eO
 have eY:=eP.trans aO (fun _ h b=>by subst b; omega)
 refine st_nil (ez _ _ (wp_seq_k fun hv gy=>?_))
 refine wp_seq_k fun hw eZ=>?_
 refine wp_g0 [true] [] 120
   [ve (.string ⟨#[62]⟩)] bm (.eq (.nil)) ?_ ?_
 exact .m (fun k=>k.fx 0 er) .nil
 refine aftI bm eA eY fun hx hy br e0 bP aD aP=>?_
 have gp:=aP.fx 0 er
 have gq:=aP.fx 4 es
 have gr:=aP.fx 5 et
 have gs:=aP.fx 6 gm
 have eu:=aP.ge 0 14 rfl
 have e1:=eW.new_ aD
 have e2:=eQ.new_ aD
 have bQ:=eX.new_ aD
 have bR:=eS.new_ aD
 have bS:=eT.new_ aD
 have bT:=eU.new_ aD
 have bU:=eV.new_ aD
 refine st_nil (eZ _ _ ?_)
 refine wp_block ?_
 refine wp_seq_k fun gz bV=>?_
 refine wp_g0 [true,true] [] 120
   [vF,vF] br (.eq (.eq (.nil))) ?_ ?_
 exact .t (fun _ w hn k=>⟨_,v_bin rfl (k.fx 14 eu) rfl (fun _=>rfl) (r_eqlS (r:=false) (by kernel_rfl)),rfl⟩)<| .a (fun k=>k.eq1 0 16 rfl) .nil
 refine aftI br e0 bP fun gA gB aZ bW bX aa ao=>?_
 have e3:=ao.fx 0 gp
 have e4:=ao.fx 4 gq
 have e5:=ao.fx 5 gr
 have e6:=ao.fx 6 gs
 have bs:=ao.fx 14 eu
 have e7:=ao.ge 1 15 rfl
 have bY:=e1.new_ aa
 have bZ:=e2.new_ aa
 have b0:=bQ.new_ aa
 have b1:=bR.new_ aa
 have b2:=bS.new_ aa
 have b3:=bT.new_ aa
 have b4:=bU.new_ aa
 refine st_nil (bV _ _ ?_)
 refine wp_cond_false e7 ?_
 refine wp_seq_k fun gC b5=>?_
 refine wp_seq_k fun gD b6=>?_
 refine wp_g0 [true,true] [] 120
   [vF,vF] aZ (.eq (.eq (.nil))) ?_ ?_
 exact .t (fun _ w hn k=>⟨_,v_bin rfl (k.fx 14 bs) rfl (fun _=>rfl) (r_eqlS (r:=false) (by kernel_rfl)),rfl⟩)<| .a (fun k=>k.eq1 0 37 rfl) .nil
 refine aftI aZ bW bX fun gE gF a1 b7 b8 ab ap=>?_
 have e8:=ap.fx 0 e3
 have e9:=ap.fx 4 e4
 have fa:=ap.fx 5 e5
 have fb:=ap.fx 6 e6
 have bt:=ap.fx 14 bs
 have fc:=ap.ge 1 36 rfl
 have b9:=bY.new_ ab
 have ca:=bZ.new_ ab
 have cb:=b0.new_ ab
 have cc:=b1.new_ ab
 have cd:=b2.new_ ab
 have ce:=b3.new_ ab
 have cf:=b4.new_ ab
 refine st_nil (b6 _ _ ?_)
 refine wp_cond_false fc ?_
 refine wp_seq_k fun gG ch=>?_
 refine wp_g0 [true,true] [] 120
   [vF,vF] a1 (.eq (.eq (.nil))) ?_ ?_
 exact .t (fun _ w hn k=>⟨_,v_bin rfl (k.fx 14 bt) rfl (fun _=>rfl) (r_eqlS (r:=false) (by kernel_rfl)),rfl⟩)<| .a (fun k=>k.eq1 0 38 rfl) .nil
 refine aftI a1 b7 b8 fun gH gI a3 ci cj ac aq=>?_
 have fd:=aq.fx 0 e8
 have fe:=aq.fx 4 e9
 have ff:=aq.fx 5 fa
 have fg:=aq.fx 6 fb
 have bu:=aq.fx 14 bt
 have fh:=aq.ge 1 36 rfl
 have cl:=b9.new_ ac
 have cm:=ca.new_ ac
 have cn:=cb.new_ ac
 have co:=cc.new_ ac
 have cp:=cd.new_ ac
 have cq:=ce.new_ ac
 have cr:=cf.new_ ac
 refine st_nil (ch _ _ ?_)
 refine wp_cond_false fh ?_
 refine wp_seq_k fun gJ ct=>?_
 refine wp_g0 [true,true] [] 120
   [vF,vF] a3 (.eq (.eq (.nil))) ?_ ?_
 exact .t (fun _ w hn k=>⟨_,v_bin rfl (k.fx 14 bu) rfl (fun _=>rfl) (r_eqlS (r:=false) (by kernel_rfl)),rfl⟩)<| .a (fun k=>k.eq1 0 39 rfl) .nil
 refine aftI a3 ci cj fun gK gL a4 cw cx ad ar=>?_
 have fi:=ar.fx 0 fd
 have fj:=ar.fx 4 fe
 have fk:=ar.fx 5 ff
 have fl:=ar.fx 6 fg
 have bv:=ar.fx 14 bu
 have fm:=ar.ge 1 36 rfl
 have cy:=cl.new_ ad
 have cz:=cm.new_ ad
 have cA:=cn.new_ ad
 have cB:=co.new_ ad
 have cC:=cp.new_ ad
 have cD:=cq.new_ ad
 have cE:=cr.new_ ad
 refine st_nil (ct _ _ ?_)
 refine wp_cond_false fm ?_
 refine wp_g0 [true,true] [] 120
   [vF,vF] a4 (.eq (.eq (.nil))) ?_ ?_
 exact .t (fun _ w hn k=>⟨_,v_bin rfl (k.fx 14 bv) rfl (fun _=>rfl) (r_eqlS (r:=false) (by kernel_rfl)),rfl⟩)<| .a (fun k=>k.eq1 0 40 rfl) .nil
 refine aftI a4 cw cx fun gM gN a5 cF cG ae au=>?_
 have fn:=au.fx 0 fi
 have fo:=au.fx 4 fj
 have fp:=au.fx 5 fk
 have fq:=au.fx 6 fl
 have bw:=au.fx 14 bv
 have fs:=au.ge 1 36 rfl
 have cH:=cy.new_ ae
 have cI:=cz.new_ ae
 have cJ:=cA.new_ ae
 have cK:=cB.new_ ae
 have cL:=cC.new_ ae
 have cM:=cD.new_ ae
 have cN:=cE.new_ ae
 refine st_nil (b5 _ _ ?_)
 refine wp_cond_false fs ?_
 refine wp_seq_k fun gO cO=>?_
 refine wp_seq_k fun gP cP=>?_
 refine wp_g0 [true,true] [] 120
   [vF,vF] a5 (.eq (.eq (.nil))) ?_ ?_
 exact .t (fun _ w hn k=>⟨_,v_bin rfl (k.fx 14 bw) rfl (fun _=>rfl) (r_eqlS (r:=false) (by kernel_rfl)),rfl⟩)<| .a (fun k=>k.eq1 0 48 rfl) .nil
 refine aftI a5 cF cG fun gQ gR a6 cQ cR af av=>?_
 have ft:=av.fx 0 fn
 have fu:=av.fx 4 fo
 have fv:=av.fx 5 fp
 have fw:=av.fx 6 fq
 have bx:=av.fx 14 bw
 have fy:=av.ge 1 47 rfl
 have cS:=cH.new_ af
 have cT:=cI.new_ af
 have cU:=cJ.new_ af
 have cV:=cK.new_ af
 have cW:=cL.new_ af
 have cX:=cM.new_ af
 have cY:=cN.new_ af
 refine st_nil (cP _ _ ?_)
 refine wp_cond_false fy ?_
 refine wp_seq_k fun gS cZ=>?_
 refine wp_g0 [true,true] [] 120
   [vF,vF] a6 (.eq (.eq (.nil))) ?_ ?_
 exact .t (fun _ w hn k=>⟨_,v_bin rfl (k.fx 14 bx) rfl (fun _=>rfl) (r_eqlS (r:=false) (by kernel_rfl)),rfl⟩)<| .a (fun k=>k.eq1 0 49 rfl) .nil
 refine aftI a6 cQ cR fun gT gU a7 c0 c1 ag aw=>?_
 have fz:=aw.fx 0 ft
 have fA:=aw.fx 4 fu
 have fB:=aw.fx 5 fv
 have fC:=aw.fx 6 fw
 have bz:=aw.fx 14 bx
 have fD:=aw.ge 1 47 rfl
 have c3:=cS.new_ ag
 have c5:=cT.new_ ag
 have c9:=cU.new_ ag
 have da:=cV.new_ ag
 have db:=cW.new_ ag
 have dc:=cX.new_ ag
 have dd:=cY.new_ ag
 refine st_nil (cZ _ _ ?_)
 refine wp_cond_false fD ?_
 refine wp_seq_k fun gV de=>?_
 refine wp_g0 [true,true] [] 120
   [vF,vF] a7 (.eq (.eq (.nil))) ?_ ?_
 exact .t (fun _ w hn k=>⟨_,v_bin rfl (k.fx 14 bz) rfl (fun _=>rfl) (r_eqlS (r:=false) (by kernel_rfl)),rfl⟩)<| .a (fun k=>k.eq1 0 50 rfl) .nil
 refine aftI a7 c0 c1 fun gW gX a8 df dg ah ax=>?_
 have fE:=ax.fx 0 fz
 have fF:=ax.fx 4 fA
 have fG:=ax.fx 5 fB
 have fH:=ax.fx 6 fC
 have bA:=ax.fx 14 bz
 have fI:=ax.ge 1 47 rfl
 have dh:=c3.new_ ah
 have di:=c5.new_ ah
 have dj:=c9.new_ ah
 have dk:=da.new_ ah
 have dl:=db.new_ ah
 have dm:=dc.new_ ah
 have dn:=dd.new_ ah
 refine st_nil (de _ _ ?_)
 refine wp_cond_false fI ?_
 refine wp_seq_k fun gY dp=>?_
 refine wp_g0 [true,true] [] 120
   [vF,vF] a8 (.eq (.eq (.nil))) ?_ ?_
 exact .t (fun _ w hn k=>⟨_,v_bin rfl (k.fx 14 bA) rfl (fun _=>rfl) (r_eqlS (r:=false) (by kernel_rfl)),rfl⟩)<| .a (fun k=>k.eq1 0 51 rfl) .nil
 refine aftI a8 df dg fun gZ g0 a9 dq dr ai ay=>?_
 have fJ:=ay.fx 0 fE
 have fK:=ay.fx 4 fF
 have fL:=ay.fx 5 fG
 have fM:=ay.fx 6 fH
 have bB:=ay.fx 14 bA
 have fN:=ay.ge 1 47 rfl
 have ds:=dh.new_ ai
 have dt:=di.new_ ai
 have dw:=dj.new_ ai
 have dx:=dk.new_ ai
 have dy:=dl.new_ ai
 have dz:=dm.new_ ai
 have dA:=dn.new_ ai
 refine st_nil (dp _ _ ?_)
 refine wp_cond_false fN ?_
 refine wp_seq_k fun g1 dB=>?_
 refine wp_g0 [true,true] [] 120
   [vF,vF] a9 (.eq (.eq (.nil))) ?_ ?_
 exact .t (fun _ w hn k=>⟨_,v_bin rfl (k.fx 14 bB) rfl (fun _=>rfl) (r_eqlS (r:=false) (by kernel_rfl)),rfl⟩)<| .a (fun k=>k.eq1 0 52 rfl) .nil
 refine aftI a9 dq dr fun g2 g3 ba dC dD aj az=>?_
 have fO:=az.fx 0 fJ
 have fP:=az.fx 4 fK
 have fQ:=az.fx 5 fL
 have fR:=az.fx 6 fM
 have bC:=az.fx 14 bB
 have fS:=az.ge 1 47 rfl
 have dE:=ds.new_ aj
 have dF:=dt.new_ aj
 have dG:=dw.new_ aj
 have dH:=dx.new_ aj
 have dI:=dy.new_ aj
 have dJ:=dz.new_ aj
 have dK:=dA.new_ aj
 refine st_nil (dB _ _ ?_)
 refine wp_cond_false fS ?_
 refine wp_g0 [true,true] [] 120
   [vF,vF] ba (.eq (.eq (.nil))) ?_ ?_
 exact .t (fun _ w hn k=>⟨_,v_bin rfl (k.fx 14 bC) rfl (fun _=>rfl) (r_eqlS (r:=false) (by kernel_rfl)),rfl⟩)<| .a (fun k=>k.eq1 0 53 rfl) .nil
 refine aftI ba dC dD fun g4 g5 bb dL dM ak aA=>?_
 have fT:=aA.fx 0 fO
 have fU:=aA.fx 4 fP
 have fV:=aA.fx 5 fQ
 have fW:=aA.fx 6 fR
 have bD:=aA.fx 14 bC
 have fX:=aA.ge 1 47 rfl
 have dN:=dE.new_ ak
 have dO:=dF.new_ ak
 have dP:=dG.new_ ak
 have dQ:=dH.new_ ak
 have dR:=dI.new_ ak
 have dS:=dJ.new_ ak
 have dT:=dK.new_ ak
 refine st_nil (cO _ _ ?_)
 refine wp_cond_false fX ?_
 refine wp_seq_k fun g6 dU=>?_
 refine wp_g0 [true,true] [] 120
   [vF,vF] bb (.eq (.eq (.nil))) ?_ ?_
 exact .t (fun _ w hn k=>⟨_,v_bin rfl (k.fx 14 bD) rfl (fun _=>rfl) (r_eqlS (r:=false) (by kernel_rfl)),rfl⟩)<| .a (fun k=>k.eq1 0 61 rfl) .nil
 refine aftI bb dL dM fun g7 g8 bd dV dW al aB=>?_
 have fY:=aB.fx 0 fT
 have fZ:=aB.fx 4 fU
 have f0:=aB.fx 5 fV
 have f1:=aB.fx 6 fW
 have bE:=aB.fx 14 bD
 have f2:=aB.ge 1 60 rfl
 have dX:=dN.new_ al
 have dY:=dO.new_ al
 have dZ:=dP.new_ al
 have d0:=dQ.new_ al
 have d1:=dR.new_ al
 have d2:=dS.new_ al
 have d3:=dT.new_ al
 refine st_nil (dU _ _ ?_)
 refine wp_cond_false f2 ?_
 refine wp_seq_k fun g9 d4=>?_
 refine wp_g0 [true,true] [] 120
   [vT,vT] bd (.eq (.eq (.nil))) ?_ ?_
 exact .t (fun _ w hn k=>⟨_,v_bin rfl (k.fx 14 bE) rfl (fun _=>rfl) (r_eqlS (r:=true) (by kernel_rfl)),rfl⟩)<| .a (fun k=>k.eq1 0 68 rfl) .nil
 refine aftI bd dV dW fun ha hc be d5 d6 am aC=>?_
 have hd:=aC.fx 0 fY
 have f3:=aC.fx 4 fZ
 have f4:=aC.fx 5 f0
 have f5:=aC.fx 6 f1
 have hf:=aC.fx 14 bE
 have f6:=aC.ge 1 67 rfl
 have d7:=dX.new_ am
 have d8:=dY.new_ am
 have d9:=dZ.new_ am
 have ea:=d0.new_ am
 have eb:=d1.new_ am
 have ec:=d2.new_ am
 have ed:=d3.new_ am
 refine st_nil (d4 _ _ ?_)
 refine wp_cond_true f6 ?_
 refine wp_seq_k fun hg ee=>?_
 refine wp_g0 [true,true,true,true,true,false,false] [(5,false),(6,true)] 120
   [ve (vv (cleanV v) aR aH aS aI),ve (vv (cleanV u) aT aJ aU aK),ve (.tuple #[vv (Vl.mk (lessT (cleanV v) (cleanV u) true false).1 0 0 false [] [] (lessT (cleanV v) (cleanV u) true false).2.1) none 0 none 0,iv ((lessT (cleanV v) (cleanV u) true false).2.2)]),ve (vv (Vl.mk (lessT (cleanV v) (cleanV u) true false).1 0 0 false [] [] (lessT (cleanV v) (cleanV u) true false).2.1) none 0 none 0),ve (iv ((lessT (cleanV v) (cleanV u) true false).2.2)),vt,vt] be (.eq (.eq (.eq (.eq (.eq (.tt (.tt (.nil)))))))) ?_ ?_
 exact .t (fun _ w hn k=>⟨_,v_load rfl (k.fx 4 f3) (l_agg Tryz.isAgg29 Tryz.sizeOf29 (d7.new_ hn) rfl),rfl⟩)<| .t (fun _ w hn k=>⟨_,v_load rfl (k.fx 5 f4) (l_agg Tryz.isAgg29 Tryz.sizeOf29 (d8.new_ hn) rfl),rfl⟩)<| .o1 (ck rfl rfl rfl (fun _ w hn k=>⟨#[vv (cleanV v) aR aH aS aI,vv (cleanV u) aT aJ aU aK,.bool true,.bool false],args4 (k.eq1 0 69 rfl) (k.eq1 1 70 rfl) rfl rfl,fun _=>by kernel_rfl,less_c (cleanV v) _ _ _ _ (cleanV u) _ _ _ _ true false _ (ea.new_ hn) (eb.new_ hn) (ec.new_ hn) (ed.new_ hn) hvv.clean hvu.clean⟩) fun _=>rfl)<| .t (fun _ w hn k=>⟨_,v_extract rfl (k.eq1 2 71 rfl) rfl,rfl⟩)<| .t (fun _ w hn k=>⟨_,v_extract rfl (k.eq1 2 71 rfl) rfl,rfl⟩)<| .off<| .off .nil
 refine aftI be d5 d6 fun bF hh bf ef eg eh aQ=>?_
 have bG:=aQ.fx 6 f5
 have bH:=aQ.ge 3 72 rfl
 have bI:=aQ.ge 4 73 rfl
 have ei:=d9.new_ eh
 obtain⟨f7,bJ,bK,ej,gt⟩:=s_many (P:=Tryz.prog) (t:=29) (i:=0) [iv ((lessT (cleanV v) (cleanV u) true false).1),iv 0,iv 0,.bool false,sv none ([]) 0,sv none ([]) 0,iv ((lessT (cleanV v) (cleanV u) true false).2.1)] Tryz.sizeOf29 rfl rfl rfl ei lb
 have ek:Blk f7 bk 29 [iv ((lessT (cleanV v) (cleanV u) true false).1),iv 0,iv 0,.bool false,sv none ([]) 0,sv none ([]) 0,iv ((lessT (cleanV v) (cleanV u) true false).2.1)]:=bK
 refine st_act rfl rfl fun hi el=>a_store' rfl bG bH bJ (el _ _ trivial ?_)
 have em:=eg.trans ej (fun _ h b=>by subst b; omega)
 refine st_take rfl rfl (y_assign (v:=iv ((lessT (cleanV v) (cleanV u) true false).2.2)) rfl bI) rfl ?_
 obtain⟨f8,an⟩:∃ a',a'=bF.put (some 7) (iv ((lessT (cleanV v) (cleanV u) true false).2.2)):=⟨_,rfl⟩
 have gu:=pz an bf
 have en:=pd an ef
 have f9:=pn an bG (by decide)
 have hj:=pn an bH (by decide)
 have hl:=pn an bI (by decide)
 have ga:f8.eval (.tmp 7)=iv ((lessT (cleanV v) (cleanV u) true false).2.2):=by rw [an]; exact put_same _ _ _ (by rw [bf]; decide)
 show stepsTo _ _ _ _ _ (bF.put (some 7) (iv ((lessT (cleanV v) (cleanV u) true false).2.2))) _
 rw [← an]
 refine st_nil (ee _ _ ?_)
 refine wp_ret (ret_k en (v:=.tuple #[vv (Vl.mk (lessT (cleanV v) (cleanV u) true false).1 0 0 false [] [] (lessT (cleanV v) (cleanV u) true false).2.1) none 0 none 0,iv ((lessT (cleanV v) (cleanV u) true false).2.2)]) (res_ct rfl f9 ga (l_agg Tryz.isAgg29 Tryz.sizeOf29 ek rfl)) ?_)
 exact⟨rfl,em⟩
theorem binLe_c  (v:Vl) (Av:Option Addr) (cv:Nat) (Bv:Option Addr) (dv:Nat) (u:Vl) (Au:Option Addr) (cu:Nat) (Bu:Option Addr) (du:Nat) (w:World) (hmv:SRow w .u32 Av v.mag cv) (hsv:SRow w .u16 Bv v.s dv) (hmu:SRow w .u32 Au u.mag cu) (hsu:SRow w .u16 Bu u.s du) (hvv:VOk v) (hvu:VOk u):Calls Tryz.prog 12 #[.string ⟨#[60,61]⟩,vv v Av cv Bv dv,vv u Au cu Bu du] w (IsRet (.tuple #[vv (Vl.mk (lessT (cleanV v) (cleanV u) true true).1 0 0 false [] [] (lessT (cleanV v) (cleanV u) true true).2.1) none 0 none 0,iv ((lessT (cleanV v) (cleanV u) true true).2.2)]) w):=by
 refine enter_abs Tryz.func12 rfl fun a0 aY gv hp=>?_
 have aY:a0.tmps.size=120:=aY
 have aZ:New w w:=Upd.refl _ _
 have hp0:a0.eval (.tmp 0)=.string ⟨#[60,61]⟩:=hp 0 _ rfl
 have hp1:a0.eval (.tmp 1)=vv v Av cv Bv dv:=hp 1 _ rfl
 have hp2:a0.eval (.tmp 2)=vv u Au cu Bu du:=hp 2 _ rfl
 refine wp_seq_k fun K1 gw=>?_
 refine wp_g [true,true,true,true] [] [] 120
   [IsNew w 29 (c7 v Av cv Bv dv),IsNew w 29 (c7 u Au cu Bu du),IsNew w 29 z7,ve (iv 0)]
   [0,1,2] (newsCons (fun v w h=>IsNew.old h) (newsCons (fun v w h=>IsNew.old h) (newsCons (fun v w h=>IsNew.old h) newsNil))) aY (.nw (.nw (.nw (.eq (.nil))))) ?_ (fun i h=>by cases h) ?_
 exact .o2 (step_allocN (cs:=(c7 v Av cv Bv dv)) (t:=29) rfl (noG rfl) (fun _ w hn k=>v_box rfl (k.fx 1 hp1) (fun w=>rfl)) (fun q _ hq hb=>⟨q,rfl,hq,hb⟩))<| .o2 (step_allocN (cs:=(c7 u Au cu Bu du)) (t:=29) rfl (noG rfl) (fun _ w hn k=>v_box rfl (k.fx 2 hp2) (fun w=>rfl)) (fun q _ hq hb=>⟨q,rfl,hq,hb⟩))<| .o2 (step_allocN (cs:=z7) (t:=29) rfl (noG rfl) (fun _ w hn k=>rfl) (fun q _ hq hb=>⟨q,rfl,hq,hb⟩))<| .t (fun _ w hn k=>⟨_,v_assign rfl rfl,rfl⟩) .nil
 refine aftI aY gv aZ fun a2 w3 eD gx aH hN aI=>?_
 have h8:=aI.fx 0 hp0
 obtain⟨bj,h9,eJ,bk⟩:=aI.G 0 4
 obtain⟨bl,a1,eK,bm⟩:=aI.G 1 5
 obtain⟨bn,bo,eL,eM⟩:=aI.G 2 6
 have hne21:bj ≠ bl:=aI.ne 0 1 4 5 h9 a1
 have hne22:bj ≠ bn:=aI.ne 0 2 4 6 h9 bo
 have hne23:bl ≠ bn:=aI.ne 1 2 5 6 a1 bo
 have gO:=Nat.le_trans aZ.size eJ
 have gP:=Nat.le_trans aZ.size eK
 have gQ:=Nat.le_trans aZ.size eL
 refine st_nil (gw _ _ (wp_seq_k fun hO eN=>?_))
 refine wp_g0 [true,true,true,true,false,false] [(4,false),(5,false)] 120
   [ve (vv v Av cv Bv dv),
    (VP (cleanV v)),ve (vv u Au cu Bu du),
    (VP (cleanV u)),vt,vt] eD (.eq (.cons (fun _ _ _ n ⟨_,_,_,_,e,h,i⟩=>⟨_,_,_,_,e,h.new_ n,i.new_ n⟩) (.eq (.cons (fun _ _ _ n ⟨_,_,_,_,e,h,i⟩=>⟨_,_,_,_,e,h.new_ n,i.new_ n⟩) (.tt (.tt (.nil))))))) ?_ ?_
 refine .t (fun _ w hn k=>⟨_,v_load rfl (k.fx 4 h9) (l_agg Tryz.isAgg29 Tryz.sizeOf29 (bk.new_ hn) rfl),rfl⟩) ?_
 refine .o1 (tkC rfl (noG rfl) rfl fun _ w hn k=>(by
       refine ⟨#[vv v Av cv Bv dv],_,args1 (k.eq1 0 10 rfl),fun w=>by kernel_rfl,clean_c v _ _ _ _ _ (hmv.new_ (aH.transNew hn)) (hsv.new_ (aH.transNew hn)),?_⟩
       rintro e w' ⟨A1,c2,A3,c4,rfl,hmo0,hmo1,hm⟩
       exact⟨_,rfl,hm,⟨A1,c2,A3,c4,rfl,hmo0,hmo1⟩⟩)) ?_
 refine .t (fun _ w hn k=>⟨_,v_load rfl (k.fx 5 a1) (l_agg Tryz.isAgg29 Tryz.sizeOf29 (bm.new_ hn) rfl),rfl⟩) ?_
 refine .o1 (tkC rfl (noG rfl) rfl fun _ w hn k=>(by
       refine ⟨#[vv u Au cu Bu du],_,args1 (k.eq1 2 12 rfl),fun w=>by kernel_rfl,clean_c u _ _ _ _ _ (hmu.new_ (aH.transNew hn)) (hsu.new_ (aH.transNew hn)),?_⟩
       rintro e w' ⟨A9,gC,gD,gE,rfl,hmo0,hmo1,hm⟩
       exact⟨_,rfl,hm,⟨A9,gC,gD,gE,rfl,hmo0,hmo1⟩⟩)) ?_
 exact .off<| .off .nil
 refine aftI eD gx aH fun eE hP bp eO eP aX aG=>?_
 have eF:=aG.fx 0 h8
 have eG:=aG.fx 4 h9
 have eH:=aG.fx 5 a1
 have gF:=aG.fx 6 bo
 obtain⟨aT,aJ,aU,aK,bq,eQ,eR⟩:=aG.G 1 11
 have bq:eE.eval (.tmp 11)=vv (cleanV v) aT aJ aU aK:=bq
 obtain⟨aV,aL,aW,aM,br,eS,eT⟩:=aG.G 3 13
 have br:eE.eval (.tmp 13)=vv (cleanV u) aV aL aW aM:=br
 have aN:=bk.new_ aX
 have eU:=bm.new_ aX
 have eV:=eM.new_ aX
 obtain⟨gG,bP,bQ,aO,bs⟩:=s_many (P:=Tryz.prog) (t:=29) (i:=0) (c7 (cleanV v) aT aJ aU aK) Tryz.sizeOf29 rfl rfl rfl aN lb
 have eW:Blk gG bj 29 (c7 (cleanV v) aT aJ aU aK):=bQ
 refine st_act rfl rfl fun hQ eX=>a_store' rfl eG bq bP (eX _ _ trivial ?_)
 have eY:=eQ.fr aN aO
 have eZ:=eR.fr aN aO
 have e0:=eS.fr aN aO
 have e1:=eT.fr aN aO
 have aP:=bs _ _ _ (fun h=>hne21 h.symm) eU
 have e2:=bs _ _ _ (fun h=>hne22 h.symm) eV
 have e3:=eP.trans aO (fun _ h b=>by subst b; omega)
 obtain⟨gH,bR,bS,aQ,bt⟩:=s_many (P:=Tryz.prog) (t:=29) (i:=0) (c7 (cleanV u) aV aL aW aM) Tryz.sizeOf29 rfl rfl rfl aP lb
 have e4:Blk gH bl 29 (c7 (cleanV u) aV aL aW aM):=bS
 refine st_act rfl rfl fun hR e5=>a_store' rfl eH br bR (e5 _ _ trivial ?_)
 have e6:=eY.fr aP aQ
 have e7:=eZ.fr aP aQ
 have e8:=e0.fr aP aQ
 have e9:=e1.fr aP aQ
 have fa:=bt _ _ _ (hne21) eW
 have fb:=bt _ _ _ (fun h=>hne23 h.symm) e2
 have fc:=e3.trans aQ (fun _ h b=>by subst b; omega)
 refine st_nil (eN _ _ (wp_seq_k fun hS gR=>?_))
 refine wp_seq_k fun hT fd=>?_
 refine wp_g0 [true] [] 120
   [ve (.string ⟨#[60,61]⟩)] bp (.eq (.nil)) ?_ ?_
 exact .m (fun k=>k.fx 0 eF) .nil
 refine aftI bp eO fc fun hU hV bu fe bT aF aR=>?_
 have gI:=aR.fx 0 eF
 have gJ:=aR.fx 4 eG
 have gK:=aR.fx 5 eH
 have gL:=aR.fx 6 gF
 have eI:=aR.ge 0 14 rfl
 have ff:=fa.new_ aF
 have fg:=e4.new_ aF
 have bU:=fb.new_ aF
 have bV:=e6.new_ aF
 have bW:=e7.new_ aF
 have bX:=e8.new_ aF
 have bY:=e9.new_ aF
 refine st_nil (fd _ _ ?_)
 refine wp_block ?_
 refine wp_seq_k fun gS bZ=>?_
 refine wp_g0 [true,true] [] 120
   [vF,vF] bu (.eq (.eq (.nil))) ?_ ?_
 exact .t (fun _ w hn k=>⟨_,v_bin rfl (k.fx 14 eI) rfl (fun _=>rfl) (r_eqlS (r:=false) (by kernel_rfl)),rfl⟩)<| .a (fun k=>k.eq1 0 16 rfl) .nil
 refine aftI bu fe bT fun gT gU a3 b0 b1 aa ap=>?_
 have fh:=ap.fx 0 gI
 have fi:=ap.fx 4 gJ
 have fj:=ap.fx 5 gK
 have fk:=ap.fx 6 gL
 have bv:=ap.fx 14 eI
 have fl:=ap.ge 1 15 rfl
 have b2:=ff.new_ aa
 have b3:=fg.new_ aa
 have b4:=bU.new_ aa
 have b5:=bV.new_ aa
 have b6:=bW.new_ aa
 have b7:=bX.new_ aa
 have b8:=bY.new_ aa
 refine st_nil (bZ _ _ ?_)
 refine wp_cond_false fl ?_
 refine wp_seq_k fun gV b9=>?_
 refine wp_seq_k fun gW ca=>?_
 refine wp_g0 [true,true] [] 120
   [vF,vF] a3 (.eq (.eq (.nil))) ?_ ?_
 exact .t (fun _ w hn k=>⟨_,v_bin rfl (k.fx 14 bv) rfl (fun _=>rfl) (r_eqlS (r:=false) (by kernel_rfl)),rfl⟩)<| .a (fun k=>k.eq1 0 37 rfl) .nil
 refine aftI a3 b0 b1 fun gX gY a4 cb cc ab aq=>?_
 have fm:=aq.fx 0 fh
 have fn:=aq.fx 4 fi
 have fo:=aq.fx 5 fj
 have fp:=aq.fx 6 fk
 have bw:=aq.fx 14 bv
 have fq:=aq.ge 1 36 rfl
 have cd:=b2.new_ ab
 have ce:=b3.new_ ab
 have cf:=b4.new_ ab
 have ch:=b5.new_ ab
 have ci:=b6.new_ ab
 have cj:=b7.new_ ab
 have cl:=b8.new_ ab
 refine st_nil (ca _ _ ?_)
 refine wp_cond_false fq ?_
 refine wp_seq_k fun gZ cm=>?_
 refine wp_g0 [true,true] [] 120
   [vF,vF] a4 (.eq (.eq (.nil))) ?_ ?_
 exact .t (fun _ w hn k=>⟨_,v_bin rfl (k.fx 14 bw) rfl (fun _=>rfl) (r_eqlS (r:=false) (by kernel_rfl)),rfl⟩)<| .a (fun k=>k.eq1 0 38 rfl) .nil
 refine aftI a4 cb cc fun g0 g1 a5 cn co ac ar=>?_
 have fs:=ar.fx 0 fm
 have ft:=ar.fx 4 fn
 have fu:=ar.fx 5 fo
 have fv:=ar.fx 6 fp
 have bx:=ar.fx 14 bw
 have fw:=ar.ge 1 36 rfl
 have cp:=cd.new_ ac
 have cq:=ce.new_ ac
 have cr:=cf.new_ ac
 have ct:=ch.new_ ac
 have cw:=ci.new_ ac
 have cx:=cj.new_ ac
 have cy:=cl.new_ ac
 refine st_nil (cm _ _ ?_)
 refine wp_cond_false fw ?_
 refine wp_seq_k fun g2 cz=>?_
 refine wp_g0 [true,true] [] 120
   [vF,vF] a5 (.eq (.eq (.nil))) ?_ ?_
 exact .t (fun _ w hn k=>⟨_,v_bin rfl (k.fx 14 bx) rfl (fun _=>rfl) (r_eqlS (r:=false) (by kernel_rfl)),rfl⟩)<| .a (fun k=>k.eq1 0 39 rfl) .nil
 refine aftI a5 cn co fun g3 g4 a6 cA cB ad au=>?_
 have fy:=au.fx 0 fs
 have fz:=au.fx 4 ft
 have fA:=au.fx 5 fu
 have fB:=au.fx 6 fv
 have bz:=au.fx 14 bx
 have fC:=au.ge 1 36 rfl
 have cC:=cp.new_ ad
 have cD:=cq.new_ ad
 have cE:=cr.new_ ad
 have cF:=ct.new_ ad
 have cG:=cw.new_ ad
 have cH:=cx.new_ ad
 have cI:=cy.new_ ad
 refine st_nil (cz _ _ ?_)
 refine wp_cond_false fC ?_
 refine wp_g0 [true,true] [] 120
   [vF,vF] a6 (.eq (.eq (.nil))) ?_ ?_
 exact .t (fun _ w hn k=>⟨_,v_bin rfl (k.fx 14 bz) rfl (fun _=>rfl) (r_eqlS (r:=false) (by kernel_rfl)),rfl⟩)<| .a (fun k=>k.eq1 0 40 rfl) .nil
 refine aftI a6 cA cB fun g5 g6 a7 cJ cK ae av=>?_
 have fD:=av.fx 0 fy
 have fE:=av.fx 4 fz
 have fF:=av.fx 5 fA
 have fG:=av.fx 6 fB
 have bA:=av.fx 14 bz
 have fH:=av.ge 1 36 rfl
 have cL:=cC.new_ ae
 have cM:=cD.new_ ae
 have cN:=cE.new_ ae
 have cO:=cF.new_ ae
 have cP:=cG.new_ ae
 have cQ:=cH.new_ ae
 have cR:=cI.new_ ae
 refine st_nil (b9 _ _ ?_)
 refine wp_cond_false fH ?_
 refine wp_seq_k fun g7 cS=>?_
 refine wp_seq_k fun g8 cT=>?_
 refine wp_g0 [true,true] [] 120
   [vF,vF] a7 (.eq (.eq (.nil))) ?_ ?_
 exact .t (fun _ w hn k=>⟨_,v_bin rfl (k.fx 14 bA) rfl (fun _=>rfl) (r_eqlS (r:=false) (by kernel_rfl)),rfl⟩)<| .a (fun k=>k.eq1 0 48 rfl) .nil
 refine aftI a7 cJ cK fun g9 ha a8 cU cV af aw=>?_
 have fI:=aw.fx 0 fD
 have fJ:=aw.fx 4 fE
 have fK:=aw.fx 5 fF
 have fL:=aw.fx 6 fG
 have bB:=aw.fx 14 bA
 have fM:=aw.ge 1 47 rfl
 have cW:=cL.new_ af
 have cX:=cM.new_ af
 have cY:=cN.new_ af
 have cZ:=cO.new_ af
 have c0:=cP.new_ af
 have c1:=cQ.new_ af
 have c3:=cR.new_ af
 refine st_nil (cT _ _ ?_)
 refine wp_cond_false fM ?_
 refine wp_seq_k fun hc c5=>?_
 refine wp_g0 [true,true] [] 120
   [vF,vF] a8 (.eq (.eq (.nil))) ?_ ?_
 exact .t (fun _ w hn k=>⟨_,v_bin rfl (k.fx 14 bB) rfl (fun _=>rfl) (r_eqlS (r:=false) (by kernel_rfl)),rfl⟩)<| .a (fun k=>k.eq1 0 49 rfl) .nil
 refine aftI a8 cU cV fun hd hf a9 c9 da ag ax=>?_
 have fN:=ax.fx 0 fI
 have fO:=ax.fx 4 fJ
 have fP:=ax.fx 5 fK
 have fQ:=ax.fx 6 fL
 have bC:=ax.fx 14 bB
 have fR:=ax.ge 1 47 rfl
 have db:=cW.new_ ag
 have dc:=cX.new_ ag
 have dd:=cY.new_ ag
 have de:=cZ.new_ ag
 have df:=c0.new_ ag
 have dg:=c1.new_ ag
 have dh:=c3.new_ ag
 refine st_nil (c5 _ _ ?_)
 refine wp_cond_false fR ?_
 refine wp_seq_k fun hg di=>?_
 refine wp_g0 [true,true] [] 120
   [vF,vF] a9 (.eq (.eq (.nil))) ?_ ?_
 exact .t (fun _ w hn k=>⟨_,v_bin rfl (k.fx 14 bC) rfl (fun _=>rfl) (r_eqlS (r:=false) (by kernel_rfl)),rfl⟩)<| .a (fun k=>k.eq1 0 50 rfl) .nil
 refine aftI a9 c9 da fun hh hi ba dj dk ah ay=>?_
 have fS:=ay.fx 0 fN
 have fT:=ay.fx 4 fO
 have fU:=ay.fx 5 fP
 have fV:=ay.fx 6 fQ
 have bD:=ay.fx 14 bC
 have fW:=ay.ge 1 47 rfl
 have dl:=db.new_ ah
 have dm:=dc.new_ ah
 have dn:=dd.new_ ah
 have dp:=de.new_ ah
 have dq:=df.new_ ah
 have dr:=dg.new_ ah
 have ds:=dh.new_ ah
 refine st_nil (di _ _ ?_)
 refine wp_cond_false fW ?_
 refine wp_seq_k fun hj dt=>?_
 refine wp_g0 [true,true] [] 120
   [vF,vF] ba (.eq (.eq (.nil))) ?_ ?_
 exact .t (fun _ w hn k=>⟨_,v_bin rfl (k.fx 14 bD) rfl (fun _=>rfl) (r_eqlS (r:=false) (by kernel_rfl)),rfl⟩)<| .a (fun k=>k.eq1 0 51 rfl) .nil
 refine aftI ba dj dk fun hl ho bb dw dx ai az=>?_
 have fX:=az.fx 0 fS
 have fY:=az.fx 4 fT
 have fZ:=az.fx 5 fU
 have f0:=az.fx 6 fV
 have bE:=az.fx 14 bD
 have f1:=az.ge 1 47 rfl
 have dy:=dl.new_ ai
 have dz:=dm.new_ ai
 have dA:=dn.new_ ai
 have dB:=dp.new_ ai
 have dC:=dq.new_ ai
 have dD:=dr.new_ ai
 have dE:=ds.new_ ai
 refine st_nil (dt _ _ ?_)
 refine wp_cond_false f1 ?_
 refine wp_seq_k fun hr dF=>?_
 refine wp_g0 [true,true] [] 120
   [vF,vF] bb (.eq (.eq (.nil))) ?_ ?_
 exact .t (fun _ w hn k=>⟨_,v_bin rfl (k.fx 14 bE) rfl (fun _=>rfl) (r_eqlS (r:=false) (by kernel_rfl)),rfl⟩)<| .a (fun k=>k.eq1 0 52 rfl) .nil
 refine aftI bb dw dx fun hs ht bd dG dH aj aA=>?_
 have f2:=aA.fx 0 fX
 have f3:=aA.fx 4 fY
 have f4:=aA.fx 5 fZ
 have f5:=aA.fx 6 f0
 have bF:=aA.fx 14 bE
 have f6:=aA.ge 1 47 rfl
 have dI:=dy.new_ aj
 have dJ:=dz.new_ aj
 have dK:=dA.new_ aj
 have dL:=dB.new_ aj
 have dM:=dC.new_ aj
 have dN:=dD.new_ aj
 have dO:=dE.new_ aj
 refine st_nil (dF _ _ ?_)
 refine wp_cond_false f6 ?_
 refine wp_g0 [true,true] [] 120
   [vF,vF] bd (.eq (.eq (.nil))) ?_ ?_
 exact .t (fun _ w hn k=>⟨_,v_bin rfl (k.fx 14 bF) rfl (fun _=>rfl) (r_eqlS (r:=false) (by kernel_rfl)),rfl⟩)<| .a (fun k=>k.eq1 0 53 rfl) .nil
 refine aftI bd dG dH fun hu hv be dP dQ ak aB=>?_
 have f7:=aB.fx 0 f2
 have f8:=aB.fx 4 f3
 have f9:=aB.fx 5 f4
 have ga:=aB.fx 6 f5
 have bG:=aB.fx 14 bF
 have gb:=aB.ge 1 47 rfl
 have dR:=dI.new_ ak
 have dS:=dJ.new_ ak
 have dT:=dK.new_ ak
 have dU:=dL.new_ ak
 have dV:=dM.new_ ak
 have dW:=dN.new_ ak
 have dX:=dO.new_ ak
 refine st_nil (cS _ _ ?_)
 refine wp_cond_false gb ?_
 refine wp_seq_k fun hw dY=>?_
 refine wp_g0 [true,true] [] 120
   [vF,vF] be (.eq (.eq (.nil))) ?_ ?_
 exact .t (fun _ w hn k=>⟨_,v_bin rfl (k.fx 14 bG) rfl (fun _=>rfl) (r_eqlS (r:=false) (by kernel_rfl)),rfl⟩)<| .a (fun k=>k.eq1 0 61 rfl) .nil
 refine aftI be dP dQ fun hx hy bf dZ d0 al aC=>?_
 have gc:=aC.fx 0 f7
 have gd:=aC.fx 4 f8
 have gf:=aC.fx 5 f9
 have gg:=aC.fx 6 ga
 have bH:=aC.fx 14 bG
 have gh:=aC.ge 1 60 rfl
 have d1:=dR.new_ al
 have d2:=dS.new_ al
 have d3:=dT.new_ al
 have d4:=dU.new_ al
 have d5:=dV.new_ al
 have d6:=dW.new_ al
 have d7:=dX.new_ al
 refine st_nil (dY _ _ ?_)
 refine wp_cond_false gh ?_
 refine wp_seq_k fun hz d8=>?_
 refine wp_g0 [true,true] [] 120
   [vF,vF] bf (.eq (.eq (.nil))) ?_ ?_
 exact .t (fun _ w hn k=>⟨_,v_bin rfl (k.fx 14 bH) rfl (fun _=>rfl) (r_eqlS (r:=false) (by kernel_rfl)),rfl⟩)<| .a (fun k=>k.eq1 0 68 rfl) .nil
 refine aftI bf dZ d0 fun hA hC bg d9 ea am aD=>?_
 have gi:=aD.fx 0 gc
 have gj:=aD.fx 4 gd
 have gk:=aD.fx 5 gf
 have gl:=aD.fx 6 gg
 have bI:=aD.fx 14 bH
 have gm:=aD.ge 1 67 rfl
 have eb:=d1.new_ am
 have ec:=d2.new_ am
 have ed:=d3.new_ am
 have ee:=d4.new_ am
 have ef:=d5.new_ am
 have eg:=d6.new_ am
 have eh:=d7.new_ am
 refine st_nil (d8 _ _ ?_)
 refine wp_cond_false gm ?_
 refine wp_seq_k fun hD ei=>?_
 refine wp_g0 [true,true] [] 120
   [vT,vT] bg (.eq (.eq (.nil))) ?_ ?_
 exact .t (fun _ w hn k=>⟨_,v_bin rfl (k.fx 14 bI) rfl (fun _=>rfl) (r_eqlS (r:=true) (by kernel_rfl)),rfl⟩)<| .a (fun k=>k.eq1 0 75 rfl) .nil
 refine aftI bg d9 ea fun hE hF bh ej ek an aE=>?_
 have hG:=aE.fx 0 gi
 have gn:=aE.fx 4 gj
 have go:=aE.fx 5 gk
 have gp:=aE.fx 6 gl
 have hH:=aE.fx 14 bI
 have gq:=aE.ge 1 74 rfl
 have el:=eb.new_ an
 have em:=ec.new_ an
 have en:=ed.new_ an
 have eo:=ee.new_ an
 have ep:=ef.new_ an
 have er:=eg.new_ an
 have es:=eh.new_ an
 refine st_nil (ei _ _ ?_)
 refine wp_cond_true gq ?_
 refine wp_seq_k fun hI et=>?_
 refine wp_g0 [true,true,true,true,true,false,false] [(5,false),(6,true)] 120
   [ve (vv (cleanV v) aT aJ aU aK),ve (vv (cleanV u) aV aL aW aM),ve (.tuple #[vv (Vl.mk (lessT (cleanV v) (cleanV u) true true).1 0 0 false [] [] (lessT (cleanV v) (cleanV u) true true).2.1) none 0 none 0,iv ((lessT (cleanV v) (cleanV u) true true).2.2)]),ve (vv (Vl.mk (lessT (cleanV v) (cleanV u) true true).1 0 0 false [] [] (lessT (cleanV v) (cleanV u) true true).2.1) none 0 none 0),ve (iv ((lessT (cleanV v) (cleanV u) true true).2.2)),vt,vt] bh (.eq (.eq (.eq (.eq (.eq (.tt (.tt (.nil)))))))) ?_ ?_
 exact .t (fun _ w hn k=>⟨_,v_load rfl (k.fx 4 gn) (l_agg Tryz.isAgg29 Tryz.sizeOf29 (el.new_ hn) rfl),rfl⟩)<| .t (fun _ w hn k=>⟨_,v_load rfl (k.fx 5 go) (l_agg Tryz.isAgg29 Tryz.sizeOf29 (em.new_ hn) rfl),rfl⟩)<| .o1 (ck rfl rfl rfl (fun _ w hn k=>⟨#[vv (cleanV v) aT aJ aU aK,vv (cleanV u) aV aL aW aM,.bool true,.bool true],args4 (k.eq1 0 76 rfl) (k.eq1 1 77 rfl) rfl rfl,fun _=>by kernel_rfl,less_c (cleanV v) _ _ _ _ (cleanV u) _ _ _ _ true true _ (eo.new_ hn) (ep.new_ hn) (er.new_ hn) (es.new_ hn) hvv.clean hvu.clean⟩) fun _=>rfl)<| .t (fun _ w hn k=>⟨_,v_extract rfl (k.eq1 2 78 rfl) rfl,rfl⟩)<| .t (fun _ w hn k=>⟨_,v_extract rfl (k.eq1 2 78 rfl) rfl,rfl⟩)<| .off<| .off .nil
 refine aftI bh ej ek fun bJ hJ bi eu ev ew aS=>?_
 have bK:=aS.fx 6 gp
 have bL:=aS.ge 3 79 rfl
 have bM:=aS.ge 4 80 rfl
 have ex:=en.new_ ew
 obtain⟨gr,bN,bO,ey,gM⟩:=s_many (P:=Tryz.prog) (t:=29) (i:=0) [iv ((lessT (cleanV v) (cleanV u) true true).1),iv 0,iv 0,.bool false,sv none ([]) 0,sv none ([]) 0,iv ((lessT (cleanV v) (cleanV u) true true).2.1)] Tryz.sizeOf29 rfl rfl rfl ex lb
 have ez:Blk gr bn 29 [iv ((lessT (cleanV v) (cleanV u) true true).1),iv 0,iv 0,.bool false,sv none ([]) 0,sv none ([]) 0,iv ((lessT (cleanV v) (cleanV u) true true).2.1)]:=bO
 refine st_act rfl rfl fun hK eA=>a_store' rfl bK bL bN (eA _ _ trivial ?_)
 have eB:=ev.trans ey (fun _ h b=>by subst b; omega)
 refine st_take rfl rfl (y_assign (v:=iv ((lessT (cleanV v) (cleanV u) true true).2.2)) rfl bM) rfl ?_
 obtain⟨gs,ao⟩:∃ a',a'=bJ.put (some 7) (iv ((lessT (cleanV v) (cleanV u) true true).2.2)):=⟨_,rfl⟩
 have gN:=pz ao bi
 have eC:=pd ao eu
 have gt:=pn ao bK (by decide)
 have hL:=pn ao bL (by decide)
 have hM:=pn ao bM (by decide)
 have gu:gs.eval (.tmp 7)=iv ((lessT (cleanV v) (cleanV u) true true).2.2):=by rw [ao]; exact put_same _ _ _ (by rw [bi]; decide)
 show stepsTo _ _ _ _ _ (bJ.put (some 7) (iv ((lessT (cleanV v) (cleanV u) true true).2.2))) _
 rw [← ao]
 refine st_nil (et _ _ ?_)
 refine wp_ret (ret_k eC (v:=.tuple #[vv (Vl.mk (lessT (cleanV v) (cleanV u) true true).1 0 0 false [] [] (lessT (cleanV v) (cleanV u) true true).2.1) none 0 none 0,iv ((lessT (cleanV v) (cleanV u) true true).2.2)]) (res_ct rfl gt gu (l_agg Tryz.isAgg29 Tryz.sizeOf29 ez rfl)) ?_)
 exact⟨rfl,eB⟩
theorem binSt_c  (v:Vl) (Av:Option Addr) (cv:Nat) (Bv:Option Addr) (dv:Nat) (u:Vl) (Au:Option Addr) (cu:Nat) (Bu:Option Addr) (du:Nat) (w:World) (hmv:SRow w .u32 Av v.mag cv) (hsv:SRow w .u16 Bv v.s dv) (hmu:SRow w .u32 Au u.mag cu) (hsu:SRow w .u16 Bu u.s du) (hvv:VOk v) (hvu:VOk u):Calls Tryz.prog 12 #[.string ⟨#[61,61,61]⟩,vv v Av cv Bv dv,vv u Au cu Bu du] w (IsRet (.tuple #[vv (Vl.mk 2 0 0 false [] [] (truthR (strictV (cleanV v) (cleanV u)))) none 0 none 0,iv 0]) w):=by
 refine enter_abs Tryz.func12 rfl fun a0 a3 g6 hp=>?_
 have a3:a0.tmps.size=120:=a3
 have a4:New w w:=Upd.refl _ _
 have hp0:a0.eval (.tmp 0)=.string ⟨#[61,61,61]⟩:=hp 0 _ rfl
 have hp1:a0.eval (.tmp 1)=vv v Av cv Bv dv:=hp 1 _ rfl
 have hp2:a0.eval (.tmp 2)=vv u Au cu Bu du:=hp 2 _ rfl
 refine wp_seq_k fun K1 g7=>?_
 refine wp_g [true,true,true,true] [] [] 120
   [IsNew w 29 (c7 v Av cv Bv dv),IsNew w 29 (c7 u Au cu Bu du),IsNew w 29 z7,ve (iv 0)]
   [0,1,2] (newsCons (fun v w h=>IsNew.old h) (newsCons (fun v w h=>IsNew.old h) (newsCons (fun v w h=>IsNew.old h) newsNil))) a3 (.nw (.nw (.nw (.eq (.nil))))) ?_ (fun i h=>by cases h) ?_
 exact .o2 (step_allocN (cs:=(c7 v Av cv Bv dv)) (t:=29) rfl (noG rfl) (fun _ w hn k=>v_box rfl (k.fx 1 hp1) (fun w=>rfl)) (fun q _ hq hb=>⟨q,rfl,hq,hb⟩))<| .o2 (step_allocN (cs:=(c7 u Au cu Bu du)) (t:=29) rfl (noG rfl) (fun _ w hn k=>v_box rfl (k.fx 2 hp2) (fun w=>rfl)) (fun q _ hq hb=>⟨q,rfl,hq,hb⟩))<| .o2 (step_allocN (cs:=z7) (t:=29) rfl (noG rfl) (fun _ w hn k=>rfl) (fun q _ hq hb=>⟨q,rfl,hq,hb⟩))<| .t (fun _ w hn k=>⟨_,v_assign rfl rfl,rfl⟩) .nil
 refine aftI a3 g6 a4 fun a2 w3 e4 g8 aL iB aM=>?_
 have h8:=aM.fx 0 hp0
 obtain⟨bp,h9,fa,bq⟩:=aM.G 0 4
 obtain⟨br,a5,fb,bs⟩:=aM.G 1 5
 obtain⟨bt,bu,fc,fd⟩:=aM.G 2 6
 have hne21:bp ≠ br:=aM.ne 0 1 4 5 h9 a5
 have hne22:bp ≠ bt:=aM.ne 0 2 4 6 h9 bu
 have hne23:br ≠ bt:=aM.ne 1 2 5 6 a5 bu
 have hw:=Nat.le_trans a4.size fa
 have hx:=Nat.le_trans a4.size fb
 have hy:=Nat.le_trans a4.size fc
 refine st_nil (g7 _ _ (wp_seq_k fun iC fe=>?_))
 refine wp_g0 [true,true,true,true,false,false] [(4,false),(5,false)] 120
   [ve (vv v Av cv Bv dv),
    (VP (cleanV v)),ve (vv u Au cu Bu du),
    (VP (cleanV u)),vt,vt] e4 (.eq (.cons (fun _ _ _ n ⟨_,_,_,_,e,h,i⟩=>⟨_,_,_,_,e,h.new_ n,i.new_ n⟩) (.eq (.cons (fun _ _ _ n ⟨_,_,_,_,e,h,i⟩=>⟨_,_,_,_,e,h.new_ n,i.new_ n⟩) (.tt (.tt (.nil))))))) ?_ ?_
 refine .t (fun _ w hn k=>⟨_,v_load rfl (k.fx 4 h9) (l_agg Tryz.isAgg29 Tryz.sizeOf29 (bq.new_ hn) rfl),rfl⟩) ?_
 refine .o1 (tkC rfl (noG rfl) rfl fun _ w hn k=>(by
       refine ⟨#[vv v Av cv Bv dv],_,args1 (k.eq1 0 10 rfl),fun w=>by kernel_rfl,clean_c v _ _ _ _ _ (hmv.new_ (aL.transNew hn)) (hsv.new_ (aL.transNew hn)),?_⟩
       rintro e w' ⟨A1,c2,A3,c4,rfl,hmo0,hmo1,hm⟩
       exact⟨_,rfl,hm,⟨A1,c2,A3,c4,rfl,hmo0,hmo1⟩⟩)) ?_
 refine .t (fun _ w hn k=>⟨_,v_load rfl (k.fx 5 a5) (l_agg Tryz.isAgg29 Tryz.sizeOf29 (bs.new_ hn) rfl),rfl⟩) ?_
 refine .o1 (tkC rfl (noG rfl) rfl fun _ w hn k=>(by
       refine ⟨#[vv u Au cu Bu du],_,args1 (k.eq1 2 12 rfl),fun w=>by kernel_rfl,clean_c u _ _ _ _ _ (hmu.new_ (aL.transNew hn)) (hsu.new_ (aL.transNew hn)),?_⟩
       rintro e w' ⟨A9,hf,hg,hh,rfl,hmo0,hmo1,hm⟩
       exact⟨_,rfl,hm,⟨A9,hf,hg,hh,rfl,hmo0,hmo1⟩⟩)) ?_
 exact .off<| .off .nil
 refine aftI e4 g8 aL fun e5 iD bv ff fg a1 aK=>?_
 have e6:=aK.fx 0 h8
 have e7:=aK.fx 4 h9
 have e8:=aK.fx 5 a5
 have hi:=aK.fx 6 bu
 obtain⟨aW,aN,aX,aO,bw,fh,fi⟩:=aK.G 1 11
 have bw:e5.eval (.tmp 11)=vv (cleanV v) aW aN aX aO:=bw
 obtain⟨aY,aP,aZ,aQ,bx,fj,fk⟩:=aK.G 3 13
 have bx:e5.eval (.tmp 13)=vv (cleanV u) aY aP aZ aQ:=bx
 have aR:=bq.new_ a1
 have fl:=bs.new_ a1
 have fm:=fd.new_ a1
 obtain⟨hj,bW,bX,aS,bz⟩:=s_many (P:=Tryz.prog) (t:=29) (i:=0) (c7 (cleanV v) aW aN aX aO) Tryz.sizeOf29 rfl rfl rfl aR lb
 have fn:Blk hj bp 29 (c7 (cleanV v) aW aN aX aO):=bX
 refine st_act rfl rfl fun iE fo=>a_store' rfl e7 bw bW (fo _ _ trivial ?_)
 have fp:=fh.fr aR aS
 have fq:=fi.fr aR aS
 have fs:=fj.fr aR aS
 have ft:=fk.fr aR aS
 have aT:=bz _ _ _ (fun h=>hne21 h.symm) fl
 have fu:=bz _ _ _ (fun h=>hne22 h.symm) fm
 have fv:=fg.trans aS (fun _ h b=>by subst b; omega)
 obtain⟨hl,bY,bZ,aU,bA⟩:=s_many (P:=Tryz.prog) (t:=29) (i:=0) (c7 (cleanV u) aY aP aZ aQ) Tryz.sizeOf29 rfl rfl rfl aT lb
 have fw:Blk hl br 29 (c7 (cleanV u) aY aP aZ aQ):=bZ
 refine st_act rfl rfl fun iF fy=>a_store' rfl e8 bx bY (fy _ _ trivial ?_)
 have fz:=fp.fr aT aU
 have fA:=fq.fr aT aU
 have fB:=fs.fr aT aU
 have fC:=ft.fr aT aU
 have fD:=bA _ _ _ (hne21) fn
 have fE:=bA _ _ _ (fun h=>hne23 h.symm) fu
 have fF:=fv.trans aU (fun _ h b=>by subst b; omega)
 refine st_nil (fe _ _ (wp_seq_k fun iG hz=>?_))
 refine wp_seq_k fun iH fG=>?_
 refine wp_g0 [true] [] 120
   [ve (.string ⟨#[61,61,61]⟩)] bv (.eq (.nil)) ?_ ?_
 exact .m (fun k=>k.fx 0 e6) .nil
 refine aftI bv ff fF fun iI iJ bB fH b0 aJ aV=>?_
 have ho:=aV.fx 0 e6
 have hr:=aV.fx 4 e7
 have hs:=aV.fx 5 e8
 have ht:=aV.fx 6 hi
 have e9:=aV.ge 0 14 rfl
 have fI:=fD.new_ aJ
 have fJ:=fw.new_ aJ
 have b1:=fE.new_ aJ
 have b2:=fz.new_ aJ
 have b3:=fA.new_ aJ
 have b4:=fB.new_ aJ
 have b5:=fC.new_ aJ
 refine st_nil (fG _ _ ?_)
 refine wp_block ?_
 refine wp_seq_k fun hA b6=>?_
 refine wp_g0 [true,true] [] 120
   [vF,vF] bB (.eq (.eq (.nil))) ?_ ?_
 exact .t (fun _ w hn k=>⟨_,v_bin rfl (k.fx 14 e9) rfl (fun _=>rfl) (r_eqlS (r:=false) (by kernel_rfl)),rfl⟩)<| .a (fun k=>k.eq1 0 16 rfl) .nil
 refine aftI bB fH b0 fun hC hD a6 b7 b8 aa aq=>?_
 have fK:=aq.fx 0 ho
 have fL:=aq.fx 4 hr
 have fM:=aq.fx 5 hs
 have fN:=aq.fx 6 ht
 have bC:=aq.fx 14 e9
 have fO:=aq.ge 1 15 rfl
 have b9:=fI.new_ aa
 have ca:=fJ.new_ aa
 have cb:=b1.new_ aa
 have cc:=b2.new_ aa
 have cd:=b3.new_ aa
 have ce:=b4.new_ aa
 have cf:=b5.new_ aa
 refine st_nil (b6 _ _ ?_)
 refine wp_cond_false fO ?_
 refine wp_seq_k fun hE ch=>?_
 refine wp_seq_k fun hF ci=>?_
 refine wp_g0 [true,true] [] 120
   [vF,vF] a6 (.eq (.eq (.nil))) ?_ ?_
 exact .t (fun _ w hn k=>⟨_,v_bin rfl (k.fx 14 bC) rfl (fun _=>rfl) (r_eqlS (r:=false) (by kernel_rfl)),rfl⟩)<| .a (fun k=>k.eq1 0 37 rfl) .nil
 refine aftI a6 b7 b8 fun hG hH a7 cj cl ab ar=>?_
 have fP:=ar.fx 0 fK
 have fQ:=ar.fx 4 fL
 have fR:=ar.fx 5 fM
 have fS:=ar.fx 6 fN
 have bD:=ar.fx 14 bC
 have fT:=ar.ge 1 36 rfl
 have cm:=b9.new_ ab
 have cn:=ca.new_ ab
 have co:=cb.new_ ab
 have cp:=cc.new_ ab
 have cq:=cd.new_ ab
 have cr:=ce.new_ ab
 have ct:=cf.new_ ab
 refine st_nil (ci _ _ ?_)
 refine wp_cond_false fT ?_
 refine wp_seq_k fun hI cw=>?_
 refine wp_g0 [true,true] [] 120
   [vF,vF] a7 (.eq (.eq (.nil))) ?_ ?_
 exact .t (fun _ w hn k=>⟨_,v_bin rfl (k.fx 14 bD) rfl (fun _=>rfl) (r_eqlS (r:=false) (by kernel_rfl)),rfl⟩)<| .a (fun k=>k.eq1 0 38 rfl) .nil
 refine aftI a7 cj cl fun hJ hK a8 cx cy ac au=>?_
 have fU:=au.fx 0 fP
 have fV:=au.fx 4 fQ
 have fW:=au.fx 5 fR
 have fX:=au.fx 6 fS
 have bE:=au.fx 14 bD
 have fY:=au.ge 1 36 rfl
 have cz:=cm.new_ ac
 have cA:=cn.new_ ac
 have cB:=co.new_ ac
 have cC:=cp.new_ ac
 have cD:=cq.new_ ac
 have cE:=cr.new_ ac
 have cF:=ct.new_ ac
 refine st_nil (cw _ _ ?_)
 refine wp_cond_false fY ?_
 refine wp_seq_k fun hL cG=>?_
 refine wp_g0 [true,true] [] 120
   [vF,vF] a8 (.eq (.eq (.nil))) ?_ ?_
 exact .t (fun _ w hn k=>⟨_,v_bin rfl (k.fx 14 bE) rfl (fun _=>rfl) (r_eqlS (r:=false) (by kernel_rfl)),rfl⟩)<| .a (fun k=>k.eq1 0 39 rfl) .nil
 refine aftI a8 cx cy fun hM hN a9 cH cI ad av=>?_
 have fZ:=av.fx 0 fU
 have f0:=av.fx 4 fV
 have f1:=av.fx 5 fW
 have f2:=av.fx 6 fX
 have bF:=av.fx 14 bE
 have f3:=av.ge 1 36 rfl
 have cJ:=cz.new_ ad
 have cK:=cA.new_ ad
 have cL:=cB.new_ ad
 have cM:=cC.new_ ad
 have cN:=cD.new_ ad
 have cO:=cE.new_ ad
 have cP:=cF.new_ ad
 refine st_nil (cG _ _ ?_)
 refine wp_cond_false f3 ?_
 refine wp_g0 [true,true] [] 120
   [vF,vF] a9 (.eq (.eq (.nil))) ?_ ?_
 exact .t (fun _ w hn k=>⟨_,v_bin rfl (k.fx 14 bF) rfl (fun _=>rfl) (r_eqlS (r:=false) (by kernel_rfl)),rfl⟩)<| .a (fun k=>k.eq1 0 40 rfl) .nil
 refine aftI a9 cH cI fun hO hP ba cQ cR ae aw=>?_
 have f4:=aw.fx 0 fZ
 have f5:=aw.fx 4 f0
 have f6:=aw.fx 5 f1
 have f7:=aw.fx 6 f2
 have bG:=aw.fx 14 bF
 have f8:=aw.ge 1 36 rfl
 have cS:=cJ.new_ ae
 have cT:=cK.new_ ae
 have cU:=cL.new_ ae
 have cV:=cM.new_ ae
 have cW:=cN.new_ ae
 have cX:=cO.new_ ae
 have cY:=cP.new_ ae
 refine st_nil (ch _ _ ?_)
 refine wp_cond_false f8 ?_
 refine wp_seq_k fun hQ cZ=>?_
 refine wp_seq_k fun hR c0=>?_
 refine wp_g0 [true,true] [] 120
   [vF,vF] ba (.eq (.eq (.nil))) ?_ ?_
 exact .t (fun _ w hn k=>⟨_,v_bin rfl (k.fx 14 bG) rfl (fun _=>rfl) (r_eqlS (r:=false) (by kernel_rfl)),rfl⟩)<| .a (fun k=>k.eq1 0 48 rfl) .nil
 refine aftI ba cQ cR fun hS hT bb c1 c3 af ax=>?_
 have f9:=ax.fx 0 f4
 have ga:=ax.fx 4 f5
 have gb:=ax.fx 5 f6
 have gc:=ax.fx 6 f7
 have bH:=ax.fx 14 bG
 have gd:=ax.ge 1 47 rfl
 have c5:=cS.new_ af
 have c9:=cT.new_ af
 have da:=cU.new_ af
 have db:=cV.new_ af
 have dc:=cW.new_ af
 have dd:=cX.new_ af
 have de:=cY.new_ af
 refine st_nil (c0 _ _ ?_)
 refine wp_cond_false gd ?_
 refine wp_seq_k fun hU df=>?_
 refine wp_g0 [true,true] [] 120
   [vF,vF] bb (.eq (.eq (.nil))) ?_ ?_
 exact .t (fun _ w hn k=>⟨_,v_bin rfl (k.fx 14 bH) rfl (fun _=>rfl) (r_eqlS (r:=false) (by kernel_rfl)),rfl⟩)<| .a (fun k=>k.eq1 0 49 rfl) .nil
 refine aftI bb c1 c3 fun hV hW bd dg dh ag ay=>?_
 have gf:=ay.fx 0 f9
 have gg:=ay.fx 4 ga
 have gh:=ay.fx 5 gb
 have gi:=ay.fx 6 gc
 have bI:=ay.fx 14 bH
 have gj:=ay.ge 1 47 rfl
 have di:=c5.new_ ag
 have dj:=c9.new_ ag
 have dk:=da.new_ ag
 have dl:=db.new_ ag
 have dm:=dc.new_ ag
 have dn:=dd.new_ ag
 have dp:=de.new_ ag
 refine st_nil (df _ _ ?_)
 refine wp_cond_false gj ?_
 refine wp_seq_k fun hX dq=>?_
 refine wp_g0 [true,true] [] 120
   [vF,vF] bd (.eq (.eq (.nil))) ?_ ?_
 exact .t (fun _ w hn k=>⟨_,v_bin rfl (k.fx 14 bI) rfl (fun _=>rfl) (r_eqlS (r:=false) (by kernel_rfl)),rfl⟩)<| .a (fun k=>k.eq1 0 50 rfl) .nil
 refine aftI bd dg dh fun hY hZ be dr ds ah az=>?_
 have gk:=az.fx 0 gf
 have gl:=az.fx 4 gg
 have gm:=az.fx 5 gh
 have gn:=az.fx 6 gi
 have bJ:=az.fx 14 bI
 have go:=az.ge 1 47 rfl
 have dt:=di.new_ ah
 have dw:=dj.new_ ah
 have dx:=dk.new_ ah
 have dy:=dl.new_ ah
 have dz:=dm.new_ ah
 have dA:=dn.new_ ah
 have dB:=dp.new_ ah
 refine st_nil (dq _ _ ?_)
 refine wp_cond_false go ?_
 refine wp_seq_k fun h2 dC=>?_
 refine wp_g0 [true,true] [] 120
   [vF,vF] be (.eq (.eq (.nil))) ?_ ?_
 exact .t (fun _ w hn k=>⟨_,v_bin rfl (k.fx 14 bJ) rfl (fun _=>rfl) (r_eqlS (r:=false) (by kernel_rfl)),rfl⟩)<| .a (fun k=>k.eq1 0 51 rfl) .nil
 refine aftI be dr ds fun h3 h4 bf dD dE ai aA=>?_
 have gp:=aA.fx 0 gk
 have gq:=aA.fx 4 gl
 have gr:=aA.fx 5 gm
 have gs:=aA.fx 6 gn
 have bK:=aA.fx 14 bJ
 have gt:=aA.ge 1 47 rfl
 have dF:=dt.new_ ai
 have dG:=dw.new_ ai
 have dH:=dx.new_ ai
 have dI:=dy.new_ ai
 have dJ:=dz.new_ ai
 have dK:=dA.new_ ai
 have dL:=dB.new_ ai
 refine st_nil (dC _ _ ?_)
 refine wp_cond_false gt ?_
 refine wp_seq_k fun h5 dM=>?_
 refine wp_g0 [true,true] [] 120
   [vF,vF] bf (.eq (.eq (.nil))) ?_ ?_
 exact .t (fun _ w hn k=>⟨_,v_bin rfl (k.fx 14 bK) rfl (fun _=>rfl) (r_eqlS (r:=false) (by kernel_rfl)),rfl⟩)<| .a (fun k=>k.eq1 0 52 rfl) .nil
 refine aftI bf dD dE fun h6 h7 bg dN dO aj aB=>?_
 have gu:=aB.fx 0 gp
 have gv:=aB.fx 4 gq
 have gw:=aB.fx 5 gr
 have gx:=aB.fx 6 gs
 have bL:=aB.fx 14 bK
 have gy:=aB.ge 1 47 rfl
 have dP:=dF.new_ aj
 have dQ:=dG.new_ aj
 have dR:=dH.new_ aj
 have dS:=dI.new_ aj
 have dT:=dJ.new_ aj
 have dU:=dK.new_ aj
 have dV:=dL.new_ aj
 refine st_nil (dM _ _ ?_)
 refine wp_cond_false gy ?_
 refine wp_g0 [true,true] [] 120
   [vF,vF] bg (.eq (.eq (.nil))) ?_ ?_
 exact .t (fun _ w hn k=>⟨_,v_bin rfl (k.fx 14 bL) rfl (fun _=>rfl) (r_eqlS (r:=false) (by kernel_rfl)),rfl⟩)<| .a (fun k=>k.eq1 0 53 rfl) .nil
 refine aftI bg dN dO fun ia ib bh dW dX ak aC=>?_
 have gz:=aC.fx 0 gu
 have gA:=aC.fx 4 gv
 have gB:=aC.fx 5 gw
 have gC:=aC.fx 6 gx
 have bM:=aC.fx 14 bL
 have gD:=aC.ge 1 47 rfl
 have dY:=dP.new_ ak
 have dZ:=dQ.new_ ak
 have d0:=dR.new_ ak
 have d1:=dS.new_ ak
 have d2:=dT.new_ ak
 have d3:=dU.new_ ak
 have d4:=dV.new_ ak
 refine st_nil (cZ _ _ ?_)
 refine wp_cond_false gD ?_
 refine wp_seq_k fun ic d5=>?_
 refine wp_g0 [true,true] [] 120
   [vF,vF] bh (.eq (.eq (.nil))) ?_ ?_
 exact .t (fun _ w hn k=>⟨_,v_bin rfl (k.fx 14 bM) rfl (fun _=>rfl) (r_eqlS (r:=false) (by kernel_rfl)),rfl⟩)<| .a (fun k=>k.eq1 0 61 rfl) .nil
 refine aftI bh dW dX fun id ie bi d6 d7 al aD=>?_
 have gE:=aD.fx 0 gz
 have gF:=aD.fx 4 gA
 have gG:=aD.fx 5 gB
 have gH:=aD.fx 6 gC
 have bN:=aD.fx 14 bM
 have gI:=aD.ge 1 60 rfl
 have d8:=dY.new_ al
 have d9:=dZ.new_ al
 have ea:=d0.new_ al
 have eb:=d1.new_ al
 have ec:=d2.new_ al
 have ed:=d3.new_ al
 have ee:=d4.new_ al
 refine st_nil (d5 _ _ ?_)
 refine wp_cond_false gI ?_
 refine wp_seq_k fun ig ef=>?_
 refine wp_g0 [true,true] [] 120
   [vF,vF] bi (.eq (.eq (.nil))) ?_ ?_
 exact .t (fun _ w hn k=>⟨_,v_bin rfl (k.fx 14 bN) rfl (fun _=>rfl) (r_eqlS (r:=false) (by kernel_rfl)),rfl⟩)<| .a (fun k=>k.eq1 0 68 rfl) .nil
 refine aftI bi d6 d7 fun ih ii bj eg eh am aE=>?_
 have gJ:=aE.fx 0 gE
 have gK:=aE.fx 4 gF
 have gL:=aE.fx 5 gG
 have gM:=aE.fx 6 gH
 have bO:=aE.fx 14 bN
 have gN:=aE.ge 1 67 rfl
 have ei:=d8.new_ am
 have ej:=d9.new_ am
 have ek:=ea.new_ am
 have el:=eb.new_ am
 have em:=ec.new_ am
 have en:=ed.new_ am
 have eo:=ee.new_ am
 refine st_nil (ef _ _ ?_)
 refine wp_cond_false gN ?_
 refine wp_seq_k fun ij ep=>?_
 refine wp_g0 [true,true] [] 120
   [vF,vF] bj (.eq (.eq (.nil))) ?_ ?_
 exact .t (fun _ w hn k=>⟨_,v_bin rfl (k.fx 14 bO) rfl (fun _=>rfl) (r_eqlS (r:=false) (by kernel_rfl)),rfl⟩)<| .a (fun k=>k.eq1 0 75 rfl) .nil
 refine aftI bj eg eh fun ik il bk er es an aF=>?_
 have gO:=aF.fx 0 gJ
 have gP:=aF.fx 4 gK
 have gQ:=aF.fx 5 gL
 have gR:=aF.fx 6 gM
 have bP:=aF.fx 14 bO
 have gS:=aF.ge 1 74 rfl
 have et:=ei.new_ an
 have eu:=ej.new_ an
 have ev:=ek.new_ an
 have ew:=el.new_ an
 have ex:=em.new_ an
 have ey:=en.new_ an
 have ez:=eo.new_ an
 refine st_nil (ep _ _ ?_)
 refine wp_cond_false gS ?_
 refine wp_seq_k fun im eA=>?_
 refine wp_g0 [true,true] [] 120
   [vF,vF] bk (.eq (.eq (.nil))) ?_ ?_
 exact .t (fun _ w hn k=>⟨_,v_bin rfl (k.fx 14 bP) rfl (fun _=>rfl) (r_eqlS (r:=false) (by kernel_rfl)),rfl⟩)<| .a (fun k=>k.eq1 0 82 rfl) .nil
 refine aftI bk er es fun io ip bl eB eC ao aG=>?_
 have gT:=aG.fx 0 gO
 have gU:=aG.fx 4 gP
 have gV:=aG.fx 5 gQ
 have gW:=aG.fx 6 gR
 have bQ:=aG.fx 14 bP
 have gX:=aG.ge 1 81 rfl
 have eD:=et.new_ ao
 have eE:=eu.new_ ao
 have eF:=ev.new_ ao
 have eG:=ew.new_ ao
 have eH:=ex.new_ ao
 have eI:=ey.new_ ao
 have eJ:=ez.new_ ao
 refine st_nil (eA _ _ ?_)
 refine wp_cond_false gX ?_
 refine wp_seq_k fun iq eK=>?_
 refine wp_g0 [true,true] [] 120
   [vT,vT] bl (.eq (.eq (.nil))) ?_ ?_
 exact .t (fun _ w hn k=>⟨_,v_bin rfl (k.fx 14 bQ) rfl (fun _=>rfl) (r_eqlS (r:=true) (by kernel_rfl)),rfl⟩)<| .a (fun k=>k.eq1 0 89 rfl) .nil
 refine aftI bl eB eC fun ir it bm eL eM ap aH=>?_
 have iu:=aH.fx 0 gT
 have gY:=aH.fx 4 gU
 have gZ:=aH.fx 5 gV
 have g0:=aH.fx 6 gW
 have iw:=aH.fx 14 bQ
 have g1:=aH.ge 1 88 rfl
 have eN:=eD.new_ ap
 have eO:=eE.new_ ap
 have eP:=eF.new_ ap
 have eQ:=eG.new_ ap
 have eR:=eH.new_ ap
 have eS:=eI.new_ ap
 have eT:=eJ.new_ ap
 refine st_nil (eK _ _ ?_)
 refine wp_cond_true g1 ?_
 refine wp_seq_k fun ix eU=>?_
 refine wp_g0 [true,true,true,true,false,false] [(4,false),(5,true)] 120
   [ve (vv (cleanV v) aW aN aX aO),ve (vv (cleanV u) aY aP aZ aQ),ve (.bool (strictV (cleanV v) (cleanV u))),ve (vv (Vl.mk 2 0 0 false [] [] (truthR (strictV (cleanV v) (cleanV u)))) none 0 none 0),vt,vt] bm (.eq (.eq (.eq (.eq (.tt (.tt (.nil))))))) ?_ ?_
 exact .t (fun _ w hn k=>⟨_,v_load rfl (k.fx 4 gY) (l_agg Tryz.isAgg29 Tryz.sizeOf29 (eN.new_ hn) rfl),rfl⟩)<| .t (fun _ w hn k=>⟨_,v_load rfl (k.fx 5 gZ) (l_agg Tryz.isAgg29 Tryz.sizeOf29 (eO.new_ hn) rfl),rfl⟩)<| .o1 (ck rfl rfl rfl (fun _ w hn k=>⟨#[vv (cleanV v) aW aN aX aO,vv (cleanV u) aY aP aZ aQ],args2 (k.eq1 0 90 rfl) (k.eq1 1 91 rfl),fun _=>by kernel_rfl,cstrict_c (cleanV v) _ _ _ _ (cleanV u) _ _ _ _ _ (eQ.new_ hn) (eR.new_ hn) (eS.new_ hn) (eT.new_ hn)⟩) fun _=>rfl)<| .o1 (ck rfl rfl rfl (fun _ w hn k=>⟨#[.bool (strictV (cleanV v) (cleanV u))],args1 (k.eq1 2 92 rfl),fun _=>by kernel_rfl,truthN_c (strictV (cleanV v) (cleanV u)) _ ⟩) fun _=>rfl)<| .off<| .off .nil
 refine aftI bm eL eM fun bR iy bn eV eW eX bo=>?_
 have bS:=bo.fx 6 g0
 have bT:=bo.ge 3 93 rfl
 have eY:=eP.new_ eX
 obtain⟨g2,bU,bV,eZ,hu⟩:=s_many (P:=Tryz.prog) (t:=29) (i:=0) [iv 2,iv 0,iv 0,.bool false,sv none ([]) 0,sv none ([]) 0,iv (truthR (strictV (cleanV v) (cleanV u)))] Tryz.sizeOf29 rfl rfl rfl eY lb
 have e0:Blk g2 bt 29 [iv 2,iv 0,iv 0,.bool false,sv none ([]) 0,sv none ([]) 0,iv (truthR (strictV (cleanV v) (cleanV u)))]:=bV
 refine st_act rfl rfl fun iz e1=>a_store' rfl bS bT bU (e1 _ _ trivial ?_)
 have e2:=eW.trans eZ (fun _ h b=>by subst b; omega)
 refine st_take rfl rfl (y_assign (v:=iv 0) rfl rfl) rfl ?_
 obtain⟨g3,aI⟩:∃ a',a'=bR.put (some 7) (iv 0):=⟨_,rfl⟩
 have hv:=pz aI bn
 have e3:=pd aI eV
 have g4:=pn aI bS (by decide)
 have iA:=pn aI bT (by decide)
 have g5:g3.eval (.tmp 7)=iv 0:=by rw [aI]; exact put_same _ _ _ (by rw [bn]; decide)
 show stepsTo _ _ _ _ _ (bR.put (some 7) (iv 0)) _
 rw [← aI]
 refine st_nil (eU _ _ ?_)
 refine wp_ret (ret_k e3 (v:=.tuple #[vv (Vl.mk 2 0 0 false [] [] (truthR (strictV (cleanV v) (cleanV u)))) none 0 none 0,iv 0]) (res_ct rfl g4 g5 (l_agg Tryz.isAgg29 Tryz.sizeOf29 e0 rfl)) ?_)
 exact⟨rfl,e2⟩
theorem sumsM_c  (v:Vl) (Av:Option Addr) (cv:Nat) (Bv:Option Addr) (dv:Nat) (u:Vl) (Au:Option Addr) (cu:Nat) (Bu:Option Addr) (du:Nat) (w:World) (hmv:SRow w .u32 Av v.mag cv) (hsv:SRow w .u16 Bv v.s dv) (hmu:SRow w .u32 Au u.mag cu) (hsu:SRow w .u16 Bu u.s du) (hvv:VOk v) (hvu:VOk u) (hns:(numericsV v u).2.2 ≠ 0):Calls Tryz.prog 36 #[.string ⟨#[43]⟩,vv v Av cv Bv dv,vv u Au cu Bu du] w (IsRet (.tuple #[vv (Vl.mk 0 0 0 false [] [] 0) none 0 none 0,iv ((numericsV v u).2.2)]) w):=by
 refine enter_abs Tryz.func36 rfl fun a0 aS cF hp=>?_
 have aS:a0.tmps.size=92:=aS
 have aT:New w w:=Upd.refl _ _
 have hp0:a0.eval (.tmp 0)=.string ⟨#[43]⟩:=hp 0 _ rfl
 have hp1:a0.eval (.tmp 1)=vv v Av cv Bv dv:=hp 1 _ rfl
 have hp2:a0.eval (.tmp 2)=vv u Au cu Bu du:=hp 2 _ rfl
 refine wp_seq_k fun K1 cG=>?_
 refine wp_g [true,true,true,true] [] [] 92
   [IsNew w 29 (c7 v Av cv Bv dv),IsNew w 29 (c7 u Au cu Bu du),IsNew w 29 z7,ve (iv 0)]
   [0,1,2] (newsCons (fun v w h=>IsNew.old h) (newsCons (fun v w h=>IsNew.old h) (newsCons (fun v w h=>IsNew.old h) newsNil))) aS (.nw (.nw (.nw (.eq (.nil))))) ?_ (fun i h=>by cases h) ?_
 exact .o2 (step_allocN (cs:=(c7 v Av cv Bv dv)) (t:=29) rfl (noG rfl) (fun _ w hn k=>v_box rfl (k.fx 1 hp1) (fun w=>rfl)) (fun q _ hq hb=>⟨q,rfl,hq,hb⟩))<| .o2 (step_allocN (cs:=(c7 u Au cu Bu du)) (t:=29) rfl (noG rfl) (fun _ w hn k=>v_box rfl (k.fx 2 hp2) (fun w=>rfl)) (fun q _ hq hb=>⟨q,rfl,hq,hb⟩))<| .o2 (step_allocN (cs:=z7) (t:=29) rfl (noG rfl) (fun _ w hn k=>rfl) (fun q _ hq hb=>⟨q,rfl,hq,hb⟩))<| .t (fun _ w hn k=>⟨_,v_assign rfl rfl,rfl⟩) .nil
 refine aftI aS cF aT fun a2 w3 bK cH an dU aJ=>?_
 have h8:=aJ.fx 0 hp0
 obtain⟨cI,h9,bN,bO⟩:=aJ.G 0 4
 obtain⟨cJ,bL,bP,bQ⟩:=aJ.G 1 5
 obtain⟨aL,a3,bR,aN⟩:=aJ.G 2 6
 have hne21:cI ≠ aL:=aJ.ne 0 2 4 6 h9 a3
 have hne22:cJ ≠ aL:=aJ.ne 1 2 5 6 bL a3
 have dq:=Nat.le_trans aT.size bN
 have dr:=Nat.le_trans aT.size bP
 have ds:=Nat.le_trans aT.size bR
 refine st_nil (cG _ _ (wp_seq_k fun dV bS=>?_))
 refine wp_gS (fun W=>True) (fun W W' hn h=>trivial) trivial [true,true,true,true,true,true,true,true,true,false,false,false] [5,6] [(9,false),(10,false),(11,true)] 92
   [ve (vv v Av cv Bv dv),ve (vv u Au cu Bu du),(TQ (numericsV v u).1 (numericsV v u).2.1 ((numericsV v u).2.2)),(TQ (numericsV v u).1 (numericsV v u).2.1 ((numericsV v u).2.2)),(fun (v_:Value) (W:World)=>∃ (ax:Option Addr) (ay:Nat) (az:Option Addr) (aA:Nat),v_=vv (numericsV v u).1 ax ay az aA∧SRow W .u32 ax ((numericsV v u).1.mag) ay∧SRow W .u16 az ((numericsV v u).1.s) aA),(fun (v_:Value) (W:World)=>∃ (aB:Option Addr) (aC:Nat) (aD:Option Addr) (aE:Nat),v_=vv (numericsV v u).2.1 aB aC aD aE∧SRow W .u32 aB ((numericsV v u).2.1.mag) aC∧SRow W .u16 aD ((numericsV v u).2.1.s) aE),ve (iv ((numericsV v u).2.2)),IsNew w3 29 z7,IsNew w3 29 z7,vt,vt,vt]
   [7,8] (newsCons (fun v w h=>IsNew.old h) (newsCons (fun v w h=>IsNew.old h) newsNil)) bK (.eq (.eq (.cons (fun _ _ _ n ⟨_,_,_,_,_,_,_,_,e,h,i,j,l⟩=>⟨_,_,_,_,_,_,_,_,e,h.new_ n,i.new_ n,j.new_ n,l.new_ n⟩) (.cons (fun _ _ _ n ⟨_,_,_,_,_,_,_,_,e,h,i,j,l⟩=>⟨_,_,_,_,_,_,_,_,e,h.new_ n,i.new_ n,j.new_ n,l.new_ n⟩) (.cons (fun _ _ _ n ⟨_,_,_,_,e,h,i⟩=>⟨_,_,_,_,e,h.new_ n,i.new_ n⟩) (.cons (fun _ _ _ n ⟨_,_,_,_,e,h,i⟩=>⟨_,_,_,_,e,h.new_ n,i.new_ n⟩) (.eq (.nw (.nw (.tt (.tt (.tt (.nil))))))))))))) ?_ ?_ ?_
 refine .t (fun _ w hn k=>⟨_,v_load rfl (k.fx 4 h9) (l_agg Tryz.isAgg29 Tryz.sizeOf29 (bO.new_ hn) rfl),rfl⟩)<| .t (fun _ w hn k=>⟨_,v_load rfl (k.fx 5 bL) (l_agg Tryz.isAgg29 Tryz.sizeOf29 (bQ.new_ hn) rfl),rfl⟩) ?_
 refine .o1 (tkC rfl (noG rfl) rfl fun _ w hn k=>(by
       refine ⟨#[vv v Av cv Bv dv,vv u Au cu Bu du],_,args2 (k.eq1 0 12 rfl) (k.eq1 1 13 rfl),fun w=>by kernel_rfl,numerics_c v _ _ _ _ u _ _ _ _ _ (hmv.new_ (an.transNew hn)) (hsv.new_ (an.transNew hn)) (hmu.new_ (an.transNew hn)) (hsu.new_ (an.transNew hn)) hvv hvu,?_⟩
       rintro e w' ⟨A1,c2,A3,c4,A5,c6,A7,c8,rfl,hmo0,hmo1,hmo2,hmo3,hm⟩
       exact⟨_,rfl,hm,⟨A1,c2,A3,c4,A5,c6,A7,c8,rfl,hmo0,hmo1,hmo2,hmo3⟩⟩)) ?_
 refine .o1 (tk rfl rfl fun _ w hn k=>(by
       obtain⟨cK,cL,cM,cN,cO,cP,cQ,cR,cS,bT,bU,bV,bW⟩:(TQ (numericsV v u).1 (numericsV v u).2.1 ((numericsV v u).2.2)) _ _:=k.dep 2 14 (by kernel_rfl) (by kernel_rfl)
       exact⟨_,v_move rfl cS,⟨cK,cL,cM,cN,cO,cP,cQ,cR,rfl,bT,bU,bV,bW⟩⟩)) ?_
 refine .o1 (tk rfl rfl fun _ w hn k=>(by
       obtain⟨cT,cU,aM,cV,dW,dX,aU,dY,cW,bX,bY,dt,dw⟩:(TQ (numericsV v u).1 (numericsV v u).2.1 ((numericsV v u).2.2)) _ _:=k.dep 3 11 (by kernel_rfl) (by kernel_rfl)
       exact⟨_,v_extract rfl cW rfl,⟨cT,cU,aM,cV,rfl,bX,bY⟩⟩)) ?_
 refine .o3 ?_
 refine .o3 ?_
 exact .o2 (step_allocN (cs:=z7) (t:=29) rfl (noG rfl) (fun _ w hn k=>rfl) (fun q _ hq hb=>⟨q,rfl,hq,hb⟩))<| .o2 (step_allocN (cs:=z7) (t:=29) rfl (noG rfl) (fun _ w hn k=>rfl) (fun q _ hq hb=>⟨q,rfl,hq,hb⟩))<| .off<| .off<| .off .nil
 intro i h
 simp only [List.contains_eq_mem,List.mem_cons,List.not_mem_nil,or_false,decide_eq_true_eq] at h
 rcases h with rfl|rfl
 exact eager_takeG rfl (noG rfl) fun _ w hn k=>(by
     obtain⟨dZ,d0,d1,d2,cX,cY,cZ,c0,c1,dx,dy,bZ,b0⟩:(TQ (numericsV v u).1 (numericsV v u).2.1 ((numericsV v u).2.2)) _ _:=k.dep 3 11 (by kernel_rfl) (by kernel_rfl)
     exact⟨_,fun w hS=>v_extract rfl c1 rfl,⟨cX,cY,cZ,c0,rfl,bZ,b0⟩⟩)
 exact eager_takeG rfl (noG rfl) fun _ w hn k=>(by
     obtain⟨d3,d4,d5,d6,d7,d8,d9,ea,c3,dz,dA,dB,dC⟩:(TQ (numericsV v u).1 (numericsV v u).2.1 ((numericsV v u).2.2)) _ _:=k.dep 3 11 (by kernel_rfl) (by kernel_rfl)
     exact⟨_,fun w hS=>v_extract rfl c3 rfl,rfl⟩)
 intro aV eb _ a4 aj
 obtain⟨a5,b1,b2⟩:=aft aj bK cH an a4
 have c5:=aj.fx 0 h8
 have c9:=aj.fx 6 a3
 obtain⟨a6,aO,aM,aP,aW,b3,b4⟩:=aj.G 4 15
 have aW:aV.eval (.tmp 15)=vv (numericsV v u).1 a6 aO aM aP:=aW
 obtain⟨aU,aQ,a7,aR,aX,b5,b6⟩:=aj.G 5 16
 have aX:aV.eval (.tmp 16)=vv (numericsV v u).2.1 aU aQ a7 aR:=aX
 have bM:=aj.ge 6 17 rfl
 obtain⟨a8,a9,ba,aF⟩:=aj.G 7 8
 obtain⟨bb,bd,be,b7⟩:=aj.G 8 9
 have b8:=aN.new_ a4
 have hne60:a8 ≠ bb:=aj.ne 7 8 8 9 a9 bd
 have hne61:aL ≠ a8:=by have h1:=aN.lt; have h2:=ba; omega
 have hne62:aL ≠ bb:=by have h1:=aN.lt; have h2:=be; omega
 have dD:=Nat.le_trans an.size ba
 have dE:=Nat.le_trans an.size be
 obtain⟨da,bp,bq,aG,bf⟩:=s_many (P:=Tryz.prog) (t:=29) (i:=0) (c7 (numericsV v u).1 a6 aO aM aP) Tryz.sizeOf29 rfl rfl rfl aF lb
 have b9:Blk da a8 29 (c7 (numericsV v u).1 a6 aO aM aP):=bq
 refine st_act rfl rfl fun ec ca=>a_store' rfl a9 aW bp (ca _ _ trivial ?_)
 have cb:=b3.fr aF aG
 have cc:=b4.fr aF aG
 have cd:=b5.fr aF aG
 have ce:=b6.fr aF aG
 have cf:=bf _ _ _ (hne61) b8
 have aH:=bf _ _ _ (fun h=>hne60 h.symm) b7
 have ch:=b2.trans aG (fun _ h b=>by subst b; omega)
 obtain⟨db,br,bs,aI,bg⟩:=s_many (P:=Tryz.prog) (t:=29) (i:=0) (c7 (numericsV v u).2.1 aU aQ a7 aR) Tryz.sizeOf29 rfl rfl rfl aH lb
 have ci:Blk db bb 29 (c7 (numericsV v u).2.1 aU aQ a7 aR):=bs
 refine st_act rfl rfl fun ed cj=>a_store' rfl bd aX br (cj _ _ trivial ?_)
 have cl:=cb.fr aH aI
 have cm:=cc.fr aH aI
 have cn:=cd.fr aH aI
 have co:=ce.fr aH aI
 have cp:=bg _ _ _ (hne62) cf
 have cq:=bg _ _ _ (hne60) b9
 have cr:=ch.trans aI (fun _ h b=>by subst b; omega)
 refine st_take rfl rfl (y_assign (v:=iv ((numericsV v u).2.2)) rfl bM) rfl ?_
 obtain⟨dc,aa⟩:∃ a',a'=aV.put (some 10) (iv ((numericsV v u).2.2)):=⟨_,rfl⟩
 have bh:=pz aa a5
 have ct:=pd aa b1
 have dd:=pn aa c5 (by decide)
 have de:=pn aa c9 (by decide)
 have dF:=pn aa aW (by decide)
 have dG:=pn aa aX (by decide)
 have dH:=pn aa bM (by decide)
 have cw:=pn aa a9 (by decide)
 have cx:=pn aa bd (by decide)
 have bi:dc.eval (.tmp 10)=iv ((numericsV v u).2.2):=by rw [aa]; exact put_same _ _ _ (by rw [a5]; decide)
 show stepsTo _ _ _ _ _ (aV.put (some 10) (iv ((numericsV v u).2.2))) _
 rw [← aa]
 refine st_nil (bS _ _ (wp_seq_k fun dI dg=>?_))
 refine wp_block ?_
 refine wp_seq_k fun dJ bt=>?_
 refine wp_g0 [true,true,true] [] 92
   [ve (iv ((numericsV v u).2.2)),ve (.bool (!decide (((numericsV v u).2.2)=0))),ve (.bool (!decide (((numericsV v u).2.2)=0)))] bh (.eq (.eq (.eq (.nil)))) ?_ ?_
 exact .m (fun k=>k.fx 10 bi)<| .t (fun _ w hn k=>⟨_,v_bin rfl (k.eq1 0 19 rfl) rfl (fun _=>rfl) (r_neq rfl),rfl⟩)<| .a (fun k=>k.eq1 1 20 rfl) .nil
 refine aftI bh ct cr fun dK dL aY bu bv ak am=>?_
 have dM:=am.fx 0 dd
 have cy:=am.fx 6 de
 have dN:=am.fx 8 cw
 have dO:=am.fx 9 cx
 have cz:=am.fx 10 bi
 have cA:=am.ge 2 18 rfl
 have bw:=cp.new_ ak
 have dh:=cq.new_ ak
 have di:=ci.new_ ak
 have dj:=cl.new_ ak
 have dk:=cm.new_ ak
 have dl:=cn.new_ ak
 have dm:=co.new_ ak
 refine st_nil (bt _ _ ?_)
 have aZ:((!decide (((numericsV v u).2.2)=0)))=true:=(nt (decide_eq_false (hns)))
 have bx:=hB cA aZ
 have bz:(decide (((numericsV v u).2.2)=0))=false:=nF aZ
 have df:=oF bz
 refine wp_cond_true bx ?_
 refine wp_seq_k fun dP bA=>?_
 refine wp_g [true,true,false,false] [1] [(2,false),(3,true)] 92
   [ve (vv (Vl.mk 0 0 0 false [] [] 0) none 0 none 0),ve (iv ((numericsV v u).2.2)),vt,vt]
   [] newsNil aY (.eq (.eq (.tt (.tt (.nil))))) ?_ ?_ ?_
 refine .t (fun _ w hn k=>⟨_,v_build (ps:=[]) rfl parts0 (by kernel_rfl),rfl⟩) ?_
 refine .o3 ?_
 exact .off<| .off .nil
 intro i h
 simp only [List.contains_eq_mem,List.mem_cons,List.not_mem_nil,or_false,decide_eq_true_eq] at h
 subst h
 exact eager_take rfl rfl fun _ w hn k=>⟨iv ((numericsV v u).2.2),fun w=>v_move rfl (k.fx 10 cz),rfl⟩
 refine aftI aY bu bv fun bj dQ a1 bB bC bD aK=>?_
 have bk:=aK.fx 6 cy
 have bl:=aK.ge 0 21 rfl
 have bm:=aK.ge 1 22 rfl
 have bE:=bw.new_ bD
 obtain⟨cB,bn,bo,bF,dn⟩:=s_many (P:=Tryz.prog) (t:=29) (i:=0) z7 Tryz.sizeOf29 rfl rfl rfl bE lb
 have bG:Blk cB aL 29 z7:=bo
 refine st_act rfl rfl fun dR bH=>a_store' rfl bk bl bn (bH _ _ trivial ?_)
 have bI:=bC.trans bF (fun _ h b=>by subst b; omega)
 refine st_take rfl rfl (y_assign (v:=iv ((numericsV v u).2.2)) rfl bm) rfl ?_
 obtain⟨cC,al⟩:∃ a',a'=bj.put (some 7) (iv ((numericsV v u).2.2)):=⟨_,rfl⟩
 have dp:=pz al a1
 have bJ:=pd al bB
 have cD:=pn al bk (by decide)
 have dS:=pn al bl (by decide)
 have dT:=pn al bm (by decide)
 have cE:cC.eval (.tmp 7)=iv ((numericsV v u).2.2):=by rw [al]; exact put_same _ _ _ (by rw [a1]; decide)
 show stepsTo _ _ _ _ _ (bj.put (some 7) (iv ((numericsV v u).2.2))) _
 rw [← al]
 refine st_nil (bA _ _ ?_)
 refine wp_ret (ret_k bJ (v:=.tuple #[vv (Vl.mk 0 0 0 false [] [] 0) none 0 none 0,iv ((numericsV v u).2.2)]) (res_ct rfl cD cE (l_agg Tryz.isAgg29 Tryz.sizeOf29 bG rfl)) ?_)
 exact⟨rfl,bI⟩
theorem binM_c  (v:Vl) (Av:Option Addr) (cv:Nat) (Bv:Option Addr) (dv:Nat) (u:Vl) (Au:Option Addr) (cu:Nat) (Bu:Option Addr) (du:Nat) (w:World) (hmv:SRow w .u32 Av v.mag cv) (hsv:SRow w .u16 Bv v.s dv) (hmu:SRow w .u32 Au u.mag cu) (hsu:SRow w .u16 Bu u.s du) (hvv:VOk v) (hvu:VOk u) (hk1:(cleanV v).k ≠ 5) (hk2:(cleanV u).k ≠ 5) (hns:(numericsV (cleanV v) (cleanV u)).2.2 ≠ 0):Calls Tryz.prog 12 #[.string ⟨#[43]⟩,vv v Av cv Bv dv,vv u Au cu Bu du] w (IsRet (.tuple #[vv (Vl.mk 0 0 0 false [] [] 0) none 0 none 0,iv ((numericsV (cleanV v) (cleanV u)).2.2)]) w):=by
 refine enter_abs Tryz.func12 rfl fun a0 aB cI hp=>?_
 have aB:a0.tmps.size=120:=aB
 have aC:New w w:=Upd.refl _ _
 have hp0:a0.eval (.tmp 0)=.string ⟨#[43]⟩:=hp 0 _ rfl
 have hp1:a0.eval (.tmp 1)=vv v Av cv Bv dv:=hp 1 _ rfl
 have hp2:a0.eval (.tmp 2)=vv u Au cu Bu du:=hp 2 _ rfl
 refine wp_seq_k fun K1 cJ=>?_
 refine wp_g [true,true,true,true] [] [] 120
   [IsNew w 29 (c7 v Av cv Bv dv),IsNew w 29 (c7 u Au cu Bu du),IsNew w 29 z7,ve (iv 0)]
   [0,1,2] (newsCons (fun v w h=>IsNew.old h) (newsCons (fun v w h=>IsNew.old h) (newsCons (fun v w h=>IsNew.old h) newsNil))) aB (.nw (.nw (.nw (.eq (.nil))))) ?_ (fun i h=>by cases h) ?_
 exact .o2 (step_allocN (cs:=(c7 v Av cv Bv dv)) (t:=29) rfl (noG rfl) (fun _ w hn k=>v_box rfl (k.fx 1 hp1) (fun w=>rfl)) (fun q _ hq hb=>⟨q,rfl,hq,hb⟩))<| .o2 (step_allocN (cs:=(c7 u Au cu Bu du)) (t:=29) rfl (noG rfl) (fun _ w hn k=>v_box rfl (k.fx 2 hp2) (fun w=>rfl)) (fun q _ hq hb=>⟨q,rfl,hq,hb⟩))<| .o2 (step_allocN (cs:=z7) (t:=29) rfl (noG rfl) (fun _ w hn k=>rfl) (fun q _ hq hb=>⟨q,rfl,hq,hb⟩))<| .t (fun _ w hn k=>⟨_,v_assign rfl rfl,rfl⟩) .nil
 refine aftI aB cI aC fun a2 w3 bN cK ah dr ai=>?_
 have h8:=ai.fx 0 hp0
 obtain⟨aD,h9,bT,aL⟩:=ai.G 0 4
 obtain⟨aE,aF,bU,aM⟩:=ai.G 1 5
 obtain⟨aN,aO,bV,bW⟩:=ai.G 2 6
 have hne21:aD ≠ aE:=ai.ne 0 1 4 5 h9 aF
 have hne22:aD ≠ aN:=ai.ne 0 2 4 6 h9 aO
 have hne23:aE ≠ aN:=ai.ne 1 2 5 6 aF aO
 have c9:=Nat.le_trans aC.size bT
 have da:=Nat.le_trans aC.size bU
 have db:=Nat.le_trans aC.size bV
 refine st_nil (cJ _ _ (wp_seq_k fun ds bX=>?_))
 refine wp_g0 [true,true,true,true,false,false] [(4,false),(5,false)] 120
   [ve (vv v Av cv Bv dv),
    (VP (cleanV v)),ve (vv u Au cu Bu du),
    (VP (cleanV u)),vt,vt] bN (.eq (.cons (fun _ _ _ n ⟨_,_,_,_,e,h,i⟩=>⟨_,_,_,_,e,h.new_ n,i.new_ n⟩) (.eq (.cons (fun _ _ _ n ⟨_,_,_,_,e,h,i⟩=>⟨_,_,_,_,e,h.new_ n,i.new_ n⟩) (.tt (.tt (.nil))))))) ?_ ?_
 refine .t (fun _ w hn k=>⟨_,v_load rfl (k.fx 4 h9) (l_agg Tryz.isAgg29 Tryz.sizeOf29 (aL.new_ hn) rfl),rfl⟩) ?_
 refine .o1 (tkC rfl (noG rfl) rfl fun _ w hn k=>(by
       refine ⟨#[vv v Av cv Bv dv],_,args1 (k.eq1 0 10 rfl),fun w=>by kernel_rfl,clean_c v _ _ _ _ _ (hmv.new_ (ah.transNew hn)) (hsv.new_ (ah.transNew hn)),?_⟩
       rintro e w' ⟨A1,c2,A3,c4,rfl,hmo0,hmo1,hm⟩
       exact⟨_,rfl,hm,⟨A1,c2,A3,c4,rfl,hmo0,hmo1⟩⟩)) ?_
 refine .t (fun _ w hn k=>⟨_,v_load rfl (k.fx 5 aF) (l_agg Tryz.isAgg29 Tryz.sizeOf29 (aM.new_ hn) rfl),rfl⟩) ?_
 refine .o1 (tkC rfl (noG rfl) rfl fun _ w hn k=>(by
       refine ⟨#[vv u Au cu Bu du],_,args1 (k.eq1 2 12 rfl),fun w=>by kernel_rfl,clean_c u _ _ _ _ _ (hmu.new_ (ah.transNew hn)) (hsu.new_ (ah.transNew hn)),?_⟩
       rintro e w' ⟨A9,cP,cQ,cR,rfl,hmo0,hmo1,hm⟩
       exact⟨_,rfl,hm,⟨A9,cP,cQ,cR,rfl,hmo0,hmo1⟩⟩)) ?_
 exact .off<| .off .nil
 refine aftI bN cK ah fun bO dt aP bY bZ aA ag=>?_
 have bP:=ag.fx 0 h8
 have bQ:=ag.fx 4 h9
 have bR:=ag.fx 5 aF
 have cS:=ag.fx 6 aO
 obtain⟨aw,aj,ax,ak,aQ,b0,b1⟩:=ag.G 1 11
 have aQ:bO.eval (.tmp 11)=vv (cleanV v) aw aj ax ak:=aQ
 obtain⟨ay,al,az,am,aR,b2,b3⟩:=ag.G 3 13
 have aR:bO.eval (.tmp 13)=vv (cleanV u) ay al az am:=aR
 have an:=aL.new_ aA
 have b4:=aM.new_ aA
 have b5:=bW.new_ aA
 obtain⟨cU,a5,a6,ao,aS⟩:=s_many (P:=Tryz.prog) (t:=29) (i:=0) (c7 (cleanV v) aw aj ax ak) Tryz.sizeOf29 rfl rfl rfl an lb
 have b6:Blk cU aD 29 (c7 (cleanV v) aw aj ax ak):=a6
 refine st_act rfl rfl fun dw b7=>a_store' rfl bQ aQ a5 (b7 _ _ trivial ?_)
 have b8:=b0.fr an ao
 have b9:=b1.fr an ao
 have ca:=b2.fr an ao
 have cb:=b3.fr an ao
 have ap:=aS _ _ _ (fun h=>hne21 h.symm) b4
 have cc:=aS _ _ _ (fun h=>hne22 h.symm) b5
 have cd:=bZ.trans ao (fun _ h b=>by subst b; omega)
 obtain⟨cV,a7,a8,aq,aT⟩:=s_many (P:=Tryz.prog) (t:=29) (i:=0) (c7 (cleanV u) ay al az am) Tryz.sizeOf29 rfl rfl rfl ap lb
 have ce:Blk cV aE 29 (c7 (cleanV u) ay al az am):=a8
 refine st_act rfl rfl fun dx cf=>a_store' rfl bR aR a7 (cf _ _ trivial ?_)
 have ch:=b8.fr ap aq
 have ci:=b9.fr ap aq
 have cj:=ca.fr ap aq
 have cl:=cb.fr ap aq
 have cm:=aT _ _ _ (hne21) b6
 have cn:=aT _ _ _ (fun h=>hne23 h.symm) cc
 have co:=cd.trans aq (fun _ h b=>by subst b; omega)
 refine st_nil (bX _ _ (wp_seq_k fun dy dc=>?_))
 refine wp_seq_k fun dz cp=>?_
 refine wp_g0 [true] [] 120
   [ve (.string ⟨#[43]⟩)] aP (.eq (.nil)) ?_ ?_
 exact .m (fun k=>k.fx 0 bP) .nil
 refine aftI aP bY co fun dA dB aU cq a9 ae ar=>?_
 have cW:=ar.fx 0 bP
 have cX:=ar.fx 4 bQ
 have cY:=ar.fx 5 bR
 have cZ:=ar.fx 6 cS
 have bS:=ar.ge 0 14 rfl
 have cr:=cm.new_ ae
 have ct:=ce.new_ ae
 have ba:=cn.new_ ae
 have bb:=ch.new_ ae
 have bd:=ci.new_ ae
 have be:=cj.new_ ae
 have bf:=cl.new_ ae
 refine st_nil (cp _ _ ?_)
 refine wp_block ?_
 refine wp_seq_k fun dd bg=>?_
 refine wp_g0 [true,true] [] 120
   [vT,vT] aU (.eq (.eq (.nil))) ?_ ?_
 exact .t (fun _ w hn k=>⟨_,v_bin rfl (k.fx 14 bS) rfl (fun _=>rfl) (r_eqlS (r:=true) (by kernel_rfl)),rfl⟩)<| .a (fun k=>k.eq1 0 16 rfl) .nil
 refine aftI aU cq a9 fun de df aG bh bi aa ad=>?_
 have cw:=ad.fx 0 cW
 have aV:=ad.fx 4 cX
 have aW:=ad.fx 5 cY
 have cx:=ad.fx 6 cZ
 have dg:=ad.fx 14 bS
 have cy:=ad.ge 1 15 rfl
 have aH:=cr.new_ aa
 have aI:=ct.new_ aa
 have bj:=ba.new_ aa
 have bk:=bb.new_ aa
 have bl:=bd.new_ aa
 have bm:=be.new_ aa
 have bn:=bf.new_ aa
 refine st_nil (bg _ _ ?_)
 refine wp_cond_true cy ?_
 refine wp_seq_k fun dh bo=>?_
 refine wp_seq_k fun di bp=>?_
 refine wp_g0 (.replicate 8 true) [] 120
   [ve (pv aD),ve (iv ((cleanV v).k)),ve (.bool (decide (((cleanV v).k)=5))),ve (.bool (decide (((cleanV v).k)=5))),ve (gq (!(decide (((cleanV v).k)=5))) (pv aE)),ve (gq (!(decide (((cleanV v).k)=5))) (iv ((cleanV u).k))),ve (gq (!(decide (((cleanV v).k)=5))) (.bool (decide (((cleanV u).k)=5)))),ve (.bool ((decide (((cleanV v).k)=5)) || (decide (((cleanV u).k)=5))))] aG (.eq (.eq (.eq (.eq (.eq (.eq (.eq (.eq (.nil))))))))) ?_ ?_
 exact .f (fun k=>k.fx 4 aV)<| .t (fun _ w hn k=>⟨_,v_load rfl (k.eq1 0 17 rfl) (l_one Tryz.isAgg3 ((aH.new_ hn).cell 0)),rfl⟩)<| .t (fun _ w hn k=>⟨_,v_bin rfl (k.eq1 1 18 rfl) rfl (fun _=>rfl) (r_eql rfl),rfl⟩)<| .m (fun k=>k.eq1 2 19 rfl)<| .o1 (sc (G:=(!(decide (((cleanV v).k)=5)))) rfl rfl rfl (fun _ _ k=>g0' (k.eq1 3 20 rfl)) (fun hG _ w hn k=>v_field rfl (k.fx 5 aW) (fun w=>rfl)))<| .o1 (sc (G:=(!(decide (((cleanV v).k)=5)))) rfl rfl rfl (fun _ _ k=>g0' (k.eq1 3 20 rfl)) (fun hG _ w hn k=>v_load rfl (cT hG (k.eq1 4 21 rfl)) (l_one Tryz.isAgg3 ((aI.new_ hn).cell 0))))<| .o1 (sc (G:=(!(decide (((cleanV v).k)=5)))) rfl rfl rfl (fun _ _ k=>g0' (k.eq1 3 20 rfl)) (fun hG _ w hn k=>v_bin rfl (cT hG (k.eq1 5 22 rfl)) rfl (fun _=>rfl) (r_eql rfl)))<| .t (fun _ w hn k=>⟨_,v_or rfl (k.eq1 3 20 rfl) rfl (fun hg=>(cT (nt hg) (k.eq1 6 23 rfl))),rfl⟩) .nil
 refine aftI aG bh bi fun dj dk aJ bq br ab af=>?_
 have cz:=af.fx 0 cw
 have cA:=af.fx 4 aV
 have cB:=af.fx 5 aW
 have cC:=af.fx 6 cx
 have cD:=af.ge 7 24 rfl
 have bs:=aH.new_ ab
 have bt:=aI.new_ ab
 have bu:=bj.new_ ab
 have bv:=bk.new_ ab
 have bw:=bl.new_ ab
 have bx:=bm.new_ ab
 have bz:=bn.new_ ab
 refine st_nil (bp _ _ ?_)
 have au:(((decide (((cleanV v).k)=5)) || (decide (((cleanV u).k)=5))))=false:=(by rw [show ((decide (((cleanV v).k)=5)))=false from decide_eq_false (hk1),show ((decide (((cleanV u).k)=5)))=false from decide_eq_false (hk2)]; rfl)
 have bA:=hB cD au
 have bB:(decide (((cleanV v).k)=5))=false:=ol au
 have c0:=oF bB
 have bC:(decide (((cleanV u).k)=5))=false:=or_ au
 have c1:=oF bC
 refine wp_cond_false bA ?_
 refine wp_skip ?_
 refine bo _ _ ?_
 refine wp_seq_k fun dl bD=>?_
 refine wp_g0 [true,true,true,true,true,true,false,false] [(6,false),(7,true)] 120
   [ve (.string ⟨#[43]⟩),ve (vv (cleanV v) aw aj ax ak),ve (vv (cleanV u) ay al az am),ve (.tuple #[vv (Vl.mk 0 0 0 false [] [] 0) none 0 none 0,iv ((numericsV (cleanV v) (cleanV u)).2.2)]),ve (vv (Vl.mk 0 0 0 false [] [] 0) none 0 none 0),ve (iv ((numericsV (cleanV v) (cleanV u)).2.2)),vt,vt] aJ (.eq (.eq (.eq (.eq (.eq (.eq (.tt (.tt (.nil))))))))) ?_ ?_
 exact .m (fun k=>k.fx 0 cz)<| .t (fun _ w hn k=>⟨_,v_load rfl (k.fx 4 cA) (l_agg Tryz.isAgg29 Tryz.sizeOf29 (bs.new_ hn) rfl),rfl⟩)<| .t (fun _ w hn k=>⟨_,v_load rfl (k.fx 5 cB) (l_agg Tryz.isAgg29 Tryz.sizeOf29 (bt.new_ hn) rfl),rfl⟩)<| .o1 (ck rfl rfl rfl (fun _ w hn k=>⟨#[.string ⟨#[43]⟩,vv (cleanV v) aw aj ax ak,vv (cleanV u) ay al az am],args3 (k.eq1 0 30 rfl) (k.eq1 1 31 rfl) (k.eq1 2 32 rfl),fun _=>by kernel_rfl,sumsM_c (cleanV v) _ _ _ _ (cleanV u) _ _ _ _ _ (bv.new_ hn) (bw.new_ hn) (bx.new_ hn) (bz.new_ hn) hvv.clean hvu.clean hns⟩) fun _=>rfl)<| .t (fun _ w hn k=>⟨_,v_extract rfl (k.eq1 3 33 rfl) rfl,rfl⟩)<| .t (fun _ w hn k=>⟨_,v_extract rfl (k.eq1 3 33 rfl) rfl,rfl⟩)<| .off<| .off .nil
 refine aftI aJ bq br fun aX dm aK bE bF bG av=>?_
 have aY:=av.fx 6 cC
 have aZ:=av.ge 4 34 rfl
 have a1:=av.ge 5 35 rfl
 have bH:=bu.new_ bG
 obtain⟨cE,a3,a4,bI,c3⟩:=s_many (P:=Tryz.prog) (t:=29) (i:=0) z7 Tryz.sizeOf29 rfl rfl rfl bH lb
 have bJ:Blk cE aN 29 z7:=a4
 refine st_act rfl rfl fun dn bK=>a_store' rfl aY aZ a3 (bK _ _ trivial ?_)
 have bL:=bF.trans bI (fun _ h b=>by subst b; omega)
 refine st_take rfl rfl (y_assign (v:=iv ((numericsV (cleanV v) (cleanV u)).2.2)) rfl a1) rfl ?_
 obtain⟨cF,ac⟩:∃ a',a'=aX.put (some 7) (iv ((numericsV (cleanV v) (cleanV u)).2.2)):=⟨_,rfl⟩
 have c5:=pz ac aK
 have bM:=pd ac bE
 have cG:=pn ac aY (by decide)
 have dp:=pn ac aZ (by decide)
 have dq:=pn ac a1 (by decide)
 have cH:cF.eval (.tmp 7)=iv ((numericsV (cleanV v) (cleanV u)).2.2):=by rw [ac]; exact put_same _ _ _ (by rw [aK]; decide)
 show stepsTo _ _ _ _ _ (aX.put (some 7) (iv ((numericsV (cleanV v) (cleanV u)).2.2))) _
 rw [← ac]
 refine st_nil (bD _ _ ?_)
 refine wp_ret (ret_k bM (v:=.tuple #[vv (Vl.mk 0 0 0 false [] [] 0) none 0 none 0,iv ((numericsV (cleanV v) (cleanV u)).2.2)]) (res_ct rfl cG cH (l_agg Tryz.isAgg29 Tryz.sizeOf29 bJ rfl)) ?_)
 exact⟨rfl,bL⟩
theorem sumsD_c  (v:Vl) (Av:Option Addr) (cv:Nat) (Bv:Option Addr) (dv:Nat) (u:Vl) (Au:Option Addr) (cu:Nat) (Bu:Option Addr) (du:Nat) (w:World) (hmv:SRow w .u32 Av v.mag cv) (hsv:SRow w .u16 Bv v.s dv) (hmu:SRow w .u32 Au u.mag cu) (hsu:SRow w .u16 Bu u.s du) (hvv:VOk v) (hvu:VOk u) (hns:(numericsV v u).2.2=0) (hk:(numericsV v u).1.k=3) (hX:(Nm.mk (numericsV v u).1.nk (numericsV v u).1.nn)=⟨0,1⟩) (hY:(Nm.mk (numericsV v u).2.1.nk (numericsV v u).2.1.nn)=⟨0,2⟩):Calls Tryz.prog 36 #[.string ⟨#[47]⟩,vv v Av cv Bv dv,vv u Au cu Bu du] w (IsRet (.tuple #[vv (Vl.mk 0 0 0 false [] [] 0) none 0 none 0,iv 3]) w):=by
 refine enter_abs Tryz.func36 rfl fun a0 ba eD hp=>?_
 have ba:a0.tmps.size=92:=ba
 have bb:New w w:=Upd.refl _ _
 have hp0:a0.eval (.tmp 0)=.string ⟨#[47]⟩:=hp 0 _ rfl
 have hp1:a0.eval (.tmp 1)=vv v Av cv Bv dv:=hp 1 _ rfl
 have hp2:a0.eval (.tmp 2)=vv u Au cu Bu du:=hp 2 _ rfl
 refine wp_seq_k fun K1 eE=>?_
 refine wp_g [true,true,true,true] [] [] 92
   [IsNew w 29 (c7 v Av cv Bv dv),IsNew w 29 (c7 u Au cu Bu du),IsNew w 29 z7,ve (iv 0)]
   [0,1,2] (newsCons (fun v w h=>IsNew.old h) (newsCons (fun v w h=>IsNew.old h) (newsCons (fun v w h=>IsNew.old h) newsNil))) ba (.nw (.nw (.nw (.eq (.nil))))) ?_ (fun i h=>by cases h) ?_
 exact .o2 (step_allocN (cs:=(c7 v Av cv Bv dv)) (t:=29) rfl (noG rfl) (fun _ w hn k=>v_box rfl (k.fx 1 hp1) (fun w=>rfl)) (fun q _ hq hb=>⟨q,rfl,hq,hb⟩))<| .o2 (step_allocN (cs:=(c7 u Au cu Bu du)) (t:=29) rfl (noG rfl) (fun _ w hn k=>v_box rfl (k.fx 2 hp2) (fun w=>rfl)) (fun q _ hq hb=>⟨q,rfl,hq,hb⟩))<| .o2 (step_allocN (cs:=z7) (t:=29) rfl (noG rfl) (fun _ w hn k=>rfl) (fun q _ hq hb=>⟨q,rfl,hq,hb⟩))<| .t (fun _ w hn k=>⟨_,v_assign rfl rfl,rfl⟩) .nil
 refine aftI ba eD bb fun a2 w3 dj eF av f2 aV=>?_
 have h8:=aV.fx 0 hp0
 obtain⟨eG,h9,dm,dn⟩:=aV.G 0 4
 obtain⟨eH,dk,dp,dq⟩:=aV.G 1 5
 obtain⟨a1,br,dr,a5⟩:=aV.G 2 6
 have hne21:eG ≠ a1:=aV.ne 0 2 4 6 h9 br
 have hne22:eH ≠ a1:=aV.ne 1 2 5 6 dk br
 have fh:=Nat.le_trans bb.size dm
 have fi:=Nat.le_trans bb.size dp
 have fj:=Nat.le_trans bb.size dr
 refine st_nil (eE _ _ (wp_seq_k fun f3 ds=>?_))
 refine wp_gS (fun W=>True) (fun W W' hn h=>trivial) trivial [true,true,true,true,true,true,true,true,true,false,false,false] [5,6] [(9,false),(10,false),(11,true)] 92
   [ve (vv v Av cv Bv dv),ve (vv u Au cu Bu du),(TQ (numericsV v u).1 (numericsV v u).2.1 ((numericsV v u).2.2)),(TQ (numericsV v u).1 (numericsV v u).2.1 ((numericsV v u).2.2)),(fun (v_:Value) (W:World)=>∃ (aJ:Option Addr) (aK:Nat) (aL:Option Addr) (aM:Nat),v_=vv (numericsV v u).1 aJ aK aL aM∧SRow W .u32 aJ ((numericsV v u).1.mag) aK∧SRow W .u16 aL ((numericsV v u).1.s) aM),(fun (v_:Value) (W:World)=>∃ (aN:Option Addr) (aO:Nat) (aP:Option Addr) (aQ:Nat),v_=vv (numericsV v u).2.1 aN aO aP aQ∧SRow W .u32 aN ((numericsV v u).2.1.mag) aO∧SRow W .u16 aP ((numericsV v u).2.1.s) aQ),ve (iv ((numericsV v u).2.2)),IsNew w3 29 z7,IsNew w3 29 z7,vt,vt,vt]
   [7,8] (newsCons (fun v w h=>IsNew.old h) (newsCons (fun v w h=>IsNew.old h) newsNil)) dj (.eq (.eq (.cons (fun _ _ _ n ⟨_,_,_,_,_,_,_,_,e,h,i,j,l⟩=>⟨_,_,_,_,_,_,_,_,e,h.new_ n,i.new_ n,j.new_ n,l.new_ n⟩) (.cons (fun _ _ _ n ⟨_,_,_,_,_,_,_,_,e,h,i,j,l⟩=>⟨_,_,_,_,_,_,_,_,e,h.new_ n,i.new_ n,j.new_ n,l.new_ n⟩) (.cons (fun _ _ _ n ⟨_,_,_,_,e,h,i⟩=>⟨_,_,_,_,e,h.new_ n,i.new_ n⟩) (.cons (fun _ _ _ n ⟨_,_,_,_,e,h,i⟩=>⟨_,_,_,_,e,h.new_ n,i.new_ n⟩) (.eq (.nw (.nw (.tt (.tt (.tt (.nil))))))))))))) ?_ ?_ ?_
 refine .t (fun _ w hn k=>⟨_,v_load rfl (k.fx 4 h9) (l_agg Tryz.isAgg29 Tryz.sizeOf29 (dn.new_ hn) rfl),rfl⟩)<| .t (fun _ w hn k=>⟨_,v_load rfl (k.fx 5 dk) (l_agg Tryz.isAgg29 Tryz.sizeOf29 (dq.new_ hn) rfl),rfl⟩) ?_
 refine .o1 (tkC rfl (noG rfl) rfl fun _ w hn k=>(by
       refine ⟨#[vv v Av cv Bv dv,vv u Au cu Bu du],_,args2 (k.eq1 0 12 rfl) (k.eq1 1 13 rfl),fun w=>by kernel_rfl,numerics_c v _ _ _ _ u _ _ _ _ _ (hmv.new_ (av.transNew hn)) (hsv.new_ (av.transNew hn)) (hmu.new_ (av.transNew hn)) (hsu.new_ (av.transNew hn)) hvv hvu,?_⟩
       rintro e w' ⟨A1,c2,A3,c4,A5,c6,A7,c8,rfl,hmo0,hmo1,hmo2,hmo3,hm⟩
       exact⟨_,rfl,hm,⟨A1,c2,A3,c4,A5,c6,A7,c8,rfl,hmo0,hmo1,hmo2,hmo3⟩⟩)) ?_
 refine .o1 (tk rfl rfl fun _ w hn k=>(by
       obtain⟨eI,eJ,eK,eL,eM,eN,eO,eP,eQ,dt,dw,dx,dy⟩:(TQ (numericsV v u).1 (numericsV v u).2.1 ((numericsV v u).2.2)) _ _:=k.dep 2 14 (by kernel_rfl) (by kernel_rfl)
       exact⟨_,v_move rfl eQ,⟨eI,eJ,eK,eL,eM,eN,eO,eP,rfl,dt,dw,dx,dy⟩⟩)) ?_
 refine .o1 (tk rfl rfl fun _ w hn k=>(by
       obtain⟨eR,eS,a3,eT,f4,f5,bd,f6,eU,dz,dA,fk,fl⟩:(TQ (numericsV v u).1 (numericsV v u).2.1 ((numericsV v u).2.2)) _ _:=k.dep 3 11 (by kernel_rfl) (by kernel_rfl)
       exact⟨_,v_extract rfl eU rfl,⟨eR,eS,a3,eT,rfl,dz,dA⟩⟩)) ?_
 refine .o3 ?_
 refine .o3 ?_
 exact .o2 (step_allocN (cs:=z7) (t:=29) rfl (noG rfl) (fun _ w hn k=>rfl) (fun q _ hq hb=>⟨q,rfl,hq,hb⟩))<| .o2 (step_allocN (cs:=z7) (t:=29) rfl (noG rfl) (fun _ w hn k=>rfl) (fun q _ hq hb=>⟨q,rfl,hq,hb⟩))<| .off<| .off<| .off .nil
 intro i h
 simp only [List.contains_eq_mem,List.mem_cons,List.not_mem_nil,or_false,decide_eq_true_eq] at h
 rcases h with rfl|rfl
 exact eager_takeG rfl (noG rfl) fun _ w hn k=>(by
     obtain⟨f7,f8,f9,ga,eV,eW,eX,eY,eZ,fm,fn,dB,dC⟩:(TQ (numericsV v u).1 (numericsV v u).2.1 ((numericsV v u).2.2)) _ _:=k.dep 3 11 (by kernel_rfl) (by kernel_rfl)
     exact⟨_,fun w hS=>v_extract rfl eZ rfl,⟨eV,eW,eX,eY,rfl,dB,dC⟩⟩)
 exact eager_takeG rfl (noG rfl) fun _ w hn k=>(by
     obtain⟨gb,gc,gd,gf,gg,gh,gi,gj,e0,fo,fp,fq,fs⟩:(TQ (numericsV v u).1 (numericsV v u).2.1 ((numericsV v u).2.2)) _ _:=k.dep 3 11 (by kernel_rfl) (by kernel_rfl)
     exact⟨_,fun w hS=>v_extract rfl e0 rfl,rfl⟩)
 intro be gk _ bs aj
 obtain⟨bt,dD,dE⟩:=aft aj dj eF av bs
 have e1:=aj.fx 0 h8
 have e2:=aj.fx 6 br
 obtain⟨bu,a6,a3,a7,bf,dF,dG⟩:=aj.G 4 15
 have bf:be.eval (.tmp 15)=vv (numericsV v u).1 bu a6 a3 a7:=bf
 obtain⟨bd,a8,bv,a9,bg,dH,dI⟩:=aj.G 5 16
 have bg:be.eval (.tmp 16)=vv (numericsV v u).2.1 bd a8 bv a9:=bg
 have dl:=aj.ge 6 17 rfl
 obtain⟨a4,bw,bx,aR⟩:=aj.G 7 8
 obtain⟨bh,bz,bA,dJ⟩:=aj.G 8 9
 have dK:=a5.new_ bs
 have hne60:a4 ≠ bh:=aj.ne 7 8 8 9 bw bz
 have hne61:a1 ≠ a4:=by have h1:=a5.lt; have h2:=bx; omega
 have hne62:a1 ≠ bh:=by have h1:=a5.lt; have h2:=bA; omega
 have ft:=Nat.le_trans av.size bx
 have fu:=Nat.le_trans av.size bA
 obtain⟨e3,bP,bQ,aS,bB⟩:=s_many (P:=Tryz.prog) (t:=29) (i:=0) (c7 (numericsV v u).1 bu a6 a3 a7) Tryz.sizeOf29 rfl rfl rfl aR lb
 have dL:Blk e3 a4 29 (c7 (numericsV v u).1 bu a6 a3 a7):=bQ
 refine st_act rfl rfl fun gl dM=>a_store' rfl bw bf bP (dM _ _ trivial ?_)
 have dN:=dF.fr aR aS
 have dO:=dG.fr aR aS
 have dP:=dH.fr aR aS
 have dQ:=dI.fr aR aS
 have dR:=bB _ _ _ (hne61) dK
 have aT:=bB _ _ _ (fun h=>hne60 h.symm) dJ
 have dS:=dE.trans aS (fun _ h b=>by subst b; omega)
 obtain⟨e4,bR,bS,aU,bC⟩:=s_many (P:=Tryz.prog) (t:=29) (i:=0) (c7 (numericsV v u).2.1 bd a8 bv a9) Tryz.sizeOf29 rfl rfl rfl aT lb
 have dT:Blk e4 bh 29 (c7 (numericsV v u).2.1 bd a8 bv a9):=bS
 refine st_act rfl rfl fun gm dU=>a_store' rfl bz bg bR (dU _ _ trivial ?_)
 have dV:=dN.fr aT aU
 have dW:=dO.fr aT aU
 have dX:=dP.fr aT aU
 have dY:=dQ.fr aT aU
 have dZ:=bC _ _ _ (hne62) dR
 have d0:=bC _ _ _ (hne60) dL
 have d1:=dS.trans aU (fun _ h b=>by subst b; omega)
 refine st_take rfl rfl (y_assign (v:=iv ((numericsV v u).2.2)) rfl dl) rfl ?_
 obtain⟨e5,aa⟩:∃ a',a'=be.put (some 10) (iv ((numericsV v u).2.2)):=⟨_,rfl⟩
 have bD:=pz aa bt
 have d2:=pd aa dD
 have e6:=pn aa e1 (by decide)
 have e7:=pn aa e2 (by decide)
 have fv:=pn aa bf (by decide)
 have fw:=pn aa bg (by decide)
 have fy:=pn aa dl (by decide)
 have d3:=pn aa bw (by decide)
 have d4:=pn aa bz (by decide)
 have bE:e5.eval (.tmp 10)=iv ((numericsV v u).2.2):=by rw [aa]; exact put_same _ _ _ (by rw [bt]; decide)
 show stepsTo _ _ _ _ _ (be.put (some 10) (iv ((numericsV v u).2.2))) _
 rw [← aa]
 refine st_nil (ds _ _ (wp_seq_k fun fz bT=>?_))
 refine wp_block ?_
 refine wp_seq_k fun fA bU=>?_
 refine wp_g0 [true,true,true] [] 92
   [ve (iv ((numericsV v u).2.2)),ve (.bool (!decide (((numericsV v u).2.2)=0))),ve (.bool (!decide (((numericsV v u).2.2)=0)))] bD (.eq (.eq (.eq (.nil)))) ?_ ?_
 exact .m (fun k=>k.fx 10 bE)<| .t (fun _ w hn k=>⟨_,v_bin rfl (k.eq1 0 19 rfl) rfl (fun _=>rfl) (r_neq rfl),rfl⟩)<| .a (fun k=>k.eq1 1 20 rfl) .nil
 refine aftI bD d2 d1 fun fB fC bi bV bW ak au=>?_
 have d5:=au.fx 0 e6
 have d6:=au.fx 6 e7
 have bF:=au.fx 8 d3
 have d7:=au.fx 9 d4
 have fD:=au.fx 10 bE
 have d8:=au.ge 2 18 rfl
 have bX:=dZ.new_ ak
 have bj:=d0.new_ ak
 have bY:=dT.new_ ak
 have bZ:=dV.new_ ak
 have b0:=dW.new_ ak
 have b1:=dX.new_ ak
 have b2:=dY.new_ ak
 refine st_nil (bU _ _ ?_)
 have aW:((!decide (((numericsV v u).2.2)=0)))=false:=(nf (decide_eq_true (hns)))
 have b3:=hB d8 aW
 have aX:(decide (((numericsV v u).2.2)=0))=true:=nT aW
 have e8:=oT aX
 refine wp_cond_false b3 ?_
 refine wp_seq_k fun fE b4=>?_
 refine wp_g0 [true,true,true,true] [] 92
   [ve (pv a4),ve (iv ((numericsV v u).1.k)),ve (.bool (decide (((numericsV v u).1.k)=4))),ve (.bool (decide (((numericsV v u).1.k)=4)))] bi (.eq (.eq (.eq (.eq (.nil))))) ?_ ?_
 exact .f (fun k=>k.fx 8 bF)<| .t (fun _ w hn k=>⟨_,v_load rfl (k.eq1 0 24 rfl) (l_one Tryz.isAgg3 ((bj.new_ hn).cell 0)),rfl⟩)<| .t (fun _ w hn k=>⟨_,v_bin rfl (k.eq1 1 25 rfl) rfl (fun _=>rfl) (r_eql rfl),rfl⟩)<| .a (fun k=>k.eq1 2 26 rfl) .nil
 refine aftI bi bV bW fun fF fG bk b5 b6 al aw=>?_
 have d9:=aw.fx 0 d5
 have ea:=aw.fx 6 d6
 have eb:=aw.fx 8 bF
 have ec:=aw.fx 9 d7
 have ed:=aw.ge 3 23 rfl
 have b7:=bX.new_ al
 have b8:=bj.new_ al
 have b9:=bY.new_ al
 have ca:=bZ.new_ al
 have cb:=b0.new_ al
 have cc:=b1.new_ al
 have cd:=b2.new_ al
 refine st_nil (b4 _ _ ?_)
 have aY:(decide (((numericsV v u).1.k)=4))=false:=decide_eq_false (by omega)
 have e9:=oF aY
 have ce:=hB ed aY
 refine wp_cond_false ce ?_
 refine wp_skip ?_
 refine bT _ _ ?_
 refine wp_seq_k fun fH fa=>?_
 refine wp_seq_k fun fI cf=>?_
 refine wp_g0 [true] [] 92
   [ve (.string ⟨#[47]⟩)] bk (.eq (.nil)) ?_ ?_
 exact .m (fun k=>k.fx 0 d9) .nil
 refine aftI bk b5 b6 fun fJ fK bl ch ci am aA=>?_
 have ee:=aA.fx 6 ea
 have ef:=aA.fx 8 eb
 have eg:=aA.fx 9 ec
 have bG:=aA.ge 0 35 rfl
 have cj:=b7.new_ am
 have cl:=b8.new_ am
 have cm:=b9.new_ am
 have cn:=ca.new_ am
 have co:=cb.new_ am
 have cp:=cc.new_ am
 have cq:=cd.new_ am
 refine st_nil (cf _ _ ?_)
 refine wp_block ?_
 refine wp_seq_k fun fL cr=>?_
 refine wp_g0 [true,true] [] 92
   [vF,vF] bl (.eq (.eq (.nil))) ?_ ?_
 exact .t (fun _ w hn k=>⟨_,v_bin rfl (k.fx 35 bG) rfl (fun _=>rfl) (r_eqlS (r:=false) (by kernel_rfl)),rfl⟩)<| .a (fun k=>k.eq1 0 37 rfl) .nil
 refine aftI bl ch ci fun fM fN bm ct cw an ax=>?_
 have eh:=ax.fx 6 ee
 have ei:=ax.fx 8 ef
 have ej:=ax.fx 9 eg
 have bH:=ax.fx 35 bG
 have ek:=ax.ge 1 36 rfl
 have cx:=cj.new_ an
 have cy:=cl.new_ an
 have cz:=cm.new_ an
 have cA:=cn.new_ an
 have cB:=co.new_ an
 have cC:=cp.new_ an
 have cD:=cq.new_ an
 refine st_nil (cr _ _ ?_)
 refine wp_cond_false ek ?_
 refine wp_seq_k fun fO cE=>?_
 refine wp_g0 [true,true] [] 92
   [vF,vF] bm (.eq (.eq (.nil))) ?_ ?_
 exact .t (fun _ w hn k=>⟨_,v_bin rfl (k.fx 35 bH) rfl (fun _=>rfl) (r_eqlS (r:=false) (by kernel_rfl)),rfl⟩)<| .a (fun k=>k.eq1 0 49 rfl) .nil
 refine aftI bm ct cw fun fP fQ bn cF cG ao ay=>?_
 have el:=ay.fx 6 eh
 have em:=ay.fx 8 ei
 have en:=ay.fx 9 ej
 have bI:=ay.fx 35 bH
 have eo:=ay.ge 1 48 rfl
 have cH:=cx.new_ ao
 have cI:=cy.new_ ao
 have cJ:=cz.new_ ao
 have cK:=cA.new_ ao
 have cL:=cB.new_ ao
 have cM:=cC.new_ ao
 have cN:=cD.new_ ao
 refine st_nil (cE _ _ ?_)
 refine wp_cond_false eo ?_
 refine wp_seq_k fun fR cO=>?_
 refine wp_g0 [true,true] [] 92
   [vF,vF] bn (.eq (.eq (.nil))) ?_ ?_
 exact .t (fun _ w hn k=>⟨_,v_bin rfl (k.fx 35 bI) rfl (fun _=>rfl) (r_eqlS (r:=false) (by kernel_rfl)),rfl⟩)<| .a (fun k=>k.eq1 0 61 rfl) .nil
 refine aftI bn cF cG fun fS fT bo cP cQ ap az=>?_
 have ep:=az.fx 6 el
 have er:=az.fx 8 em
 have es:=az.fx 9 en
 have et:=az.fx 35 bI
 have eu:=az.ge 1 60 rfl
 have cR:=cH.new_ ap
 have cS:=cI.new_ ap
 have cT:=cJ.new_ ap
 have cU:=cK.new_ ap
 have cV:=cL.new_ ap
 have cW:=cM.new_ ap
 have cX:=cN.new_ ap
 refine st_nil (cO _ _ ?_)
 refine wp_cond_false eu ?_
 refine wp_seq_k fun fU cY=>?_
 refine wp_g0 [true,true] [] 92
   [vT,vT] bo (.eq (.eq (.nil))) ?_ ?_
 exact .t (fun _ w hn k=>⟨_,v_bin rfl (k.fx 35 et) rfl (fun _=>rfl) (r_eqlS (r:=true) (by kernel_rfl)),rfl⟩)<| .a (fun k=>k.eq1 0 73 rfl) .nil
 refine aftI bo cP cQ fun fV fW bp cZ c0 aq aB=>?_
 have ev:=aB.fx 6 ep
 have ew:=aB.fx 8 er
 have ex:=aB.fx 9 es
 have ey:=aB.ge 1 72 rfl
 have c1:=cR.new_ aq
 have c3:=cS.new_ aq
 have c5:=cT.new_ aq
 have fb:=cU.new_ aq
 have fc:=cV.new_ aq
 have fd:=cW.new_ aq
 have fe:=cX.new_ aq
 refine st_nil (cY _ _ ?_)
 refine wp_cond_true ey ?_
 refine wp_seq_k fun fX c9=>?_
 refine wp_g0 [true,true,true,true,true,true,true,true,true,true,false,false] [(10,false),(11,true)] 92
   [ve (.pointer (some ⟨a4,1,none⟩)),ve (nv (Nm.mk ((numericsV v u).1.nk) ((numericsV v u).1.nn))),ve (.pointer (some ⟨bh,1,none⟩)),ve (nv (Nm.mk ((numericsV v u).2.1.nk) ((numericsV v u).2.1.nn))),ve (.tuple #[nv (Nm.mk 2 0),.bool false]),ve (nv (Nm.mk 2 0)),vF,ve (.tuple #[vv (Vl.mk (numberedV (Nm.mk 2 0) false).1 (numberedV (Nm.mk 2 0) false).2.1.k (numberedV (Nm.mk 2 0) false).2.1.n false [] [] 0) none 0 none 0,iv ((numberedV (Nm.mk 2 0) false).2.2)]),ve (vv (Vl.mk (numberedV (Nm.mk 2 0) false).1 (numberedV (Nm.mk 2 0) false).2.1.k (numberedV (Nm.mk 2 0) false).2.1.n false [] [] 0) none 0 none 0),ve (iv ((numberedV (Nm.mk 2 0) false).2.2)),vt,vt] bp (.eq (.eq (.eq (.eq (.eq (.eq (.eq (.eq (.eq (.eq (.tt (.tt (.nil))))))))))))) ?_ ?_
 exact .f (fun k=>k.fx 8 ew)<| .t (fun _ w hn k=>⟨_,v_load rfl (k.eq1 0 74 rfl) (l_part Tryz.isAgg23 Tryz.sizeOf23 (c3.new_ hn) lb),rfl⟩)<| .f (fun k=>k.fx 9 ex)<| .t (fun _ w hn k=>⟨_,v_load rfl (k.eq1 2 76 rfl) (l_part Tryz.isAgg23 Tryz.sizeOf23 (c5.new_ hn) lb),rfl⟩)<| .o1 (ck rfl rfl rfl (fun _ w hn k=>⟨#[nv (Nm.mk ((numericsV v u).1.nk) ((numericsV v u).1.nn)),nv (Nm.mk ((numericsV v u).2.1.nk) ((numericsV v u).2.1.nn))],args2 (k.eq1 1 75 rfl) (k.eq1 3 77 rfl),fun _=>by kernel_rfl,ndivS_c (Nm.mk ((numericsV v u).1.nk) ((numericsV v u).1.nn)) (Nm.mk ((numericsV v u).2.1.nk) ((numericsV v u).2.1.nn)) _ hX hY⟩) fun _=>rfl)<| .t (fun _ w hn k=>⟨_,v_extract rfl (k.eq1 4 78 rfl) rfl,rfl⟩)<| .t (fun _ w hn k=>⟨_,v_extract rfl (k.eq1 4 78 rfl) rfl,rfl⟩)<| .o1 (ck rfl rfl rfl (fun _ w hn k=>⟨#[nv (Nm.mk 2 0),.bool false],args2 (k.eq1 5 79 rfl) (k.eq1 6 80 rfl),fun _=>by kernel_rfl,numbered_c (Nm.mk 2 0) false _ ⟩) fun _=>rfl)<| .t (fun _ w hn k=>⟨_,v_extract rfl (k.eq1 7 81 rfl) rfl,rfl⟩)<| .t (fun _ w hn k=>⟨_,v_extract rfl (k.eq1 7 81 rfl) rfl,rfl⟩)<| .off<| .off .nil
 refine aftI bp cZ c0 fun bJ fY bq da db dc aZ=>?_
 have bK:=aZ.fx 6 ev
 have bL:=aZ.ge 8 82 rfl
 have bM:=aZ.ge 9 83 rfl
 have dd:=c1.new_ dc
 obtain⟨ez,bN,bO,de,ff⟩:=s_many (P:=Tryz.prog) (t:=29) (i:=0) [iv ((numberedV (Nm.mk 2 0) false).1),iv ((numberedV (Nm.mk 2 0) false).2.1.k),iv ((numberedV (Nm.mk 2 0) false).2.1.n),.bool false,sv none ([]) 0,sv none ([]) 0,iv 0] Tryz.sizeOf29 rfl rfl rfl dd lb
 have df:Blk ez a1 29 [iv ((numberedV (Nm.mk 2 0) false).1),iv ((numberedV (Nm.mk 2 0) false).2.1.k),iv ((numberedV (Nm.mk 2 0) false).2.1.n),.bool false,sv none ([]) 0,sv none ([]) 0,iv 0]:=bO
 refine st_act rfl rfl fun fZ dg=>a_store' rfl bK bL bN (dg _ _ trivial ?_)
 have dh:=db.trans de (fun _ h b=>by subst b; omega)
 refine st_take rfl rfl (y_assign (v:=iv ((numberedV (Nm.mk 2 0) false).2.2)) rfl bM) rfl ?_
 obtain⟨eA,ar⟩:∃ a',a'=bJ.put (some 7) (iv ((numberedV (Nm.mk 2 0) false).2.2)):=⟨_,rfl⟩
 have fg:=pz ar bq
 have di:=pd ar da
 have eB:=pn ar bK (by decide)
 have f0:=pn ar bL (by decide)
 have f1:=pn ar bM (by decide)
 have eC:eA.eval (.tmp 7)=iv ((numberedV (Nm.mk 2 0) false).2.2):=by rw [ar]; exact put_same _ _ _ (by rw [bq]; decide)
 show stepsTo _ _ _ _ _ (bJ.put (some 7) (iv ((numberedV (Nm.mk 2 0) false).2.2))) _
 rw [← ar]
 refine st_nil (c9 _ _ ?_)
 refine wp_ret (ret_k di (v:=.tuple #[vv (Vl.mk (numberedV (Nm.mk 2 0) false).1 (numberedV (Nm.mk 2 0) false).2.1.k (numberedV (Nm.mk 2 0) false).2.1.n false [] [] 0) none 0 none 0,iv ((numberedV (Nm.mk 2 0) false).2.2)]) (res_ct rfl eB eC (l_agg Tryz.isAgg29 Tryz.sizeOf29 df rfl)) ?_)
 refine ⟨?_,dh⟩
 show Ending.returned (.tuple #[vv (Vl.mk (numberedV (Nm.mk 2 0) false).1 (numberedV (Nm.mk 2 0) false).2.1.k (numberedV (Nm.mk 2 0) false).2.1.n false [] [] 0) none 0 none 0,iv ((numberedV (Nm.mk 2 0) false).2.2)])=Ending.returned (.tuple #[vv (Vl.mk 0 0 0 false [] [] 0) none 0 none 0,iv 3])
 first|rfl|(simp only [aW,aX,aX,aY,bsm] <;> rfl)|(exfalso; omega)
theorem bDiv0_c (a:Bool) (Aa:Option Addr) (ma:List Nat) (ca:Nat) (b:Bool) (Ab:Option Addr) (mb:List Nat) (cb:Nat) (w:World) (hra:SRow w .u32 Aa ma ca) (hrb:SRow w .u32 Ab mb cb) (ha:Limbs ma) (hb:Limbs mb) (hsa:ma.length≤1000000) (hsb:mb.length≤1000000) (aQ:goodI b mb=0):Calls Tryz.prog 144 #[.agg #[.bool a,sv Aa ma ca],.agg #[.bool b,sv Ab mb cb]] w (IsRet (.tuple #[.agg #[.bool false,sv none ([]) 0],iv 4]) w):=by
 refine enter_abs Tryz.func144 rfl fun a0 ae aR hp=>?_
 have ae:a0.tmps.size=28:=ae
 have af:New w w:=Upd.refl _ _
 have hp0:a0.eval (.tmp 0)=.agg #[.bool a,sv Aa ma ca]:=hp 0 _ rfl
 have hp1:a0.eval (.tmp 1)=.agg #[.bool b,sv Ab mb cb]:=hp 1 _ rfl
 refine wp_seq_k fun K1 aS=>?_
 refine wp_g [true,true,true,true] [] [] 28
   [IsNew w 26 [.bool a,sv Aa ma ca],IsNew w 26 [.bool b,sv Ab mb cb],IsNew w 26 [.bool false,sv none ([]) 0],ve (iv 0)]
   [0,1,2] (newsCons (fun v w h=>IsNew.old h) (newsCons (fun v w h=>IsNew.old h) (newsCons (fun v w h=>IsNew.old h) newsNil))) ae (.nw (.nw (.nw (.eq (.nil))))) ?_ (fun i h=>by cases h) ?_
 exact .o2 (step_allocN (cs:=[.bool a,sv Aa ma ca]) (t:=26) rfl (noG rfl) (fun _ w hn k=>v_box rfl (k.fx 0 hp0) (fun w=>rfl)) (fun q _ hq hb=>⟨q,rfl,hq,hb⟩))<| .o2 (step_allocN (cs:=[.bool b,sv Ab mb cb]) (t:=26) rfl (noG rfl) (fun _ w hn k=>v_box rfl (k.fx 1 hp1) (fun w=>rfl)) (fun q _ hq hb=>⟨q,rfl,hq,hb⟩))<| .o2 (step_allocN (cs:=[.bool false,sv none ([]) 0]) (t:=26) rfl (noG rfl) (fun _ w hn k=>rfl) (fun q _ hq hb=>⟨q,rfl,hq,hb⟩))<| .t (fun _ w hn k=>⟨_,v_assign rfl rfl,rfl⟩) .nil
 refine aftI ae aR af fun a2 w3 ap aT ag bb ac=>?_
 obtain⟨q9,h8,aw,ax⟩:=ac.G 0 2
 obtain⟨aU,ah,ay,ai⟩:=ac.G 1 3
 obtain⟨aq,aj,az,aA⟩:=ac.G 2 4
 have hne20:q9 ≠ aq:=ac.ne 0 2 2 4 h8 aj
 have hne21:aU ≠ aq:=ac.ne 1 2 3 4 ah aj
 have a3:=Nat.le_trans af.size aw
 have a4:=Nat.le_trans af.size ay
 have a5:=Nat.le_trans af.size az
 refine st_nil (aS _ _ (wp_seq_k fun bd a6=>?_))
 refine wp_seq_k fun be aB=>?_
 refine wp_g0 [true,true,true,true] [] 28
   [ve (.agg #[.bool b,sv Ab mb cb]),
    (OP w3.heap.size 56 .u32 (canon (goodI b mb).natAbs)),ve (iv ((canon (goodI b mb).natAbs).length:Int)),ve (.bool (decide (((canon (goodI b mb).natAbs).length:Int)=0)))] ap (.eq (.cons (fun _ _ _ n ⟨_,_,e,h⟩=>⟨_,_,e,h.new_ n⟩) (.eq (.eq (.nil))))) ?_ ?_
 refine .t (fun _ w hn k=>⟨_,v_load rfl (k.fx 3 ah) (l_two Tryz.isAgg26 Tryz.sizeOf26 (ai.new_ hn)),rfl⟩) ?_
 refine .o1 (tkC rfl (noG rfl) rfl fun _ w hn k=>(by
       refine ⟨#[.agg #[.bool b,sv Ab mb cb]],_,args1 (k.eq1 0 8 rfl),fun w=>by kernel_rfl,bmag_c b _ mb _ _ (hrb.new_ (ag.transNew hn)) hb (by first|omega|(simp only [List.length_nil,List.length_take,List.length_drop]; omega)|(simp only [List.length_cons,List.length_nil]; omega)),?_⟩
       rintro e w' ⟨A1,c2,rfl,hmo0,hm⟩
       exact⟨_,rfl,hm,⟨A1,c2,rfl,(hmo0.more hn.size)⟩⟩)) ?_
 refine .o1 (tk rfl rfl fun _ w hn k=>(by
       obtain⟨A5,c6,e7,bf⟩:(OP w3.heap.size 56 .u32 (canon (goodI b mb).natAbs)) _ _:=k.dep 1 9 (by kernel_rfl) (by kernel_rfl)
       exact⟨_,v_lenR rfl elW e7,rfl⟩)) ?_
 exact .t (fun _ w hn k=>⟨_,v_bin rfl (k.eq1 2 10 rfl) rfl (fun _=>rfl) (r_eql rfl),rfl⟩) .nil
 refine aftI ap aT ag fun bg bh ak aC aD ad ab=>?_
 have bi:=ab.fx 2 h8
 have bj:=ab.fx 3 ah
 have aV:=ab.fx 4 aj
 have aW:=ab.ge 3 11 rfl
 have a7:=ax.new_ ad
 have a8:=ai.new_ ad
 have aE:=aA.new_ ad
 refine st_nil (aB _ _ ?_)
 have al:(decide (((canon (goodI b mb).natAbs).length:Int)=0))=true:=decide_eq_true (by rw [aQ,Int.natAbs_zero,canon_zero]; rfl)
 have a1:=oT al
 have aF:=hB aW al
 refine wp_cond_true aF ?_
 refine wp_seq_k fun bk aG=>?_
 refine wp_g0 [true,false,false] [(1,false),(2,true)] 28
   [ve (.agg #[.bool false,sv none ([]) 0]),vt,vt] ak (.eq (.tt (.tt (.nil)))) ?_ ?_
 exact .t (fun _ w hn k=>⟨_,v_build (ps:=[]) rfl parts0 (by kernel_rfl),rfl⟩)<| .off<| .off .nil
 refine aftI ak aC aD fun ar bl am aH aI aJ an=>?_
 have au:=an.fx 4 aV
 have av:=an.ge 0 12 rfl
 have aK:=aE.new_ aJ
 obtain⟨bm,-,ao,aL,aM,a9⟩:=s_two (v0:=.bool false) (v1:=sv none ([]) 0) Tryz.sizeOf26 rfl rfl rfl aK
 refine st_act rfl rfl fun bn aN=>a_store' rfl au av ao (aN _ _ trivial ?_)
 have aO:=aI.trans aM (fun _ h b=>by subst b; omega)
 refine st_take rfl rfl (y_assign (v:=iv 4) rfl rfl) rfl ?_
 obtain⟨aX,aa⟩:∃ a',a'=ar.put (some 5) (iv 4):=⟨_,rfl⟩
 have ba:=pz aa am
 have aP:=pd aa aH
 have aY:=pn aa au (by decide)
 have bo:=pn aa av (by decide)
 have aZ:aX.eval (.tmp 5)=iv 4:=by rw [aa]; exact put_same _ _ _ (by rw [am]; decide)
 show stepsTo _ _ _ _ _ (ar.put (some 5) (iv 4)) _
 rw [← aa]
 refine st_nil (aG _ _ ?_)
 refine wp_ret (ret_k aP (v:=.tuple #[.agg #[.bool false,sv none ([]) 0],iv 4]) (res_ct rfl aY aZ (l_two Tryz.isAgg26 Tryz.sizeOf26 aL)) ?_)
 exact⟨rfl,aO⟩
theorem bigsD0_c  (a:Bool) (Aa:Option Addr) (ma:List Nat) (ca:Nat) (b:Bool) (Ab:Option Addr) (mb:List Nat) (cb:Nat) (w:World) (hra:SRow w .u32 Aa ma ca) (hrb:SRow w .u32 Ab mb cb) (ha:Limbs ma) (hb:Limbs mb) (hsa:ma.length≤1000000) (hsb:mb.length≤1000000) (cB:goodI b mb=0):Calls Tryz.prog 75 #[.string ⟨#[47]⟩,.agg #[.bool a,sv Aa ma ca],.agg #[.bool b,sv Ab mb cb]] w (IsRet (.tuple #[vv (Vl.mk 0 0 0 false [] [] 0) none 0 none 0,iv 2]) w):=by
 refine enter_abs Tryz.func75 rfl fun a0 ay cC hp=>?_
 have ay:a0.tmps.size=60:=ay
 have az:New w w:=Upd.refl _ _
 have hp0:a0.eval (.tmp 0)=.string ⟨#[47]⟩:=hp 0 _ rfl
 have hp1:a0.eval (.tmp 1)=.agg #[.bool a,sv Aa ma ca]:=hp 1 _ rfl
 have hp2:a0.eval (.tmp 2)=.agg #[.bool b,sv Ab mb cb]:=hp 2 _ rfl
 refine wp_seq_k fun K1 cD=>?_
 refine wp_g [true,true,true,true] [] [] 60
   [IsNew w 26 [.bool a,sv Aa ma ca],IsNew w 26 [.bool b,sv Ab mb cb],IsNew w 29 z7,ve (iv 0)]
   [0,1,2] (newsCons (fun v w h=>IsNew.old h) (newsCons (fun v w h=>IsNew.old h) (newsCons (fun v w h=>IsNew.old h) newsNil))) ay (.nw (.nw (.nw (.eq (.nil))))) ?_ (fun i h=>by cases h) ?_
 exact .o2 (step_allocN (cs:=[.bool a,sv Aa ma ca]) (t:=26) rfl (noG rfl) (fun _ w hn k=>v_box rfl (k.fx 1 hp1) (fun w=>rfl)) (fun q _ hq hb=>⟨q,rfl,hq,hb⟩))<| .o2 (step_allocN (cs:=[.bool b,sv Ab mb cb]) (t:=26) rfl (noG rfl) (fun _ w hn k=>v_box rfl (k.fx 2 hp2) (fun w=>rfl)) (fun q _ hq hb=>⟨q,rfl,hq,hb⟩))<| .o2 (step_allocN (cs:=z7) (t:=29) rfl (noG rfl) (fun _ w hn k=>rfl) (fun q _ hq hb=>⟨q,rfl,hq,hb⟩))<| .t (fun _ w hn k=>⟨_,v_assign rfl rfl,rfl⟩) .nil
 refine aftI ay cC az fun a2 w3 bz cE bI dt ak=>?_
 have h8:=ak.fx 0 hp0
 obtain⟨bA,h9,bJ,bK⟩:=ak.G 0 4
 obtain⟨bB,bC,bL,bM⟩:=ak.G 1 5
 obtain⟨aA,aH,bN,bO⟩:=ak.G 2 6
 have hne21:bA ≠ aA:=ak.ne 0 2 4 6 h9 aH
 have hne22:bB ≠ aA:=ak.ne 1 2 5 6 bC aH
 have c5:=Nat.le_trans az.size bJ
 have c6:=Nat.le_trans az.size bL
 have c8:=Nat.le_trans az.size bN
 refine st_nil (cD _ _ (wp_seq_k fun du bP=>?_))
 refine wp_seq_k fun dv bQ=>?_
 refine wp_g0 [true] [] 60
   [ve (.string ⟨#[47]⟩)] bz (.eq (.nil)) ?_ ?_
 exact .m (fun k=>k.fx 0 h8) .nil
 refine aftI bz cE bI fun dw dx aI bR bS ao ai=>?_
 have cF:=ai.fx 0 h8
 have cG:=ai.fx 4 h9
 have cH:=ai.fx 5 bC
 have cI:=ai.fx 6 aH
 have bD:=ai.ge 0 10 rfl
 have bT:=bK.new_ ao
 have bU:=bM.new_ ao
 have bV:=bO.new_ ao
 refine st_nil (bQ _ _ ?_)
 refine wp_block ?_
 refine wp_seq_k fun dy bW=>?_
 refine wp_g0 [true,true] [] 60
   [vF,vF] aI (.eq (.eq (.nil))) ?_ ?_
 exact .t (fun _ w hn k=>⟨_,v_bin rfl (k.fx 10 bD) rfl (fun _=>rfl) (r_eqlS (r:=false) (by kernel_rfl)),rfl⟩)<| .a (fun k=>k.eq1 0 12 rfl) .nil
 refine aftI aI bR bS fun dz dA aJ bX bY ap ae=>?_
 have cJ:=ae.fx 0 cF
 have cK:=ae.fx 4 cG
 have cL:=ae.fx 5 cH
 have cM:=ae.fx 6 cI
 have bE:=ae.fx 10 bD
 have cN:=ae.ge 1 11 rfl
 have bZ:=bT.new_ ap
 have b0:=bU.new_ ap
 have b1:=bV.new_ ap
 refine st_nil (bW _ _ ?_)
 refine wp_cond_false cN ?_
 refine wp_seq_k fun dB b2=>?_
 refine wp_g0 [true,true] [] 60
   [vF,vF] aJ (.eq (.eq (.nil))) ?_ ?_
 exact .t (fun _ w hn k=>⟨_,v_bin rfl (k.fx 10 bE) rfl (fun _=>rfl) (r_eqlS (r:=false) (by kernel_rfl)),rfl⟩)<| .a (fun k=>k.eq1 0 22 rfl) .nil
 refine aftI aJ bX bY fun dC dD aK b3 b4 aq af=>?_
 have cO:=af.fx 0 cJ
 have cP:=af.fx 4 cK
 have cQ:=af.fx 5 cL
 have cR:=af.fx 6 cM
 have cS:=af.fx 10 bE
 have cT:=af.ge 1 21 rfl
 have b5:=bZ.new_ aq
 have b6:=b0.new_ aq
 have b7:=b1.new_ aq
 refine st_nil (b2 _ _ ?_)
 refine wp_cond_false cT ?_
 refine wp_seq_k fun dE b8=>?_
 refine wp_g0 [true,true] [] 60
   [vF,vF] aK (.eq (.eq (.nil))) ?_ ?_
 exact .t (fun _ w hn k=>⟨_,v_bin rfl (k.fx 10 cS) rfl (fun _=>rfl) (r_eqlS (r:=false) (by kernel_rfl)),rfl⟩)<| .a (fun k=>k.eq1 0 32 rfl) .nil
 refine aftI aK b3 b4 fun dF cU aL b9 al ar aj=>?_
 have cV:=aj.fx 0 cO
 have bF:=aj.fx 4 cP
 have bG:=aj.fx 5 cQ
 have cW:=aj.fx 6 cR
 have cX:=aj.ge 1 31 rfl
 have au:=b5.new_ ar
 have av:=b6.new_ ar
 have aM:=b7.new_ ar
 refine st_nil (b8 _ _ ?_)
 refine wp_cond_false cX ?_
 refine wp_skip ?_
 refine bP _ _ ?_
 refine wp_seq_k fun dG cc=>?_
 refine wp_g [true,true,true,true,true,true,true,false,false] [5] [(7,false),(8,true)] 60
   [ve (.agg #[.bool a,sv Aa ma ca]),ve (.agg #[.bool b,sv Ab mb cb]),ve (.tuple #[.agg #[.bool false,sv none ([]) 0],iv 4]),ve (.tuple #[.agg #[.bool false,sv none ([]) 0],iv 4]),ve (.agg #[.bool false,sv none ([]) 0]),ve (iv 4),IsNew cU 26 [.bool false,sv none ([]) 0],vt,vt]
   [6] (newsCons (fun v w h=>IsNew.old h) newsNil) aL (.eq (.eq (.eq (.eq (.eq (.eq (.nw (.tt (.tt (.nil)))))))))) ?_ ?_ ?_
 refine .t (fun _ w hn k=>⟨_,v_load rfl (k.fx 4 bF) (l_two Tryz.isAgg26 Tryz.sizeOf26 (au.new_ hn)),rfl⟩)<| .t (fun _ w hn k=>⟨_,v_load rfl (k.fx 5 bG) (l_two Tryz.isAgg26 Tryz.sizeOf26 (av.new_ hn)),rfl⟩)<| .o1 (ck rfl rfl rfl (fun _ w hn k=>⟨#[.agg #[.bool a,sv Aa ma ca],.agg #[.bool b,sv Ab mb cb]],args2 (k.eq1 0 42 rfl) (k.eq1 1 43 rfl),fun _=>by kernel_rfl,bDiv0_c a _ ma _ b _ mb _ _ (hra.new_ (al.transNew hn)) (hrb.new_ (al.transNew hn)) ha hb (by first|omega|(simp only [List.length_nil,List.length_take,List.length_drop]; omega)|(simp only [List.length_cons,List.length_nil]; omega)) (by first|omega|(simp only [List.length_nil,List.length_take,List.length_drop]; omega)|(simp only [List.length_cons,List.length_nil]; omega)) cB⟩) fun _=>rfl)<| .m (fun k=>k.eq1 2 44 rfl)<| .t (fun _ w hn k=>⟨_,v_extract rfl (k.eq1 3 41 rfl) rfl,rfl⟩) ?_
 refine .o3 ?_
 exact .o2 (step_allocN (cs:=[.bool false,sv none ([]) 0]) (t:=26) rfl (noG rfl) (fun _ w hn k=>rfl) (fun q _ hq hb=>⟨q,rfl,hq,hb⟩))<| .off<| .off .nil
 intro i h
 simp only [List.contains_eq_mem,List.mem_cons,List.not_mem_nil,or_false,decide_eq_true_eq] at h
 subst h
 exact eager_take rfl rfl fun _ w hn k=>⟨iv 4,fun w=>v_extract rfl (k.eq1 3 41 rfl) rfl,rfl⟩
 refine aftI aL b9 al fun bH dH aN aX aY aw ad=>?_
 have cd:=ad.fx 0 cV
 have ce:=ad.fx 4 bF
 have cf:=ad.fx 5 bG
 have ch:=ad.fx 6 cW
 have aO:=ad.ge 4 45 rfl
 have aP:=ad.ge 5 46 rfl
 obtain⟨ax,aQ,ag,aZ⟩:=ad.G 6 8
 have a1:=au.new_ aw
 have a3:=av.new_ aw
 have a4:=aM.new_ aw
 have hne114:bA ≠ ax:=by have h1:=au.lt; have h2:=ag; omega
 have hne115:bB ≠ ax:=by have h1:=av.lt; have h2:=ag; omega
 have hne116:aA ≠ ax:=by have h1:=aM.lt; have h2:=ag; omega
 have cY:=Nat.le_trans al.size ag
 obtain⟨c9,-,aR,a5,a6,am⟩:=s_two (v0:=.bool false) (v1:=sv none ([]) 0) Tryz.sizeOf26 rfl rfl rfl aZ
 refine st_act rfl rfl fun da a7=>a_store' rfl aQ aO aR (a7 _ _ trivial ?_)
 have a8:=am _ _ _ (hne114) a1
 have a9:=am _ _ _ (hne115) a3
 have ba:=am _ _ _ (hne116) a4
 have bb:=aY.trans a6 (fun _ h b=>by subst b; omega)
 refine st_take rfl rfl (y_assign (v:=iv 4) rfl aP) rfl ?_
 obtain⟨ci,aa⟩:∃ a',a'=bH.put (some 9) (iv 4):=⟨_,rfl⟩
 have aB:=pz aa aN
 have bd:=pd aa aX
 have cj:=pn aa cd (by decide)
 have cl:=pn aa ce (by decide)
 have cm:=pn aa cf (by decide)
 have cn:=pn aa ch (by decide)
 have db:=pn aa aO (by decide)
 have dc:=pn aa aP (by decide)
 have co:=pn aa aQ (by decide)
 have cp:ci.eval (.tmp 9)=iv 4:=by rw [aa]; exact put_same _ _ _ (by rw [aN]; decide)
 show stepsTo _ _ _ _ _ (bH.put (some 9) (iv 4)) _
 rw [← aa]
 refine st_nil (cc _ _ (wp_seq_k fun dd be=>?_))
 refine wp_seq_k fun de bf=>?_
 refine wp_g0 [true,true] [] 60
   [ve (.string ⟨#[47]⟩),vF] aB (.eq (.eq (.nil))) ?_ ?_
 exact .m (fun k=>k.fx 0 cj)<| .t (fun _ w hn k=>⟨_,v_bin rfl (k.eq1 0 47 rfl) rfl (fun _=>rfl) (r_eqlS (r:=false) (by kernel_rfl)),rfl⟩) .nil
 refine aftI aB bd bb fun df dg aC bg bh ah ab=>?_
 have dh:=ab.fx 4 cl
 have di:=ab.fx 5 cm
 have cq:=ab.fx 6 cn
 have cr:=ab.fx 8 co
 have ct:=ab.fx 9 cp
 have cu:=ab.ge 1 48 rfl
 have cZ:=a8.new_ ah
 have c0:=a9.new_ ah
 have bi:=ba.new_ ah
 have bj:=a5.new_ ah
 refine st_nil (bf _ _ ?_)
 refine wp_cond_false cu ?_
 refine wp_skip ?_
 refine be _ _ ?_
 refine wp_seq_k fun dj c1=>?_
 refine wp_seq_k fun dk bk=>?_
 refine wp_g0 [true,true] [] 60
   [ve (iv 4),vT] aC (.eq (.eq (.nil))) ?_ ?_
 exact .m (fun k=>k.fx 9 ct)<| .t (fun _ w hn k=>⟨_,v_bin rfl (k.eq1 0 55 rfl) rfl (fun _=>rfl) (fun w=>by kernel_rfl),rfl⟩) .nil
 refine aftI aC bg bh fun dl dm aD bl bm aE an=>?_
 have cv:=an.fx 6 cq
 have dn:=an.fx 8 cr
 have cw:=an.ge 1 56 rfl
 have bn:=bi.new_ aE
 have c2:=bj.new_ aE
 refine st_nil (bk _ _ ?_)
 refine wp_cond_true cw ?_
 refine wp_seq_k fun dp bo=>?_
 refine wp_g0 [true,false,false] [(1,false),(2,true)] 60
   [ve (vv (Vl.mk 0 0 0 false [] [] 0) none 0 none 0),vt,vt] aD (.eq (.tt (.tt (.nil)))) ?_ ?_
 exact .t (fun _ w hn k=>⟨_,v_build (ps:=[]) rfl parts0 (by kernel_rfl),rfl⟩)<| .off<| .off .nil
 refine aftI aD bl bm fun aS dq aF bp bq br aG=>?_
 have aT:=aG.fx 6 cv
 have aU:=aG.ge 0 57 rfl
 have bs:=bn.new_ br
 obtain⟨cx,aV,aW,bt,c3⟩:=s_many (P:=Tryz.prog) (t:=29) (i:=0) z7 Tryz.sizeOf29 rfl rfl rfl bs lb
 have bu:Blk cx aA 29 z7:=aW
 refine st_act rfl rfl fun dr bv=>a_store' rfl aT aU aV (bv _ _ trivial ?_)
 have bw:=bq.trans bt (fun _ h b=>by subst b; omega)
 refine st_take rfl rfl (y_assign (v:=iv 2) rfl rfl) rfl ?_
 obtain⟨cy,ac⟩:∃ a',a'=aS.put (some 7) (iv 2):=⟨_,rfl⟩
 have c4:=pz ac aF
 have bx:=pd ac bp
 have cz:=pn ac aT (by decide)
 have ds:=pn ac aU (by decide)
 have cA:cy.eval (.tmp 7)=iv 2:=by rw [ac]; exact put_same _ _ _ (by rw [aF]; decide)
 show stepsTo _ _ _ _ _ (aS.put (some 7) (iv 2)) _
 rw [← ac]
 refine st_nil (bo _ _ ?_)
 refine wp_ret (ret_k bx (v:=.tuple #[vv (Vl.mk 0 0 0 false [] [] 0) none 0 none 0,iv 2]) (res_ct rfl cz cA (l_agg Tryz.isAgg29 Tryz.sizeOf29 bu rfl)) ?_)
 exact⟨rfl,bw⟩
theorem sumsB_c  (v:Vl) (Av:Option Addr) (cv:Nat) (Bv:Option Addr) (dv:Nat) (u:Vl) (Au:Option Addr) (cu:Nat) (Bu:Option Addr) (du:Nat) (w:World) (hmv:SRow w .u32 Av v.mag cv) (hsv:SRow w .u16 Bv v.s dv) (hmu:SRow w .u32 Au u.mag cu) (hsu:SRow w .u16 Bu u.s du) (hvv:VOk v) (hvu:VOk u) (hns:(numericsV v u).2.2=0) (hk:(numericsV v u).1.k=4) (da:goodI (numericsV v u).2.1.neg (numericsV v u).2.1.mag=0):Calls Tryz.prog 36 #[.string ⟨#[47]⟩,vv v Av cv Bv dv,vv u Au cu Bu du] w (IsRet (.tuple #[vv (Vl.mk 0 0 0 false [] [] 0) none 0 none 0,iv 2]) w):=by
 refine enter_abs Tryz.func36 rfl fun a0 aX db hp=>?_
 have aX:a0.tmps.size=92:=aX
 have aY:New w w:=Upd.refl _ _
 have hp0:a0.eval (.tmp 0)=.string ⟨#[47]⟩:=hp 0 _ rfl
 have hp1:a0.eval (.tmp 1)=vv v Av cv Bv dv:=hp 1 _ rfl
 have hp2:a0.eval (.tmp 2)=vv u Au cu Bu du:=hp 2 _ rfl
 have ej:=(VOk.numerics1 hvv hvu).mlen
 have ek:=(VOk.numerics2 hvv hvu).mlen
 refine wp_seq_k fun K1 dc=>?_
 refine wp_g [true,true,true,true] [] [] 92
   [IsNew w 29 (c7 v Av cv Bv dv),IsNew w 29 (c7 u Au cu Bu du),IsNew w 29 z7,ve (iv 0)]
   [0,1,2] (newsCons (fun v w h=>IsNew.old h) (newsCons (fun v w h=>IsNew.old h) (newsCons (fun v w h=>IsNew.old h) newsNil))) aX (.nw (.nw (.nw (.eq (.nil))))) ?_ (fun i h=>by cases h) ?_
 exact .o2 (step_allocN (cs:=(c7 v Av cv Bv dv)) (t:=29) rfl (noG rfl) (fun _ w hn k=>v_box rfl (k.fx 1 hp1) (fun w=>rfl)) (fun q _ hq hb=>⟨q,rfl,hq,hb⟩))<| .o2 (step_allocN (cs:=(c7 u Au cu Bu du)) (t:=29) rfl (noG rfl) (fun _ w hn k=>v_box rfl (k.fx 2 hp2) (fun w=>rfl)) (fun q _ hq hb=>⟨q,rfl,hq,hb⟩))<| .o2 (step_allocN (cs:=z7) (t:=29) rfl (noG rfl) (fun _ w hn k=>rfl) (fun q _ hq hb=>⟨q,rfl,hq,hb⟩))<| .t (fun _ w hn k=>⟨_,v_assign rfl rfl,rfl⟩) .nil
 refine aftI aX db aY fun a2 w3 b4 dd ao el aN=>?_
 have h8:=aN.fx 0 hp0
 obtain⟨de,h9,b7,b8⟩:=aN.G 0 4
 obtain⟨df,b5,b9,ca⟩:=aN.G 1 5
 obtain⟨aQ,bb,cb,aU⟩:=aN.G 2 6
 have hne21:de ≠ aQ:=aN.ne 0 2 4 6 h9 bb
 have hne22:df ≠ aQ:=aN.ne 1 2 5 6 b5 bb
 have dQ:=Nat.le_trans aY.size b7
 have dR:=Nat.le_trans aY.size b9
 have dS:=Nat.le_trans aY.size cb
 refine st_nil (dc _ _ (wp_seq_k fun em cc=>?_))
 refine wp_gS (fun W=>True) (fun W W' hn h=>trivial) trivial [true,true,true,true,true,true,true,true,true,false,false,false] [5,6] [(9,false),(10,false),(11,true)] 92
   [ve (vv v Av cv Bv dv),ve (vv u Au cu Bu du),(TQ (numericsV v u).1 (numericsV v u).2.1 ((numericsV v u).2.2)),(TQ (numericsV v u).1 (numericsV v u).2.1 ((numericsV v u).2.2)),(fun (v_:Value) (W:World)=>∃ (az:Option Addr) (aA:Nat) (aB:Option Addr) (aC:Nat),v_=vv (numericsV v u).1 az aA aB aC∧SRow W .u32 az ((numericsV v u).1.mag) aA∧SRow W .u16 aB ((numericsV v u).1.s) aC),(fun (v_:Value) (W:World)=>∃ (aD:Option Addr) (aE:Nat) (aF:Option Addr) (aG:Nat),v_=vv (numericsV v u).2.1 aD aE aF aG∧SRow W .u32 aD ((numericsV v u).2.1.mag) aE∧SRow W .u16 aF ((numericsV v u).2.1.s) aG),ve (iv ((numericsV v u).2.2)),IsNew w3 29 z7,IsNew w3 29 z7,vt,vt,vt]
   [7,8] (newsCons (fun v w h=>IsNew.old h) (newsCons (fun v w h=>IsNew.old h) newsNil)) b4 (.eq (.eq (.cons (fun _ _ _ n ⟨_,_,_,_,_,_,_,_,e,h,i,j,l⟩=>⟨_,_,_,_,_,_,_,_,e,h.new_ n,i.new_ n,j.new_ n,l.new_ n⟩) (.cons (fun _ _ _ n ⟨_,_,_,_,_,_,_,_,e,h,i,j,l⟩=>⟨_,_,_,_,_,_,_,_,e,h.new_ n,i.new_ n,j.new_ n,l.new_ n⟩) (.cons (fun _ _ _ n ⟨_,_,_,_,e,h,i⟩=>⟨_,_,_,_,e,h.new_ n,i.new_ n⟩) (.cons (fun _ _ _ n ⟨_,_,_,_,e,h,i⟩=>⟨_,_,_,_,e,h.new_ n,i.new_ n⟩) (.eq (.nw (.nw (.tt (.tt (.tt (.nil))))))))))))) ?_ ?_ ?_
 refine .t (fun _ w hn k=>⟨_,v_load rfl (k.fx 4 h9) (l_agg Tryz.isAgg29 Tryz.sizeOf29 (b8.new_ hn) rfl),rfl⟩)<| .t (fun _ w hn k=>⟨_,v_load rfl (k.fx 5 b5) (l_agg Tryz.isAgg29 Tryz.sizeOf29 (ca.new_ hn) rfl),rfl⟩) ?_
 refine .o1 (tkC rfl (noG rfl) rfl fun _ w hn k=>(by
       refine ⟨#[vv v Av cv Bv dv,vv u Au cu Bu du],_,args2 (k.eq1 0 12 rfl) (k.eq1 1 13 rfl),fun w=>by kernel_rfl,numerics_c v _ _ _ _ u _ _ _ _ _ (hmv.new_ (ao.transNew hn)) (hsv.new_ (ao.transNew hn)) (hmu.new_ (ao.transNew hn)) (hsu.new_ (ao.transNew hn)) hvv hvu,?_⟩
       rintro e w' ⟨A1,c2,A3,c4,A5,c6,A7,c8,rfl,hmo0,hmo1,hmo2,hmo3,hm⟩
       exact⟨_,rfl,hm,⟨A1,c2,A3,c4,A5,c6,A7,c8,rfl,hmo0,hmo1,hmo2,hmo3⟩⟩)) ?_
 refine .o1 (tk rfl rfl fun _ w hn k=>(by
       obtain⟨dg,dh,di,dj,dk,dl,dm,dn,dp,cd,ce,cf,ch⟩:(TQ (numericsV v u).1 (numericsV v u).2.1 ((numericsV v u).2.2)) _ _:=k.dep 2 14 (by kernel_rfl) (by kernel_rfl)
       exact⟨_,v_move rfl dp,⟨dg,dh,di,dj,dk,dl,dm,dn,rfl,cd,ce,cf,ch⟩⟩)) ?_
 refine .o1 (tk rfl rfl fun _ w hn k=>(by
       obtain⟨dq,dr,aR,ds,en,eo,aO,ep,dt,ci,cj,dT,dU⟩:(TQ (numericsV v u).1 (numericsV v u).2.1 ((numericsV v u).2.2)) _ _:=k.dep 3 11 (by kernel_rfl) (by kernel_rfl)
       exact⟨_,v_extract rfl dt rfl,⟨dq,dr,aR,ds,rfl,ci,cj⟩⟩)) ?_
 refine .o3 ?_
 refine .o3 ?_
 exact .o2 (step_allocN (cs:=z7) (t:=29) rfl (noG rfl) (fun _ w hn k=>rfl) (fun q _ hq hb=>⟨q,rfl,hq,hb⟩))<| .o2 (step_allocN (cs:=z7) (t:=29) rfl (noG rfl) (fun _ w hn k=>rfl) (fun q _ hq hb=>⟨q,rfl,hq,hb⟩))<| .off<| .off<| .off .nil
 intro i h
 simp only [List.contains_eq_mem,List.mem_cons,List.not_mem_nil,or_false,decide_eq_true_eq] at h
 rcases h with rfl|rfl
 exact eager_takeG rfl (noG rfl) fun _ w hn k=>(by
     obtain⟨er,es,et,eu,dw,dx,dy,dz,dA,dV,dW,cl,cm⟩:(TQ (numericsV v u).1 (numericsV v u).2.1 ((numericsV v u).2.2)) _ _:=k.dep 3 11 (by kernel_rfl) (by kernel_rfl)
     exact⟨_,fun w hS=>v_extract rfl dA rfl,⟨dw,dx,dy,dz,rfl,cl,cm⟩⟩)
 exact eager_takeG rfl (noG rfl) fun _ w hn k=>(by
     obtain⟨ev,ew,ex,ey,ez,eA,eB,eC,dB,dX,dY,dZ,d0⟩:(TQ (numericsV v u).1 (numericsV v u).2.1 ((numericsV v u).2.2)) _ _:=k.dep 3 11 (by kernel_rfl) (by kernel_rfl)
     exact⟨_,fun w hS=>v_extract rfl dB rfl,rfl⟩)
 intro aZ eD _ bd aj
 obtain⟨be,cn,co⟩:=aft aj b4 dd ao bd
 have dC:=aj.fx 0 h8
 have dD:=aj.fx 6 bb
 obtain⟨aS,aH,aR,aV,a1,cp,cq⟩:=aj.G 4 15
 have a1:aZ.eval (.tmp 15)=vv (numericsV v u).1 aS aH aR aV:=a1
 obtain⟨aO,aI,bf,aW,a3,cr,ct⟩:=aj.G 5 16
 have a3:aZ.eval (.tmp 16)=vv (numericsV v u).2.1 aO aI bf aW:=a3
 have b6:=aj.ge 6 17 rfl
 obtain⟨aT,bg,bh,aJ⟩:=aj.G 7 8
 obtain⟨a4,bi,bj,cw⟩:=aj.G 8 9
 have cx:=aU.new_ bd
 have hne60:aT ≠ a4:=aj.ne 7 8 8 9 bg bi
 have hne61:aQ ≠ aT:=by have h1:=aU.lt; have h2:=bh; omega
 have hne62:aQ ≠ a4:=by have h1:=aU.lt; have h2:=bj; omega
 have d1:=Nat.le_trans ao.size bh
 have d2:=Nat.le_trans ao.size bj
 obtain⟨dE,bv,bw,aK,bk⟩:=s_many (P:=Tryz.prog) (t:=29) (i:=0) (c7 (numericsV v u).1 aS aH aR aV) Tryz.sizeOf29 rfl rfl rfl aJ lb
 have cy:Blk dE aT 29 (c7 (numericsV v u).1 aS aH aR aV):=bw
 refine st_act rfl rfl fun eE cz=>a_store' rfl bg a1 bv (cz _ _ trivial ?_)
 have cA:=cp.fr aJ aK
 have cB:=cq.fr aJ aK
 have cC:=cr.fr aJ aK
 have cD:=ct.fr aJ aK
 have cE:=bk _ _ _ (hne61) cx
 have aL:=bk _ _ _ (fun h=>hne60 h.symm) cw
 have cF:=co.trans aK (fun _ h b=>by subst b; omega)
 obtain⟨dF,bx,bz,aM,bl⟩:=s_many (P:=Tryz.prog) (t:=29) (i:=0) (c7 (numericsV v u).2.1 aO aI bf aW) Tryz.sizeOf29 rfl rfl rfl aL lb
 have cG:Blk dF a4 29 (c7 (numericsV v u).2.1 aO aI bf aW):=bz
 refine st_act rfl rfl fun eF cH=>a_store' rfl bi a3 bx (cH _ _ trivial ?_)
 have cI:=cA.fr aL aM
 have cJ:=cB.fr aL aM
 have cK:=cC.fr aL aM
 have cL:=cD.fr aL aM
 have cM:=bl _ _ _ (hne62) cE
 have cN:=bl _ _ _ (hne60) cy
 have cO:=cF.trans aM (fun _ h b=>by subst b; omega)
 refine st_take rfl rfl (y_assign (v:=iv ((numericsV v u).2.2)) rfl b6) rfl ?_
 obtain⟨dG,aa⟩:∃ a',a'=aZ.put (some 10) (iv ((numericsV v u).2.2)):=⟨_,rfl⟩
 have bm:=pz aa be
 have cP:=pd aa cn
 have dH:=pn aa dC (by decide)
 have dI:=pn aa dD (by decide)
 have d3:=pn aa a1 (by decide)
 have d4:=pn aa a3 (by decide)
 have d5:=pn aa b6 (by decide)
 have cQ:=pn aa bg (by decide)
 have cR:=pn aa bi (by decide)
 have bn:dG.eval (.tmp 10)=iv ((numericsV v u).2.2):=by rw [aa]; exact put_same _ _ _ (by rw [be]; decide)
 show stepsTo _ _ _ _ _ (aZ.put (some 10) (iv ((numericsV v u).2.2))) _
 rw [← aa]
 refine st_nil (cc _ _ (wp_seq_k fun d6 dL=>?_))
 refine wp_block ?_
 refine wp_seq_k fun d7 bA=>?_
 refine wp_g0 [true,true,true] [] 92
   [ve (iv ((numericsV v u).2.2)),ve (.bool (!decide (((numericsV v u).2.2)=0))),ve (.bool (!decide (((numericsV v u).2.2)=0)))] bm (.eq (.eq (.eq (.nil)))) ?_ ?_
 exact .m (fun k=>k.fx 10 bn)<| .t (fun _ w hn k=>⟨_,v_bin rfl (k.eq1 0 19 rfl) rfl (fun _=>rfl) (r_neq rfl),rfl⟩)<| .a (fun k=>k.eq1 1 20 rfl) .nil
 refine aftI bm cP cO fun d8 d9 a5 bB bC ak an=>?_
 have cS:=an.fx 0 dH
 have cT:=an.fx 6 dI
 have bo:=an.fx 8 cQ
 have cU:=an.fx 9 cR
 have ea:=an.fx 10 bn
 have cV:=an.ge 2 18 rfl
 have bD:=cM.new_ ak
 have a6:=cN.new_ ak
 have bE:=cG.new_ ak
 have bF:=cI.new_ ak
 have bG:=cJ.new_ ak
 have bH:=cK.new_ ak
 have bI:=cL.new_ ak
 refine st_nil (bA _ _ ?_)
 have a7:((!decide (((numericsV v u).2.2)=0)))=false:=(nf (decide_eq_true (hns)))
 have bJ:=hB cV a7
 have bK:(decide (((numericsV v u).2.2)=0))=true:=nT a7
 have dJ:=oT bK
 refine wp_cond_false bJ ?_
 refine wp_seq_k fun eb bL=>?_
 refine wp_g0 [true,true,true,true] [] 92
   [ve (pv aT),ve (iv ((numericsV v u).1.k)),ve (.bool (decide (((numericsV v u).1.k)=4))),ve (.bool (decide (((numericsV v u).1.k)=4)))] a5 (.eq (.eq (.eq (.eq (.nil))))) ?_ ?_
 exact .f (fun k=>k.fx 8 bo)<| .t (fun _ w hn k=>⟨_,v_load rfl (k.eq1 0 24 rfl) (l_one Tryz.isAgg3 ((a6.new_ hn).cell 0)),rfl⟩)<| .t (fun _ w hn k=>⟨_,v_bin rfl (k.eq1 1 25 rfl) rfl (fun _=>rfl) (r_eql rfl),rfl⟩)<| .a (fun k=>k.eq1 2 26 rfl) .nil
 refine aftI a5 bB bC fun ec ed a8 bM bN al ap=>?_
 have cW:=ap.fx 0 cS
 have cX:=ap.fx 6 cT
 have cY:=ap.fx 8 bo
 have cZ:=ap.fx 9 cU
 have c0:=ap.ge 3 23 rfl
 have bO:=bD.new_ al
 have bP:=a6.new_ al
 have bQ:=bE.new_ al
 have bR:=bF.new_ al
 have dM:=bG.new_ al
 have bS:=bH.new_ al
 have dN:=bI.new_ al
 refine st_nil (bL _ _ ?_)
 have a9:(decide (((numericsV v u).1.k)=4))=true:=decide_eq_true (hk)
 have dK:=oT a9
 have bT:=hB c0 a9
 refine wp_cond_true bT ?_
 refine wp_seq_k fun ee bU=>?_
 refine wp_g0 [true,true,true,true,true,true,true,true,false,false] [(8,false),(9,true)] 92
   [ve (.string ⟨#[47]⟩),ve (.pointer (some ⟨aT,3,none⟩)),ve (.agg #[.bool ((numericsV v u).1.neg),sv aS ((numericsV v u).1.mag) aH]),ve (.pointer (some ⟨a4,3,none⟩)),ve (.agg #[.bool ((numericsV v u).2.1.neg),sv aO ((numericsV v u).2.1.mag) aI]),ve (.tuple #[vv (Vl.mk 0 0 0 false [] [] 0) none 0 none 0,iv 2]),ve (vv (Vl.mk 0 0 0 false [] [] 0) none 0 none 0),ve (iv 2),vt,vt] a8 (.eq (.eq (.eq (.eq (.eq (.eq (.eq (.eq (.tt (.tt (.nil))))))))))) ?_ ?_
 exact .m (fun k=>k.fx 0 cW)<| .f (fun k=>k.fx 8 cY)<| .t (fun _ w hn k=>⟨_,v_load rfl (k.eq1 1 28 rfl) (l_part Tryz.isAgg26 Tryz.sizeOf26 (bP.new_ hn) lb),rfl⟩)<| .f (fun k=>k.fx 9 cZ)<| .t (fun _ w hn k=>⟨_,v_load rfl (k.eq1 3 30 rfl) (l_part Tryz.isAgg26 Tryz.sizeOf26 (bQ.new_ hn) lb),rfl⟩)<| .o1 (ck rfl rfl rfl (fun _ w hn k=>⟨#[.string ⟨#[47]⟩,.agg #[.bool ((numericsV v u).1.neg),sv aS ((numericsV v u).1.mag) aH],.agg #[.bool ((numericsV v u).2.1.neg),sv aO ((numericsV v u).2.1.mag) aI]],args3 (k.eq1 0 27 rfl) (k.eq1 2 29 rfl) (k.eq1 4 31 rfl),fun _=>by kernel_rfl,bigsD0_c ((numericsV v u).1.neg) _ ((numericsV v u).1.mag) _ ((numericsV v u).2.1.neg) _ ((numericsV v u).2.1.mag) _ _ (bR.new_ hn) (bS.new_ hn) (VOk.numerics1 hvv hvu).limbs (VOk.numerics2 hvv hvu).limbs (by first|omega|(simp only [List.length_nil,List.length_take,List.length_drop]; omega)|(simp only [List.length_cons,List.length_nil]; omega)) (by first|omega|(simp only [List.length_nil,List.length_take,List.length_drop]; omega)|(simp only [List.length_cons,List.length_nil]; omega)) da⟩) fun _=>rfl)<| .t (fun _ w hn k=>⟨_,v_extract rfl (k.eq1 5 32 rfl) rfl,rfl⟩)<| .t (fun _ w hn k=>⟨_,v_extract rfl (k.eq1 5 32 rfl) rfl,rfl⟩)<| .off<| .off .nil
 refine aftI a8 bM bN fun bp ef ba bV bW bX aP=>?_
 have bq:=aP.fx 6 cX
 have br:=aP.ge 6 33 rfl
 have bs:=aP.ge 7 34 rfl
 have bY:=bO.new_ bX
 obtain⟨c1,bt,bu,bZ,dO⟩:=s_many (P:=Tryz.prog) (t:=29) (i:=0) z7 Tryz.sizeOf29 rfl rfl rfl bY lb
 have b0:Blk c1 aQ 29 z7:=bu
 refine st_act rfl rfl fun eg b1=>a_store' rfl bq br bt (b1 _ _ trivial ?_)
 have b2:=bW.trans bZ (fun _ h b=>by subst b; omega)
 refine st_take rfl rfl (y_assign (v:=iv 2) rfl bs) rfl ?_
 obtain⟨c3,am⟩:∃ a',a'=bp.put (some 7) (iv 2):=⟨_,rfl⟩
 have dP:=pz am ba
 have b3:=pd am bV
 have c5:=pn am bq (by decide)
 have eh:=pn am br (by decide)
 have ei:=pn am bs (by decide)
 have c9:c3.eval (.tmp 7)=iv 2:=by rw [am]; exact put_same _ _ _ (by rw [ba]; decide)
 show stepsTo _ _ _ _ _ (bp.put (some 7) (iv 2)) _
 rw [← am]
 refine st_nil (bU _ _ ?_)
 refine wp_ret (ret_k b3 (v:=.tuple #[vv (Vl.mk 0 0 0 false [] [] 0) none 0 none 0,iv 2]) (res_ct rfl c5 c9 (l_agg Tryz.isAgg29 Tryz.sizeOf29 b0 rfl)) ?_)
 exact⟨rfl,b2⟩
theorem binD_c  (v:Vl) (Av:Option Addr) (cv:Nat) (Bv:Option Addr) (dv:Nat) (u:Vl) (Au:Option Addr) (cu:Nat) (Bu:Option Addr) (du:Nat) (w:World) (hmv:SRow w .u32 Av v.mag cv) (hsv:SRow w .u16 Bv v.s dv) (hmu:SRow w .u32 Au u.mag cu) (hsu:SRow w .u16 Bu u.s du) (hvv:VOk v) (hvu:VOk u) (hns:(numericsV (cleanV v) (cleanV u)).2.2=0) (hk:(numericsV (cleanV v) (cleanV u)).1.k=3) (hX:(Nm.mk (numericsV (cleanV v) (cleanV u)).1.nk (numericsV (cleanV v) (cleanV u)).1.nn)=⟨0,1⟩) (hY:(Nm.mk (numericsV (cleanV v) (cleanV u)).2.1.nk (numericsV (cleanV v) (cleanV u)).2.1.nn)=⟨0,2⟩):Calls Tryz.prog 12 #[.string ⟨#[47]⟩,vv v Av cv Bv dv,vv u Au cu Bu du] w (IsRet (.tuple #[vv (Vl.mk 0 0 0 false [] [] 0) none 0 none 0,iv 3]) w):=by
 refine enter_abs Tryz.func12 rfl fun a0 aE dm hp=>?_
 have aE:a0.tmps.size=120:=aE
 have aF:New w w:=Upd.refl _ _
 have hp0:a0.eval (.tmp 0)=.string ⟨#[47]⟩:=hp 0 _ rfl
 have hp1:a0.eval (.tmp 1)=vv v Av cv Bv dv:=hp 1 _ rfl
 have hp2:a0.eval (.tmp 2)=vv u Au cu Bu du:=hp 2 _ rfl
 refine wp_seq_k fun K1 dn=>?_
 refine wp_g [true,true,true,true] [] [] 120
   [IsNew w 29 (c7 v Av cv Bv dv),IsNew w 29 (c7 u Au cu Bu du),IsNew w 29 z7,ve (iv 0)]
   [0,1,2] (newsCons (fun v w h=>IsNew.old h) (newsCons (fun v w h=>IsNew.old h) (newsCons (fun v w h=>IsNew.old h) newsNil))) aE (.nw (.nw (.nw (.eq (.nil))))) ?_ (fun i h=>by cases h) ?_
 exact .o2 (step_allocN (cs:=(c7 v Av cv Bv dv)) (t:=29) rfl (noG rfl) (fun _ w hn k=>v_box rfl (k.fx 1 hp1) (fun w=>rfl)) (fun q _ hq hb=>⟨q,rfl,hq,hb⟩))<| .o2 (step_allocN (cs:=(c7 u Au cu Bu du)) (t:=29) rfl (noG rfl) (fun _ w hn k=>v_box rfl (k.fx 2 hp2) (fun w=>rfl)) (fun q _ hq hb=>⟨q,rfl,hq,hb⟩))<| .o2 (step_allocN (cs:=z7) (t:=29) rfl (noG rfl) (fun _ w hn k=>rfl) (fun q _ hq hb=>⟨q,rfl,hq,hb⟩))<| .t (fun _ w hn k=>⟨_,v_assign rfl rfl,rfl⟩) .nil
 refine aftI aE dm aF fun a2 w3 cb dp al d5 am=>?_
 have h8:=am.fx 0 hp0
 obtain⟨aM,h9,ci,aN⟩:=am.G 0 4
 obtain⟨aO,aG,cj,aP⟩:=am.G 1 5
 obtain⟨aQ,aR,cl,cm⟩:=am.G 2 6
 have hne21:aM ≠ aO:=am.ne 0 1 4 5 h9 aG
 have hne22:aM ≠ aQ:=am.ne 0 2 4 6 h9 aR
 have hne23:aO ≠ aQ:=am.ne 1 2 5 6 aG aR
 have dI:=Nat.le_trans aF.size ci
 have dJ:=Nat.le_trans aF.size cj
 have dK:=Nat.le_trans aF.size cl
 refine st_nil (dn _ _ (wp_seq_k fun d6 cn=>?_))
 refine wp_g0 [true,true,true,true,false,false] [(4,false),(5,false)] 120
   [ve (vv v Av cv Bv dv),
    (VP (cleanV v)),ve (vv u Au cu Bu du),
    (VP (cleanV u)),vt,vt] cb (.eq (.cons (fun _ _ _ n ⟨_,_,_,_,e,h,i⟩=>⟨_,_,_,_,e,h.new_ n,i.new_ n⟩) (.eq (.cons (fun _ _ _ n ⟨_,_,_,_,e,h,i⟩=>⟨_,_,_,_,e,h.new_ n,i.new_ n⟩) (.tt (.tt (.nil))))))) ?_ ?_
 refine .t (fun _ w hn k=>⟨_,v_load rfl (k.fx 4 h9) (l_agg Tryz.isAgg29 Tryz.sizeOf29 (aN.new_ hn) rfl),rfl⟩) ?_
 refine .o1 (tkC rfl (noG rfl) rfl fun _ w hn k=>(by
       refine ⟨#[vv v Av cv Bv dv],_,args1 (k.eq1 0 10 rfl),fun w=>by kernel_rfl,clean_c v _ _ _ _ _ (hmv.new_ (al.transNew hn)) (hsv.new_ (al.transNew hn)),?_⟩
       rintro e w' ⟨A1,c2,A3,c4,rfl,hmo0,hmo1,hm⟩
       exact⟨_,rfl,hm,⟨A1,c2,A3,c4,rfl,hmo0,hmo1⟩⟩)) ?_
 refine .t (fun _ w hn k=>⟨_,v_load rfl (k.fx 5 aG) (l_agg Tryz.isAgg29 Tryz.sizeOf29 (aP.new_ hn) rfl),rfl⟩) ?_
 refine .o1 (tkC rfl (noG rfl) rfl fun _ w hn k=>(by
       refine ⟨#[vv u Au cu Bu du],_,args1 (k.eq1 2 12 rfl),fun w=>by kernel_rfl,clean_c u _ _ _ _ _ (hmu.new_ (al.transNew hn)) (hsu.new_ (al.transNew hn)),?_⟩
       rintro e w' ⟨A9,dw,dx,dy,rfl,hmo0,hmo1,hm⟩
       exact⟨_,rfl,hm,⟨A9,dw,dx,dy,rfl,hmo0,hmo1⟩⟩)) ?_
 exact .off<| .off .nil
 refine aftI cb dp al fun cc d7 aS co cp aD ak=>?_
 have cd:=ak.fx 0 h8
 have ce:=ak.fx 4 h9
 have cf:=ak.fx 5 aG
 have dz:=ak.fx 6 aR
 obtain⟨az,an,aA,ao,aT,cq,cr⟩:=ak.G 1 11
 have aT:cc.eval (.tmp 11)=vv (cleanV v) az an aA ao:=aT
 obtain⟨aB,ap,aC,aq,aU,ct,cw⟩:=ak.G 3 13
 have aU:cc.eval (.tmp 13)=vv (cleanV u) aB ap aC aq:=aU
 have ar:=aN.new_ aD
 have cx:=aP.new_ aD
 have cy:=cm.new_ aD
 obtain⟨dA,ba,bb,au,aV⟩:=s_many (P:=Tryz.prog) (t:=29) (i:=0) (c7 (cleanV v) az an aA ao) Tryz.sizeOf29 rfl rfl rfl ar lb
 have cz:Blk dA aM 29 (c7 (cleanV v) az an aA ao):=bb
 refine st_act rfl rfl fun d8 cA=>a_store' rfl ce aT ba (cA _ _ trivial ?_)
 have cB:=cq.fr ar au
 have cC:=cr.fr ar au
 have cD:=ct.fr ar au
 have cE:=cw.fr ar au
 have av:=aV _ _ _ (fun h=>hne21 h.symm) cx
 have cF:=aV _ _ _ (fun h=>hne22 h.symm) cy
 have cG:=cp.trans au (fun _ h b=>by subst b; omega)
 obtain⟨dB,bd,be,aw,aW⟩:=s_many (P:=Tryz.prog) (t:=29) (i:=0) (c7 (cleanV u) aB ap aC aq) Tryz.sizeOf29 rfl rfl rfl av lb
 have cH:Blk dB aO 29 (c7 (cleanV u) aB ap aC aq):=be
 refine st_act rfl rfl fun d9 cI=>a_store' rfl cf aU bd (cI _ _ trivial ?_)
 have cJ:=cB.fr av aw
 have cK:=cC.fr av aw
 have cL:=cD.fr av aw
 have cM:=cE.fr av aw
 have cN:=aW _ _ _ (hne21) cz
 have cO:=aW _ _ _ (fun h=>hne23 h.symm) cF
 have cP:=cG.trans aw (fun _ h b=>by subst b; omega)
 refine st_nil (cn _ _ (wp_seq_k fun ea dL=>?_))
 refine wp_seq_k fun eb cQ=>?_
 refine wp_g0 [true] [] 120
   [ve (.string ⟨#[47]⟩)] aS (.eq (.nil)) ?_ ?_
 exact .m (fun k=>k.fx 0 cd) .nil
 refine aftI aS co cP fun ec ed aX cR bf aj ax=>?_
 have dC:=ax.fx 0 cd
 have dD:=ax.fx 4 ce
 have dE:=ax.fx 5 cf
 have dF:=ax.fx 6 dz
 have ch:=ax.ge 0 14 rfl
 have cS:=cN.new_ aj
 have cT:=cH.new_ aj
 have bg:=cO.new_ aj
 have bh:=cJ.new_ aj
 have bi:=cK.new_ aj
 have bj:=cL.new_ aj
 have bk:=cM.new_ aj
 refine st_nil (cQ _ _ ?_)
 refine wp_block ?_
 refine wp_seq_k fun dM bl=>?_
 refine wp_g0 [true,true] [] 120
   [vF,vF] aX (.eq (.eq (.nil))) ?_ ?_
 exact .t (fun _ w hn k=>⟨_,v_bin rfl (k.fx 14 ch) rfl (fun _=>rfl) (r_eqlS (r:=false) (by kernel_rfl)),rfl⟩)<| .a (fun k=>k.eq1 0 16 rfl) .nil
 refine aftI aX cR bf fun dN dO aH bm bn aa af=>?_
 have cU:=af.fx 0 dC
 have cV:=af.fx 4 dD
 have cW:=af.fx 5 dE
 have cX:=af.fx 6 dF
 have aY:=af.fx 14 ch
 have cY:=af.ge 1 15 rfl
 have bo:=cS.new_ aa
 have bp:=cT.new_ aa
 have bq:=bg.new_ aa
 have br:=bh.new_ aa
 have bs:=bi.new_ aa
 have bt:=bj.new_ aa
 have bu:=bk.new_ aa
 refine st_nil (bl _ _ ?_)
 refine wp_cond_false cY ?_
 refine wp_seq_k fun dP bv=>?_
 refine wp_seq_k fun dQ bw=>?_
 refine wp_g0 [true,true] [] 120
   [vF,vF] aH (.eq (.eq (.nil))) ?_ ?_
 exact .t (fun _ w hn k=>⟨_,v_bin rfl (k.fx 14 aY) rfl (fun _=>rfl) (r_eqlS (r:=false) (by kernel_rfl)),rfl⟩)<| .a (fun k=>k.eq1 0 37 rfl) .nil
 refine aftI aH bm bn fun dR dS aI bx bz ab ag=>?_
 have cZ:=ag.fx 0 cU
 have c0:=ag.fx 4 cV
 have c1:=ag.fx 5 cW
 have c3:=ag.fx 6 cX
 have aZ:=ag.fx 14 aY
 have c5:=ag.ge 1 36 rfl
 have bA:=bo.new_ ab
 have bB:=bp.new_ ab
 have bC:=bq.new_ ab
 have bD:=br.new_ ab
 have bE:=bs.new_ ab
 have bF:=bt.new_ ab
 have bG:=bu.new_ ab
 refine st_nil (bw _ _ ?_)
 refine wp_cond_false c5 ?_
 refine wp_seq_k fun dT bH=>?_
 refine wp_g0 [true,true] [] 120
   [vF,vF] aI (.eq (.eq (.nil))) ?_ ?_
 exact .t (fun _ w hn k=>⟨_,v_bin rfl (k.fx 14 aZ) rfl (fun _=>rfl) (r_eqlS (r:=false) (by kernel_rfl)),rfl⟩)<| .a (fun k=>k.eq1 0 38 rfl) .nil
 refine aftI aI bx bz fun dU dV aJ bI bJ ac ah=>?_
 have c9:=ah.fx 0 cZ
 have da:=ah.fx 4 c0
 have db:=ah.fx 5 c1
 have dc:=ah.fx 6 c3
 have a1:=ah.fx 14 aZ
 have dd:=ah.ge 1 36 rfl
 have bK:=bA.new_ ac
 have bL:=bB.new_ ac
 have bM:=bC.new_ ac
 have bN:=bD.new_ ac
 have bO:=bE.new_ ac
 have bP:=bF.new_ ac
 have bQ:=bG.new_ ac
 refine st_nil (bH _ _ ?_)
 refine wp_cond_false dd ?_
 refine wp_seq_k fun dW bR=>?_
 refine wp_g0 [true,true] [] 120
   [vT,vT] aJ (.eq (.eq (.nil))) ?_ ?_
 exact .t (fun _ w hn k=>⟨_,v_bin rfl (k.fx 14 a1) rfl (fun _=>rfl) (r_eqlS (r:=true) (by kernel_rfl)),rfl⟩)<| .a (fun k=>k.eq1 0 39 rfl) .nil
 refine aftI aJ bI bJ fun dX dY aK bS bT ad ai=>?_
 have de:=ai.fx 0 c9
 have df:=ai.fx 4 da
 have dg:=ai.fx 5 db
 have dh:=ai.fx 6 dc
 have dZ:=ai.fx 14 a1
 have a3:=ai.ge 1 36 rfl
 have bU:=bK.new_ ad
 have bV:=bL.new_ ad
 have bW:=bM.new_ ad
 have bX:=bN.new_ ad
 have bY:=bO.new_ ad
 have bZ:=bP.new_ ad
 have b0:=bQ.new_ ad
 refine st_nil (bR _ _ ?_)
 refine wp_cond_true a3 ?_
 refine wp_skip ?_
 refine bv _ _ ?_
 refine wp_cond_true a3 ?_
 refine wp_seq_k fun d0 b1=>?_
 refine wp_g0 [true,true,true,true,true,true,false,false] [(6,false),(7,true)] 120
   [ve (.string ⟨#[47]⟩),ve (vv (cleanV v) az an aA ao),ve (vv (cleanV u) aB ap aC aq),ve (.tuple #[vv (Vl.mk 0 0 0 false [] [] 0) none 0 none 0,iv 3]),ve (vv (Vl.mk 0 0 0 false [] [] 0) none 0 none 0),ve (iv 3),vt,vt] aK (.eq (.eq (.eq (.eq (.eq (.eq (.tt (.tt (.nil))))))))) ?_ ?_
 exact .m (fun k=>k.fx 0 de)<| .t (fun _ w hn k=>⟨_,v_load rfl (k.fx 4 df) (l_agg Tryz.isAgg29 Tryz.sizeOf29 (bU.new_ hn) rfl),rfl⟩)<| .t (fun _ w hn k=>⟨_,v_load rfl (k.fx 5 dg) (l_agg Tryz.isAgg29 Tryz.sizeOf29 (bV.new_ hn) rfl),rfl⟩)<| .o1 (ck rfl rfl rfl (fun _ w hn k=>⟨#[.string ⟨#[47]⟩,vv (cleanV v) az an aA ao,vv (cleanV u) aB ap aC aq],args3 (k.eq1 0 41 rfl) (k.eq1 1 42 rfl) (k.eq1 2 43 rfl),fun _=>by kernel_rfl,sumsD_c (cleanV v) _ _ _ _ (cleanV u) _ _ _ _ _ (bX.new_ hn) (bY.new_ hn) (bZ.new_ hn) (b0.new_ hn) hvv.clean hvu.clean hns hk hX hY⟩) fun _=>rfl)<| .t (fun _ w hn k=>⟨_,v_extract rfl (k.eq1 3 44 rfl) rfl,rfl⟩)<| .t (fun _ w hn k=>⟨_,v_extract rfl (k.eq1 3 44 rfl) rfl,rfl⟩)<| .off<| .off .nil
 refine aftI aK bS bT fun a4 d1 aL b2 b3 b4 ay=>?_
 have a5:=ay.fx 6 dh
 have a6:=ay.ge 4 45 rfl
 have a7:=ay.ge 5 46 rfl
 have b5:=bW.new_ b4
 obtain⟨di,a8,a9,b6,dG⟩:=s_many (P:=Tryz.prog) (t:=29) (i:=0) z7 Tryz.sizeOf29 rfl rfl rfl b5 lb
 have b7:Blk di aQ 29 z7:=a9
 refine st_act rfl rfl fun d2 b8=>a_store' rfl a5 a6 a8 (b8 _ _ trivial ?_)
 have b9:=b3.trans b6 (fun _ h b=>by subst b; omega)
 refine st_take rfl rfl (y_assign (v:=iv 3) rfl a7) rfl ?_
 obtain⟨dj,ae⟩:∃ a',a'=a4.put (some 7) (iv 3):=⟨_,rfl⟩
 have dH:=pz ae aL
 have ca:=pd ae b2
 have dk:=pn ae a5 (by decide)
 have d3:=pn ae a6 (by decide)
 have d4:=pn ae a7 (by decide)
 have dl:dj.eval (.tmp 7)=iv 3:=by rw [ae]; exact put_same _ _ _ (by rw [aL]; decide)
 show stepsTo _ _ _ _ _ (a4.put (some 7) (iv 3)) _
 rw [← ae]
 refine st_nil (b1 _ _ ?_)
 refine wp_ret (ret_k ca (v:=.tuple #[vv (Vl.mk 0 0 0 false [] [] 0) none 0 none 0,iv 3]) (res_ct rfl dk dl (l_agg Tryz.isAgg29 Tryz.sizeOf29 b7 rfl)) ?_)
 exact⟨rfl,b9⟩
theorem binB_c  (v:Vl) (Av:Option Addr) (cv:Nat) (Bv:Option Addr) (dv:Nat) (u:Vl) (Au:Option Addr) (cu:Nat) (Bu:Option Addr) (du:Nat) (w:World) (hmv:SRow w .u32 Av v.mag cv) (hsv:SRow w .u16 Bv v.s dv) (hmu:SRow w .u32 Au u.mag cu) (hsu:SRow w .u16 Bu u.s du) (hvv:VOk v) (hvu:VOk u) (hns:(numericsV (cleanV v) (cleanV u)).2.2=0) (hk:(numericsV (cleanV v) (cleanV u)).1.k=4) (dm:goodI (numericsV (cleanV v) (cleanV u)).2.1.neg (numericsV (cleanV v) (cleanV u)).2.1.mag=0):Calls Tryz.prog 12 #[.string ⟨#[47]⟩,vv v Av cv Bv dv,vv u Au cu Bu du] w (IsRet (.tuple #[vv (Vl.mk 0 0 0 false [] [] 0) none 0 none 0,iv 2]) w):=by
 refine enter_abs Tryz.func12 rfl fun a0 aE dn hp=>?_
 have aE:a0.tmps.size=120:=aE
 have aF:New w w:=Upd.refl _ _
 have hp0:a0.eval (.tmp 0)=.string ⟨#[47]⟩:=hp 0 _ rfl
 have hp1:a0.eval (.tmp 1)=vv v Av cv Bv dv:=hp 1 _ rfl
 have hp2:a0.eval (.tmp 2)=vv u Au cu Bu du:=hp 2 _ rfl
 refine wp_seq_k fun K1 dp=>?_
 refine wp_g [true,true,true,true] [] [] 120
   [IsNew w 29 (c7 v Av cv Bv dv),IsNew w 29 (c7 u Au cu Bu du),IsNew w 29 z7,ve (iv 0)]
   [0,1,2] (newsCons (fun v w h=>IsNew.old h) (newsCons (fun v w h=>IsNew.old h) (newsCons (fun v w h=>IsNew.old h) newsNil))) aE (.nw (.nw (.nw (.eq (.nil))))) ?_ (fun i h=>by cases h) ?_
 exact .o2 (step_allocN (cs:=(c7 v Av cv Bv dv)) (t:=29) rfl (noG rfl) (fun _ w hn k=>v_box rfl (k.fx 1 hp1) (fun w=>rfl)) (fun q _ hq hb=>⟨q,rfl,hq,hb⟩))<| .o2 (step_allocN (cs:=(c7 u Au cu Bu du)) (t:=29) rfl (noG rfl) (fun _ w hn k=>v_box rfl (k.fx 2 hp2) (fun w=>rfl)) (fun q _ hq hb=>⟨q,rfl,hq,hb⟩))<| .o2 (step_allocN (cs:=z7) (t:=29) rfl (noG rfl) (fun _ w hn k=>rfl) (fun q _ hq hb=>⟨q,rfl,hq,hb⟩))<| .t (fun _ w hn k=>⟨_,v_assign rfl rfl,rfl⟩) .nil
 refine aftI aE dn aF fun a2 w3 cb dq al d6 am=>?_
 have h8:=am.fx 0 hp0
 obtain⟨aM,h9,ci,aN⟩:=am.G 0 4
 obtain⟨aO,aG,cj,aP⟩:=am.G 1 5
 obtain⟨aQ,aR,cl,cm⟩:=am.G 2 6
 have hne21:aM ≠ aO:=am.ne 0 1 4 5 h9 aG
 have hne22:aM ≠ aQ:=am.ne 0 2 4 6 h9 aR
 have hne23:aO ≠ aQ:=am.ne 1 2 5 6 aG aR
 have dJ:=Nat.le_trans aF.size ci
 have dK:=Nat.le_trans aF.size cj
 have dL:=Nat.le_trans aF.size cl
 refine st_nil (dp _ _ (wp_seq_k fun d7 cn=>?_))
 refine wp_g0 [true,true,true,true,false,false] [(4,false),(5,false)] 120
   [ve (vv v Av cv Bv dv),
    (VP (cleanV v)),ve (vv u Au cu Bu du),
    (VP (cleanV u)),vt,vt] cb (.eq (.cons (fun _ _ _ n ⟨_,_,_,_,e,h,i⟩=>⟨_,_,_,_,e,h.new_ n,i.new_ n⟩) (.eq (.cons (fun _ _ _ n ⟨_,_,_,_,e,h,i⟩=>⟨_,_,_,_,e,h.new_ n,i.new_ n⟩) (.tt (.tt (.nil))))))) ?_ ?_
 refine .t (fun _ w hn k=>⟨_,v_load rfl (k.fx 4 h9) (l_agg Tryz.isAgg29 Tryz.sizeOf29 (aN.new_ hn) rfl),rfl⟩) ?_
 refine .o1 (tkC rfl (noG rfl) rfl fun _ w hn k=>(by
       refine ⟨#[vv v Av cv Bv dv],_,args1 (k.eq1 0 10 rfl),fun w=>by kernel_rfl,clean_c v _ _ _ _ _ (hmv.new_ (al.transNew hn)) (hsv.new_ (al.transNew hn)),?_⟩
       rintro e w' ⟨A1,c2,A3,c4,rfl,hmo0,hmo1,hm⟩
       exact⟨_,rfl,hm,⟨A1,c2,A3,c4,rfl,hmo0,hmo1⟩⟩)) ?_
 refine .t (fun _ w hn k=>⟨_,v_load rfl (k.fx 5 aG) (l_agg Tryz.isAgg29 Tryz.sizeOf29 (aP.new_ hn) rfl),rfl⟩) ?_
 refine .o1 (tkC rfl (noG rfl) rfl fun _ w hn k=>(by
       refine ⟨#[vv u Au cu Bu du],_,args1 (k.eq1 2 12 rfl),fun w=>by kernel_rfl,clean_c u _ _ _ _ _ (hmu.new_ (al.transNew hn)) (hsu.new_ (al.transNew hn)),?_⟩
       rintro e w' ⟨A9,dx,dy,dz,rfl,hmo0,hmo1,hm⟩
       exact⟨_,rfl,hm,⟨A9,dx,dy,dz,rfl,hmo0,hmo1⟩⟩)) ?_
 exact .off<| .off .nil
 refine aftI cb dq al fun cc d8 aS co cp aD ak=>?_
 have cd:=ak.fx 0 h8
 have ce:=ak.fx 4 h9
 have cf:=ak.fx 5 aG
 have dA:=ak.fx 6 aR
 obtain⟨az,an,aA,ao,aT,cq,cr⟩:=ak.G 1 11
 have aT:cc.eval (.tmp 11)=vv (cleanV v) az an aA ao:=aT
 obtain⟨aB,ap,aC,aq,aU,ct,cw⟩:=ak.G 3 13
 have aU:cc.eval (.tmp 13)=vv (cleanV u) aB ap aC aq:=aU
 have ar:=aN.new_ aD
 have cx:=aP.new_ aD
 have cy:=cm.new_ aD
 obtain⟨dB,ba,bb,au,aV⟩:=s_many (P:=Tryz.prog) (t:=29) (i:=0) (c7 (cleanV v) az an aA ao) Tryz.sizeOf29 rfl rfl rfl ar lb
 have cz:Blk dB aM 29 (c7 (cleanV v) az an aA ao):=bb
 refine st_act rfl rfl fun d9 cA=>a_store' rfl ce aT ba (cA _ _ trivial ?_)
 have cB:=cq.fr ar au
 have cC:=cr.fr ar au
 have cD:=ct.fr ar au
 have cE:=cw.fr ar au
 have av:=aV _ _ _ (fun h=>hne21 h.symm) cx
 have cF:=aV _ _ _ (fun h=>hne22 h.symm) cy
 have cG:=cp.trans au (fun _ h b=>by subst b; omega)
 obtain⟨dC,bd,be,aw,aW⟩:=s_many (P:=Tryz.prog) (t:=29) (i:=0) (c7 (cleanV u) aB ap aC aq) Tryz.sizeOf29 rfl rfl rfl av lb
 have cH:Blk dC aO 29 (c7 (cleanV u) aB ap aC aq):=be
 refine st_act rfl rfl fun ea cI=>a_store' rfl cf aU bd (cI _ _ trivial ?_)
 have cJ:=cB.fr av aw
 have cK:=cC.fr av aw
 have cL:=cD.fr av aw
 have cM:=cE.fr av aw
 have cN:=aW _ _ _ (hne21) cz
 have cO:=aW _ _ _ (fun h=>hne23 h.symm) cF
 have cP:=cG.trans aw (fun _ h b=>by subst b; omega)
 refine st_nil (cn _ _ (wp_seq_k fun eb dM=>?_))
 refine wp_seq_k fun ec cQ=>?_
 refine wp_g0 [true] [] 120
   [ve (.string ⟨#[47]⟩)] aS (.eq (.nil)) ?_ ?_
 exact .m (fun k=>k.fx 0 cd) .nil
 refine aftI aS co cP fun ed ee aX cR bf aj ax=>?_
 have dD:=ax.fx 0 cd
 have dE:=ax.fx 4 ce
 have dF:=ax.fx 5 cf
 have dG:=ax.fx 6 dA
 have ch:=ax.ge 0 14 rfl
 have cS:=cN.new_ aj
 have cT:=cH.new_ aj
 have bg:=cO.new_ aj
 have bh:=cJ.new_ aj
 have bi:=cK.new_ aj
 have bj:=cL.new_ aj
 have bk:=cM.new_ aj
 refine st_nil (cQ _ _ ?_)
 refine wp_block ?_
 refine wp_seq_k fun dN bl=>?_
 refine wp_g0 [true,true] [] 120
   [vF,vF] aX (.eq (.eq (.nil))) ?_ ?_
 exact .t (fun _ w hn k=>⟨_,v_bin rfl (k.fx 14 ch) rfl (fun _=>rfl) (r_eqlS (r:=false) (by kernel_rfl)),rfl⟩)<| .a (fun k=>k.eq1 0 16 rfl) .nil
 refine aftI aX cR bf fun dO dP aH bm bn aa af=>?_
 have cU:=af.fx 0 dD
 have cV:=af.fx 4 dE
 have cW:=af.fx 5 dF
 have cX:=af.fx 6 dG
 have aY:=af.fx 14 ch
 have cY:=af.ge 1 15 rfl
 have bo:=cS.new_ aa
 have bp:=cT.new_ aa
 have bq:=bg.new_ aa
 have br:=bh.new_ aa
 have bs:=bi.new_ aa
 have bt:=bj.new_ aa
 have bu:=bk.new_ aa
 refine st_nil (bl _ _ ?_)
 refine wp_cond_false cY ?_
 refine wp_seq_k fun dQ bv=>?_
 refine wp_seq_k fun dR bw=>?_
 refine wp_g0 [true,true] [] 120
   [vF,vF] aH (.eq (.eq (.nil))) ?_ ?_
 exact .t (fun _ w hn k=>⟨_,v_bin rfl (k.fx 14 aY) rfl (fun _=>rfl) (r_eqlS (r:=false) (by kernel_rfl)),rfl⟩)<| .a (fun k=>k.eq1 0 37 rfl) .nil
 refine aftI aH bm bn fun dS dT aI bx bz ab ag=>?_
 have cZ:=ag.fx 0 cU
 have c0:=ag.fx 4 cV
 have c1:=ag.fx 5 cW
 have c3:=ag.fx 6 cX
 have aZ:=ag.fx 14 aY
 have c5:=ag.ge 1 36 rfl
 have bA:=bo.new_ ab
 have bB:=bp.new_ ab
 have bC:=bq.new_ ab
 have bD:=br.new_ ab
 have bE:=bs.new_ ab
 have bF:=bt.new_ ab
 have bG:=bu.new_ ab
 refine st_nil (bw _ _ ?_)
 refine wp_cond_false c5 ?_
 refine wp_seq_k fun dU bH=>?_
 refine wp_g0 [true,true] [] 120
   [vF,vF] aI (.eq (.eq (.nil))) ?_ ?_
 exact .t (fun _ w hn k=>⟨_,v_bin rfl (k.fx 14 aZ) rfl (fun _=>rfl) (r_eqlS (r:=false) (by kernel_rfl)),rfl⟩)<| .a (fun k=>k.eq1 0 38 rfl) .nil
 refine aftI aI bx bz fun dV dW aJ bI bJ ac ah=>?_
 have c9:=ah.fx 0 cZ
 have da:=ah.fx 4 c0
 have db:=ah.fx 5 c1
 have dc:=ah.fx 6 c3
 have a1:=ah.fx 14 aZ
 have dd:=ah.ge 1 36 rfl
 have bK:=bA.new_ ac
 have bL:=bB.new_ ac
 have bM:=bC.new_ ac
 have bN:=bD.new_ ac
 have bO:=bE.new_ ac
 have bP:=bF.new_ ac
 have bQ:=bG.new_ ac
 refine st_nil (bH _ _ ?_)
 refine wp_cond_false dd ?_
 refine wp_seq_k fun dX bR=>?_
 refine wp_g0 [true,true] [] 120
   [vT,vT] aJ (.eq (.eq (.nil))) ?_ ?_
 exact .t (fun _ w hn k=>⟨_,v_bin rfl (k.fx 14 a1) rfl (fun _=>rfl) (r_eqlS (r:=true) (by kernel_rfl)),rfl⟩)<| .a (fun k=>k.eq1 0 39 rfl) .nil
 refine aftI aJ bI bJ fun dY dZ aK bS bT ad ai=>?_
 have de:=ai.fx 0 c9
 have df:=ai.fx 4 da
 have dg:=ai.fx 5 db
 have dh:=ai.fx 6 dc
 have d0:=ai.fx 14 a1
 have a3:=ai.ge 1 36 rfl
 have bU:=bK.new_ ad
 have bV:=bL.new_ ad
 have bW:=bM.new_ ad
 have bX:=bN.new_ ad
 have bY:=bO.new_ ad
 have bZ:=bP.new_ ad
 have b0:=bQ.new_ ad
 refine st_nil (bR _ _ ?_)
 refine wp_cond_true a3 ?_
 refine wp_skip ?_
 refine bv _ _ ?_
 refine wp_cond_true a3 ?_
 refine wp_seq_k fun d1 b1=>?_
 refine wp_g0 [true,true,true,true,true,true,false,false] [(6,false),(7,true)] 120
   [ve (.string ⟨#[47]⟩),ve (vv (cleanV v) az an aA ao),ve (vv (cleanV u) aB ap aC aq),ve (.tuple #[vv (Vl.mk 0 0 0 false [] [] 0) none 0 none 0,iv 2]),ve (vv (Vl.mk 0 0 0 false [] [] 0) none 0 none 0),ve (iv 2),vt,vt] aK (.eq (.eq (.eq (.eq (.eq (.eq (.tt (.tt (.nil))))))))) ?_ ?_
 exact .m (fun k=>k.fx 0 de)<| .t (fun _ w hn k=>⟨_,v_load rfl (k.fx 4 df) (l_agg Tryz.isAgg29 Tryz.sizeOf29 (bU.new_ hn) rfl),rfl⟩)<| .t (fun _ w hn k=>⟨_,v_load rfl (k.fx 5 dg) (l_agg Tryz.isAgg29 Tryz.sizeOf29 (bV.new_ hn) rfl),rfl⟩)<| .o1 (ck rfl rfl rfl (fun _ w hn k=>⟨#[.string ⟨#[47]⟩,vv (cleanV v) az an aA ao,vv (cleanV u) aB ap aC aq],args3 (k.eq1 0 41 rfl) (k.eq1 1 42 rfl) (k.eq1 2 43 rfl),fun _=>by kernel_rfl,sumsB_c (cleanV v) _ _ _ _ (cleanV u) _ _ _ _ _ (bX.new_ hn) (bY.new_ hn) (bZ.new_ hn) (b0.new_ hn) hvv.clean hvu.clean hns hk dm⟩) fun _=>rfl)<| .t (fun _ w hn k=>⟨_,v_extract rfl (k.eq1 3 44 rfl) rfl,rfl⟩)<| .t (fun _ w hn k=>⟨_,v_extract rfl (k.eq1 3 44 rfl) rfl,rfl⟩)<| .off<| .off .nil
 refine aftI aK bS bT fun a4 d2 aL b2 b3 b4 ay=>?_
 have a5:=ay.fx 6 dh
 have a6:=ay.ge 4 45 rfl
 have a7:=ay.ge 5 46 rfl
 have b5:=bW.new_ b4
 obtain⟨di,a8,a9,b6,dH⟩:=s_many (P:=Tryz.prog) (t:=29) (i:=0) z7 Tryz.sizeOf29 rfl rfl rfl b5 lb
 have b7:Blk di aQ 29 z7:=a9
 refine st_act rfl rfl fun d3 b8=>a_store' rfl a5 a6 a8 (b8 _ _ trivial ?_)
 have b9:=b3.trans b6 (fun _ h b=>by subst b; omega)
 refine st_take rfl rfl (y_assign (v:=iv 2) rfl a7) rfl ?_
 obtain⟨dj,ae⟩:∃ a',a'=a4.put (some 7) (iv 2):=⟨_,rfl⟩
 have dI:=pz ae aL
 have ca:=pd ae b2
 have dk:=pn ae a5 (by decide)
 have d4:=pn ae a6 (by decide)
 have d5:=pn ae a7 (by decide)
 have dl:dj.eval (.tmp 7)=iv 2:=by rw [ae]; exact put_same _ _ _ (by rw [aL]; decide)
 show stepsTo _ _ _ _ _ (a4.put (some 7) (iv 2)) _
 rw [← ae]
 refine st_nil (b1 _ _ ?_)
 refine wp_ret (ret_k ca (v:=.tuple #[vv (Vl.mk 0 0 0 false [] [] 0) none 0 none 0,iv 2]) (res_ct rfl dk dl (l_agg Tryz.isAgg29 Tryz.sizeOf29 b7 rfl)) ?_)
 exact⟨rfl,b9⟩
theorem minus_c  (v:Vl) (Av:Option Addr) (cv:Nat) (Bv:Option Addr) (dv:Nat) (w:World) (hmv:SRow w .u32 Av v.mag cv) (hsv:SRow w .u16 Bv v.s dv) (hvv:VOk v) (dg:(numericV v).2=0) (hj1:(numericV v).1.k=3):Calls Tryz.prog 13 #[.string ⟨#[45]⟩,vv v Av cv Bv dv] w (IsRet (.tuple #[vv (Vl.mk 3 (negM (Nm.mk (numericV v).1.nk (numericV v).1.nn)).k (negM (Nm.mk (numericV v).1.nk (numericV v).1.nn)).n false [] [] 0) none 0 none 0,iv 0]) w):=by
 refine enter_abs Tryz.func13 rfl fun a0 aK dh hp=>?_
 have aK:a0.tmps.size=76:=aK
 have aW:New w w:=Upd.refl _ _
 have hp0:a0.eval (.tmp 0)=.string ⟨#[45]⟩:=hp 0 _ rfl
 have hp1:a0.eval (.tmp 1)=vv v Av cv Bv dv:=hp 1 _ rfl
 refine wp_seq_k fun K1 di=>?_
 refine wp_g [true,true,true] [] [] 76
   [IsNew w 29 (c7 v Av cv Bv dv),IsNew w 29 z7,ve (iv 0)]
   [0,1] (newsCons (fun v w h=>IsNew.old h) (newsCons (fun v w h=>IsNew.old h) newsNil)) aK (.nw (.nw (.eq (.nil)))) ?_ (fun i h=>by cases h) ?_
 exact .o2 (step_allocN (cs:=(c7 v Av cv Bv dv)) (t:=29) rfl (noG rfl) (fun _ w hn k=>v_box rfl (k.fx 1 hp1) (fun w=>rfl)) (fun q _ hq hb=>⟨q,rfl,hq,hb⟩))<| .o2 (step_allocN (cs:=z7) (t:=29) rfl (noG rfl) (fun _ w hn k=>rfl) (fun q _ hq hb=>⟨q,rfl,hq,hb⟩))<| .t (fun _ w hn k=>⟨_,v_assign rfl rfl,rfl⟩) .nil
 refine aftI aK dh aW fun a2 w3 b7 dj ce ek aL=>?_
 have h8:=aL.fx 0 hp0
 obtain⟨dk,h9,cf,ch⟩:=aL.G 0 3
 obtain⟨aX,b8,ci,cj⟩:=aL.G 1 4
 have hne17:dk ≠ aX:=aL.ne 0 1 3 4 h9 b8
 have dY:=Nat.le_trans aW.size cf
 have dZ:=Nat.le_trans aW.size ci
 refine st_nil (di _ _ (wp_seq_k fun el cl=>?_))
 refine wp_seq_k fun em cm=>?_
 refine wp_g0 [true] [] 76
   [ve (.string ⟨#[45]⟩)] b7 (.eq (.nil)) ?_ ?_
 exact .m (fun k=>k.fx 0 h8) .nil
 refine aftI b7 dj ce fun en eo aY cn co aZ aw=>?_
 have dl:=aw.fx 0 h8
 have dm:=aw.fx 3 h9
 have dn:=aw.fx 4 b8
 have b9:=aw.ge 0 10 rfl
 have cp:=ch.new_ aZ
 have cq:=cj.new_ aZ
 refine st_nil (cm _ _ ?_)
 refine wp_block ?_
 refine wp_seq_k fun ep cr=>?_
 refine wp_g0 [true,true] [] 76
   [vF,vF] aY (.eq (.eq (.nil))) ?_ ?_
 exact .t (fun _ w hn k=>⟨_,v_bin rfl (k.fx 10 b9) rfl (fun _=>rfl) (r_eqlS (r:=false) (by kernel_rfl)),rfl⟩)<| .a (fun k=>k.eq1 0 13 rfl) .nil
 refine aftI aY cn co fun er es a1 ct cu a3 am=>?_
 have dp:=am.fx 0 dl
 have dq:=am.fx 3 dm
 have dr:=am.fx 4 dn
 have ca:=am.fx 10 b9
 have ds:=am.ge 1 12 rfl
 have cw:=cp.new_ a3
 have cx:=cq.new_ a3
 refine st_nil (cr _ _ ?_)
 refine wp_cond_false ds ?_
 refine wp_seq_k fun et cy=>?_
 refine wp_g0 [true,true] [] 76
   [vF,vF] a1 (.eq (.eq (.nil))) ?_ ?_
 exact .t (fun _ w hn k=>⟨_,v_bin rfl (k.fx 10 ca) rfl (fun _=>rfl) (r_eqlS (r:=false) (by kernel_rfl)),rfl⟩)<| .a (fun k=>k.eq1 0 19 rfl) .nil
 refine aftI a1 ct cu fun eu ev a4 cz cA a5 an=>?_
 have dt:=an.fx 0 dp
 have du:=an.fx 3 dq
 have dw:=an.fx 4 dr
 have cb:=an.fx 10 ca
 have dx:=an.ge 1 18 rfl
 have cB:=cw.new_ a5
 have cC:=cx.new_ a5
 refine st_nil (cy _ _ ?_)
 refine wp_cond_false dx ?_
 refine wp_seq_k fun ew cD=>?_
 refine wp_g0 [true,true] [] 76
   [vF,vF] a4 (.eq (.eq (.nil))) ?_ ?_
 exact .t (fun _ w hn k=>⟨_,v_bin rfl (k.fx 10 cb) rfl (fun _=>rfl) (r_eqlS (r:=false) (by kernel_rfl)),rfl⟩)<| .a (fun k=>k.eq1 0 22 rfl) .nil
 refine aftI a4 cz cA fun ex ey a6 cE cF a7 ao=>?_
 have dy:=ao.fx 0 dt
 have dz:=ao.fx 3 du
 have dA:=ao.fx 4 dw
 have cc:=ao.fx 10 cb
 have dB:=ao.ge 1 21 rfl
 have cG:=cB.new_ a7
 have cH:=cC.new_ a7
 refine st_nil (cD _ _ ?_)
 refine wp_cond_false dB ?_
 refine wp_seq_k fun ez cI=>?_
 refine wp_seq_k fun eA cJ=>?_
 refine wp_g0 [true,true] [] 76
   [vT,vT] a6 (.eq (.eq (.nil))) ?_ ?_
 exact .t (fun _ w hn k=>⟨_,v_bin rfl (k.fx 10 cc) rfl (fun _=>rfl) (r_eqlS (r:=true) (by kernel_rfl)),rfl⟩)<| .a (fun k=>k.eq1 0 35 rfl) .nil
 refine aftI a6 cE cF fun eB dC a8 cK ax a9 ap=>?_
 have dD:=ap.fx 0 dy
 have dE:=ap.fx 3 dz
 have dF:=ap.fx 4 dA
 have eC:=ap.fx 10 cc
 have cd:=ap.ge 1 34 rfl
 have cL:=cG.new_ a9
 have ba:=cH.new_ a9
 refine st_nil (cJ _ _ ?_)
 refine wp_cond_true cd ?_
 refine wp_skip ?_
 refine cI _ _ ?_
 refine wp_cond_true cd ?_
 refine wp_skip ?_
 refine cl _ _ ?_
 refine wp_seq_k fun eD cM=>?_
 refine wp_gS (fun W=>True) (fun W W' hn h=>trivial) trivial [true,true,true,true,true,true,false,false] [4] [(6,false),(7,true)] 76
   [ve (vv v Av cv Bv dv),(TP (numericV v).1 ((numericV v).2)),(TP (numericV v).1 ((numericV v).2)),(fun (v_:Value) (W:World)=>∃ (aq:Option Addr) (ar:Nat) (au:Option Addr) (av:Nat),v_=vv (numericV v).1 aq ar au av∧SRow W .u32 aq ((numericV v).1.mag) ar∧SRow W .u16 au ((numericV v).1.s) av),ve (iv ((numericV v).2)),IsNew dC 29 z7,vt,vt]
   [5] (newsCons (fun v w h=>IsNew.old h) newsNil) a8 (.eq (.cons (fun _ _ _ n ⟨_,_,_,_,e,h,i⟩=>⟨_,_,_,_,e,h.new_ n,i.new_ n⟩) (.cons (fun _ _ _ n ⟨_,_,_,_,e,h,i⟩=>⟨_,_,_,_,e,h.new_ n,i.new_ n⟩) (.cons (fun _ _ _ n ⟨_,_,_,_,e,h,i⟩=>⟨_,_,_,_,e,h.new_ n,i.new_ n⟩) (.eq (.nw (.tt (.tt (.nil))))))))) ?_ ?_ ?_
 refine .t (fun _ w hn k=>⟨_,v_load rfl (k.fx 3 dE) (l_agg Tryz.isAgg29 Tryz.sizeOf29 (cL.new_ hn) rfl),rfl⟩) ?_
 refine .o1 (tkC rfl (noG rfl) rfl fun _ w hn k=>(by
       refine ⟨#[vv v Av cv Bv dv],_,args1 (k.eq1 0 38 rfl),fun w=>by kernel_rfl,cnumeric_c v _ _ _ _ _ (hmv.new_ (ax.transNew hn)) (hsv.new_ (ax.transNew hn)) hvv,?_⟩
       rintro e w' ⟨A1,c2,A3,c4,rfl,hmo0,hmo1,hm⟩
       exact⟨_,rfl,hm,⟨A1,c2,A3,c4,rfl,hmo0,hmo1⟩⟩)) ?_
 refine .o1 (tk rfl rfl fun _ w hn k=>(by
       obtain⟨A9,dG,dH,dI,dJ,cN,cO⟩:(TP (numericV v).1 ((numericV v).2)) _ _:=k.dep 1 39 (by kernel_rfl) (by kernel_rfl)
       exact⟨_,v_move rfl dJ,⟨A9,dG,dH,dI,rfl,cN,cO⟩⟩)) ?_
 refine .o1 (tk rfl rfl fun _ w hn k=>(by
       obtain⟨dK,dL,dM,dN,dO,cP,cQ⟩:(TP (numericV v).1 ((numericV v).2)) _ _:=k.dep 2 37 (by kernel_rfl) (by kernel_rfl)
       exact⟨_,v_extract rfl dO rfl,⟨dK,dL,dM,dN,rfl,cP,cQ⟩⟩)) ?_
 refine .o3 ?_
 exact .o2 (step_allocN (cs:=z7) (t:=29) rfl (noG rfl) (fun _ w hn k=>rfl) (fun q _ hq hb=>⟨q,rfl,hq,hb⟩))<| .off<| .off .nil
 intro i h
 simp only [List.contains_eq_mem,List.mem_cons,List.not_mem_nil,or_false,decide_eq_true_eq] at h
 subst h
 exact eager_takeG rfl (noG rfl) fun _ w hn k=>(by
     obtain⟨eE,eF,eG,eH,dP,d0,d1⟩:(TP (numericV v).1 ((numericV v).2)) _ _:=k.dep 2 37 (by kernel_rfl) (by kernel_rfl)
     exact⟨_,fun w hS=>v_extract rfl dP rfl,rfl⟩)
 intro bb eI _ aM ab
 obtain⟨aN,bp,bq⟩:=aft ab a8 cK ax aM
 have cR:=ab.fx 0 dD
 have cS:=ab.fx 4 dF
 obtain⟨aI,ay,aJ,az,aA,br,bs⟩:=ab.G 3 40
 have aA:bb.eval (.tmp 40)=vv (numericV v).1 aI ay aJ az:=aA
 have bd:=ab.ge 4 41 rfl
 obtain⟨aB,be,aO,aC⟩:=ab.G 5 8
 have bt:=ba.new_ aM
 have hne119:aX ≠ aB:=by have h1:=ba.lt; have h2:=aO; omega
 have dS:=Nat.le_trans ax.size aO
 obtain⟨cT,bf,bg,aD,bu⟩:=s_many (P:=Tryz.prog) (t:=29) (i:=0) (c7 (numericV v).1 aI ay aJ az) Tryz.sizeOf29 rfl rfl rfl aC lb
 have bv:Blk cT aB 29 (c7 (numericV v).1 aI ay aJ az):=bg
 refine st_act rfl rfl fun d2 bw=>a_store' rfl be aA bf (bw _ _ trivial ?_)
 have bx:=br.fr aC aD
 have bz:=bs.fr aC aD
 have bA:=bu _ _ _ (hne119) bt
 have bB:=bq.trans aD (fun _ h b=>by subst b; omega)
 refine st_take rfl rfl (y_assign (v:=iv ((numericV v).2)) rfl bd) rfl ?_
 obtain⟨cU,aa⟩:∃ a',a'=bb.put (some 9) (iv ((numericV v).2)):=⟨_,rfl⟩
 have aP:=pz aa aN
 have bC:=pd aa bp
 have cV:=pn aa cR (by decide)
 have cW:=pn aa cS (by decide)
 have d3:=pn aa aA (by decide)
 have d4:=pn aa bd (by decide)
 have cX:=pn aa be (by decide)
 have bh:cU.eval (.tmp 9)=iv ((numericV v).2):=by rw [aa]; exact put_same _ _ _ (by rw [aN]; decide)
 show stepsTo _ _ _ _ _ (bb.put (some 9) (iv ((numericV v).2))) _
 rw [← aa]
 refine st_nil (cM _ _ (wp_seq_k fun d5 dT=>?_))
 refine wp_block ?_
 refine wp_seq_k fun d6 bD=>?_
 refine wp_g0 [true,true,true] [] 76
   [ve (iv ((numericV v).2)),ve (.bool (!decide (((numericV v).2)=0))),ve (.bool (!decide (((numericV v).2)=0)))] aP (.eq (.eq (.eq (.nil)))) ?_ ?_
 exact .m (fun k=>k.fx 9 bh)<| .t (fun _ w hn k=>⟨_,v_bin rfl (k.eq1 0 43 rfl) rfl (fun _=>rfl) (r_neq rfl),rfl⟩)<| .a (fun k=>k.eq1 1 44 rfl) .nil
 refine aftI aP bC bB fun d7 d8 aQ bE bF ai ah=>?_
 have bi:=ah.fx 0 cV
 have cY:=ah.fx 4 cW
 have bj:=ah.fx 8 cX
 have d9:=ah.fx 9 bh
 have cZ:=ah.ge 2 42 rfl
 have bG:=bA.new_ ai
 have aR:=bv.new_ ai
 have bH:=bx.new_ ai
 have bI:=bz.new_ ai
 refine st_nil (bD _ _ ?_)
 have aE:((!decide (((numericV v).2)=0)))=false:=(nf (decide_eq_true (dg)))
 have bJ:=hB cZ aE
 have aF:(decide (((numericV v).2)=0))=true:=nT aE
 have dQ:=oT aF
 refine wp_cond_false bJ ?_
 refine wp_seq_k fun ea bK=>?_
 refine wp_g0 (.replicate 8 true) [] 76
   [ve (.string ⟨#[45]⟩),vT,vT,ve (pv aB),ve (iv ((numericV v).1.k)),ve (.bool (decide (((numericV v).1.k)=4))),ve (.bool (decide (((numericV v).1.k)=4))),ve (.bool (decide (((numericV v).1.k)=4)))] aQ (.eq (.eq (.eq (.eq (.eq (.eq (.eq (.eq (.nil))))))))) ?_ ?_
 exact .m (fun k=>k.fx 0 bi)<| .t (fun _ w hn k=>⟨_,v_bin rfl (k.eq1 0 48 rfl) rfl (fun _=>rfl) (r_eqlS (r:=true) (by kernel_rfl)),rfl⟩)<| .m (fun k=>k.eq1 1 49 rfl)<| .gf (fun k=>k.eq1 2 50 rfl) (fun k=>k.fx 8 bj)<| .g (fun k=>k.eq1 2 50 rfl) (fun _ w hn k=>⟨_,v_load rfl (k.eq1 3 51 rfl) (l_one Tryz.isAgg3 ((aR.new_ hn).cell 0)),rfl⟩)<| .g (fun k=>k.eq1 2 50 rfl) (fun _ w hn k=>⟨_,v_bin rfl (k.eq1 4 52 rfl) rfl (fun _=>rfl) (r_eql rfl),rfl⟩)<| .t (fun _ w hn k=>⟨_,v_pickT rfl (k.eq1 2 50 rfl) (k.eq1 5 53 rfl),rfl⟩)<| .a (fun k=>k.eq1 6 54 rfl) .nil
 refine aftI aQ bE bF fun eb ec aS bL bM aj ak=>?_
 have c0:=ak.fx 0 bi
 have c1:=ak.fx 4 cY
 have c3:=ak.fx 8 bj
 have c5:=ak.ge 7 47 rfl
 have bN:=bG.new_ aj
 have bO:=aR.new_ aj
 have bP:=bH.new_ aj
 have bQ:=bI.new_ aj
 refine st_nil (bK _ _ ?_)
 have aG:(decide (((numericV v).1.k)=4))=false:=decide_eq_false (by omega)
 have dR:=oF aG
 have bR:=hB c5 aG
 refine wp_cond_false bR ?_
 refine wp_seq_k fun ed bS=>?_
 refine wp_g0 [true,true,true] [] 76
   [ve (.string ⟨#[45]⟩),vT,vT] aS (.eq (.eq (.eq (.nil)))) ?_ ?_
 exact .m (fun k=>k.fx 0 c0)<| .t (fun _ w hn k=>⟨_,v_bin rfl (k.eq1 0 60 rfl) rfl (fun _=>rfl) (r_eqlS (r:=true) (by kernel_rfl)),rfl⟩)<| .a (fun k=>k.eq1 1 61 rfl) .nil
 refine aftI aS bL bM fun ee ef aT bT bU al aH=>?_
 have c9:=aH.fx 4 c1
 have da:=aH.fx 8 c3
 have db:=aH.ge 2 59 rfl
 have bV:=bN.new_ al
 have bW:=bO.new_ al
 have dU:=bP.new_ al
 have dV:=bQ.new_ al
 refine st_nil (bS _ _ ?_)
 refine wp_cond_true db ?_
 refine wp_seq_k fun eg bX=>?_
 refine wp_g0 [true,true,true,true,false,false] [(4,false),(5,true)] 76
   [ve (.pointer (some ⟨aB,1,none⟩)),ve (nv (Nm.mk ((numericV v).1.nk) ((numericV v).1.nn))),ve (nv (negM (Nm.mk ((numericV v).1.nk) ((numericV v).1.nn)))),ve (vv (Vl.mk 3 (negM (Nm.mk ((numericV v).1.nk) ((numericV v).1.nn))).k (negM (Nm.mk ((numericV v).1.nk) ((numericV v).1.nn))).n false [] [] 0) none 0 none 0),vt,vt] aT (.eq (.eq (.eq (.eq (.tt (.tt (.nil))))))) ?_ ?_
 exact .f (fun k=>k.fx 8 da)<| .t (fun _ w hn k=>⟨_,v_load rfl (k.eq1 0 62 rfl) (l_part Tryz.isAgg23 Tryz.sizeOf23 (bW.new_ hn) lb),rfl⟩)<| .o1 (ck rfl rfl rfl (fun _ w hn k=>⟨#[nv (Nm.mk ((numericV v).1.nk) ((numericV v).1.nn))],args1 (k.eq1 1 63 rfl),fun _=>by kernel_rfl,nneg_c (Nm.mk ((numericV v).1.nk) ((numericV v).1.nn)) _ ⟩) fun _=>rfl)<| .o1 (ck rfl rfl rfl (fun _ w hn k=>⟨#[nv (negM (Nm.mk ((numericV v).1.nk) ((numericV v).1.nn)))],args1 (k.eq1 2 64 rfl),fun _=>by kernel_rfl,cnum_c (negM (Nm.mk ((numericV v).1.nk) ((numericV v).1.nn))) _ ⟩) fun _=>rfl)<| .off<| .off .nil
 refine aftI aT bT bU fun bk eh aU bY bZ b0 aV=>?_
 have bl:=aV.fx 4 c9
 have bm:=aV.ge 3 65 rfl
 have b1:=bV.new_ b0
 obtain⟨dc,bn,bo,b2,dW⟩:=s_many (P:=Tryz.prog) (t:=29) (i:=0) [iv 3,iv ((negM (Nm.mk ((numericV v).1.nk) ((numericV v).1.nn))).k),iv ((negM (Nm.mk ((numericV v).1.nk) ((numericV v).1.nn))).n),.bool false,sv none ([]) 0,sv none ([]) 0,iv 0] Tryz.sizeOf29 rfl rfl rfl b1 lb
 have b3:Blk dc aX 29 [iv 3,iv ((negM (Nm.mk ((numericV v).1.nk) ((numericV v).1.nn))).k),iv ((negM (Nm.mk ((numericV v).1.nk) ((numericV v).1.nn))).n),.bool false,sv none ([]) 0,sv none ([]) 0,iv 0]:=bo
 refine st_act rfl rfl fun ei b4=>a_store' rfl bl bm bn (b4 _ _ trivial ?_)
 have b5:=bZ.trans b2 (fun _ h b=>by subst b; omega)
 refine st_take rfl rfl (y_assign (v:=iv 0) rfl rfl) rfl ?_
 obtain⟨dd,ac⟩:∃ a',a'=bk.put (some 5) (iv 0):=⟨_,rfl⟩
 have dX:=pz ac aU
 have b6:=pd ac bY
 have de:=pn ac bl (by decide)
 have ej:=pn ac bm (by decide)
 have df:dd.eval (.tmp 5)=iv 0:=by rw [ac]; exact put_same _ _ _ (by rw [aU]; decide)
 show stepsTo _ _ _ _ _ (bk.put (some 5) (iv 0)) _
 rw [← ac]
 refine st_nil (bX _ _ ?_)
 refine wp_ret (ret_k b6 (v:=.tuple #[vv (Vl.mk 3 (negM (Nm.mk ((numericV v).1.nk) ((numericV v).1.nn))).k (negM (Nm.mk ((numericV v).1.nk) ((numericV v).1.nn))).n false [] [] 0) none 0 none 0,iv 0]) (res_ct rfl de df (l_agg Tryz.isAgg29 Tryz.sizeOf29 b3 rfl)) ?_)
 refine ⟨?_,b5⟩
 show Ending.returned (.tuple #[vv (Vl.mk 3 (negM (Nm.mk ((numericV v).1.nk) ((numericV v).1.nn))).k (negM (Nm.mk ((numericV v).1.nk) ((numericV v).1.nn))).n false [] [] 0) none 0 none 0,iv 0])=Ending.returned (.tuple #[vv (Vl.mk 3 (negM (Nm.mk (numericV v).1.nk (numericV v).1.nn)).k (negM (Nm.mk (numericV v).1.nk (numericV v).1.nn)).n false [] [] 0) none 0 none 0,iv 0])
 first|rfl|(simp only [aE,aF,aF,aG,bsm] <;> rfl)|(exfalso; omega)
def ops_c_P  (w:World) (en:Ending) (w':World):Prop:=∃ (Ar0:Option Addr) (cr0:Nat),en=.returned (svT Ar0 ([⟨#[43]⟩,⟨#[45]⟩,⟨#[42]⟩,⟨#[47]⟩,⟨#[37]⟩,⟨#[38]⟩,⟨#[124]⟩,⟨#[94]⟩,⟨#[60,60]⟩,⟨#[62,62]⟩,⟨#[62,62,62]⟩,⟨#[60]⟩,⟨#[62]⟩,⟨#[60,61]⟩,⟨#[62,61]⟩,⟨#[61,61]⟩,⟨#[33,61]⟩,⟨#[61,61,61]⟩,⟨#[33,61,61]⟩]) cr0)∧TRow w' Ar0 ([⟨#[43]⟩,⟨#[45]⟩,⟨#[42]⟩,⟨#[47]⟩,⟨#[37]⟩,⟨#[38]⟩,⟨#[124]⟩,⟨#[94]⟩,⟨#[60,60]⟩,⟨#[62,62]⟩,⟨#[62,62,62]⟩,⟨#[60]⟩,⟨#[62]⟩,⟨#[60,61]⟩,⟨#[62,61]⟩,⟨#[61,61]⟩,⟨#[33,61]⟩,⟨#[61,61,61]⟩,⟨#[33,61,61]⟩]) cr0∧New w w'
theorem ops_c  (w:World):Calls Tryz.prog 32 #[] w (ops_c_P  w):=by
 refine enter_abs Tryz.func32 rfl fun a0 ac ak hp=>?_
 have ac:a0.tmps.size=2:=ac
 have al:New w w:=Upd.refl _ _
 refine wp_seq_k fun K1 am=>?_
 refine wp_g0 [true] [] 2
   [ve (sv none ([]) 0)] ac (.eq (.nil)) ?_ ?_
 exact .t (fun _ w hn k=>⟨_,v_assign rfl rfl,rfl⟩) .nil
 refine aftI ac ak al fun a2 w3 af an ao aw ax=>?_
 refine st_nil (am _ _ (wp_seq_k fun K9 ap=>?_))
 refine wp_g0 [true,true] [] 2
   [(fun (v_:Value) (W:World)=>∃ (A3:Option Addr) (c4:Nat),v_=svT A3 ([⟨#[43]⟩,⟨#[45]⟩,⟨#[42]⟩,⟨#[47]⟩,⟨#[37]⟩,⟨#[38]⟩,⟨#[124]⟩,⟨#[94]⟩,⟨#[60,60]⟩,⟨#[62,62]⟩,⟨#[62,62,62]⟩,⟨#[60]⟩,⟨#[62]⟩,⟨#[60,61]⟩,⟨#[62,61]⟩,⟨#[61,61]⟩,⟨#[33,61]⟩,⟨#[61,61,61]⟩,⟨#[33,61,61]⟩]) c4∧TRow W A3 ([⟨#[43]⟩,⟨#[45]⟩,⟨#[42]⟩,⟨#[47]⟩,⟨#[37]⟩,⟨#[38]⟩,⟨#[124]⟩,⟨#[94]⟩,⟨#[60,60]⟩,⟨#[62,62]⟩,⟨#[62,62,62]⟩,⟨#[60]⟩,⟨#[62]⟩,⟨#[60,61]⟩,⟨#[62,61]⟩,⟨#[61,61]⟩,⟨#[33,61]⟩,⟨#[61,61,61]⟩,⟨#[33,61,61]⟩]) c4),(fun (v_:Value) (W:World)=>∃ (A9:Option Addr) (aa:Nat),v_=svT A9 ([⟨#[43]⟩,⟨#[45]⟩,⟨#[42]⟩,⟨#[47]⟩,⟨#[37]⟩,⟨#[38]⟩,⟨#[124]⟩,⟨#[94]⟩,⟨#[60,60]⟩,⟨#[62,62]⟩,⟨#[62,62,62]⟩,⟨#[60]⟩,⟨#[62]⟩,⟨#[60,61]⟩,⟨#[62,61]⟩,⟨#[61,61]⟩,⟨#[33,61]⟩,⟨#[61,61,61]⟩,⟨#[33,61,61]⟩]) aa∧TRow W A9 ([⟨#[43]⟩,⟨#[45]⟩,⟨#[42]⟩,⟨#[47]⟩,⟨#[37]⟩,⟨#[38]⟩,⟨#[124]⟩,⟨#[94]⟩,⟨#[60,60]⟩,⟨#[62,62]⟩,⟨#[62,62,62]⟩,⟨#[60]⟩,⟨#[62]⟩,⟨#[60,61]⟩,⟨#[62,61]⟩,⟨#[61,61]⟩,⟨#[33,61]⟩,⟨#[61,61,61]⟩,⟨#[33,61,61]⟩]) aa)] af (.cons (fun _ _ _ n ⟨_,_,e,h⟩=>⟨_,_,e,h.new_ n⟩) (.cons (fun _ _ _ n ⟨_,_,e,h⟩=>⟨_,_,e,h.new_ n⟩) (.nil))) ?_ ?_
 refine .o1 (tkA rfl (noG rfl) fun _ w hn k=>(by
       exact x_bsliceT (ps:=[(0,.string ⟨#[43]⟩),(1,.string ⟨#[45]⟩),(2,.string ⟨#[42]⟩),(3,.string ⟨#[47]⟩),(4,.string ⟨#[37]⟩),(5,.string ⟨#[38]⟩),(6,.string ⟨#[124]⟩),(7,.string ⟨#[94]⟩),(8,.string ⟨#[60,60]⟩),(9,.string ⟨#[62,62]⟩),(10,.string ⟨#[62,62,62]⟩),(11,.string ⟨#[60]⟩),(12,.string ⟨#[62]⟩),(13,.string ⟨#[60,61]⟩),(14,.string ⟨#[62,61]⟩),(15,.string ⟨#[61,61]⟩),(16,.string ⟨#[33,61]⟩),(17,.string ⟨#[61,61,61]⟩),(18,.string ⟨#[33,61,61]⟩)]) [⟨#[43]⟩,⟨#[45]⟩,⟨#[42]⟩,⟨#[47]⟩,⟨#[37]⟩,⟨#[38]⟩,⟨#[124]⟩,⟨#[94]⟩,⟨#[60,60]⟩,⟨#[62,62]⟩,⟨#[62,62,62]⟩,⟨#[60]⟩,⟨#[62]⟩,⟨#[60,61]⟩,⟨#[62,61]⟩,⟨#[61,61]⟩,⟨#[33,61]⟩,⟨#[61,61,61]⟩,⟨#[33,61,61]⟩] rfl (by simp [Act.eval]) elT rfl (by omega) (by omega) (by kernel_rfl) fun A1 c2 W' hmo=>⟨A1,c2,rfl,hmo⟩)) ?_
 refine .o1 (tk rfl rfl fun _ w hn k=>(by
       obtain⟨A5,c6,e7,aq⟩:(fun (v_:Value) (W:World)=>∃ (A3:Option Addr) (c4:Nat),v_=svT A3 ([⟨#[43]⟩,⟨#[45]⟩,⟨#[42]⟩,⟨#[47]⟩,⟨#[37]⟩,⟨#[38]⟩,⟨#[124]⟩,⟨#[94]⟩,⟨#[60,60]⟩,⟨#[62,62]⟩,⟨#[62,62,62]⟩,⟨#[60]⟩,⟨#[62]⟩,⟨#[60,61]⟩,⟨#[62,61]⟩,⟨#[61,61]⟩,⟨#[33,61]⟩,⟨#[61,61,61]⟩,⟨#[33,61,61]⟩]) c4∧TRow W A3 ([⟨#[43]⟩,⟨#[45]⟩,⟨#[42]⟩,⟨#[47]⟩,⟨#[37]⟩,⟨#[38]⟩,⟨#[124]⟩,⟨#[94]⟩,⟨#[60,60]⟩,⟨#[62,62]⟩,⟨#[62,62,62]⟩,⟨#[60]⟩,⟨#[62]⟩,⟨#[60,61]⟩,⟨#[62,61]⟩,⟨#[61,61]⟩,⟨#[33,61]⟩,⟨#[61,61,61]⟩,⟨#[33,61,61]⟩]) c4) _ _:=k.dep 0 1 (by kernel_rfl) (by kernel_rfl)
       exact⟨_,v_assign rfl e7,⟨A5,c6,rfl,aq⟩⟩)) ?_
 exact .nil
 refine aftI af an ao fun ar ay au ag ah av ai=>?_
 obtain⟨ad,ab,ae,aj⟩:=ai.G 1 0
 have ae:ar.eval (.tmp 0)=svT ad ([⟨#[43]⟩,⟨#[45]⟩,⟨#[42]⟩,⟨#[47]⟩,⟨#[37]⟩,⟨#[38]⟩,⟨#[124]⟩,⟨#[94]⟩,⟨#[60,60]⟩,⟨#[62,62]⟩,⟨#[62,62,62]⟩,⟨#[60]⟩,⟨#[62]⟩,⟨#[60,61]⟩,⟨#[62,61]⟩,⟨#[61,61]⟩,⟨#[33,61]⟩,⟨#[61,61,61]⟩,⟨#[33,61,61]⟩]) ab:=ae
 refine st_nil (ap _ _ ?_)
 refine wp_ret (ret_k ag (v:=svT ad ([⟨#[43]⟩,⟨#[45]⟩,⟨#[42]⟩,⟨#[47]⟩,⟨#[37]⟩,⟨#[38]⟩,⟨#[124]⟩,⟨#[94]⟩,⟨#[60,60]⟩,⟨#[62,62]⟩,⟨#[62,62,62]⟩,⟨#[60]⟩,⟨#[62]⟩,⟨#[60,61]⟩,⟨#[62,61]⟩,⟨#[61,61]⟩,⟨#[33,61]⟩,⟨#[61,61,61]⟩,⟨#[33,61,61]⟩]) ab) (res_t rfl ae _) ?_)
 exact⟨ad,ab,rfl,aj,ah⟩
def rops_c_P  (w:World) (en:Ending) (w':World):Prop:=∃ (Ar0:Option Addr) (cr0:Nat),en=.returned (svT Ar0 ([⟨#[43]⟩,⟨#[45]⟩,⟨#[42]⟩,⟨#[47]⟩,⟨#[37]⟩,⟨#[38]⟩,⟨#[124]⟩,⟨#[94]⟩,⟨#[60,60]⟩,⟨#[62,62]⟩,⟨#[62,62,62]⟩,⟨#[60]⟩,⟨#[62]⟩,⟨#[60,61]⟩,⟨#[62,61]⟩,⟨#[61,61]⟩,⟨#[33,61]⟩,⟨#[61,61,61]⟩,⟨#[33,61,61]⟩]) cr0)∧TRow w' Ar0 ([⟨#[43]⟩,⟨#[45]⟩,⟨#[42]⟩,⟨#[47]⟩,⟨#[37]⟩,⟨#[38]⟩,⟨#[124]⟩,⟨#[94]⟩,⟨#[60,60]⟩,⟨#[62,62]⟩,⟨#[62,62,62]⟩,⟨#[60]⟩,⟨#[62]⟩,⟨#[60,61]⟩,⟨#[62,61]⟩,⟨#[61,61]⟩,⟨#[33,61]⟩,⟨#[61,61,61]⟩,⟨#[33,61,61]⟩]) cr0∧New w w'
theorem rops_c  (w:World):Calls Tryz.prog 33 #[] w (rops_c_P  w):=by
 refine enter_abs Tryz.func33 rfl fun a0 ac ak hp=>?_
 have ac:a0.tmps.size=2:=ac
 have al:New w w:=Upd.refl _ _
 refine wp_seq_k fun K1 am=>?_
 refine wp_g0 [true] [] 2
   [ve (sv none ([]) 0)] ac (.eq (.nil)) ?_ ?_
 exact .t (fun _ w hn k=>⟨_,v_assign rfl rfl,rfl⟩) .nil
 refine aftI ac ak al fun a2 w3 af an ao aw ax=>?_
 refine st_nil (am _ _ (wp_seq_k fun K9 ap=>?_))
 refine wp_g0 [true,true] [] 2
   [(fun (v_:Value) (W:World)=>∃ (A3:Option Addr) (c4:Nat),v_=svT A3 ([⟨#[43]⟩,⟨#[45]⟩,⟨#[42]⟩,⟨#[47]⟩,⟨#[37]⟩,⟨#[38]⟩,⟨#[124]⟩,⟨#[94]⟩,⟨#[60,60]⟩,⟨#[62,62]⟩,⟨#[62,62,62]⟩,⟨#[60]⟩,⟨#[62]⟩,⟨#[60,61]⟩,⟨#[62,61]⟩,⟨#[61,61]⟩,⟨#[33,61]⟩,⟨#[61,61,61]⟩,⟨#[33,61,61]⟩]) c4∧TRow W A3 ([⟨#[43]⟩,⟨#[45]⟩,⟨#[42]⟩,⟨#[47]⟩,⟨#[37]⟩,⟨#[38]⟩,⟨#[124]⟩,⟨#[94]⟩,⟨#[60,60]⟩,⟨#[62,62]⟩,⟨#[62,62,62]⟩,⟨#[60]⟩,⟨#[62]⟩,⟨#[60,61]⟩,⟨#[62,61]⟩,⟨#[61,61]⟩,⟨#[33,61]⟩,⟨#[61,61,61]⟩,⟨#[33,61,61]⟩]) c4),(fun (v_:Value) (W:World)=>∃ (A9:Option Addr) (aa:Nat),v_=svT A9 ([⟨#[43]⟩,⟨#[45]⟩,⟨#[42]⟩,⟨#[47]⟩,⟨#[37]⟩,⟨#[38]⟩,⟨#[124]⟩,⟨#[94]⟩,⟨#[60,60]⟩,⟨#[62,62]⟩,⟨#[62,62,62]⟩,⟨#[60]⟩,⟨#[62]⟩,⟨#[60,61]⟩,⟨#[62,61]⟩,⟨#[61,61]⟩,⟨#[33,61]⟩,⟨#[61,61,61]⟩,⟨#[33,61,61]⟩]) aa∧TRow W A9 ([⟨#[43]⟩,⟨#[45]⟩,⟨#[42]⟩,⟨#[47]⟩,⟨#[37]⟩,⟨#[38]⟩,⟨#[124]⟩,⟨#[94]⟩,⟨#[60,60]⟩,⟨#[62,62]⟩,⟨#[62,62,62]⟩,⟨#[60]⟩,⟨#[62]⟩,⟨#[60,61]⟩,⟨#[62,61]⟩,⟨#[61,61]⟩,⟨#[33,61]⟩,⟨#[61,61,61]⟩,⟨#[33,61,61]⟩]) aa)] af (.cons (fun _ _ _ n ⟨_,_,e,h⟩=>⟨_,_,e,h.new_ n⟩) (.cons (fun _ _ _ n ⟨_,_,e,h⟩=>⟨_,_,e,h.new_ n⟩) (.nil))) ?_ ?_
 refine .o1 (tkA rfl (noG rfl) fun _ w hn k=>(by
       exact x_bsliceT (ps:=[(0,.string ⟨#[43]⟩),(1,.string ⟨#[45]⟩),(2,.string ⟨#[42]⟩),(3,.string ⟨#[47]⟩),(4,.string ⟨#[37]⟩),(5,.string ⟨#[38]⟩),(6,.string ⟨#[124]⟩),(7,.string ⟨#[94]⟩),(8,.string ⟨#[60,60]⟩),(9,.string ⟨#[62,62]⟩),(10,.string ⟨#[62,62,62]⟩),(11,.string ⟨#[60]⟩),(12,.string ⟨#[62]⟩),(13,.string ⟨#[60,61]⟩),(14,.string ⟨#[62,61]⟩),(15,.string ⟨#[61,61]⟩),(16,.string ⟨#[33,61]⟩),(17,.string ⟨#[61,61,61]⟩),(18,.string ⟨#[33,61,61]⟩)]) [⟨#[43]⟩,⟨#[45]⟩,⟨#[42]⟩,⟨#[47]⟩,⟨#[37]⟩,⟨#[38]⟩,⟨#[124]⟩,⟨#[94]⟩,⟨#[60,60]⟩,⟨#[62,62]⟩,⟨#[62,62,62]⟩,⟨#[60]⟩,⟨#[62]⟩,⟨#[60,61]⟩,⟨#[62,61]⟩,⟨#[61,61]⟩,⟨#[33,61]⟩,⟨#[61,61,61]⟩,⟨#[33,61,61]⟩] rfl (by simp [Act.eval]) elT rfl (by omega) (by omega) (by kernel_rfl) fun A1 c2 W' hmo=>⟨A1,c2,rfl,hmo⟩)) ?_
 refine .o1 (tk rfl rfl fun _ w hn k=>(by
       obtain⟨A5,c6,e7,aq⟩:(fun (v_:Value) (W:World)=>∃ (A3:Option Addr) (c4:Nat),v_=svT A3 ([⟨#[43]⟩,⟨#[45]⟩,⟨#[42]⟩,⟨#[47]⟩,⟨#[37]⟩,⟨#[38]⟩,⟨#[124]⟩,⟨#[94]⟩,⟨#[60,60]⟩,⟨#[62,62]⟩,⟨#[62,62,62]⟩,⟨#[60]⟩,⟨#[62]⟩,⟨#[60,61]⟩,⟨#[62,61]⟩,⟨#[61,61]⟩,⟨#[33,61]⟩,⟨#[61,61,61]⟩,⟨#[33,61,61]⟩]) c4∧TRow W A3 ([⟨#[43]⟩,⟨#[45]⟩,⟨#[42]⟩,⟨#[47]⟩,⟨#[37]⟩,⟨#[38]⟩,⟨#[124]⟩,⟨#[94]⟩,⟨#[60,60]⟩,⟨#[62,62]⟩,⟨#[62,62,62]⟩,⟨#[60]⟩,⟨#[62]⟩,⟨#[60,61]⟩,⟨#[62,61]⟩,⟨#[61,61]⟩,⟨#[33,61]⟩,⟨#[61,61,61]⟩,⟨#[33,61,61]⟩]) c4) _ _:=k.dep 0 1 (by kernel_rfl) (by kernel_rfl)
       exact⟨_,v_assign rfl e7,⟨A5,c6,rfl,aq⟩⟩)) ?_
 exact .nil
 refine aftI af an ao fun ar ay au ag ah av ai=>?_
 obtain⟨ad,ab,ae,aj⟩:=ai.G 1 0
 have ae:ar.eval (.tmp 0)=svT ad ([⟨#[43]⟩,⟨#[45]⟩,⟨#[42]⟩,⟨#[47]⟩,⟨#[37]⟩,⟨#[38]⟩,⟨#[124]⟩,⟨#[94]⟩,⟨#[60,60]⟩,⟨#[62,62]⟩,⟨#[62,62,62]⟩,⟨#[60]⟩,⟨#[62]⟩,⟨#[60,61]⟩,⟨#[62,61]⟩,⟨#[61,61]⟩,⟨#[33,61]⟩,⟨#[61,61,61]⟩,⟨#[33,61,61]⟩]) ab:=ae
 refine st_nil (ap _ _ ?_)
 refine wp_ret (ret_k ag (v:=svT ad ([⟨#[43]⟩,⟨#[45]⟩,⟨#[42]⟩,⟨#[47]⟩,⟨#[37]⟩,⟨#[38]⟩,⟨#[124]⟩,⟨#[94]⟩,⟨#[60,60]⟩,⟨#[62,62]⟩,⟨#[62,62,62]⟩,⟨#[60]⟩,⟨#[62]⟩,⟨#[60,61]⟩,⟨#[62,61]⟩,⟨#[61,61]⟩,⟨#[33,61]⟩,⟨#[61,61,61]⟩,⟨#[33,61,61]⟩]) ab) (res_t rfl ae _) ?_)
 exact⟨ad,ab,rfl,aj,ah⟩
theorem texts_c (Aa:Option Addr) (a:List ByteArray) (ca:Nat) (Ab:Option Addr) (b:List ByteArray) (cb:Nat) (w:World) (hra:TRow w Aa a ca) (hrb:TRow w Ab b cb) (hab:a=b):Calls Tryz.prog 31 #[svT Aa a ca,svT Ab b cb] w (IsRet (.bool true) w):=by
 refine enter_abs Tryz.func31 rfl fun a0 ak bg hp=>?_
 have ak:a0.tmps.size=26:=ak
 have bh:New w w:=Upd.refl _ _
 have hp0:a0.eval (.tmp 0)=svT Aa a ca:=hp 0 _ rfl
 have hp1:a0.eval (.tmp 1)=svT Ab b cb:=hp 1 _ rfl
 have hmx:=hra.max
 have hmy:=hrb.max
 have hlab:a.length=b.length:=by rw [hab]
 refine wp_seq_k fun K1 bi=>?_
 refine wp_g0 [true] [] 26
   [vF] ak (.eq (.nil)) ?_ ?_
 exact .t (fun _ w hn k=>⟨_,v_assign rfl rfl,rfl⟩) .nil
 refine aftI ak bg bh fun a2 w3 az bj aJ bP aA=>?_
 have h8:=aA.fx 0 hp0
 have h9:=aA.fx 1 hp1
 refine st_nil (bi _ _ (wp_seq_k fun bQ aK=>?_))
 refine wp_seq_k fun bR aL=>?_
 refine wp_g0 [true,true,true,true,true] [] 26
   [ve (svT Aa a ca),ve (iv (a.length:Int)),ve (svT Ab b cb),ve (iv (b.length:Int)),ve (.bool (!decide ((a.length:Int)=(b.length:Int))))] az (.eq (.eq (.eq (.eq (.eq (.nil)))))) ?_ ?_
 exact .m (fun k=>k.fx 0 h8)<| .t (fun _ w hn k=>⟨_,v_lenT rfl elT (k.eq1 0 6 rfl),rfl⟩)<| .m (fun k=>k.fx 1 h9)<| .t (fun _ w hn k=>⟨_,v_lenT rfl elT (k.eq1 2 8 rfl),rfl⟩)<| .t (fun _ w hn k=>⟨_,v_bin rfl (k.eq1 1 7 rfl) (k.eq1 3 9 rfl) (fun _=>rfl) (r_neq rfl),rfl⟩) .nil
 refine aftI az bj aJ fun bS bT al aM aN bJ ai=>?_
 have bk:=ai.fx 0 h8
 have bl:=ai.fx 1 h9
 have bm:=ai.ge 4 10 rfl
 refine st_nil (aL _ _ ?_)
 have am:((!decide ((a.length:Int)=(b.length:Int))))=false:=(nf (decide_eq_true (by omega)))
 have aO:=hB bm am
 have aP:(decide ((a.length:Int)=(b.length:Int)))=true:=nT am
 have bG:=oT aP
 refine wp_cond_false aO ?_
 refine wp_skip ?_
 refine aK _ _ ?_
 refine wp_seq_k fun bU aQ=>?_
 refine wp_seq_k fun bV aR=>?_
 refine wp_g0 [true] [] 26
   [ve (iv 0)] al (.eq (.nil)) ?_ ?_
 exact .t (fun _ w hn k=>⟨_,v_assign rfl rfl,rfl⟩) .nil
 refine aftI al aM aN fun bW bX aS aT aU bK aj=>?_
 have bn:=aj.fx 0 bk
 have bo:=aj.fx 1 bl
 have bp:=aj.ge 0 5 rfl
 refine st_nil (aR _ _ ?_)
 refine wp_block ?_
 refine wp_loopX (fun (mm:Nat) (aa:Act) (ww:World)=>∃ (i:Nat),mm=a.length - i∧aa.tmps.size=26∧aa.defers=[]∧New w ww∧aa.eval (.tmp 5)=iv (i:Int)∧aa.eval (.tmp 0)=svT Aa a ca∧aa.eval (.tmp 1)=svT Ab b cb∧(i≤a.length)) (fun mm=>mm) ⟨_,⟨0,rfl,aS,aT,aU,bp,bn,bo,(Nat.zero_le _)⟩⟩ ?_
 rintro mm bY bZ ⟨i,hmm,an,aV,aW,aB,aC,bq,hi⟩
 refine wp_seq_k fun b0 aX=>?_
 refine wp_seq_k fun b2 aY=>?_
 refine wp_g0 [true,true,true,true] [] 26
   [ve (iv (i:Int)),ve (svT Aa a ca),ve (iv (a.length:Int)),ve (.bool (decide ((i:Int) < (a.length:Int))))] an (.eq (.eq (.eq (.eq (.nil))))) ?_ ?_
 exact .m (fun k=>k.fx 5 aB)<| .m (fun k=>k.fx 0 aC)<| .t (fun _ w hn k=>⟨_,v_lenT rfl elT (k.eq1 1 12 rfl),rfl⟩)<| .t (fun _ w hn k=>⟨_,v_bin rfl (k.eq1 0 11 rfl) (k.eq1 2 13 rfl) (fun _=>rfl) (r_lssK rfl),rfl⟩) .nil
 refine aftI an aV aW fun b4 b6 ad ao ae bL af=>?_
 have ap:=af.fx 5 aB
 have aD:=af.fx 0 aC
 have aE:=af.fx 1 bq
 have aF:=af.ge 3 14 rfl
 refine st_nil (aY _ _ ?_)
 rcases bc (decide ((i:Int) < (a.length:Int))) with ac|ac
 have av:=oT ac
 have aZ:=hB aF ac
 refine wp_cond_true aZ ?_
 refine wp_skip ?_
 refine aX _ _ ?_
 refine wp_seq_k fun b7 a1=>?_
 refine wp_block ?_
 refine wp_seq_k fun b8 a3=>?_
 refine wp_g0 (.replicate 9 true) [] 26
   [ve (svT Aa a ca),ve (iv (i:Int)),
    (EP (.string (a.getD i ⟨#[]⟩))),ve (.string (a.getD i ⟨#[]⟩)),ve (svT Ab b cb),ve (iv (i:Int)),
    (EP (.string (b.getD i ⟨#[]⟩))),ve (.string (b.getD i ⟨#[]⟩)),ve (.bool (!strEq (a.getD i ⟨#[]⟩) (b.getD i ⟨#[]⟩)))] ad (.eq (.eq (.cons (fun _ _ _ n ⟨_,_,e,h⟩=>⟨_,_,e,h.new_ n⟩) (.eq (.eq (.eq (.cons (fun _ _ _ n ⟨_,_,e,h⟩=>⟨_,_,e,h.new_ n⟩) (.eq (.eq (.nil)))))))))) ?_ ?_
 refine .m (fun k=>k.fx 0 aD)<| .m (fun k=>k.fx 5 ap) ?_
 refine .o1 (tk rfl rfl fun _ w hn k=>(by
       exact x_eaddrT rfl elT (k.eq1 0 17 rfl) (k.eq1 1 18 rfl) (hra.new_ (ae.transNew hn)) (by omega) fun b1 o2 hme=>⟨b1,o2,rfl,hme⟩)) ?_
 refine .o1 (tk rfl rfl fun _ w hn k=>(by
       obtain⟨b5,o6,e7,bt⟩:(EP (.string (a.getD i ⟨#[]⟩))) _ _:=k.dep 2 19 (by kernel_rfl) (by kernel_rfl)
       exact⟨_,v_load rfl e7 (l_one Tryz.isAgg9 bt.1),rfl⟩)) ?_
 refine .m (fun k=>k.fx 1 aE)<| .m (fun k=>k.fx 5 ap) ?_
 refine .o1 (tk rfl rfl fun _ w hn k=>(by
       exact x_eaddrT rfl elT (k.eq1 4 21 rfl) (k.eq1 5 22 rfl) (hrb.new_ (ae.transNew hn)) (by omega) fun b9 bu hme=>⟨b9,bu,rfl,hme⟩)) ?_
 refine .o1 (tk rfl rfl fun _ w hn k=>(by
       obtain⟨cc,cd,bv,a4⟩:(EP (.string (b.getD i ⟨#[]⟩))) _ _:=k.dep 6 23 (by kernel_rfl) (by kernel_rfl)
       exact⟨_,v_load rfl bv (l_one Tryz.isAgg9 a4.1),rfl⟩)) ?_
 exact .t (fun _ w hn k=>⟨_,v_bin rfl (k.eq1 3 20 rfl) (k.eq1 7 24 rfl) (fun _=>rfl) (r_neqS rfl),rfl⟩) .nil
 refine aftI ad ao ae fun ce cf aq a5 a6 bM ag=>?_
 have aG:=ag.fx 5 ap
 have bw:=ag.fx 0 aD
 have bx:=ag.fx 1 aE
 have bz:=ag.ge 8 25 rfl
 refine st_nil (a3 _ _ ?_)
 have ar:((!strEq (a.getD i ⟨#[]⟩) (b.getD i ⟨#[]⟩)))=false:=(nf (by rw [hab]; exact str_self _))
 have a7:=hB bz ar
 have bN:(strEq (a.getD i ⟨#[]⟩) (b.getD i ⟨#[]⟩))=true:=nT ar
 refine wp_cond_false a7 ?_
 refine wp_skip ?_
 refine a1 _ _ ?_
 refine wp_g0 [true,true,false] [(2,true)] 26
   [ve (iv (i:Int)),ve (iv ((i + 1:Nat):Int)),vt] aq (.eq (.eq (.tt (.nil)))) ?_ ?_
 exact .m (fun k=>k.fx 5 aG)<| .t (fun _ w hn k=>⟨_,v_bin rfl (k.eq1 0 15 rfl) rfl (fun _=>rfl) (n_add (by omega) (IntWalk.i64_in _ (by omega))),rfl⟩)<| .off .nil
 refine aftI aq a5 a6 fun aH ch au a8 a9 bO ah=>?_
 have ci:=ah.fx 5 aG
 have bA:=ah.fx 0 bw
 have bB:=ah.fx 1 bx
 have aI:=ah.ge 1 16 rfl
 refine st_take rfl rfl (y_assign (v:=iv ((i + 1:Nat):Int)) rfl aI) rfl ?_
 obtain⟨bC,ab⟩:∃ a',a'=aH.put (some 5) (iv ((i + 1:Nat):Int)):=⟨_,rfl⟩
 have ba:=pz ab au
 have bb:=pd ab a8
 have bD:=pn ab bA (by decide)
 have bE:=pn ab bB (by decide)
 have cj:=pn ab aI (by decide)
 have bF:bC.eval (.tmp 5)=iv ((i + 1:Nat):Int):=by rw [ab]; exact put_same _ _ _ (by rw [au]; decide)
 show stepsTo _ _ _ _ _ (aH.put (some 5) (iv ((i + 1:Nat):Int))) _
 rw [← ab]
 refine st_nil ?_
 refine then_n ?_
 exact⟨_,⟨i + 1,rfl,ba,bb,a9,(bF.trans (congrArg (Value.int .i64) (by omega))),bD,bE,(by omega)⟩,(by omega)⟩
 have av:=oF ac
 have bd:=hB aF ac
 refine wp_cond_false bd ?_
 refine wp_exit ?_
 refine aQ _ _ ?_
 refine wp_seq_k fun cl be=>?_
 refine wp_g0 [true] [] 26
   [vT] ad (.eq (.nil)) ?_ ?_
 exact .t (fun _ w hn k=>⟨_,v_assign rfl rfl,rfl⟩) .nil
 refine aftI ad ao ae fun cm cn bH aw ax bI ay=>?_
 have bf:=ay.ge 0 4 rfl
 refine st_nil (be _ _ ?_)
 refine wp_ret (ret_k aw (v:=.bool true) (res_t rfl bf _) ?_)
 exact⟨rfl,ax⟩
def obig_c_P (Am:Option Addr) (m:List Nat) (cm:Nat) (w:World) (en:Ending) (w':World):Prop:=∃ (Ar0:Option Addr) (cr0:Nat),en=.returned (vv (Vl.mk 4 0 0 false m [] 0) Ar0 cr0 none 0)∧SRow w' .u32 Ar0 m cr0∧New w w'
theorem obig_c (Am:Option Addr) (m:List Nat) (cm:Nat) (w:World) (hrm:SRow w .u32 Am m cm):Calls Tryz.prog 30 #[sv Am m cm] w (obig_c_P Am m cm w):=by
 refine enter_abs Tryz.func30 rfl fun a0 aa aw hp=>?_
 have aa:a0.tmps.size=6:=aa
 have af:New w w:=Upd.refl _ _
 have hp0:a0.eval (.tmp 0)=sv Am m cm:=hp 0 _ rfl
 refine wp_seq_k fun K1 ax=>?_
 refine wp_g [true] [] [] 6
   [IsNew w 29 z7]
   [0] (newsCons (fun v w h=>IsNew.old h) newsNil) aa (.nw (.nil)) ?_ (fun i h=>by cases h) ?_
 exact .o2 (step_allocN (cs:=z7) (t:=29) rfl (noG rfl) (fun _ w hn k=>rfl) (fun q _ hq hb=>⟨q,rfl,hq,hb⟩)) .nil
 refine aftI aa aw af fun a2 w3 ag ay aj aF ah=>?_
 have h8:=ah.fx 0 hp0
 obtain⟨az,h9,ak,al⟩:=ah.G 0 2
 have aC:=Nat.le_trans af.size ak
 refine st_nil (ax _ _ (wp_seq_k fun aG am=>?_))
 refine wp_g0 [true,true,true,false] [(3,false)] 6
   [ve (sv Am m cm),ve (.agg #[.bool false,sv Am m cm]),ve (vv (Vl.mk 4 0 0 false m [] 0) Am cm none 0),vt] ag (.eq (.eq (.eq (.tt (.nil))))) ?_ ?_
 exact .m (fun k=>k.fx 0 h8)<| .t (fun _ w hn k=>⟨_,v_build (ps:=[(1,sv Am m cm)]) rfl (parts1 (k.eq1 0 3 rfl)) (by kernel_rfl),rfl⟩)<| .t (fun _ w hn k=>⟨_,v_build (ps:=[(0,iv 4),(2,.agg #[.bool false,sv Am m cm])]) rfl (parts2 rfl (k.eq1 1 4 rfl)) (by kernel_rfl),rfl⟩)<| .off .nil
 refine aftI ag ay aj fun aH aI aD an ao ap ab=>?_
 have ai:=ab.fx 2 h9
 have aA:=ab.ge 2 5 rfl
 have aq:=al.new_ ap
 obtain⟨aB,ad,ae,ar,aE⟩:=s_many (P:=Tryz.prog) (t:=29) (i:=0) [iv 4,iv 0,iv 0,.bool false,sv Am m cm,sv none ([]) 0,iv 0] Tryz.sizeOf29 rfl rfl rfl aq lb
 have au:Blk aB az 29 [iv 4,iv 0,iv 0,.bool false,sv Am m cm,sv none ([]) 0,iv 0]:=ae
 refine st_act rfl rfl fun aJ av=>a_store' rfl ai aA ad (av _ _ trivial ?_)
 have ac:=ao.trans ar (fun _ h b=>by subst b; omega)
 refine st_nil (am _ _ ?_)
 refine wp_ret (ret_k an (v:=vv (Vl.mk 4 0 0 false m [] 0) Am cm none 0) (res_c rfl ai (l_agg Tryz.isAgg29 Tryz.sizeOf29 au rfl)) ?_)
 exact⟨Am,cm,rfl,(hrm.new_ ac),ac⟩
def ostr_c_P (s:ByteArray) (w:World) (en:Ending) (w':World):Prop:=∃ (Ar0:Option Addr) (cr0:Nat),en=.returned (vv (Vl.mk 5 0 0 false [] (asc s) 0) none 0 Ar0 cr0)∧SRow w' .u16 Ar0 (asc s) cr0∧New w w'
end Go.Proofs.YtjakfchffigkkaaGreatDoor
