import Derived.Test.YtjakfchffigkkaaGreatDoorOqb
namespace Go.Proofs.YtjakfchffigkkaaGreatDoor
open Go.RowKit
set_option linter.unusedSimpArgs false
set_option linter.unusedVariables false
set_option maxHeartbeats 16000000
set_option maxRecDepth 100000
theorem strange_c (Au:Option Addr) (u:List Nat) (cu:Nat) (w:World) (hru:SRow w .u16 Au u cu) (hu:U16s u):Calls Tryz.prog 96 #[sv Au u cu] w (IsRet (.bool (strangeN u)) w):=by
 refine enter_abs Tryz.func96 rfl fun a0 aL cU hp=>?_
 have aL:a0.tmps.size=38:=aL
 have cV:New w w:=Upd.refl _ _
 have hp0:a0.eval (.tmp 0)=sv Au u cu:=hp 0 _ rfl
 have hmx:=hru.max
 refine wp_seq_k fun K1 cW=>?_
 refine wp_g0 [true] [] 38
   [vF] aL (.eq (.nil)) ?_ ?_
 exact .t (fun _ w hn k=>⟨_,v_assign rfl rfl,rfl⟩) .nil
 refine aftI aL cU cV fun a2 w3 bV cX cY eb cZ=>?_
 have h8:=cZ.fx 0 hp0
 refine st_nil (cW _ _ (wp_seq_k fun ec b9=>?_))
 refine wp_g0 [true] [] 38
   [vF] bV (.eq (.nil)) ?_ ?_
 exact .t (fun _ w hn k=>⟨_,v_assign rfl rfl,rfl⟩) .nil
 refine aftI bV cX cY fun ed ee aY ca cb dJ aZ=>?_
 have c0:=aZ.fx 0 h8
 have c1:=aZ.ge 0 3 rfl
 refine st_nil (b9 _ _ (wp_seq_k fun ef cc=>?_))
 refine wp_seq_k fun eg cd=>?_
 refine wp_g0 [true,true,true] [] 38
   [ve (sv Au u cu),ve (iv (u.length:Int)),ve (iv 0)] aY (.eq (.eq (.eq (.nil)))) ?_ ?_
 exact .m (fun k=>k.fx 0 c0)<| .t (fun _ w hn k=>⟨_,v_lenR rfl elU (k.eq1 0 6 rfl),rfl⟩)<| .t (fun _ w hn k=>⟨_,v_move rfl rfl,rfl⟩) .nil
 refine aftI aY ca cb fun eh ei ce cf ch dK au=>?_
 have c2:=au.fx 3 c1
 have c3:=au.ge 0 6 rfl
 have c4:=au.ge 1 7 rfl
 have c5:=au.ge 2 8 rfl
 refine st_nil (cd _ _ ?_)
 refine wp_block ?_
 refine wp_loopX (fun (mm:Nat) (aa:Act) (ww:World)=>∃ (i:Nat),mm=u.length - i∧aa.tmps.size=38∧aa.defers=[]∧New w ww∧aa.eval (.tmp 3)=.bool ((u.take i).any dgtN)∧aa.eval (.tmp 8)=iv (i:Int)∧aa.eval (.tmp 6)=sv Au u cu∧aa.eval (.tmp 7)=iv (u.length:Int)∧(i≤u.length)∧((u.take i).all okcN=true)) (fun mm=>mm) ⟨_,⟨0,rfl,ce,cf,ch,(c2.trans rfl),c5,c3,c4,(Nat.zero_le _),rfl⟩⟩ ?_
 rintro mm ej ek ⟨i,hmm,a1,ci,cj,c6,bW,c8,bX,hi,hall⟩
 refine wp_seq_k fun el cl=>?_
 refine wp_g0 [true] [] 38
   [ve (.bool (decide ((i:Int) < (u.length:Int))))] a1 (.eq (.nil)) ?_ ?_
 exact .t (fun _ w hn k=>⟨_,v_bin rfl (k.fx 8 bW) (k.fx 7 bX) (fun _=>rfl) (r_lssK rfl),rfl⟩) .nil
 refine aftI a1 ci cj fun em en av a3 aI dL an=>?_
 have bY:=an.fx 3 c6
 have bZ:=an.fx 8 bW
 have b0:=an.fx 6 c8
 have c9:=an.fx 7 bX
 have b2:=an.ge 0 9 rfl
 refine st_nil (cl _ _ (wp_seq_k fun eo cm=>?_))
 rcases bc (decide ((i:Int) < (u.length:Int))) with ao|ao
 have bt:=oT ao
 have cn:=hB b2 ao
 refine wp_cond_true cn ?_
 refine wp_skip ?_
 refine cm _ _ ?_
 refine wp_seq_j (fun (aa:Act) (ww:World)=>aa.tmps.size=38∧aa.defers=[]∧New w ww∧aa.eval (.tmp 3)=.bool ((u.take (i + 1)).any dgtN)∧aa.eval (.tmp 6)=sv Au u cu∧aa.eval (.tmp 7)=iv (u.length:Int)∧aa.eval (.tmp 8)=iv (i:Int)∧(okcN (u.getD i 0)=true)) ?_ ?_
 rintro ep er ⟨a4,co,cp,da,db,dc,b4,hok⟩
 refine wp_g0 [true,false] [(1,true)] 38
   [ve (iv ((i + 1:Nat):Int)),vt] a4 (.eq (.tt (.nil))) ?_ ?_
 exact .t (fun _ w hn k=>⟨_,v_bin rfl (k.fx 8 b4) rfl (fun _=>rfl) (n_add (by omega) (IntWalk.i64_in _ (by omega))),rfl⟩)<| .off .nil
 refine aftI a4 co cp fun b6 es a5 cq cr dM ap=>?_
 have dd:=ap.fx 3 da
 have de:=ap.fx 6 db
 have df:=ap.fx 7 dc
 have et:=ap.fx 8 b4
 have b7:=ap.ge 0 36 rfl
 refine st_take rfl rfl (y_move (v:=iv ((i + 1:Nat):Int)) rfl b7) rfl ?_
 obtain⟨dg,af⟩:∃ a',a'=b6.put (some 8) (iv ((i + 1:Nat):Int)):=⟨_,rfl⟩
 have cs:=pz af a5
 have ct:=pd af cq
 have dh:=pn af dd (by decide)
 have di:=pn af de (by decide)
 have dj:=pn af df (by decide)
 have eu:=pn af b7 (by decide)
 have dk:dg.eval (.tmp 8)=iv ((i + 1:Nat):Int):=by rw [af]; exact put_same _ _ _ (by rw [a5]; decide)
 show stepsTo _ _ _ _ _ (b6.put (some 8) (iv ((i + 1:Nat):Int))) _
 rw [← af]
 refine st_nil ?_
 refine then_n ?_
 exact⟨_,⟨i + 1,rfl,cs,ct,cr,dh,(dk.trans (congrArg (Value.int .i64) (by omega))),di,dj,(by omega),(all_up (by omega) hall hok)⟩,(by omega)⟩
 intro ev aw
 refine wp_block ?_
 refine wp_seq_k fun ew cv=>?_
 have hb:=hu.at16 i
 refine wp_g0 [true,true,true] [] 38
   [(EP (.int .u16 ((u.getD i 0:Nat):Int))),ve (.int .u16 ((u.getD i 0:Nat):Int)),ve (.int .u16 ((u.getD i 0:Nat):Int))] av (.cons (fun _ _ _ n ⟨_,_,e,h⟩=>⟨_,_,e,h.new_ n⟩) (.eq (.eq (.nil)))) ?_ ?_
 refine .o1 (tk rfl rfl fun _ w hn k=>(by
       exact x_eaddr (k:=.u16) rfl elU (k.fx 6 b0) (k.fx 8 bZ) (hru.new_ (aI.transNew hn)) (by omega) fun b1 o2 hme=>⟨b1,o2,rfl,hme⟩)) ?_
 refine .o1 (tk rfl rfl fun _ w hn k=>(by
       obtain⟨b5,o6,e7,dl⟩:(EP (.int .u16 ((u.getD i 0:Nat):Int))) _ _:=k.dep 0 10 (by kernel_rfl) (by kernel_rfl)
       exact⟨_,v_load rfl e7 (l_one Tryz.isAgg74 dl.1),rfl⟩)) ?_
 exact .a (fun k=>k.eq1 1 11 rfl) .nil
 refine aftI av a3 aI fun ex ey a6 cw bu dN aq=>?_
 have b8:=aq.fx 3 bY
 have dm:=aq.fx 8 bZ
 have dn:=aq.fx 6 b0
 have dp:=aq.fx 7 c9
 have a7:=aq.ge 2 5 rfl
 refine st_nil (cv _ _ ?_)
 refine wp_seq_j (fun (aa:Act) (ww:World)=>aa.tmps.size=38∧aa.defers=[]∧New w ww∧aa.eval (.tmp 3)=.bool ((u.take (i + 1)).any dgtN)∧aa.eval (.tmp 5)=.int .u16 ((u.getD i 0:Nat):Int)∧aa.eval (.tmp 6)=sv Au u cu∧aa.eval (.tmp 7)=iv (u.length:Int)∧aa.eval (.tmp 8)=iv (i:Int)) ?_ ?_
 rintro dO dP ⟨aM,bv,bw,cx,a8,cy,cz,cA⟩
 refine wp_block ?_
 refine wp_seq_k fun dQ ax=>?_
 refine wp_seq_k fun dR bx=>?_
 have hb:=hu.at16 i
 refine wp_g0 [true,true,true] [] 38
   [ve (.int .u16 ((u.getD i 0:Nat):Int)),ve (.bool (dgtN (u.getD i 0))),ve (.bool (dgtN (u.getD i 0)))] aM (.eq (.eq (.eq (.nil)))) ?_ ?_
 exact .m (fun k=>k.fx 5 a8)<| .o1 (ck rfl rfl rfl (fun _ w hn k=>⟨#[.int .u16 ((u.getD i 0:Nat):Int)],args1 (k.eq1 0 18 rfl),fun _=>by kernel_rfl,digit_c (u.getD i 0) _ (by omega)⟩) fun _=>rfl)<| .a (fun k=>k.eq1 1 19 rfl) .nil
 refine aftI aM bv bw fun dS dT ay aN aO dA ag=>?_
 have a9:=ag.fx 3 cx
 have aJ:=ag.fx 5 a8
 have ba:=ag.fx 6 cy
 have bb:=ag.fx 7 cz
 have bd:=ag.fx 8 cA
 have be:=ag.ge 2 17 rfl
 refine st_nil (bx _ _ ?_)
 rcases bc (dgtN (u.getD i 0)) with ad|ad
 have aP:=hB be ad
 refine wp_cond_true aP ?_
 refine wp_skip ?_
 refine ax _ _ ?_
 refine wp_cond_true aP ?_
 refine wp_skip ?_
 exact aw _ _ ⟨ay,aN,aO,a9,ba,bb,bd,(by unfold okcN; simp only [ad,bsm])⟩
 have bz:=hB be ad
 refine wp_cond_false bz ?_
 refine wp_seq_k fun dU bA=>?_
 refine wp_g0 [true,true,true,true,true,true,true] [] 38
   [ve (.int .u16 ((u.getD i 0:Nat):Int)),ve (.bool (!decide (((u.getD i 0:Nat):Int) < 97))),ve (.bool (!decide (((u.getD i 0:Nat):Int) < 97))),ve (gq (!decide (((u.getD i 0:Nat):Int) < 97)) (.int .u16 ((u.getD i 0:Nat):Int))),ve (gq (!decide (((u.getD i 0:Nat):Int) < 97)) (.bool (decide (((u.getD i 0:Nat):Int)≤102)))),ve (.bool ((!decide (((u.getD i 0:Nat):Int) < 97)) && (decide (((u.getD i 0:Nat):Int)≤102)))),ve (.bool ((!decide (((u.getD i 0:Nat):Int) < 97)) && (decide (((u.getD i 0:Nat):Int)≤102))))] ay (.eq (.eq (.eq (.eq (.eq (.eq (.eq (.nil)))))))) ?_ ?_
 exact .m (fun k=>k.fx 5 aJ)<| .t (fun _ w hn k=>⟨_,v_bin rfl (k.eq1 0 20 rfl) rfl (fun _=>rfl) (r_geqK rfl),rfl⟩)<| .m (fun k=>k.eq1 1 21 rfl)<| .o1 (sc (G:=(!decide (((u.getD i 0:Nat):Int) < 97))) rfl rfl rfl (fun _ _ k=>g0 (k.eq1 2 22 rfl)) (fun hG _ w hn k=>v_move rfl (k.fx 5 aJ)))<| .o1 (sc (G:=(!decide (((u.getD i 0:Nat):Int) < 97))) rfl rfl rfl (fun _ _ k=>g0 (k.eq1 2 22 rfl)) (fun hG _ w hn k=>v_bin rfl (cT hG (k.eq1 3 23 rfl)) rfl (fun _=>rfl) (r_leqK rfl)))<| .t (fun _ w hn k=>⟨_,v_and rfl (k.eq1 2 22 rfl) (fun hg=>(cT hg (k.eq1 4 24 rfl))) rfl,rfl⟩)<| .a (fun k=>k.eq1 5 25 rfl) .nil
 refine aftI ay aN aO fun dV dW az aQ aR dB ah=>?_
 have bf:=ah.fx 3 a9
 have aK:=ah.fx 5 aJ
 have bg:=ah.fx 6 ba
 have bh:=ah.fx 7 bb
 have bi:=ah.fx 8 bd
 have bj:=ah.ge 6 17 rfl
 refine st_nil (bA _ _ ?_)
 rcases bc (((!decide (((u.getD i 0:Nat):Int) < 97)) && (decide (((u.getD i 0:Nat):Int)≤102)))) with ab|ab
 have aS:=hB bj ab
 have aA:(!decide (((u.getD i 0:Nat):Int) < 97))=true:=al ab
 have aB:(decide (((u.getD i 0:Nat):Int) < 97))=false:=nF aA
 have dq:=oF aB
 have aC:(decide (((u.getD i 0:Nat):Int)≤102))=true:=ar ab
 have dr:=oT aC
 refine wp_cond_true aS ?_
 refine wp_skip ?_
 refine ax _ _ ?_
 refine wp_cond_true aS ?_
 refine wp_skip ?_
 exact aw _ _ ⟨az,aQ,aR,bf,bg,bh,bi,(by unfold okcN; simp only [ad,ab,aA,aA,aB,aB,aC,aC,bsm])⟩
 have bB:=hB bj ab
 refine wp_cond_false bB ?_
 refine wp_g0 [true,true,true,true,true,true,true] [] 38
   [ve (.int .u16 ((u.getD i 0:Nat):Int)),ve (.bool (!decide (((u.getD i 0:Nat):Int) < 65))),ve (.bool (!decide (((u.getD i 0:Nat):Int) < 65))),ve (gq (!decide (((u.getD i 0:Nat):Int) < 65)) (.int .u16 ((u.getD i 0:Nat):Int))),ve (gq (!decide (((u.getD i 0:Nat):Int) < 65)) (.bool (decide (((u.getD i 0:Nat):Int)≤70)))),ve (.bool ((!decide (((u.getD i 0:Nat):Int) < 65)) && (decide (((u.getD i 0:Nat):Int)≤70)))),ve (.bool ((!decide (((u.getD i 0:Nat):Int) < 65)) && (decide (((u.getD i 0:Nat):Int)≤70))))] az (.eq (.eq (.eq (.eq (.eq (.eq (.eq (.nil)))))))) ?_ ?_
 exact .m (fun k=>k.fx 5 aK)<| .t (fun _ w hn k=>⟨_,v_bin rfl (k.eq1 0 26 rfl) rfl (fun _=>rfl) (r_geqK rfl),rfl⟩)<| .m (fun k=>k.eq1 1 27 rfl)<| .o1 (sc (G:=(!decide (((u.getD i 0:Nat):Int) < 65))) rfl rfl rfl (fun _ _ k=>g0 (k.eq1 2 28 rfl)) (fun hG _ w hn k=>v_move rfl (k.fx 5 aK)))<| .o1 (sc (G:=(!decide (((u.getD i 0:Nat):Int) < 65))) rfl rfl rfl (fun _ _ k=>g0 (k.eq1 2 28 rfl)) (fun hG _ w hn k=>v_bin rfl (cT hG (k.eq1 3 29 rfl)) rfl (fun _=>rfl) (r_leqK rfl)))<| .t (fun _ w hn k=>⟨_,v_and rfl (k.eq1 2 28 rfl) (fun hg=>(cT hg (k.eq1 4 30 rfl))) rfl,rfl⟩)<| .a (fun k=>k.eq1 5 31 rfl) .nil
 refine aftI az aQ aR fun dX bk aD aT aU dC ai=>?_
 have bl:=ai.fx 3 bf
 have cB:=ai.fx 5 aK
 have bm:=ai.fx 6 bg
 have bn:=ai.fx 7 bh
 have bo:=ai.fx 8 bi
 have bp:=ai.ge 6 17 rfl
 refine st_nil (ax _ _ ?_)
 rcases bc (((!decide (((u.getD i 0:Nat):Int) < 65)) && (decide (((u.getD i 0:Nat):Int)≤70)))) with ae|ae
 have bC:=hB bp ae
 have aE:(!decide (((u.getD i 0:Nat):Int) < 65))=true:=al ae
 have aF:(decide (((u.getD i 0:Nat):Int) < 65))=false:=nF aE
 have ds:=oF aF
 have aG:(decide (((u.getD i 0:Nat):Int)≤70))=true:=ar ae
 have dt:=oT aG
 refine wp_cond_true bC ?_
 refine wp_skip ?_
 exact aw _ _ ⟨aD,aT,aU,bl,bm,bn,bo,(by unfold okcN; simp only [ad,ab,ae,aE,aE,aF,aF,aG,aG,bsm])⟩
 have bD:=hB bp ae
 refine wp_cond_false bD ?_
 refine wp_seq_k fun dY bE=>?_
 have hb:=hu.at16 i
 refine wp_g0 [true,true,true,true] [] 38
   [(OP bk.heap.size 74 .u16 (asc ⟨#[120,88,111,79,46,43,45,95]⟩)),ve (.int .u16 ((u.getD i 0:Nat):Int)),ve (.bool ((asc ⟨#[120,88,111,79,46,43,45,95]⟩).any (fun y:Nat=>decide (((u.getD i 0):Int)=(y:Int))))),ve (.bool ((asc ⟨#[120,88,111,79,46,43,45,95]⟩).any (fun y:Nat=>decide (((u.getD i 0):Int)=(y:Int)))))] aD (.cons (fun _ _ _ n ⟨_,_,e,h⟩=>⟨_,_,e,h.new_ n⟩) (.eq (.eq (.eq (.nil))))) ?_ ?_
 refine .o1 (tkC rfl (noG rfl) rfl fun _ w hn k=>(by
       refine ⟨#[.string ⟨#[120,88,111,79,46,43,45,95]⟩],_,args1 rfl,fun w=>by kernel_rfl,ascii_c ⟨#[120,88,111,79,46,43,45,95]⟩ _ (by first|omega|(show (_:Nat)≤_; decide)),?_⟩
       rintro e w' ⟨A9,dw,rfl,hmo0,hm⟩
       exact⟨_,rfl,hm,⟨A9,dw,rfl,(hmo0.more hn.size)⟩⟩)) ?_
 refine .m (fun k=>k.fx 5 cB) ?_
 refine .o1 (tkC rfl (noG rfl) rfl fun _ w hn k=>(by
       obtain⟨dx,dy,dz,cC⟩:(OP bk.heap.size 74 .u16 (asc ⟨#[120,88,111,79,46,43,45,95]⟩)) _ _:=k.dep 0 33 (by kernel_rfl) (by kernel_rfl)
       refine ⟨#[sv dx (asc ⟨#[120,88,111,79,46,43,45,95]⟩) dy,.int .u16 ((u.getD i 0:Nat):Int)],_,args2 dz (k.eq1 1 34 rfl),fun w=>by kernel_rfl,contains16_c _ (asc ⟨#[120,88,111,79,46,43,45,95]⟩) _ (u.getD i 0) _ cC.row (by omega),?_⟩
       rintro e w' ⟨rfl,hm⟩
       exact⟨_,rfl,hm,rfl⟩)) ?_
 exact .a (fun k=>k.eq1 2 35 rfl) .nil
 refine aftI aD aT aU fun dZ d0 aH aV aW dD ak=>?_
 have cD:=ak.fx 3 bl
 have cE:=ak.fx 6 bm
 have cF:=ak.fx 7 bn
 have cG:=ak.fx 8 bo
 have bq:=ak.ge 3 32 rfl
 refine st_nil (bE _ _ ?_)
 rcases bc (((asc ⟨#[120,88,111,79,46,43,45,95]⟩).any (fun y:Nat=>decide (((u.getD i 0):Int)=(y:Int))))) with am|am
 have bF:=hB bq am
 refine wp_cond_true bF ?_
 refine wp_skip ?_
 exact aw _ _ ⟨aH,aV,aW,cD,cE,cF,cG,(by unfold okcN; simp only [ad,ab,ae,am,bsm])⟩
 have bG:=hB bq am
 refine wp_cond_false bG ?_
 refine wp_seq_k fun d1 bH=>?_
 refine wp_g0 [true] [] 38
   [vF] aH (.eq (.nil)) ?_ ?_
 exact .t (fun _ w hn k=>⟨_,v_assign rfl rfl,rfl⟩) .nil
 refine aftI aH aV aW fun d2 d3 dE bI bJ dF bK=>?_
 have cH:=bK.ge 0 2 rfl
 refine st_nil (bH _ _ ?_)
 refine wp_ret (ret_k bI (v:=.bool false) (res_t rfl cH _) ?_)
 exact⟨by rw [show strangeN u=false from by unfold strangeN; rw [all_bad (i:=i) (by omega) (by unfold okcN; simp only [ad,ab,ae,am,bsm]),Bool.false_and]],bJ⟩
 intro d4 bL
 have hb:=hu.at16 i
 refine wp_g0 [true,true,true,true,true,false] [(5,true)] 38
   [ve (.bool ((u.take i).any dgtN)),ve (.bool ((u.take i).any dgtN)),ve (gq (!((u.take i).any dgtN)) (.int .u16 ((u.getD i 0:Nat):Int))),ve (gq (!((u.take i).any dgtN)) (.bool (dgtN (u.getD i 0)))),ve (.bool (((u.take i).any dgtN) || (dgtN (u.getD i 0)))),vt] a6 (.eq (.eq (.eq (.eq (.eq (.tt (.nil))))))) ?_ ?_
 exact .m (fun k=>k.fx 3 b8)<| .m (fun k=>k.eq1 0 12 rfl)<| .o1 (sc (G:=(!((u.take i).any dgtN))) rfl rfl rfl (fun _ _ k=>g0' (k.eq1 1 13 rfl)) (fun hG _ w hn k=>v_move rfl (k.fx 5 a7)))<| .o1 (scC (G:=(!((u.take i).any dgtN))) rfl rfl rfl (fun _ _ k=>g0' (k.eq1 1 13 rfl)) rfl (fun hG _ w hn k=>⟨#[.int .u16 ((u.getD i 0:Nat):Int)],args1 (cT hG (k.eq1 2 14 rfl)),fun _=>by kernel_rfl,digit_c (u.getD i 0) _ (by omega)⟩))<| .t (fun _ w hn k=>⟨_,v_or rfl (k.eq1 1 13 rfl) rfl (fun hg=>(cT (nt hg) (k.eq1 3 15 rfl))),rfl⟩)<| .off .nil
 refine aftI a6 cw bu fun br d5 aX bM bN dG aj=>?_
 have d6:=aj.fx 3 b8
 have cI:=aj.fx 8 dm
 have cJ:=aj.fx 6 dn
 have cK:=aj.fx 7 dp
 have cL:=aj.fx 5 a7
 have bs:=aj.ge 4 16 rfl
 refine st_take rfl rfl (y_assign (v:=.bool (((u.take i).any dgtN) || (dgtN (u.getD i 0)))) rfl bs) rfl ?_
 obtain⟨cM,ac⟩:∃ a',a'=br.put (some 3) (.bool (((u.take i).any dgtN) || (dgtN (u.getD i 0)))):=⟨_,rfl⟩
 have bO:=pz ac aX
 have bP:=pd ac bM
 have cN:=pn ac cI (by decide)
 have cO:=pn ac cJ (by decide)
 have cP:=pn ac cK (by decide)
 have cQ:=pn ac cL (by decide)
 have d7:=pn ac bs (by decide)
 have cR:cM.eval (.tmp 3)=.bool (((u.take i).any dgtN) || (dgtN (u.getD i 0))):=by rw [ac]; exact put_same _ _ _ (by rw [aX]; decide)
 show stepsTo _ _ _ _ _ (br.put (some 3) (.bool (((u.take i).any dgtN) || (dgtN (u.getD i 0))))) _
 rw [← ac]
 refine st_nil ?_
 exact bL _ _ ⟨bO,bP,bN,(cR.trans (congrArg Value.bool (by rw [any_up (by omega)]))),cQ,cO,cP,cN⟩
 have bt:=oF ao
 have bQ:=hB b2 ao
 refine wp_cond_false bQ ?_
 refine wp_exit ?_
 refine cc _ _ ?_
 refine wp_seq_k fun d8 bR=>?_
 refine wp_g0 [true,true] [] 38
   [ve (.bool ((u.take i).any dgtN)),ve (.bool ((u.take i).any dgtN))] av (.eq (.eq (.nil))) ?_ ?_
 exact .m (fun k=>k.fx 3 bY)<| .a (fun k=>k.eq1 0 37 rfl) .nil
 refine aftI av a3 aI fun d9 ea dH bS bT dI bU=>?_
 have cS:=bU.ge 1 2 rfl
 refine st_nil (bR _ _ ?_)
 refine wp_ret (ret_k bS (v:=.bool ((u.take i).any dgtN)) (res_t rfl cS _) ?_)
 exact⟨by rw [show strangeN u=((u.take i).any dgtN) from by unfold strangeN; rw [List.take_of_length_le (by omega)] at hall; rw [hall,Bool.true_and,List.take_of_length_le (by omega)]],bT⟩
theorem value_c (Au:Option Addr) (u:List Nat) (cu:Nat) (w:World) (hru:SRow w .u16 Au u cu) (hu:U16s u) (hd:∀ j,j < u.length→48≤u.getD j 0∧u.getD j 0≤57):Calls Tryz.prog 102 #[sv Au u cu] w (IsRet (.tuple #[iv ((valR u 0).1),.bool ((valR u 0).2)]) w):=by
 refine enter_abs Tryz.func102 rfl fun a0 ap bT hp=>?_
 have ap:a0.tmps.size=25:=ap
 have bU:New w w:=Upd.refl _ _
 have hp0:a0.eval (.tmp 0)=sv Au u cu:=hp 0 _ rfl
 have hmx:=hru.max
 refine wp_seq_k fun K1 bV=>?_
 refine wp_g0 [true,true] [] 25
   [ve (iv 0),vF] ap (.eq (.eq (.nil))) ?_ ?_
 exact .t (fun _ w hn k=>⟨_,v_assign rfl rfl,rfl⟩)<| .t (fun _ w hn k=>⟨_,v_assign rfl rfl,rfl⟩) .nil
 refine aftI ap bT bU fun a2 w3 a3 bW bX cQ bY=>?_
 have h8:=bY.fx 0 hp0
 refine st_nil (bV _ _ (wp_seq_k fun cR bh=>?_))
 refine wp_g0 [true] [] 25
   [ve (iv 0)] a3 (.eq (.nil)) ?_ ?_
 exact .t (fun _ w hn k=>⟨_,v_assign rfl rfl,rfl⟩) .nil
 refine aftI a3 bW bX fun cS cT ay bi bj cs az=>?_
 have bZ:=az.fx 0 h8
 have b0:=az.ge 0 4 rfl
 refine st_nil (bh _ _ (wp_seq_k fun cU bk=>?_))
 refine wp_seq_k fun cV bl=>?_
 refine wp_g0 [true,true,true] [] 25
   [ve (sv Au u cu),ve (iv (u.length:Int)),ve (iv 0)] ay (.eq (.eq (.eq (.nil)))) ?_ ?_
 exact .m (fun k=>k.fx 0 bZ)<| .t (fun _ w hn k=>⟨_,v_lenR rfl elU (k.eq1 0 7 rfl),rfl⟩)<| .t (fun _ w hn k=>⟨_,v_move rfl rfl,rfl⟩) .nil
 refine aftI ay bi bj fun cW cX bm bn bo ct al=>?_
 have b2:=al.fx 4 b0
 have b4:=al.ge 0 7 rfl
 have b6:=al.ge 1 8 rfl
 have b7:=al.ge 2 9 rfl
 refine st_nil (bl _ _ ?_)
 refine wp_block ?_
 refine wp_loopX (fun (mm:Nat) (aa:Act) (ww:World)=>∃ (i:Nat) (n:Int),mm=u.length - i∧aa.tmps.size=25∧aa.defers=[]∧New w ww∧aa.eval (.tmp 4)=iv n∧aa.eval (.tmp 9)=iv (i:Int)∧aa.eval (.tmp 7)=sv Au u cu∧aa.eval (.tmp 8)=iv (u.length:Int)∧(i≤u.length)∧(0≤n∧n≤9007199254741000)∧(valR u 0=valR (u.drop i) n)) (fun mm=>mm) ⟨_,⟨0,0,rfl,bm,bn,bo,b2,b7,b4,b6,(Nat.zero_le _),(by omega),(by rw [List.drop_zero])⟩⟩ ?_
 rintro mm cY cZ ⟨i,n,hmm,aA,bp,bq,b8,a4,b9,a5,hi,hn,hv⟩
 refine wp_seq_k fun c0 br=>?_
 refine wp_g0 [true] [] 25
   [ve (.bool (decide ((i:Int) < (u.length:Int))))] aA (.eq (.nil)) ?_ ?_
 exact .t (fun _ w hn k=>⟨_,v_bin rfl (k.fx 9 a4) (k.fx 8 a5) (fun _=>rfl) (r_lssK rfl),rfl⟩) .nil
 refine aftI aA bp bq fun c1 c2 am aB ao cv ah=>?_
 have aC:=ah.fx 4 b8
 have a6:=ah.fx 9 a4
 have a7:=ah.fx 7 b9
 have ca:=ah.fx 8 a5
 have a8:=ah.ge 0 10 rfl
 refine st_nil (br _ _ (wp_seq_k fun c3 bs=>?_))
 rcases bc (decide ((i:Int) < (u.length:Int))) with ai|ai
 have aL:=oT ai
 have bt:=hB a8 ai
 refine wp_cond_true bt ?_
 refine wp_skip ?_
 refine bs _ _ ?_
 refine wp_seq_k fun c4 bu=>?_
 refine wp_block ?_
 refine wp_seq_k fun c5 bv=>?_
 have hb:=hu.at16 i
 refine wp_g0 [true,true,true] [] 25
   [(EP (.int .u16 ((u.getD i 0:Nat):Int))),ve (.int .u16 ((u.getD i 0:Nat):Int)),ve (.int .u16 ((u.getD i 0:Nat):Int))] am (.cons (fun _ _ _ n ⟨_,_,e,h⟩=>⟨_,_,e,h.new_ n⟩) (.eq (.eq (.nil)))) ?_ ?_
 refine .o1 (tk rfl rfl fun _ w hn k=>(by
       exact x_eaddr (k:=.u16) rfl elU (k.fx 7 a7) (k.fx 9 a6) (hru.new_ (ao.transNew hn)) (by omega) fun b1 o2 hme=>⟨b1,o2,rfl,hme⟩)) ?_
 refine .o1 (tk rfl rfl fun _ w hn k=>(by
       obtain⟨b5,o6,e7,cb⟩:(EP (.int .u16 ((u.getD i 0:Nat):Int))) _ _:=k.dep 0 11 (by kernel_rfl) (by kernel_rfl)
       exact⟨_,v_load rfl e7 (l_one Tryz.isAgg74 cb.1),rfl⟩)) ?_
 exact .a (fun k=>k.eq1 1 12 rfl) .nil
 refine aftI am aB ao fun c6 c8 an aD aE cw aj=>?_
 have aq:=aj.fx 4 aC
 have a9:=aj.fx 9 a6
 have ba:=aj.fx 7 a7
 have bb:=aj.fx 8 ca
 have bd:=aj.ge 2 6 rfl
 refine st_nil (bv _ _ (wp_seq_k fun c9 bw=>?_))
 refine wp_seq_k fun da aF=>?_
 rcases bc (decide (n≤900719925474099)) with ae|ae
 have aM:=oT ae
 refine wp_g0 [true,true] [] 25
   [ve (iv n),vF] an (.eq (.eq (.nil))) ?_ ?_
 exact .m (fun k=>k.fx 4 aq)<| .t (fun _ w hn k=>⟨_,v_bin rfl (k.eq1 0 13 rfl) rfl (fun _=>rfl) (r_gtrK ae),rfl⟩) .nil
 refine aftI an aD aE fun db dc aG bx bz cx ag=>?_
 have be:=ag.fx 4 aq
 have cc:=ag.fx 9 a9
 have cd:=ag.fx 7 ba
 have ce:=ag.fx 8 bb
 have cf:=ag.fx 6 bd
 have ch:=ag.ge 1 14 rfl
 refine st_nil (aF _ _ ?_)
 refine wp_cond_false ch ?_
 refine wp_skip ?_
 refine bw _ _ ?_
 have hdg:=hd i (by omega)
 have hb:=hu.at16 i
 refine wp_g0 [true,true,true,true,true,true,false] [(6,true)] 25
   [ve (iv n),ve (iv (10 * n)),ve (.int .u16 ((u.getD i 0:Nat):Int)),ve (.int .u16 (((u.getD i 0) - 48:Nat):Int)),ve (iv (((u.getD i 0) - 48:Nat):Int)),ve (iv ((10 * n) + (((u.getD i 0) - 48:Nat):Int))),vt] aG (.eq (.eq (.eq (.eq (.eq (.eq (.tt (.nil)))))))) ?_ ?_
 exact .m (fun k=>k.fx 4 be)<| .t (fun _ w hn k=>⟨_,v_bin rfl rfl (k.eq1 0 15 rfl) (fun _=>rfl) (n_mul rfl (IntWalk.i64_in _ (by omega))),rfl⟩)<| .m (fun k=>k.fx 6 cf)<| .t (fun _ w hn k=>⟨_,v_bin rfl (k.eq1 2 17 rfl) rfl (fun _=>rfl) (n_sub (by omega) (IntWalk.u16_in _ (by omega))),rfl⟩)<| .t (fun _ w hn k=>⟨_,v_conv rfl (k.eq1 3 18 rfl) (n_conv (by kernel_rfl) (by kernel_rfl) (by kernel_rfl) (IntWalk.i64_in _ (by omega))),rfl⟩)<| .t (fun _ w hn k=>⟨_,v_bin rfl (k.eq1 1 16 rfl) (k.eq1 4 19 rfl) (fun _=>rfl) (r_add rfl (by omega)),rfl⟩)<| .off .nil
 refine aftI aG bx bz fun bf dd aH bA bB cy ak=>?_
 have de:=ak.fx 4 be
 have ci:=ak.fx 9 cc
 have cj:=ak.fx 7 cd
 have cl:=ak.fx 8 ce
 have bg:=ak.ge 5 20 rfl
 refine st_take rfl rfl (y_assign (v:=iv ((10 * n) + (((u.getD i 0) - 48:Nat):Int))) rfl bg) rfl ?_
 obtain⟨bC,ab⟩:∃ a',a'=bf.put (some 4) (iv ((10 * n) + (((u.getD i 0) - 48:Nat):Int))):=⟨_,rfl⟩
 have ar:=pz ab aH
 have aN:=pd ab bA
 have aI:=pn ab ci (by decide)
 have bD:=pn ab cj (by decide)
 have bE:=pn ab cl (by decide)
 have cz:=pn ab bg (by decide)
 have bF:bC.eval (.tmp 4)=iv ((10 * n) + (((u.getD i 0) - 48:Nat):Int)):=by rw [ab]; exact put_same _ _ _ (by rw [aH]; decide)
 show stepsTo _ _ _ _ _ (bf.put (some 4) (iv ((10 * n) + (((u.getD i 0) - 48:Nat):Int)))) _
 rw [← ab]
 refine st_nil (bu _ _ ?_)
 refine wp_g0 [true,false] [(1,true)] 25
   [ve (iv ((i + 1:Nat):Int)),vt] ar (.eq (.tt (.nil))) ?_ ?_
 exact .t (fun _ w hn k=>⟨_,v_bin rfl (k.fx 9 aI) rfl (fun _=>rfl) (n_add (by omega) (IntWalk.i64_in _ (by omega))),rfl⟩)<| .off .nil
 refine aftI ar aN bB fun aJ cA au aO aP cm af=>?_
 have cB:=af.fx 9 aI
 have bG:=af.fx 7 bD
 have bH:=af.fx 8 bE
 have bI:=af.fx 4 bF
 have aK:=af.ge 0 21 rfl
 refine st_take rfl rfl (y_move (v:=iv ((i + 1:Nat):Int)) rfl aK) rfl ?_
 obtain⟨bJ,ac⟩:∃ a',a'=aJ.put (some 9) (iv ((i + 1:Nat):Int)):=⟨_,rfl⟩
 have aQ:=pz ac au
 have aR:=pd ac aO
 have bK:=pn ac bG (by decide)
 have bL:=pn ac bH (by decide)
 have bM:=pn ac bI (by decide)
 have cC:=pn ac aK (by decide)
 have bN:bJ.eval (.tmp 9)=iv ((i + 1:Nat):Int):=by rw [ac]; exact put_same _ _ _ (by rw [au]; decide)
 show stepsTo _ _ _ _ _ (aJ.put (some 9) (iv ((i + 1:Nat):Int))) _
 rw [← ac]
 refine st_nil ?_
 refine then_n ?_
 exact⟨_,⟨i + 1,10 * n + (((u.getD i 0:Nat):Int) - 48),rfl,aQ,aR,aP,(bM.trans (congrArg (Value.int .i64) (by omega))),(bN.trans (congrArg (Value.int .i64) (by omega))),bK,bL,(by omega),(by omega),(hv.trans (by rw [drop_at (by omega)]; simp only [valR,ae]; rfl))⟩,(by omega)⟩
 have aM:=oF ae
 refine wp_g0 [true,true] [] 25
   [ve (iv n),vT] an (.eq (.eq (.nil))) ?_ ?_
 exact .m (fun k=>k.fx 4 aq)<| .t (fun _ w hn k=>⟨_,v_bin rfl (k.eq1 0 13 rfl) rfl (fun _=>rfl) (r_gtrK ae),rfl⟩) .nil
 refine aftI an aD aE fun cD cE av aS aT cn ad=>?_
 have cF:=ad.fx 4 aq
 have cG:=ad.fx 9 a9
 have cH:=ad.fx 7 ba
 have cI:=ad.fx 8 bb
 have cJ:=ad.fx 6 bd
 have bO:=ad.ge 1 14 rfl
 refine st_nil (aF _ _ ?_)
 refine wp_cond_true bO ?_
 refine wp_seq_k fun cK aU=>?_
 refine wp_g0 [true,true] [] 25
   [ve (iv 0),vF] av (.eq (.eq (.nil))) ?_ ?_
 exact .t (fun _ w hn k=>⟨_,v_assign rfl rfl,rfl⟩)<| .t (fun _ w hn k=>⟨_,v_assign rfl rfl,rfl⟩) .nil
 refine aftI av aS aT fun cL cM co aV aW cp aw=>?_
 have bP:=aw.ge 0 2 rfl
 have bQ:=aw.ge 1 3 rfl
 refine st_nil (aU _ _ ?_)
 refine wp_ret (ret_k aV (v:=.tuple #[iv 0,.bool false]) (res_tt rfl bP bQ _) ?_)
 exact⟨by rw [show valR u 0=(0,false) from hv.trans (by rw [drop_at (by omega)]; simp only [valR,ae]; rfl)],aW⟩
 have aL:=oF ai
 have aX:=hB a8 ai
 refine wp_cond_false aX ?_
 refine wp_exit ?_
 refine bk _ _ ?_
 refine wp_seq_k fun cN aY=>?_
 refine wp_g0 [true,true,true,true,true] [] 25
   [ve (iv n),ve (iv n),ve (.bool (decide (n≤9007199254740991))),ve (iv n),ve (.bool (decide (n≤9007199254740991)))] am (.eq (.eq (.eq (.eq (.eq (.nil)))))) ?_ ?_
 exact .m (fun k=>k.fx 4 aC)<| .m (fun k=>k.fx 4 aC)<| .t (fun _ w hn k=>⟨_,v_bin rfl (k.eq1 1 23 rfl) rfl (fun _=>rfl) (r_leqK rfl),rfl⟩)<| .a (fun k=>k.eq1 0 22 rfl)<| .a (fun k=>k.eq1 2 24 rfl) .nil
 refine aftI am aB ao fun cO cP cq aZ a1 cr ax=>?_
 have bR:=ax.ge 3 2 rfl
 have bS:=ax.ge 4 3 rfl
 refine st_nil (aY _ _ ?_)
 refine wp_ret (ret_k aZ (v:=.tuple #[iv n,.bool (decide (n≤9007199254740991))]) (res_tt rfl bR bS _) ?_)
 exact⟨by rw [show valR u 0=(n,decide (n≤9007199254740991)) from hv.trans (by rw [List.drop_eq_nil_of_le (by omega)]; rfl)],a1⟩
theorem tk_min (u:List Nat):u.take ((min (u.length:Int) 4096).toNat)=u.take 4096:=by
  rw [show (min (u.length:Int) 4096).toNat=min u.length 4096 by omega]
  rcases Nat.le_total u.length 4096 with h|h
  · rw [Nat.min_eq_left h,List.take_length,List.take_of_length_le h]
  · rw [Nat.min_eq_right h]
theorem tnumber_c (Au:Option Addr) (u:List Nat) (cu:Nat) (w:World) (hru:SRow w .u16 Au u cu) (hu:U16s u):Calls Tryz.prog 53 #[sv Au u cu] w (IsRet (.tuple #[nv ((numT u).1),.bool ((numT u).2)]) w):=by
 refine enter_abs Tryz.func53 rfl fun a0 bV j4 hp=>?_
 have bV:a0.tmps.size=91:=bV
 have hL:New w w:=Upd.refl _ _
 have hp0:a0.eval (.tmp 0)=sv Au u cu:=hp 0 _ rfl
 have hmx:=hru.max
 refine wp_seq_k fun K1 j5=>?_
 refine wp_g [true,true] [] [] 91
   [IsNew w 23 [iv 0,iv 0],vF]
   [0] (newsCons (fun v w h=>IsNew.old h) newsNil) bV (.nw (.eq (.nil))) ?_ (fun i h=>by cases h) ?_
 exact .o2 (step_allocN (cs:=[iv 0,iv 0]) (t:=23) rfl (noG rfl) (fun _ w hn k=>rfl) (fun q _ hq hb=>⟨q,rfl,hq,hb⟩))<| .t (fun _ w hn k=>⟨_,v_assign rfl rfl,rfl⟩) .nil
 refine aftI bV j4 hL fun a2 w3 j6 j7 dA mT hM=>?_
 have h8:=hM.fx 0 hp0
 obtain⟨af,h9,hV,hW⟩:=hM.G 0 2
 have lj:=Nat.le_trans hL.size hV
 refine st_nil (j5 _ _ ?_)
 refine wp_seq_j (fun (aa:Act) (ww:World)=>∃ (A3:Option Addr),∃ (c3:Nat),aa.tmps.size=91∧aa.defers=[]∧New w ww∧aa.eval (.tmp 0)=sv A3 (u.dropWhile blankN) c3∧aa.eval (.tmp 2)=pv af∧Blk ww af 23 [iv 0,iv 0]∧SRow ww .u16 A3 (u.dropWhile blankN) c3) ?_ ?_
 rintro mU mV ⟨A3,c3,hX,hY,hZ,j8,j9,h3,h4⟩
 refine wp_seq_j (fun (aa:Act) (ww:World)=>∃ (A4:Option Addr),∃ (c4:Nat),aa.tmps.size=91∧aa.defers=[]∧New w ww∧aa.eval (.tmp 0)=sv A4 (trimN u) c4∧aa.eval (.tmp 2)=pv af∧Blk ww af 23 [iv 0,iv 0]∧SRow ww .u16 A4 (trimN u) c4) ?_ ?_
 rintro mW ka ⟨A4,c4,dB,h5,dC,kb,kc,dD,h6⟩
 have hut:=hu.trim
 refine wp_seq_k fun mX h7=>?_
 refine wp_g [true,true,false] [] [(2,false)] 91
   [ve (nv (Nm.mk 2 0)),IsNew ka 23 [iv 0,iv 0],vt]
   [1] (newsCons (fun v w h=>IsNew.old h) newsNil) dB (.eq (.nw (.tt (.nil)))) ?_ (fun i h=>by cases h) ?_
 exact .t (fun _ w hn k=>⟨_,v_build (ps:=[(0,iv 2)]) rfl (parts1 rfl) (by kernel_rfl),rfl⟩)<| .o2 (step_allocN (cs:=[iv 0,iv 0]) (t:=23) rfl (noG rfl) (fun _ w hn k=>rfl) (fun q _ hq hb=>⟨q,rfl,hq,hb⟩))<| .off .nil
 refine aftI dB h5 dC fun mY mZ dE ia ib dF ba=>?_
 have hN:=ba.fx 0 kb
 have kd:=ba.fx 2 kc
 have ke:=ba.ge 0 39 rfl
 obtain⟨bW,hO,dG,dH⟩:=ba.G 1 4
 have ic:=dD.new_ dF
 have hne48:af ≠ bW:=by have h1:=dD.lt; have h2:=dG; omega
 have lk:=Nat.le_trans dC.size dG
 have id:=h6.new_ dF
 obtain⟨m0,-,eV,ie,dI,ig⟩:=s_two (v0:=iv 2) (v1:=iv 0) Tryz.sizeOf23 rfl rfl rfl dH
 refine st_act rfl rfl fun m1 ih=>a_store' rfl hO ke eV (ih _ _ trivial ?_)
 have ii:=id.fr dH dI
 have ij:=ig _ _ _ (hne48) ic
 have ik:=ib.trans dI (fun _ h b=>by subst b; omega)
 refine st_nil (h7 _ _ (wp_seq_k fun m2 il=>?_))
 refine wp_seq_k fun m3 im=>?_
 refine wp_g0 [true,true,true] [] 91
   [ve (sv A4 (trimN u) c4),ve (iv ((trimN u).length:Int)),ve (.bool (decide (((trimN u).length:Int)=0)))] dE (.eq (.eq (.eq (.nil)))) ?_ ?_
 exact .m (fun k=>k.fx 0 hN)<| .t (fun _ w hn k=>⟨_,v_lenR rfl elU (k.eq1 0 40 rfl),rfl⟩)<| .t (fun _ w hn k=>⟨_,v_bin rfl (k.eq1 1 41 rfl) rfl (fun _=>rfl) (r_eql rfl),rfl⟩) .nil
 refine aftI dE ia ik fun m4 m5 bb dJ dK bM bd=>?_
 have dL:=bd.fx 0 hN
 have hP:=bd.fx 2 kd
 have kf:=bd.fx 4 hO
 have hQ:=bd.ge 2 42 rfl
 have dM:=ij.new_ bM
 have io:=ie.new_ bM
 have dN:=ii.new_ bM
 refine st_nil (im _ _ ?_)
 rcases bc (decide (((trimN u).length:Int)=0)) with ab|ab
 have eW:=oT ab
 have ip:=hB hQ ab
 refine wp_cond_true ip ?_
 refine wp_seq_k fun m6 iq=>?_
 refine wp_g0 [true,false,false] [(1,false),(2,true)] 91
   [ve (nv (Nm.mk 0 0)),vt,vt] bb (.eq (.tt (.tt (.nil)))) ?_ ?_
 exact .t (fun _ w hn k=>⟨_,v_build (ps:=[]) rfl parts0 (by kernel_rfl),rfl⟩)<| .off<| .off .nil
 refine aftI bb dJ dK fun hR m7 dO ir it iu dP=>?_
 have hS:=dP.fx 2 hP
 have hT:=dP.ge 0 43 rfl
 have iw:=dM.new_ iu
 obtain⟨m8,-,eX,ix,iy,ll⟩:=s_two (v0:=iv 0) (v1:=iv 0) Tryz.sizeOf23 rfl rfl rfl iw
 refine st_act rfl rfl fun m9 iz=>a_store' rfl hS hT eX (iz _ _ trivial ?_)
 have iA:=it.trans iy (fun _ h b=>by subst b; omega)
 refine st_take rfl rfl (y_assign (v:=.bool true) rfl rfl) rfl ?_
 obtain⟨kg,au⟩:∃ a',a'=hR.put (some 3) (.bool true):=⟨_,rfl⟩
 have k8:=pz au dO
 have eY:=pd au ir
 have iB:=pn au hS (by decide)
 have lm:=pn au hT (by decide)
 have iC:kg.eval (.tmp 3)=.bool true:=by rw [au]; exact put_same _ _ _ (by rw [dO]; decide)
 show stepsTo _ _ _ _ _ (hR.put (some 3) (.bool true)) _
 rw [← au]
 refine st_nil (iq _ _ ?_)
 refine wp_ret (ret_k eY (v:=.tuple #[nv (Nm.mk 0 0),.bool true]) (res_ct rfl iB iC (l_two Tryz.isAgg23 Tryz.sizeOf23 ix)) ?_)
 refine ⟨?_,iA⟩
 show Ending.returned (.tuple #[nv (Nm.mk 0 0),.bool true])=Ending.returned (.tuple #[nv ((numT u).1),.bool ((numT u).2)])
 first|rfl|(simp only [numT,bodyT,ab,bsm] <;> rfl)|(exfalso; omega)
 have eW:=oF ab
 have eZ:=hB hQ ab
 refine wp_cond_false eZ ?_
 refine wp_skip ?_
 refine il _ _ ?_
 refine wp_seq_k fun ln e0=>?_
 refine wp_g0 [true,true,true,true,true,true,true] [] 91
   [ve (sv A4 (trimN u) c4),ve (sv A4 (trimN u) c4),
    (EP (.int .u16 (((trimN u).getD 0 0:Nat):Int))),ve (.int .u16 (((trimN u).getD 0 0:Nat):Int)),ve (.bool (decide ((((trimN u).getD 0 0:Nat):Int)=45))),ve (sv A4 (trimN u) c4),ve (.bool (decide ((((trimN u).getD 0 0:Nat):Int)=45)))] bb (.eq (.eq (.cons (fun _ _ _ n ⟨_,_,e,h⟩=>⟨_,_,e,h.new_ n⟩) (.eq (.eq (.eq (.eq (.nil)))))))) ?_ ?_
 refine .m (fun k=>k.fx 0 dL)<| .m (fun k=>k.fx 0 dL) ?_
 refine .o1 (tk rfl rfl fun _ w hn k=>(by
       exact x_eaddr (k:=.u16) rfl elU (k.eq1 1 45 rfl) rfl (dN.new_ hn) (by omega) fun b1 o2 hme=>⟨b1,o2,rfl,hme⟩)) ?_
 refine .o1 (tk rfl rfl fun _ w hn k=>(by
       obtain⟨b5,o6,e7,kh⟩:(EP (.int .u16 (((trimN u).getD 0 0:Nat):Int))) _ _:=k.dep 2 46 (by kernel_rfl) (by kernel_rfl)
       exact⟨_,v_load rfl e7 (l_one Tryz.isAgg74 kh.1),rfl⟩)) ?_
 exact .t (fun _ w hn k=>⟨_,v_bin rfl (k.eq1 3 47 rfl) rfl (fun _=>rfl) (r_eql rfl),rfl⟩)<| .a (fun k=>k.eq1 0 44 rfl)<| .a (fun k=>k.eq1 4 48 rfl) .nil
 refine aftI bb dJ dK fun lo lp aT bX bY be aE=>?_
 have bN:=aE.fx 0 dL
 have dQ:=aE.fx 2 hP
 have dR:=aE.fx 4 kf
 have dS:=aE.ge 5 5 rfl
 have dT:=aE.ge 6 6 rfl
 have bZ:=dM.new_ be
 have b0:=io.new_ be
 have bf:=dN.new_ be
 refine st_nil (e0 _ _ ?_)
 refine wp_seq_j (fun (aa:Act) (ww:World)=>∃ (ng:Bool),∃ (dd:List Nat),∃ (A5:Option Addr),∃ (c5:Nat),aa.tmps.size=91∧aa.defers=[]∧New w ww∧aa.eval (.tmp 5)=sv A5 dd c5∧aa.eval (.tmp 6)=.bool ng∧aa.eval (.tmp 0)=sv A4 (trimN u) c4∧aa.eval (.tmp 2)=pv af∧aa.eval (.tmp 4)=pv bW∧Blk ww af 23 [iv 0,iv 0]∧Blk ww bW 23 [iv 2,iv 0]∧SRow ww .u16 A5 dd c5∧SRow ww .u16 A4 (trimN u) c4∧(numT u=bodyT (trimN u) dd ng)∧(U16s dd)) ?_ ?_
 rintro lq iD ⟨ng,dd,A5,c5,b2,e1,b4,iE,iF,iG,iH,dU,b6,bg,e2,e3,hbody,hdd⟩
 refine wp_seq_k fun lr e4=>?_
 refine wp_g [true,true,true,true,true,false,false] [3] [(5,false),(6,true)] 91
   [ve (nv (Nm.mk 2 0)),ve (sv A4 (trimN u) c4),ve (.bool (strangeN (trimN u))),ve (.bool (!(strangeN (trimN u)))),IsNew iD 23 [iv 0,iv 0],vt,vt]
   [4] (newsCons (fun v w h=>IsNew.old h) newsNil) b2 (.eq (.eq (.eq (.eq (.nw (.tt (.tt (.nil)))))))) ?_ ?_ ?_
 refine .t (fun _ w hn k=>⟨_,v_load rfl (k.fx 4 dU) (l_two Tryz.isAgg23 Tryz.sizeOf23 (bg.new_ hn)),rfl⟩)<| .m (fun k=>k.fx 0 iG)<| .o1 (ck rfl rfl rfl (fun _ w hn k=>⟨#[sv A4 (trimN u) c4],args1 (k.eq1 1 59 rfl),fun _=>by kernel_rfl,strange_c _ (trimN u) _ _ (e3.new_ hn) hut⟩) fun _=>rfl) ?_
 refine .o3 ?_
 exact .o2 (step_allocN (cs:=[iv 0,iv 0]) (t:=23) rfl (noG rfl) (fun _ w hn k=>rfl) (fun q _ hq hb=>⟨q,rfl,hq,hb⟩))<| .off<| .off .nil
 intro i h
 simp only [List.contains_eq_mem,List.mem_cons,List.not_mem_nil,or_false,decide_eq_true_eq] at h
 subst h
 exact eager_take rfl rfl fun _ w hn k=>⟨.bool (!(strangeN (trimN u))),fun w=>v_not rfl (k.eq1 2 60 rfl),rfl⟩
 refine aftI b2 e1 b4 fun dV ls b7 e5 e6 bh aj=>?_
 have iI:=aj.fx 5 iE
 have iJ:=aj.fx 6 iF
 have iK:=aj.fx 2 iH
 have iL:=aj.fx 4 dU
 have dW:=aj.ge 0 58 rfl
 have dX:=aj.ge 3 61 rfl
 obtain⟨bi,dY,bj,b8⟩:=aj.G 4 7
 have e8:=b6.new_ bh
 have e9:=bg.new_ bh
 have hne156:af ≠ bi:=by have h1:=b6.lt; have h2:=bj; omega
 have hne157:bW ≠ bi:=by have h1:=bg.lt; have h2:=bj; omega
 have k9:=Nat.le_trans b4.size bj
 have fa:=e2.new_ bh
 obtain⟨dZ,-,d0,fb,b9,ca⟩:=s_two (v0:=iv 2) (v1:=iv 0) Tryz.sizeOf23 rfl rfl rfl b8
 refine st_act rfl rfl fun lu fc=>a_store' rfl dY dW d0 (fc _ _ trivial ?_)
 have cb:=fa.fr b8 b9
 have fd:=ca _ _ _ (hne156) e8
 have fe:=ca _ _ _ (hne157) e9
 have ff:=e6.trans b9 (fun _ h b=>by subst b; omega)
 refine st_take rfl rfl (y_assign (v:=.bool (!(strangeN (trimN u)))) rfl dX) rfl ?_
 obtain⟨iM,ad⟩:∃ a',a'=dV.put (some 8) (.bool (!(strangeN (trimN u)))):=⟨_,rfl⟩
 have cc:=pz ad b7
 have fg:=pd ad e5
 have d1:=pn ad iI (by decide)
 have iN:=pn ad iJ (by decide)
 have iO:=pn ad iK (by decide)
 have iP:=pn ad iL (by decide)
 have lv:=pn ad dW (by decide)
 have lw:=pn ad dX (by decide)
 have iQ:=pn ad dY (by decide)
 have iR:iM.eval (.tmp 8)=.bool (!(strangeN (trimN u))):=by rw [ad]; exact put_same _ _ _ (by rw [b7]; decide)
 show stepsTo _ _ _ _ _ (dV.put (some 8) (.bool (!(strangeN (trimN u))))) _
 rw [← ad]
 refine st_nil (e4 _ _ ?_)
 refine wp_seq_j (fun (aa:Act) (ww:World)=>∃ (na:Nm),∃ (ok:Bool),aa.tmps.size=91∧aa.defers=[]∧New w ww∧aa.eval (.tmp 8)=.bool ok∧aa.eval (.tmp 2)=pv af∧aa.eval (.tmp 6)=.bool ng∧aa.eval (.tmp 7)=pv bi∧Blk ww af 23 [iv 0,iv 0]∧Blk ww bi 23 [iv na.k,iv na.n]∧(numT u=(if ng then negM na else na,ok))) ?_ ?_
 rintro lx ly ⟨na,ok,cd,fh,fi,iS,iT,iU,iV,fj,fk,hfin⟩
 refine wp_seq_k fun lz ce=>?_
 refine wp_seq_k fun lA fl=>?_
 refine wp_g0 [true] [] 91
   [ve (.bool ng)] cd (.eq (.nil)) ?_ ?_
 exact .m (fun k=>k.fx 6 iU) .nil
 refine aftI cd fh fi fun lB lC aU cf ch ci aV=>?_
 have d2:=aV.fx 8 iS
 have d3:=aV.fx 2 iT
 have bO:=aV.fx 7 iV
 have d4:=aV.ge 0 86 rfl
 have cj:=fj.new_ ci
 have bk:=fk.new_ ci
 refine st_nil (fl _ _ ?_)
 rcases bc (ng) with aF|aF
 have fm:=hB d4 aF
 refine wp_cond_true fm ?_
 refine wp_g0 [true,true,false] [(2,false)] 91
   [ve (nv na),ve (nv (negM na)),vt] aU (.eq (.eq (.tt (.nil)))) ?_ ?_
 exact .t (fun _ w hn k=>⟨_,v_load rfl (k.fx 7 bO) (l_two Tryz.isAgg23 Tryz.sizeOf23 (bk.new_ hn)),rfl⟩)<| .o1 (ck rfl rfl rfl (fun _ w hn k=>⟨#[nv na],args1 (k.eq1 0 87 rfl),fun _=>by kernel_rfl,nneg_c na _ ⟩) fun _=>rfl)<| .off .nil
 refine aftI aU cf ch fun lD lE cl fn fo cm aW=>?_
 have iW:=aW.fx 8 d2
 have iX:=aW.fx 2 d3
 have d5:=aW.fx 7 bO
 have iY:=aW.ge 1 88 rfl
 have fp:=cj.new_ cm
 have fq:=bk.new_ cm
 obtain⟨lF,-,d6,fs,ft,fu⟩:=s_two (v0:=iv ((negM na).k)) (v1:=iv ((negM na).n)) Tryz.sizeOf23 rfl rfl rfl fq
 refine st_act rfl rfl fun lG fv=>a_store' rfl d5 iY d6 (fv _ _ trivial ?_)
 have fw:=fu _ _ _ (hne156) fp
 have fy:=fo.trans ft (fun _ h b=>by subst b; omega)
 refine st_nil (ce _ _ (wp_seq_k fun lH fz=>?_))
 refine wp_g [true,true,false,false] [1] [(2,false),(3,true)] 91
   [ve (nv (negM na)),ve (.bool ok),vt,vt]
   [] newsNil cl (.eq (.eq (.tt (.tt (.nil))))) ?_ ?_ ?_
 refine .t (fun _ w hn k=>⟨_,v_load rfl (k.fx 7 d5) (l_two Tryz.isAgg23 Tryz.sizeOf23 (fs.new_ hn)),rfl⟩) ?_
 refine .o3 ?_
 exact .off<| .off .nil
 intro i h
 simp only [List.contains_eq_mem,List.mem_cons,List.not_mem_nil,or_false,decide_eq_true_eq] at h
 subst h
 exact eager_take rfl rfl fun _ w hn k=>⟨.bool ok,fun w=>v_move rfl (k.fx 8 iW),rfl⟩
 refine aftI cl fn fy fun d7 lI cn fA fB fC bl=>?_
 have d8:=bl.fx 2 iX
 have d9:=bl.ge 0 89 rfl
 have ea:=bl.ge 1 90 rfl
 have fD:=fw.new_ fC
 obtain⟨lJ,-,eb,fE,fF,la⟩:=s_two (v0:=iv ((negM na).k)) (v1:=iv ((negM na).n)) Tryz.sizeOf23 rfl rfl rfl fD
 refine st_act rfl rfl fun lK fG=>a_store' rfl d8 d9 eb (fG _ _ trivial ?_)
 have fH:=fB.trans fF (fun _ h b=>by subst b; omega)
 refine st_take rfl rfl (y_assign (v:=.bool ok) rfl ea) rfl ?_
 obtain⟨iZ,ak⟩:∃ a',a'=d7.put (some 3) (.bool ok):=⟨_,rfl⟩
 have lc:=pz ak cn
 have fI:=pd ak fA
 have i0:=pn ak d8 (by decide)
 have lL:=pn ak d9 (by decide)
 have lM:=pn ak ea (by decide)
 have i1:iZ.eval (.tmp 3)=.bool ok:=by rw [ak]; exact put_same _ _ _ (by rw [cn]; decide)
 show stepsTo _ _ _ _ _ (d7.put (some 3) (.bool ok)) _
 rw [← ak]
 refine st_nil (fz _ _ ?_)
 refine wp_ret (ret_k fI (v:=.tuple #[nv (negM na),.bool ok]) (res_ct rfl i0 i1 (l_two Tryz.isAgg23 Tryz.sizeOf23 fE)) ?_)
 refine ⟨?_,fH⟩
 show Ending.returned (.tuple #[nv (negM na),.bool ok])=Ending.returned (.tuple #[nv ((numT u).1),.bool ((numT u).2)])
 first|rfl|(simp only [hfin,ab,aF,bsm] <;> rfl)|(exfalso; omega)
 have fJ:=hB d4 aF
 refine wp_cond_false fJ ?_
 refine wp_skip ?_
 refine ce _ _ ?_
 refine wp_seq_k fun lN fK=>?_
 refine wp_g [true,true,false,false] [1] [(2,false),(3,true)] 91
   [ve (nv na),ve (.bool ok),vt,vt]
   [] newsNil aU (.eq (.eq (.tt (.tt (.nil))))) ?_ ?_ ?_
 refine .t (fun _ w hn k=>⟨_,v_load rfl (k.fx 7 bO) (l_two Tryz.isAgg23 Tryz.sizeOf23 (bk.new_ hn)),rfl⟩) ?_
 refine .o3 ?_
 exact .off<| .off .nil
 intro i h
 simp only [List.contains_eq_mem,List.mem_cons,List.not_mem_nil,or_false,decide_eq_true_eq] at h
 subst h
 exact eager_take rfl rfl fun _ w hn k=>⟨.bool ok,fun w=>v_move rfl (k.fx 8 d2),rfl⟩
 refine aftI aU cf ch fun ec lO co fL fM fN bm=>?_
 have ed:=bm.fx 2 d3
 have ee:=bm.ge 0 89 rfl
 have ef:=bm.ge 1 90 rfl
 have fO:=cj.new_ fN
 obtain⟨lP,-,eg,fP,fQ,ld⟩:=s_two (v0:=iv na.k) (v1:=iv na.n) Tryz.sizeOf23 rfl rfl rfl fO
 refine st_act rfl rfl fun lQ fR=>a_store' rfl ed ee eg (fR _ _ trivial ?_)
 have fS:=fM.trans fQ (fun _ h b=>by subst b; omega)
 refine st_take rfl rfl (y_assign (v:=.bool ok) rfl ef) rfl ?_
 obtain⟨i2,am⟩:∃ a',a'=ec.put (some 3) (.bool ok):=⟨_,rfl⟩
 have le:=pz am co
 have fT:=pd am fL
 have i3:=pn am ed (by decide)
 have lR:=pn am ee (by decide)
 have lS:=pn am ef (by decide)
 have i4:i2.eval (.tmp 3)=.bool ok:=by rw [am]; exact put_same _ _ _ (by rw [co]; decide)
 show stepsTo _ _ _ _ _ (ec.put (some 3) (.bool ok)) _
 rw [← am]
 refine st_nil (fK _ _ ?_)
 refine wp_ret (ret_k fT (v:=.tuple #[nv na,.bool ok]) (res_ct rfl i3 i4 (l_two Tryz.isAgg23 Tryz.sizeOf23 fP)) ?_)
 refine ⟨?_,fS⟩
 show Ending.returned (.tuple #[nv na,.bool ok])=Ending.returned (.tuple #[nv ((numT u).1),.bool ((numT u).2)])
 first|rfl|(simp only [hfin,ab,aF,bsm] <;> rfl)|(exfalso; omega)
 intro lT bn
 refine wp_block ?_
 refine wp_seq_k fun lU fU=>?_
 refine wp_g0 [true,true,true,true] [] 91
   [ve (sv A5 dd c5),
    (OP dZ.heap.size 74 .u16 (asc ⟨#[73,110,102,105,110,105,116,121]⟩)),ve (.bool (decide (dd=(asc ⟨#[73,110,102,105,110,105,116,121]⟩)))),ve (.bool (decide (dd=(asc ⟨#[73,110,102,105,110,105,116,121]⟩))))] cc (.eq (.cons (fun _ _ _ n ⟨_,_,e,h⟩=>⟨_,_,e,h.new_ n⟩) (.eq (.eq (.nil))))) ?_ ?_
 refine .m (fun k=>k.fx 5 d1) ?_
 refine .o1 (tkC rfl (noG rfl) rfl fun _ w hn k=>(by
       refine ⟨#[.string ⟨#[73,110,102,105,110,105,116,121]⟩],_,args1 rfl,fun w=>by kernel_rfl,ascii_c ⟨#[73,110,102,105,110,105,116,121]⟩ _ (by first|omega|(show (_:Nat)≤_; decide)),?_⟩
       rintro e w' ⟨A9,kk,rfl,hmo0,hm⟩
       exact⟨_,rfl,hm,⟨A9,kk,rfl,(hmo0.more hn.size)⟩⟩)) ?_
 refine .o1 (tkC rfl (noG rfl) rfl fun _ w hn k=>(by
       obtain⟨kl,km,kn,i5⟩:(OP dZ.heap.size 74 .u16 (asc ⟨#[73,110,102,105,110,105,116,121]⟩)) _ _:=k.dep 1 64 (by kernel_rfl) (by kernel_rfl)
       refine ⟨#[sv A5 dd c5,sv kl (asc ⟨#[73,110,102,105,110,105,116,121]⟩) km],_,args2 (k.eq1 0 63 rfl) kn,fun w=>by kernel_rfl,tsame_c _ dd _ _ (asc ⟨#[73,110,102,105,110,105,116,121]⟩) _ _ (cb.new_ hn) i5.row,?_⟩
       rintro e w' ⟨rfl,hm⟩
       exact⟨_,rfl,hm,rfl⟩)) ?_
 exact .a (fun k=>k.eq1 2 65 rfl) .nil
 refine aftI cc fg ff fun lV lW aX cp cq aY an=>?_
 have bP:=an.fx 5 d1
 have eh:=an.fx 6 iN
 have ei:=an.fx 2 iO
 have i6:=an.fx 4 iP
 have ej:=an.fx 7 iQ
 have ek:=an.fx 8 iR
 have el:=an.ge 3 62 rfl
 have cr:=fd.new_ aY
 have fV:=fe.new_ aY
 have ct:=fb.new_ aY
 have cv:=cb.new_ aY
 refine st_nil (fU _ _ ?_)
 rcases bc (decide (dd=(asc ⟨#[73,110,102,105,110,105,116,121]⟩))) with ac|ac
 have em:=oT ac
 have fW:=hB el ac
 refine wp_cond_true fW ?_
 refine wp_g0 [true,false] [(1,false)] 91
   [ve (nv (Nm.mk 3 0)),vt] aX (.eq (.tt (.nil))) ?_ ?_
 exact .t (fun _ w hn k=>⟨_,v_build (ps:=[(0,iv 3)]) rfl (parts1 rfl) (by kernel_rfl),rfl⟩)<| .off .nil
 refine aftI aX cp cq fun lX lY fX fY fZ cw aG=>?_
 have i7:=aG.fx 6 eh
 have i8:=aG.fx 2 ei
 have en:=aG.fx 7 ej
 have i9:=aG.fx 8 ek
 have ja:=aG.ge 0 66 rfl
 have f0:=cr.new_ cw
 have f1:=ct.new_ cw
 obtain⟨lZ,-,eo,f2,f3,f4⟩:=s_two (v0:=iv 3) (v1:=iv 0) Tryz.sizeOf23 rfl rfl rfl f1
 refine st_act rfl rfl fun l0 f5=>a_store' rfl en ja eo (f5 _ _ trivial ?_)
 have f6:=f4 _ _ _ (hne156) f0
 have f7:=fZ.trans f3 (fun _ h b=>by subst b; omega)
 refine st_nil ?_
 exact bn _ _ ⟨(Nm.mk 3 0),(!(strangeN (trimN u))),fX,fY,f7,i9,i8,i7,en,f6,f2,(by rw [hbody]; unfold bodyT; first|(simp only [ab,ac,bsm] <;> rfl)|(simp [ab,ac]; done))⟩
 have em:=oF ac
 have f8:=hB el ac
 refine wp_cond_false f8 ?_
 refine wp_seq_k fun l1 f9=>?_
 refine wp_g0 (.replicate 9 true) [] 91
   [ve (sv A5 dd c5),ve (iv (dd.length:Int)),ve (.bool (!decide ((dd.length:Int)≤0))),ve (.bool (!decide ((dd.length:Int)≤0))),ve (gq (!decide ((dd.length:Int)≤0)) (sv A5 dd c5)),ve (gq (!decide ((dd.length:Int)≤0)) (.bool (dd.any (fun y:Nat=>!dgtN y)))),ve (gq (!decide ((dd.length:Int)≤0)) (.bool (!(dd.any (fun y:Nat=>!dgtN y))))),ve (.bool ((!decide ((dd.length:Int)≤0)) && (!(dd.any (fun y:Nat=>!dgtN y))))),ve (.bool ((!decide ((dd.length:Int)≤0)) && (!(dd.any (fun y:Nat=>!dgtN y)))))] aX (.eq (.eq (.eq (.eq (.eq (.eq (.eq (.eq (.eq (.nil)))))))))) ?_ ?_
 exact .m (fun k=>k.fx 5 bP)<| .t (fun _ w hn k=>⟨_,v_lenR rfl elU (k.eq1 0 68 rfl),rfl⟩)<| .t (fun _ w hn k=>⟨_,v_bin rfl (k.eq1 1 69 rfl) rfl (fun _=>rfl) (r_gtrK rfl),rfl⟩)<| .m (fun k=>k.eq1 2 70 rfl)<| .o1 (sc (G:=(!decide ((dd.length:Int)≤0))) rfl rfl rfl (fun _ _ k=>g0 (k.eq1 3 71 rfl)) (fun hG _ w hn k=>v_move rfl (k.fx 5 bP)))<| .o1 (scC (G:=(!decide ((dd.length:Int)≤0))) rfl rfl rfl (fun _ _ k=>g0 (k.eq1 3 71 rfl)) rfl (fun hG _ w hn k=>⟨#[sv A5 dd c5,.func (.func 100) #[] #[]],args2 (cT hG (k.eq1 4 72 rfl)) rfl,fun _=>by kernel_rfl,containsf_c _ dd _ _ (cv.new_ hn) hdd⟩))<| .o1 (sc (G:=(!decide ((dd.length:Int)≤0))) rfl rfl rfl (fun _ _ k=>g0 (k.eq1 3 71 rfl)) (fun hG _ w hn k=>v_not rfl (cT hG (k.eq1 5 73 rfl))))<| .t (fun _ w hn k=>⟨_,v_and rfl (k.eq1 3 71 rfl) (fun hg=>(cT hg (k.eq1 6 74 rfl))) rfl,rfl⟩)<| .a (fun k=>k.eq1 7 75 rfl) .nil
 refine aftI aX cp cq fun l2 l3 bo cx cy aZ ao=>?_
 have jb:=ao.fx 5 bP
 have ep:=ao.fx 6 eh
 have er:=ao.fx 2 ei
 have jc:=ao.fx 4 i6
 have es:=ao.fx 7 ej
 have jd:=ao.fx 8 ek
 have et:=ao.ge 8 67 rfl
 have cz:=cr.new_ aZ
 have ga:=fV.new_ aZ
 have cA:=ct.new_ aZ
 have gb:=cv.new_ aZ
 refine st_nil (f9 _ _ ?_)
 rcases bc (((!decide ((dd.length:Int)≤0)) && (!(dd.any (fun y:Nat=>!dgtN y))))) with ae|ae
 have gc:=hB et ae
 have aH:(!decide ((dd.length:Int)≤0))=true:=al ae
 have aI:(decide ((dd.length:Int)≤0))=false:=nF aH
 have ko:=oF aI
 have aJ:(!(dd.any (fun y:Nat=>!dgtN y)))=true:=ar ae
 have aK:(dd.any (fun y:Nat=>!dgtN y))=false:=nF aJ
 refine wp_cond_true gc ?_
 refine wp_seq_k fun l4 gd=>?_
 refine wp_g0 [true,true,true,true,true,true,true] [] 91
   [ve (sv A5 dd c5),ve (.tuple #[iv ((valR dd 0).1),.bool ((valR dd 0).2)]),ve (.tuple #[iv ((valR dd 0).1),.bool ((valR dd 0).2)]),ve (iv ((valR dd 0).1)),ve (.bool ((valR dd 0).2)),ve (iv ((valR dd 0).1)),ve (.bool ((valR dd 0).2))] bo (.eq (.eq (.eq (.eq (.eq (.eq (.eq (.nil)))))))) ?_ ?_
 exact .m (fun k=>k.fx 5 jb)<| .o1 (ck rfl rfl rfl (fun _ w hn k=>⟨#[sv A5 dd c5],args1 (k.eq1 0 77 rfl),fun _=>by kernel_rfl,value_c _ dd _ _ (gb.new_ hn) hdd (digs_of aK)⟩) fun _=>rfl)<| .m (fun k=>k.eq1 1 78 rfl)<| .t (fun _ w hn k=>⟨_,v_extract rfl (k.eq1 2 76 rfl) rfl,rfl⟩)<| .t (fun _ w hn k=>⟨_,v_extract rfl (k.eq1 2 76 rfl) rfl,rfl⟩)<| .a (fun k=>k.eq1 3 79 rfl)<| .a (fun k=>k.eq1 4 80 rfl) .nil
 refine aftI bo cx cy fun l5 l6 cB gf gg bp av=>?_
 have je:=av.fx 6 ep
 have jf:=av.fx 2 er
 have jg:=av.fx 4 jc
 have jh:=av.fx 7 es
 have ji:=av.ge 5 9 rfl
 have jj:=av.ge 6 10 rfl
 have gh:=cz.new_ bp
 have gi:=ga.new_ bp
 have gj:=cA.new_ bp
 refine st_nil (gd _ _ (wp_seq_k fun l7 gk=>?_))
 refine wp_seq_k fun l8 gl=>?_
 refine wp_g0 [true,true] [] 91
   [ve (.bool ((valR dd 0).2)),ve (.bool (!((valR dd 0).2)))] cB (.eq (.eq (.nil))) ?_ ?_
 exact .m (fun k=>k.fx 10 jj)<| .t (fun _ w hn k=>⟨_,v_not rfl (k.eq1 0 81 rfl),rfl⟩) .nil
 refine aftI cB gf gg fun l9 ma a1 cC cD bq aw=>?_
 have jk:=aw.fx 6 je
 have eu:=aw.fx 2 jf
 have jl:=aw.fx 4 jg
 have jm:=aw.fx 7 jh
 have jn:=aw.fx 9 ji
 have ev:=aw.ge 1 82 rfl
 have cE:=gh.new_ bq
 have gn:=gi.new_ bq
 have go:=gj.new_ bq
 refine st_nil (gl _ _ ?_)
 rcases bc ((!((valR dd 0).2))) with ag|ag
 have gp:=hB ev ag
 have cF:((valR dd 0).2)=false:=nF ag
 refine wp_cond_true gp ?_
 refine wp_seq_k fun mb gr=>?_
 refine wp_g0 [true,false,false] [(1,false),(2,true)] 91
   [ve (nv (Nm.mk 2 0)),vt,vt] a1 (.eq (.tt (.tt (.nil)))) ?_ ?_
 exact .t (fun _ w hn k=>⟨_,v_load rfl (k.fx 4 jl) (l_two Tryz.isAgg23 Tryz.sizeOf23 (gn.new_ hn)),rfl⟩)<| .off<| .off .nil
 refine aftI a1 cC cD fun ew mc cG gs gt gu cH=>?_
 have ex:=cH.fx 2 eu
 have ey:=cH.ge 0 83 rfl
 have gv:=cE.new_ gu
 obtain⟨md,-,ez,gw,gx,lf⟩:=s_two (v0:=iv 2) (v1:=iv 0) Tryz.sizeOf23 rfl rfl rfl gv
 refine st_act rfl rfl fun me gy=>a_store' rfl ex ey ez (gy _ _ trivial ?_)
 have gz:=gt.trans gx (fun _ h b=>by subst b; omega)
 refine st_take rfl rfl (y_assign (v:=.bool false) rfl rfl) rfl ?_
 obtain⟨jo,ax⟩:∃ a',a'=ew.put (some 3) (.bool false):=⟨_,rfl⟩
 have lg:=pz ax cG
 have gA:=pd ax gs
 have jp:=pn ax ex (by decide)
 have mf:=pn ax ey (by decide)
 have jq:jo.eval (.tmp 3)=.bool false:=by rw [ax]; exact put_same _ _ _ (by rw [cG]; decide)
 show stepsTo _ _ _ _ _ (ew.put (some 3) (.bool false)) _
 rw [← ax]
 refine st_nil (gr _ _ ?_)
 refine wp_ret (ret_k gA (v:=.tuple #[nv (Nm.mk 2 0),.bool false]) (res_ct rfl jp jq (l_two Tryz.isAgg23 Tryz.sizeOf23 gw)) ?_)
 refine ⟨?_,gz⟩
 show Ending.returned (.tuple #[nv (Nm.mk 2 0),.bool false])=Ending.returned (.tuple #[nv ((numT u).1),.bool ((numT u).2)])
 first|rfl|(simp only [hbody,bodyT,ab,ac,ae,aH,aH,aI,aI,aJ,aJ,aK,aK,ag,cF,cF,bsm] <;> rfl)|(exfalso; omega)
 have gB:=hB ev ag
 have cI:((valR dd 0).2)=true:=nT ag
 refine wp_cond_false gB ?_
 refine wp_skip ?_
 refine gk _ _ ?_
 refine wp_g0 [true,true,false,false] [(2,false),(3,true)] 91
   [ve (iv ((valR dd 0).1)),ve (nv (Nm.mk 0 ((valR dd 0).1))),vt,vt] a1 (.eq (.eq (.tt (.tt (.nil))))) ?_ ?_
 exact .m (fun k=>k.fx 9 jn)<| .t (fun _ w hn k=>⟨_,v_build (ps:=[(1,iv ((valR dd 0).1))]) rfl (parts1 (k.eq1 0 84 rfl)) (by kernel_rfl),rfl⟩)<| .off<| .off .nil
 refine aftI a1 cC cD fun eA mg cJ gC gD cK a3=>?_
 have jr:=a3.fx 6 jk
 have js:=a3.fx 2 eu
 have eB:=a3.fx 7 jm
 have eC:=a3.ge 1 85 rfl
 have gE:=cE.new_ cK
 have gF:=go.new_ cK
 obtain⟨mh,-,eD,gG,gH,gI⟩:=s_two (v0:=iv 0) (v1:=iv ((valR dd 0).1)) Tryz.sizeOf23 rfl rfl rfl gF
 refine st_act rfl rfl fun mi gJ=>a_store' rfl eB eC eD (gJ _ _ trivial ?_)
 have gK:=gI _ _ _ (hne156) gE
 have gL:=gD.trans gH (fun _ h b=>by subst b; omega)
 refine st_take rfl rfl (y_assign (v:=.bool true) rfl rfl) rfl ?_
 obtain⟨jt,ah⟩:∃ a',a'=eA.put (some 8) (.bool true):=⟨_,rfl⟩
 have gM:=pz ah cJ
 have gN:=pd ah gC
 have ju:=pn ah jr (by decide)
 have jv:=pn ah js (by decide)
 have jw:=pn ah eB (by decide)
 have mj:=pn ah eC (by decide)
 have jx:jt.eval (.tmp 8)=.bool true:=by rw [ah]; exact put_same _ _ _ (by rw [cJ]; decide)
 show stepsTo _ _ _ _ _ (eA.put (some 8) (.bool true)) _
 rw [← ah]
 refine st_nil ?_
 exact bn _ _ ⟨(Nm.mk 0 (valR dd 0).1),true,gM,gN,gL,jx,jv,ju,jw,gK,gG,(by rw [hbody]; unfold bodyT; first|(simp only [ab,ac,ae,aH,aI,aJ,aK,ag,cI,bsm] <;> rfl)|(simp [ab,ac,ae,aH,aI,aJ,aK,ag,cI]; done))⟩
 have gO:=hB et ae
 refine wp_cond_false gO ?_
 refine wp_skip ?_
 exact bn _ _ ⟨(Nm.mk 2 0),(!(strangeN (trimN u))),bo,cx,cy,jd,er,ep,es,cz,cA,(by rw [hbody]; unfold bodyT; first|(simp only [ab,ac,ae,bsm] <;> rfl)|(simp [ab,ac,ae]; done))⟩
 intro ml br
 refine wp_seq_k fun mn cL=>?_
 rcases bc (decide ((((trimN u).getD 0 0:Nat):Int)=45)) with ai|ai
 have eE:=oT ai
 have cM:=hB dT ai
 refine wp_g0 [true,true,true,true,true,true,true] [] 91
   [vT,vT,vU,vU,vU,vU,vT] aT (.eq (.eq (.eq (.eq (.eq (.eq (.eq (.nil)))))))) ?_ ?_
 exact .m (fun k=>k.fx 6 cM)<| .m (fun k=>k.eq1 0 49 rfl)<| .s (fun k=>k.eq1 1 50 rfl)<| .s (fun k=>k.eq1 1 50 rfl)<| .s (fun k=>k.eq1 1 50 rfl)<| .s (fun k=>k.eq1 1 50 rfl)<| .t (fun _ w hn k=>⟨_,v_pickT rfl (k.eq1 1 50 rfl) rfl,rfl⟩) .nil
 refine aftI aT bX bY fun mo mp cN gP gQ bs ay=>?_
 have eF:=ay.fx 0 bN
 have jy:=ay.fx 2 dQ
 have jz:=ay.fx 4 dR
 have mq:=ay.fx 5 dS
 have jA:=ay.fx 6 cM
 have jB:=ay.ge 6 55 rfl
 have gR:=bZ.new_ bs
 have gS:=b0.new_ bs
 have cO:=bf.new_ bs
 refine st_nil (cL _ _ ?_)
 refine wp_cond_true jB ?_
 refine wp_g0 [true,true,true] [] 91
   [ve (sv A4 (trimN u) c4),
    (RP .u16 ((trimN u).drop 1)),
    (RP .u16 ((trimN u).drop 1))] cN (.eq (.cons (fun _ _ _ n ⟨_,_,e,h⟩=>⟨_,_,e,h.new_ n⟩) (.cons (fun _ _ _ n ⟨_,_,e,h⟩=>⟨_,_,e,h.new_ n⟩) (.nil)))) ?_ ?_
 refine .m (fun k=>k.fx 0 eF) ?_
 refine .o1 (tk rfl rfl fun _ w hn k=>(by
       exact x_cutL (k:=.u16) rfl elU (k.eq1 0 56 rfl) rfl (cO.new_ hn) (by omega) fun kt ku hmr=>⟨kt,ku,rfl,hmr⟩)) ?_
 refine .o1 (tk rfl rfl fun _ w hn k=>(by
       obtain⟨kv,kw,kx,jC⟩:(RP .u16 ((trimN u).drop 1)) _ _:=k.dep 1 57 (by kernel_rfl) (by kernel_rfl)
       exact⟨_,v_assign rfl kx,⟨kv,kw,rfl,jC⟩⟩)) ?_
 exact .nil
 refine aftI cN gP gQ fun jD mr gT gU gV bt aL=>?_
 have jE:=aL.fx 0 eF
 have jF:=aL.fx 2 jy
 have jG:=aL.fx 4 jz
 have jH:=aL.fx 6 jA
 obtain⟨eG,cP,bQ,gW⟩:=aL.G 2 5
 have bQ:jD.eval (.tmp 5)=sv eG ((trimN u).drop 1) cP:=bQ
 have gX:=gR.new_ bt
 have gY:=gS.new_ bt
 have gZ:=cO.new_ bt
 refine st_nil ?_
 exact br _ _ ⟨true,((trimN u).drop 1),eG,cP,gT,gU,gV,bQ,jH,jE,jF,jG,gX,gY,gW,gZ,(by unfold numT; simp only [ab,ai,bsm]),(hut.drop 1)⟩
 have eE:=oF ai
 have cQ:=hB dT ai
 refine wp_g0 [true,true,true,true,true,true,true] [] 91
   [vF,vF,ve (sv A4 (trimN u) c4),
    (EP (.int .u16 (((trimN u).getD 0 0:Nat):Int))),ve (.int .u16 (((trimN u).getD 0 0:Nat):Int)),ve (.bool (decide ((((trimN u).getD 0 0:Nat):Int)=43))),ve (.bool (decide ((((trimN u).getD 0 0:Nat):Int)=43)))] aT (.eq (.eq (.eq (.cons (fun _ _ _ n ⟨_,_,e,h⟩=>⟨_,_,e,h.new_ n⟩) (.eq (.eq (.eq (.nil)))))))) ?_ ?_
 refine .m (fun k=>k.fx 6 cQ)<| .m (fun k=>k.eq1 0 49 rfl)<| .gm (fun k=>k.eq1 1 50 rfl) (fun k=>k.fx 0 bN) ?_
 refine .o1 (tg rfl rfl rfl (fun _ _ k=>k.eq1 1 50 rfl) fun _ w hn k=>(by
       exact x_eaddr (k:=.u16) rfl elU (k.eq1 2 51 rfl) rfl (bf.new_ hn) (by omega) fun kA kB hme=>⟨kA,kB,rfl,hme⟩)) ?_
 refine .o1 (tg rfl rfl rfl (fun _ _ k=>k.eq1 1 50 rfl) fun _ w hn k=>(by
       obtain⟨nb,nc,kC,jI⟩:(EP (.int .u16 (((trimN u).getD 0 0:Nat):Int))) _ _:=k.dep 3 52 (by kernel_rfl) (by kernel_rfl)
       exact⟨_,v_load rfl kC (l_one Tryz.isAgg74 jI.1),rfl⟩)) ?_
 exact .g (fun k=>k.eq1 1 50 rfl) (fun _ w hn k=>⟨_,v_bin rfl (k.eq1 4 53 rfl) rfl (fun _=>rfl) (r_eql rfl),rfl⟩)<| .t (fun _ w hn k=>⟨_,v_pickF rfl (k.eq1 1 50 rfl) (k.eq1 5 54 rfl),rfl⟩) .nil
 refine aftI aT bX bY fun ms mt bu cR cS bv az=>?_
 have bR:=az.fx 0 bN
 have eH:=az.fx 2 dQ
 have eI:=az.fx 4 dR
 have jJ:=az.fx 5 dS
 have eJ:=az.fx 6 cQ
 have eK:=az.ge 6 55 rfl
 have cU:=bZ.new_ bv
 have cV:=b0.new_ bv
 have a4:=bf.new_ bv
 refine st_nil (cL _ _ ?_)
 rcases bc (decide ((((trimN u).getD 0 0:Nat):Int)=43)) with ap|ap
 have eL:=oT ap
 have g1:=hB eK ap
 refine wp_cond_true g1 ?_
 refine wp_g0 [true,true,true] [] 91
   [ve (sv A4 (trimN u) c4),
    (RP .u16 ((trimN u).drop 1)),
    (RP .u16 ((trimN u).drop 1))] bu (.eq (.cons (fun _ _ _ n ⟨_,_,e,h⟩=>⟨_,_,e,h.new_ n⟩) (.cons (fun _ _ _ n ⟨_,_,e,h⟩=>⟨_,_,e,h.new_ n⟩) (.nil)))) ?_ ?_
 refine .m (fun k=>k.fx 0 bR) ?_
 refine .o1 (tk rfl rfl fun _ w hn k=>(by
       exact x_cutL (k:=.u16) rfl elU (k.eq1 0 56 rfl) rfl (a4.new_ hn) (by omega) fun kH kI hmr=>⟨kH,kI,rfl,hmr⟩)) ?_
 refine .o1 (tk rfl rfl fun _ w hn k=>(by
       obtain⟨kJ,kK,kL,jK⟩:(RP .u16 ((trimN u).drop 1)) _ _:=k.dep 1 57 (by kernel_rfl) (by kernel_rfl)
       exact⟨_,v_assign rfl kL,⟨kJ,kK,rfl,jK⟩⟩)) ?_
 exact .nil
 refine aftI bu cR cS fun jL mu g2 g3 g4 bw aM=>?_
 have jM:=aM.fx 0 bR
 have jN:=aM.fx 2 eH
 have jO:=aM.fx 4 eI
 have jP:=aM.fx 6 eJ
 obtain⟨eM,cW,bS,g5⟩:=aM.G 2 5
 have bS:jL.eval (.tmp 5)=sv eM ((trimN u).drop 1) cW:=bS
 have g6:=cU.new_ bw
 have g7:=cV.new_ bw
 have g8:=a4.new_ bw
 refine st_nil ?_
 exact br _ _ ⟨false,((trimN u).drop 1),eM,cW,g2,g3,g4,bS,jP,jM,jN,jO,g6,g7,g5,g8,(by unfold numT; simp only [ab,ai,ap,bsm]),(hut.drop 1)⟩
 have eL:=oF ap
 have g9:=hB eK ap
 refine wp_cond_false g9 ?_
 refine wp_skip ?_
 exact br _ _ ⟨false,(trimN u),A4,c4,bu,cR,cS,jJ,eJ,bR,eH,eI,cU,cV,a4,a4,(by unfold numT; simp only [ab,ai,ap,bsm]),hut⟩
 intro mv cX
 refine wp_block ?_
 refine wp_loopX (fun (mm:Nat) (aa:Act) (ww:World)=>∃ (cu2:List Nat) (A2:Option Addr) (c2:Nat),mm=cu2.length∧aa.tmps.size=91∧aa.defers=[]∧New w ww∧aa.eval (.tmp 0)=sv A2 cu2 c2∧aa.eval (.tmp 2)=pv af∧Blk ww af 23 [iv 0,iv 0]∧SRow ww .u16 A2 cu2 c2∧(rtrimN cu2=trimN u)∧(U16s cu2)) (fun mm=>mm) ⟨_,⟨(u.dropWhile blankN),A3,c3,rfl,hX,hY,hZ,j8,j9,h3,h4,rfl,(hu.dw _)⟩⟩ ?_
 rintro mm mw mx ⟨cu2,A2,c2,hmm,a5,cY,cZ,aQ,eN,c0,aN,hc2,hcu2⟩
 refine wp_seq_k fun my ha=>?_
 refine wp_seq_k fun mz c6=>?_
 have hix2:((cu2.length:Int) - 1).toNat=cu2.length - 1:=by omega
 rcases bc ((!decide ((cu2.length:Int)≤0))) with bx|bx
 have c8:(decide ((cu2.length:Int)≤0))=false:=nF bx
 have kM:=oF c8
 have hb:=hcu2.at16 ((cu2.length:Int) - 1).toNat
 have hU:=aN.max
 refine wp_g0 (.replicate 12 true) [] 91
   [ve (sv A2 cu2 c2),ve (iv (cu2.length:Int)),vT,vT,ve (sv A2 cu2 c2),ve (sv A2 cu2 c2),ve (iv (cu2.length:Int)),ve (iv ((cu2.length:Int) - 1)),
    (EP (.int .u16 ((cu2.getD (((cu2.length:Int) - 1:Int).toNat) 0:Nat):Int))),ve (.int .u16 ((cu2.getD (((cu2.length:Int) - 1:Int).toNat) 0:Nat):Int)),ve (.bool (blankN (cu2.getD (((cu2.length:Int) - 1:Int).toNat) 0))),ve (.bool (blankN (cu2.getD (((cu2.length:Int) - 1:Int).toNat) 0)))] a5 (.eq (.eq (.eq (.eq (.eq (.eq (.eq (.eq (.cons (fun _ _ _ n ⟨_,_,e,h⟩=>⟨_,_,e,h.new_ n⟩) (.eq (.eq (.eq (.nil))))))))))))) ?_ ?_
 refine .m (fun k=>k.fx 0 aQ)<| .t (fun _ w hn k=>⟨_,v_lenR rfl elU (k.eq1 0 22 rfl),rfl⟩)<| .t (fun _ w hn k=>⟨_,v_bin rfl (k.eq1 1 23 rfl) rfl (fun _=>rfl) (r_gtrK c8),rfl⟩)<| .m (fun k=>k.eq1 2 24 rfl)<| .gm (fun k=>k.eq1 3 25 rfl) (fun k=>k.fx 0 aQ)<| .gm (fun k=>k.eq1 3 25 rfl) (fun k=>k.fx 0 aQ)<| .g (fun k=>k.eq1 3 25 rfl) (fun _ w hn k=>⟨_,v_lenR rfl elU (k.eq1 5 27 rfl),rfl⟩)<| .g (fun k=>k.eq1 3 25 rfl) (fun _ w hn k=>⟨_,v_bin rfl (k.eq1 6 28 rfl) rfl (fun _=>rfl) (r_sub rfl (by omega)),rfl⟩) ?_
 refine .o1 (tg rfl rfl rfl (fun _ _ k=>k.eq1 3 25 rfl) fun _ w hn k=>(by
       exact x_eaddr (k:=.u16) rfl elU (k.eq1 4 26 rfl) (k.eq1 7 29 rfl) (aN.new_ hn) (by omega) fun kP kQ hme=>⟨kP,kQ,rfl,hme⟩)) ?_
 refine .o1 (tg rfl rfl rfl (fun _ _ k=>k.eq1 3 25 rfl) fun _ w hn k=>(by
       obtain⟨nd,ne,kR,jQ⟩:(EP (.int .u16 ((cu2.getD (((cu2.length:Int) - 1:Int).toNat) 0:Nat):Int))) _ _:=k.dep 8 30 (by kernel_rfl) (by kernel_rfl)
       exact⟨_,v_load rfl kR (l_one Tryz.isAgg74 jQ.1),rfl⟩)) ?_
 exact .o1 (cg rfl rfl rfl (fun _ _ k=>k.eq1 3 25 rfl) rfl (fun _ w hn k=>⟨#[.int .u16 ((cu2.getD (((cu2.length:Int) - 1:Int).toNat) 0:Nat):Int)],args1 (k.eq1 9 31 rfl),fun _=>by kernel_rfl,blank_c (cu2.getD (((cu2.length:Int) - 1:Int).toNat) 0) _ (by omega)⟩) fun _=>rfl)<| .t (fun _ w hn k=>⟨_,v_pickT rfl (k.eq1 3 25 rfl) (k.eq1 10 32 rfl),rfl⟩) .nil
 refine aftI a5 cY cZ fun mA mB bz c9 da db bA=>?_
 have a8:=bA.fx 0 aQ
 have eO:=bA.fx 2 eN
 have eP:=bA.ge 11 33 rfl
 have dc:=c0.new_ db
 have aO:=aN.new_ db
 refine st_nil (c6 _ _ ?_)
 rcases bc (blankN (cu2.getD (((cu2.length:Int) - 1:Int).toNat) 0)) with aq|aq
 have hc:=hB eP aq
 refine wp_cond_true hc ?_
 refine wp_skip ?_
 refine ha _ _ ?_
 refine wp_block ?_
 have hU:=aO.max
 refine wp_g0 [true,true,true,true,true,false] [(5,true)] 91
   [ve (sv A2 cu2 c2),ve (sv A2 cu2 c2),ve (iv (cu2.length:Int)),ve (iv ((cu2.length:Int) - 1)),
    (RP .u16 (cu2.take (((cu2.length:Int) - 1:Int).toNat))),vt] bz (.eq (.eq (.eq (.eq (.cons (fun _ _ _ n ⟨_,_,e,h⟩=>⟨_,_,e,h.new_ n⟩) (.tt (.nil))))))) ?_ ?_
 refine .m (fun k=>k.fx 0 a8)<| .m (fun k=>k.fx 0 a8)<| .t (fun _ w hn k=>⟨_,v_lenR rfl elU (k.eq1 1 35 rfl),rfl⟩)<| .t (fun _ w hn k=>⟨_,v_bin rfl (k.eq1 2 36 rfl) rfl (fun _=>rfl) (r_sub rfl (by omega)),rfl⟩) ?_
 refine .o1 (tk rfl rfl fun _ w hn k=>(by
       exact x_cutH (k:=.u16) rfl elU (k.eq1 0 34 rfl) (k.eq1 3 37 rfl) (aO.new_ hn) (by omega) fun kU kV hmr=>⟨kU,kV,rfl,hmr⟩)) ?_
 exact .off .nil
 refine aftI bz c9 da fun bT mC de hd hf df bB=>?_
 have mD:=bB.fx 0 a8
 have jR:=bB.fx 2 eO
 obtain⟨aR,aA,bC,hh⟩:=bB.G 4 38
 have bC:bT.eval (.tmp 38)=sv aR (cu2.take (((cu2.length:Int) - 1:Int).toNat)) aA:=bC
 have hi:=dc.new_ df
 have lh:=aO.new_ df
 refine st_take rfl rfl (y_assign (v:=sv aR (cu2.take (((cu2.length:Int) - 1:Int).toNat)) aA) rfl bC) rfl ?_
 obtain⟨jS,aB⟩:∃ a',a'=bT.put (some 0) (sv aR (cu2.take (((cu2.length:Int) - 1:Int).toNat)) aA):=⟨_,rfl⟩
 have hj:=pz aB de
 have hl:=pd aB hd
 have jT:=pn aB jR (by decide)
 have mE:=pn aB bC (by decide)
 have jU:jS.eval (.tmp 0)=sv aR (cu2.take (((cu2.length:Int) - 1:Int).toNat)) aA:=by rw [aB]; exact put_same _ _ _ (by rw [de]; decide)
 show stepsTo _ _ _ _ _ (bT.put (some 0) (sv aR (cu2.take (((cu2.length:Int) - 1:Int).toNat)) aA)) _
 rw [← aB]
 refine st_nil ?_
 refine blk_n ?_
 refine then_n ?_
 exact⟨_,⟨(cu2.take (((cu2.length:Int) - 1:Int).toNat)),aR,aA,rfl,hj,hl,hf,jU,jT,hi,hh,(by rw [hix2]; rw [hix2] at aq; exact (rt_step (by omega) aq).trans hc2),(hcu2.take _)⟩,(by rw [List.length_take]; omega)⟩
 have ho:=hB eP aq
 refine wp_cond_false ho ?_
 refine wp_exit ?_
 rw [hix2] at aq
 have hrt:=rt_end (l:=cu2) (Or.inr ⟨by omega,aq⟩)
 have he587:cu2=(trimN u):=hrt.symm.trans hc2
 rw [he587] at a8
 rw [he587] at aO
 exact cX _ _ ⟨A2,c2,bz,c9,da,a8,eO,dc,aO⟩
 have dg:(decide ((cu2.length:Int)≤0))=true:=nT bx
 have kW:=oT dg
 have hb:=hcu2.at16 ((cu2.length:Int) - 1).toNat
 have hU:=aN.max
 refine wp_g0 (.replicate 12 true) [] 91
   [ve (sv A2 cu2 c2),ve (iv (cu2.length:Int)),vF,vF,vU,vU,vU,vU,vU,vU,vU,vF] a5 (.eq (.eq (.eq (.eq (.eq (.eq (.eq (.eq (.eq (.eq (.eq (.eq (.nil))))))))))))) ?_ ?_
 exact .m (fun k=>k.fx 0 aQ)<| .t (fun _ w hn k=>⟨_,v_lenR rfl elU (k.eq1 0 22 rfl),rfl⟩)<| .t (fun _ w hn k=>⟨_,v_bin rfl (k.eq1 1 23 rfl) rfl (fun _=>rfl) (r_gtrK dg),rfl⟩)<| .m (fun k=>k.eq1 2 24 rfl)<| .s (fun k=>k.eq1 3 25 rfl)<| .s (fun k=>k.eq1 3 25 rfl)<| .s (fun k=>k.eq1 3 25 rfl)<| .s (fun k=>k.eq1 3 25 rfl)<| .s (fun k=>k.eq1 3 25 rfl)<| .s (fun k=>k.eq1 3 25 rfl)<| .s (fun k=>k.eq1 3 25 rfl)<| .t (fun _ w hn k=>⟨_,v_pickF rfl (k.eq1 3 25 rfl) rfl,rfl⟩) .nil
 refine aftI a5 cY cZ fun mF mG hr hs ht dh bD=>?_
 have eQ:=bD.fx 0 aQ
 have jV:=bD.fx 2 eN
 have jW:=bD.ge 11 33 rfl
 have hv:=c0.new_ dh
 have di:=aN.new_ dh
 refine st_nil (c6 _ _ ?_)
 refine wp_cond_false jW ?_
 refine wp_exit ?_
 have hrt:=rt_end (l:=cu2) (Or.inl (by omega))
 have he601:cu2=(trimN u):=hrt.symm.trans hc2
 rw [he601] at eQ
 rw [he601] at di
 exact cX _ _ ⟨A2,c2,hr,hs,ht,eQ,jV,hv,di⟩
 intro mH dj
 refine wp_block ?_
 refine wp_loopX (fun (mm:Nat) (aa:Act) (ww:World)=>∃ (cur:List Nat) (A1:Option Addr) (c1:Nat),mm=cur.length∧aa.tmps.size=91∧aa.defers=[]∧New w ww∧aa.eval (.tmp 0)=sv A1 cur c1∧aa.eval (.tmp 2)=pv af∧Blk ww af 23 [iv 0,iv 0]∧SRow ww .u16 A1 cur c1∧(cur.dropWhile blankN=u.dropWhile blankN)∧(U16s cur)) (fun mm=>mm) ⟨_,⟨u,Au,cu,rfl,j6,j7,dA,h8,h9,hW,(hru.new_ dA),rfl,hu⟩⟩ ?_
 rintro mm mI mJ ⟨cur,A1,c1,hmm,a6,dk,dl,a9,eR,dm,bE,hcd,hcu⟩
 refine wp_seq_k fun mK hw=>?_
 refine wp_seq_k fun mL dn=>?_
 rcases bc ((!decide ((cur.length:Int)≤0))) with bF|bF
 have dp:(decide ((cur.length:Int)≤0))=false:=nF bF
 have kX:=oF dp
 have hb:=hcu.at16 0
 refine wp_g0 (.replicate 9 true) [] 91
   [ve (sv A1 cur c1),ve (iv (cur.length:Int)),vT,vT,ve (sv A1 cur c1),
    (EP (.int .u16 ((cur.getD 0 0:Nat):Int))),ve (.int .u16 ((cur.getD 0 0:Nat):Int)),ve (.bool (blankN (cur.getD 0 0))),ve (.bool (blankN (cur.getD 0 0)))] a6 (.eq (.eq (.eq (.eq (.eq (.cons (fun _ _ _ n ⟨_,_,e,h⟩=>⟨_,_,e,h.new_ n⟩) (.eq (.eq (.eq (.nil)))))))))) ?_ ?_
 refine .m (fun k=>k.fx 0 a9)<| .t (fun _ w hn k=>⟨_,v_lenR rfl elU (k.eq1 0 11 rfl),rfl⟩)<| .t (fun _ w hn k=>⟨_,v_bin rfl (k.eq1 1 12 rfl) rfl (fun _=>rfl) (r_gtrK dp),rfl⟩)<| .m (fun k=>k.eq1 2 13 rfl)<| .gm (fun k=>k.eq1 3 14 rfl) (fun k=>k.fx 0 a9) ?_
 refine .o1 (tg rfl rfl rfl (fun _ _ k=>k.eq1 3 14 rfl) fun _ w hn k=>(by
       exact x_eaddr (k:=.u16) rfl elU (k.eq1 4 15 rfl) rfl (bE.new_ hn) (by omega) fun k0 k1 hme=>⟨k0,k1,rfl,hme⟩)) ?_
 refine .o1 (tg rfl rfl rfl (fun _ _ k=>k.eq1 3 14 rfl) fun _ w hn k=>(by
       obtain⟨nf,nh,k2,jX⟩:(EP (.int .u16 ((cur.getD 0 0:Nat):Int))) _ _:=k.dep 5 16 (by kernel_rfl) (by kernel_rfl)
       exact⟨_,v_load rfl k2 (l_one Tryz.isAgg74 jX.1),rfl⟩)) ?_
 exact .o1 (cg rfl rfl rfl (fun _ _ k=>k.eq1 3 14 rfl) rfl (fun _ w hn k=>⟨#[.int .u16 ((cur.getD 0 0:Nat):Int)],args1 (k.eq1 6 17 rfl),fun _=>by kernel_rfl,blank_c (cur.getD 0 0) _ (by omega)⟩) fun _=>rfl)<| .t (fun _ w hn k=>⟨_,v_pickT rfl (k.eq1 3 14 rfl) (k.eq1 7 18 rfl),rfl⟩) .nil
 refine aftI a6 dk dl fun mM mN bG dq dr ds bH=>?_
 have bI:=bH.fx 0 a9
 have eS:=bH.fx 2 eR
 have eT:=bH.ge 8 19 rfl
 have dt:=dm.new_ ds
 have a7:=bE.new_ ds
 refine st_nil (dn _ _ ?_)
 rcases bc (blankN (cur.getD 0 0)) with aP|aP
 have hx:=hB eT aP
 refine wp_cond_true hx ?_
 refine wp_skip ?_
 refine hw _ _ ?_
 refine wp_block ?_
 refine wp_g0 [true,true,false] [(2,true)] 91
   [ve (sv A1 cur c1),
    (RP .u16 (cur.drop 1)),vt] bG (.eq (.cons (fun _ _ _ n ⟨_,_,e,h⟩=>⟨_,_,e,h.new_ n⟩) (.tt (.nil)))) ?_ ?_
 refine .m (fun k=>k.fx 0 bI) ?_
 refine .o1 (tk rfl rfl fun _ w hn k=>(by
       exact x_cutL (k:=.u16) rfl elU (k.eq1 0 20 rfl) rfl (a7.new_ hn) (by omega) fun k5 k6 hmr=>⟨k5,k6,rfl,hmr⟩)) ?_
 exact .off .nil
 refine aftI bG dq dr fun bU mO du hy hz dv bJ=>?_
 have mP:=bJ.fx 0 bI
 have jY:=bJ.fx 2 eS
 obtain⟨aS,aC,bK,hA⟩:=bJ.G 1 21
 have bK:bU.eval (.tmp 21)=sv aS (cur.drop 1) aC:=bK
 have hC:=dt.new_ dv
 have li:=a7.new_ dv
 refine st_take rfl rfl (y_assign (v:=sv aS (cur.drop 1) aC) rfl bK) rfl ?_
 obtain⟨jZ,aD⟩:∃ a',a'=bU.put (some 0) (sv aS (cur.drop 1) aC):=⟨_,rfl⟩
 have hD:=pz aD du
 have hE:=pd aD hy
 have j0:=pn aD jY (by decide)
 have mQ:=pn aD bK (by decide)
 have j1:jZ.eval (.tmp 0)=sv aS (cur.drop 1) aC:=by rw [aD]; exact put_same _ _ _ (by rw [du]; decide)
 show stepsTo _ _ _ _ _ (bU.put (some 0) (sv aS (cur.drop 1) aC)) _
 rw [← aD]
 refine st_nil ?_
 refine blk_n ?_
 refine then_n ?_
 exact⟨_,⟨(cur.drop 1),aS,aC,rfl,hD,hE,hz,j1,j0,hC,hA,((dw_step (by omega) aP).trans hcd),(hcu.drop 1)⟩,(by rw [List.length_drop]; omega)⟩
 have hF:=hB eT aP
 refine wp_cond_false hF ?_
 refine wp_exit ?_
 have hdw:=dw_end (l:=cur) (Or.inr aP)
 have he653:cur=(u.dropWhile blankN):=hdw.symm.trans hcd
 rw [he653] at bI
 rw [he653] at a7
 exact dj _ _ ⟨A1,c1,bG,dq,dr,bI,eS,dt,a7⟩
 have dx:(decide ((cur.length:Int)≤0))=true:=nT bF
 have k7:=oT dx
 have hb:=hcu.at16 0
 refine wp_g0 (.replicate 9 true) [] 91
   [ve (sv A1 cur c1),ve (iv (cur.length:Int)),vF,vF,vU,vU,vU,vU,vF] a6 (.eq (.eq (.eq (.eq (.eq (.eq (.eq (.eq (.eq (.nil)))))))))) ?_ ?_
 exact .m (fun k=>k.fx 0 a9)<| .t (fun _ w hn k=>⟨_,v_lenR rfl elU (k.eq1 0 11 rfl),rfl⟩)<| .t (fun _ w hn k=>⟨_,v_bin rfl (k.eq1 1 12 rfl) rfl (fun _=>rfl) (r_gtrK dx),rfl⟩)<| .m (fun k=>k.eq1 2 13 rfl)<| .s (fun k=>k.eq1 3 14 rfl)<| .s (fun k=>k.eq1 3 14 rfl)<| .s (fun k=>k.eq1 3 14 rfl)<| .s (fun k=>k.eq1 3 14 rfl)<| .t (fun _ w hn k=>⟨_,v_pickF rfl (k.eq1 3 14 rfl) rfl,rfl⟩) .nil
 refine aftI a6 dk dl fun mR mS hH hI hJ dy bL=>?_
 have eU:=bL.fx 0 a9
 have j2:=bL.fx 2 eR
 have j3:=bL.ge 8 19 rfl
 have hK:=dm.new_ dy
 have dz:=bE.new_ dy
 refine st_nil (dn _ _ ?_)
 refine wp_cond_false j3 ?_
 refine wp_exit ?_
 have hdw:=dw_end (l:=cur) (Or.inl (by omega))
 have he667:cur=(u.dropWhile blankN):=hdw.symm.trans hcd
 rw [he667] at eU
 rw [he667] at dz
 exact dj _ _ ⟨A1,c1,hH,hI,hJ,eU,j2,hK,dz⟩
theorem cnumber_c (v:Vl) (Av:Option Addr) (cv:Nat) (Bv:Option Addr) (dv:Nat) (w:World) (hmv:SRow w .u32 Av v.mag cv) (hsv:SRow w .u16 Bv v.s dv) (hvv:VOk v):Calls Tryz.prog 21 #[vv v Av cv Bv dv] w (IsRet (.tuple #[nv ((numberV v).1),iv ((numberV v).2)]) w):=by
 refine enter_abs Tryz.func21 rfl fun a0 aY gh hp=>?_
 have aY:a0.tmps.size=37:=aY
 have bG:New w w:=Upd.refl _ _
 have hp0:a0.eval (.tmp 0)=vv v Av cv Bv dv:=hp 0 _ rfl
 refine wp_seq_k fun K1 gi=>?_
 refine wp_g [true,true,true] [] [] 37
   [IsNew w 29 (c7 v Av cv Bv dv),IsNew w 23 [iv 0,iv 0],ve (iv 0)]
   [0,1] (newsCons (fun v w h=>IsNew.old h) (newsCons (fun v w h=>IsNew.old h) newsNil)) aY (.nw (.nw (.eq (.nil)))) ?_ (fun i h=>by cases h) ?_
 exact .o2 (step_allocN (cs:=(c7 v Av cv Bv dv)) (t:=29) rfl (noG rfl) (fun _ w hn k=>v_box rfl (k.fx 0 hp0) (fun w=>rfl)) (fun q _ hq hb=>⟨q,rfl,hq,hb⟩))<| .o2 (step_allocN (cs:=[iv 0,iv 0]) (t:=23) rfl (noG rfl) (fun _ w hn k=>rfl) (fun q _ hq hb=>⟨q,rfl,hq,hb⟩))<| .t (fun _ w hn k=>⟨_,v_assign rfl rfl,rfl⟩) .nil
 refine aftI aY gh bG fun a2 w3 eX gj aS hQ bH=>?_
 obtain⟨q9,h8,e7,bI⟩:=bH.G 0 1
 obtain⟨eY,eZ,e8,e9⟩:=bH.G 1 2
 have hne16:q9 ≠ eY:=bH.ne 0 1 1 2 h8 eZ
 have gH:=Nat.le_trans bG.size e7
 have gI:=Nat.le_trans bG.size e8
 refine st_nil (gi _ _ (wp_seq_k fun hR fa=>?_))
 refine wp_g0 [true,true,false] [(2,false)] 37
   [ve (vv v Av cv Bv dv),
    (VP (cleanV v)),vt] eX (.eq (.cons (fun _ _ _ n ⟨_,_,_,_,e,h,i⟩=>⟨_,_,_,_,e,h.new_ n,i.new_ n⟩) (.tt (.nil)))) ?_ ?_
 refine .t (fun _ w hn k=>⟨_,v_load rfl (k.fx 1 h8) (l_agg Tryz.isAgg29 Tryz.sizeOf29 (bI.new_ hn) rfl),rfl⟩) ?_
 refine .o1 (tkC rfl (noG rfl) rfl fun _ w hn k=>(by
       refine ⟨#[vv v Av cv Bv dv],_,args1 (k.eq1 0 6 rfl),fun w=>by kernel_rfl,clean_c v _ _ _ _ _ (hmv.new_ (aS.transNew hn)) (hsv.new_ (aS.transNew hn)),?_⟩
       rintro e w' ⟨A1,c2,A3,c4,rfl,hmo0,hmo1,hm⟩
       exact⟨_,rfl,hm,⟨A1,c2,A3,c4,rfl,hmo0,hmo1⟩⟩)) ?_
 exact .off .nil
 refine aftI eX gj aS fun gk hS bJ fb fc bK aT=>?_
 have bL:=aT.fx 1 h8
 have gl:=aT.fx 2 eZ
 obtain⟨bM,aU,aR,aI,bN,fd,fe⟩:=aT.G 1 7
 have bN:gk.eval (.tmp 7)=vv (cleanV v) bM aU aR aI:=bN
 have aV:=bI.new_ bK
 have ff:=e9.new_ bK
 obtain⟨gm,cU,cV,aW,fg⟩:=s_many (P:=Tryz.prog) (t:=29) (i:=0) (c7 (cleanV v) bM aU aR aI) Tryz.sizeOf29 rfl rfl rfl aV lb
 have bO:Blk gm q9 29 (c7 (cleanV v) bM aU aR aI):=cV
 refine st_act rfl rfl fun hT fh=>a_store' rfl bL bN cU (fh _ _ trivial ?_)
 have fi:=fd.fr aV aW
 have fj:=fe.fr aV aW
 have fk:=fg _ _ _ (fun h=>hne16 h.symm) ff
 have fl:=fc.trans aW (fun _ h b=>by subst b; omega)
 refine st_nil (fa _ _ (wp_seq_k fun hU bP=>?_))
 refine wp_seq_k fun hV fm=>?_
 refine wp_g0 [true,true] [] 37
   [ve (pv q9),ve (iv ((cleanV v).k))] bJ (.eq (.eq (.nil))) ?_ ?_
 exact .f (fun k=>k.fx 1 bL)<| .t (fun _ w hn k=>⟨_,v_load rfl (k.eq1 0 8 rfl) (l_one Tryz.isAgg3 ((bO.new_ hn).cell 0)),rfl⟩) .nil
 refine aftI bJ fb fl fun hW hX bQ fn fo aJ aX=>?_
 have gn:=aX.fx 1 bL
 have go:=aX.fx 2 gl
 have e0:=aX.ge 1 9 rfl
 have fp:=bO.new_ aJ
 have fq:=fk.new_ aJ
 have fs:=fi.new_ aJ
 have ft:=fj.new_ aJ
 refine st_nil (fm _ _ ?_)
 refine wp_block ?_
 refine wp_seq_k fun hY fu=>?_
 refine wp_g0 [true,true] [] 37
   [ve (.bool (decide (((cleanV v).k)=0))),ve (.bool (decide (((cleanV v).k)=0)))] bQ (.eq (.eq (.nil))) ?_ ?_
 exact .t (fun _ w hn k=>⟨_,v_bin rfl (k.fx 9 e0) rfl (fun _=>rfl) (r_eql rfl),rfl⟩)<| .a (fun k=>k.eq1 0 11 rfl) .nil
 refine aftI bQ fn fo fun hZ h3 aK bR bS aL aM=>?_
 have gp:=aM.fx 1 gn
 have e1:=aM.fx 2 go
 have e2:=aM.fx 9 e0
 have e3:=aM.ge 1 10 rfl
 have fv:=fp.new_ aL
 have bT:=fq.new_ aL
 have fw:=fs.new_ aL
 have fy:=ft.new_ aL
 refine st_nil (fu _ _ ?_)
 rcases bc (decide (((cleanV v).k)=0)) with ac|ac
 have cW:=oT ac
 have fz:=hB e3 ac
 refine wp_cond_true fz ?_
 refine wp_seq_k fun h4 fA=>?_
 refine wp_g0 [true,false,false] [(1,false),(2,true)] 37
   [ve (nv (Nm.mk 2 0)),vt,vt] aK (.eq (.tt (.tt (.nil)))) ?_ ?_
 exact .t (fun _ w hn k=>⟨_,v_build (ps:=[(0,iv 2)]) rfl (parts1 rfl) (by kernel_rfl),rfl⟩)<| .off<| .off .nil
 refine aftI aK bR bS fun e4 h5 bU fB fC fD bV=>?_
 have e5:=bV.fx 2 e1
 have e6:=bV.ge 0 12 rfl
 have fE:=bT.new_ fD
 obtain⟨h6,-,cX,fF,fG,gJ⟩:=s_two (v0:=iv 2) (v1:=iv 0) Tryz.sizeOf23 rfl rfl rfl fE
 refine st_act rfl rfl fun gK cY=>a_store' rfl e5 e6 cX (cY _ _ trivial ?_)
 have cZ:=fC.trans fG (fun _ h b=>by subst b; omega)
 refine st_take rfl rfl (y_assign (v:=iv 0) rfl rfl) rfl ?_
 obtain⟨fH,ah⟩:∃ a',a'=e4.put (some 3) (iv 0):=⟨_,rfl⟩
 have gq:=pz ah bU
 have c0:=pd ah fB
 have fI:=pn ah e5 (by decide)
 have gL:=pn ah e6 (by decide)
 have fJ:fH.eval (.tmp 3)=iv 0:=by rw [ah]; exact put_same _ _ _ (by rw [bU]; decide)
 show stepsTo _ _ _ _ _ (e4.put (some 3) (iv 0)) _
 rw [← ah]
 refine st_nil (fA _ _ ?_)
 refine wp_ret (ret_k c0 (v:=.tuple #[nv (Nm.mk 2 0),iv 0]) (res_ct rfl fI fJ (l_two Tryz.isAgg23 Tryz.sizeOf23 fF)) ?_)
 refine ⟨?_,cZ⟩
 show Ending.returned (.tuple #[nv (Nm.mk 2 0),iv 0])=Ending.returned (.tuple #[nv ((numberV v).1),iv ((numberV v).2)])
 first|rfl|(simp only [numberV,ac,bsm] <;> rfl)|(exfalso; omega)
 have cW:=oF ac
 have c1:=hB e3 ac
 refine wp_cond_false c1 ?_
 refine wp_seq_k fun gM aZ=>?_
 refine wp_seq_k fun gN c3=>?_
 refine wp_g0 [true,true] [] 37
   [ve (.bool (decide (((cleanV v).k)=1))),ve (.bool (decide (((cleanV v).k)=1)))] aK (.eq (.eq (.nil))) ?_ ?_
 exact .t (fun _ w hn k=>⟨_,v_bin rfl (k.fx 9 e2) rfl (fun _=>rfl) (r_eql rfl),rfl⟩)<| .a (fun k=>k.eq1 0 14 rfl) .nil
 refine aftI aK bR bS fun gO gP aq a1 a3 ar au=>?_
 have bW:=au.fx 1 gp
 have bX:=au.fx 2 e1
 have bY:=au.fx 9 e2
 have bZ:=au.ge 1 13 rfl
 have a4:=fv.new_ ar
 have a5:=bT.new_ ar
 have c5:=fw.new_ ar
 have c9:=fy.new_ ar
 refine st_nil (c3 _ _ ?_)
 rcases bc (decide (((cleanV v).k)=1)) with aa|aa
 have b0:=oT aa
 have a6:=hB bZ aa
 refine wp_cond_true a6 ?_
 refine wp_skip ?_
 refine aZ _ _ ?_
 refine wp_cond_true a6 ?_
 refine wp_seq_k fun gQ da=>?_
 refine wp_g0 [true,true,true,false,false] [(3,false),(4,true)] 37
   [ve (.pointer (some ⟨q9,6,none⟩)),ve (iv ((cleanV v).ref)),ve (nv (Nm.mk 0 ((cleanV v).ref))),vt,vt] aq (.eq (.eq (.eq (.tt (.tt (.nil)))))) ?_ ?_
 exact .f (fun k=>k.fx 1 bW)<| .t (fun _ w hn k=>⟨_,v_load rfl (k.eq1 0 16 rfl) (l_one Tryz.isAgg3 ((a4.new_ hn).cell 6)),rfl⟩)<| .t (fun _ w hn k=>⟨_,v_build (ps:=[(1,iv ((cleanV v).ref))]) rfl (parts1 (k.eq1 1 17 rfl)) (by kernel_rfl),rfl⟩)<| .off<| .off .nil
 refine aftI aq a1 a3 fun b1 gR a7 db dc dd a8=>?_
 have b2:=a8.fx 2 bX
 have b3:=a8.ge 2 18 rfl
 have de:=a5.new_ dd
 obtain⟨gS,-,b4,df,dg,gr⟩:=s_two (v0:=iv 0) (v1:=iv ((cleanV v).ref)) Tryz.sizeOf23 rfl rfl rfl de
 refine st_act rfl rfl fun gT dh=>a_store' rfl b2 b3 b4 (dh _ _ trivial ?_)
 have di:=dc.trans dg (fun _ h b=>by subst b; omega)
 refine st_take rfl rfl (y_assign (v:=iv 0) rfl rfl) rfl ?_
 obtain⟨fK,ai⟩:∃ a',a'=b1.put (some 3) (iv 0):=⟨_,rfl⟩
 have gs:=pz ai a7
 have dj:=pd ai db
 have fL:=pn ai b2 (by decide)
 have gU:=pn ai b3 (by decide)
 have fM:fK.eval (.tmp 3)=iv 0:=by rw [ai]; exact put_same _ _ _ (by rw [a7]; decide)
 show stepsTo _ _ _ _ _ (b1.put (some 3) (iv 0)) _
 rw [← ai]
 refine st_nil (da _ _ ?_)
 refine wp_ret (ret_k dj (v:=.tuple #[nv (Nm.mk 0 ((cleanV v).ref)),iv 0]) (res_ct rfl fL fM (l_two Tryz.isAgg23 Tryz.sizeOf23 df)) ?_)
 refine ⟨?_,di⟩
 show Ending.returned (.tuple #[nv (Nm.mk 0 ((cleanV v).ref)),iv 0])=Ending.returned (.tuple #[nv ((numberV v).1),iv ((numberV v).2)])
 first|rfl|(simp only [numberV,ac,aa,bsm] <;> rfl)|(exfalso; omega)
 have b0:=oF aa
 have dk:=hB bZ aa
 refine wp_cond_false dk ?_
 refine wp_g0 [true,true] [] 37
   [ve (.bool (decide (((cleanV v).k)=2))),ve (.bool (decide (((cleanV v).k)=2)))] aq (.eq (.eq (.nil))) ?_ ?_
 exact .t (fun _ w hn k=>⟨_,v_bin rfl (k.fx 9 bY) rfl (fun _=>rfl) (r_eql rfl),rfl⟩)<| .a (fun k=>k.eq1 0 15 rfl) .nil
 refine aftI aq a1 a3 fun gV gW av a9 ba aw ax=>?_
 have b5:=ax.fx 1 bW
 have b6:=ax.fx 2 bX
 have b7:=ax.fx 9 bY
 have b8:=ax.ge 1 13 rfl
 have bb:=a4.new_ aw
 have bd:=a5.new_ aw
 have dl:=c5.new_ aw
 have dm:=c9.new_ aw
 refine st_nil (aZ _ _ ?_)
 rcases bc (decide (((cleanV v).k)=2)) with ab|ab
 have b9:=oT ab
 have dn:=hB b8 ab
 refine wp_cond_true dn ?_
 refine wp_seq_k fun gX dp=>?_
 refine wp_g0 [true,true,true,false,false] [(3,false),(4,true)] 37
   [ve (.pointer (some ⟨q9,6,none⟩)),ve (iv ((cleanV v).ref)),ve (nv (Nm.mk 0 ((cleanV v).ref))),vt,vt] av (.eq (.eq (.eq (.tt (.tt (.nil)))))) ?_ ?_
 exact .f (fun k=>k.fx 1 b5)<| .t (fun _ w hn k=>⟨_,v_load rfl (k.eq1 0 16 rfl) (l_one Tryz.isAgg3 ((bb.new_ hn).cell 6)),rfl⟩)<| .t (fun _ w hn k=>⟨_,v_build (ps:=[(1,iv ((cleanV v).ref))]) rfl (parts1 (k.eq1 1 17 rfl)) (by kernel_rfl),rfl⟩)<| .off<| .off .nil
 refine aftI av a9 ba fun ca gY be dq dr ds bf=>?_
 have cb:=bf.fx 2 b6
 have cc:=bf.ge 2 18 rfl
 have dt:=bd.new_ ds
 obtain⟨gZ,-,cd,du,dw,gt⟩:=s_two (v0:=iv 0) (v1:=iv ((cleanV v).ref)) Tryz.sizeOf23 rfl rfl rfl dt
 refine st_act rfl rfl fun g0 dx=>a_store' rfl cb cc cd (dx _ _ trivial ?_)
 have dy:=dr.trans dw (fun _ h b=>by subst b; omega)
 refine st_take rfl rfl (y_assign (v:=iv 0) rfl rfl) rfl ?_
 obtain⟨fN,aj⟩:∃ a',a'=ca.put (some 3) (iv 0):=⟨_,rfl⟩
 have gu:=pz aj be
 have dz:=pd aj dq
 have fO:=pn aj cb (by decide)
 have g1:=pn aj cc (by decide)
 have fP:fN.eval (.tmp 3)=iv 0:=by rw [aj]; exact put_same _ _ _ (by rw [be]; decide)
 show stepsTo _ _ _ _ _ (ca.put (some 3) (iv 0)) _
 rw [← aj]
 refine st_nil (dp _ _ ?_)
 refine wp_ret (ret_k dz (v:=.tuple #[nv (Nm.mk 0 ((cleanV v).ref)),iv 0]) (res_ct rfl fO fP (l_two Tryz.isAgg23 Tryz.sizeOf23 du)) ?_)
 refine ⟨?_,dy⟩
 show Ending.returned (.tuple #[nv (Nm.mk 0 ((cleanV v).ref)),iv 0])=Ending.returned (.tuple #[nv ((numberV v).1),iv ((numberV v).2)])
 first|rfl|(simp only [numberV,ac,aa,ab,bsm] <;> rfl)|(exfalso; omega)
 have b9:=oF ab
 have dA:=hB b8 ab
 refine wp_cond_false dA ?_
 refine wp_seq_k fun g2 dB=>?_
 refine wp_g0 [true,true] [] 37
   [ve (.bool (decide (((cleanV v).k)=3))),ve (.bool (decide (((cleanV v).k)=3)))] av (.eq (.eq (.nil))) ?_ ?_
 exact .t (fun _ w hn k=>⟨_,v_bin rfl (k.fx 9 b7) rfl (fun _=>rfl) (r_eql rfl),rfl⟩)<| .a (fun k=>k.eq1 0 20 rfl) .nil
 refine aftI av a9 ba fun g3 g4 ay bg bh az aA=>?_
 have ce:=aA.fx 1 b5
 have cf:=aA.fx 2 b6
 have ch:=aA.fx 9 b7
 have ci:=aA.ge 1 19 rfl
 have bi:=bb.new_ az
 have bj:=bd.new_ az
 have dC:=dl.new_ az
 have dD:=dm.new_ az
 refine st_nil (dB _ _ ?_)
 rcases bc (decide (((cleanV v).k)=3)) with ad|ad
 have cj:=oT ad
 have dE:=hB ci ad
 refine wp_cond_true dE ?_
 refine wp_seq_k fun g5 dF=>?_
 refine wp_g0 [true,true,false,false] [(2,false),(3,true)] 37
   [ve (.pointer (some ⟨q9,1,none⟩)),ve (nv (Nm.mk ((cleanV v).nk) ((cleanV v).nn))),vt,vt] ay (.eq (.eq (.tt (.tt (.nil))))) ?_ ?_
 exact .f (fun k=>k.fx 1 ce)<| .t (fun _ w hn k=>⟨_,v_load rfl (k.eq1 0 21 rfl) (l_part Tryz.isAgg23 Tryz.sizeOf23 (bi.new_ hn) lb),rfl⟩)<| .off<| .off .nil
 refine aftI ay bg bh fun cl g6 bk dG dH dI bl=>?_
 have cm:=bl.fx 2 cf
 have cn:=bl.ge 1 22 rfl
 have dJ:=bj.new_ dI
 obtain⟨g7,-,co,dK,dL,gv⟩:=s_two (v0:=iv ((cleanV v).nk)) (v1:=iv ((cleanV v).nn)) Tryz.sizeOf23 rfl rfl rfl dJ
 refine st_act rfl rfl fun g8 dM=>a_store' rfl cm cn co (dM _ _ trivial ?_)
 have dN:=dH.trans dL (fun _ h b=>by subst b; omega)
 refine st_take rfl rfl (y_assign (v:=iv 0) rfl rfl) rfl ?_
 obtain⟨fQ,ak⟩:∃ a',a'=cl.put (some 3) (iv 0):=⟨_,rfl⟩
 have gw:=pz ak bk
 have dO:=pd ak dG
 have fR:=pn ak cm (by decide)
 have g9:=pn ak cn (by decide)
 have fS:fQ.eval (.tmp 3)=iv 0:=by rw [ak]; exact put_same _ _ _ (by rw [bk]; decide)
 show stepsTo _ _ _ _ _ (cl.put (some 3) (iv 0)) _
 rw [← ak]
 refine st_nil (dF _ _ ?_)
 refine wp_ret (ret_k dO (v:=.tuple #[nv (Nm.mk ((cleanV v).nk) ((cleanV v).nn)),iv 0]) (res_ct rfl fR fS (l_two Tryz.isAgg23 Tryz.sizeOf23 dK)) ?_)
 refine ⟨?_,dN⟩
 show Ending.returned (.tuple #[nv (Nm.mk ((cleanV v).nk) ((cleanV v).nn)),iv 0])=Ending.returned (.tuple #[nv ((numberV v).1),iv ((numberV v).2)])
 first|rfl|(simp only [numberV,ac,aa,ab,ad,bsm] <;> rfl)|(exfalso; omega)
 have cj:=oF ad
 have dP:=hB ci ad
 refine wp_cond_false dP ?_
 refine wp_seq_k fun ha dQ=>?_
 refine wp_g0 [true,true] [] 37
   [ve (.bool (decide (((cleanV v).k)=4))),ve (.bool (decide (((cleanV v).k)=4)))] ay (.eq (.eq (.nil))) ?_ ?_
 exact .t (fun _ w hn k=>⟨_,v_bin rfl (k.fx 9 ch) rfl (fun _=>rfl) (r_eql rfl),rfl⟩)<| .a (fun k=>k.eq1 0 24 rfl) .nil
 refine aftI ay bg bh fun hc hd aB bm bn aC aD=>?_
 have fT:=aD.fx 1 ce
 have cp:=aD.fx 2 cf
 have fU:=aD.fx 9 ch
 have cq:=aD.ge 1 23 rfl
 have dR:=bi.new_ aC
 have bo:=bj.new_ aC
 have dS:=dC.new_ aC
 have dT:=dD.new_ aC
 refine st_nil (dQ _ _ ?_)
 rcases bc (decide (((cleanV v).k)=4)) with ae|ae
 have cr:=oT ae
 have dU:=hB cq ae
 refine wp_cond_true dU ?_
 refine wp_seq_k fun hf dV=>?_
 refine wp_g0 [true,false,false] [(1,false),(2,true)] 37
   [ve (nv (Nm.mk 0 0)),vt,vt] aB (.eq (.tt (.tt (.nil)))) ?_ ?_
 exact .t (fun _ w hn k=>⟨_,v_build (ps:=[]) rfl parts0 (by kernel_rfl),rfl⟩)<| .off<| .off .nil
 refine aftI aB bm bn fun ct hg bp dW dX dY bq=>?_
 have cu:=bq.fx 2 cp
 have cw:=bq.ge 0 25 rfl
 have dZ:=bo.new_ dY
 obtain⟨hh,-,cx,d0,d1,gx⟩:=s_two (v0:=iv 0) (v1:=iv 0) Tryz.sizeOf23 rfl rfl rfl dZ
 refine st_act rfl rfl fun hi d2=>a_store' rfl cu cw cx (d2 _ _ trivial ?_)
 have d3:=dX.trans d1 (fun _ h b=>by subst b; omega)
 refine st_take rfl rfl (y_assign (v:=iv 1) rfl rfl) rfl ?_
 obtain⟨fV,al⟩:∃ a',a'=ct.put (some 3) (iv 1):=⟨_,rfl⟩
 have gy:=pz al bp
 have d4:=pd al dW
 have fW:=pn al cu (by decide)
 have hj:=pn al cw (by decide)
 have fX:fV.eval (.tmp 3)=iv 1:=by rw [al]; exact put_same _ _ _ (by rw [bp]; decide)
 show stepsTo _ _ _ _ _ (ct.put (some 3) (iv 1)) _
 rw [← al]
 refine st_nil (dV _ _ ?_)
 refine wp_ret (ret_k d4 (v:=.tuple #[nv (Nm.mk 0 0),iv 1]) (res_ct rfl fW fX (l_two Tryz.isAgg23 Tryz.sizeOf23 d0)) ?_)
 refine ⟨?_,d3⟩
 show Ending.returned (.tuple #[nv (Nm.mk 0 0),iv 1])=Ending.returned (.tuple #[nv ((numberV v).1),iv ((numberV v).2)])
 first|rfl|(simp only [numberV,ac,aa,ab,ad,ae,bsm] <;> rfl)|(exfalso; omega)
 have cr:=oF ae
 have d5:=hB cq ae
 refine wp_cond_false d5 ?_
 refine wp_seq_k fun hl d6=>?_
 refine wp_g0 [true,true] [] 37
   [ve (.bool (decide (((cleanV v).k)=5))),ve (.bool (decide (((cleanV v).k)=5)))] aB (.eq (.eq (.nil))) ?_ ?_
 exact .t (fun _ w hn k=>⟨_,v_bin rfl (k.fx 9 fU) rfl (fun _=>rfl) (r_eql rfl),rfl⟩)<| .a (fun k=>k.eq1 0 27 rfl) .nil
 refine aftI aB bm bn fun ho fY aE br aN aF aO=>?_
 have fZ:=aO.fx 1 fT
 have cy:=aO.fx 2 cp
 have cz:=aO.ge 1 26 rfl
 have d7:=dR.new_ aF
 have aP:=bo.new_ aF
 have gz:=dS.new_ aF
 have d8:=dT.new_ aF
 refine st_nil (d6 _ _ ?_)
 rcases bc (decide (((cleanV v).k)=5)) with af|af
 have cA:=oT af
 have d9:=hB cz af
 refine wp_cond_true d9 ?_
 refine wp_seq_k fun hr ea=>?_
 refine wp_g [true,true,true,true,true,true,true,false,false] [5] [(7,false),(8,true)] 37
   [ve (.pointer (some ⟨q9,5,none⟩)),ve (sv aR ((cleanV v).s) aI),ve (.tuple #[nv ((numT ((cleanV v).s)).1),.bool ((numT ((cleanV v).s)).2)]),ve (.tuple #[nv ((numT ((cleanV v).s)).1),.bool ((numT ((cleanV v).s)).2)]),ve (nv ((numT ((cleanV v).s)).1)),ve (.bool ((numT ((cleanV v).s)).2)),IsNew fY 23 [iv 0,iv 0],vt,vt]
   [6] (newsCons (fun v w h=>IsNew.old h) newsNil) aE (.eq (.eq (.eq (.eq (.eq (.eq (.nw (.tt (.tt (.nil)))))))))) ?_ ?_ ?_
 refine .f (fun k=>k.fx 1 fZ)<| .t (fun _ w hn k=>⟨_,v_load rfl (k.eq1 0 29 rfl) (l_one Tryz.isAgg27 ((d7.new_ hn).cell 5)),rfl⟩)<| .o1 (ck rfl rfl rfl (fun _ w hn k=>⟨#[sv aR ((cleanV v).s) aI],args1 (k.eq1 1 30 rfl),fun _=>by kernel_rfl,tnumber_c _ ((cleanV v).s) _ _ (d8.new_ hn) hvv.clean.units⟩) fun _=>rfl)<| .m (fun k=>k.eq1 2 31 rfl)<| .t (fun _ w hn k=>⟨_,v_extract rfl (k.eq1 3 28 rfl) rfl,rfl⟩) ?_
 refine .o3 ?_
 exact .o2 (step_allocN (cs:=[iv 0,iv 0]) (t:=23) rfl (noG rfl) (fun _ w hn k=>rfl) (fun q _ hq hb=>⟨q,rfl,hq,hb⟩))<| .off<| .off .nil
 intro i h
 simp only [List.contains_eq_mem,List.mem_cons,List.not_mem_nil,or_false,decide_eq_true_eq] at h
 subst h
 exact eager_take rfl rfl fun _ w hn k=>⟨.bool ((numT ((cleanV v).s)).2),fun w=>v_extract rfl (k.eq1 3 28 rfl) rfl,rfl⟩
 refine aftI aE br aN fun cB hs bs eb ec ed aG=>?_
 have f0:=aG.fx 2 cy
 have cC:=aG.ge 4 32 rfl
 have cD:=aG.ge 5 33 rfl
 obtain⟨f1,cE,bt,ee⟩:=aG.G 6 4
 have ef:=aP.new_ ed
 have hne323:eY ≠ f1:=by have h1:=aP.lt; have h2:=bt; omega
 have gA:=Nat.le_trans aN.size bt
 obtain⟨ht,-,cF,eg,eh,ei⟩:=s_two (v0:=iv ((numT ((cleanV v).s)).1.k)) (v1:=iv ((numT ((cleanV v).s)).1.n)) Tryz.sizeOf23 rfl rfl rfl ee
 refine st_act rfl rfl fun hu ej=>a_store' rfl cE cC cF (ej _ _ trivial ?_)
 have ek:=ei _ _ _ (hne323) ef
 have el:=ec.trans eh (fun _ h b=>by subst b; omega)
 refine st_take rfl rfl (y_assign (v:=.bool ((numT ((cleanV v).s)).2)) rfl cD) rfl ?_
 obtain⟨f2,ag⟩:∃ a',a'=cB.put (some 5) (.bool ((numT ((cleanV v).s)).2)):=⟨_,rfl⟩
 have bu:=pz ag bs
 have em:=pd ag eb
 have f3:=pn ag f0 (by decide)
 have hv:=pn ag cC (by decide)
 have hw:=pn ag cD (by decide)
 have f4:=pn ag cE (by decide)
 have f5:f2.eval (.tmp 5)=.bool ((numT ((cleanV v).s)).2):=by rw [ag]; exact put_same _ _ _ (by rw [bs]; decide)
 show stepsTo _ _ _ _ _ (cB.put (some 5) (.bool ((numT ((cleanV v).s)).2))) _
 rw [← ag]
 refine st_nil (ea _ _ (wp_seq_k fun hx en=>?_))
 refine wp_g0 [true] [] 37
   [ve (.bool ((numT ((cleanV v).s)).2))] bu (.eq (.nil)) ?_ ?_
 exact .m (fun k=>k.fx 5 f5) .nil
 refine aftI bu em el fun hy hz aH bv bw bx aQ=>?_
 have cG:=aQ.fx 2 f3
 have f6:=aQ.fx 4 f4
 have cH:=aQ.ge 0 34 rfl
 have bz:=ek.new_ bx
 have eo:=eg.new_ bx
 refine st_nil (en _ _ ?_)
 rcases bc ((numT ((cleanV v).s)).2) with ap|ap
 have ep:=hB cH ap
 refine wp_cond_true ep ?_
 refine wp_seq_k fun hA er=>?_
 refine wp_g0 [true,false,false] [(1,false),(2,true)] 37
   [ve (nv ((numT ((cleanV v).s)).1)),vt,vt] aH (.eq (.tt (.tt (.nil)))) ?_ ?_
 exact .t (fun _ w hn k=>⟨_,v_load rfl (k.fx 4 f6) (l_two Tryz.isAgg23 Tryz.sizeOf23 (eo.new_ hn)),rfl⟩)<| .off<| .off .nil
 refine aftI aH bv bw fun cI hC bA es et eu bB=>?_
 have cJ:=bB.fx 2 cG
 have cK:=bB.ge 0 35 rfl
 have ev:=bz.new_ eu
 obtain⟨hD,-,cL,ew,ex,gB⟩:=s_two (v0:=iv ((numT ((cleanV v).s)).1.k)) (v1:=iv ((numT ((cleanV v).s)).1.n)) Tryz.sizeOf23 rfl rfl rfl ev
 refine st_act rfl rfl fun hE ey=>a_store' rfl cJ cK cL (ey _ _ trivial ?_)
 have ez:=et.trans ex (fun _ h b=>by subst b; omega)
 refine st_take rfl rfl (y_assign (v:=iv 0) rfl rfl) rfl ?_
 obtain⟨f7,am⟩:∃ a',a'=cI.put (some 3) (iv 0):=⟨_,rfl⟩
 have gC:=pz am bA
 have eA:=pd am es
 have f8:=pn am cJ (by decide)
 have hF:=pn am cK (by decide)
 have f9:f7.eval (.tmp 3)=iv 0:=by rw [am]; exact put_same _ _ _ (by rw [bA]; decide)
 show stepsTo _ _ _ _ _ (cI.put (some 3) (iv 0)) _
 rw [← am]
 refine st_nil (er _ _ ?_)
 refine wp_ret (ret_k eA (v:=.tuple #[nv ((numT ((cleanV v).s)).1),iv 0]) (res_ct rfl f8 f9 (l_two Tryz.isAgg23 Tryz.sizeOf23 ew)) ?_)
 refine ⟨?_,ez⟩
 show Ending.returned (.tuple #[nv ((numT ((cleanV v).s)).1),iv 0])=Ending.returned (.tuple #[nv ((numberV v).1),iv ((numberV v).2)])
 first|rfl|(simp only [numberV,ac,aa,ab,ad,ae,af,ap,bsm] <;> rfl)|(exfalso; omega)
 have eB:=hB cH ap
 refine wp_cond_false eB ?_
 refine wp_skip ?_
 refine bP _ _ ?_
 refine wp_seq_k fun hG eC=>?_
 refine wp_g0 [true,false,false] [(1,false),(2,true)] 37
   [ve (nv (Nm.mk 0 0)),vt,vt] aH (.eq (.tt (.tt (.nil)))) ?_ ?_
 exact .t (fun _ w hn k=>⟨_,v_build (ps:=[]) rfl parts0 (by kernel_rfl),rfl⟩)<| .off<| .off .nil
 refine aftI aH bv bw fun cM hH bC eD eE eF bD=>?_
 have cN:=bD.fx 2 cG
 have cO:=bD.ge 0 36 rfl
 have eG:=bz.new_ eF
 obtain⟨hI,-,cP,eH,eI,gD⟩:=s_two (v0:=iv 0) (v1:=iv 0) Tryz.sizeOf23 rfl rfl rfl eG
 refine st_act rfl rfl fun hJ eJ=>a_store' rfl cN cO cP (eJ _ _ trivial ?_)
 have eK:=eE.trans eI (fun _ h b=>by subst b; omega)
 refine st_take rfl rfl (y_assign (v:=iv 3) rfl rfl) rfl ?_
 obtain⟨ga,an⟩:∃ a',a'=cM.put (some 3) (iv 3):=⟨_,rfl⟩
 have gE:=pz an bC
 have eL:=pd an eD
 have gb:=pn an cN (by decide)
 have hK:=pn an cO (by decide)
 have gc:ga.eval (.tmp 3)=iv 3:=by rw [an]; exact put_same _ _ _ (by rw [bC]; decide)
 show stepsTo _ _ _ _ _ (cM.put (some 3) (iv 3)) _
 rw [← an]
 refine st_nil (eC _ _ ?_)
 refine wp_ret (ret_k eL (v:=.tuple #[nv (Nm.mk 0 0),iv 3]) (res_ct rfl gb gc (l_two Tryz.isAgg23 Tryz.sizeOf23 eH)) ?_)
 refine ⟨?_,eK⟩
 show Ending.returned (.tuple #[nv (Nm.mk 0 0),iv 3])=Ending.returned (.tuple #[nv ((numberV v).1),iv ((numberV v).2)])
 first|rfl|(simp only [numberV,ac,aa,ab,ad,ae,af,ap,bsm] <;> rfl)|(exfalso; omega)
 have cA:=oF af
 have eM:=hB cz af
 refine wp_cond_false eM ?_
 refine wp_skip ?_
 refine bP _ _ ?_
 refine wp_seq_k fun hL eN=>?_
 refine wp_g0 [true,false,false] [(1,false),(2,true)] 37
   [ve (nv (Nm.mk 0 0)),vt,vt] aE (.eq (.tt (.tt (.nil)))) ?_ ?_
 exact .t (fun _ w hn k=>⟨_,v_build (ps:=[]) rfl parts0 (by kernel_rfl),rfl⟩)<| .off<| .off .nil
 refine aftI aE br aN fun cQ hM bE eO eP eQ bF=>?_
 have cR:=bF.fx 2 cy
 have cS:=bF.ge 0 36 rfl
 have eR:=aP.new_ eQ
 obtain⟨hN,-,cT,eS,eT,gF⟩:=s_two (v0:=iv 0) (v1:=iv 0) Tryz.sizeOf23 rfl rfl rfl eR
 refine st_act rfl rfl fun hO eU=>a_store' rfl cR cS cT (eU _ _ trivial ?_)
 have eV:=eP.trans eT (fun _ h b=>by subst b; omega)
 refine st_take rfl rfl (y_assign (v:=iv 3) rfl rfl) rfl ?_
 obtain⟨gd,ao⟩:∃ a',a'=cQ.put (some 3) (iv 3):=⟨_,rfl⟩
 have gG:=pz ao bE
 have eW:=pd ao eO
 have gf:=pn ao cR (by decide)
 have hP:=pn ao cS (by decide)
 have gg:gd.eval (.tmp 3)=iv 3:=by rw [ao]; exact put_same _ _ _ (by rw [bE]; decide)
 show stepsTo _ _ _ _ _ (cQ.put (some 3) (iv 3)) _
 rw [← ao]
 refine st_nil (eN _ _ ?_)
 refine wp_ret (ret_k eW (v:=.tuple #[nv (Nm.mk 0 0),iv 3]) (res_ct rfl gf gg (l_two Tryz.isAgg23 Tryz.sizeOf23 eS)) ?_)
 refine ⟨?_,eV⟩
 show Ending.returned (.tuple #[nv (Nm.mk 0 0),iv 3])=Ending.returned (.tuple #[nv ((numberV v).1),iv ((numberV v).2)])
 first|rfl|(simp only [numberV,ac,aa,ab,ad,ae,af,bsm] <;> rfl)|(exfalso; omega)
theorem cstrict_c (v:Vl) (Av:Option Addr) (cv:Nat) (Bv:Option Addr) (dv:Nat) (u:Vl) (Au:Option Addr) (cu:Nat) (Bu:Option Addr) (du:Nat) (w:World) (hmv:SRow w .u32 Av v.mag cv) (hsv:SRow w .u16 Bv v.s dv) (hmu:SRow w .u32 Au u.mag cu) (hsu:SRow w .u16 Bu u.s du):Calls Tryz.prog 28 #[vv v Av cv Bv dv,vv u Au cu Bu du] w (IsRet (.bool (strictV v u)) w):=by
 refine enter_abs Tryz.func28 rfl fun a0 aA b6 hp=>?_
 have aA:a0.tmps.size=27:=aA
 have aG:New w w:=Upd.refl _ _
 have hp0:a0.eval (.tmp 0)=vv v Av cv Bv dv:=hp 0 _ rfl
 have hp1:a0.eval (.tmp 1)=vv u Au cu Bu du:=hp 1 _ rfl
 refine wp_seq_k fun K1 b7=>?_
 refine wp_g [true,true,true] [] [] 27
   [IsNew w 29 (c7 v Av cv Bv dv),IsNew w 29 (c7 u Au cu Bu du),vF]
   [0,1] (newsCons (fun v w h=>IsNew.old h) (newsCons (fun v w h=>IsNew.old h) newsNil)) aA (.nw (.nw (.eq (.nil)))) ?_ (fun i h=>by cases h) ?_
 exact .o2 (step_allocN (cs:=(c7 v Av cv Bv dv)) (t:=29) rfl (noG rfl) (fun _ w hn k=>v_box rfl (k.fx 0 hp0) (fun w=>rfl)) (fun q _ hq hb=>⟨q,rfl,hq,hb⟩))<| .o2 (step_allocN (cs:=(c7 u Au cu Bu du)) (t:=29) rfl (noG rfl) (fun _ w hn k=>v_box rfl (k.fx 1 hp1) (fun w=>rfl)) (fun q _ hq hb=>⟨q,rfl,hq,hb⟩))<| .t (fun _ w hn k=>⟨_,v_assign rfl rfl,rfl⟩) .nil
 refine aftI aA b6 aG fun a2 w3 bo b8 ag cH aH=>?_
 obtain⟨q9,h8,bs,aI⟩:=aH.G 0 2
 obtain⟨aB,aJ,bt,aK⟩:=aH.G 1 3
 have hne16:q9 ≠ aB:=aH.ne 0 1 2 3 h8 aJ
 have cr:=Nat.le_trans aG.size bs
 have ct:=Nat.le_trans aG.size bt
 refine st_nil (b7 _ _ (wp_seq_k fun cI bu=>?_))
 refine wp_g0 [true,true,true,true,false,false] [(4,false),(5,false)] 27
   [ve (vv v Av cv Bv dv),
    (VP (cleanV v)),ve (vv u Au cu Bu du),
    (VP (cleanV u)),vt,vt] bo (.eq (.cons (fun _ _ _ n ⟨_,_,_,_,e,h,i⟩=>⟨_,_,_,_,e,h.new_ n,i.new_ n⟩) (.eq (.cons (fun _ _ _ n ⟨_,_,_,_,e,h,i⟩=>⟨_,_,_,_,e,h.new_ n,i.new_ n⟩) (.tt (.tt (.nil))))))) ?_ ?_
 refine .t (fun _ w hn k=>⟨_,v_load rfl (k.fx 2 h8) (l_agg Tryz.isAgg29 Tryz.sizeOf29 (aI.new_ hn) rfl),rfl⟩) ?_
 refine .o1 (tkC rfl (noG rfl) rfl fun _ w hn k=>(by
       refine ⟨#[vv v Av cv Bv dv],_,args1 (k.eq1 0 5 rfl),fun w=>by kernel_rfl,clean_c v _ _ _ _ _ (hmv.new_ (ag.transNew hn)) (hsv.new_ (ag.transNew hn)),?_⟩
       rintro e w' ⟨A1,c2,A3,c4,rfl,hmo0,hmo1,hm⟩
       exact⟨_,rfl,hm,⟨A1,c2,A3,c4,rfl,hmo0,hmo1⟩⟩)) ?_
 refine .t (fun _ w hn k=>⟨_,v_load rfl (k.fx 3 aJ) (l_agg Tryz.isAgg29 Tryz.sizeOf29 (aK.new_ hn) rfl),rfl⟩) ?_
 refine .o1 (tkC rfl (noG rfl) rfl fun _ w hn k=>(by
       refine ⟨#[vv u Au cu Bu du],_,args1 (k.eq1 2 7 rfl),fun w=>by kernel_rfl,clean_c u _ _ _ _ _ (hmu.new_ (ag.transNew hn)) (hsu.new_ (ag.transNew hn)),?_⟩
       rintro e w' ⟨A9,cd,ce,cf,rfl,hmo0,hmo1,hm⟩
       exact⟨_,rfl,hm,⟨A9,cd,ce,cf,rfl,hmo0,hmo1⟩⟩)) ?_
 exact .off<| .off .nil
 refine aftI bo b8 ag fun bp cJ aL bv bw aM ap=>?_
 have aN:=ap.fx 2 h8
 have aO:=ap.fx 3 aJ
 obtain⟨au,ah,av,ai,aP,bx,bz⟩:=ap.G 1 6
 have aP:bp.eval (.tmp 6)=vv (cleanV v) au ah av ai:=aP
 obtain⟨aw,aj,ax,ak,aQ,bA,bB⟩:=ap.G 3 8
 have aQ:bp.eval (.tmp 8)=vv (cleanV u) aw aj ax ak:=aQ
 have al:=aI.new_ aM
 have bC:=aK.new_ aM
 obtain⟨ch,a1,a3,am,bD⟩:=s_many (P:=Tryz.prog) (t:=29) (i:=0) (c7 (cleanV v) au ah av ai) Tryz.sizeOf29 rfl rfl rfl al lb
 have bE:Blk ch q9 29 (c7 (cleanV v) au ah av ai):=a3
 refine st_act rfl rfl fun cK bF=>a_store' rfl aN aP a1 (bF _ _ trivial ?_)
 have bG:=bx.fr al am
 have bH:=bz.fr al am
 have bI:=bA.fr al am
 have bJ:=bB.fr al am
 have an:=bD _ _ _ (fun h=>hne16 h.symm) bC
 have bK:=bw.trans am (fun _ h b=>by subst b; omega)
 obtain⟨ci,a4,a5,ao,bL⟩:=s_many (P:=Tryz.prog) (t:=29) (i:=0) (c7 (cleanV u) aw aj ax ak) Tryz.sizeOf29 rfl rfl rfl an lb
 have aR:Blk ci aB 29 (c7 (cleanV u) aw aj ax ak):=a5
 refine st_act rfl rfl fun cL bM=>a_store' rfl aO aQ a4 (bM _ _ trivial ?_)
 have bN:=bG.fr an ao
 have bO:=bH.fr an ao
 have bP:=bI.fr an ao
 have bQ:=bJ.fr an ao
 have aS:=bL _ _ _ (hne16) bE
 have bR:=bK.trans ao (fun _ h b=>by subst b; omega)
 refine st_nil (bu _ _ (wp_seq_k fun cM bS=>?_))
 refine wp_block ?_
 refine wp_seq_k fun cN bT=>?_
 refine wp_g0 [true,true,true,true,true,true] [] 27
   [ve (pv q9),ve (iv ((cleanV v).k)),ve (pv aB),ve (iv ((cleanV u).k)),ve (.bool (!decide (((cleanV v).k)=((cleanV u).k)))),ve (.bool (!decide (((cleanV v).k)=((cleanV u).k))))] aL (.eq (.eq (.eq (.eq (.eq (.eq (.nil))))))) ?_ ?_
 exact .f (fun k=>k.fx 2 aN)<| .t (fun _ w hn k=>⟨_,v_load rfl (k.eq1 0 10 rfl) (l_one Tryz.isAgg3 ((aS.new_ hn).cell 0)),rfl⟩)<| .f (fun k=>k.fx 3 aO)<| .t (fun _ w hn k=>⟨_,v_load rfl (k.eq1 2 12 rfl) (l_one Tryz.isAgg3 ((aR.new_ hn).cell 0)),rfl⟩)<| .t (fun _ w hn k=>⟨_,v_bin rfl (k.eq1 1 11 rfl) (k.eq1 3 13 rfl) (fun _=>rfl) (r_neq rfl),rfl⟩)<| .a (fun k=>k.eq1 4 14 rfl) .nil
 refine aftI aL bv bR fun cO cP aq aT aU ae ay=>?_
 have bq:=ay.fx 2 aN
 have cj:=ay.fx 3 aO
 have br:=ay.ge 5 9 rfl
 have aV:=aS.new_ ae
 have bU:=aR.new_ ae
 have bV:=bN.new_ ae
 have bW:=bO.new_ ae
 have bX:=bP.new_ ae
 have bY:=bQ.new_ ae
 refine st_nil (bT _ _ ?_)
 rcases bc ((!decide (((cleanV v).k)=((cleanV u).k)))) with ab|ab
 have bZ:=hB br ab
 have az:(decide (((cleanV v).k)=((cleanV u).k)))=false:=nF ab
 have cm:=oF az
 refine wp_cond_true bZ ?_
 refine wp_seq_k fun cQ b0=>?_
 refine wp_g0 [true] [] 27
   [vF] aq (.eq (.nil)) ?_ ?_
 exact .t (fun _ w hn k=>⟨_,v_assign rfl rfl,rfl⟩) .nil
 refine aftI aq aT aU fun cR cS cw b1 a6 cx b2=>?_
 have b3:=b2.ge 0 4 rfl
 refine st_nil (b0 _ _ ?_)
 refine wp_ret (ret_k b1 (v:=.bool false) (res_t rfl b3 _) ?_)
 refine ⟨?_,a6⟩
 show Ending.returned (.bool false)=Ending.returned (.bool (strictV v u))
 first|rfl|(simp only [strictV,ab,az,az,bsm] <;> rfl)|(exfalso; omega)
 have a7:=hB br ab
 have ad:(decide (((cleanV v).k)=((cleanV u).k)))=true:=nT ab
 have cl:=oT ad
 refine wp_cond_false a7 ?_
 refine wp_seq_k fun cy a8=>?_
 refine wp_g0 [true,true,true,true] [] 27
   [ve (pv q9),ve (iv ((cleanV v).k)),ve (.bool (decide (((cleanV v).k)=3))),ve (.bool (decide (((cleanV v).k)=3)))] aq (.eq (.eq (.eq (.eq (.nil))))) ?_ ?_
 exact .f (fun k=>k.fx 2 bq)<| .t (fun _ w hn k=>⟨_,v_load rfl (k.eq1 0 16 rfl) (l_one Tryz.isAgg3 ((aV.new_ hn).cell 0)),rfl⟩)<| .t (fun _ w hn k=>⟨_,v_bin rfl (k.eq1 1 17 rfl) rfl (fun _=>rfl) (r_eql rfl),rfl⟩)<| .a (fun k=>k.eq1 2 18 rfl) .nil
 refine aftI aq aT aU fun cz cA af aC aD ac ar=>?_
 have aW:=ar.fx 2 bq
 have aX:=ar.fx 3 cj
 have aY:=ar.ge 3 15 rfl
 have aE:=aV.new_ ac
 have aF:=bU.new_ ac
 have a9:=bV.new_ ac
 have ba:=bW.new_ ac
 have bb:=bX.new_ ac
 have bd:=bY.new_ ac
 refine st_nil (a8 _ _ ?_)
 rcases bc (decide (((cleanV v).k)=3)) with aa|aa
 have aZ:=oT aa
 have be:=hB aY aa
 refine wp_cond_true be ?_
 refine wp_seq_k fun cB bf=>?_
 refine wp_g0 [true,true,true,true,true,true] [] 27
   [ve (.pointer (some ⟨q9,1,none⟩)),ve (nv (Nm.mk ((cleanV v).nk) ((cleanV v).nn))),ve (.pointer (some ⟨aB,1,none⟩)),ve (nv (Nm.mk ((cleanV u).nk) ((cleanV u).nn))),ve (.bool (equalM (Nm.mk ((cleanV v).nk) ((cleanV v).nn)) (Nm.mk ((cleanV u).nk) ((cleanV u).nn)))),ve (.bool (equalM (Nm.mk ((cleanV v).nk) ((cleanV v).nn)) (Nm.mk ((cleanV u).nk) ((cleanV u).nn))))] af (.eq (.eq (.eq (.eq (.eq (.eq (.nil))))))) ?_ ?_
 exact .f (fun k=>k.fx 2 aW)<| .t (fun _ w hn k=>⟨_,v_load rfl (k.eq1 0 19 rfl) (l_part Tryz.isAgg23 Tryz.sizeOf23 (aE.new_ hn) lb),rfl⟩)<| .f (fun k=>k.fx 3 aX)<| .t (fun _ w hn k=>⟨_,v_load rfl (k.eq1 2 21 rfl) (l_part Tryz.isAgg23 Tryz.sizeOf23 (aF.new_ hn) lb),rfl⟩)<| .o1 (ck rfl rfl rfl (fun _ w hn k=>⟨#[nv (Nm.mk ((cleanV v).nk) ((cleanV v).nn)),nv (Nm.mk ((cleanV u).nk) ((cleanV u).nn))],args2 (k.eq1 1 20 rfl) (k.eq1 3 22 rfl),fun _=>by kernel_rfl,equal_c (Nm.mk ((cleanV v).nk) ((cleanV v).nn)) (Nm.mk ((cleanV u).nk) ((cleanV u).nn)) _ ⟩) fun _=>rfl)<| .a (fun k=>k.eq1 4 23 rfl) .nil
 refine aftI af aC aD fun cC cD cn bg bh co bi=>?_
 have b4:=bi.ge 5 4 rfl
 refine st_nil (bf _ _ ?_)
 refine wp_ret (ret_k bg (v:=.bool (equalM (Nm.mk ((cleanV v).nk) ((cleanV v).nn)) (Nm.mk ((cleanV u).nk) ((cleanV u).nn)))) (res_t rfl b4 _) ?_)
 refine ⟨?_,bh⟩
 show Ending.returned (.bool (equalM (Nm.mk ((cleanV v).nk) ((cleanV v).nn)) (Nm.mk ((cleanV u).nk) ((cleanV u).nn))))=Ending.returned (.bool (strictV v u))
 first|rfl|(simp only [strictV,ab,ad,ad,aa,bsm] <;> rfl)|(exfalso; omega)
 have aZ:=oF aa
 have bj:=hB aY aa
 refine wp_cond_false bj ?_
 refine wp_skip ?_
 refine bS _ _ ?_
 refine wp_seq_k fun cE bk=>?_
 refine wp_g0 [true,true,true,true] [] 27
   [ve (vv (cleanV v) au ah av ai),ve (vv (cleanV u) aw aj ax ak),ve (.bool (sameV (cleanV v) (cleanV u))),ve (.bool (sameV (cleanV v) (cleanV u)))] af (.eq (.eq (.eq (.eq (.nil))))) ?_ ?_
 exact .t (fun _ w hn k=>⟨_,v_load rfl (k.fx 2 aW) (l_agg Tryz.isAgg29 Tryz.sizeOf29 (aE.new_ hn) rfl),rfl⟩)<| .t (fun _ w hn k=>⟨_,v_load rfl (k.fx 3 aX) (l_agg Tryz.isAgg29 Tryz.sizeOf29 (aF.new_ hn) rfl),rfl⟩)<| .o1 (ck rfl rfl rfl (fun _ w hn k=>⟨#[vv (cleanV v) au ah av ai,vv (cleanV u) aw aj ax ak],args2 (k.eq1 0 24 rfl) (k.eq1 1 25 rfl),fun _=>by kernel_rfl,vsame_c (cleanV v) _ _ _ _ (cleanV u) _ _ _ _ _ (a9.new_ hn) (ba.new_ hn) (bb.new_ hn) (bd.new_ hn)⟩) fun _=>rfl)<| .a (fun k=>k.eq1 2 26 rfl) .nil
 refine aftI af aC aD fun cF cG cp bl bm cq bn=>?_
 have b5:=bn.ge 3 4 rfl
 refine st_nil (bk _ _ ?_)
 refine wp_ret (ret_k bl (v:=.bool (sameV (cleanV v) (cleanV u))) (res_t rfl b5 _) ?_)
 refine ⟨?_,bm⟩
 show Ending.returned (.bool (sameV (cleanV v) (cleanV u)))=Ending.returned (.bool (strictV v u))
 first|rfl|(simp only [strictV,ab,ad,ad,aa,bsm] <;> rfl)|(exfalso; omega)
def cstr_c_P (Au:Option Addr) (u:List Nat) (cu:Nat) (w:World) (en:Ending) (w':World):Prop:=∃ (Ar0:Option Addr) (cr0:Nat) (Ar1:Option Addr) (cr1:Nat),en=.returned (vv (strV u) Ar0 cr0 Ar1 cr1)∧SRow w' .u32 Ar0 ((strV u).mag) cr0∧SRow w' .u16 Ar1 ((strV u).s) cr1∧New w w'
theorem cstr_c (Au:Option Addr) (u:List Nat) (cu:Nat) (w:World) (hru:SRow w .u16 Au u cu) (hs:u.length≤20000):Calls Tryz.prog 16 #[sv Au u cu] w (cstr_c_P Au u cu w):=by
 refine enter_abs Tryz.func16 rfl fun a0 af aJ hp=>?_
 have af:a0.tmps.size=10:=af
 have am:New w w:=Upd.refl _ _
 have hp0:a0.eval (.tmp 0)=sv Au u cu:=hp 0 _ rfl
 refine wp_seq_k fun K1 aK=>?_
 refine wp_g [true] [] [] 10
   [IsNew w 29 z7]
   [0] (newsCons (fun v w h=>IsNew.old h) newsNil) af (.nw (.nil)) ?_ (fun i h=>by cases h) ?_
 exact .o2 (step_allocN (cs:=z7) (t:=29) rfl (noG rfl) (fun _ w hn k=>rfl) (fun q _ hq hb=>⟨q,rfl,hq,hb⟩)) .nil
 refine aftI af aJ am fun a2 w3 an aL ae aX ao=>?_
 have h8:=ao.fx 0 hp0
 obtain⟨aM,h9,aw,ax⟩:=ao.G 0 2
 have aU:=Nat.le_trans am.size aw
 refine st_nil (aK _ _ (wp_seq_k fun aY ay=>?_))
 refine wp_g0 [true,true,true,true,true,true,true,false] [(7,false)] 10
   [ve (sv Au u cu),ve (sv Au u cu),ve (iv (u.length:Int)),ve (iv (min (u.length:Int) 4096)),
    (RP .u16 (u.take ((min (u.length:Int) 4096:Int).toNat))),
    (OP w3.heap.size 74 .u16 (u.take ((min (u.length:Int) 4096:Int).toNat))),(fun (v_:Value) (W:World)=>∃ (ab:Option Addr) (ac:Nat),v_=vv (Vl.mk 5 0 0 false [] (u.take ((min (u.length:Int) 4096:Int).toNat)) 0) none 0 ab ac∧SOwn W w3.heap.size 74 .u16 ab (u.take ((min (u.length:Int) 4096:Int).toNat)) ac),vt] an (.eq (.eq (.eq (.eq (.cons (fun _ _ _ n ⟨_,_,e,h⟩=>⟨_,_,e,h.new_ n⟩) (.cons (fun _ _ _ n ⟨_,_,e,h⟩=>⟨_,_,e,h.new_ n⟩) (.cons (fun _ _ _ n ⟨_,_,e,h⟩=>⟨_,_,e,h.new_ n⟩) (.tt (.nil))))))))) ?_ ?_
 refine .m (fun k=>k.fx 0 h8)<| .m (fun k=>k.fx 0 h8)<| .t (fun _ w hn k=>⟨_,v_lenR rfl elU (k.eq1 1 4 rfl),rfl⟩)<| .t (fun _ w hn k=>⟨_,v_min rfl (k.eq1 2 5 rfl) rfl,rfl⟩) ?_
 refine .o1 (tk rfl rfl fun _ w hn k=>(by
       exact x_cutH (k:=.u16) rfl elU (k.eq1 0 3 rfl) (k.eq1 3 6 rfl) (hru.new_ (ae.transNew hn)) (by omega) fun A1 c2 hmr=>⟨A1,c2,rfl,hmr⟩)) ?_
 refine .o1 (tkC rfl (noG rfl) rfl fun _ w hn k=>(by
       obtain⟨A5,c6,e7,aP⟩:(RP .u16 (u.take ((min (u.length:Int) 4096:Int).toNat))) _ _:=k.dep 4 7 (by kernel_rfl) (by kernel_rfl)
       refine ⟨#[sv A5 (u.take ((min (u.length:Int) 4096:Int).toNat)) c6],_,args1 e7,fun w=>by kernel_rfl,clone16_c _ (u.take ((min (u.length:Int) 4096:Int).toNat)) _ _ aP (by first|omega|(simp only [List.length_nil,List.length_take,List.length_drop]; omega)|(simp only [List.length_cons,List.length_nil]; omega)),?_⟩
       rintro e w' ⟨A9,aQ,rfl,hmo0,hm⟩
       exact⟨_,rfl,hm,⟨A9,aQ,rfl,(hmo0.more hn.size)⟩⟩)) ?_
 refine .o1 (tk rfl rfl fun _ w hn k=>(by
       obtain⟨ap,aq,aR,az⟩:(OP w3.heap.size 74 .u16 (u.take ((min (u.length:Int) 4096:Int).toNat))) _ _:=k.dep 5 8 (by kernel_rfl) (by kernel_rfl)
       exact⟨_,v_build (ps:=[(0,iv 5),(3,sv ap (u.take ((min (u.length:Int) 4096:Int).toNat)) aq)]) rfl (parts2 rfl aR) (by kernel_rfl),⟨ap,aq,rfl,az⟩⟩)) ?_
 exact .off .nil
 refine aftI an aL ae fun aS aZ aV aA aB aC ag=>?_
 have ar:=ag.fx 2 h9
 obtain⟨ad,aa,ah,aD⟩:=ag.G 6 9
 have ah:aS.eval (.tmp 9)=vv (Vl.mk 5 0 0 false [] (u.take ((min (u.length:Int) 4096:Int).toNat)) 0) none 0 ad aa:=ah
 have ai:=ax.new_ aC
 have aE:=aD.more ae.size
 obtain⟨aT,ak,al,aj,aW⟩:=s_many (P:=Tryz.prog) (t:=29) (i:=0) [iv 5,iv 0,iv 0,.bool false,sv none ([]) 0,sv ad (u.take ((min (u.length:Int) 4096:Int).toNat)) aa,iv 0] Tryz.sizeOf29 rfl rfl rfl ai lb
 have aF:Blk aT aM 29 [iv 5,iv 0,iv 0,.bool false,sv none ([]) 0,sv ad (u.take ((min (u.length:Int) 4096:Int).toNat)) aa,iv 0]:=al
 refine st_act rfl rfl fun a1 aG=>a_store' rfl ar ah ak (aG _ _ trivial ?_)
 have aH:=aE.far ai aj (by decide)
 have aI:=aB.trans aj (fun _ h b=>by subst b; omega)
 refine st_nil (ay _ _ ?_)
 refine wp_ret (ret_k aA (v:=vv (Vl.mk 5 0 0 false [] (u.take ((min (u.length:Int) 4096:Int).toNat)) 0) none 0 ad aa) (res_c rfl ar (l_agg Tryz.isAgg29 Tryz.sizeOf29 aF rfl)) ?_)
 have au:(strV u).mag=[]:=by first|rfl|(simp only [strV,tk_min,bsm] <;> rfl)|(exfalso; omega)
 have av:(strV u).s=(u.take ((min (u.length:Int) 4096:Int).toNat)):=by first|rfl|(simp only [strV,tk_min,bsm] <;> rfl)|(exfalso; omega)
 exact⟨none,0,ad,aa,(by show Ending.returned (vv (Vl.mk 5 0 0 false [] (u.take ((min (u.length:Int) 4096:Int).toNat)) 0) none 0 ad aa)=Ending.returned (vv (strV u) none 0 ad aa); (first|rfl|(simp only [strV,au,av,tk_min,bsm] <;> rfl)|(exfalso; omega))),(by rw [au]; exact (SRow.nil _ _)),(by rw [av]; exact aH.row),aI⟩
def cown_c_P (a:Bool) (Aa:Option Addr) (ma:List Nat) (ca:Nat) (w:World) (en:Ending) (w':World):Prop:=∃ (Ar0:Option Addr) (cr0:Nat),en=.returned (.agg #[.bool a,sv Ar0 ma cr0])∧SRow w' .u32 Ar0 ma cr0∧New w w'
theorem cown_c (a:Bool) (Aa:Option Addr) (ma:List Nat) (ca:Nat) (w:World) (hra:SRow w .u32 Aa ma ca) (hs:ma.length≤1000000):Calls Tryz.prog 72 #[.agg #[.bool a,sv Aa ma ca]] w (cown_c_P a Aa ma ca w):=by
 refine enter_abs Tryz.func72 rfl fun a0 ad aF hp=>?_
 have ad:a0.tmps.size=9:=ad
 have af:New w w:=Upd.refl _ _
 have hp0:a0.eval (.tmp 0)=.agg #[.bool a,sv Aa ma ca]:=hp 0 _ rfl
 refine wp_seq_k fun K1 aG=>?_
 refine wp_g [true,true] [] [] 9
   [IsNew w 26 [.bool a,sv Aa ma ca],IsNew w 26 [.bool false,sv none ([]) 0]]
   [0,1] (newsCons (fun v w h=>IsNew.old h) (newsCons (fun v w h=>IsNew.old h) newsNil)) ad (.nw (.nw (.nil))) ?_ (fun i h=>by cases h) ?_
 exact .o2 (step_allocN (cs:=[.bool a,sv Aa ma ca]) (t:=26) rfl (noG rfl) (fun _ w hn k=>v_box rfl (k.fx 0 hp0) (fun w=>rfl)) (fun q _ hq hb=>⟨q,rfl,hq,hb⟩))<| .o2 (step_allocN (cs:=[.bool false,sv none ([]) 0]) (t:=26) rfl (noG rfl) (fun _ w hn k=>rfl) (fun q _ hq hb=>⟨q,rfl,hq,hb⟩)) .nil
 refine aftI ad aF af fun a2 w3 an aH ac aP ag=>?_
 obtain⟨q9,h8,aq,ah⟩:=ag.G 0 1
 obtain⟨aI,ao,ar,au⟩:=ag.G 1 2
 have hne16:q9 ≠ aI:=ag.ne 0 1 1 2 h8 ao
 have aL:=Nat.le_trans af.size aq
 have aM:=Nat.le_trans af.size ar
 refine st_nil (aG _ _ (wp_seq_k fun aQ av=>?_))
 refine wp_g0 [true,true,true,true,true,true,false] [(6,false)] 9
   [ve (pv q9),ve (.bool a),ve (.pointer (some ⟨q9,1,none⟩)),ve (sv Aa ma ca),
    (OP w3.heap.size 56 .u32 ma),(fun (v_:Value) (W:World)=>∃ (A9:Option Addr) (aa:Nat),v_=.agg #[.bool a,sv A9 ma aa]∧SOwn W w3.heap.size 56 .u32 A9 ma aa),vt] an (.eq (.eq (.eq (.eq (.cons (fun _ _ _ n ⟨_,_,e,h⟩=>⟨_,_,e,h.new_ n⟩) (.cons (fun _ _ _ n ⟨_,_,e,h⟩=>⟨_,_,e,h.new_ n⟩) (.tt (.nil)))))))) ?_ ?_
 refine .f (fun k=>k.fx 1 h8)<| .t (fun _ w hn k=>⟨_,v_load rfl (k.eq1 0 3 rfl) (l_one Tryz.isAgg4 ((ah.new_ hn).cell 0)),rfl⟩)<| .f (fun k=>k.fx 1 h8)<| .t (fun _ w hn k=>⟨_,v_load rfl (k.eq1 2 5 rfl) (l_one Tryz.isAgg24 ((ah.new_ hn).cell 1)),rfl⟩) ?_
 refine .o1 (tkC rfl (noG rfl) rfl fun _ w hn k=>(by
       refine ⟨#[sv Aa ma ca],_,args1 (k.eq1 3 6 rfl),fun w=>by kernel_rfl,clone32_c _ ma _ _ (hra.new_ (ac.transNew hn)) (by first|omega|(simp only [List.length_nil,List.length_take,List.length_drop]; omega)|(simp only [List.length_cons,List.length_nil]; omega)),?_⟩
       rintro e w' ⟨A1,c2,rfl,hmo0,hm⟩
       exact⟨_,rfl,hm,⟨A1,c2,rfl,(hmo0.more hn.size)⟩⟩)) ?_
 refine .o1 (tk rfl rfl fun _ w hn k=>(by
       obtain⟨A5,c6,e7,aJ⟩:(OP w3.heap.size 56 .u32 ma) _ _:=k.dep 4 7 (by kernel_rfl) (by kernel_rfl)
       exact⟨_,v_build (ps:=[(0,.bool a),(1,sv A5 ma c6)]) rfl (parts2 (k.eq1 1 4 rfl) e7) (by kernel_rfl),⟨A5,c6,rfl,aJ⟩⟩)) ?_
 exact .off .nil
 refine aftI an aH ac fun aK aR aN aw ax ay ai=>?_
 have ap:=ai.fx 2 ao
 obtain⟨ae,ab,aj,az⟩:=ai.G 5 8
 have aj:aK.eval (.tmp 8)=.agg #[.bool a,sv ae ma ab]:=aj
 have ak:=au.new_ ay
 have aA:=az.more ac.size
 obtain⟨aS,-,am,aB,al,aO⟩:=s_two (v0:=.bool a) (v1:=sv ae ma ab) Tryz.sizeOf26 rfl rfl rfl ak
 refine st_act rfl rfl fun aT aC=>a_store' rfl ap aj am (aC _ _ trivial ?_)
 have aD:=aA.far ak al (by decide)
 have aE:=ax.trans al (fun _ h b=>by subst b; omega)
 refine st_nil (av _ _ ?_)
 refine wp_ret (ret_k aw (v:=.agg #[.bool a,sv ae ma ab]) (res_c rfl ap (l_two Tryz.isAgg26 Tryz.sizeOf26 aB)) ?_)
 exact⟨ae,ab,rfl,aD.row,aE⟩
def cbig_c_P (a:Bool) (Aa:Option Addr) (ma:List Nat) (ca:Nat) (w:World) (en:Ending) (w':World):Prop:=∃ (Ar0:Option Addr) (cr0:Nat),en=.returned (vv (Vl.mk 4 0 0 a ma [] 0) Ar0 cr0 none 0)∧SRow w' .u32 Ar0 ma cr0∧New w w'
theorem cbig_c (a:Bool) (Aa:Option Addr) (ma:List Nat) (ca:Nat) (w:World) (hra:SRow w .u32 Aa ma ca):Calls Tryz.prog 42 #[.agg #[.bool a,sv Aa ma ca]] w (cbig_c_P a Aa ma ca w):=by
 refine enter_abs Tryz.func42 rfl fun a0 aa aA hp=>?_
 have aa:a0.tmps.size=5:=aa
 have ab:New w w:=Upd.refl _ _
 have hp0:a0.eval (.tmp 0)=.agg #[.bool a,sv Aa ma ca]:=hp 0 _ rfl
 refine wp_seq_k fun K1 aB=>?_
 refine wp_g [true,true] [] [] 5
   [IsNew w 26 [.bool a,sv Aa ma ca],IsNew w 29 z7]
   [0,1] (newsCons (fun v w h=>IsNew.old h) (newsCons (fun v w h=>IsNew.old h) newsNil)) aa (.nw (.nw (.nil))) ?_ (fun i h=>by cases h) ?_
 exact .o2 (step_allocN (cs:=[.bool a,sv Aa ma ca]) (t:=26) rfl (noG rfl) (fun _ w hn k=>v_box rfl (k.fx 0 hp0) (fun w=>rfl)) (fun q _ hq hb=>⟨q,rfl,hq,hb⟩))<| .o2 (step_allocN (cs:=z7) (t:=29) rfl (noG rfl) (fun _ w hn k=>rfl) (fun q _ hq hb=>⟨q,rfl,hq,hb⟩)) .nil
 refine aftI aa aA ab fun a2 w3 ah aC al aJ ac=>?_
 obtain⟨q9,h8,am,an⟩:=ac.G 0 1
 obtain⟨ai,aj,ao,ap⟩:=ac.G 1 2
 have hne16:q9 ≠ ai:=ac.ne 0 1 1 2 h8 aj
 have aF:=Nat.le_trans ab.size am
 have aG:=Nat.le_trans ab.size ao
 refine st_nil (aB _ _ (wp_seq_k fun aK aq=>?_))
 refine wp_g0 [true,true,false] [(2,false)] 5
   [ve (.agg #[.bool a,sv Aa ma ca]),ve (vv (Vl.mk 4 0 0 a ma [] 0) Aa ca none 0),vt] ah (.eq (.eq (.tt (.nil)))) ?_ ?_
 exact .t (fun _ w hn k=>⟨_,v_load rfl (k.fx 1 h8) (l_two Tryz.isAgg26 Tryz.sizeOf26 (an.new_ hn)),rfl⟩)<| .t (fun _ w hn k=>⟨_,v_build (ps:=[(0,iv 4),(2,.agg #[.bool a,sv Aa ma ca])]) rfl (parts2 rfl (k.eq1 0 3 rfl)) (by kernel_rfl),rfl⟩)<| .off .nil
 refine aftI ah aC al fun aL aM aH ar au av ad=>?_
 have ak:=ad.fx 2 aj
 have aD:=ad.ge 1 4 rfl
 have aw:=ap.new_ av
 obtain⟨aE,af,ag,ax,aI⟩:=s_many (P:=Tryz.prog) (t:=29) (i:=0) [iv 4,iv 0,iv 0,.bool a,sv Aa ma ca,sv none ([]) 0,iv 0] Tryz.sizeOf29 rfl rfl rfl aw lb
 have ay:Blk aE ai 29 [iv 4,iv 0,iv 0,.bool a,sv Aa ma ca,sv none ([]) 0,iv 0]:=ag
 refine st_act rfl rfl fun aN az=>a_store' rfl ak aD af (az _ _ trivial ?_)
 have ae:=au.trans ax (fun _ h b=>by subst b; omega)
 refine st_nil (aq _ _ ?_)
 refine wp_ret (ret_k ar (v:=vv (Vl.mk 4 0 0 a ma [] 0) Aa ca none 0) (res_c rfl ak (l_agg Tryz.isAgg29 Tryz.sizeOf29 ay rfl)) ?_)
 exact⟨Aa,ca,rfl,(hra.new_ ae),ae⟩
def cnumeric_c_P (v:Vl) (Av:Option Addr) (cv:Nat) (Bv:Option Addr) (dv:Nat) (w:World) (en:Ending) (w':World):Prop:=∃ (Ar0:Option Addr) (cr0:Nat) (Ar1:Option Addr) (cr1:Nat),en=.returned (.tuple #[vv (numericV v).1 Ar0 cr0 Ar1 cr1,iv ((numericV v).2)])∧SRow w' .u32 Ar0 ((numericV v).1.mag) cr0∧SRow w' .u16 Ar1 ((numericV v).1.s) cr1∧New w w'
theorem cnumeric_c (v:Vl) (Av:Option Addr) (cv:Nat) (Bv:Option Addr) (dv:Nat) (w:World) (hmv:SRow w .u32 Av v.mag cv) (hsv:SRow w .u16 Bv v.s dv) (hvv:VOk v):Calls Tryz.prog 29 #[vv v Av cv Bv dv] w (cnumeric_c_P v Av cv Bv dv w):=by
 refine enter_abs Tryz.func29 rfl fun a0 aK df hp=>?_
 have aK:a0.tmps.size=26:=aK
 have aW:New w w:=Upd.refl _ _
 have hp0:a0.eval (.tmp 0)=vv v Av cv Bv dv:=hp 0 _ rfl
 have hm:=hvv.clean.mlen
 refine wp_seq_k fun K1 dg=>?_
 refine wp_g [true,true,true] [] [] 26
   [IsNew w 29 (c7 v Av cv Bv dv),IsNew w 29 z7,ve (iv 0)]
   [0,1] (newsCons (fun v w h=>IsNew.old h) (newsCons (fun v w h=>IsNew.old h) newsNil)) aK (.nw (.nw (.eq (.nil)))) ?_ (fun i h=>by cases h) ?_
 exact .o2 (step_allocN (cs:=(c7 v Av cv Bv dv)) (t:=29) rfl (noG rfl) (fun _ w hn k=>v_box rfl (k.fx 0 hp0) (fun w=>rfl)) (fun q _ hq hb=>⟨q,rfl,hq,hb⟩))<| .o2 (step_allocN (cs:=z7) (t:=29) rfl (noG rfl) (fun _ w hn k=>rfl) (fun q _ hq hb=>⟨q,rfl,hq,hb⟩))<| .t (fun _ w hn k=>⟨_,v_assign rfl rfl,rfl⟩) .nil
 refine aftI aK df aW fun a2 w3 cf dh aD d2 aX=>?_
 obtain⟨q9,h8,cn,aY⟩:=aX.G 0 1
 obtain⟨aB,ch,co,cp⟩:=aX.G 1 2
 have hne16:q9 ≠ aB:=aX.ne 0 1 1 2 h8 ch
 have dG:=Nat.le_trans aW.size cn
 have dH:=Nat.le_trans aW.size co
 refine st_nil (dg _ _ (wp_seq_k fun d3 cq=>?_))
 refine wp_g0 [true,true,false] [(2,false)] 26
   [ve (vv v Av cv Bv dv),
    (VP (cleanV v)),vt] cf (.eq (.cons (fun _ _ _ n ⟨_,_,_,_,e,h,i⟩=>⟨_,_,_,_,e,h.new_ n,i.new_ n⟩) (.tt (.nil)))) ?_ ?_
 refine .t (fun _ w hn k=>⟨_,v_load rfl (k.fx 1 h8) (l_agg Tryz.isAgg29 Tryz.sizeOf29 (aY.new_ hn) rfl),rfl⟩) ?_
 refine .o1 (tkC rfl (noG rfl) rfl fun _ w hn k=>(by
       refine ⟨#[vv v Av cv Bv dv],_,args1 (k.eq1 0 6 rfl),fun w=>by kernel_rfl,clean_c v _ _ _ _ _ (hmv.new_ (aD.transNew hn)) (hsv.new_ (aD.transNew hn)),?_⟩
       rintro e w' ⟨A1,c2,A3,c4,rfl,hmo0,hmo1,hm⟩
       exact⟨_,rfl,hm,⟨A1,c2,A3,c4,rfl,hmo0,hmo1⟩⟩)) ?_
 exact .off .nil
 refine aftI cf dh aD fun di d4 aZ cr ct a1 aE=>?_
 have a3:=aE.fx 1 h8
 have dj:=aE.fx 2 ch
 obtain⟨ap,ah,aC,aq,a4,cu,cw⟩:=aE.G 1 7
 have a4:di.eval (.tmp 7)=vv (cleanV v) ap ah aC aq:=a4
 have aF:=aY.new_ a1
 have cx:=cp.new_ a1
 obtain⟨dk,bz,bA,aG,cy⟩:=s_many (P:=Tryz.prog) (t:=29) (i:=0) (c7 (cleanV v) ap ah aC aq) Tryz.sizeOf29 rfl rfl rfl aF lb
 have a5:Blk dk q9 29 (c7 (cleanV v) ap ah aC aq):=bA
 refine st_act rfl rfl fun d5 cz=>a_store' rfl a3 a4 bz (cz _ _ trivial ?_)
 have cA:=cu.fr aF aG
 have cB:=cw.fr aF aG
 have cC:=cy _ _ _ (fun h=>hne16 h.symm) cx
 have cD:=ct.trans aG (fun _ h b=>by subst b; omega)
 refine st_nil (cq _ _ (wp_seq_k fun d6 cE=>?_))
 refine wp_seq_k fun d7 cF=>?_
 refine wp_g0 [true,true,true] [] 26
   [ve (pv q9),ve (iv ((cleanV v).k)),ve (.bool (decide (((cleanV v).k)=4)))] aZ (.eq (.eq (.eq (.nil)))) ?_ ?_
 exact .f (fun k=>k.fx 1 a3)<| .t (fun _ w hn k=>⟨_,v_load rfl (k.eq1 0 8 rfl) (l_one Tryz.isAgg3 ((a5.new_ hn).cell 0)),rfl⟩)<| .t (fun _ w hn k=>⟨_,v_bin rfl (k.eq1 1 9 rfl) rfl (fun _=>rfl) (r_eql rfl),rfl⟩) .nil
 refine aftI aZ cr cD fun d8 dl ay a6 aH az aI=>?_
 have ci:=aI.fx 1 a3
 have cj:=aI.fx 2 dj
 have cl:=aI.ge 2 10 rfl
 have a7:=a5.new_ az
 have aJ:=cC.new_ az
 have a8:=cA.new_ az
 have cG:=cB.new_ az
 refine st_nil (cF _ _ ?_)
 rcases bc (decide (((cleanV v).k)=4)) with aa|aa
 have bB:=oT aa
 have cH:=hB cl aa
 refine wp_cond_true cH ?_
 refine wp_seq_k fun d9 cI=>?_
 refine wp_g0 [true,true,true,true,false,false] [(4,false),(5,true)] 26
   [ve (.pointer (some ⟨q9,3,none⟩)),ve (.agg #[.bool ((cleanV v).neg),sv ap ((cleanV v).mag) ah]),(fun (v_:Value) (W:World)=>∃ (ar:Option Addr) (au:Nat),v_=.agg #[.bool ((cleanV v).neg),sv ar ((cleanV v).mag) au]∧SRow W .u32 ar ((cleanV v).mag) au),(fun (v_:Value) (W:World)=>∃ (av:Option Addr) (aw:Nat),v_=vv (Vl.mk 4 0 0 (cleanV v).neg (cleanV v).mag [] 0) av aw none 0∧SRow W .u32 av ((cleanV v).mag) aw),vt,vt] ay (.eq (.eq (.cons (fun _ _ _ n ⟨_,_,e,h⟩=>⟨_,_,e,h.new_ n⟩) (.cons (fun _ _ _ n ⟨_,_,e,h⟩=>⟨_,_,e,h.new_ n⟩) (.tt (.tt (.nil))))))) ?_ ?_
 refine .f (fun k=>k.fx 1 ci)<| .t (fun _ w hn k=>⟨_,v_load rfl (k.eq1 0 11 rfl) (l_part Tryz.isAgg26 Tryz.sizeOf26 (a7.new_ hn) lb),rfl⟩) ?_
 refine .o1 (tkC rfl (noG rfl) rfl fun _ w hn k=>(by
       refine ⟨#[.agg #[.bool ((cleanV v).neg),sv ap ((cleanV v).mag) ah]],_,args1 (k.eq1 1 12 rfl),fun w=>by kernel_rfl,cown_c ((cleanV v).neg) _ ((cleanV v).mag) _ _ (a8.new_ hn) (by first|omega|(simp only [List.length_nil,List.length_take,List.length_drop]; omega)|(simp only [List.length_cons,List.length_nil]; omega)),?_⟩
       rintro e w' ⟨dm,dn,rfl,hmo0,hm⟩
       exact⟨_,rfl,hm,⟨dm,dn,rfl,hmo0⟩⟩)) ?_
 refine .o1 (tkC rfl (noG rfl) rfl fun _ w hn k=>(by
       obtain⟨dp,dq,dr,cJ⟩:(fun (v_:Value) (W:World)=>∃ (ar:Option Addr) (au:Nat),v_=.agg #[.bool ((cleanV v).neg),sv ar ((cleanV v).mag) au]∧SRow W .u32 ar ((cleanV v).mag) au) _ _:=k.dep 2 13 (by kernel_rfl) (by kernel_rfl)
       refine ⟨#[.agg #[.bool ((cleanV v).neg),sv dp ((cleanV v).mag) dq]],_,args1 dr,fun w=>by kernel_rfl,cbig_c ((cleanV v).neg) _ ((cleanV v).mag) _ _ cJ,?_⟩
       rintro e w' ⟨ds,dt,rfl,hmo0,hm⟩
       exact⟨_,rfl,hm,⟨ds,dt,rfl,hmo0⟩⟩)) ?_
 exact .off<| .off .nil
 refine aftI ay a6 aH fun a9 ea ba cK cL cM bb=>?_
 have cm:=bb.fx 2 cj
 obtain⟨ax,ai,aL,cN⟩:=bb.G 3 14
 have aL:a9.eval (.tmp 14)=vv (Vl.mk 4 0 0 (cleanV v).neg (cleanV v).mag [] 0) ax ai none 0:=aL
 have bd:=aJ.new_ cM
 obtain⟨du,bC,bD,be,dI⟩:=s_many (P:=Tryz.prog) (t:=29) (i:=0) [iv 4,iv 0,iv 0,.bool ((cleanV v).neg),sv ax ((cleanV v).mag) ai,sv none ([]) 0,iv 0] Tryz.sizeOf29 rfl rfl rfl bd lb
 have cO:Blk du aB 29 [iv 4,iv 0,iv 0,.bool ((cleanV v).neg),sv ax ((cleanV v).mag) ai,sv none ([]) 0,iv 0]:=bD
 refine st_act rfl rfl fun eb cP=>a_store' rfl cm aL bC (cP _ _ trivial ?_)
 have cQ:=cN.fr bd be
 have cR:=cL.trans be (fun _ h b=>by subst b; omega)
 refine st_take rfl rfl (y_assign (v:=iv 0) rfl rfl) rfl ?_
 obtain⟨dw,aj⟩:∃ a',a'=a9.put (some 3) (iv 0):=⟨_,rfl⟩
 have dJ:=pz aj ba
 have cS:=pd aj cK
 have dx:=pn aj cm (by decide)
 have ec:=pn aj aL (by decide)
 have dy:dw.eval (.tmp 3)=iv 0:=by rw [aj]; exact put_same _ _ _ (by rw [ba]; decide)
 show stepsTo _ _ _ _ _ (a9.put (some 3) (iv 0)) _
 rw [← aj]
 refine st_nil (cI _ _ ?_)
 refine wp_ret (ret_k cS (v:=.tuple #[vv (Vl.mk 4 0 0 (cleanV v).neg (cleanV v).mag [] 0) ax ai none 0,iv 0]) (res_ct rfl dx dy (l_agg Tryz.isAgg29 Tryz.sizeOf29 cO rfl)) ?_)
 have ak:(numericV v).1.mag=((cleanV v).mag):=by first|rfl|(simp only [numericV,Vl.z,aa,bsm] <;> rfl)|(exfalso; omega)
 have al:(numericV v).1.s=[]:=by first|rfl|(simp only [numericV,Vl.z,aa,bsm] <;> rfl)|(exfalso; omega)
 exact⟨ax,ai,none,0,(by show Ending.returned (.tuple #[vv (Vl.mk 4 0 0 (cleanV v).neg (cleanV v).mag [] 0) ax ai none 0,iv 0])=Ending.returned (.tuple #[vv (numericV v).1 ax ai none 0,iv ((numericV v).2)]); (first|rfl|(simp only [numericV,Vl.z,aa,ak,al,bsm] <;> rfl)|(exfalso; omega))),(by rw [ak]; exact cQ),(by rw [al]; exact (SRow.nil _ _)),cR⟩
 have bB:=oF aa
 have cT:=hB cl aa
 refine wp_cond_false cT ?_
 refine wp_skip ?_
 refine cE _ _ ?_
 refine wp_seq_k fun ed cU=>?_
 refine wp_g [true,true,true,true,true,true,false,false] [4] [(6,false),(7,true)] 26
   [ve (vv (cleanV v) ap ah aC aq),ve (.tuple #[nv ((numberV (cleanV v)).1),iv ((numberV (cleanV v)).2)]),ve (.tuple #[nv ((numberV (cleanV v)).1),iv ((numberV (cleanV v)).2)]),ve (nv ((numberV (cleanV v)).1)),ve (iv ((numberV (cleanV v)).2)),IsNew dl 23 [iv 0,iv 0],vt,vt]
   [5] (newsCons (fun v w h=>IsNew.old h) newsNil) ay (.eq (.eq (.eq (.eq (.eq (.nw (.tt (.tt (.nil))))))))) ?_ ?_ ?_
 refine .t (fun _ w hn k=>⟨_,v_load rfl (k.fx 1 ci) (l_agg Tryz.isAgg29 Tryz.sizeOf29 (a7.new_ hn) rfl),rfl⟩)<| .o1 (ck rfl rfl rfl (fun _ w hn k=>⟨#[vv (cleanV v) ap ah aC aq],args1 (k.eq1 0 16 rfl),fun _=>by kernel_rfl,cnumber_c (cleanV v) _ _ _ _ _ (a8.new_ hn) (cG.new_ hn) hvv.clean⟩) fun _=>rfl)<| .m (fun k=>k.eq1 1 17 rfl)<| .t (fun _ w hn k=>⟨_,v_extract rfl (k.eq1 2 15 rfl) rfl,rfl⟩) ?_
 refine .o3 ?_
 exact .o2 (step_allocN (cs:=[iv 0,iv 0]) (t:=23) rfl (noG rfl) (fun _ w hn k=>rfl) (fun q _ hq hb=>⟨q,rfl,hq,hb⟩))<| .off<| .off .nil
 intro i h
 simp only [List.contains_eq_mem,List.mem_cons,List.not_mem_nil,or_false,decide_eq_true_eq] at h
 subst h
 exact eager_take rfl rfl fun _ w hn k=>⟨iv ((numberV (cleanV v)).2),fun w=>v_extract rfl (k.eq1 2 15 rfl) rfl,rfl⟩
 refine aftI ay a6 aH fun bf dK aM bE bF bG am=>?_
 have cV:=am.fx 2 cj
 have bg:=am.ge 3 18 rfl
 have bh:=am.ge 4 19 rfl
 obtain⟨cW,bi,aN,bH⟩:=am.G 5 4
 have bI:=aJ.new_ bG
 have hne114:aB ≠ cW:=by have h1:=aJ.lt; have h2:=aN; omega
 have dB:=Nat.le_trans aH.size aN
 obtain⟨dL,-,bj,bJ,bK,bL⟩:=s_two (v0:=iv ((numberV (cleanV v)).1.k)) (v1:=iv ((numberV (cleanV v)).1.n)) Tryz.sizeOf23 rfl rfl rfl bH
 refine st_act rfl rfl fun dM bM=>a_store' rfl bi bg bj (bM _ _ trivial ?_)
 have bN:=bL _ _ _ (hne114) bI
 have bO:=bF.trans bK (fun _ h b=>by subst b; omega)
 refine st_take rfl rfl (y_assign (v:=iv ((numberV (cleanV v)).2)) rfl bh) rfl ?_
 obtain⟨cX,ac⟩:∃ a',a'=bf.put (some 5) (iv ((numberV (cleanV v)).2)):=⟨_,rfl⟩
 have aO:=pz ac aM
 have bP:=pd ac bE
 have cY:=pn ac cV (by decide)
 have dN:=pn ac bg (by decide)
 have dO:=pn ac bh (by decide)
 have cZ:=pn ac bi (by decide)
 have bk:cX.eval (.tmp 5)=iv ((numberV (cleanV v)).2):=by rw [ac]; exact put_same _ _ _ (by rw [aM]; decide)
 show stepsTo _ _ _ _ _ (bf.put (some 5) (iv ((numberV (cleanV v)).2))) _
 rw [← ac]
 refine st_nil (cU _ _ (wp_seq_k fun dP bQ=>?_))
 refine wp_seq_k fun dQ bR=>?_
 refine wp_g0 [true,true] [] 26
   [ve (iv ((numberV (cleanV v)).2)),ve (.bool (!decide (((numberV (cleanV v)).2)=0)))] aO (.eq (.eq (.nil))) ?_ ?_
 exact .m (fun k=>k.fx 5 bk)<| .t (fun _ w hn k=>⟨_,v_bin rfl (k.eq1 0 20 rfl) rfl (fun _=>rfl) (r_neq rfl),rfl⟩) .nil
 refine aftI aO bP bO fun dR dS an aP aQ aR ao=>?_
 have bl:=ao.fx 2 cY
 have c0:=ao.fx 4 cZ
 have c1:=ao.fx 5 bk
 have bm:=ao.ge 1 21 rfl
 have aS:=bN.new_ aR
 have bS:=bJ.new_ aR
 refine st_nil (bR _ _ ?_)
 rcases bc ((!decide (((numberV (cleanV v)).2)=0))) with ab|ab
 have bT:=hB bm ab
 have ad:(decide (((numberV (cleanV v)).2)=0))=false:=nF ab
 have dz:=oF ad
 refine wp_cond_true bT ?_
 refine wp_seq_k fun dT bU=>?_
 refine wp_g [true,true,false,false] [1] [(2,false),(3,true)] 26
   [ve (vv (Vl.mk 0 0 0 false [] [] 0) none 0 none 0),ve (iv ((numberV (cleanV v)).2)),vt,vt]
   [] newsNil an (.eq (.eq (.tt (.tt (.nil))))) ?_ ?_ ?_
 refine .t (fun _ w hn k=>⟨_,v_build (ps:=[]) rfl parts0 (by kernel_rfl),rfl⟩) ?_
 refine .o3 ?_
 exact .off<| .off .nil
 intro i h
 simp only [List.contains_eq_mem,List.mem_cons,List.not_mem_nil,or_false,decide_eq_true_eq] at h
 subst h
 exact eager_take rfl rfl fun _ w hn k=>⟨iv ((numberV (cleanV v)).2),fun w=>v_move rfl (k.fx 5 c1),rfl⟩
 refine aftI an aP aQ fun bn dU aT bV bW bX aA=>?_
 have bo:=aA.fx 2 bl
 have bp:=aA.ge 0 22 rfl
 have bq:=aA.ge 1 23 rfl
 have bY:=aS.new_ bX
 obtain⟨c3,br,bs,bZ,dC⟩:=s_many (P:=Tryz.prog) (t:=29) (i:=0) z7 Tryz.sizeOf29 rfl rfl rfl bY lb
 have b0:Blk c3 aB 29 z7:=bs
 refine st_act rfl rfl fun dV b1=>a_store' rfl bo bp br (b1 _ _ trivial ?_)
 have b2:=bW.trans bZ (fun _ h b=>by subst b; omega)
 refine st_take rfl rfl (y_assign (v:=iv ((numberV (cleanV v)).2)) rfl bq) rfl ?_
 obtain⟨c5,ae⟩:∃ a',a'=bn.put (some 3) (iv ((numberV (cleanV v)).2)):=⟨_,rfl⟩
 have dD:=pz ae aT
 have b3:=pd ae bV
 have c9:=pn ae bo (by decide)
 have dW:=pn ae bp (by decide)
 have dX:=pn ae bq (by decide)
 have da:c5.eval (.tmp 3)=iv ((numberV (cleanV v)).2):=by rw [ae]; exact put_same _ _ _ (by rw [aT]; decide)
 show stepsTo _ _ _ _ _ (bn.put (some 3) (iv ((numberV (cleanV v)).2))) _
 rw [← ae]
 refine st_nil (bU _ _ ?_)
 refine wp_ret (ret_k b3 (v:=.tuple #[vv (Vl.mk 0 0 0 false [] [] 0) none 0 none 0,iv ((numberV (cleanV v)).2)]) (res_ct rfl c9 da (l_agg Tryz.isAgg29 Tryz.sizeOf29 b0 rfl)) ?_)
 have ak:(numericV v).1.mag=[]:=by first|rfl|(simp only [numericV,Vl.z,aa,ab,ad,ad,bsm] <;> rfl)|(exfalso; omega)
 have al:(numericV v).1.s=[]:=by first|rfl|(simp only [numericV,Vl.z,aa,ab,ad,ad,bsm] <;> rfl)|(exfalso; omega)
 exact⟨none,0,none,0,(by show Ending.returned (.tuple #[vv (Vl.mk 0 0 0 false [] [] 0) none 0 none 0,iv ((numberV (cleanV v)).2)])=Ending.returned (.tuple #[vv (numericV v).1 none 0 none 0,iv ((numericV v).2)]); (first|rfl|(simp only [numericV,Vl.z,aa,ab,ad,ad,ak,al,bsm] <;> rfl)|(exfalso; omega))),(by rw [ak]; exact (SRow.nil _ _)),(by rw [al]; exact (SRow.nil _ _)),b2⟩
 have b4:=hB bm ab
 have af:(decide (((numberV (cleanV v)).2)=0))=true:=nT ab
 have dA:=oT af
 refine wp_cond_false b4 ?_
 refine wp_skip ?_
 refine bQ _ _ ?_
 refine wp_seq_k fun dY b5=>?_
 refine wp_g0 [true,true,false,false] [(2,false),(3,true)] 26
   [ve (nv ((numberV (cleanV v)).1)),ve (vv (Vl.mk 3 ((numberV (cleanV v)).1).k ((numberV (cleanV v)).1).n false [] [] 0) none 0 none 0),vt,vt] an (.eq (.eq (.tt (.tt (.nil))))) ?_ ?_
 exact .t (fun _ w hn k=>⟨_,v_load rfl (k.fx 4 c0) (l_two Tryz.isAgg23 Tryz.sizeOf23 (bS.new_ hn)),rfl⟩)<| .o1 (ck rfl rfl rfl (fun _ w hn k=>⟨#[nv ((numberV (cleanV v)).1)],args1 (k.eq1 0 24 rfl),fun _=>by kernel_rfl,cnum_c ((numberV (cleanV v)).1) _ ⟩) fun _=>rfl)<| .off<| .off .nil
 refine aftI an aP aQ fun bt dZ aU b6 b7 b8 aV=>?_
 have bu:=aV.fx 2 bl
 have bv:=aV.ge 1 25 rfl
 have b9:=aS.new_ b8
 obtain⟨db,bw,bx,ca,dE⟩:=s_many (P:=Tryz.prog) (t:=29) (i:=0) [iv 3,iv (((numberV (cleanV v)).1).k),iv (((numberV (cleanV v)).1).n),.bool false,sv none ([]) 0,sv none ([]) 0,iv 0] Tryz.sizeOf29 rfl rfl rfl b9 lb
 have cb:Blk db aB 29 [iv 3,iv (((numberV (cleanV v)).1).k),iv (((numberV (cleanV v)).1).n),.bool false,sv none ([]) 0,sv none ([]) 0,iv 0]:=bx
 refine st_act rfl rfl fun d0 cc=>a_store' rfl bu bv bw (cc _ _ trivial ?_)
 have cd:=b7.trans ca (fun _ h b=>by subst b; omega)
 refine st_take rfl rfl (y_assign (v:=iv 0) rfl rfl) rfl ?_
 obtain⟨dc,ag⟩:∃ a',a'=bt.put (some 3) (iv 0):=⟨_,rfl⟩
 have dF:=pz ag aU
 have ce:=pd ag b6
 have dd:=pn ag bu (by decide)
 have d1:=pn ag bv (by decide)
 have de:dc.eval (.tmp 3)=iv 0:=by rw [ag]; exact put_same _ _ _ (by rw [aU]; decide)
 show stepsTo _ _ _ _ _ (bt.put (some 3) (iv 0)) _
 rw [← ag]
 refine st_nil (b5 _ _ ?_)
 refine wp_ret (ret_k ce (v:=.tuple #[vv (Vl.mk 3 ((numberV (cleanV v)).1).k ((numberV (cleanV v)).1).n false [] [] 0) none 0 none 0,iv 0]) (res_ct rfl dd de (l_agg Tryz.isAgg29 Tryz.sizeOf29 cb rfl)) ?_)
 have ak:(numericV v).1.mag=[]:=by first|rfl|(simp only [numericV,Vl.z,aa,ab,af,af,bsm] <;> rfl)|(exfalso; omega)
 have al:(numericV v).1.s=[]:=by first|rfl|(simp only [numericV,Vl.z,aa,ab,af,af,bsm] <;> rfl)|(exfalso; omega)
 exact⟨none,0,none,0,(by show Ending.returned (.tuple #[vv (Vl.mk 3 ((numberV (cleanV v)).1).k ((numberV (cleanV v)).1).n false [] [] 0) none 0 none 0,iv 0])=Ending.returned (.tuple #[vv (numericV v).1 none 0 none 0,iv ((numericV v).2)]); (first|rfl|(simp only [numericV,Vl.z,aa,ab,af,af,ak,al,bsm] <;> rfl)|(exfalso; omega))),(by rw [ak]; exact (SRow.nil _ _)),(by rw [al]; exact (SRow.nil _ _)),cd⟩
def ItoaOk (w0:World):Prop:=∀ n:Int,-9223372036854775808≤n→n≤9223372036854775807→∀ w',New w0 w'→Calls Tryz.prog 179 #[.int .i64 n] w' (IsRet (.string (itoaS n)) w')
theorem ItoaOk.up {w0 w:World} (h:ItoaOk w0) (hn:New w0 w):ItoaOk w:=fun n h1 h2 w' h3=>h n h1 h2 w' (hn.transNew h3)
theorem ntext_c (a:Nm) (w:World) (HT:ItoaOk w):Calls Tryz.prog 140 #[nv a] w (IsRet (.string (textM a)) w):=by
 refine enter_abs Tryz.func140 rfl fun a0 aj bC hp=>?_
 have aj:a0.tmps.size=16:=aj
 have aP:New w w:=Upd.refl _ _
 have hp0:a0.eval (.tmp 0)=nv a:=hp 0 _ rfl
 refine wp_seq_k fun K1 bD=>?_
 refine wp_g [true,true] [] [] 16
   [IsNew w 23 [iv a.k,iv a.n],ve (.string ⟨#[]⟩)]
   [0] (newsCons (fun v w h=>IsNew.old h) newsNil) aj (.nw (.eq (.nil))) ?_ (fun i h=>by cases h) ?_
 exact .o2 (step_allocN (cs:=[iv a.k,iv a.n]) (t:=23) rfl (noG rfl) (fun _ w hn k=>v_box rfl (k.fx 0 hp0) (fun w=>rfl)) (fun q _ hq hb=>⟨q,rfl,hq,hb⟩))<| .t (fun _ w hn k=>⟨_,v_assign rfl rfl,rfl⟩) .nil
 refine aftI aj bC aP fun a2 w3 aQ bE aV b3 bF=>?_
 obtain⟨q9,h8,aW,ak⟩:=bF.G 0 1
 have bR:=Nat.le_trans aP.size aW
 refine st_nil (bD _ _ (wp_seq_k fun b4 aX=>?_))
 refine wp_seq_k fun b5 aY=>?_
 refine wp_g0 [true,true,false] [(2,false)] 16
   [ve (nv a),ve (nv (asM a)),vt] aQ (.eq (.eq (.tt (.nil)))) ?_ ?_
 exact .t (fun _ w hn k=>⟨_,v_load rfl (k.fx 1 h8) (l_two Tryz.isAgg23 Tryz.sizeOf23 (ak.new_ hn)),rfl⟩)<| .o1 (ck rfl rfl rfl (fun _ w hn k=>⟨#[nv a],args1 (k.eq1 0 3 rfl),fun _=>by kernel_rfl,as_c a _ ⟩) fun _=>rfl)<| .off .nil
 refine aftI aQ bE aV fun b6 b7 al aZ a1 a3 am=>?_
 have an:=am.fx 1 h8
 have bG:=am.ge 1 4 rfl
 have a4:=ak.new_ a3
 have hbd_a:=as_bd a
 obtain⟨b8,-,aB,ao,a5,bS⟩:=s_two (v0:=iv ((asM a).k)) (v1:=iv ((asM a).n)) Tryz.sizeOf23 rfl rfl rfl a4
 refine st_act rfl rfl fun b9 a6=>a_store' rfl an bG aB (a6 _ _ trivial ?_)
 have a7:=a1.trans a5 (fun _ h b=>by subst b; omega)
 refine st_nil (aY _ _ (wp_seq_k fun ca a8=>?_))
 refine wp_g0 [true,true] [] 16
   [ve (pv q9),ve (iv ((asM a).k))] al (.eq (.eq (.nil))) ?_ ?_
 exact .f (fun k=>k.fx 1 an)<| .t (fun _ w hn k=>⟨_,v_load rfl (k.eq1 0 5 rfl) (l_one Tryz.isAgg3 ((ao.new_ hn).cell 0)),rfl⟩) .nil
 refine aftI al aZ a7 fun cb cc ap a9 ba bb aq=>?_
 have bH:=aq.fx 1 an
 have aR:=aq.ge 1 6 rfl
 have bd:=ao.new_ bb
 refine st_nil (a8 _ _ ?_)
 refine wp_block ?_
 refine wp_seq_k fun cd be=>?_
 refine wp_g0 [true,true] [] 16
   [ve (.bool (decide (((asM a).k)=2))),ve (.bool (decide (((asM a).k)=2)))] ap (.eq (.eq (.nil))) ?_ ?_
 exact .t (fun _ w hn k=>⟨_,v_bin rfl (k.fx 6 aR) rfl (fun _=>rfl) (r_eql rfl),rfl⟩)<| .a (fun k=>k.eq1 0 8 rfl) .nil
 refine aftI ap a9 ba fun ce cf ad ar au bf ah=>?_
 have bI:=ah.fx 1 bH
 have aS:=ah.fx 6 aR
 have aT:=ah.ge 1 7 rfl
 have bg:=bd.new_ bf
 refine st_nil (be _ _ ?_)
 rcases bc (decide (((asM a).k)=2)) with aa|aa
 have aC:=oT aa
 have bh:=hB aT aa
 refine wp_cond_true bh ?_
 refine wp_seq_k fun ch bi=>?_
 refine wp_g0 [true] [] 16
   [ve (.string ⟨#[78,97,78]⟩)] ad (.eq (.nil)) ?_ ?_
 exact .t (fun _ w hn k=>⟨_,v_assign rfl rfl,rfl⟩) .nil
 refine aftI ad ar au fun ci cj bT bj bk bU bl=>?_
 have bJ:=bl.ge 0 2 rfl
 refine st_nil (bi _ _ ?_)
 refine wp_ret (ret_k bj (v:=.string ⟨#[78,97,78]⟩) (res_t rfl bJ _) ?_)
 refine ⟨?_,bk⟩
 show Ending.returned (.string ⟨#[78,97,78]⟩)=Ending.returned (.string (textM a))
 first|rfl|(simp only [textM,aa,bsm] <;> rfl)|(exfalso; omega)
 have aC:=oF aa
 have bm:=hB aT aa
 refine wp_cond_false bm ?_
 refine wp_seq_k fun cl bn=>?_
 refine wp_g0 [true,true] [] 16
   [ve (.bool (decide (((asM a).k)=3))),ve (.bool (decide (((asM a).k)=3)))] ad (.eq (.eq (.nil))) ?_ ?_
 exact .t (fun _ w hn k=>⟨_,v_bin rfl (k.fx 6 aS) rfl (fun _=>rfl) (r_eql rfl),rfl⟩)<| .a (fun k=>k.eq1 0 10 rfl) .nil
 refine aftI ad ar au fun cm cn ae av aw bo ai=>?_
 have bK:=ai.fx 1 bI
 have bL:=ai.fx 6 aS
 have aU:=ai.ge 1 9 rfl
 have bp:=bg.new_ bo
 refine st_nil (bn _ _ ?_)
 rcases bc (decide (((asM a).k)=3)) with ac|ac
 have aD:=oT ac
 have bq:=hB aU ac
 refine wp_cond_true bq ?_
 refine wp_seq_k fun co br=>?_
 refine wp_g0 [true] [] 16
   [ve (.string ⟨#[73,110,102,105,110,105,116,121]⟩)] ae (.eq (.nil)) ?_ ?_
 exact .t (fun _ w hn k=>⟨_,v_assign rfl rfl,rfl⟩) .nil
 refine aftI ae av aw fun cp cq bV bs bt bW bu=>?_
 have bM:=bu.ge 0 2 rfl
 refine st_nil (br _ _ ?_)
 refine wp_ret (ret_k bs (v:=.string ⟨#[73,110,102,105,110,105,116,121]⟩) (res_t rfl bM _) ?_)
 refine ⟨?_,bt⟩
 show Ending.returned (.string ⟨#[73,110,102,105,110,105,116,121]⟩)=Ending.returned (.string (textM a))
 first|rfl|(simp only [textM,aa,ac,bsm] <;> rfl)|(exfalso; omega)
 have aD:=oF ac
 have bv:=hB aU ac
 refine wp_cond_false bv ?_
 refine wp_seq_k fun cr bw=>?_
 refine wp_g0 [true,true] [] 16
   [ve (.bool (decide (((asM a).k)=4))),ve (.bool (decide (((asM a).k)=4)))] ae (.eq (.eq (.nil))) ?_ ?_
 exact .t (fun _ w hn k=>⟨_,v_bin rfl (k.fx 6 bL) rfl (fun _=>rfl) (r_eql rfl),rfl⟩)<| .a (fun k=>k.eq1 0 12 rfl) .nil
 refine aftI ae av aw fun ct cu af ax ag bx ay=>?_
 have bz:=ay.fx 1 bK
 have az:=ay.ge 1 11 rfl
 have aE:=bp.new_ bx
 refine st_nil (bw _ _ ?_)
 rcases bc (decide (((asM a).k)=4)) with ab|ab
 have aA:=oT ab
 have aF:=hB az ab
 refine wp_cond_true aF ?_
 refine wp_seq_k fun bX aG=>?_
 refine wp_g0 [true] [] 16
   [ve (.string ⟨#[45,73,110,102,105,110,105,116,121]⟩)] af (.eq (.nil)) ?_ ?_
 exact .t (fun _ w hn k=>⟨_,v_assign rfl rfl,rfl⟩) .nil
 refine aftI af ax ag fun bY bZ bN aH aI bO aJ=>?_
 have bA:=aJ.ge 0 2 rfl
 refine st_nil (aG _ _ ?_)
 refine wp_ret (ret_k aH (v:=.string ⟨#[45,73,110,102,105,110,105,116,121]⟩) (res_t rfl bA _) ?_)
 refine ⟨?_,aI⟩
 show Ending.returned (.string ⟨#[45,73,110,102,105,110,105,116,121]⟩)=Ending.returned (.string (textM a))
 first|rfl|(simp only [textM,aa,ac,ab,bsm] <;> rfl)|(exfalso; omega)
 have aA:=oF ab
 have aK:=hB az ab
 refine wp_cond_false aK ?_
 refine wp_skip ?_
 refine aX _ _ ?_
 refine wp_seq_k fun b0 aL=>?_
 refine wp_g0 [true,true,true,true] [] 16
   [ve (.pointer (some ⟨q9,1,none⟩)),ve (iv ((asM a).n)),ve (.string (itoaS ((asM a).n))),ve (.string (itoaS ((asM a).n)))] af (.eq (.eq (.eq (.eq (.nil))))) ?_ ?_
 exact .f (fun k=>k.fx 1 bz)<| .t (fun _ w hn k=>⟨_,v_load rfl (k.eq1 0 13 rfl) (l_one Tryz.isAgg3 ((aE.new_ hn).cell 1)),rfl⟩)<| .o1 (ck rfl rfl rfl (fun _ w hn k=>⟨#[iv ((asM a).n)],args1 (k.eq1 1 14 rfl),fun _=>by kernel_rfl,HT ((asM a).n) (by omega) (by omega) _ (ag.transNew hn)⟩) fun _=>rfl)<| .a (fun k=>k.eq1 2 15 rfl) .nil
 refine aftI af ax ag fun b1 b2 bP aM aN bQ aO=>?_
 have bB:=aO.ge 3 2 rfl
 refine st_nil (aL _ _ ?_)
 refine wp_ret (ret_k aM (v:=.string (itoaS ((asM a).n))) (res_t rfl bB _) ?_)
 refine ⟨?_,aN⟩
 show Ending.returned (.string (itoaS ((asM a).n)))=Ending.returned (.string (textM a))
 first|rfl|(simp only [textM,aa,ac,ab,bsm] <;> rfl)|(exfalso; omega)
theorem isInf_c (a:Nm) (w:World):Calls Tryz.prog 123 #[nv a] w (IsRet (.bool (infB a.k)) w):=by
 refine enter_abs Tryz.func123 rfl fun a0 aa ak hp=>?_
 have aa:a0.tmps.size=11:=aa
 have ac:New w w:=Upd.refl _ _
 have hp0:a0.eval (.tmp 0)=nv a:=hp 0 _ rfl
 refine wp_seq_k fun K1 al=>?_
 refine wp_g [true,true] [] [] 11
   [IsNew w 23 [iv a.k,iv a.n],vF]
   [0] (newsCons (fun v w h=>IsNew.old h) newsNil) aa (.nw (.eq (.nil))) ?_ (fun i h=>by cases h) ?_
 exact .o2 (step_allocN (cs:=[iv a.k,iv a.n]) (t:=23) rfl (noG rfl) (fun _ w hn k=>v_box rfl (k.fx 0 hp0) (fun w=>rfl)) (fun q _ hq hb=>⟨q,rfl,hq,hb⟩))<| .t (fun _ w hn k=>⟨_,v_assign rfl rfl,rfl⟩) .nil
 refine aftI aa ak ac fun a2 w3 ad am ae au an=>?_
 obtain⟨q9,h8,af,ab⟩:=an.G 0 1
 have ap:=Nat.le_trans ac.size af
 refine st_nil (al _ _ (wp_seq_k fun av ag=>?_))
 refine wp_g0 (.replicate 9 true) [] 11
   [ve (pv q9),ve (iv a.k),ve (.bool (decide (a.k=3))),ve (.bool (decide (a.k=3))),ve (gq (!(decide (a.k=3))) (pv q9)),ve (gq (!(decide (a.k=3))) (iv a.k)),ve (gq (!(decide (a.k=3))) (.bool (decide (a.k=4)))),ve (.bool ((decide (a.k=3)) || (decide (a.k=4)))),ve (.bool ((decide (a.k=3)) || (decide (a.k=4))))] ad (.eq (.eq (.eq (.eq (.eq (.eq (.eq (.eq (.eq (.nil)))))))))) ?_ ?_
 exact .f (fun k=>k.fx 1 h8)<| .t (fun _ w hn k=>⟨_,v_load rfl (k.eq1 0 3 rfl) (l_one Tryz.isAgg3 ((ab.new_ hn).cell 0)),rfl⟩)<| .t (fun _ w hn k=>⟨_,v_bin rfl (k.eq1 1 4 rfl) rfl (fun _=>rfl) (r_eql rfl),rfl⟩)<| .m (fun k=>k.eq1 2 5 rfl)<| .o1 (sc (G:=(!(decide (a.k=3)))) rfl rfl rfl (fun _ _ k=>g0' (k.eq1 3 6 rfl)) (fun hG _ w hn k=>v_field rfl (k.fx 1 h8) (fun w=>rfl)))<| .o1 (sc (G:=(!(decide (a.k=3)))) rfl rfl rfl (fun _ _ k=>g0' (k.eq1 3 6 rfl)) (fun hG _ w hn k=>v_load rfl (cT hG (k.eq1 4 7 rfl)) (l_one Tryz.isAgg3 ((ab.new_ hn).cell 0))))<| .o1 (sc (G:=(!(decide (a.k=3)))) rfl rfl rfl (fun _ _ k=>g0' (k.eq1 3 6 rfl)) (fun hG _ w hn k=>v_bin rfl (cT hG (k.eq1 5 8 rfl)) rfl (fun _=>rfl) (r_eql rfl)))<| .t (fun _ w hn k=>⟨_,v_or rfl (k.eq1 3 6 rfl) rfl (fun hg=>(cT (nt hg) (k.eq1 6 9 rfl))),rfl⟩)<| .a (fun k=>k.eq1 7 10 rfl) .nil
 refine aftI ad am ae fun aw ax aq ah ai ar aj=>?_
 have ao:=aj.ge 8 2 rfl
 refine st_nil (ag _ _ ?_)
 refine wp_ret (ret_k ah (v:=.bool ((decide (a.k=3)) || (decide (a.k=4)))) (res_t rfl ao _) ?_)
 refine ⟨?_,ai⟩
 show Ending.returned (.bool ((decide (a.k=3)) || (decide (a.k=4))))=Ending.returned (.bool (infB a.k))
 first|rfl|(simp only [infB,bsm] <;> rfl)|(exfalso; omega)
theorem isNought_c (a:Nm) (w:World):Calls Tryz.prog 147 #[nv a] w (IsRet (.bool (noughtB a)) w):=by
 refine enter_abs Tryz.func147 rfl fun a0 ab al hp=>?_
 have ab:a0.tmps.size=16:=ab
 have ac:New w w:=Upd.refl _ _
 have hp0:a0.eval (.tmp 0)=nv a:=hp 0 _ rfl
 refine wp_seq_k fun K1 am=>?_
 refine wp_g [true,true] [] [] 16
   [IsNew w 23 [iv a.k,iv a.n],vF]
   [0] (newsCons (fun v w h=>IsNew.old h) newsNil) ab (.nw (.eq (.nil))) ?_ (fun i h=>by cases h) ?_
 exact .o2 (step_allocN (cs:=[iv a.k,iv a.n]) (t:=23) rfl (noG rfl) (fun _ w hn k=>v_box rfl (k.fx 0 hp0) (fun w=>rfl)) (fun q _ hq hb=>⟨q,rfl,hq,hb⟩))<| .t (fun _ w hn k=>⟨_,v_assign rfl rfl,rfl⟩) .nil
 refine aftI ab al ac fun a2 w3 ad an ae av ao=>?_
 obtain⟨q9,h8,af,aa⟩:=ao.G 0 1
 have aq:=Nat.le_trans ac.size af
 refine st_nil (am _ _ (wp_seq_k fun aw ag=>?_))
 refine wp_g0 (.replicate 14 true) [] 16
   [ve (pv q9),ve (iv a.k),ve (.bool (decide (a.k=1))),ve (.bool (decide (a.k=1))),ve (gq (!(decide (a.k=1))) (pv q9)),ve (gq (!(decide (a.k=1))) (iv a.k)),ve (gq (!(decide (a.k=1))) (.bool (decide (a.k=0)))),ve (gq (!(decide (a.k=1))) (.bool (decide (a.k=0)))),ve (gq ((!(decide (a.k=1))) && (decide (a.k=0))) (.pointer (some ⟨q9,1,none⟩))),ve (gq ((!(decide (a.k=1))) && (decide (a.k=0))) (iv a.n)),ve (gq ((!(decide (a.k=1))) && (decide (a.k=0))) (.bool (decide (a.n=0)))),ve (gq (!(decide (a.k=1))) (.bool ((decide (a.k=0)) && (decide (a.n=0))))),ve (.bool ((decide (a.k=1)) || ((decide (a.k=0)) && (decide (a.n=0))))),ve (.bool ((decide (a.k=1)) || ((decide (a.k=0)) && (decide (a.n=0)))))] ad (.eq (.eq (.eq (.eq (.eq (.eq (.eq (.eq (.eq (.eq (.eq (.eq (.eq (.eq (.nil))))))))))))))) ?_ ?_
 exact .f (fun k=>k.fx 1 h8)<| .t (fun _ w hn k=>⟨_,v_load rfl (k.eq1 0 3 rfl) (l_one Tryz.isAgg3 ((aa.new_ hn).cell 0)),rfl⟩)<| .t (fun _ w hn k=>⟨_,v_bin rfl (k.eq1 1 4 rfl) rfl (fun _=>rfl) (r_eql rfl),rfl⟩)<| .m (fun k=>k.eq1 2 5 rfl)<| .o1 (sc (G:=(!(decide (a.k=1)))) rfl rfl rfl (fun _ _ k=>g0' (k.eq1 3 6 rfl)) (fun hG _ w hn k=>v_field rfl (k.fx 1 h8) (fun w=>rfl)))<| .o1 (sc (G:=(!(decide (a.k=1)))) rfl rfl rfl (fun _ _ k=>g0' (k.eq1 3 6 rfl)) (fun hG _ w hn k=>v_load rfl (cT hG (k.eq1 4 7 rfl)) (l_one Tryz.isAgg3 ((aa.new_ hn).cell 0))))<| .o1 (sc (G:=(!(decide (a.k=1)))) rfl rfl rfl (fun _ _ k=>g0' (k.eq1 3 6 rfl)) (fun hG _ w hn k=>v_bin rfl (cT hG (k.eq1 5 8 rfl)) rfl (fun _=>rfl) (r_eql rfl)))<| .o1 (sc (G:=(!(decide (a.k=1)))) rfl rfl rfl (fun _ _ k=>g0' (k.eq1 3 6 rfl)) (fun hG _ w hn k=>v_move rfl (cT hG (k.eq1 6 9 rfl))))<| .o1 (sc (G:=((!(decide (a.k=1))) && (decide (a.k=0)))) rfl rfl rfl (fun _ _ k=>g1 (k.eq1 7 10 rfl)) (fun hG _ w hn k=>v_field rfl (k.fx 1 h8) (fun w=>rfl)))<| .o1 (sc (G:=((!(decide (a.k=1))) && (decide (a.k=0)))) rfl rfl rfl (fun _ _ k=>g1 (k.eq1 7 10 rfl)) (fun hG _ w hn k=>v_load rfl (cT hG (k.eq1 8 11 rfl)) (l_one Tryz.isAgg3 ((aa.new_ hn).cell 1))))<| .o1 (sc (G:=((!(decide (a.k=1))) && (decide (a.k=0)))) rfl rfl rfl (fun _ _ k=>g1 (k.eq1 7 10 rfl)) (fun hG _ w hn k=>v_bin rfl (cT hG (k.eq1 9 12 rfl)) rfl (fun _=>rfl) (r_eql rfl)))<| .o1 (sc (G:=(!(decide (a.k=1)))) rfl rfl rfl (fun _ _ k=>g0' (k.eq1 3 6 rfl)) (fun hG _ w hn k=>v_and rfl (cT hG (k.eq1 7 10 rfl)) (fun hg=>(cT (aj hG hg) (k.eq1 10 13 rfl))) rfl))<| .t (fun _ w hn k=>⟨_,v_or rfl (k.eq1 3 6 rfl) rfl (fun hg=>(cT (nt hg) (k.eq1 11 14 rfl))),rfl⟩)<| .a (fun k=>k.eq1 12 15 rfl) .nil
 refine aftI ad an ae fun ax ay ar ah ai au ak=>?_
 have ap:=ak.ge 13 2 rfl
 refine st_nil (ag _ _ ?_)
 refine wp_ret (ret_k ah (v:=.bool ((decide (a.k=1)) || ((decide (a.k=0)) && (decide (a.n=0))))) (res_t rfl ap _) ?_)
 refine ⟨?_,ai⟩
 show Ending.returned (.bool ((decide (a.k=1)) || ((decide (a.k=0)) && (decide (a.n=0)))))=Ending.returned (.bool (noughtB a))
 first|rfl|(simp only [noughtB,bsm] <;> rfl)|(exfalso; omega)
theorem below_c (a:Nm) (w:World):Calls Tryz.prog 146 #[nv a] w (IsRet (.bool (belowB a)) w):=by
 refine enter_abs Tryz.func146 rfl fun a0 ab al hp=>?_
 have ab:a0.tmps.size=21:=ab
 have ac:New w w:=Upd.refl _ _
 have hp0:a0.eval (.tmp 0)=nv a:=hp 0 _ rfl
 refine wp_seq_k fun K1 am=>?_
 refine wp_g [true,true] [] [] 21
   [IsNew w 23 [iv a.k,iv a.n],vF]
   [0] (newsCons (fun v w h=>IsNew.old h) newsNil) ab (.nw (.eq (.nil))) ?_ (fun i h=>by cases h) ?_
 exact .o2 (step_allocN (cs:=[iv a.k,iv a.n]) (t:=23) rfl (noG rfl) (fun _ w hn k=>v_box rfl (k.fx 0 hp0) (fun w=>rfl)) (fun q _ hq hb=>⟨q,rfl,hq,hb⟩))<| .t (fun _ w hn k=>⟨_,v_assign rfl rfl,rfl⟩) .nil
 refine aftI ab al ac fun a2 w3 ad an ae av ao=>?_
 obtain⟨q9,h8,af,aa⟩:=ao.G 0 1
 have aq:=Nat.le_trans ac.size af
 refine st_nil (am _ _ (wp_seq_k fun aw ag=>?_))
 refine wp_g0 (.replicate 19 true) [] 21
   [ve (pv q9),ve (iv a.k),ve (.bool (decide (a.k=1))),ve (.bool (decide (a.k=1))),ve (gq (!(decide (a.k=1))) (pv q9)),ve (gq (!(decide (a.k=1))) (iv a.k)),ve (gq (!(decide (a.k=1))) (.bool (decide (a.k=4)))),ve (.bool ((decide (a.k=1)) || (decide (a.k=4)))),ve (.bool ((decide (a.k=1)) || (decide (a.k=4)))),ve (gq (!((decide (a.k=1)) || (decide (a.k=4)))) (pv q9)),ve (gq (!((decide (a.k=1)) || (decide (a.k=4)))) (iv a.k)),ve (gq (!((decide (a.k=1)) || (decide (a.k=4)))) (.bool (decide (a.k=0)))),ve (gq (!((decide (a.k=1)) || (decide (a.k=4)))) (.bool (decide (a.k=0)))),ve (gq ((!((decide (a.k=1)) || (decide (a.k=4)))) && (decide (a.k=0))) (.pointer (some ⟨q9,1,none⟩))),ve (gq ((!((decide (a.k=1)) || (decide (a.k=4)))) && (decide (a.k=0))) (iv a.n)),ve (gq ((!((decide (a.k=1)) || (decide (a.k=4)))) && (decide (a.k=0))) (.bool (decide (a.n < 0)))),ve (gq (!((decide (a.k=1)) || (decide (a.k=4)))) (.bool ((decide (a.k=0)) && (decide (a.n < 0))))),ve (.bool (((decide (a.k=1)) || (decide (a.k=4))) || ((decide (a.k=0)) && (decide (a.n < 0))))),ve (.bool (((decide (a.k=1)) || (decide (a.k=4))) || ((decide (a.k=0)) && (decide (a.n < 0)))))] ad (.eq (.eq (.eq (.eq (.eq (.eq (.eq (.eq (.eq (.eq (.eq (.eq (.eq (.eq (.eq (.eq (.eq (.eq (.eq (.nil)))))))))))))))))))) ?_ ?_
 exact .f (fun k=>k.fx 1 h8)<| .t (fun _ w hn k=>⟨_,v_load rfl (k.eq1 0 3 rfl) (l_one Tryz.isAgg3 ((aa.new_ hn).cell 0)),rfl⟩)<| .t (fun _ w hn k=>⟨_,v_bin rfl (k.eq1 1 4 rfl) rfl (fun _=>rfl) (r_eql rfl),rfl⟩)<| .m (fun k=>k.eq1 2 5 rfl)<| .o1 (sc (G:=(!(decide (a.k=1)))) rfl rfl rfl (fun _ _ k=>g0' (k.eq1 3 6 rfl)) (fun hG _ w hn k=>v_field rfl (k.fx 1 h8) (fun w=>rfl)))<| .o1 (sc (G:=(!(decide (a.k=1)))) rfl rfl rfl (fun _ _ k=>g0' (k.eq1 3 6 rfl)) (fun hG _ w hn k=>v_load rfl (cT hG (k.eq1 4 7 rfl)) (l_one Tryz.isAgg3 ((aa.new_ hn).cell 0))))<| .o1 (sc (G:=(!(decide (a.k=1)))) rfl rfl rfl (fun _ _ k=>g0' (k.eq1 3 6 rfl)) (fun hG _ w hn k=>v_bin rfl (cT hG (k.eq1 5 8 rfl)) rfl (fun _=>rfl) (r_eql rfl)))<| .t (fun _ w hn k=>⟨_,v_or rfl (k.eq1 3 6 rfl) rfl (fun hg=>(cT (nt hg) (k.eq1 6 9 rfl))),rfl⟩)<| .m (fun k=>k.eq1 7 10 rfl)<| .o1 (sc (G:=(!((decide (a.k=1)) || (decide (a.k=4))))) rfl rfl rfl (fun _ _ k=>g0' (k.eq1 8 11 rfl)) (fun hG _ w hn k=>v_field rfl (k.fx 1 h8) (fun w=>rfl)))<| .o1 (sc (G:=(!((decide (a.k=1)) || (decide (a.k=4))))) rfl rfl rfl (fun _ _ k=>g0' (k.eq1 8 11 rfl)) (fun hG _ w hn k=>v_load rfl (cT hG (k.eq1 9 12 rfl)) (l_one Tryz.isAgg3 ((aa.new_ hn).cell 0))))<| .o1 (sc (G:=(!((decide (a.k=1)) || (decide (a.k=4))))) rfl rfl rfl (fun _ _ k=>g0' (k.eq1 8 11 rfl)) (fun hG _ w hn k=>v_bin rfl (cT hG (k.eq1 10 13 rfl)) rfl (fun _=>rfl) (r_eql rfl)))<| .o1 (sc (G:=(!((decide (a.k=1)) || (decide (a.k=4))))) rfl rfl rfl (fun _ _ k=>g0' (k.eq1 8 11 rfl)) (fun hG _ w hn k=>v_move rfl (cT hG (k.eq1 11 14 rfl))))<| .o1 (sc (G:=((!((decide (a.k=1)) || (decide (a.k=4)))) && (decide (a.k=0)))) rfl rfl rfl (fun _ _ k=>g1 (k.eq1 12 15 rfl)) (fun hG _ w hn k=>v_field rfl (k.fx 1 h8) (fun w=>rfl)))<| .o1 (sc (G:=((!((decide (a.k=1)) || (decide (a.k=4)))) && (decide (a.k=0)))) rfl rfl rfl (fun _ _ k=>g1 (k.eq1 12 15 rfl)) (fun hG _ w hn k=>v_load rfl (cT hG (k.eq1 13 16 rfl)) (l_one Tryz.isAgg3 ((aa.new_ hn).cell 1))))<| .o1 (sc (G:=((!((decide (a.k=1)) || (decide (a.k=4)))) && (decide (a.k=0)))) rfl rfl rfl (fun _ _ k=>g1 (k.eq1 12 15 rfl)) (fun hG _ w hn k=>v_bin rfl (cT hG (k.eq1 14 17 rfl)) rfl (fun _=>rfl) (r_lssK rfl)))<| .o1 (sc (G:=(!((decide (a.k=1)) || (decide (a.k=4))))) rfl rfl rfl (fun _ _ k=>g0' (k.eq1 8 11 rfl)) (fun hG _ w hn k=>v_and rfl (cT hG (k.eq1 12 15 rfl)) (fun hg=>(cT (aj hG hg) (k.eq1 15 18 rfl))) rfl))<| .t (fun _ w hn k=>⟨_,v_or rfl (k.eq1 8 11 rfl) rfl (fun hg=>(cT (nt hg) (k.eq1 16 19 rfl))),rfl⟩)<| .a (fun k=>k.eq1 17 20 rfl) .nil
 refine aftI ad an ae fun ax ay ar ah ai au ak=>?_
 have ap:=ak.ge 18 2 rfl
 refine st_nil (ag _ _ ?_)
 refine wp_ret (ret_k ah (v:=.bool (((decide (a.k=1)) || (decide (a.k=4))) || ((decide (a.k=0)) && (decide (a.n < 0))))) (res_t rfl ap _) ?_)
 refine ⟨?_,ai⟩
 show Ending.returned (.bool (((decide (a.k=1)) || (decide (a.k=4))) || ((decide (a.k=0)) && (decide (a.n < 0)))))=Ending.returned (.bool (belowB a))
 first|rfl|(simp only [belowB,bsm] <;> rfl)|(exfalso; omega)
theorem size_c (n:Int) (w:World) (h:-9007199254740991≤n∧n≤9007199254740991):Calls Tryz.prog 149 #[iv n] w (IsRet (.int .u64 (sizeI n)) w):=by
 refine enter_abs Tryz.func149 rfl fun a0 aa ag hp=>?_
 have aa:a0.tmps.size=8:=aa
 have ah:New w w:=Upd.refl _ _
 have hp0:a0.eval (.tmp 0)=iv n:=hp 0 _ rfl
 refine wp_seq_k fun K1 ai=>?_
 refine wp_g0 [true] [] 8
   [ve (.int .u64 0)] aa (.eq (.nil)) ?_ ?_
 exact .t (fun _ w hn k=>⟨_,v_assign rfl rfl,rfl⟩) .nil
 refine aftI aa ag ah fun a2 w3 ab aj ak ap al=>?_
 have h8:=al.fx 0 hp0
 refine st_nil (ai _ _ (wp_seq_k fun aq ac=>?_))
 refine wp_g0 [true,true,true,true,true,true] [] 8
   [ve (iv n),ve (iv n),ve (iv (-n)),ve (iv (max n (-n))),ve (.int .u64 (max n (-n))),ve (.int .u64 (max n (-n)))] ab (.eq (.eq (.eq (.eq (.eq (.eq (.nil))))))) ?_ ?_
 exact .m (fun k=>k.fx 0 h8)<| .m (fun k=>k.fx 0 h8)<| .t (fun _ w hn k=>⟨_,v_neg rfl (k.eq1 1 4 rfl) (by omega),rfl⟩)<| .t (fun _ w hn k=>⟨_,v_max rfl (k.eq1 0 3 rfl) (k.eq1 2 5 rfl),rfl⟩)<| .t (fun _ w hn k=>⟨_,v_conv rfl (k.eq1 3 6 rfl) (run_conv (by kernel_rfl) (by kernel_rfl) (by kernel_rfl) (IntWalk.u64_in _ (by omega))),rfl⟩)<| .a (fun k=>k.eq1 4 7 rfl) .nil
 refine aftI ab aj ak fun ar au an ad ae ao af=>?_
 have am:=af.ge 5 2 rfl
 refine st_nil (ac _ _ ?_)
 refine wp_ret (ret_k ad (v:=.int .u64 (max n (-n))) (res_t rfl am _) ?_)
 refine ⟨?_,ae⟩
 show Ending.returned (.int .u64 (max n (-n)))=Ending.returned (.int .u64 (sizeI n))
 first|rfl|(simp only [bsm] <;> rfl)|(simp []; done)|(exfalso; omega)
theorem ndiv0_c   (w:World):Calls Tryz.prog 78 #[nv (Nm.mk 0 1),nv (Nm.mk 0 2)] w (IsRet (.tuple #[nv (Nm.mk 2 0),.bool false]) w):=by
 refine enter_abs Tryz.func78 rfl fun a0 ap cn hp=>?_
 have ap:a0.tmps.size=77:=ap
 have aq:New w w:=Upd.refl _ _
 have hp0:a0.eval (.tmp 0)=nv (Nm.mk 0 1):=hp 0 _ rfl
 have hp1:a0.eval (.tmp 1)=nv (Nm.mk 0 2):=hp 1 _ rfl
 have co:sizeI (asM (Nm.mk 0 2)).n=2:=by decide +kernel
 have cp:sizeI (asM (Nm.mk 0 1)).n=1:=by decide +kernel
 have c2:-9007199254740991≤(asM (Nm.mk 0 2)).n∧(asM (Nm.mk 0 2)).n≤9007199254740991:=as_bd _
 have c3:-9007199254740991≤(asM (Nm.mk 0 1)).n∧(asM (Nm.mk 0 1)).n≤9007199254740991:=as_bd _
 refine wp_seq_k fun K1 cq=>?_
 refine wp_g [true,true,true,true] [] [] 77
   [IsNew w 23 [iv 0,iv 1],IsNew w 23 [iv 0,iv 2],IsNew w 23 [iv 0,iv 0],vF]
   [0,1,2] (newsCons (fun v w h=>IsNew.old h) (newsCons (fun v w h=>IsNew.old h) (newsCons (fun v w h=>IsNew.old h) newsNil))) ap (.nw (.nw (.nw (.eq (.nil))))) ?_ (fun i h=>by cases h) ?_
 exact .o2 (step_allocN (cs:=[iv 0,iv 1]) (t:=23) rfl (noG rfl) (fun _ w hn k=>v_box rfl (k.fx 0 hp0) (fun w=>rfl)) (fun q _ hq hb=>⟨q,rfl,hq,hb⟩))<| .o2 (step_allocN (cs:=[iv 0,iv 2]) (t:=23) rfl (noG rfl) (fun _ w hn k=>v_box rfl (k.fx 1 hp1) (fun w=>rfl)) (fun q _ hq hb=>⟨q,rfl,hq,hb⟩))<| .o2 (step_allocN (cs:=[iv 0,iv 0]) (t:=23) rfl (noG rfl) (fun _ w hn k=>rfl) (fun q _ hq hb=>⟨q,rfl,hq,hb⟩))<| .t (fun _ w hn k=>⟨_,v_assign rfl rfl,rfl⟩) .nil
 refine aftI ap cn aq fun a2 w3 bB cr bG c4 ag=>?_
 obtain⟨q9,h8,bH,aF⟩:=ag.G 0 2
 obtain⟨aG,ar,bI,aH⟩:=ag.G 1 3
 obtain⟨bC,aI,bJ,bK⟩:=ag.G 2 4
 have hne20:q9 ≠ aG:=ag.ne 0 1 2 3 h8 ar
 have hne21:q9 ≠ bC:=ag.ne 0 2 2 4 h8 aI
 have hne22:aG ≠ bC:=ag.ne 1 2 3 4 ar aI
 have cI:=Nat.le_trans aq.size bH
 have cJ:=Nat.le_trans aq.size bI
 have cK:=Nat.le_trans aq.size bJ
 refine st_nil (cq _ _ (wp_seq_k fun c5 bL=>?_))
 refine wp_g0 [true,true,true,true,false,false] [(4,false),(5,false)] 77
   [ve (nv (Nm.mk 0 1)),ve (nv (asM (Nm.mk 0 1))),ve (nv (Nm.mk 0 2)),ve (nv (asM (Nm.mk 0 2))),vt,vt] bB (.eq (.eq (.eq (.eq (.tt (.tt (.nil))))))) ?_ ?_
 exact .t (fun _ w hn k=>⟨_,v_load rfl (k.fx 2 h8) (l_two Tryz.isAgg23 Tryz.sizeOf23 (aF.new_ hn)),rfl⟩)<| .o1 (ck rfl rfl rfl (fun _ w hn k=>⟨#[nv (Nm.mk 0 1)],args1 (k.eq1 0 7 rfl),fun _=>by kernel_rfl,as_c (Nm.mk 0 1) _ ⟩) fun _=>rfl)<| .t (fun _ w hn k=>⟨_,v_load rfl (k.fx 3 ar) (l_two Tryz.isAgg23 Tryz.sizeOf23 (aH.new_ hn)),rfl⟩)<| .o1 (ck rfl rfl rfl (fun _ w hn k=>⟨#[nv (Nm.mk 0 2)],args1 (k.eq1 2 9 rfl),fun _=>by kernel_rfl,as_c (Nm.mk 0 2) _ ⟩) fun _=>rfl)<| .off<| .off .nil
 refine aftI bB cr bG fun c6 c8 aJ bM bN am ae=>?_
 have aK:=ae.fx 2 h8
 have aL:=ae.fx 3 ar
 have ct:=ae.fx 4 aI
 have cu:=ae.ge 1 8 rfl
 have cv:=ae.ge 3 10 rfl
 have bO:=aF.new_ am
 have bP:=aH.new_ am
 have bQ:=bK.new_ am
 have hbd_Nmmk01:=as_bd (Nm.mk 0 1)
 have hbd_Nmmk02:=as_bd (Nm.mk 0 2)
 obtain⟨c9,-,a9,bR,bS,aM⟩:=s_two (v0:=iv ((asM (Nm.mk 0 1)).k)) (v1:=iv ((asM (Nm.mk 0 1)).n)) Tryz.sizeOf23 rfl rfl rfl bO
 refine st_act rfl rfl fun da bT=>a_store' rfl aK cu a9 (bT _ _ trivial ?_)
 have bU:=aM _ _ _ (fun h=>hne20 h.symm) bP
 have bV:=aM _ _ _ (fun h=>hne21 h.symm) bQ
 have bW:=bN.trans bS (fun _ h b=>by subst b; omega)
 obtain⟨db,-,ba,aN,bX,aO⟩:=s_two (v0:=iv ((asM (Nm.mk 0 2)).k)) (v1:=iv ((asM (Nm.mk 0 2)).n)) Tryz.sizeOf23 rfl rfl rfl bU
 refine st_act rfl rfl fun dc bY=>a_store' rfl aL cv ba (bY _ _ trivial ?_)
 have aP:=aO _ _ _ (hne20) bR
 have bZ:=aO _ _ _ (fun h=>hne22 h.symm) bV
 have b0:=bW.trans bX (fun _ h b=>by subst b; omega)
 refine st_nil (bL _ _ (wp_seq_k fun dd b1=>?_))
 refine wp_g0 [true,true,true,true,true,true] [] 77
   [ve (nv (asM (Nm.mk 0 1))),ve (.bool (belowB (asM (Nm.mk 0 1)))),ve (nv (asM (Nm.mk 0 2))),ve (.bool (belowB (asM (Nm.mk 0 2)))),ve (.bool ((belowB (asM (Nm.mk 0 1))) != (belowB (asM (Nm.mk 0 2))))),ve (.bool ((belowB (asM (Nm.mk 0 1))) != (belowB (asM (Nm.mk 0 2)))))] aJ (.eq (.eq (.eq (.eq (.eq (.eq (.nil))))))) ?_ ?_
 exact .t (fun _ w hn k=>⟨_,v_load rfl (k.fx 2 aK) (l_two Tryz.isAgg23 Tryz.sizeOf23 (aP.new_ hn)),rfl⟩)<| .o1 (ck rfl rfl rfl (fun _ w hn k=>⟨#[nv (asM (Nm.mk 0 1))],args1 (k.eq1 0 11 rfl),fun _=>by kernel_rfl,below_c (asM (Nm.mk 0 1)) _ ⟩) fun _=>rfl)<| .t (fun _ w hn k=>⟨_,v_load rfl (k.fx 3 aL) (l_two Tryz.isAgg23 Tryz.sizeOf23 (aN.new_ hn)),rfl⟩)<| .o1 (ck rfl rfl rfl (fun _ w hn k=>⟨#[nv (asM (Nm.mk 0 2))],args1 (k.eq1 2 13 rfl),fun _=>by kernel_rfl,below_c (asM (Nm.mk 0 2)) _ ⟩) fun _=>rfl)<| .t (fun _ w hn k=>⟨_,v_bin rfl (k.eq1 1 12 rfl) (k.eq1 3 14 rfl) (fun _=>rfl) (r_neqB _ _),rfl⟩)<| .a (fun k=>k.eq1 4 15 rfl) .nil
 refine aftI aJ bM b0 fun de df aQ b2 b3 an ah=>?_
 have au:=ah.fx 2 aK
 have bD:=ah.fx 3 aL
 have cw:=ah.fx 4 ct
 have cx:=ah.ge 5 6 rfl
 have ai:=aP.new_ an
 have aR:=aN.new_ an
 have b4:=bZ.new_ an
 refine st_nil (b1 _ _ (wp_seq_k fun dg cL=>?_))
 refine wp_block ?_
 refine wp_seq_k fun dh b5=>?_
 have aS:(decide ((asM (Nm.mk 0 1)).k=2))=false:=by decide +kernel
 have cC:=oF aS
 have aT:(decide ((asM (Nm.mk 0 2)).k=2))=false:=by decide +kernel
 have cD:=oF aT
 have aU:(infB (asM (Nm.mk 0 1)).k)=false:=by decide +kernel
 have aV:(noughtB (asM (Nm.mk 0 1)))=false:=by decide +kernel
 refine wp_g0 (.replicate 23 true) [] 77
   [ve (nv (asM (Nm.mk 0 1))),vF,vF,ve (nv (asM (Nm.mk 0 2))),vF,vF,vF,ve (nv (asM (Nm.mk 0 1))),vF,vF,vU,vU,vF,vF,vF,ve (nv (asM (Nm.mk 0 1))),vF,vF,vU,vU,vF,vF,vF] aQ (.eq (.eq (.eq (.eq (.eq (.eq (.eq (.eq (.eq (.eq (.eq (.eq (.eq (.eq (.eq (.eq (.eq (.eq (.eq (.eq (.eq (.eq (.eq (.nil)))))))))))))))))))))))) ?_ ?_
 exact .t (fun _ w hn k=>⟨_,v_load rfl (k.fx 2 au) (l_two Tryz.isAgg23 Tryz.sizeOf23 (ai.new_ hn)),rfl⟩)<| .o1 (ck rfl rfl rfl (fun _ w hn k=>⟨#[nv (asM (Nm.mk 0 1))],args1 (k.eq1 0 17 rfl),fun _=>by kernel_rfl,isNaN_c (asM (Nm.mk 0 1)) _ ⟩) fun _=>congrArg Value.bool aS)<| .m (fun k=>k.eq1 1 18 rfl)<| .g (fun k=>k.eq1 2 19 rfl) (fun _ w hn k=>⟨_,v_load rfl (k.fx 3 bD) (l_two Tryz.isAgg23 Tryz.sizeOf23 (aR.new_ hn)),rfl⟩)<| .o1 (cg rfl rfl rfl (fun _ _ k=>k.eq1 2 19 rfl) rfl (fun _ w hn k=>⟨#[nv (asM (Nm.mk 0 2))],args1 (k.eq1 3 20 rfl),fun _=>by kernel_rfl,isNaN_c (asM (Nm.mk 0 2)) _ ⟩) fun _=>congrArg Value.bool aT)<| .t (fun _ w hn k=>⟨_,v_pickF rfl (k.eq1 2 19 rfl) (k.eq1 4 21 rfl),rfl⟩)<| .m (fun k=>k.eq1 5 22 rfl)<| .g (fun k=>k.eq1 6 23 rfl) (fun _ w hn k=>⟨_,v_load rfl (k.fx 2 au) (l_two Tryz.isAgg23 Tryz.sizeOf23 (ai.new_ hn)),rfl⟩)<| .o1 (cg rfl rfl rfl (fun _ _ k=>k.eq1 6 23 rfl) rfl (fun _ w hn k=>⟨#[nv (asM (Nm.mk 0 1))],args1 (k.eq1 7 24 rfl),fun _=>by kernel_rfl,isInf_c (asM (Nm.mk 0 1)) _ ⟩) fun _=>congrArg Value.bool aU)<| .gm (fun k=>k.eq1 6 23 rfl) (fun k=>k.eq1 8 25 rfl)<| .s (fun k=>k.eq1 9 26 rfl)<| .s (fun k=>k.eq1 9 26 rfl)<| .g (fun k=>k.eq1 6 23 rfl) (fun _ w hn k=>⟨_,v_pickF rfl (k.eq1 9 26 rfl) rfl,rfl⟩)<| .t (fun _ w hn k=>⟨_,v_pickF rfl (k.eq1 6 23 rfl) (k.eq1 12 29 rfl),rfl⟩)<| .m (fun k=>k.eq1 13 30 rfl)<| .g (fun k=>k.eq1 14 31 rfl) (fun _ w hn k=>⟨_,v_load rfl (k.fx 2 au) (l_two Tryz.isAgg23 Tryz.sizeOf23 (ai.new_ hn)),rfl⟩)<| .o1 (cg rfl rfl rfl (fun _ _ k=>k.eq1 14 31 rfl) rfl (fun _ w hn k=>⟨#[nv (asM (Nm.mk 0 1))],args1 (k.eq1 15 32 rfl),fun _=>by kernel_rfl,isNought_c (asM (Nm.mk 0 1)) _ ⟩) fun _=>congrArg Value.bool aV)<| .gm (fun k=>k.eq1 14 31 rfl) (fun k=>k.eq1 16 33 rfl)<| .s (fun k=>k.eq1 17 34 rfl)<| .s (fun k=>k.eq1 17 34 rfl)<| .g (fun k=>k.eq1 14 31 rfl) (fun _ w hn k=>⟨_,v_pickF rfl (k.eq1 17 34 rfl) rfl,rfl⟩)<| .t (fun _ w hn k=>⟨_,v_pickF rfl (k.eq1 14 31 rfl) (k.eq1 20 37 rfl),rfl⟩)<| .a (fun k=>k.eq1 21 38 rfl) .nil
 refine aftI aQ b2 b3 fun di dj aW b6 b7 ao af=>?_
 have bE:=af.fx 2 au
 have bF:=af.fx 3 bD
 have cy:=af.fx 4 cw
 have cz:=af.fx 6 cx
 have cA:=af.ge 22 16 rfl
 have aX:=ai.new_ ao
 have aY:=aR.new_ ao
 have b8:=b4.new_ ao
 refine st_nil (b5 _ _ ?_)
 refine wp_cond_false cA ?_
 refine wp_seq_k fun dk b9=>?_
 refine wp_g0 [true,true,true,true,true,true,true] [] 77
   [ve (nv (asM (Nm.mk 0 1))),vF,vF,ve (nv (asM (Nm.mk 0 2))),ve (.bool (noughtB (asM (Nm.mk 0 2)))),ve (.bool (noughtB (asM (Nm.mk 0 2)))),ve (.bool (noughtB (asM (Nm.mk 0 2))))] aW (.eq (.eq (.eq (.eq (.eq (.eq (.eq (.nil)))))))) ?_ ?_
 exact .t (fun _ w hn k=>⟨_,v_load rfl (k.fx 2 bE) (l_two Tryz.isAgg23 Tryz.sizeOf23 (aX.new_ hn)),rfl⟩)<| .o1 (ck rfl rfl rfl (fun _ w hn k=>⟨#[nv (asM (Nm.mk 0 1))],args1 (k.eq1 0 41 rfl),fun _=>by kernel_rfl,isInf_c (asM (Nm.mk 0 1)) _ ⟩) fun _=>congrArg Value.bool aU)<| .m (fun k=>k.eq1 1 42 rfl)<| .g (fun k=>k.eq1 2 43 rfl) (fun _ w hn k=>⟨_,v_load rfl (k.fx 3 bF) (l_two Tryz.isAgg23 Tryz.sizeOf23 (aY.new_ hn)),rfl⟩)<| .o1 (cg rfl rfl rfl (fun _ _ k=>k.eq1 2 43 rfl) rfl (fun _ w hn k=>⟨#[nv (asM (Nm.mk 0 2))],args1 (k.eq1 3 44 rfl),fun _=>by kernel_rfl,isNought_c (asM (Nm.mk 0 2)) _ ⟩) fun _=>rfl)<| .t (fun _ w hn k=>⟨_,v_pickF rfl (k.eq1 2 43 rfl) (k.eq1 4 45 rfl),rfl⟩)<| .a (fun k=>k.eq1 5 46 rfl) .nil
 refine aftI aW b6 b7 fun cM cN av bb bd aj ab=>?_
 have aZ:=ab.fx 2 bE
 have a1:=ab.fx 3 bF
 have ca:=ab.fx 4 cy
 have cb:=ab.fx 6 cz
 have cc:=ab.ge 6 40 rfl
 have aw:=aX.new_ aj
 have ax:=aY.new_ aj
 have be:=b8.new_ aj
 refine st_nil (b9 _ _ ?_)
 have bf:(noughtB (asM (Nm.mk 0 2)))=false:=by decide +kernel
 have bg:=hB cc bf
 refine wp_cond_false bg ?_
 refine wp_seq_k fun cO bh=>?_
 have bi:(infB (asM (Nm.mk 0 2)).k)=false:=by decide +kernel
 refine wp_g0 [true,true,true,true,true,true,true] [] 77
   [ve (nv (asM (Nm.mk 0 2))),vF,vF,ve (nv (asM (Nm.mk 0 1))),vF,vF,vF] av (.eq (.eq (.eq (.eq (.eq (.eq (.eq (.nil)))))))) ?_ ?_
 exact .t (fun _ w hn k=>⟨_,v_load rfl (k.fx 3 a1) (l_two Tryz.isAgg23 Tryz.sizeOf23 (ax.new_ hn)),rfl⟩)<| .o1 (ck rfl rfl rfl (fun _ w hn k=>⟨#[nv (asM (Nm.mk 0 2))],args1 (k.eq1 0 50 rfl),fun _=>by kernel_rfl,isInf_c (asM (Nm.mk 0 2)) _ ⟩) fun _=>congrArg Value.bool bi)<| .m (fun k=>k.eq1 1 51 rfl)<| .g (fun k=>k.eq1 2 52 rfl) (fun _ w hn k=>⟨_,v_load rfl (k.fx 2 aZ) (l_two Tryz.isAgg23 Tryz.sizeOf23 (aw.new_ hn)),rfl⟩)<| .o1 (cg rfl rfl rfl (fun _ _ k=>k.eq1 2 52 rfl) rfl (fun _ w hn k=>⟨#[nv (asM (Nm.mk 0 1))],args1 (k.eq1 3 53 rfl),fun _=>by kernel_rfl,isNought_c (asM (Nm.mk 0 1)) _ ⟩) fun _=>congrArg Value.bool aV)<| .t (fun _ w hn k=>⟨_,v_pickF rfl (k.eq1 2 52 rfl) (k.eq1 4 54 rfl),rfl⟩)<| .a (fun k=>k.eq1 5 55 rfl) .nil
 refine aftI av bb bd fun cP cQ ay bj bk ak ac=>?_
 have a3:=ac.fx 2 aZ
 have a4:=ac.fx 3 a1
 have cd:=ac.fx 4 ca
 have ce:=ac.fx 6 cb
 have cf:=ac.ge 6 49 rfl
 have az:=aw.new_ ak
 have aA:=ax.new_ ak
 have bl:=be.new_ ak
 refine st_nil (bh _ _ ?_)
 refine wp_cond_false cf ?_
 refine wp_seq_k fun cR bm=>?_
 have aB:(decide (((sizeI ((asM (Nm.mk 0 1)).n)).tmod (sizeI ((asM (Nm.mk 0 2)).n)))=0))=false:=by decide +kernel
 have cB:=oF aB
 have co:sizeI (asM (Nm.mk 0 2)).n=2:=by decide +kernel
 have cp:sizeI (asM (Nm.mk 0 1)).n=1:=by decide +kernel
 refine wp_g0 (.replicate 9 true) [] 77
   [ve (.pointer (some ⟨q9,1,none⟩)),ve (iv ((asM (Nm.mk 0 1)).n)),ve (.int .u64 (sizeI ((asM (Nm.mk 0 1)).n))),ve (.pointer (some ⟨aG,1,none⟩)),ve (iv ((asM (Nm.mk 0 2)).n)),ve (.int .u64 (sizeI ((asM (Nm.mk 0 2)).n))),ve (.int .u64 ((sizeI ((asM (Nm.mk 0 1)).n)).tmod (sizeI ((asM (Nm.mk 0 2)).n)))),vT,vT] ay (.eq (.eq (.eq (.eq (.eq (.eq (.eq (.eq (.eq (.nil)))))))))) ?_ ?_
 exact .f (fun k=>k.fx 2 a3)<| .t (fun _ w hn k=>⟨_,v_load rfl (k.eq1 0 59 rfl) (l_one Tryz.isAgg3 ((az.new_ hn).cell 1)),rfl⟩)<| .o1 (ck rfl rfl rfl (fun _ w hn k=>⟨#[iv ((asM (Nm.mk 0 1)).n)],args1 (k.eq1 1 60 rfl),fun _=>by kernel_rfl,size_c ((asM (Nm.mk 0 1)).n) _ (by omega)⟩) fun _=>rfl)<| .f (fun k=>k.fx 3 a4)<| .t (fun _ w hn k=>⟨_,v_load rfl (k.eq1 3 62 rfl) (l_one Tryz.isAgg3 ((aA.new_ hn).cell 1)),rfl⟩)<| .o1 (ck rfl rfl rfl (fun _ w hn k=>⟨#[iv ((asM (Nm.mk 0 2)).n)],args1 (k.eq1 4 63 rfl),fun _=>by kernel_rfl,size_c ((asM (Nm.mk 0 2)).n) _ (by omega)⟩) fun _=>rfl)<| .t (fun _ w hn k=>⟨_,v_bin rfl (k.eq1 2 61 rfl) (k.eq1 5 64 rfl) (fun _=>rfl) (r_remU rfl (by omega)),rfl⟩)<| .t (fun _ w hn k=>⟨_,v_bin rfl (k.eq1 6 65 rfl) rfl (fun _=>rfl) (r_neq aB),rfl⟩)<| .a (fun k=>k.eq1 7 66 rfl) .nil
 refine aftI ay bj bk fun cS cT aC bn bo al ad=>?_
 have cU:=ad.fx 2 a3
 have cV:=ad.fx 3 a4
 have ch:=ad.fx 4 cd
 have cW:=ad.fx 6 ce
 have ci:=ad.ge 8 58 rfl
 have cE:=az.new_ al
 have cF:=aA.new_ al
 have bp:=bl.new_ al
 refine st_nil (bm _ _ ?_)
 refine wp_cond_true ci ?_
 refine wp_seq_k fun cX bq=>?_
 refine wp_g0 [true,false,false] [(1,false),(2,true)] 77
   [ve (nv (Nm.mk 2 0)),vt,vt] aC (.eq (.tt (.tt (.nil)))) ?_ ?_
 exact .o1 (ck rfl rfl rfl (fun _ w hn k=>⟨#[],rfl,fun _=>by kernel_rfl,nan_c  _ ⟩) fun _=>rfl)<| .off<| .off .nil
 refine aftI aC bn bo fun a5 cY aD br bs bt aE=>?_
 have a6:=aE.fx 4 ch
 have a7:=aE.ge 0 67 rfl
 have bu:=bp.new_ bt
 obtain⟨cZ,-,a8,bv,bw,cG⟩:=s_two (v0:=iv 2) (v1:=iv 0) Tryz.sizeOf23 rfl rfl rfl bu
 refine st_act rfl rfl fun c0 bx=>a_store' rfl a6 a7 a8 (bx _ _ trivial ?_)
 have bz:=bs.trans bw (fun _ h b=>by subst b; omega)
 refine st_take rfl rfl (y_assign (v:=.bool false) rfl rfl) rfl ?_
 obtain⟨cj,aa⟩:∃ a',a'=a5.put (some 5) (.bool false):=⟨_,rfl⟩
 have cH:=pz aa aD
 have bA:=pd aa br
 have cl:=pn aa a6 (by decide)
 have c1:=pn aa a7 (by decide)
 have cm:cj.eval (.tmp 5)=.bool false:=by rw [aa]; exact put_same _ _ _ (by rw [aD]; decide)
 show stepsTo _ _ _ _ _ (a5.put (some 5) (.bool false)) _
 rw [← aa]
 refine st_nil (bq _ _ ?_)
 refine wp_ret (ret_k bA (v:=.tuple #[nv (Nm.mk 2 0),.bool false]) (res_ct rfl cl cm (l_two Tryz.isAgg23 Tryz.sizeOf23 bv)) ?_)
 exact⟨rfl,bz⟩
theorem ndivS_c (a b:Nm) (w:World) (ha:a=⟨0,1⟩) (hb:b=⟨0,2⟩):Calls Tryz.prog 78 #[nv a,nv b] w (IsRet (.tuple #[nv (Nm.mk 2 0),.bool false]) w):=by
  subst ha hb
  exact ndiv0_c w
theorem nless_c (a:Nm) (b:Nm) (w:World):Calls Tryz.prog 154 #[nv a,nv b] w (IsRet (.bool (lessM a b)) w):=by
 refine enter_abs Tryz.func154 rfl fun a0 ab aO hp=>?_
 have ab:a0.tmps.size=24:=ab
 have ac:New w w:=Upd.refl _ _
 have hp0:a0.eval (.tmp 0)=nv a:=hp 0 _ rfl
 have hp1:a0.eval (.tmp 1)=nv b:=hp 1 _ rfl
 refine wp_seq_k fun K1 aP=>?_
 refine wp_g [true,true,true] [] [] 24
   [IsNew w 23 [iv a.k,iv a.n],IsNew w 23 [iv b.k,iv b.n],vF]
   [0,1] (newsCons (fun v w h=>IsNew.old h) (newsCons (fun v w h=>IsNew.old h) newsNil)) ab (.nw (.nw (.eq (.nil)))) ?_ (fun i h=>by cases h) ?_
 exact .o2 (step_allocN (cs:=[iv a.k,iv a.n]) (t:=23) rfl (noG rfl) (fun _ w hn k=>v_box rfl (k.fx 0 hp0) (fun w=>rfl)) (fun q _ hq hb=>⟨q,rfl,hq,hb⟩))<| .o2 (step_allocN (cs:=[iv b.k,iv b.n]) (t:=23) rfl (noG rfl) (fun _ w hn k=>v_box rfl (k.fx 1 hp1) (fun w=>rfl)) (fun q _ hq hb=>⟨q,rfl,hq,hb⟩))<| .t (fun _ w hn k=>⟨_,v_assign rfl rfl,rfl⟩) .nil
 refine aftI ab aO ac fun a2 w3 ap aQ aq aZ ad=>?_
 obtain⟨q9,h8,ar,ae⟩:=ad.G 0 2
 obtain⟨aR,af,au,ag⟩:=ad.G 1 3
 have hne16:q9 ≠ aR:=ad.ne 0 1 2 3 h8 af
 have aV:=Nat.le_trans ac.size ar
 have aW:=Nat.le_trans ac.size au
 refine st_nil (aP _ _ (wp_seq_k fun a1 av=>?_))
 refine wp_g0 [true,true,true,true,false,false] [(4,false),(5,false)] 24
   [ve (nv a),ve (nv (asM a)),ve (nv b),ve (nv (asM b)),vt,vt] ap (.eq (.eq (.eq (.eq (.tt (.tt (.nil))))))) ?_ ?_
 exact .t (fun _ w hn k=>⟨_,v_load rfl (k.fx 2 h8) (l_two Tryz.isAgg23 Tryz.sizeOf23 (ae.new_ hn)),rfl⟩)<| .o1 (ck rfl rfl rfl (fun _ w hn k=>⟨#[nv a],args1 (k.eq1 0 5 rfl),fun _=>by kernel_rfl,as_c a _ ⟩) fun _=>rfl)<| .t (fun _ w hn k=>⟨_,v_load rfl (k.fx 3 af) (l_two Tryz.isAgg23 Tryz.sizeOf23 (ag.new_ hn)),rfl⟩)<| .o1 (ck rfl rfl rfl (fun _ w hn k=>⟨#[nv b],args1 (k.eq1 2 7 rfl),fun _=>by kernel_rfl,as_c b _ ⟩) fun _=>rfl)<| .off<| .off .nil
 refine aftI ap aQ aq fun a3 a4 ah aw ax ai aa=>?_
 have aj:=aa.fx 2 h8
 have ak:=aa.fx 3 af
 have aS:=aa.ge 1 6 rfl
 have aT:=aa.ge 3 8 rfl
 have ay:=ae.new_ ai
 have az:=ag.new_ ai
 have hbd_a:=as_bd a
 have hbd_b:=as_bd b
 obtain⟨a5,-,an,aA,aB,aC⟩:=s_two (v0:=iv ((asM a).k)) (v1:=iv ((asM a).n)) Tryz.sizeOf23 rfl rfl rfl ay
 refine st_act rfl rfl fun a6 aD=>a_store' rfl aj aS an (aD _ _ trivial ?_)
 have aE:=aC _ _ _ (fun h=>hne16 h.symm) az
 have aF:=ax.trans aB (fun _ h b=>by subst b; omega)
 obtain⟨a7,-,ao,al,aG,aH⟩:=s_two (v0:=iv ((asM b).k)) (v1:=iv ((asM b).n)) Tryz.sizeOf23 rfl rfl rfl aE
 refine st_act rfl rfl fun a8 aI=>a_store' rfl ak aT ao (aI _ _ trivial ?_)
 have am:=aH _ _ _ (hne16) aA
 have aJ:=aF.trans aG (fun _ h b=>by subst b; omega)
 refine st_nil (av _ _ (wp_seq_k fun a9 aK=>?_))
 refine wp_g0 (.replicate 16 true) [] 24
   [ve (nv (asM a)),ve (.bool (decide ((asM a).k=2))),ve (.bool (!(decide ((asM a).k=2)))),ve (.bool (!(decide ((asM a).k=2)))),ve (gq (!(decide ((asM a).k=2))) (nv (asM b))),ve (gq (!(decide ((asM a).k=2))) (.bool (decide ((asM b).k=2)))),ve (gq (!(decide ((asM a).k=2))) (.bool (!(decide ((asM b).k=2))))),ve (.bool ((!(decide ((asM a).k=2))) && (!(decide ((asM b).k=2))))),ve (.bool ((!(decide ((asM a).k=2))) && (!(decide ((asM b).k=2))))),ve (gq ((!(decide ((asM a).k=2))) && (!(decide ((asM b).k=2)))) (nv (asM a))),ve (gq ((!(decide ((asM a).k=2))) && (!(decide ((asM b).k=2)))) (iv (rankM (asM a)))),ve (gq ((!(decide ((asM a).k=2))) && (!(decide ((asM b).k=2)))) (nv (asM b))),ve (gq ((!(decide ((asM a).k=2))) && (!(decide ((asM b).k=2)))) (iv (rankM (asM b)))),ve (gq ((!(decide ((asM a).k=2))) && (!(decide ((asM b).k=2)))) (.bool (decide ((rankM (asM a)) < (rankM (asM b)))))),ve (.bool (((!(decide ((asM a).k=2))) && (!(decide ((asM b).k=2)))) && (decide ((rankM (asM a)) < (rankM (asM b)))))),ve (.bool (((!(decide ((asM a).k=2))) && (!(decide ((asM b).k=2)))) && (decide ((rankM (asM a)) < (rankM (asM b))))))] ah (.eq (.eq (.eq (.eq (.eq (.eq (.eq (.eq (.eq (.eq (.eq (.eq (.eq (.eq (.eq (.eq (.nil))))))))))))))))) ?_ ?_
 exact .t (fun _ w hn k=>⟨_,v_load rfl (k.fx 2 aj) (l_two Tryz.isAgg23 Tryz.sizeOf23 (am.new_ hn)),rfl⟩)<| .o1 (ck rfl rfl rfl (fun _ w hn k=>⟨#[nv (asM a)],args1 (k.eq1 0 9 rfl),fun _=>by kernel_rfl,isNaN_c (asM a) _ ⟩) fun _=>rfl)<| .t (fun _ w hn k=>⟨_,v_not rfl (k.eq1 1 10 rfl),rfl⟩)<| .m (fun k=>k.eq1 2 11 rfl)<| .o1 (sc (G:=(!(decide ((asM a).k=2)))) rfl rfl rfl (fun _ _ k=>g0 (k.eq1 3 12 rfl)) (fun hG _ w hn k=>v_load rfl (k.fx 3 ak) (l_two Tryz.isAgg23 Tryz.sizeOf23 (al.new_ hn))))<| .o1 (scC (G:=(!(decide ((asM a).k=2)))) rfl rfl rfl (fun _ _ k=>g0 (k.eq1 3 12 rfl)) rfl (fun hG _ w hn k=>⟨#[nv (asM b)],args1 (cT hG (k.eq1 4 13 rfl)),fun _=>by kernel_rfl,isNaN_c (asM b) _ ⟩))<| .o1 (sc (G:=(!(decide ((asM a).k=2)))) rfl rfl rfl (fun _ _ k=>g0 (k.eq1 3 12 rfl)) (fun hG _ w hn k=>v_not rfl (cT hG (k.eq1 5 14 rfl))))<| .t (fun _ w hn k=>⟨_,v_and rfl (k.eq1 3 12 rfl) (fun hg=>(cT hg (k.eq1 6 15 rfl))) rfl,rfl⟩)<| .m (fun k=>k.eq1 7 16 rfl)<| .o1 (sc (G:=((!(decide ((asM a).k=2))) && (!(decide ((asM b).k=2))))) rfl rfl rfl (fun _ _ k=>g0 (k.eq1 8 17 rfl)) (fun hG _ w hn k=>v_load rfl (k.fx 2 aj) (l_two Tryz.isAgg23 Tryz.sizeOf23 (am.new_ hn))))<| .o1 (scC (G:=((!(decide ((asM a).k=2))) && (!(decide ((asM b).k=2))))) rfl rfl rfl (fun _ _ k=>g0 (k.eq1 8 17 rfl)) rfl (fun hG _ w hn k=>⟨#[nv (asM a)],args1 (cT hG (k.eq1 9 18 rfl)),fun _=>by kernel_rfl,rank_c (asM a) _ ⟩))<| .o1 (sc (G:=((!(decide ((asM a).k=2))) && (!(decide ((asM b).k=2))))) rfl rfl rfl (fun _ _ k=>g0 (k.eq1 8 17 rfl)) (fun hG _ w hn k=>v_load rfl (k.fx 3 ak) (l_two Tryz.isAgg23 Tryz.sizeOf23 (al.new_ hn))))<| .o1 (scC (G:=((!(decide ((asM a).k=2))) && (!(decide ((asM b).k=2))))) rfl rfl rfl (fun _ _ k=>g0 (k.eq1 8 17 rfl)) rfl (fun hG _ w hn k=>⟨#[nv (asM b)],args1 (cT hG (k.eq1 11 20 rfl)),fun _=>by kernel_rfl,rank_c (asM b) _ ⟩))<| .o1 (sc (G:=((!(decide ((asM a).k=2))) && (!(decide ((asM b).k=2))))) rfl rfl rfl (fun _ _ k=>g0 (k.eq1 8 17 rfl)) (fun hG _ w hn k=>v_bin rfl (cT hG (k.eq1 10 19 rfl)) (cT hG (k.eq1 12 21 rfl)) (fun _=>rfl) (r_lssK rfl)))<| .t (fun _ w hn k=>⟨_,v_and rfl (k.eq1 8 17 rfl) (fun hg=>(cT hg (k.eq1 13 22 rfl))) rfl,rfl⟩)<| .a (fun k=>k.eq1 14 23 rfl) .nil
 refine aftI ah aw aJ fun ba bb aX aL aM aY aN=>?_
 have aU:=aN.ge 15 4 rfl
 refine st_nil (aK _ _ ?_)
 refine wp_ret (ret_k aL (v:=.bool (((!(decide ((asM a).k=2))) && (!(decide ((asM b).k=2)))) && (decide ((rankM (asM a)) < (rankM (asM b)))))) (res_t rfl aU _) ?_)
 refine ⟨?_,aM⟩
 show Ending.returned (.bool (((!(decide ((asM a).k=2))) && (!(decide ((asM b).k=2)))) && (decide ((rankM (asM a)) < (rankM (asM b))))))=Ending.returned (.bool (lessM a b))
 first|rfl|(simp only [lessM,lessA,bsm] <;> rfl)|(exfalso; omega)
def numberedV (a:Nm) (b:Bool):Int × Nm × Int:=if b then (3,a,0) else (0,⟨0,0⟩,3)
theorem VOk.numeric {v:Vl} (h:VOk v):VOk (numericV v).1:=by
  have h1:=number_may (cleanV v)
  unfold numericV
  split
  · exact⟨h.clean.limbs,U16s.nil,h.clean.mlen,Nat.zero_le _,(by decide:(-9223372036854775808:Int)≤0),(by decide:(0:Int)≤9223372036854775807),(by decide:(-9223372036854775808:Int)≤0),(by decide:(0:Int)≤9223372036854775807)⟩
  · split
    · rename_i h2
      have h3:=h1 (of_decide_eq_true h2)
      have h4:=as_bd (numberV (cleanV v)).1
      unfold asM at h4
      rw [if_pos h3] at h4
      exact⟨Limbs.nil,U16s.nil,Nat.zero_le _,Nat.zero_le _,(show -9223372036854775808≤(numberV (cleanV v)).1.n by omega),(show (numberV (cleanV v)).1.n≤9223372036854775807 by omega),(by decide:(-9223372036854775808:Int)≤0),(by decide:(0:Int)≤9223372036854775807)⟩
    · exact VOk.z
theorem VOk.numerics1 {v u:Vl} (h:VOk v) (h2:VOk u):VOk (numericsV v u).1:=by
  unfold numericsV
  repeat' split
  all_goals first|exact h.numeric|exact VOk.z
theorem VOk.numerics2 {v u:Vl} (h:VOk v) (h2:VOk u):VOk (numericsV v u).2.1:=by
  unfold numericsV
  repeat' split
  all_goals first|exact h2.numeric|exact VOk.z
theorem numbered_c (a:Nm) (b:Bool) (w:World):Calls Tryz.prog 65 #[nv a,.bool b] w (IsRet (.tuple #[vv (Vl.mk (numberedV a b).1 (numberedV a b).2.1.k (numberedV a b).2.1.n false [] [] 0) none 0 none 0,iv ((numberedV a b).2.2)]) w):=by
 refine enter_abs Tryz.func65 rfl fun a0 af bf hp=>?_
 have af:a0.tmps.size=11:=af
 have ah:New w w:=Upd.refl _ _
 have hp0:a0.eval (.tmp 0)=nv a:=hp 0 _ rfl
 have hp1:a0.eval (.tmp 1)=.bool b:=hp 1 _ rfl
 refine wp_seq_k fun K1 bg=>?_
 refine wp_g [true,true,true] [] [] 11
   [IsNew w 23 [iv a.k,iv a.n],IsNew w 29 z7,ve (iv 0)]
   [0,1] (newsCons (fun v w h=>IsNew.old h) (newsCons (fun v w h=>IsNew.old h) newsNil)) af (.nw (.nw (.eq (.nil)))) ?_ (fun i h=>by cases h) ?_
 exact .o2 (step_allocN (cs:=[iv a.k,iv a.n]) (t:=23) rfl (noG rfl) (fun _ w hn k=>v_box rfl (k.fx 0 hp0) (fun w=>rfl)) (fun q _ hq hb=>⟨q,rfl,hq,hb⟩))<| .o2 (step_allocN (cs:=z7) (t:=29) rfl (noG rfl) (fun _ w hn k=>rfl) (fun q _ hq hb=>⟨q,rfl,hq,hb⟩))<| .t (fun _ w hn k=>⟨_,v_assign rfl rfl,rfl⟩) .nil
 refine aftI af bf ah fun a2 w3 ax bh aI bz ag=>?_
 have h8:=ag.fx 1 hp1
 obtain⟨bi,h9,aJ,aK⟩:=ag.G 0 2
 obtain⟨ai,ay,aL,aM⟩:=ag.G 1 4
 have hne17:bi ≠ ai:=ag.ne 0 1 2 4 h9 ay
 have bs:=Nat.le_trans ah.size aJ
 have bt:=Nat.le_trans ah.size aL
 refine st_nil (bg _ _ (wp_seq_k fun bA aN=>?_))
 refine wp_seq_k fun bB aO=>?_
 refine wp_g0 [true,true] [] 11
   [ve (.bool b),ve (.bool (!b))] ax (.eq (.eq (.nil))) ?_ ?_
 exact .m (fun k=>k.fx 1 h8)<| .t (fun _ w hn k=>⟨_,v_not rfl (k.eq1 0 6 rfl),rfl⟩) .nil
 refine aftI ax bh aI fun az bC ad aj ak al ae=>?_
 have bj:=ae.fx 2 h9
 have aA:=ae.fx 4 ay
 have aB:=ae.ge 1 7 rfl
 have aP:=aK.new_ al
 have am:=aM.new_ al
 refine st_nil (aO _ _ ?_)
 rcases bc (b) with ac|ac
 have aQ:az.eval (.tmp 7)=.bool false:=aB.trans (congrArg Value.bool (by rw [ac]; rfl))
 refine wp_cond_false aQ ?_
 refine wp_skip ?_
 refine aN _ _ ?_
 refine wp_seq_k fun bD aR=>?_
 refine wp_g0 [true,true,false,false] [(2,false),(3,true)] 11
   [ve (nv a),ve (vv (Vl.mk 3 a.k a.n false [] [] 0) none 0 none 0),vt,vt] ad (.eq (.eq (.tt (.tt (.nil))))) ?_ ?_
 exact .t (fun _ w hn k=>⟨_,v_load rfl (k.fx 2 bj) (l_two Tryz.isAgg23 Tryz.sizeOf23 (aP.new_ hn)),rfl⟩)<| .o1 (ck rfl rfl rfl (fun _ w hn k=>⟨#[nv a],args1 (k.eq1 0 9 rfl),fun _=>by kernel_rfl,cnum_c a _ ⟩) fun _=>rfl)<| .off<| .off .nil
 refine aftI ad aj ak fun aC bE an aS aT aU ao=>?_
 have aD:=ao.fx 4 aA
 have aE:=ao.ge 1 10 rfl
 have aV:=am.new_ aU
 obtain⟨bk,ar,au,aW,bu⟩:=s_many (P:=Tryz.prog) (t:=29) (i:=0) [iv 3,iv a.k,iv a.n,.bool false,sv none ([]) 0,sv none ([]) 0,iv 0] Tryz.sizeOf29 rfl rfl rfl aV lb
 have aX:Blk bk ai 29 [iv 3,iv a.k,iv a.n,.bool false,sv none ([]) 0,sv none ([]) 0,iv 0]:=au
 refine st_act rfl rfl fun bF aY=>a_store' rfl aD aE ar (aY _ _ trivial ?_)
 have aZ:=aT.trans aW (fun _ h b=>by subst b; omega)
 refine st_take rfl rfl (y_assign (v:=iv 0) rfl rfl) rfl ?_
 obtain⟨bl,aa⟩:∃ a',a'=aC.put (some 5) (iv 0):=⟨_,rfl⟩
 have bv:=pz aa an
 have a1:=pd aa aS
 have bm:=pn aa aD (by decide)
 have bG:=pn aa aE (by decide)
 have bn:bl.eval (.tmp 5)=iv 0:=by rw [aa]; exact put_same _ _ _ (by rw [an]; decide)
 show stepsTo _ _ _ _ _ (aC.put (some 5) (iv 0)) _
 rw [← aa]
 refine st_nil (aR _ _ ?_)
 refine wp_ret (ret_k a1 (v:=.tuple #[vv (Vl.mk 3 a.k a.n false [] [] 0) none 0 none 0,iv 0]) (res_ct rfl bm bn (l_agg Tryz.isAgg29 Tryz.sizeOf29 aX rfl)) ?_)
 refine ⟨?_,aZ⟩
 show Ending.returned (.tuple #[vv (Vl.mk 3 a.k a.n false [] [] 0) none 0 none 0,iv 0])=Ending.returned (.tuple #[vv (Vl.mk (numberedV a b).1 (numberedV a b).2.1.k (numberedV a b).2.1.n false [] [] 0) none 0 none 0,iv ((numberedV a b).2.2)])
 first|rfl|(simp only [numberedV,ac,bsm] <;> rfl)|(exfalso; omega)
 have a3:az.eval (.tmp 7)=.bool true:=aB.trans (congrArg Value.bool (by rw [ac]; rfl))
 refine wp_cond_true a3 ?_
 refine wp_seq_k fun bH a4=>?_
 refine wp_g0 [true,false,false] [(1,false),(2,true)] 11
   [ve (vv (Vl.mk 0 0 0 false [] [] 0) none 0 none 0),vt,vt] ad (.eq (.tt (.tt (.nil)))) ?_ ?_
 exact .t (fun _ w hn k=>⟨_,v_build (ps:=[]) rfl parts0 (by kernel_rfl),rfl⟩)<| .off<| .off .nil
 refine aftI ad aj ak fun aF bI ap a5 a6 a7 aq=>?_
 have aG:=aq.fx 4 aA
 have aH:=aq.ge 0 8 rfl
 have a8:=am.new_ a7
 obtain⟨bo,av,aw,a9,bw⟩:=s_many (P:=Tryz.prog) (t:=29) (i:=0) z7 Tryz.sizeOf29 rfl rfl rfl a8 lb
 have ba:Blk bo ai 29 z7:=aw
 refine st_act rfl rfl fun bJ bb=>a_store' rfl aG aH av (bb _ _ trivial ?_)
 have bd:=a6.trans a9 (fun _ h b=>by subst b; omega)
 refine st_take rfl rfl (y_assign (v:=iv 3) rfl rfl) rfl ?_
 obtain⟨bp,ab⟩:∃ a',a'=aF.put (some 5) (iv 3):=⟨_,rfl⟩
 have bx:=pz ab ap
 have be:=pd ab a5
 have bq:=pn ab aG (by decide)
 have bK:=pn ab aH (by decide)
 have br:bp.eval (.tmp 5)=iv 3:=by rw [ab]; exact put_same _ _ _ (by rw [ap]; decide)
 show stepsTo _ _ _ _ _ (aF.put (some 5) (iv 3)) _
 rw [← ab]
 refine st_nil (a4 _ _ ?_)
 refine wp_ret (ret_k be (v:=.tuple #[vv (Vl.mk 0 0 0 false [] [] 0) none 0 none 0,iv 3]) (res_ct rfl bq br (l_agg Tryz.isAgg29 Tryz.sizeOf29 ba rfl)) ?_)
 refine ⟨?_,bd⟩
 show Ending.returned (.tuple #[vv (Vl.mk 0 0 0 false [] [] 0) none 0 none 0,iv 3])=Ending.returned (.tuple #[vv (Vl.mk (numberedV a b).1 (numberedV a b).2.1.k (numberedV a b).2.1.n false [] [] 0) none 0 none 0,iv ((numberedV a b).2.2)])
 first|rfl|(simp only [numberedV,ac,bsm] <;> rfl)|(exfalso; omega)
def numerics_c_P (v:Vl) (Av:Option Addr) (cv:Nat) (Bv:Option Addr) (dv:Nat) (u:Vl) (Au:Option Addr) (cu:Nat) (Bu:Option Addr) (du:Nat) (w:World) (en:Ending) (w':World):Prop:=∃ (Ar0:Option Addr) (cr0:Nat) (Ar1:Option Addr) (cr1:Nat) (Ar2:Option Addr) (cr2:Nat) (Ar3:Option Addr) (cr3:Nat),en=.returned (.tuple #[vv (numericsV v u).1 Ar0 cr0 Ar1 cr1,vv (numericsV v u).2.1 Ar2 cr2 Ar3 cr3,iv ((numericsV v u).2.2)])∧SRow w' .u32 Ar0 ((numericsV v u).1.mag) cr0∧SRow w' .u16 Ar1 ((numericsV v u).1.s) cr1∧SRow w' .u32 Ar2 ((numericsV v u).2.1.mag) cr2∧SRow w' .u16 Ar3 ((numericsV v u).2.1.s) cr3∧New w w'
theorem numerics_c (v:Vl) (Av:Option Addr) (cv:Nat) (Bv:Option Addr) (dv:Nat) (u:Vl) (Au:Option Addr) (cu:Nat) (Bu:Option Addr) (du:Nat) (w:World) (hmv:SRow w .u32 Av v.mag cv) (hsv:SRow w .u16 Bv v.s dv) (hmu:SRow w .u32 Au u.mag cu) (hsu:SRow w .u16 Bu u.s du) (hvv:VOk v) (hvu:VOk u):Calls Tryz.prog 74 #[vv v Av cv Bv dv,vv u Au cu Bu du] w (numerics_c_P v Av cv Bv dv u Au cu Bu du w):=by
 refine enter_abs Tryz.func74 rfl fun a0 bM g0 hp=>?_
 have bM:a0.tmps.size=41:=bM
 have bH:New w w:=Upd.refl _ _
 have hp0:a0.eval (.tmp 0)=vv v Av cv Bv dv:=hp 0 _ rfl
 have hp1:a0.eval (.tmp 1)=vv u Au cu Bu du:=hp 1 _ rfl
 refine wp_seq_k fun K1 g1=>?_
 refine wp_g [true,true,true,true,true] [] [] 41
   [IsNew w 29 (c7 v Av cv Bv dv),IsNew w 29 (c7 u Au cu Bu du),IsNew w 29 z7,IsNew w 29 z7,ve (iv 0)]
   [0,1,2,3] (newsCons (fun v w h=>IsNew.old h) (newsCons (fun v w h=>IsNew.old h) (newsCons (fun v w h=>IsNew.old h) (newsCons (fun v w h=>IsNew.old h) newsNil)))) bM (.nw (.nw (.nw (.nw (.eq (.nil)))))) ?_ (fun i h=>by cases h) ?_
 exact .o2 (step_allocN (cs:=(c7 v Av cv Bv dv)) (t:=29) rfl (noG rfl) (fun _ w hn k=>v_box rfl (k.fx 0 hp0) (fun w=>rfl)) (fun q _ hq hb=>⟨q,rfl,hq,hb⟩))<| .o2 (step_allocN (cs:=(c7 u Au cu Bu du)) (t:=29) rfl (noG rfl) (fun _ w hn k=>v_box rfl (k.fx 1 hp1) (fun w=>rfl)) (fun q _ hq hb=>⟨q,rfl,hq,hb⟩))<| .o2 (step_allocN (cs:=z7) (t:=29) rfl (noG rfl) (fun _ w hn k=>rfl) (fun q _ hq hb=>⟨q,rfl,hq,hb⟩))<| .o2 (step_allocN (cs:=z7) (t:=29) rfl (noG rfl) (fun _ w hn k=>rfl) (fun q _ hq hb=>⟨q,rfl,hq,hb⟩))<| .t (fun _ w hn k=>⟨_,v_assign rfl rfl,rfl⟩) .nil
 refine aftI bM g0 bH fun a2 w3 fH g2 bv jc aS=>?_
 obtain⟨q9,h8,fO,fP⟩:=aS.G 0 2
 obtain⟨cy,cz,fQ,cA⟩:=aS.G 1 3
 obtain⟨aT,bN,fR,cB⟩:=aS.G 2 4
 obtain⟨aU,bO,fS,cC⟩:=aS.G 3 5
 have hne24:q9 ≠ aT:=aS.ne 0 2 2 4 h8 bN
 have hne25:q9 ≠ aU:=aS.ne 0 3 2 5 h8 bO
 have hne26:cy ≠ aT:=aS.ne 1 2 3 4 cz bN
 have hne27:cy ≠ aU:=aS.ne 1 3 3 5 cz bO
 have hne28:aT ≠ aU:=aS.ne 2 3 4 5 bN bO
 have h9:=Nat.le_trans bH.size fO
 have ia:=Nat.le_trans bH.size fQ
 have ib:=Nat.le_trans bH.size fR
 have ic:=Nat.le_trans bH.size fS
 refine st_nil (g1 _ _ (wp_seq_k fun jd fT=>?_))
 refine wp_gS (fun W=>True) (fun W W' hn h=>trivial) trivial [true,true,true,true,true,true,false,false] [4] [(6,false),(7,true)] 41
   [ve (vv v Av cv Bv dv),(TP (numericV v).1 ((numericV v).2)),(TP (numericV v).1 ((numericV v).2)),(fun (v_:Value) (W:World)=>∃ (bi:Option Addr) (bj:Nat) (bk:Option Addr) (bl:Nat),v_=vv (numericV v).1 bi bj bk bl∧SRow W .u32 bi ((numericV v).1.mag) bj∧SRow W .u16 bk ((numericV v).1.s) bl),ve (iv ((numericV v).2)),IsNew w3 29 z7,vt,vt]
   [5] (newsCons (fun v w h=>IsNew.old h) newsNil) fH (.eq (.cons (fun _ _ _ n ⟨_,_,_,_,e,h,i⟩=>⟨_,_,_,_,e,h.new_ n,i.new_ n⟩) (.cons (fun _ _ _ n ⟨_,_,_,_,e,h,i⟩=>⟨_,_,_,_,e,h.new_ n,i.new_ n⟩) (.cons (fun _ _ _ n ⟨_,_,_,_,e,h,i⟩=>⟨_,_,_,_,e,h.new_ n,i.new_ n⟩) (.eq (.nw (.tt (.tt (.nil))))))))) ?_ ?_ ?_
 refine .t (fun _ w hn k=>⟨_,v_load rfl (k.fx 2 h8) (l_agg Tryz.isAgg29 Tryz.sizeOf29 (fP.new_ hn) rfl),rfl⟩) ?_
 refine .o1 (tkC rfl (noG rfl) rfl fun _ w hn k=>(by
       refine ⟨#[vv v Av cv Bv dv],_,args1 (k.eq1 0 11 rfl),fun w=>by kernel_rfl,cnumeric_c v _ _ _ _ _ (hmv.new_ (bv.transNew hn)) (hsv.new_ (bv.transNew hn)) hvv,?_⟩
       rintro e w' ⟨A1,c2,A3,c4,rfl,hmo0,hmo1,hm⟩
       exact⟨_,rfl,hm,⟨A1,c2,A3,c4,rfl,hmo0,hmo1⟩⟩)) ?_
 refine .o1 (tk rfl rfl fun _ w hn k=>(by
       obtain⟨A9,g3,g4,g5,g6,fU,fV⟩:(TP (numericV v).1 ((numericV v).2)) _ _:=k.dep 1 12 (by kernel_rfl) (by kernel_rfl)
       exact⟨_,v_move rfl g6,⟨A9,g3,g4,g5,rfl,fU,fV⟩⟩)) ?_
 refine .o1 (tk rfl rfl fun _ w hn k=>(by
       obtain⟨g7,g8,g9,ha,hc,fW,fX⟩:(TP (numericV v).1 ((numericV v).2)) _ _:=k.dep 2 10 (by kernel_rfl) (by kernel_rfl)
       exact⟨_,v_extract rfl hc rfl,⟨g7,g8,g9,ha,rfl,fW,fX⟩⟩)) ?_
 refine .o3 ?_
 exact .o2 (step_allocN (cs:=z7) (t:=29) rfl (noG rfl) (fun _ w hn k=>rfl) (fun q _ hq hb=>⟨q,rfl,hq,hb⟩))<| .off<| .off .nil
 intro i h
 simp only [List.contains_eq_mem,List.mem_cons,List.not_mem_nil,or_false,decide_eq_true_eq] at h
 subst h
 exact eager_takeG rfl (noG rfl) fun _ w hn k=>(by
     obtain⟨je,jf,jg,jh,hd,id,ie⟩:(TP (numericV v).1 ((numericV v).2)) _ _:=k.dep 2 10 (by kernel_rfl) (by kernel_rfl)
     exact⟨_,fun w hS=>v_extract rfl hd rfl,rfl⟩)
 intro cD ji _ bw aQ
 obtain⟨cE,fY,fZ⟩:=aft aQ fH g2 bv bw
 have hf:=aQ.fx 3 cz
 have hg:=aQ.fx 4 bN
 have hh:=aQ.fx 5 bO
 obtain⟨ax,au,aL,av,bP,f0,f1⟩:=aQ.G 3 13
 have bP:cD.eval (.tmp 13)=vv (numericV v).1 ax au aL av:=bP
 have fI:=aQ.ge 4 14 rfl
 obtain⟨bm,fJ,bx,bI⟩:=aQ.G 5 7
 have f2:=cA.new_ bw
 have f3:=cB.new_ bw
 have f4:=cC.new_ bw
 have hne59:cy ≠ bm:=by have h1:=cA.lt; have h2:=bx; omega
 have hne60:aT ≠ bm:=by have h1:=cB.lt; have h2:=bx; omega
 have hne61:aU ≠ bm:=by have h1:=cC.lt; have h2:=bx; omega
 have ig:=Nat.le_trans bv.size bx
 obtain⟨hi,dL,dM,bJ,bK⟩:=s_many (P:=Tryz.prog) (t:=29) (i:=0) (c7 (numericV v).1 ax au aL av) Tryz.sizeOf29 rfl rfl rfl bI lb
 have cF:Blk hi bm 29 (c7 (numericV v).1 ax au aL av):=dM
 refine st_act rfl rfl fun jj f5=>a_store' rfl fJ bP dL (f5 _ _ trivial ?_)
 have cG:=f0.fr bI bJ
 have cH:=f1.fr bI bJ
 have cI:=bK _ _ _ (hne59) f2
 have cJ:=bK _ _ _ (hne60) f3
 have cK:=bK _ _ _ (hne61) f4
 have cL:=fZ.trans bJ (fun _ h b=>by subst b; omega)
 refine st_take rfl rfl (y_assign (v:=iv ((numericV v).2)) rfl fI) rfl ?_
 obtain⟨hj,aw⟩:∃ a',a'=cD.put (some 8) (iv ((numericV v).2)):=⟨_,rfl⟩
 have bz:=pz aw cE
 have cM:=pd aw fY
 have fK:=pn aw hf (by decide)
 have fL:=pn aw hg (by decide)
 have fM:=pn aw hh (by decide)
 have jk:=pn aw bP (by decide)
 have jl:=pn aw fI (by decide)
 have fN:=pn aw fJ (by decide)
 have bQ:hj.eval (.tmp 8)=iv ((numericV v).2):=by rw [aw]; exact put_same _ _ _ (by rw [cE]; decide)
 show stepsTo _ _ _ _ _ (cD.put (some 8) (iv ((numericV v).2))) _
 rw [← aw]
 refine st_nil (fT _ _ (wp_seq_k fun jm f6=>?_))
 refine wp_seq_k fun jn cN=>?_
 rcases bc (decide (((numericV v).2)=0)) with ab|ab
 have dN:=oT ab
 refine wp_g0 [true,true] [] 41
   [ve (iv ((numericV v).2)),vF] bz (.eq (.eq (.nil))) ?_ ?_
 exact .m (fun k=>k.fx 8 bQ)<| .t (fun _ w hn k=>⟨_,v_bin rfl (k.eq1 0 15 rfl) rfl (fun _=>rfl) (r_neq ab),rfl⟩) .nil
 refine aftI bz cM cL fun jo hl cO f7 ba a8 a9=>?_
 have ho:=a9.fx 3 fK
 have hr:=a9.fx 4 fL
 have hs:=a9.fx 5 fM
 have f8:=a9.fx 7 fN
 have f9:=a9.fx 8 bQ
 have ga:=a9.ge 1 16 rfl
 have dO:=cI.new_ a8
 have bR:=cJ.new_ a8
 have bS:=cK.new_ a8
 have bT:=cF.new_ a8
 have dP:=cG.new_ a8
 have dQ:=cH.new_ a8
 refine st_nil (cN _ _ ?_)
 refine wp_cond_false ga ?_
 refine wp_skip ?_
 refine f6 _ _ ?_
 refine wp_seq_k fun ih dR=>?_
 refine wp_gS (fun W=>True) (fun W W' hn h=>trivial) trivial [true,true,true,true,true,true,false,false] [4] [(6,false),(7,true)] 41
   [ve (vv u Au cu Bu du),(TP (numericV u).1 ((numericV u).2)),(TP (numericV u).1 ((numericV u).2)),(fun (v_:Value) (W:World)=>∃ (br:Option Addr) (bs:Nat) (bt:Option Addr) (bu:Nat),v_=vv (numericV u).1 br bs bt bu∧SRow W .u32 br ((numericV u).1.mag) bs∧SRow W .u16 bt ((numericV u).1.s) bu),ve (iv ((numericV u).2)),IsNew hl 29 z7,vt,vt]
   [5] (newsCons (fun v w h=>IsNew.old h) newsNil) cO (.eq (.cons (fun _ _ _ n ⟨_,_,_,_,e,h,i⟩=>⟨_,_,_,_,e,h.new_ n,i.new_ n⟩) (.cons (fun _ _ _ n ⟨_,_,_,_,e,h,i⟩=>⟨_,_,_,_,e,h.new_ n,i.new_ n⟩) (.cons (fun _ _ _ n ⟨_,_,_,_,e,h,i⟩=>⟨_,_,_,_,e,h.new_ n,i.new_ n⟩) (.eq (.nw (.tt (.tt (.nil))))))))) ?_ ?_ ?_
 refine .t (fun _ w hn k=>⟨_,v_load rfl (k.fx 3 ho) (l_agg Tryz.isAgg29 Tryz.sizeOf29 (dO.new_ hn) rfl),rfl⟩) ?_
 refine .o1 (tkC rfl (noG rfl) rfl fun _ w hn k=>(by
       refine ⟨#[vv u Au cu Bu du],_,args1 (k.eq1 0 21 rfl),fun w=>by kernel_rfl,cnumeric_c u _ _ _ _ _ (hmu.new_ (ba.transNew hn)) (hsu.new_ (ba.transNew hn)) hvu,?_⟩
       rintro e w' ⟨ax,ht,hu,hv,rfl,hmo0,hmo1,hm⟩
       exact⟨_,rfl,hm,⟨ax,ht,hu,hv,rfl,hmo0,hmo1⟩⟩)) ?_
 refine .o1 (tk rfl rfl fun _ w hn k=>(by
       obtain⟨hw,hx,hy,hz,hA,gb,gc⟩:(TP (numericV u).1 ((numericV u).2)) _ _:=k.dep 1 22 (by kernel_rfl) (by kernel_rfl)
       exact⟨_,v_move rfl hA,⟨hw,hx,hy,hz,rfl,gb,gc⟩⟩)) ?_
 refine .o1 (tk rfl rfl fun _ w hn k=>(by
       obtain⟨hC,hD,hE,hF,hG,gd,gf⟩:(TP (numericV u).1 ((numericV u).2)) _ _:=k.dep 2 20 (by kernel_rfl) (by kernel_rfl)
       exact⟨_,v_extract rfl hG rfl,⟨hC,hD,hE,hF,rfl,gd,gf⟩⟩)) ?_
 refine .o3 ?_
 exact .o2 (step_allocN (cs:=z7) (t:=29) rfl (noG rfl) (fun _ w hn k=>rfl) (fun q _ hq hb=>⟨q,rfl,hq,hb⟩))<| .off<| .off .nil
 intro i h
 simp only [List.contains_eq_mem,List.mem_cons,List.not_mem_nil,or_false,decide_eq_true_eq] at h
 subst h
 exact eager_takeG rfl (noG rfl) fun _ w hn k=>(by
     obtain⟨jp,jq,jr,js,hH,ii,ij⟩:(TP (numericV u).1 ((numericV u).2)) _ _:=k.dep 2 20 (by kernel_rfl) (by kernel_rfl)
     exact⟨_,fun w hS=>v_extract rfl hH rfl,rfl⟩)
 intro bL ik _ aC ak
 obtain⟨bU,dS,dT⟩:=aft ak cO f7 ba aC
 have gg:=ak.fx 4 hr
 have gh:=ak.fx 5 hs
 have gi:=ak.fx 7 f8
 have il:=ak.fx 8 f9
 obtain⟨ai,ad,aj,ae,bA,dU,dV⟩:=ak.G 3 23
 have bA:bL.eval (.tmp 23)=vv (numericV u).1 ai ad aj ae:=bA
 have cP:=ak.ge 4 24 rfl
 obtain⟨aR,cQ,bb,aV⟩:=ak.G 5 9
 have dW:=bR.new_ aC
 have dX:=bS.new_ aC
 have dY:=bT.new_ aC
 have hne136:aT ≠ aR:=by have h1:=bR.lt; have h2:=bb; omega
 have hne137:aU ≠ aR:=by have h1:=bS.lt; have h2:=bb; omega
 have hne138:bm ≠ aR:=by have h1:=bT.lt; have h2:=bb; omega
 have hI:=Nat.le_trans ba.size bb
 have dZ:=dP.new_ aC
 have d0:=dQ.new_ aC
 obtain⟨gj,cR,cS,aW,bB⟩:=s_many (P:=Tryz.prog) (t:=29) (i:=0) (c7 (numericV u).1 ai ad aj ae) Tryz.sizeOf29 rfl rfl rfl aV lb
 have bV:Blk gj aR 29 (c7 (numericV u).1 ai ad aj ae):=cS
 refine st_act rfl rfl fun im d1=>a_store' rfl cQ bA cR (d1 _ _ trivial ?_)
 have bW:=dZ.fr aV aW
 have bX:=d0.fr aV aW
 have bY:=dU.fr aV aW
 have bZ:=dV.fr aV aW
 have b0:=bB _ _ _ (hne136) dW
 have b1:=bB _ _ _ (hne137) dX
 have b2:=bB _ _ _ (hne138) dY
 have b3:=dT.trans aW (fun _ h b=>by subst b; omega)
 refine st_take rfl rfl (y_assign (v:=iv ((numericV u).2)) rfl cP) rfl ?_
 obtain⟨gk,af⟩:∃ a',a'=bL.put (some 8) (iv ((numericV u).2)):=⟨_,rfl⟩
 have bd:=pz af bU
 have b4:=pd af dS
 have cT:=pn af gg (by decide)
 have cU:=pn af gh (by decide)
 have cV:=pn af gi (by decide)
 have io:=pn af bA (by decide)
 have ip:=pn af cP (by decide)
 have cW:=pn af cQ (by decide)
 have bC:gk.eval (.tmp 8)=iv ((numericV u).2):=by rw [af]; exact put_same _ _ _ (by rw [bU]; decide)
 show stepsTo _ _ _ _ _ (bL.put (some 8) (iv ((numericV u).2))) _
 rw [← af]
 refine st_nil (dR _ _ (wp_seq_k fun iq d2=>?_))
 refine wp_block ?_
 refine wp_seq_k fun ir b5=>?_
 rcases bc (decide (((numericV u).2)=0)) with aa|aa
 have cX:=oT aa
 refine wp_g0 [true,true,true] [] 41
   [ve (iv ((numericV u).2)),vF,vF] bd (.eq (.eq (.eq (.nil)))) ?_ ?_
 exact .m (fun k=>k.fx 8 bC)<| .t (fun _ w hn k=>⟨_,v_bin rfl (k.eq1 0 26 rfl) rfl (fun _=>rfl) (r_neq aa),rfl⟩)<| .a (fun k=>k.eq1 1 27 rfl) .nil
 refine aftI bd b4 b3 fun it iu be b6 b7 al aD=>?_
 have cY:=aD.fx 4 cT
 have cZ:=aD.fx 5 cU
 have bD:=aD.fx 7 cV
 have bE:=aD.fx 9 cW
 have iw:=aD.fx 8 bC
 have gl:=aD.ge 2 25 rfl
 have b8:=b0.new_ al
 have b9:=b1.new_ al
 have bf:=b2.new_ al
 have bg:=bV.new_ al
 have ca:=bW.new_ al
 have cb:=bX.new_ al
 have cc:=bY.new_ al
 have cd:=bZ.new_ al
 refine st_nil (b5 _ _ ?_)
 refine wp_cond_false gl ?_
 refine wp_seq_k fun ix ce=>?_
 rcases bc (decide (((numericV v).1.k)=((numericV u).1.k))) with ac|ac
 have c0:=oT ac
 refine wp_g0 [true,true,true,true,true,true] [] 41
   [ve (pv bm),ve (iv ((numericV v).1.k)),ve (pv aR),ve (iv ((numericV u).1.k)),vF,vF] be (.eq (.eq (.eq (.eq (.eq (.eq (.nil))))))) ?_ ?_
 exact .f (fun k=>k.fx 7 bD)<| .t (fun _ w hn k=>⟨_,v_load rfl (k.eq1 0 32 rfl) (l_one Tryz.isAgg3 ((bf.new_ hn).cell 0)),rfl⟩)<| .f (fun k=>k.fx 9 bE)<| .t (fun _ w hn k=>⟨_,v_load rfl (k.eq1 2 34 rfl) (l_one Tryz.isAgg3 ((bg.new_ hn).cell 0)),rfl⟩)<| .t (fun _ w hn k=>⟨_,v_bin rfl (k.eq1 1 33 rfl) (k.eq1 3 35 rfl) (fun _=>rfl) (r_neq ac),rfl⟩)<| .a (fun k=>k.eq1 4 36 rfl) .nil
 refine aftI be b6 b7 fun iy iz cf d3 d4 am aX=>?_
 have gm:=aX.fx 4 cY
 have gn:=aX.fx 5 cZ
 have go:=aX.fx 7 bD
 have gp:=aX.fx 9 bE
 have gq:=aX.ge 5 31 rfl
 have d5:=b8.new_ am
 have d6:=b9.new_ am
 have d7:=bf.new_ am
 have ch:=bg.new_ am
 have d8:=ca.new_ am
 have d9:=cb.new_ am
 have ea:=cc.new_ am
 have eb:=cd.new_ am
 refine st_nil (ce _ _ ?_)
 refine wp_cond_false gq ?_
 refine wp_skip ?_
 refine d2 _ _ ?_
 refine wp_seq_k fun iA ec=>?_
 refine wp_gS (fun W=>Blk W aR 29 (c7 (numericV u).1 ai ad aj ae)∧True) (fun W W' hn h=>⟨Blk.new_ h.1 hn,trivial⟩) ⟨ch,trivial⟩ [true,true,false,false,false] [1] [(2,false),(3,false),(4,true)] 41
   [ve (vv (numericV v).1 ax au aL av),ve (vv (numericV u).1 ai ad aj ae),vt,vt,vt]
   [] newsNil cf (.eq (.eq (.tt (.tt (.tt (.nil)))))) ?_ ?_ ?_
 refine .t (fun _ w hn k=>⟨_,v_load rfl (k.fx 7 go) (l_agg Tryz.isAgg29 Tryz.sizeOf29 (d7.new_ hn) rfl),rfl⟩) ?_
 refine .o3 ?_
 exact .off<| .off<| .off .nil
 intro i h
 simp only [List.contains_eq_mem,List.mem_cons,List.not_mem_nil,or_false,decide_eq_true_eq] at h
 subst h
 exact eager_takeG rfl (noG rfl) fun _ w hn k=>(by
     exact⟨_,fun w hS=>v_load rfl (k.fx 9 gp) (l_agg Tryz.isAgg29 Tryz.sizeOf29 hS.1 rfl),rfl⟩)
 intro c1 iB _ an aY
 obtain⟨ci,ed,ee⟩:=aft aY cf d3 d4 an
 have c3:=aY.fx 4 gm
 have c5:=aY.fx 5 gn
 have c9:=aY.ge 0 39 rfl
 have da:=aY.ge 1 40 rfl
 have aZ:=d5.new_ an
 have ef:=d6.new_ an
 have cj:=ch.new_ an
 have eg:=d8.new_ an
 have eh:=d9.new_ an
 have ei:=ea.new_ an
 have ej:=eb.new_ an
 obtain⟨gr,db,dc,a1,bF⟩:=s_many (P:=Tryz.prog) (t:=29) (i:=0) (c7 (numericV v).1 ax au aL av) Tryz.sizeOf29 rfl rfl rfl aZ lb
 have ek:Blk gr aT 29 (c7 (numericV v).1 ax au aL av):=dc
 refine st_act rfl rfl fun iC el=>a_store' rfl c3 c9 db (el _ _ ⟨(bF _ _ _ (fun h=>hne136 h.symm) cj),trivial⟩ ?_)
 have em:=eg.fr aZ a1
 have en:=eh.fr aZ a1
 have eo:=ei.fr aZ a1
 have ep:=ej.fr aZ a1
 have a3:=bF _ _ _ (fun h=>hne28 h.symm) ef
 have cl:=bF _ _ _ (fun h=>hne136 h.symm) cj
 have er:=ee.trans a1 (fun _ h b=>by subst b; omega)
 obtain⟨gs,dd,de,a4,bG⟩:=s_many (P:=Tryz.prog) (t:=29) (i:=0) (c7 (numericV u).1 ai ad aj ae) Tryz.sizeOf29 rfl rfl rfl a3 lb
 have es:Blk gs aU 29 (c7 (numericV u).1 ai ad aj ae):=de
 refine st_act rfl rfl fun iD et=>a_store' rfl c5 da dd (et _ _ ⟨(bG _ _ _ (fun h=>hne137 h.symm) cl),trivial⟩ ?_)
 have eu:=em.fr a3 a4
 have ev:=en.fr a3 a4
 have ew:=eo.fr a3 a4
 have ex:=ep.fr a3 a4
 have ey:=bG _ _ _ (hne28) ek
 have hJ:=bG _ _ _ (fun h=>hne137 h.symm) cl
 have ez:=er.trans a4 (fun _ h b=>by subst b; omega)
 refine st_take rfl rfl (y_assign (v:=iv 0) rfl rfl) rfl ?_
 obtain⟨gt,ao⟩:∃ a',a'=c1.put (some 6) (iv 0):=⟨_,rfl⟩
 have hK:=pz ao ci
 have eA:=pd ao ed
 have gu:=pn ao c3 (by decide)
 have gv:=pn ao c5 (by decide)
 have iE:=pn ao c9 (by decide)
 have iF:=pn ao da (by decide)
 have gw:gt.eval (.tmp 6)=iv 0:=by rw [ao]; exact put_same _ _ _ (by rw [ci]; decide)
 show stepsTo _ _ _ _ _ (c1.put (some 6) (iv 0)) _
 rw [← ao]
 refine st_nil (ec _ _ ?_)
 refine wp_ret (ret_k eA (v:=.tuple #[vv (numericV v).1 ax au aL av,vv (numericV u).1 ai ad aj ae,iv 0]) (res_cct rfl gu gv gw (l_agg Tryz.isAgg29 Tryz.sizeOf29 ey rfl) (l_agg Tryz.isAgg29 Tryz.sizeOf29 es rfl)) ?_)
 have ay:(numericsV v u).1.mag=(numericV v).1.mag:=by first|rfl|(simp only [numericsV,Vl.z,ab,aa,ac,bsm] <;> rfl)|(exfalso; omega)
 have az:(numericsV v u).1.s=(numericV v).1.s:=by first|rfl|(simp only [numericsV,Vl.z,ab,aa,ac,bsm] <;> rfl)|(exfalso; omega)
 have aA:(numericsV v u).2.1.mag=(numericV u).1.mag:=by first|rfl|(simp only [numericsV,Vl.z,ab,aa,ac,bsm] <;> rfl)|(exfalso; omega)
 have aB:(numericsV v u).2.1.s=(numericV u).1.s:=by first|rfl|(simp only [numericsV,Vl.z,ab,aa,ac,bsm] <;> rfl)|(exfalso; omega)
 exact⟨ax,au,aL,av,ai,ad,aj,ae,(by show Ending.returned (.tuple #[vv (numericV v).1 ax au aL av,vv (numericV u).1 ai ad aj ae,iv 0])=Ending.returned (.tuple #[vv (numericsV v u).1 ax au aL av,vv (numericsV v u).2.1 ai ad aj ae,iv ((numericsV v u).2.2)]); (first|rfl|(simp only [numericsV,Vl.z,ab,aa,ac,ay,az,aA,aB,bsm] <;> rfl)|(exfalso; omega))),(by rw [ay]; exact eu),(by rw [az]; exact ev),(by rw [aA]; exact ew),(by rw [aB]; exact ex),ez⟩
 have c0:=oF ac
 refine wp_g0 [true,true,true,true,true,true] [] 41
   [ve (pv bm),ve (iv ((numericV v).1.k)),ve (pv aR),ve (iv ((numericV u).1.k)),vT,vT] be (.eq (.eq (.eq (.eq (.eq (.eq (.nil))))))) ?_ ?_
 exact .f (fun k=>k.fx 7 bD)<| .t (fun _ w hn k=>⟨_,v_load rfl (k.eq1 0 32 rfl) (l_one Tryz.isAgg3 ((bf.new_ hn).cell 0)),rfl⟩)<| .f (fun k=>k.fx 9 bE)<| .t (fun _ w hn k=>⟨_,v_load rfl (k.eq1 2 34 rfl) (l_one Tryz.isAgg3 ((bg.new_ hn).cell 0)),rfl⟩)<| .t (fun _ w hn k=>⟨_,v_bin rfl (k.eq1 1 33 rfl) (k.eq1 3 35 rfl) (fun _=>rfl) (r_neq ac),rfl⟩)<| .a (fun k=>k.eq1 4 36 rfl) .nil
 refine aftI be b6 b7 fun iG iH cm eB eC ap a5=>?_
 have gx:=a5.fx 4 cY
 have gy:=a5.fx 5 cZ
 have iI:=a5.fx 7 bD
 have iJ:=a5.fx 9 bE
 have gz:=a5.ge 5 31 rfl
 have eD:=b8.new_ ap
 have eE:=b9.new_ ap
 have hL:=bf.new_ ap
 have hM:=bg.new_ ap
 have hN:=ca.new_ ap
 have hO:=cb.new_ ap
 have hP:=cc.new_ ap
 have hQ:=cd.new_ ap
 refine st_nil (ce _ _ ?_)
 refine wp_cond_true gz ?_
 refine wp_seq_k fun iK eF=>?_
 refine wp_g [true,true,false,false,false] [1] [(2,false),(3,false),(4,true)] 41
   [ve (vv (Vl.mk 0 0 0 false [] [] 0) none 0 none 0),ve (vv (Vl.mk 0 0 0 false [] [] 0) none 0 none 0),vt,vt,vt]
   [] newsNil cm (.eq (.eq (.tt (.tt (.tt (.nil)))))) ?_ ?_ ?_
 refine .t (fun _ w hn k=>⟨_,v_build (ps:=[]) rfl parts0 (by kernel_rfl),rfl⟩) ?_
 refine .o3 ?_
 exact .off<| .off<| .off .nil
 intro i h
 simp only [List.contains_eq_mem,List.mem_cons,List.not_mem_nil,or_false,decide_eq_true_eq] at h
 subst h
 exact eager_take rfl rfl fun _ w hn k=>⟨vv (Vl.mk 0 0 0 false [] [] 0) none 0 none 0,fun w=>v_build (ps:=[]) rfl parts0 (by kernel_rfl),rfl⟩
 refine aftI cm eB eC fun df iL cn eG eH co bh=>?_
 have dg:=bh.fx 4 gx
 have dh:=bh.fx 5 gy
 have di:=bh.ge 0 37 rfl
 have dj:=bh.ge 1 38 rfl
 have eI:=eD.new_ co
 have eJ:=eE.new_ co
 obtain⟨gA,dk,dl,eK,eL⟩:=s_many (P:=Tryz.prog) (t:=29) (i:=0) z7 Tryz.sizeOf29 rfl rfl rfl eI lb
 have eM:Blk gA aT 29 z7:=dl
 refine st_act rfl rfl fun iM eN=>a_store' rfl dg di dk (eN _ _ trivial ?_)
 have eO:=eL _ _ _ (fun h=>hne28 h.symm) eJ
 have eP:=eH.trans eK (fun _ h b=>by subst b; omega)
 obtain⟨gB,dm,dn,eQ,eR⟩:=s_many (P:=Tryz.prog) (t:=29) (i:=0) z7 Tryz.sizeOf29 rfl rfl rfl eO lb
 have eS:Blk gB aU 29 z7:=dn
 refine st_act rfl rfl fun iN eT=>a_store' rfl dh dj dm (eT _ _ trivial ?_)
 have eU:=eR _ _ _ (hne28) eM
 have eV:=eP.trans eQ (fun _ h b=>by subst b; omega)
 refine st_take rfl rfl (y_assign (v:=iv 1) rfl rfl) rfl ?_
 obtain⟨gC,aq⟩:∃ a',a'=df.put (some 6) (iv 1):=⟨_,rfl⟩
 have hR:=pz aq cn
 have eW:=pd aq eG
 have gD:=pn aq dg (by decide)
 have gE:=pn aq dh (by decide)
 have iO:=pn aq di (by decide)
 have iP:=pn aq dj (by decide)
 have gF:gC.eval (.tmp 6)=iv 1:=by rw [aq]; exact put_same _ _ _ (by rw [cn]; decide)
 show stepsTo _ _ _ _ _ (df.put (some 6) (iv 1)) _
 rw [← aq]
 refine st_nil (eF _ _ ?_)
 refine wp_ret (ret_k eW (v:=.tuple #[vv (Vl.mk 0 0 0 false [] [] 0) none 0 none 0,vv (Vl.mk 0 0 0 false [] [] 0) none 0 none 0,iv 1]) (res_cct rfl gD gE gF (l_agg Tryz.isAgg29 Tryz.sizeOf29 eU rfl) (l_agg Tryz.isAgg29 Tryz.sizeOf29 eS rfl)) ?_)
 have ay:(numericsV v u).1.mag=[]:=by first|rfl|(simp only [numericsV,Vl.z,ab,aa,ac,bsm] <;> rfl)|(exfalso; omega)
 have az:(numericsV v u).1.s=[]:=by first|rfl|(simp only [numericsV,Vl.z,ab,aa,ac,bsm] <;> rfl)|(exfalso; omega)
 have aA:(numericsV v u).2.1.mag=[]:=by first|rfl|(simp only [numericsV,Vl.z,ab,aa,ac,bsm] <;> rfl)|(exfalso; omega)
 have aB:(numericsV v u).2.1.s=[]:=by first|rfl|(simp only [numericsV,Vl.z,ab,aa,ac,bsm] <;> rfl)|(exfalso; omega)
 exact⟨none,0,none,0,none,0,none,0,(by show Ending.returned (.tuple #[vv (Vl.mk 0 0 0 false [] [] 0) none 0 none 0,vv (Vl.mk 0 0 0 false [] [] 0) none 0 none 0,iv 1])=Ending.returned (.tuple #[vv (numericsV v u).1 none 0 none 0,vv (numericsV v u).2.1 none 0 none 0,iv ((numericsV v u).2.2)]); (first|rfl|(simp only [numericsV,Vl.z,ab,aa,ac,ay,az,aA,aB,bsm] <;> rfl)|(exfalso; omega))),(by rw [ay]; exact (SRow.nil _ _)),(by rw [az]; exact (SRow.nil _ _)),(by rw [aA]; exact (SRow.nil _ _)),(by rw [aB]; exact (SRow.nil _ _)),eV⟩
 have cX:=oF aa
 refine wp_g0 [true,true,true] [] 41
   [ve (iv ((numericV u).2)),vT,vT] bd (.eq (.eq (.eq (.nil)))) ?_ ?_
 exact .m (fun k=>k.fx 8 bC)<| .t (fun _ w hn k=>⟨_,v_bin rfl (k.eq1 0 26 rfl) rfl (fun _=>rfl) (r_neq aa),rfl⟩)<| .a (fun k=>k.eq1 1 27 rfl) .nil
 refine aftI bd b4 b3 fun iQ iR cp eX eY ar aE=>?_
 have gG:=aE.fx 4 cT
 have gH:=aE.fx 5 cU
 have iS:=aE.fx 7 cV
 have iT:=aE.fx 9 cW
 have gI:=aE.fx 8 bC
 have gJ:=aE.ge 2 25 rfl
 have eZ:=b0.new_ ar
 have e0:=b1.new_ ar
 have hT:=b2.new_ ar
 have hU:=bV.new_ ar
 have hV:=bW.new_ ar
 have hW:=bX.new_ ar
 have hX:=bY.new_ ar
 have hY:=bZ.new_ ar
 refine st_nil (b5 _ _ ?_)
 refine wp_cond_true gJ ?_
 refine wp_seq_k fun iU e1=>?_
 refine wp_g [true,true,true,false,false,false] [1,2] [(3,false),(4,false),(5,true)] 41
   [ve (vv (Vl.mk 0 0 0 false [] [] 0) none 0 none 0),ve (vv (Vl.mk 0 0 0 false [] [] 0) none 0 none 0),ve (iv ((numericV u).2)),vt,vt,vt]
   [] newsNil cp (.eq (.eq (.eq (.tt (.tt (.tt (.nil))))))) ?_ ?_ ?_
 refine .t (fun _ w hn k=>⟨_,v_build (ps:=[]) rfl parts0 (by kernel_rfl),rfl⟩) ?_
 refine .o3 ?_
 refine .o3 ?_
 exact .off<| .off<| .off .nil
 intro i h
 simp only [List.contains_eq_mem,List.mem_cons,List.not_mem_nil,or_false,decide_eq_true_eq] at h
 rcases h with rfl|rfl
 exact eager_take rfl rfl fun _ w hn k=>⟨vv (Vl.mk 0 0 0 false [] [] 0) none 0 none 0,fun w=>v_build (ps:=[]) rfl parts0 (by kernel_rfl),rfl⟩
 exact eager_take rfl rfl fun _ w hn k=>⟨iv ((numericV u).2),fun w=>v_move rfl (k.fx 8 gI),rfl⟩
 refine aftI cp eX eY fun dp iV cq e2 e3 cr a6=>?_
 have dq:=a6.fx 4 gG
 have dr:=a6.fx 5 gH
 have ds:=a6.ge 0 28 rfl
 have dt:=a6.ge 1 29 rfl
 have dw:=a6.ge 2 30 rfl
 have e4:=eZ.new_ cr
 have e5:=e0.new_ cr
 obtain⟨gK,dx,dy,e6,e7⟩:=s_many (P:=Tryz.prog) (t:=29) (i:=0) z7 Tryz.sizeOf29 rfl rfl rfl e4 lb
 have e8:Blk gK aT 29 z7:=dy
 refine st_act rfl rfl fun iW e9=>a_store' rfl dq ds dx (e9 _ _ trivial ?_)
 have fa:=e7 _ _ _ (fun h=>hne28 h.symm) e5
 have fb:=e3.trans e6 (fun _ h b=>by subst b; omega)
 obtain⟨gL,dz,dA,fc,fd⟩:=s_many (P:=Tryz.prog) (t:=29) (i:=0) z7 Tryz.sizeOf29 rfl rfl rfl fa lb
 have fe:Blk gL aU 29 z7:=dA
 refine st_act rfl rfl fun iX ff=>a_store' rfl dr dt dz (ff _ _ trivial ?_)
 have fg:=fd _ _ _ (hne28) e8
 have fh:=fb.trans fc (fun _ h b=>by subst b; omega)
 refine st_take rfl rfl (y_assign (v:=iv ((numericV u).2)) rfl dw) rfl ?_
 obtain⟨gM,ag⟩:∃ a',a'=dp.put (some 6) (iv ((numericV u).2)):=⟨_,rfl⟩
 have hZ:=pz ag cq
 have fi:=pd ag e2
 have gN:=pn ag dq (by decide)
 have gO:=pn ag dr (by decide)
 have iY:=pn ag ds (by decide)
 have iZ:=pn ag dt (by decide)
 have i0:=pn ag dw (by decide)
 have gP:gM.eval (.tmp 6)=iv ((numericV u).2):=by rw [ag]; exact put_same _ _ _ (by rw [cq]; decide)
 show stepsTo _ _ _ _ _ (dp.put (some 6) (iv ((numericV u).2))) _
 rw [← ag]
 refine st_nil (e1 _ _ ?_)
 refine wp_ret (ret_k fi (v:=.tuple #[vv (Vl.mk 0 0 0 false [] [] 0) none 0 none 0,vv (Vl.mk 0 0 0 false [] [] 0) none 0 none 0,iv ((numericV u).2)]) (res_cct rfl gN gO gP (l_agg Tryz.isAgg29 Tryz.sizeOf29 fg rfl) (l_agg Tryz.isAgg29 Tryz.sizeOf29 fe rfl)) ?_)
 have ay:(numericsV v u).1.mag=[]:=by first|rfl|(simp only [numericsV,Vl.z,ab,aa,bsm] <;> rfl)|(exfalso; omega)
 have az:(numericsV v u).1.s=[]:=by first|rfl|(simp only [numericsV,Vl.z,ab,aa,bsm] <;> rfl)|(exfalso; omega)
 have aA:(numericsV v u).2.1.mag=[]:=by first|rfl|(simp only [numericsV,Vl.z,ab,aa,bsm] <;> rfl)|(exfalso; omega)
 have aB:(numericsV v u).2.1.s=[]:=by first|rfl|(simp only [numericsV,Vl.z,ab,aa,bsm] <;> rfl)|(exfalso; omega)
 exact⟨none,0,none,0,none,0,none,0,(by show Ending.returned (.tuple #[vv (Vl.mk 0 0 0 false [] [] 0) none 0 none 0,vv (Vl.mk 0 0 0 false [] [] 0) none 0 none 0,iv ((numericV u).2)])=Ending.returned (.tuple #[vv (numericsV v u).1 none 0 none 0,vv (numericsV v u).2.1 none 0 none 0,iv ((numericsV v u).2.2)]); (first|rfl|(simp only [numericsV,Vl.z,ab,aa,ay,az,aA,aB,bsm] <;> rfl)|(exfalso; omega))),(by rw [ay]; exact (SRow.nil _ _)),(by rw [az]; exact (SRow.nil _ _)),(by rw [aA]; exact (SRow.nil _ _)),(by rw [aB]; exact (SRow.nil _ _)),fh⟩
 have dN:=oF ab
 refine wp_g0 [true,true] [] 41
   [ve (iv ((numericV v).2)),vT] bz (.eq (.eq (.nil))) ?_ ?_
 exact .m (fun k=>k.fx 8 bQ)<| .t (fun _ w hn k=>⟨_,v_bin rfl (k.eq1 0 15 rfl) rfl (fun _=>rfl) (r_neq ab),rfl⟩) .nil
 refine aftI bz cM cL fun i1 i2 ct fj fk aF aG=>?_
 have i3:=aG.fx 3 fK
 have gQ:=aG.fx 4 fL
 have gR:=aG.fx 5 fM
 have i4:=aG.fx 7 fN
 have gS:=aG.fx 8 bQ
 have gT:=aG.ge 1 16 rfl
 have h3:=cI.new_ aF
 have fl:=cJ.new_ aF
 have fm:=cK.new_ aF
 have h4:=cF.new_ aF
 have h5:=cG.new_ aF
 have h6:=cH.new_ aF
 refine st_nil (cN _ _ ?_)
 refine wp_cond_true gT ?_
 refine wp_seq_k fun i5 fn=>?_
 refine wp_g [true,true,true,false,false,false] [1,2] [(3,false),(4,false),(5,true)] 41
   [ve (vv (Vl.mk 0 0 0 false [] [] 0) none 0 none 0),ve (vv (Vl.mk 0 0 0 false [] [] 0) none 0 none 0),ve (iv ((numericV v).2)),vt,vt,vt]
   [] newsNil ct (.eq (.eq (.eq (.tt (.tt (.tt (.nil))))))) ?_ ?_ ?_
 refine .t (fun _ w hn k=>⟨_,v_build (ps:=[]) rfl parts0 (by kernel_rfl),rfl⟩) ?_
 refine .o3 ?_
 refine .o3 ?_
 exact .off<| .off<| .off .nil
 intro i h
 simp only [List.contains_eq_mem,List.mem_cons,List.not_mem_nil,or_false,decide_eq_true_eq] at h
 rcases h with rfl|rfl
 exact eager_take rfl rfl fun _ w hn k=>⟨vv (Vl.mk 0 0 0 false [] [] 0) none 0 none 0,fun w=>v_build (ps:=[]) rfl parts0 (by kernel_rfl),rfl⟩
 exact eager_take rfl rfl fun _ w hn k=>⟨iv ((numericV v).2),fun w=>v_move rfl (k.fx 8 gS),rfl⟩
 refine aftI ct fj fk fun dB i6 cw fo fp cx a7=>?_
 have dC:=a7.fx 4 gQ
 have dD:=a7.fx 5 gR
 have dE:=a7.ge 0 17 rfl
 have dF:=a7.ge 1 18 rfl
 have dG:=a7.ge 2 19 rfl
 have fq:=fl.new_ cx
 have fs:=fm.new_ cx
 obtain⟨gU,dH,dI,ft,fu⟩:=s_many (P:=Tryz.prog) (t:=29) (i:=0) z7 Tryz.sizeOf29 rfl rfl rfl fq lb
 have fv:Blk gU aT 29 z7:=dI
 refine st_act rfl rfl fun i7 fw=>a_store' rfl dC dE dH (fw _ _ trivial ?_)
 have fy:=fu _ _ _ (fun h=>hne28 h.symm) fs
 have fz:=fp.trans ft (fun _ h b=>by subst b; omega)
 obtain⟨gV,dJ,dK,fA,fB⟩:=s_many (P:=Tryz.prog) (t:=29) (i:=0) z7 Tryz.sizeOf29 rfl rfl rfl fy lb
 have fC:Blk gV aU 29 z7:=dK
 refine st_act rfl rfl fun i8 fD=>a_store' rfl dD dF dJ (fD _ _ trivial ?_)
 have fE:=fB _ _ _ (hne28) fv
 have fF:=fz.trans fA (fun _ h b=>by subst b; omega)
 refine st_take rfl rfl (y_assign (v:=iv ((numericV v).2)) rfl dG) rfl ?_
 obtain⟨gW,ah⟩:∃ a',a'=dB.put (some 6) (iv ((numericV v).2)):=⟨_,rfl⟩
 have h7:=pz ah cw
 have fG:=pd ah fo
 have gX:=pn ah dC (by decide)
 have gY:=pn ah dD (by decide)
 have i9:=pn ah dE (by decide)
 have ja:=pn ah dF (by decide)
 have jb:=pn ah dG (by decide)
 have gZ:gW.eval (.tmp 6)=iv ((numericV v).2):=by rw [ah]; exact put_same _ _ _ (by rw [cw]; decide)
 show stepsTo _ _ _ _ _ (dB.put (some 6) (iv ((numericV v).2))) _
 rw [← ah]
 refine st_nil (fn _ _ ?_)
 refine wp_ret (ret_k fG (v:=.tuple #[vv (Vl.mk 0 0 0 false [] [] 0) none 0 none 0,vv (Vl.mk 0 0 0 false [] [] 0) none 0 none 0,iv ((numericV v).2)]) (res_cct rfl gX gY gZ (l_agg Tryz.isAgg29 Tryz.sizeOf29 fE rfl) (l_agg Tryz.isAgg29 Tryz.sizeOf29 fC rfl)) ?_)
 have ay:(numericsV v u).1.mag=[]:=by first|rfl|(simp only [numericsV,Vl.z,ab,bsm] <;> rfl)|(exfalso; omega)
 have az:(numericsV v u).1.s=[]:=by first|rfl|(simp only [numericsV,Vl.z,ab,bsm] <;> rfl)|(exfalso; omega)
 have aA:(numericsV v u).2.1.mag=[]:=by first|rfl|(simp only [numericsV,Vl.z,ab,bsm] <;> rfl)|(exfalso; omega)
 have aB:(numericsV v u).2.1.s=[]:=by first|rfl|(simp only [numericsV,Vl.z,ab,bsm] <;> rfl)|(exfalso; omega)
 exact⟨none,0,none,0,none,0,none,0,(by show Ending.returned (.tuple #[vv (Vl.mk 0 0 0 false [] [] 0) none 0 none 0,vv (Vl.mk 0 0 0 false [] [] 0) none 0 none 0,iv ((numericV v).2)])=Ending.returned (.tuple #[vv (numericsV v u).1 none 0 none 0,vv (numericsV v u).2.1 none 0 none 0,iv ((numericsV v u).2.2)]); (first|rfl|(simp only [numericsV,Vl.z,ab,ay,az,aA,aB,bsm] <;> rfl)|(exfalso; omega))),(by rw [ay]; exact (SRow.nil _ _)),(by rw [az]; exact (SRow.nil _ _)),(by rw [aA]; exact (SRow.nil _ _)),(by rw [aB]; exact (SRow.nil _ _)),fF⟩
theorem big_in {w:World} {b:Bool} {A:Option Addr} {m:List Nat} {c:Nat} (hr:SRow w .u32 A m c) (hl:Limbs m):BigAt w (.agg #[.bool b,sv A m c]) (goodI b m):=⟨b,_,m,rfl,hr,hl,rfl⟩
theorem text_len {v:Vl} (h:VOk v):(textV v).1.length≤20000:=by
  have h1:=textM_size (cleanV v).num
  have h2:=textI_size (b:=(cleanV v).neg) h.clean.limbs
  have h3:=h.clean.slen
  unfold textV
  repeat' split
  all_goals first|exact h3|exact Nat.zero_le _|(show (asc _).length≤20000; rw [asc_len]; first|(show (_:Nat)≤_; decide)|(show (_:Nat)≤_; omega))
theorem bText_c (a:Bool) (Aa:Option Addr) (ma:List Nat) (ca:Nat) (w:World) (hra:SRow w .u32 Aa ma ca) (ha:Limbs ma):Calls Tryz.prog 141 #[.agg #[.bool a,sv Aa ma ca]] w (IsRet (.string (strOfNums (textI (goodI a ma)))) w):=text_any _ _ w (big_in hra ha)
def ctext_c_P (v:Vl) (Av:Option Addr) (cv:Nat) (Bv:Option Addr) (dv:Nat) (w:World) (en:Ending) (w':World):Prop:=∃ (Ar0:Option Addr) (cr0:Nat),en=.returned (.tuple #[sv Ar0 ((textV v).1) cr0,iv ((textV v).2)])∧SOwn w' w.heap.size 74 .u16 Ar0 ((textV v).1) cr0∧New w w'
theorem ctext_c (v:Vl) (Av:Option Addr) (cv:Nat) (Bv:Option Addr) (dv:Nat) (w:World) (hmv:SRow w .u32 Av v.mag cv) (hsv:SRow w .u16 Bv v.s dv) (hvv:VOk v) (HT:ItoaOk w):Calls Tryz.prog 73 #[vv v Av cv Bv dv] w (ctext_c_P v Av cv Bv dv w):=by
 refine enter_abs Tryz.func73 rfl fun a0 bh eh hp=>?_
 have bh:a0.tmps.size=38:=bh
 have de:New w w:=Upd.refl _ _
 have hp0:a0.eval (.tmp 0)=vv v Av cv Bv dv:=hp 0 _ rfl
 have hm:=hvv.clean.mlen
 have hsl:=hvv.clean.slen
 have hz1:(textM (Nm.mk (cleanV v).nk (cleanV v).nn)).size≤21:=textM_size (cleanV v).num
 have hz2:=textI_size (b:=(cleanV v).neg) hvv.clean.limbs
 refine wp_seq_k fun K1 ei=>?_
 refine wp_g [true,true,true] [] [] 38
   [IsNew w 29 (c7 v Av cv Bv dv),ve (sv none ([]) 0),ve (iv 0)]
   [0] (newsCons (fun v w h=>IsNew.old h) newsNil) bh (.nw (.eq (.eq (.nil)))) ?_ (fun i h=>by cases h) ?_
 exact .o2 (step_allocN (cs:=(c7 v Av cv Bv dv)) (t:=29) rfl (noG rfl) (fun _ w hn k=>v_box rfl (k.fx 0 hp0) (fun w=>rfl)) (fun q _ hq hb=>⟨q,rfl,hq,hb⟩))<| .t (fun _ w hn k=>⟨_,v_assign rfl rfl,rfl⟩)<| .t (fun _ w hn k=>⟨_,v_assign rfl rfl,rfl⟩) .nil
 refine aftI bh eh de fun a2 w3 df ej aY gh ek=>?_
 obtain⟨q9,h8,dl,bD⟩:=ek.G 0 1
 have fL:=Nat.le_trans de.size dl
 refine st_nil (ei _ _ (wp_seq_k fun gi dm=>?_))
 refine wp_g0 [true,true,false] [(2,false)] 38
   [ve (vv v Av cv Bv dv),
    (VP (cleanV v)),vt] df (.eq (.cons (fun _ _ _ n ⟨_,_,_,_,e,h,i⟩=>⟨_,_,_,_,e,h.new_ n,i.new_ n⟩) (.tt (.nil)))) ?_ ?_
 refine .t (fun _ w hn k=>⟨_,v_load rfl (k.fx 1 h8) (l_agg Tryz.isAgg29 Tryz.sizeOf29 (bD.new_ hn) rfl),rfl⟩) ?_
 refine .o1 (tkC rfl (noG rfl) rfl fun _ w hn k=>(by
       refine ⟨#[vv v Av cv Bv dv],_,args1 (k.eq1 0 4 rfl),fun w=>by kernel_rfl,clean_c v _ _ _ _ _ (hmv.new_ (aY.transNew hn)) (hsv.new_ (aY.transNew hn)),?_⟩
       rintro e w' ⟨A1,c2,A3,c4,rfl,hmo0,hmo1,hm⟩
       exact⟨_,rfl,hm,⟨A1,c2,A3,c4,rfl,hmo0,hmo1⟩⟩)) ?_
 exact .off .nil
 refine aftI df ej aY fun el gj bE dn dp dq bF=>?_
 have bG:=bF.fx 1 h8
 obtain⟨aW,ay,az,aA,bH,dr,ds⟩:=bF.G 1 5
 have bH:el.eval (.tmp 5)=vv (cleanV v) aW ay az aA:=bH
 have aZ:=bD.new_ dq
 obtain⟨em,b5,b6,a1,fM⟩:=s_many (P:=Tryz.prog) (t:=29) (i:=0) (c7 (cleanV v) aW ay az aA) Tryz.sizeOf29 rfl rfl rfl aZ lb
 have bI:Blk em q9 29 (c7 (cleanV v) aW ay az aA):=b6
 refine st_act rfl rfl fun gk dt=>a_store' rfl bG bH b5 (dt _ _ trivial ?_)
 have du:=dr.fr aZ a1
 have dw:=ds.fr aZ a1
 have dx:=dp.trans a1 (fun _ h b=>by subst b; omega)
 refine st_nil (dm _ _ (wp_seq_k fun gl dy=>?_))
 refine wp_seq_k fun gm dz=>?_
 refine wp_g0 [true,true] [] 38
   [ve (pv q9),ve (iv ((cleanV v).k))] bE (.eq (.eq (.nil))) ?_ ?_
 exact .f (fun k=>k.fx 1 bG)<| .t (fun _ w hn k=>⟨_,v_load rfl (k.eq1 0 6 rfl) (l_one Tryz.isAgg3 ((bI.new_ hn).cell 0)),rfl⟩) .nil
 refine aftI bE dn dx fun gn go bJ dA dB a3 bK=>?_
 have en:=bK.fx 1 bG
 have dg:=bK.ge 1 7 rfl
 have dC:=bI.new_ a3
 have dD:=du.new_ a3
 have dE:=dw.new_ a3
 refine st_nil (dz _ _ ?_)
 refine wp_block ?_
 refine wp_seq_k fun gp dF=>?_
 refine wp_g0 [true,true] [] 38
   [ve (.bool (decide (((cleanV v).k)=0))),ve (.bool (decide (((cleanV v).k)=0)))] bJ (.eq (.eq (.nil))) ?_ ?_
 exact .t (fun _ w hn k=>⟨_,v_bin rfl (k.fx 7 dg) rfl (fun _=>rfl) (r_eql rfl),rfl⟩)<| .a (fun k=>k.eq1 0 9 rfl) .nil
 refine aftI bJ dA dB fun gq bi aI bL a4 a5 a6=>?_
 have eo:=a6.fx 1 en
 have dh:=a6.fx 7 dg
 have di:=a6.ge 1 8 rfl
 have dG:=dC.new_ a5
 have dH:=dD.new_ a5
 have dI:=dE.new_ a5
 refine st_nil (dF _ _ ?_)
 rcases bc (decide (((cleanV v).k)=0)) with ac|ac
 have b7:=oT ac
 have dJ:=hB di ac
 refine wp_cond_true dJ ?_
 refine wp_seq_k fun gr dK=>?_
 refine wp_g0 [true,true,true] [] 38
   [(OP bi.heap.size 74 .u16 (asc ⟨#[117,110,100,101,102,105,110,101,100]⟩)),
    (OP bi.heap.size 74 .u16 (asc ⟨#[117,110,100,101,102,105,110,101,100]⟩)),ve (iv 0)] aI (.cons (fun _ _ _ n ⟨_,_,e,h⟩=>⟨_,_,e,h.new_ n⟩) (.cons (fun _ _ _ n ⟨_,_,e,h⟩=>⟨_,_,e,h.new_ n⟩) (.eq (.nil)))) ?_ ?_
 refine .o1 (tkC rfl (noG rfl) rfl fun _ w hn k=>(by
       refine ⟨#[.string ⟨#[117,110,100,101,102,105,110,101,100]⟩],_,args1 rfl,fun w=>by kernel_rfl,ascii_c ⟨#[117,110,100,101,102,105,110,101,100]⟩ _ (by first|omega|(show (_:Nat)≤_; decide)),?_⟩
       rintro e w' ⟨eu,ev,rfl,hmo0,hm⟩
       exact⟨_,rfl,hm,⟨eu,ev,rfl,(hmo0.more hn.size)⟩⟩)) ?_
 refine .o1 (tk rfl rfl fun _ w hn k=>(by
       obtain⟨ew,ex,ey,dL⟩:(OP bi.heap.size 74 .u16 (asc ⟨#[117,110,100,101,102,105,110,101,100]⟩)) _ _:=k.dep 0 10 (by kernel_rfl) (by kernel_rfl)
       exact⟨_,v_assign rfl ey,⟨ew,ex,rfl,dL⟩⟩)) ?_
 exact .t (fun _ w hn k=>⟨_,v_assign rfl rfl,rfl⟩) .nil
 refine aftI aI bL a4 fun ez gs fN dM dN fO bM=>?_
 obtain⟨aX,aB,bN,dO⟩:=bM.G 1 2
 have bN:ez.eval (.tmp 2)=sv aX (asc ⟨#[117,110,100,101,102,105,110,101,100]⟩) aB:=bN
 have eA:=bM.ge 2 3 rfl
 have dP:=dO.more a4.size
 refine st_nil (dK _ _ ?_)
 refine wp_ret (ret_k dM (v:=.tuple #[sv aX (asc ⟨#[117,110,100,101,102,105,110,101,100]⟩) aB,iv 0]) (res_tt rfl bN eA _) ?_)
 have ad:(textV v).1=(asc ⟨#[117,110,100,101,102,105,110,101,100]⟩):=by first|rfl|(simp only [textV,ac,bsm] <;> rfl)|(exfalso; omega)
 exact⟨aX,aB,(by show Ending.returned (.tuple #[sv aX (asc ⟨#[117,110,100,101,102,105,110,101,100]⟩) aB,iv 0])=Ending.returned (.tuple #[sv aX ((textV v).1) aB,iv ((textV v).2)]); (first|rfl|(simp only [textV,ac,ad,bsm] <;> rfl)|(exfalso; omega))),(by rw [ad]; exact dP),dN⟩
 have b7:=oF ac
 have dQ:=hB di ac
 refine wp_cond_false dQ ?_
 refine wp_seq_k fun gt dR=>?_
 refine wp_g0 [true,true] [] 38
   [ve (.bool (decide (((cleanV v).k)=1))),ve (.bool (decide (((cleanV v).k)=1)))] aI (.eq (.eq (.nil))) ?_ ?_
 exact .t (fun _ w hn k=>⟨_,v_bin rfl (k.fx 7 dh) rfl (fun _=>rfl) (r_eql rfl),rfl⟩)<| .a (fun k=>k.eq1 0 12 rfl) .nil
 refine aftI aI bL a4 fun gu bj aJ bO a7 a8 a9=>?_
 have eB:=a9.fx 1 eo
 have dj:=a9.fx 7 dh
 have dk:=a9.ge 1 11 rfl
 have dS:=dG.new_ a8
 have dT:=dH.new_ a8
 have dU:=dI.new_ a8
 refine st_nil (dR _ _ ?_)
 rcases bc (decide (((cleanV v).k)=1)) with aa|aa
 have bP:=oT aa
 have b8:=hB dk aa
 refine wp_cond_true b8 ?_
 refine wp_seq_k fun fP b9=>?_
 refine wp_g0 [true,true,true] [] 38
   [(OP bj.heap.size 74 .u16 (asc ⟨#[110,117,108,108]⟩)),
    (OP bj.heap.size 74 .u16 (asc ⟨#[110,117,108,108]⟩)),ve (iv 0)] aJ (.cons (fun _ _ _ n ⟨_,_,e,h⟩=>⟨_,_,e,h.new_ n⟩) (.cons (fun _ _ _ n ⟨_,_,e,h⟩=>⟨_,_,e,h.new_ n⟩) (.eq (.nil)))) ?_ ?_
 refine .o1 (tkC rfl (noG rfl) rfl fun _ w hn k=>(by
       refine ⟨#[.string ⟨#[110,117,108,108]⟩],_,args1 rfl,fun w=>by kernel_rfl,ascii_c ⟨#[110,117,108,108]⟩ _ (by first|omega|(show (_:Nat)≤_; decide)),?_⟩
       rintro e w' ⟨az,eG,rfl,hmo0,hm⟩
       exact⟨_,rfl,hm,⟨az,eG,rfl,(hmo0.more hn.size)⟩⟩)) ?_
 refine .o1 (tk rfl rfl fun _ w hn k=>(by
       obtain⟨eH,eI,eJ,dV⟩:(OP bj.heap.size 74 .u16 (asc ⟨#[110,117,108,108]⟩)) _ _:=k.dep 0 13 (by kernel_rfl) (by kernel_rfl)
       exact⟨_,v_assign rfl eJ,⟨eH,eI,rfl,dV⟩⟩)) ?_
 exact .t (fun _ w hn k=>⟨_,v_assign rfl rfl,rfl⟩) .nil
 refine aftI aJ bO a7 fun dW fQ fu ca cb fv bk=>?_
 obtain⟨aC,aj,ba,cc⟩:=bk.G 1 2
 have ba:dW.eval (.tmp 2)=sv aC (asc ⟨#[110,117,108,108]⟩) aj:=ba
 have dX:=bk.ge 2 3 rfl
 have cd:=cc.more a7.size
 refine st_nil (b9 _ _ ?_)
 refine wp_ret (ret_k ca (v:=.tuple #[sv aC (asc ⟨#[110,117,108,108]⟩) aj,iv 0]) (res_tt rfl ba dX _) ?_)
 have ad:(textV v).1=(asc ⟨#[110,117,108,108]⟩):=by first|rfl|(simp only [textV,ac,aa,bsm] <;> rfl)|(exfalso; omega)
 exact⟨aC,aj,(by show Ending.returned (.tuple #[sv aC (asc ⟨#[110,117,108,108]⟩) aj,iv 0])=Ending.returned (.tuple #[sv aC ((textV v).1) aj,iv ((textV v).2)]); (first|rfl|(simp only [textV,ac,aa,ad,bsm] <;> rfl)|(exfalso; omega))),(by rw [ad]; exact cd),cb⟩
 have bP:=oF aa
 have ce:=hB dk aa
 refine wp_cond_false ce ?_
 refine wp_seq_k fun fR cf=>?_
 refine wp_g0 [true,true] [] 38
   [ve (.bool (decide (((cleanV v).k)=2))),ve (.bool (decide (((cleanV v).k)=2)))] aJ (.eq (.eq (.nil))) ?_ ?_
 exact .t (fun _ w hn k=>⟨_,v_bin rfl (k.fx 7 dj) rfl (fun _=>rfl) (r_eql rfl),rfl⟩)<| .a (fun k=>k.eq1 0 15 rfl) .nil
 refine aftI aJ bO a7 fun fS fT ap bl bm aK aL=>?_
 have bQ:=aL.fx 1 eB
 have bR:=aL.fx 7 dj
 have bS:=aL.ge 1 14 rfl
 have bn:=dS.new_ aK
 have ch:=dT.new_ aK
 have ci:=dU.new_ aK
 refine st_nil (cf _ _ ?_)
 rcases bc (decide (((cleanV v).k)=2)) with ab|ab
 have bT:=oT ab
 have cj:=hB bS ab
 refine wp_cond_true cj ?_
 refine wp_seq_k fun fU cl=>?_
 refine wp_seq_k fun fV cm=>?_
 refine wp_g0 [true,true,true] [] 38
   [ve (.pointer (some ⟨q9,6,none⟩)),ve (iv ((cleanV v).ref)),ve (.bool (decide (((cleanV v).ref)=1)))] ap (.eq (.eq (.eq (.nil)))) ?_ ?_
 exact .f (fun k=>k.fx 1 bQ)<| .t (fun _ w hn k=>⟨_,v_load rfl (k.eq1 0 16 rfl) (l_one Tryz.isAgg3 ((bn.new_ hn).cell 6)),rfl⟩)<| .t (fun _ w hn k=>⟨_,v_bin rfl (k.eq1 1 17 rfl) rfl (fun _=>rfl) (r_eql rfl),rfl⟩) .nil
 refine aftI ap bl bm fun fW ai aq bo ar fw cn=>?_
 have bU:=cn.ge 2 18 rfl
 refine st_nil (cm _ _ ?_)
 rcases bc (decide (((cleanV v).ref)=1)) with ag|ag
 have bV:=oT ag
 have co:=hB bU ag
 refine wp_cond_true co ?_
 refine wp_seq_k fun fX cp=>?_
 refine wp_g0 [true,true,true] [] 38
   [(OP ai.heap.size 74 .u16 (asc ⟨#[116,114,117,101]⟩)),
    (OP ai.heap.size 74 .u16 (asc ⟨#[116,114,117,101]⟩)),ve (iv 0)] aq (.cons (fun _ _ _ n ⟨_,_,e,h⟩=>⟨_,_,e,h.new_ n⟩) (.cons (fun _ _ _ n ⟨_,_,e,h⟩=>⟨_,_,e,h.new_ n⟩) (.eq (.nil)))) ?_ ?_
 refine .o1 (tkC rfl (noG rfl) rfl fun _ w hn k=>(by
       refine ⟨#[.string ⟨#[116,114,117,101]⟩],_,args1 rfl,fun w=>by kernel_rfl,ascii_c ⟨#[116,114,117,101]⟩ _ (by first|omega|(show (_:Nat)≤_; decide)),?_⟩
       rintro e w' ⟨eO,eP,rfl,hmo0,hm⟩
       exact⟨_,rfl,hm,⟨eO,eP,rfl,(hmo0.more hn.size)⟩⟩)) ?_
 refine .o1 (tk rfl rfl fun _ w hn k=>(by
       obtain⟨eQ,eR,eS,dY⟩:(OP ai.heap.size 74 .u16 (asc ⟨#[116,114,117,101]⟩)) _ _:=k.dep 0 19 (by kernel_rfl) (by kernel_rfl)
       exact⟨_,v_assign rfl eS,⟨eQ,eR,rfl,dY⟩⟩)) ?_
 exact .t (fun _ w hn k=>⟨_,v_assign rfl rfl,rfl⟩) .nil
 refine aftI aq bo ar fun dZ fY fy cq cr fz bp=>?_
 obtain⟨aD,ak,bb,ct⟩:=bp.G 1 2
 have bb:dZ.eval (.tmp 2)=sv aD (asc ⟨#[116,114,117,101]⟩) ak:=bb
 have d0:=bp.ge 2 3 rfl
 have cu:=ct.more ar.size
 refine st_nil (cp _ _ ?_)
 refine wp_ret (ret_k cq (v:=.tuple #[sv aD (asc ⟨#[116,114,117,101]⟩) ak,iv 0]) (res_tt rfl bb d0 _) ?_)
 have ad:(textV v).1=(asc ⟨#[116,114,117,101]⟩):=by first|rfl|(simp only [textV,ac,aa,ab,ag,bsm] <;> rfl)|(exfalso; omega)
 exact⟨aD,ak,(by show Ending.returned (.tuple #[sv aD (asc ⟨#[116,114,117,101]⟩) ak,iv 0])=Ending.returned (.tuple #[sv aD ((textV v).1) ak,iv ((textV v).2)]); (first|rfl|(simp only [textV,ac,aa,ab,ag,ad,bsm] <;> rfl)|(exfalso; omega))),(by rw [ad]; exact cu),cr⟩
 have bV:=oF ag
 have cw:=hB bU ag
 refine wp_cond_false cw ?_
 refine wp_skip ?_
 refine cl _ _ ?_
 refine wp_seq_k fun fZ cx=>?_
 refine wp_g0 [true,true,true] [] 38
   [(OP ai.heap.size 74 .u16 (asc ⟨#[102,97,108,115,101]⟩)),
    (OP ai.heap.size 74 .u16 (asc ⟨#[102,97,108,115,101]⟩)),ve (iv 0)] aq (.cons (fun _ _ _ n ⟨_,_,e,h⟩=>⟨_,_,e,h.new_ n⟩) (.cons (fun _ _ _ n ⟨_,_,e,h⟩=>⟨_,_,e,h.new_ n⟩) (.eq (.nil)))) ?_ ?_
 refine .o1 (tkC rfl (noG rfl) rfl fun _ w hn k=>(by
       refine ⟨#[.string ⟨#[102,97,108,115,101]⟩],_,args1 rfl,fun w=>by kernel_rfl,ascii_c ⟨#[102,97,108,115,101]⟩ _ (by first|omega|(show (_:Nat)≤_; decide)),?_⟩
       rintro e w' ⟨eX,eY,rfl,hmo0,hm⟩
       exact⟨_,rfl,hm,⟨eX,eY,rfl,(hmo0.more hn.size)⟩⟩)) ?_
 refine .o1 (tk rfl rfl fun _ w hn k=>(by
       obtain⟨eZ,e0,e1,d1⟩:(OP ai.heap.size 74 .u16 (asc ⟨#[102,97,108,115,101]⟩)) _ _:=k.dep 0 20 (by kernel_rfl) (by kernel_rfl)
       exact⟨_,v_assign rfl e1,⟨eZ,e0,rfl,d1⟩⟩)) ?_
 exact .t (fun _ w hn k=>⟨_,v_assign rfl rfl,rfl⟩) .nil
 refine aftI aq bo ar fun d2 f0 fA cy cz fB bq=>?_
 obtain⟨aE,al,bd,cA⟩:=bq.G 1 2
 have bd:d2.eval (.tmp 2)=sv aE (asc ⟨#[102,97,108,115,101]⟩) al:=bd
 have d3:=bq.ge 2 3 rfl
 have cB:=cA.more ar.size
 refine st_nil (cx _ _ ?_)
 refine wp_ret (ret_k cy (v:=.tuple #[sv aE (asc ⟨#[102,97,108,115,101]⟩) al,iv 0]) (res_tt rfl bd d3 _) ?_)
 have ad:(textV v).1=(asc ⟨#[102,97,108,115,101]⟩):=by first|rfl|(simp only [textV,ac,aa,ab,ag,bsm] <;> rfl)|(exfalso; omega)
 exact⟨aE,al,(by show Ending.returned (.tuple #[sv aE (asc ⟨#[102,97,108,115,101]⟩) al,iv 0])=Ending.returned (.tuple #[sv aE ((textV v).1) al,iv ((textV v).2)]); (first|rfl|(simp only [textV,ac,aa,ab,ag,ad,bsm] <;> rfl)|(exfalso; omega))),(by rw [ad]; exact cB),cz⟩
 have bT:=oF ab
 have cC:=hB bS ab
 refine wp_cond_false cC ?_
 refine wp_seq_k fun f1 cD=>?_
 refine wp_g0 [true,true] [] 38
   [ve (.bool (decide (((cleanV v).k)=3))),ve (.bool (decide (((cleanV v).k)=3)))] ap (.eq (.eq (.nil))) ?_ ?_
 exact .t (fun _ w hn k=>⟨_,v_bin rfl (k.fx 7 bR) rfl (fun _=>rfl) (r_eql rfl),rfl⟩)<| .a (fun k=>k.eq1 0 22 rfl) .nil
 refine aftI ap bl bm fun f2 aM au br av aN aO=>?_
 have bW:=aO.fx 1 bQ
 have bX:=aO.fx 7 bR
 have bY:=aO.ge 1 21 rfl
 have bs:=bn.new_ aN
 have cE:=ch.new_ aN
 have cF:=ci.new_ aN
 refine st_nil (cD _ _ ?_)
 rcases bc (decide (((cleanV v).k)=3)) with ae|ae
 have bZ:=oT ae
 have cG:=hB bY ae
 refine wp_cond_true cG ?_
 refine wp_seq_k fun f3 cH=>?_
 refine wp_g0 [true,true,true,true,true,true] [] 38
   [ve (.pointer (some ⟨q9,1,none⟩)),ve (nv (Nm.mk ((cleanV v).nk) ((cleanV v).nn))),ve (.string (textM (Nm.mk ((cleanV v).nk) ((cleanV v).nn)))),
    (OP aM.heap.size 74 .u16 (asc (textM (Nm.mk ((cleanV v).nk) ((cleanV v).nn))))),
    (OP aM.heap.size 74 .u16 (asc (textM (Nm.mk ((cleanV v).nk) ((cleanV v).nn))))),ve (iv 0)] au (.eq (.eq (.eq (.cons (fun _ _ _ n ⟨_,_,e,h⟩=>⟨_,_,e,h.new_ n⟩) (.cons (fun _ _ _ n ⟨_,_,e,h⟩=>⟨_,_,e,h.new_ n⟩) (.eq (.nil))))))) ?_ ?_
 refine .f (fun k=>k.fx 1 bW)<| .t (fun _ w hn k=>⟨_,v_load rfl (k.eq1 0 23 rfl) (l_part Tryz.isAgg23 Tryz.sizeOf23 (bs.new_ hn) lb),rfl⟩)<| .o1 (ck rfl rfl rfl (fun _ w hn k=>⟨#[nv (Nm.mk ((cleanV v).nk) ((cleanV v).nn))],args1 (k.eq1 1 24 rfl),fun _=>by kernel_rfl,ntext_c (Nm.mk ((cleanV v).nk) ((cleanV v).nn)) _ (HT.up (av.transNew hn))⟩) fun _=>rfl) ?_
 refine .o1 (tkC rfl (noG rfl) rfl fun _ w hn k=>(by
       refine ⟨#[.string (textM (Nm.mk ((cleanV v).nk) ((cleanV v).nn)))],_,args1 (k.eq1 2 25 rfl),fun w=>by kernel_rfl,ascii_c (textM (Nm.mk ((cleanV v).nk) ((cleanV v).nn))) _ (by first|omega|(show (_:Nat)≤_; decide)),?_⟩
       rintro e w' ⟨e6,e7,rfl,hmo0,hm⟩
       exact⟨_,rfl,hm,⟨e6,e7,rfl,(hmo0.more hn.size)⟩⟩)) ?_
 refine .o1 (tk rfl rfl fun _ w hn k=>(by
       obtain⟨e8,e9,fa,d4⟩:(OP aM.heap.size 74 .u16 (asc (textM (Nm.mk ((cleanV v).nk) ((cleanV v).nn))))) _ _:=k.dep 3 26 (by kernel_rfl) (by kernel_rfl)
       exact⟨_,v_assign rfl fa,⟨e8,e9,rfl,d4⟩⟩)) ?_
 exact .t (fun _ w hn k=>⟨_,v_assign rfl rfl,rfl⟩) .nil
 refine aftI au br av fun d5 f4 fC cI cJ fD bt=>?_
 obtain⟨aF,am,be,cK⟩:=bt.G 4 2
 have be:d5.eval (.tmp 2)=sv aF (asc (textM (Nm.mk ((cleanV v).nk) ((cleanV v).nn)))) am:=be
 have d6:=bt.ge 5 3 rfl
 have cL:=cK.more av.size
 refine st_nil (cH _ _ ?_)
 refine wp_ret (ret_k cI (v:=.tuple #[sv aF (asc (textM (Nm.mk ((cleanV v).nk) ((cleanV v).nn)))) am,iv 0]) (res_tt rfl be d6 _) ?_)
 have ad:(textV v).1=(asc (textM (Nm.mk ((cleanV v).nk) ((cleanV v).nn)))):=by first|rfl|(simp only [textV,ac,aa,ab,ae,bsm] <;> rfl)|(exfalso; omega)
 exact⟨aF,am,(by show Ending.returned (.tuple #[sv aF (asc (textM (Nm.mk ((cleanV v).nk) ((cleanV v).nn)))) am,iv 0])=Ending.returned (.tuple #[sv aF ((textV v).1) am,iv ((textV v).2)]); (first|rfl|(simp only [textV,ac,aa,ab,ae,ad,bsm] <;> rfl)|(exfalso; omega))),(by rw [ad]; exact cL),cJ⟩
 have bZ:=oF ae
 have cM:=hB bY ae
 refine wp_cond_false cM ?_
 refine wp_seq_k fun f5 cN=>?_
 refine wp_g0 [true,true] [] 38
   [ve (.bool (decide (((cleanV v).k)=4))),ve (.bool (decide (((cleanV v).k)=4)))] au (.eq (.eq (.nil))) ?_ ?_
 exact .t (fun _ w hn k=>⟨_,v_bin rfl (k.fx 7 bX) rfl (fun _=>rfl) (r_eql rfl),rfl⟩)<| .a (fun k=>k.eq1 0 28 rfl) .nil
 refine aftI au br av fun f6 aP aw bu aQ aR aS=>?_
 have b0:=aS.fx 1 bW
 have d7:=aS.fx 7 bX
 have b1:=aS.ge 1 27 rfl
 have bv:=bs.new_ aR
 have bw:=cE.new_ aR
 have cO:=cF.new_ aR
 refine st_nil (cN _ _ ?_)
 rcases bc (decide (((cleanV v).k)=4)) with af|af
 have b2:=oT af
 have cP:=hB b1 af
 refine wp_cond_true cP ?_
 refine wp_seq_k fun f7 cQ=>?_
 refine wp_g0 [true,true,true,true,true,true] [] 38
   [ve (.pointer (some ⟨q9,3,none⟩)),ve (.agg #[.bool ((cleanV v).neg),sv aW ((cleanV v).mag) ay]),ve (.string (strOfNums (textI (goodI ((cleanV v).neg) ((cleanV v).mag))))),
    (OP aP.heap.size 74 .u16 (asc (strOfNums (textI (goodI ((cleanV v).neg) ((cleanV v).mag)))))),
    (OP aP.heap.size 74 .u16 (asc (strOfNums (textI (goodI ((cleanV v).neg) ((cleanV v).mag)))))),ve (iv 0)] aw (.eq (.eq (.eq (.cons (fun _ _ _ n ⟨_,_,e,h⟩=>⟨_,_,e,h.new_ n⟩) (.cons (fun _ _ _ n ⟨_,_,e,h⟩=>⟨_,_,e,h.new_ n⟩) (.eq (.nil))))))) ?_ ?_
 refine .f (fun k=>k.fx 1 b0)<| .t (fun _ w hn k=>⟨_,v_load rfl (k.eq1 0 29 rfl) (l_part Tryz.isAgg26 Tryz.sizeOf26 (bv.new_ hn) lb),rfl⟩)<| .o1 (ck rfl rfl rfl (fun _ w hn k=>⟨#[.agg #[.bool ((cleanV v).neg),sv aW ((cleanV v).mag) ay]],args1 (k.eq1 1 30 rfl),fun _=>by kernel_rfl,bText_c ((cleanV v).neg) _ ((cleanV v).mag) _ _ (bw.new_ hn) hvv.clean.limbs⟩) fun _=>rfl) ?_
 refine .o1 (tkC rfl (noG rfl) rfl fun _ w hn k=>(by
       refine ⟨#[.string (strOfNums (textI (goodI ((cleanV v).neg) ((cleanV v).mag))))],_,args1 (k.eq1 2 31 rfl),fun w=>by kernel_rfl,ascii_c (strOfNums (textI (goodI ((cleanV v).neg) ((cleanV v).mag)))) _ (by first|omega|(show (_:Nat)≤_; decide)),?_⟩
       rintro e w' ⟨ff,fg,rfl,hmo0,hm⟩
       exact⟨_,rfl,hm,⟨ff,fg,rfl,(hmo0.more hn.size)⟩⟩)) ?_
 refine .o1 (tk rfl rfl fun _ w hn k=>(by
       obtain⟨fh,fi,fj,d8⟩:(OP aP.heap.size 74 .u16 (asc (strOfNums (textI (goodI ((cleanV v).neg) ((cleanV v).mag)))))) _ _:=k.dep 3 32 (by kernel_rfl) (by kernel_rfl)
       exact⟨_,v_assign rfl fj,⟨fh,fi,rfl,d8⟩⟩)) ?_
 exact .t (fun _ w hn k=>⟨_,v_assign rfl rfl,rfl⟩) .nil
 refine aftI aw bu aQ fun d9 f8 fE cR cS fF bx=>?_
 obtain⟨aG,an,bf,cT⟩:=bx.G 4 2
 have bf:d9.eval (.tmp 2)=sv aG (asc (strOfNums (textI (goodI ((cleanV v).neg) ((cleanV v).mag))))) an:=bf
 have ea:=bx.ge 5 3 rfl
 have cU:=cT.more aQ.size
 refine st_nil (cQ _ _ ?_)
 refine wp_ret (ret_k cR (v:=.tuple #[sv aG (asc (strOfNums (textI (goodI ((cleanV v).neg) ((cleanV v).mag))))) an,iv 0]) (res_tt rfl bf ea _) ?_)
 have ad:(textV v).1=(asc (strOfNums (textI (goodI ((cleanV v).neg) ((cleanV v).mag))))):=by first|rfl|(simp only [textV,ac,aa,ab,ae,af,bsm] <;> rfl)|(exfalso; omega)
 exact⟨aG,an,(by show Ending.returned (.tuple #[sv aG (asc (strOfNums (textI (goodI ((cleanV v).neg) ((cleanV v).mag))))) an,iv 0])=Ending.returned (.tuple #[sv aG ((textV v).1) an,iv ((textV v).2)]); (first|rfl|(simp only [textV,ac,aa,ab,ae,af,ad,bsm] <;> rfl)|(exfalso; omega))),(by rw [ad]; exact cU),cS⟩
 have b2:=oF af
 have cV:=hB b1 af
 refine wp_cond_false cV ?_
 refine wp_seq_k fun f9 cW=>?_
 refine wp_g0 [true,true] [] 38
   [ve (.bool (decide (((cleanV v).k)=5))),ve (.bool (decide (((cleanV v).k)=5)))] aw (.eq (.eq (.nil))) ?_ ?_
 exact .t (fun _ w hn k=>⟨_,v_bin rfl (k.fx 7 d7) rfl (fun _=>rfl) (r_eql rfl),rfl⟩)<| .a (fun k=>k.eq1 0 34 rfl) .nil
 refine aftI aw bu aQ fun ga aT ax bz aU aV bA=>?_
 have eb:=bA.fx 1 b0
 have b3:=bA.ge 1 33 rfl
 have cX:=bv.new_ aV
 have fG:=bw.new_ aV
 have cY:=cO.new_ aV
 refine st_nil (cW _ _ ?_)
 rcases bc (decide (((cleanV v).k)=5)) with ah|ah
 have b4:=oT ah
 have cZ:=hB b3 ah
 refine wp_cond_true cZ ?_
 refine wp_seq_k fun gb c0=>?_
 refine wp_g0 [true,true,true,true,true] [] 38
   [ve (.pointer (some ⟨q9,5,none⟩)),ve (sv az ((cleanV v).s) aA),
    (OP aT.heap.size 74 .u16 ((cleanV v).s)),
    (OP aT.heap.size 74 .u16 ((cleanV v).s)),ve (iv 0)] ax (.eq (.eq (.cons (fun _ _ _ n ⟨_,_,e,h⟩=>⟨_,_,e,h.new_ n⟩) (.cons (fun _ _ _ n ⟨_,_,e,h⟩=>⟨_,_,e,h.new_ n⟩) (.eq (.nil)))))) ?_ ?_
 refine .f (fun k=>k.fx 1 eb)<| .t (fun _ w hn k=>⟨_,v_load rfl (k.eq1 0 35 rfl) (l_one Tryz.isAgg27 ((cX.new_ hn).cell 5)),rfl⟩) ?_
 refine .o1 (tkC rfl (noG rfl) rfl fun _ w hn k=>(by
       refine ⟨#[sv az ((cleanV v).s) aA],_,args1 (k.eq1 1 36 rfl),fun w=>by kernel_rfl,clone16_c _ ((cleanV v).s) _ _ (cY.new_ hn) (by first|omega|(simp only [List.length_nil,List.length_take,List.length_drop]; omega)|(simp only [List.length_cons,List.length_nil]; omega)),?_⟩
       rintro e w' ⟨fo,fp,rfl,hmo0,hm⟩
       exact⟨_,rfl,hm,⟨fo,fp,rfl,(hmo0.more hn.size)⟩⟩)) ?_
 refine .o1 (tk rfl rfl fun _ w hn k=>(by
       obtain⟨fq,fs,ft,ec⟩:(OP aT.heap.size 74 .u16 ((cleanV v).s)) _ _:=k.dep 2 37 (by kernel_rfl) (by kernel_rfl)
       exact⟨_,v_assign rfl ft,⟨fq,fs,rfl,ec⟩⟩)) ?_
 exact .t (fun _ w hn k=>⟨_,v_assign rfl rfl,rfl⟩) .nil
 refine aftI ax bz aU fun ed gc fH c1 c3 fI bB=>?_
 obtain⟨aH,ao,bg,c5⟩:=bB.G 3 2
 have bg:ed.eval (.tmp 2)=sv aH ((cleanV v).s) ao:=bg
 have ee:=bB.ge 4 3 rfl
 have c9:=c5.more aU.size
 refine st_nil (c0 _ _ ?_)
 refine wp_ret (ret_k c1 (v:=.tuple #[sv aH ((cleanV v).s) ao,iv 0]) (res_tt rfl bg ee _) ?_)
 have ad:(textV v).1=((cleanV v).s):=by first|rfl|(simp only [textV,ac,aa,ab,ae,af,ah,bsm] <;> rfl)|(exfalso; omega)
 exact⟨aH,ao,(by show Ending.returned (.tuple #[sv aH ((cleanV v).s) ao,iv 0])=Ending.returned (.tuple #[sv aH ((textV v).1) ao,iv ((textV v).2)]); (first|rfl|(simp only [textV,ac,aa,ab,ae,af,ah,ad,bsm] <;> rfl)|(exfalso; omega))),(by rw [ad]; exact c9),c3⟩
 have b4:=oF ah
 have da:=hB b3 ah
 refine wp_cond_false da ?_
 refine wp_skip ?_
 refine dy _ _ ?_
 refine wp_seq_k fun gd db=>?_
 refine wp_g0 [true,true] [] 38
   [ve (sv none ([]) 0),ve (iv 3)] ax (.eq (.eq (.nil))) ?_ ?_
 exact .t (fun _ w hn k=>⟨_,v_assign rfl rfl,rfl⟩)<| .t (fun _ w hn k=>⟨_,v_assign rfl rfl,rfl⟩) .nil
 refine aftI ax bz aU fun gf gg fJ dc dd fK bC=>?_
 have ef:=bC.ge 0 2 rfl
 have eg:=bC.ge 1 3 rfl
 refine st_nil (db _ _ ?_)
 refine wp_ret (ret_k dc (v:=.tuple #[sv none ([]) 0,iv 3]) (res_tt rfl ef eg _) ?_)
 have ad:(textV v).1=[]:=by first|rfl|(simp only [textV,ac,aa,ab,ae,af,ah,bsm] <;> rfl)|(exfalso; omega)
 exact⟨none,0,(by show Ending.returned (.tuple #[sv none ([]) 0,iv 3])=Ending.returned (.tuple #[sv none ((textV v).1) 0,iv ((textV v).2)]); (first|rfl|(simp only [textV,ac,aa,ab,ae,af,ah,ad,bsm] <;> rfl)|(exfalso; omega))),(by rw [ad]; exact (SOwn.nil _ _ _ _)),dd⟩
def join_c_P (v:Vl) (Av:Option Addr) (cv:Nat) (Bv:Option Addr) (dv:Nat) (u:Vl) (Au:Option Addr) (cu:Nat) (Bu:Option Addr) (du:Nat) (w:World) (en:Ending) (w':World):Prop:=∃ (Ar0:Option Addr) (cr0:Nat) (Ar1:Option Addr) (cr1:Nat),en=.returned (.tuple #[vv (joinV v u).1 Ar0 cr0 Ar1 cr1,iv ((joinV v u).2)])∧SRow w' .u32 Ar0 ((joinV v u).1.mag) cr0∧SRow w' .u16 Ar1 ((joinV v u).1.s) cr1∧New w w'
theorem join_c (v:Vl) (Av:Option Addr) (cv:Nat) (Bv:Option Addr) (dv:Nat) (u:Vl) (Au:Option Addr) (cu:Nat) (Bu:Option Addr) (du:Nat) (w:World) (hmv:SRow w .u32 Av v.mag cv) (hsv:SRow w .u16 Bv v.s dv) (hmu:SRow w .u32 Au u.mag cu) (hsu:SRow w .u16 Bu u.s du) (hvv:VOk v) (hvu:VOk u) (HT:ItoaOk w):Calls Tryz.prog 35 #[vv v Av cv Bv dv,vv u Au cu Bu du] w (join_c_P v Av cv Bv dv u Au cu Bu du w):=by
 refine enter_abs Tryz.func35 rfl fun a0 a8 ex hp=>?_
 have a8:a0.tmps.size=40:=a8
 have a9:New w w:=Upd.refl _ _
 have hp0:a0.eval (.tmp 0)=vv v Av cv Bv dv:=hp 0 _ rfl
 have hp1:a0.eval (.tmp 1)=vv u Au cu Bu du:=hp 1 _ rfl
 have htl1:=text_len hvv
 have htl2:=text_len hvu
 refine wp_seq_k fun K1 ey=>?_
 refine wp_g [true,true,true,true] [] [] 40
   [IsNew w 29 (c7 v Av cv Bv dv),IsNew w 29 (c7 u Au cu Bu du),IsNew w 29 z7,ve (iv 0)]
   [0,1,2] (newsCons (fun v w h=>IsNew.old h) (newsCons (fun v w h=>IsNew.old h) (newsCons (fun v w h=>IsNew.old h) newsNil))) a8 (.nw (.nw (.nw (.eq (.nil))))) ?_ (fun i h=>by cases h) ?_
 exact .o2 (step_allocN (cs:=(c7 v Av cv Bv dv)) (t:=29) rfl (noG rfl) (fun _ w hn k=>v_box rfl (k.fx 0 hp0) (fun w=>rfl)) (fun q _ hq hb=>⟨q,rfl,hq,hb⟩))<| .o2 (step_allocN (cs:=(c7 u Au cu Bu du)) (t:=29) rfl (noG rfl) (fun _ w hn k=>v_box rfl (k.fx 1 hp1) (fun w=>rfl)) (fun q _ hq hb=>⟨q,rfl,hq,hb⟩))<| .o2 (step_allocN (cs:=z7) (t:=29) rfl (noG rfl) (fun _ w hn k=>rfl) (fun q _ hq hb=>⟨q,rfl,hq,hb⟩))<| .t (fun _ w hn k=>⟨_,v_assign rfl rfl,rfl⟩) .nil
 refine aftI a8 ex a9 fun a2 w3 dx ez aC f9 a3=>?_
 obtain⟨q9,h8,dE,dF⟩:=a3.G 0 2
 obtain⟨eA,dy,dG,dH⟩:=a3.G 1 3
 obtain⟨aI,bw,dI,dJ⟩:=a3.G 2 4
 have hne20:q9 ≠ aI:=a3.ne 0 2 2 4 h8 bw
 have hne21:eA ≠ aI:=a3.ne 1 2 3 4 dy bw
 have fq:=Nat.le_trans a9.size dE
 have fs:=Nat.le_trans a9.size dG
 have ft:=Nat.le_trans a9.size dI
 refine st_nil (ey _ _ (wp_seq_k fun ga dK=>?_))
 refine wp_g0 [true,true,true,true,true,true,true] [] 40
   [ve (vv v Av cv Bv dv),(fun (v_:Value) (W:World)=>∃ (A3:Option Addr) (c4:Nat),v_=.tuple #[sv A3 ((textV v).1) c4,iv ((textV v).2)]∧SOwn W w3.heap.size 74 .u16 A3 ((textV v).1) c4),(fun (v_:Value) (W:World)=>∃ (A9:Option Addr) (ao:Nat),v_=.tuple #[sv A9 ((textV v).1) ao,iv ((textV v).2)]∧SOwn W w3.heap.size 74 .u16 A9 ((textV v).1) ao),
    (OP w3.heap.size 74 .u16 ((textV v).1)),ve (iv ((textV v).2)),
    (OP w3.heap.size 74 .u16 ((textV v).1)),ve (iv ((textV v).2))] dx (.eq (.cons (fun _ _ _ n ⟨_,_,e,h⟩=>⟨_,_,e,h.new_ n⟩) (.cons (fun _ _ _ n ⟨_,_,e,h⟩=>⟨_,_,e,h.new_ n⟩) (.cons (fun _ _ _ n ⟨_,_,e,h⟩=>⟨_,_,e,h.new_ n⟩) (.eq (.cons (fun _ _ _ n ⟨_,_,e,h⟩=>⟨_,_,e,h.new_ n⟩) (.eq (.nil)))))))) ?_ ?_
 refine .t (fun _ w hn k=>⟨_,v_load rfl (k.fx 2 h8) (l_agg Tryz.isAgg29 Tryz.sizeOf29 (dF.new_ hn) rfl),rfl⟩) ?_
 refine .o1 (tkC rfl (noG rfl) rfl fun _ w hn k=>(by
       refine ⟨#[vv v Av cv Bv dv],_,args1 (k.eq1 0 10 rfl),fun w=>by kernel_rfl,ctext_c v _ _ _ _ _ (hmv.new_ (aC.transNew hn)) (hsv.new_ (aC.transNew hn)) hvv (HT.up (aC.transNew hn)),?_⟩
       rintro e w' ⟨A1,c2,rfl,hmo0,hm⟩
       exact⟨_,rfl,hm,⟨A1,c2,rfl,(hmo0.more hn.size)⟩⟩)) ?_
 refine .o1 (tk rfl rfl fun _ w hn k=>(by
       obtain⟨A5,c6,e7,eF⟩:(fun (v_:Value) (W:World)=>∃ (A3:Option Addr) (c4:Nat),v_=.tuple #[sv A3 ((textV v).1) c4,iv ((textV v).2)]∧SOwn W w3.heap.size 74 .u16 A3 ((textV v).1) c4) _ _:=k.dep 1 11 (by kernel_rfl) (by kernel_rfl)
       exact⟨_,v_move rfl e7,⟨A5,c6,rfl,eF⟩⟩)) ?_
 refine .o1 (tk rfl rfl fun _ w hn k=>(by
       obtain⟨eG,eH,eI,dL⟩:(fun (v_:Value) (W:World)=>∃ (A9:Option Addr) (ao:Nat),v_=.tuple #[sv A9 ((textV v).1) ao,iv ((textV v).2)]∧SOwn W w3.heap.size 74 .u16 A9 ((textV v).1) ao) _ _:=k.dep 2 9 (by kernel_rfl) (by kernel_rfl)
       exact⟨_,v_extract rfl eI rfl,⟨eG,eH,rfl,dL⟩⟩)) ?_
 refine .o1 (tk rfl rfl fun _ w hn k=>(by
       obtain⟨gb,gc,eJ,fu⟩:(fun (v_:Value) (W:World)=>∃ (A9:Option Addr) (ao:Nat),v_=.tuple #[sv A9 ((textV v).1) ao,iv ((textV v).2)]∧SOwn W w3.heap.size 74 .u16 A9 ((textV v).1) ao) _ _:=k.dep 2 9 (by kernel_rfl) (by kernel_rfl)
       exact⟨_,v_extract rfl eJ rfl,rfl⟩)) ?_
 refine .o1 (tk rfl rfl fun _ w hn k=>(by
       obtain⟨eK,eL,eM,dM⟩:(OP w3.heap.size 74 .u16 ((textV v).1)) _ _:=k.dep 3 12 (by kernel_rfl) (by kernel_rfl)
       exact⟨_,v_assign rfl eM,⟨eK,eL,rfl,dM⟩⟩)) ?_
 exact .a (fun k=>k.eq1 4 13 rfl) .nil
 refine aftI dx ez aC fun eN gd aJ bx bz bA aK=>?_
 have dz:=aK.fx 3 dy
 have dA:=aK.fx 4 bw
 obtain⟨ba,aL,bb,dN⟩:=aK.G 5 6
 have bb:eN.eval (.tmp 6)=sv ba ((textV v).1) aL:=bb
 have bd:=aK.ge 6 7 rfl
 have bB:=dH.new_ bA
 have bC:=dJ.new_ bA
 have bD:=dN.more aC.size
 refine st_nil (dK _ _ (wp_seq_k fun gf dO=>?_))
 refine wp_seq_k fun gg bE=>?_
 rcases bc (decide (((textV v).2)=0)) with aa|aa
 have ch:=oT aa
 refine wp_g0 [true,true] [] 40
   [ve (iv ((textV v).2)),vF] aJ (.eq (.eq (.nil))) ?_ ?_
 exact .m (fun k=>k.fx 7 bd)<| .t (fun _ w hn k=>⟨_,v_bin rfl (k.eq1 0 14 rfl) rfl (fun _=>rfl) (r_neq aa),rfl⟩) .nil
 refine aftI aJ bx bz fun gh ar bF dP aD a4 aE=>?_
 have eO:=aE.fx 3 dz
 have eP:=aE.fx 4 dA
 have eQ:=aE.fx 6 bb
 have gi:=aE.fx 7 bd
 have eR:=aE.ge 1 15 rfl
 have dQ:=bB.new_ a4
 have dR:=bC.new_ a4
 have dS:=bD.new_ a4
 refine st_nil (bE _ _ ?_)
 refine wp_cond_false eR ?_
 refine wp_skip ?_
 refine dO _ _ ?_
 refine wp_seq_k fun gj dT=>?_
 refine wp_g0 [true,true,true,true,true,true,true] [] 40
   [ve (vv u Au cu Bu du),(fun (v_:Value) (W:World)=>∃ (aF:Option Addr) (aG:Nat),v_=.tuple #[sv aF ((textV u).1) aG,iv ((textV u).2)]∧SOwn W ar.heap.size 74 .u16 aF ((textV u).1) aG),(fun (v_:Value) (W:World)=>∃ (ap:Option Addr) (aq:Nat),v_=.tuple #[sv ap ((textV u).1) aq,iv ((textV u).2)]∧SOwn W ar.heap.size 74 .u16 ap ((textV u).1) aq),
    (OP ar.heap.size 74 .u16 ((textV u).1)),ve (iv ((textV u).2)),
    (OP ar.heap.size 74 .u16 ((textV u).1)),ve (iv ((textV u).2))] bF (.eq (.cons (fun _ _ _ n ⟨_,_,e,h⟩=>⟨_,_,e,h.new_ n⟩) (.cons (fun _ _ _ n ⟨_,_,e,h⟩=>⟨_,_,e,h.new_ n⟩) (.cons (fun _ _ _ n ⟨_,_,e,h⟩=>⟨_,_,e,h.new_ n⟩) (.eq (.cons (fun _ _ _ n ⟨_,_,e,h⟩=>⟨_,_,e,h.new_ n⟩) (.eq (.nil)))))))) ?_ ?_
 refine .t (fun _ w hn k=>⟨_,v_load rfl (k.fx 3 eO) (l_agg Tryz.isAgg29 Tryz.sizeOf29 (dQ.new_ hn) rfl),rfl⟩) ?_
 refine .o1 (tkC rfl (noG rfl) rfl fun _ w hn k=>(by
       refine ⟨#[vv u Au cu Bu du],_,args1 (k.eq1 0 19 rfl),fun w=>by kernel_rfl,ctext_c u _ _ _ _ _ (hmu.new_ (aD.transNew hn)) (hsu.new_ (aD.transNew hn)) hvu (HT.up (aD.transNew hn)),?_⟩
       rintro e w' ⟨eW,eX,rfl,hmo0,hm⟩
       exact⟨_,rfl,hm,⟨eW,eX,rfl,(hmo0.more hn.size)⟩⟩)) ?_
 refine .o1 (tk rfl rfl fun _ w hn k=>(by
       obtain⟨eY,eZ,e0,dU⟩:(fun (v_:Value) (W:World)=>∃ (aF:Option Addr) (aG:Nat),v_=.tuple #[sv aF ((textV u).1) aG,iv ((textV u).2)]∧SOwn W ar.heap.size 74 .u16 aF ((textV u).1) aG) _ _:=k.dep 1 20 (by kernel_rfl) (by kernel_rfl)
       exact⟨_,v_move rfl e0,⟨eY,eZ,rfl,dU⟩⟩)) ?_
 refine .o1 (tk rfl rfl fun _ w hn k=>(by
       obtain⟨e1,e2,e3,dV⟩:(fun (v_:Value) (W:World)=>∃ (ap:Option Addr) (aq:Nat),v_=.tuple #[sv ap ((textV u).1) aq,iv ((textV u).2)]∧SOwn W ar.heap.size 74 .u16 ap ((textV u).1) aq) _ _:=k.dep 2 18 (by kernel_rfl) (by kernel_rfl)
       exact⟨_,v_extract rfl e3 rfl,⟨e1,e2,rfl,dV⟩⟩)) ?_
 refine .o1 (tk rfl rfl fun _ w hn k=>(by
       obtain⟨gk,gl,e4,fv⟩:(fun (v_:Value) (W:World)=>∃ (ap:Option Addr) (aq:Nat),v_=.tuple #[sv ap ((textV u).1) aq,iv ((textV u).2)]∧SOwn W ar.heap.size 74 .u16 ap ((textV u).1) aq) _ _:=k.dep 2 18 (by kernel_rfl) (by kernel_rfl)
       exact⟨_,v_extract rfl e4 rfl,rfl⟩)) ?_
 refine .o1 (tk rfl rfl fun _ w hn k=>(by
       obtain⟨e5,e6,e8,dW⟩:(OP ar.heap.size 74 .u16 ((textV u).1)) _ _:=k.dep 3 21 (by kernel_rfl) (by kernel_rfl)
       exact⟨_,v_assign rfl e8,⟨e5,e6,rfl,dW⟩⟩)) ?_
 exact .a (fun k=>k.eq1 4 22 rfl) .nil
 refine aftI bF dP aD fun e9 gm aM bG bH bI aN=>?_
 have dB:=aN.fx 4 eP
 have dC:=aN.fx 6 eQ
 obtain⟨be,aO,bf,dX⟩:=aN.G 5 8
 have bf:e9.eval (.tmp 8)=sv be ((textV u).1) aO:=bf
 have bg:=aN.ge 6 7 rfl
 have bJ:=dR.new_ bI
 have bK:=dS.new_ bI
 have bL:=dX.more aD.size
 refine st_nil (dT _ _ (wp_seq_k fun gn dY=>?_))
 refine wp_block ?_
 refine wp_seq_k fun go bM=>?_
 rcases bc (decide (((textV u).2)=0)) with ab|ab
 have ci:=oT ab
 refine wp_g0 [true,true,true] [] 40
   [ve (iv ((textV u).2)),vF,vF] aM (.eq (.eq (.eq (.nil)))) ?_ ?_
 exact .m (fun k=>k.fx 7 bg)<| .t (fun _ w hn k=>⟨_,v_bin rfl (k.eq1 0 24 rfl) rfl (fun _=>rfl) (r_neq ab),rfl⟩)<| .a (fun k=>k.eq1 1 25 rfl) .nil
 refine aftI aM bG bH fun gp gq aP bN bO a5 aH=>?_
 have dD:=aH.fx 4 dB
 have bh:=aH.fx 6 dC
 have bi:=aH.fx 8 bf
 have gr:=aH.fx 7 bg
 have fa:=aH.ge 2 23 rfl
 have bP:=bJ.new_ a5
 have bQ:=bK.new_ a5
 have bR:=bL.new_ a5
 refine st_nil (bM _ _ ?_)
 refine wp_cond_false fa ?_
 refine wp_seq_k fun gs bS=>?_
 rcases bc (decide ((((((textV v).1).length) + (((textV u).1).length):Nat):Int)≤4096)) with ae|ae
 have cj:=oT ae
 refine wp_g0 [true,true,true,true,true,true,true] [] 40
   [ve (sv ba ((textV v).1) aL),ve (iv (((textV v).1).length:Int)),ve (sv be ((textV u).1) aO),ve (iv (((textV u).1).length:Int)),ve (iv (((((textV v).1).length) + (((textV u).1).length):Nat):Int)),vF,vF] aP (.eq (.eq (.eq (.eq (.eq (.eq (.eq (.nil)))))))) ?_ ?_
 exact .m (fun k=>k.fx 6 bh)<| .t (fun _ w hn k=>⟨_,v_lenR rfl elU (k.eq1 0 29 rfl),rfl⟩)<| .m (fun k=>k.fx 8 bi)<| .t (fun _ w hn k=>⟨_,v_lenR rfl elU (k.eq1 2 31 rfl),rfl⟩)<| .t (fun _ w hn k=>⟨_,v_bin rfl (k.eq1 1 30 rfl) (k.eq1 3 32 rfl) (fun _=>rfl) (n_add (by omega) (IntWalk.i64_in _ (by omega))),rfl⟩)<| .t (fun _ w hn k=>⟨_,v_bin rfl (k.eq1 4 33 rfl) rfl (fun _=>rfl) (r_gtrK ae),rfl⟩)<| .a (fun k=>k.eq1 5 34 rfl) .nil
 refine aftI aP bN bO fun fw fy bj cl cm aQ ax=>?_
 have dZ:=ax.fx 4 dD
 have d0:=ax.fx 6 bh
 have d1:=ax.fx 8 bi
 have d2:=ax.ge 6 28 rfl
 have cn:=bP.new_ aQ
 have co:=bQ.new_ aQ
 have cp:=bR.new_ aQ
 refine st_nil (bS _ _ ?_)
 refine wp_cond_false d2 ?_
 refine wp_skip ?_
 refine dY _ _ ?_
 refine wp_seq_k fun fz cq=>?_
 have hjl:((textV v).1 ++ (textV u).1).length≤4096:=by rw [List.length_append]; omega
 refine wp_g0 [true,true,false,false,false,false] [(2,false),(3,false),(4,false),(5,true)] 40
   [ve (sv ba ((textV v).1) aL),ve (sv be ((textV u).1) aO),vt,vt,vt,vt] bj (.eq (.eq (.tt (.tt (.tt (.tt (.nil))))))) ?_ ?_
 exact .m (fun k=>k.fx 6 d0)<| .m (fun k=>k.fx 8 d1)<| .off<| .off<| .off<| .off .nil
 refine aftI bj cl cm fun bT fA bk cr bl aR aS=>?_
 have d3:=aS.fx 4 dZ
 have d4:=aS.ge 0 36 rfl
 have d5:=aS.ge 1 37 rfl
 have ct:=cn.new_ aR
 have aT:=co.new_ aR
 have cw:=cp.new_ aR
 have hw136:=bl.size
 refine st_act rfl rfl fun fB cx=>a_append (k:=.u16) (b:=w.heap.size) rfl elU d4 aT d5 cw.row (by first|omega|(simp only [List.length_nil,List.length_cons,List.length_append,List.length_take,List.length_drop,List.length_replicate,List.length_set]; omega)) (by first|omega|(simp only [List.length_nil,List.length_cons,List.length_append,List.length_take,List.length_drop,List.length_replicate,List.length_set]; omega)) hw136 fun aU ay fC bm hg132=>cx _ _ trivial ?_
 have cy:=bl.ownGrown aT hg132
 have cz:=ct.ownGrown aT (by decide) hg132
 obtain⟨a6,au⟩:∃ a',a'=bT.put (some 38) (sv aU ((textV v).1 ++ (textV u).1) ay):=⟨_,rfl⟩
 have bn:=pz au bk
 have cA:=pd au cr
 have d6:=pn au d3 (by decide)
 have bU:a6.eval (.tmp 38)=sv aU ((textV v).1 ++ (textV u).1) ay:=by rw [au]; exact put_same _ _ _ (by rw [bk]; decide)
 show stepsTo _ _ _ _ _ (bT.put (some 38) (sv aU ((textV v).1 ++ (textV u).1) ay)) _
 rw [← au]
 refine st_act rfl rfl fun fD cB=>?_
 refine a_call (args:=#[sv aU ((textV v).1 ++ (textV u).1) ay]) rfl (args1 bU) (fun w=>by kernel_rfl) (cstr_c _ ((textV v).1 ++ (textV u).1) _ _ bm.row (by first|omega|(simp only [List.length_nil,List.length_take,List.length_drop]; omega)|(simp only [List.length_cons,List.length_nil]; omega))) ?_
 rintro fE fF ⟨af,ac,ag,ad,rfl,cC,cD,aV⟩
 refine ⟨_,rfl,cB _ _ trivial ?_⟩
 have az:=cz.new_ aV
 have cE:=bm.new_ aV
 have cF:=cy.transNew aV
 obtain⟨a7,am⟩:∃ a',a'=a6.put (some 39) (vv (strV ((textV v).1 ++ (textV u).1)) af ac ag ad):=⟨_,rfl⟩
 have bo:=pz am bn
 have cG:=pd am cA
 have bV:=pn am d6 (by decide)
 have d7:=pn am bU (by decide)
 have bW:a7.eval (.tmp 39)=vv (strV ((textV v).1 ++ (textV u).1)) af ac ag ad:=by rw [am]; exact put_same _ _ _ (by rw [bn]; decide)
 show stepsTo _ _ _ _ _ (a6.put (some 39) (vv (strV ((textV v).1 ++ (textV u).1)) af ac ag ad)) _
 rw [← am]
 obtain⟨d8,bX,bY,aA,fb⟩:=s_many (P:=Tryz.prog) (t:=29) (i:=0) (c7 (strV ((textV v).1 ++ (textV u).1)) af ac ag ad) Tryz.sizeOf29 rfl rfl rfl az lb
 have cH:Blk d8 aI 29 (c7 (strV ((textV v).1 ++ (textV u).1)) af ac ag ad):=bY
 refine st_act rfl rfl fun fG cI=>a_store' rfl bV bW bX (cI _ _ trivial ?_)
 have fc:=cE.far az aA (by decide)
 have cJ:=cC.fr az aA
 have cK:=cD.fr az aA
 have cL:=cF.trans aA (fun _ h b=>by subst b; omega)
 refine st_take rfl rfl (y_assign (v:=iv 0) rfl rfl) rfl ?_
 obtain⟨d9,ah⟩:∃ a',a'=a7.put (some 5) (iv 0):=⟨_,rfl⟩
 have fd:=pz ah bo
 have cM:=pd ah cG
 have ea:=pn ah bV (by decide)
 have fH:=pn ah d7 (by decide)
 have fI:=pn ah bW (by decide)
 have eb:d9.eval (.tmp 5)=iv 0:=by rw [ah]; exact put_same _ _ _ (by rw [bo]; decide)
 show stepsTo _ _ _ _ _ (a7.put (some 5) (iv 0)) _
 rw [← ah]
 refine st_nil (cq _ _ ?_)
 refine wp_ret (ret_k cM (v:=.tuple #[vv (strV ((textV v).1 ++ (textV u).1)) af ac ag ad,iv 0]) (res_ct rfl ea eb (l_agg Tryz.isAgg29 Tryz.sizeOf29 cH rfl)) ?_)
 have ak:(joinV v u).1.mag=(strV ((textV v).1 ++ (textV u).1)).mag:=by first|rfl|(simp only [joinV,Vl.z,aa,ab,ae,bsm] <;> rfl)|(exfalso; omega)
 have al:(joinV v u).1.s=(strV ((textV v).1 ++ (textV u).1)).s:=by first|rfl|(simp only [joinV,Vl.z,aa,ab,ae,bsm] <;> rfl)|(exfalso; omega)
 exact⟨af,ac,ag,ad,(by show Ending.returned (.tuple #[vv (strV ((textV v).1 ++ (textV u).1)) af ac ag ad,iv 0])=Ending.returned (.tuple #[vv (joinV v u).1 af ac ag ad,iv ((joinV v u).2)]); (first|rfl|(simp only [joinV,Vl.z,aa,ab,ae,ak,al,bsm] <;> rfl)|(exfalso; omega))),(by rw [ak]; exact cJ),(by rw [al]; exact cK),cL⟩
 have cj:=oF ae
 refine wp_g0 [true,true,true,true,true,true,true] [] 40
   [ve (sv ba ((textV v).1) aL),ve (iv (((textV v).1).length:Int)),ve (sv be ((textV u).1) aO),ve (iv (((textV u).1).length:Int)),ve (iv (((((textV v).1).length) + (((textV u).1).length):Nat):Int)),vT,vT] aP (.eq (.eq (.eq (.eq (.eq (.eq (.eq (.nil)))))))) ?_ ?_
 exact .m (fun k=>k.fx 6 bh)<| .t (fun _ w hn k=>⟨_,v_lenR rfl elU (k.eq1 0 29 rfl),rfl⟩)<| .m (fun k=>k.fx 8 bi)<| .t (fun _ w hn k=>⟨_,v_lenR rfl elU (k.eq1 2 31 rfl),rfl⟩)<| .t (fun _ w hn k=>⟨_,v_bin rfl (k.eq1 1 30 rfl) (k.eq1 3 32 rfl) (fun _=>rfl) (n_add (by omega) (IntWalk.i64_in _ (by omega))),rfl⟩)<| .t (fun _ w hn k=>⟨_,v_bin rfl (k.eq1 4 33 rfl) rfl (fun _=>rfl) (r_gtrK ae),rfl⟩)<| .a (fun k=>k.eq1 5 34 rfl) .nil
 refine aftI aP bN bO fun fJ fK bp cN cO aW aB=>?_
 have ec:=aB.fx 4 dD
 have fL:=aB.fx 6 bh
 have fM:=aB.fx 8 bi
 have ed:=aB.ge 6 28 rfl
 have cP:=bP.new_ aW
 have fe:=bQ.new_ aW
 have ff:=bR.new_ aW
 refine st_nil (bS _ _ ?_)
 refine wp_cond_true ed ?_
 refine wp_seq_k fun fN cQ=>?_
 refine wp_g0 [true,false,false] [(1,false),(2,true)] 40
   [ve (vv (Vl.mk 0 0 0 false [] [] 0) none 0 none 0),vt,vt] bp (.eq (.tt (.tt (.nil)))) ?_ ?_
 exact .t (fun _ w hn k=>⟨_,v_build (ps:=[]) rfl parts0 (by kernel_rfl),rfl⟩)<| .off<| .off .nil
 refine aftI bp cN cO fun bZ fO bq cR cS cT br=>?_
 have b0:=br.fx 4 ec
 have b1:=br.ge 0 35 rfl
 have cU:=cP.new_ cT
 obtain⟨ee,b2,b3,cV,fg⟩:=s_many (P:=Tryz.prog) (t:=29) (i:=0) z7 Tryz.sizeOf29 rfl rfl rfl cU lb
 have cW:Blk ee aI 29 z7:=b3
 refine st_act rfl rfl fun fP cX=>a_store' rfl b0 b1 b2 (cX _ _ trivial ?_)
 have cY:=cS.trans cV (fun _ h b=>by subst b; omega)
 refine st_take rfl rfl (y_assign (v:=iv 3) rfl rfl) rfl ?_
 obtain⟨ef,an⟩:∃ a',a'=bZ.put (some 5) (iv 3):=⟨_,rfl⟩
 have fh:=pz an bq
 have cZ:=pd an cR
 have eg:=pn an b0 (by decide)
 have fQ:=pn an b1 (by decide)
 have eh:ef.eval (.tmp 5)=iv 3:=by rw [an]; exact put_same _ _ _ (by rw [bq]; decide)
 show stepsTo _ _ _ _ _ (bZ.put (some 5) (iv 3)) _
 rw [← an]
 refine st_nil (cQ _ _ ?_)
 refine wp_ret (ret_k cZ (v:=.tuple #[vv (Vl.mk 0 0 0 false [] [] 0) none 0 none 0,iv 3]) (res_ct rfl eg eh (l_agg Tryz.isAgg29 Tryz.sizeOf29 cW rfl)) ?_)
 have ak:(joinV v u).1.mag=[]:=by first|rfl|(simp only [joinV,Vl.z,aa,ab,ae,bsm] <;> rfl)|(exfalso; omega)
 have al:(joinV v u).1.s=[]:=by first|rfl|(simp only [joinV,Vl.z,aa,ab,ae,bsm] <;> rfl)|(exfalso; omega)
 exact⟨none,0,none,0,(by show Ending.returned (.tuple #[vv (Vl.mk 0 0 0 false [] [] 0) none 0 none 0,iv 3])=Ending.returned (.tuple #[vv (joinV v u).1 none 0 none 0,iv ((joinV v u).2)]); (first|rfl|(simp only [joinV,Vl.z,aa,ab,ae,ak,al,bsm] <;> rfl)|(exfalso; omega))),(by rw [ak]; exact (SRow.nil _ _)),(by rw [al]; exact (SRow.nil _ _)),cY⟩
 have ci:=oF ab
 refine wp_g0 [true,true,true] [] 40
   [ve (iv ((textV u).2)),vT,vT] aM (.eq (.eq (.eq (.nil)))) ?_ ?_
 exact .m (fun k=>k.fx 7 bg)<| .t (fun _ w hn k=>⟨_,v_bin rfl (k.eq1 0 24 rfl) rfl (fun _=>rfl) (r_neq ab),rfl⟩)<| .a (fun k=>k.eq1 1 25 rfl) .nil
 refine aftI aM bG bH fun fR fS bs c0 c1 aX av=>?_
 have ei:=av.fx 4 dB
 have fT:=av.fx 6 dC
 have fU:=av.fx 8 bf
 have ej:=av.fx 7 bg
 have ek:=av.ge 2 23 rfl
 have c3:=bJ.new_ aX
 have fi:=bK.new_ aX
 have fj:=bL.new_ aX
 refine st_nil (bM _ _ ?_)
 refine wp_cond_true ek ?_
 refine wp_seq_k fun fV c5=>?_
 refine wp_g [true,true,false,false] [1] [(2,false),(3,true)] 40
   [ve (vv (Vl.mk 0 0 0 false [] [] 0) none 0 none 0),ve (iv ((textV u).2)),vt,vt]
   [] newsNil bs (.eq (.eq (.tt (.tt (.nil))))) ?_ ?_ ?_
 refine .t (fun _ w hn k=>⟨_,v_build (ps:=[]) rfl parts0 (by kernel_rfl),rfl⟩) ?_
 refine .o3 ?_
 exact .off<| .off .nil
 intro i h
 simp only [List.contains_eq_mem,List.mem_cons,List.not_mem_nil,or_false,decide_eq_true_eq] at h
 subst h
 exact eager_take rfl rfl fun _ w hn k=>⟨iv ((textV u).2),fun w=>v_move rfl (k.fx 7 ej),rfl⟩
 refine aftI bs c0 c1 fun b4 fW bt c8 c9 da aY=>?_
 have b5:=aY.fx 4 ei
 have b6:=aY.ge 0 26 rfl
 have b7:=aY.ge 1 27 rfl
 have db:=c3.new_ da
 obtain⟨el,b8,b9,dc,fk⟩:=s_many (P:=Tryz.prog) (t:=29) (i:=0) z7 Tryz.sizeOf29 rfl rfl rfl db lb
 have dd:Blk el aI 29 z7:=b9
 refine st_act rfl rfl fun fX de=>a_store' rfl b5 b6 b8 (de _ _ trivial ?_)
 have df:=c9.trans dc (fun _ h b=>by subst b; omega)
 refine st_take rfl rfl (y_assign (v:=iv ((textV u).2)) rfl b7) rfl ?_
 obtain⟨em,ai⟩:∃ a',a'=b4.put (some 5) (iv ((textV u).2)):=⟨_,rfl⟩
 have fl:=pz ai bt
 have dg:=pd ai c8
 have en:=pn ai b5 (by decide)
 have fY:=pn ai b6 (by decide)
 have fZ:=pn ai b7 (by decide)
 have eo:em.eval (.tmp 5)=iv ((textV u).2):=by rw [ai]; exact put_same _ _ _ (by rw [bt]; decide)
 show stepsTo _ _ _ _ _ (b4.put (some 5) (iv ((textV u).2))) _
 rw [← ai]
 refine st_nil (c5 _ _ ?_)
 refine wp_ret (ret_k dg (v:=.tuple #[vv (Vl.mk 0 0 0 false [] [] 0) none 0 none 0,iv ((textV u).2)]) (res_ct rfl en eo (l_agg Tryz.isAgg29 Tryz.sizeOf29 dd rfl)) ?_)
 have ak:(joinV v u).1.mag=[]:=by first|rfl|(simp only [joinV,Vl.z,aa,ab,bsm] <;> rfl)|(exfalso; omega)
 have al:(joinV v u).1.s=[]:=by first|rfl|(simp only [joinV,Vl.z,aa,ab,bsm] <;> rfl)|(exfalso; omega)
 exact⟨none,0,none,0,(by show Ending.returned (.tuple #[vv (Vl.mk 0 0 0 false [] [] 0) none 0 none 0,iv ((textV u).2)])=Ending.returned (.tuple #[vv (joinV v u).1 none 0 none 0,iv ((joinV v u).2)]); (first|rfl|(simp only [joinV,Vl.z,aa,ab,ak,al,bsm] <;> rfl)|(exfalso; omega))),(by rw [ak]; exact (SRow.nil _ _)),(by rw [al]; exact (SRow.nil _ _)),df⟩
 have ch:=oF aa
 refine wp_g0 [true,true] [] 40
   [ve (iv ((textV v).2)),vT] aJ (.eq (.eq (.nil))) ?_ ?_
 exact .m (fun k=>k.fx 7 bd)<| .t (fun _ w hn k=>⟨_,v_bin rfl (k.eq1 0 14 rfl) rfl (fun _=>rfl) (r_neq aa),rfl⟩) .nil
 refine aftI aJ bx bz fun f0 f1 bu dh di aZ aw=>?_
 have f2:=aw.fx 3 dz
 have ep:=aw.fx 4 dA
 have f3:=aw.fx 6 bb
 have er:=aw.fx 7 bd
 have es:=aw.ge 1 15 rfl
 have fm:=bB.new_ aZ
 have dj:=bC.new_ aZ
 have fn:=bD.new_ aZ
 refine st_nil (bE _ _ ?_)
 refine wp_cond_true es ?_
 refine wp_seq_k fun f4 dk=>?_
 refine wp_g [true,true,false,false] [1] [(2,false),(3,true)] 40
   [ve (vv (Vl.mk 0 0 0 false [] [] 0) none 0 none 0),ve (iv ((textV v).2)),vt,vt]
   [] newsNil bu (.eq (.eq (.tt (.tt (.nil))))) ?_ ?_ ?_
 refine .t (fun _ w hn k=>⟨_,v_build (ps:=[]) rfl parts0 (by kernel_rfl),rfl⟩) ?_
 refine .o3 ?_
 exact .off<| .off .nil
 intro i h
 simp only [List.contains_eq_mem,List.mem_cons,List.not_mem_nil,or_false,decide_eq_true_eq] at h
 subst h
 exact eager_take rfl rfl fun _ w hn k=>⟨iv ((textV v).2),fun w=>v_move rfl (k.fx 7 er),rfl⟩
 refine aftI bu dh di fun ca f5 bv dl dm dn a1=>?_
 have cb:=a1.fx 4 ep
 have cc:=a1.ge 0 16 rfl
 have cd:=a1.ge 1 17 rfl
 have dp:=dj.new_ dn
 obtain⟨et,ce,cf,dq,fo⟩:=s_many (P:=Tryz.prog) (t:=29) (i:=0) z7 Tryz.sizeOf29 rfl rfl rfl dp lb
 have dr:Blk et aI 29 z7:=cf
 refine st_act rfl rfl fun f6 ds=>a_store' rfl cb cc ce (ds _ _ trivial ?_)
 have dt:=dm.trans dq (fun _ h b=>by subst b; omega)
 refine st_take rfl rfl (y_assign (v:=iv ((textV v).2)) rfl cd) rfl ?_
 obtain⟨eu,aj⟩:∃ a',a'=ca.put (some 5) (iv ((textV v).2)):=⟨_,rfl⟩
 have fp:=pz aj bv
 have dw:=pd aj dl
 have ev:=pn aj cb (by decide)
 have f7:=pn aj cc (by decide)
 have f8:=pn aj cd (by decide)
 have ew:eu.eval (.tmp 5)=iv ((textV v).2):=by rw [aj]; exact put_same _ _ _ (by rw [bv]; decide)
 show stepsTo _ _ _ _ _ (ca.put (some 5) (iv ((textV v).2))) _
 rw [← aj]
 refine st_nil (dk _ _ ?_)
 refine wp_ret (ret_k dw (v:=.tuple #[vv (Vl.mk 0 0 0 false [] [] 0) none 0 none 0,iv ((textV v).2)]) (res_ct rfl ev ew (l_agg Tryz.isAgg29 Tryz.sizeOf29 dr rfl)) ?_)
 have ak:(joinV v u).1.mag=[]:=by first|rfl|(simp only [joinV,Vl.z,aa,bsm] <;> rfl)|(exfalso; omega)
 have al:(joinV v u).1.s=[]:=by first|rfl|(simp only [joinV,Vl.z,aa,bsm] <;> rfl)|(exfalso; omega)
 exact⟨none,0,none,0,(by show Ending.returned (.tuple #[vv (Vl.mk 0 0 0 false [] [] 0) none 0 none 0,iv ((textV v).2)])=Ending.returned (.tuple #[vv (joinV v u).1 none 0 none 0,iv ((joinV v u).2)]); (first|rfl|(simp only [joinV,Vl.z,aa,ak,al,bsm] <;> rfl)|(exfalso; omega))),(by rw [ak]; exact (SRow.nil _ _)),(by rw [al]; exact (SRow.nil _ _)),dt⟩
def binT_c_P  (v:Vl) (Av:Option Addr) (cv:Nat) (Bv:Option Addr) (dv:Nat) (u:Vl) (Au:Option Addr) (cu:Nat) (Bu:Option Addr) (du:Nat) (w:World) (en:Ending) (w':World):Prop:=∃ (Ar0:Option Addr) (cr0:Nat) (Ar1:Option Addr) (cr1:Nat),en=.returned (.tuple #[vv (joinV (cleanV v) (cleanV u)).1 Ar0 cr0 Ar1 cr1,iv ((joinV (cleanV v) (cleanV u)).2)])∧SRow w' .u32 Ar0 ((joinV (cleanV v) (cleanV u)).1.mag) cr0∧SRow w' .u16 Ar1 ((joinV (cleanV v) (cleanV u)).1.s) cr1∧New w w'
theorem binT_c  (v:Vl) (Av:Option Addr) (cv:Nat) (Bv:Option Addr) (dv:Nat) (u:Vl) (Au:Option Addr) (cu:Nat) (Bu:Option Addr) (du:Nat) (w:World) (hmv:SRow w .u32 Av v.mag cv) (hsv:SRow w .u16 Bv v.s dv) (hmu:SRow w .u32 Au u.mag cu) (hsu:SRow w .u16 Bu u.s du) (hvv:VOk v) (hvu:VOk u) (hk5:(cleanV v).k=5) (HT:ItoaOk w):Calls Tryz.prog 12 #[.string ⟨#[43]⟩,vv v Av cv Bv dv,vv u Au cu Bu du] w (binT_c_P v Av cv Bv dv u Au cu Bu du w):=by
 refine enter_abs Tryz.func12 rfl fun a0 aQ cX hp=>?_
 have aQ:a0.tmps.size=120:=aQ
 have aR:New w w:=Upd.refl _ _
 have hp0:a0.eval (.tmp 0)=.string ⟨#[43]⟩:=hp 0 _ rfl
 have hp1:a0.eval (.tmp 1)=vv v Av cv Bv dv:=hp 1 _ rfl
 have hp2:a0.eval (.tmp 2)=vv u Au cu Bu du:=hp 2 _ rfl
 refine wp_seq_k fun K1 cY=>?_
 refine wp_g [true,true,true,true] [] [] 120
   [IsNew w 29 (c7 v Av cv Bv dv),IsNew w 29 (c7 u Au cu Bu du),IsNew w 29 z7,ve (iv 0)]
   [0,1,2] (newsCons (fun v w h=>IsNew.old h) (newsCons (fun v w h=>IsNew.old h) (newsCons (fun v w h=>IsNew.old h) newsNil))) aQ (.nw (.nw (.nw (.eq (.nil))))) ?_ (fun i h=>by cases h) ?_
 exact .o2 (step_allocN (cs:=(c7 v Av cv Bv dv)) (t:=29) rfl (noG rfl) (fun _ w hn k=>v_box rfl (k.fx 1 hp1) (fun w=>rfl)) (fun q _ hq hb=>⟨q,rfl,hq,hb⟩))<| .o2 (step_allocN (cs:=(c7 u Au cu Bu du)) (t:=29) rfl (noG rfl) (fun _ w hn k=>v_box rfl (k.fx 2 hp2) (fun w=>rfl)) (fun q _ hq hb=>⟨q,rfl,hq,hb⟩))<| .o2 (step_allocN (cs:=z7) (t:=29) rfl (noG rfl) (fun _ w hn k=>rfl) (fun q _ hq hb=>⟨q,rfl,hq,hb⟩))<| .t (fun _ w hn k=>⟨_,v_assign rfl rfl,rfl⟩) .nil
 refine aftI aQ cX aR fun a2 w3 b0 cZ an dT ao=>?_
 have h8:=ao.fx 0 hp0
 obtain⟨aS,h9,b6,a3⟩:=ao.G 0 4
 obtain⟨aT,aU,b7,a4⟩:=ao.G 1 5
 obtain⟨a5,a6,b8,b9⟩:=ao.G 2 6
 have hne21:aS ≠ aT:=ao.ne 0 1 4 5 h9 aU
 have hne22:aS ≠ a5:=ao.ne 0 2 4 6 h9 a6
 have hne23:aT ≠ a5:=ao.ne 1 2 5 6 aU a6
 have dz:=Nat.le_trans aR.size b6
 have dA:=Nat.le_trans aR.size b7
 have dB:=Nat.le_trans aR.size b8
 refine st_nil (cY _ _ (wp_seq_k fun dU ca=>?_))
 refine wp_g0 [true,true,true,true,false,false] [(4,false),(5,false)] 120
   [ve (vv v Av cv Bv dv),
    (VP (cleanV v)),ve (vv u Au cu Bu du),
    (VP (cleanV u)),vt,vt] b0 (.eq (.cons (fun _ _ _ n ⟨_,_,_,_,e,h,i⟩=>⟨_,_,_,_,e,h.new_ n,i.new_ n⟩) (.eq (.cons (fun _ _ _ n ⟨_,_,_,_,e,h,i⟩=>⟨_,_,_,_,e,h.new_ n,i.new_ n⟩) (.tt (.tt (.nil))))))) ?_ ?_
 refine .t (fun _ w hn k=>⟨_,v_load rfl (k.fx 4 h9) (l_agg Tryz.isAgg29 Tryz.sizeOf29 (a3.new_ hn) rfl),rfl⟩) ?_
 refine .o1 (tkC rfl (noG rfl) rfl fun _ w hn k=>(by
       refine ⟨#[vv v Av cv Bv dv],_,args1 (k.eq1 0 10 rfl),fun w=>by kernel_rfl,clean_c v _ _ _ _ _ (hmv.new_ (an.transNew hn)) (hsv.new_ (an.transNew hn)),?_⟩
       rintro e w' ⟨A1,c2,A3,c4,rfl,hmo0,hmo1,hm⟩
       exact⟨_,rfl,hm,⟨A1,c2,A3,c4,rfl,hmo0,hmo1⟩⟩)) ?_
 refine .t (fun _ w hn k=>⟨_,v_load rfl (k.fx 5 aU) (l_agg Tryz.isAgg29 Tryz.sizeOf29 (a4.new_ hn) rfl),rfl⟩) ?_
 refine .o1 (tkC rfl (noG rfl) rfl fun _ w hn k=>(by
       refine ⟨#[vv u Au cu Bu du],_,args1 (k.eq1 2 12 rfl),fun w=>by kernel_rfl,clean_c u _ _ _ _ _ (hmu.new_ (an.transNew hn)) (hsu.new_ (an.transNew hn)),?_⟩
       rintro e w' ⟨A9,c9,da,db,rfl,hmo0,hmo1,hm⟩
       exact⟨_,rfl,hm,⟨A9,c9,da,db,rfl,hmo0,hmo1⟩⟩)) ?_
 exact .off<| .off .nil
 refine aftI b0 cZ an fun b1 dV a7 cb cc aO am=>?_
 have b2:=am.fx 0 h8
 have b3:=am.fx 4 h9
 have b4:=am.fx 5 aU
 have dc:=am.fx 6 a6
 obtain⟨aL,ap,aM,aq,a8,cd,ce⟩:=am.G 1 11
 have a8:b1.eval (.tmp 11)=vv (cleanV v) aL ap aM aq:=a8
 obtain⟨aN,ar,aG,au,a9,cf,ch⟩:=am.G 3 13
 have a9:b1.eval (.tmp 13)=vv (cleanV u) aN ar aG au:=a9
 have av:=a3.new_ aO
 have ci:=a4.new_ aO
 have cj:=b9.new_ aO
 obtain⟨dd,bk,bl,aw,ba⟩:=s_many (P:=Tryz.prog) (t:=29) (i:=0) (c7 (cleanV v) aL ap aM aq) Tryz.sizeOf29 rfl rfl rfl av lb
 have cl:Blk dd aS 29 (c7 (cleanV v) aL ap aM aq):=bl
 refine st_act rfl rfl fun dW cm=>a_store' rfl b3 a8 bk (cm _ _ trivial ?_)
 have cn:=cd.fr av aw
 have co:=ce.fr av aw
 have cp:=cf.fr av aw
 have cq:=ch.fr av aw
 have ax:=ba _ _ _ (fun h=>hne21 h.symm) ci
 have cr:=ba _ _ _ (fun h=>hne22 h.symm) cj
 have ct:=cc.trans aw (fun _ h b=>by subst b; omega)
 obtain⟨de,bm,bn,ay,bb⟩:=s_many (P:=Tryz.prog) (t:=29) (i:=0) (c7 (cleanV u) aN ar aG au) Tryz.sizeOf29 rfl rfl rfl ax lb
 have cw:Blk de aT 29 (c7 (cleanV u) aN ar aG au):=bn
 refine st_act rfl rfl fun dX cx=>a_store' rfl b4 a9 bm (cx _ _ trivial ?_)
 have cy:=cn.fr ax ay
 have cz:=co.fr ax ay
 have cA:=cp.fr ax ay
 have cB:=cq.fr ax ay
 have cC:=bb _ _ _ (hne21) cl
 have cD:=bb _ _ _ (fun h=>hne23 h.symm) cr
 have cE:=ct.trans ay (fun _ h b=>by subst b; omega)
 refine st_nil (ca _ _ (wp_seq_k fun dY dC=>?_))
 refine wp_seq_k fun dZ cF=>?_
 refine wp_g0 [true] [] 120
   [ve (.string ⟨#[43]⟩)] a7 (.eq (.nil)) ?_ ?_
 exact .m (fun k=>k.fx 0 b2) .nil
 refine aftI a7 cb cE fun d0 d1 bd cG bo ai az=>?_
 have df:=az.fx 0 b2
 have dg:=az.fx 4 b3
 have dh:=az.fx 5 b4
 have di:=az.fx 6 dc
 have b5:=az.ge 0 14 rfl
 have cH:=cC.new_ ai
 have cI:=cw.new_ ai
 have bp:=cD.new_ ai
 have bq:=cy.new_ ai
 have br:=cz.new_ ai
 have bs:=cA.new_ ai
 have bt:=cB.new_ ai
 refine st_nil (cF _ _ ?_)
 refine wp_block ?_
 refine wp_seq_k fun dD bu=>?_
 refine wp_g0 [true,true] [] 120
   [vT,vT] bd (.eq (.eq (.nil))) ?_ ?_
 exact .t (fun _ w hn k=>⟨_,v_bin rfl (k.fx 14 b5) rfl (fun _=>rfl) (r_eqlS (r:=true) (by kernel_rfl)),rfl⟩)<| .a (fun k=>k.eq1 0 16 rfl) .nil
 refine aftI bd cG bo fun dE dF aV bv bw aa ad=>?_
 have cJ:=ad.fx 0 df
 have be:=ad.fx 4 dg
 have bf:=ad.fx 5 dh
 have cK:=ad.fx 6 di
 have dG:=ad.fx 14 b5
 have cL:=ad.ge 1 15 rfl
 have aW:=cH.new_ aa
 have aX:=cI.new_ aa
 have bx:=bp.new_ aa
 have bz:=bq.new_ aa
 have bA:=br.new_ aa
 have bB:=bs.new_ aa
 have bC:=bt.new_ aa
 refine st_nil (bu _ _ ?_)
 refine wp_cond_true cL ?_
 refine wp_seq_k fun dH dw=>?_
 refine wp_seq_k fun dI bD=>?_
 refine wp_g0 (.replicate 8 true) [] 120
   [ve (pv aS),ve (iv ((cleanV v).k)),ve (.bool (decide (((cleanV v).k)=5))),ve (.bool (decide (((cleanV v).k)=5))),ve (gq (!(decide (((cleanV v).k)=5))) (pv aT)),ve (gq (!(decide (((cleanV v).k)=5))) (iv ((cleanV u).k))),ve (gq (!(decide (((cleanV v).k)=5))) (.bool (decide (((cleanV u).k)=5)))),ve (.bool ((decide (((cleanV v).k)=5)) || (decide (((cleanV u).k)=5))))] aV (.eq (.eq (.eq (.eq (.eq (.eq (.eq (.eq (.nil))))))))) ?_ ?_
 exact .f (fun k=>k.fx 4 be)<| .t (fun _ w hn k=>⟨_,v_load rfl (k.eq1 0 17 rfl) (l_one Tryz.isAgg3 ((aW.new_ hn).cell 0)),rfl⟩)<| .t (fun _ w hn k=>⟨_,v_bin rfl (k.eq1 1 18 rfl) rfl (fun _=>rfl) (r_eql rfl),rfl⟩)<| .m (fun k=>k.eq1 2 19 rfl)<| .o1 (sc (G:=(!(decide (((cleanV v).k)=5)))) rfl rfl rfl (fun _ _ k=>g0' (k.eq1 3 20 rfl)) (fun hG _ w hn k=>v_field rfl (k.fx 5 bf) (fun w=>rfl)))<| .o1 (sc (G:=(!(decide (((cleanV v).k)=5)))) rfl rfl rfl (fun _ _ k=>g0' (k.eq1 3 20 rfl)) (fun hG _ w hn k=>v_load rfl (cT hG (k.eq1 4 21 rfl)) (l_one Tryz.isAgg3 ((aX.new_ hn).cell 0))))<| .o1 (sc (G:=(!(decide (((cleanV v).k)=5)))) rfl rfl rfl (fun _ _ k=>g0' (k.eq1 3 20 rfl)) (fun hG _ w hn k=>v_bin rfl (cT hG (k.eq1 5 22 rfl)) rfl (fun _=>rfl) (r_eql rfl)))<| .t (fun _ w hn k=>⟨_,v_or rfl (k.eq1 3 20 rfl) rfl (fun hg=>(cT (nt hg) (k.eq1 6 23 rfl))),rfl⟩) .nil
 refine aftI aV bv bw fun dJ dK aY bE aZ ab aj=>?_
 have dL:=aj.fx 0 cJ
 have cM:=aj.fx 4 be
 have cN:=aj.fx 5 bf
 have cO:=aj.fx 6 cK
 have cP:=aj.ge 7 24 rfl
 have bF:=aW.new_ ab
 have bG:=aX.new_ ab
 have bH:=bx.new_ ab
 have bI:=bz.new_ ab
 have bJ:=bA.new_ ab
 have bK:=bB.new_ ab
 have bL:=bC.new_ ab
 refine st_nil (bD _ _ ?_)
 have bM:(((decide (((cleanV v).k)=5)) || (decide (((cleanV u).k)=5))))=true:=(by rw [show ((decide (((cleanV v).k)=5)))=true from decide_eq_true (hk5)]; rfl)
 have bN:=hB cP bM
 refine wp_cond_true bN ?_
 refine wp_seq_k fun dM bO=>?_
 refine wp_g0 [true,true,true,true,true,false,false] [(5,false),(6,true)] 120
   [ve (vv (cleanV v) aL ap aM aq),ve (vv (cleanV u) aN ar aG au),(TP (joinV (cleanV v) (cleanV u)).1 ((joinV (cleanV v) (cleanV u)).2)),(fun (v_:Value) (W:World)=>∃ (aA:Option Addr) (aB:Nat) (aC:Option Addr) (aD:Nat),v_=vv (joinV (cleanV v) (cleanV u)).1 aA aB aC aD∧SRow W .u32 aA ((joinV (cleanV v) (cleanV u)).1.mag) aB∧SRow W .u16 aC ((joinV (cleanV v) (cleanV u)).1.s) aD),ve (iv ((joinV (cleanV v) (cleanV u)).2)),vt,vt] aY (.eq (.eq (.cons (fun _ _ _ n ⟨_,_,_,_,e,h,i⟩=>⟨_,_,_,_,e,h.new_ n,i.new_ n⟩) (.cons (fun _ _ _ n ⟨_,_,_,_,e,h,i⟩=>⟨_,_,_,_,e,h.new_ n,i.new_ n⟩) (.eq (.tt (.tt (.nil)))))))) ?_ ?_
 refine .t (fun _ w hn k=>⟨_,v_load rfl (k.fx 4 cM) (l_agg Tryz.isAgg29 Tryz.sizeOf29 (bF.new_ hn) rfl),rfl⟩)<| .t (fun _ w hn k=>⟨_,v_load rfl (k.fx 5 cN) (l_agg Tryz.isAgg29 Tryz.sizeOf29 (bG.new_ hn) rfl),rfl⟩) ?_
 refine .o1 (tkC rfl (noG rfl) rfl fun _ w hn k=>(by
       refine ⟨#[vv (cleanV v) aL ap aM aq,vv (cleanV u) aN ar aG au],_,args2 (k.eq1 0 25 rfl) (k.eq1 1 26 rfl),fun w=>by kernel_rfl,join_c (cleanV v) _ _ _ _ (cleanV u) _ _ _ _ _ (bI.new_ hn) (bJ.new_ hn) (bK.new_ hn) (bL.new_ hn) hvv.clean hvu.clean (HT.up (aZ.transNew hn)),?_⟩
       rintro e w' ⟨dj,dk,dl,dm,rfl,hmo0,hmo1,hm⟩
       exact⟨_,rfl,hm,⟨dj,dk,dl,dm,rfl,hmo0,hmo1⟩⟩)) ?_
 refine .o1 (tk rfl rfl fun _ w hn k=>(by
       obtain⟨dn,dp,dq,dr,ds,cQ,cR⟩:(TP (joinV (cleanV v) (cleanV u)).1 ((joinV (cleanV v) (cleanV u)).2)) _ _:=k.dep 2 27 (by kernel_rfl) (by kernel_rfl)
       exact⟨_,v_extract rfl ds rfl,⟨dn,dp,dq,dr,rfl,cQ,cR⟩⟩)) ?_
 refine .o1 (tk rfl rfl fun _ w hn k=>(by
       obtain⟨aG,d2,d3,d4,dt,dN,dO⟩:(TP (joinV (cleanV v) (cleanV u)).1 ((joinV (cleanV v) (cleanV u)).2)) _ _:=k.dep 2 27 (by kernel_rfl) (by kernel_rfl)
       exact⟨_,v_extract rfl dt rfl,rfl⟩)) ?_
 exact .off<| .off .nil
 refine aftI aY bE aZ fun aP dP a1 bP bQ bR aH=>?_
 have bg:=aH.fx 6 cO
 obtain⟨aE,ak,aF,al,aI,bS,bT⟩:=aH.G 3 28
 have aI:aP.eval (.tmp 28)=vv (joinV (cleanV v) (cleanV u)).1 aE ak aF al:=aI
 have bh:=aH.ge 4 29 rfl
 have aJ:=bH.new_ bR
 obtain⟨cS,bi,bj,aK,dx⟩:=s_many (P:=Tryz.prog) (t:=29) (i:=0) (c7 (joinV (cleanV v) (cleanV u)).1 aE ak aF al) Tryz.sizeOf29 rfl rfl rfl aJ lb
 have bU:Blk cS a5 29 (c7 (joinV (cleanV v) (cleanV u)).1 aE ak aF al):=bj
 refine st_act rfl rfl fun dQ bV=>a_store' rfl bg aI bi (bV _ _ trivial ?_)
 have bW:=bS.fr aJ aK
 have bX:=bT.fr aJ aK
 have bY:=bQ.trans aK (fun _ h b=>by subst b; omega)
 refine st_take rfl rfl (y_assign (v:=iv ((joinV (cleanV v) (cleanV u)).2)) rfl bh) rfl ?_
 obtain⟨cU,ac⟩:∃ a',a'=aP.put (some 7) (iv ((joinV (cleanV v) (cleanV u)).2)):=⟨_,rfl⟩
 have dy:=pz ac a1
 have bZ:=pd ac bP
 have cV:=pn ac bg (by decide)
 have dR:=pn ac aI (by decide)
 have dS:=pn ac bh (by decide)
 have cW:cU.eval (.tmp 7)=iv ((joinV (cleanV v) (cleanV u)).2):=by rw [ac]; exact put_same _ _ _ (by rw [a1]; decide)
 show stepsTo _ _ _ _ _ (aP.put (some 7) (iv ((joinV (cleanV v) (cleanV u)).2))) _
 rw [← ac]
 refine st_nil (bO _ _ ?_)
 refine wp_ret (ret_k bZ (v:=.tuple #[vv (joinV (cleanV v) (cleanV u)).1 aE ak aF al,iv ((joinV (cleanV v) (cleanV u)).2)]) (res_ct rfl cV cW (l_agg Tryz.isAgg29 Tryz.sizeOf29 bU rfl)) ?_)
 exact⟨aE,ak,aF,al,rfl,bW,bX,bY⟩
def cmpU:List Nat→List Nat→Int
  | [],[]=>0
  | [],_ :: _=>-1
  | _ :: _,[]=>1
  | x :: a,y :: b=>if x < y then -1 else if y < x then 1 else cmpU a b
theorem drop_getD {a:List Nat} {i:Nat} (h:i < a.length):a.drop i=a.getD i 0 :: a.drop (i + 1):=by
  rw [List.drop_eq_getElem_cons h]
  simp [List.getD,h]
theorem cmpU_step {a b:List Nat} {i:Nat} (ha:i < a.length) (hb:i < b.length):cmpU (a.drop i) (b.drop i)=if cmpI (a.getD i 0) (b.getD i 0)=0 then cmpU (a.drop (i + 1)) (b.drop (i + 1)) else cmpI (a.getD i 0) (b.getD i 0):=by
  rw [drop_getD ha,drop_getD hb]
  show (if _ < _ then (-1:Int) else if _ < _ then 1 else _)=_
  generalize a.getD i 0=x
  generalize b.getD i 0=y
  unfold cmpI
  by_cases h1:x < y
  · simp [h1]
  · by_cases h2:y < x
    · simp [h1,h2]
    · simp [h1,h2]
theorem cmpU_next {a b:List Nat} {i:Nat} (ha:i < a.length) (hb:i < b.length) (h:decide (cmpI (a.getD i 0) (b.getD i 0)=0)=true) (hc:cmpU (a.drop i) (b.drop i)=cmpU a b):cmpU (a.drop (i + 1)) (b.drop (i + 1))=cmpU a b:=by
  rw [cmpU_step ha hb,if_pos (of_decide_eq_true h)] at hc
  exact hc
theorem cmpU_out {a b:List Nat} {i:Nat} (ha:i < a.length) (hb:i < b.length) (h:decide (cmpI (a.getD i 0) (b.getD i 0)=0)=false) (hc:cmpU (a.drop i) (b.drop i)=cmpU a b):cmpI (a.getD i 0) (b.getD i 0)=cmpU a b:=by
  rw [cmpU_step ha hb,if_neg (of_decide_eq_false h)] at hc
  exact hc
theorem cmpU_more {a b:List Nat} {i:Nat} (ha:i < a.length) (hb:b.length≤i) (hc:cmpU (a.drop i) (b.drop i)=cmpU a b):1=cmpU a b:=by
  rw [drop_getD ha,List.drop_eq_nil_of_le hb] at hc
  exact hc
theorem cmpU_less {a b:List Nat} {i:Nat} (ha:a.length≤i) (hb:i < b.length) (hc:cmpU (a.drop i) (b.drop i)=cmpU a b):-1=cmpU a b:=by
  rw [drop_getD hb,List.drop_eq_nil_of_le ha] at hc
  exact hc
theorem cmpU_end {a b:List Nat} {i:Nat} (ha:a.length≤i) (hb:b.length≤i) (hc:cmpU (a.drop i) (b.drop i)=cmpU a b):0=cmpU a b:=by
  rw [List.drop_eq_nil_of_le hb,List.drop_eq_nil_of_le ha] at hc
  exact hc
theorem cmpN_eq (x y:Nat):cmpI x y=if decide ((x:Int) < (y:Int)) then -1 else if !decide ((x:Int)≤(y:Int)) then 1 else 0:=by
  unfold cmpI
  by_cases h1:x < y
  · simp [h1]
  · by_cases h2:y < x
    · simp [h1,h2]
    · simp [h1,h2]
def truthR (t:Bool):Int:=if t then 1 else 0
def besideO (b:Bool) (m:List Nat) (a:Nm):Int × Bool:=if decide (a.k=2) then (0,false) else if decide (a.k=3) then (-1,true) else if decide (a.k=4) then (1,true) else (cmpZ (goodI b m) a.n,true)
theorem besideO_bd (b:Bool) (m:List Nat) (a:Nm):-1≤(besideO b m a).1∧(besideO b m a).1≤1:=by
  unfold besideO cmpZ
  repeat' split
  all_goals exact⟨by decide,by decide⟩
def orderO (v u:Vl):Int × Bool :=
  if decide (v.k=4) && decide (u.k=4) then (cmpZ (goodI v.neg v.mag) (goodI u.neg u.mag),true)
  else if decide (v.k=4) then besideO v.neg v.mag u.num
  else if decide (u.k=4) then (-(besideO u.neg u.mag v.num).1,(besideO u.neg u.mag v.num).2)
  else if lessM v.num u.num then (-1,true) else if equalM v.num u.num then (0,true) else (1,lessM u.num v.num)
def lessT (v u:Vl) (t n:Bool):Int × Int × Int :=
  if decide (v.k=6) || decide (u.k=6) then (0,0,3)
  else if decide (v.k=5) && decide (u.k=5) then (if t then (2,truthR (decide (cmpU u.s v.s < 0) != n),0) else (2,truthR (decide (cmpU v.s u.s < 0) != n),0))
  else if (decide (v.k=5) && decide (u.k=4)) || (decide (v.k=4) && decide (u.k=5)) then (0,0,3)
  else if decide ((numericV v).2=0) then
    (if decide ((numericV u).2=0) then
      (if t then (2,truthR ((orderO (numericV u).1 (numericV v).1).2 && (decide ((orderO (numericV u).1 (numericV v).1).1 < 0) != n)),0)
       else (2,truthR ((orderO (numericV v).1 (numericV u).1).2 && (decide ((orderO (numericV v).1 (numericV u).1).1 < 0) != n)),0))
     else (0,0,(numericV u).2))
  else (0,0,(numericV v).2)

theorem cnan_c (a:Nat) (w:World) (ha:a < 65536):Calls Tryz.prog 192 #[.int .u16 (a:Int)] w (IsRet (.bool false) w):=by
 refine enter_abs Tryz.func192 rfl fun a0 aa ag hp=>?_
 have aa:a0.tmps.size=6:=aa
 have ah:New w w:=Upd.refl _ _
 have hp0:a0.eval (.tmp 0)=.int .u16 (a:Int):=hp 0 _ rfl
 refine wp_seq_k fun K1 ai=>?_
 refine wp_g0 [true] [] 6
   [vF] aa (.eq (.nil)) ?_ ?_
 exact .t (fun _ w hn k=>⟨_,v_assign rfl rfl,rfl⟩) .nil
 refine aftI aa ag ah fun a2 w3 ab aj ak ap al=>?_
 have h8:=al.fx 0 hp0
 refine st_nil (ai _ _ (wp_seq_k fun aq ac=>?_))
 refine wp_g0 [true,true,true,true] [] 6
   [ve (.int .u16 (a:Int)),ve (.int .u16 (a:Int)),vF,vF] ab (.eq (.eq (.eq (.eq (.nil))))) ?_ ?_
 exact .m (fun k=>k.fx 0 h8)<| .m (fun k=>k.fx 0 h8)<| .t (fun _ w hn k=>⟨_,v_bin rfl (k.eq1 0 3 rfl) (k.eq1 1 4 rfl) (fun _=>rfl) (n_neq_self _ _),rfl⟩)<| .a (fun k=>k.eq1 2 5 rfl) .nil
 refine aftI ab aj ak fun ar au an ad ae ao af=>?_
 have am:=af.ge 3 2 rfl
 refine st_nil (ac _ _ ?_)
 refine wp_ret (ret_k ad (v:=.bool false) (res_t rfl am _) ?_)
 exact⟨rfl,ae⟩
theorem ccmp_c (a:Nat) (b:Nat) (w:World) (ha:a < 65536) (hb:b < 65536):Calls Tryz.prog 182 #[.int .u16 (a:Int),.int .u16 (b:Int)] w (IsRet (iv (cmpI a b)) w):=by
 refine enter_abs Tryz.func182 rfl fun a0 ak bm hp=>?_
 have ak:a0.tmps.size=20:=ak
 have bn:New w w:=Upd.refl _ _
 have hp0:a0.eval (.tmp 0)=.int .u16 (a:Int):=hp 0 _ rfl
 have hp1:a0.eval (.tmp 1)=.int .u16 (b:Int):=hp 1 _ rfl
 refine wp_seq_k fun K1 bo=>?_
 refine wp_g0 [true] [] 20
   [ve (iv 0)] ak (.eq (.nil)) ?_ ?_
 exact .t (fun _ w hn k=>⟨_,v_assign rfl rfl,rfl⟩) .nil
 refine aftI ak bm bn fun a2 w3 aF bp aN bW aG=>?_
 have h8:=aG.fx 0 hp0
 have h9:=aG.fx 1 hp1
 refine st_nil (bo _ _ (wp_seq_k fun bX aO=>?_))
 refine wp_g0 [true,true,true] [] 20
   [ve (.int .u16 (a:Int)),vF,vF] aF (.eq (.eq (.eq (.nil)))) ?_ ?_
 exact .m (fun k=>k.fx 0 h8)<| .o1 (ck rfl rfl rfl (fun _ w hn k=>⟨#[.int .u16 (a:Int)],args1 (k.eq1 0 7 rfl),fun _=>by kernel_rfl,cnan_c a _ (by omega)⟩) fun _=>rfl)<| .a (fun k=>k.eq1 1 8 rfl) .nil
 refine aftI aF bp aN fun bY bZ am aP aQ bH af=>?_
 have bq:=af.fx 0 h8
 have aH:=af.fx 1 h9
 have br:=af.ge 2 5 rfl
 refine st_nil (aO _ _ (wp_seq_k fun b0 aR=>?_))
 refine wp_g0 [true,true,true] [] 20
   [ve (.int .u16 (b:Int)),vF,vF] am (.eq (.eq (.eq (.nil)))) ?_ ?_
 exact .m (fun k=>k.fx 1 aH)<| .o1 (ck rfl rfl rfl (fun _ w hn k=>⟨#[.int .u16 (b:Int)],args1 (k.eq1 0 9 rfl),fun _=>by kernel_rfl,cnan_c b _ (by omega)⟩) fun _=>rfl)<| .a (fun k=>k.eq1 1 10 rfl) .nil
 refine aftI am aP aQ fun b1 b2 an aS aT bI ad=>?_
 have bs:=ad.fx 0 bq
 have bt:=ad.fx 1 aH
 have bu:=ad.fx 5 br
 have bv:=ad.ge 2 6 rfl
 refine st_nil (aR _ _ (wp_seq_k fun b3 aU=>?_))
 refine wp_seq_k fun b4 aV=>?_
 refine wp_g0 [true] [] 20
   [vF] an (.eq (.nil)) ?_ ?_
 exact .m (fun k=>k.fx 5 bu) .nil
 refine aftI an aS aT fun b5 b6 ao aW aX bJ ae=>?_
 have bw:=ae.fx 0 bs
 have bx:=ae.fx 1 bt
 have bz:=ae.fx 6 bv
 have bA:=ae.ge 0 11 rfl
 refine st_nil (aV _ _ ?_)
 refine wp_cond_false bA ?_
 refine wp_skip ?_
 refine aU _ _ ?_
 refine wp_seq_k fun b7 aY=>?_
 refine wp_seq_k fun b8 aZ=>?_
 refine wp_g0 [true] [] 20
   [vF] ao (.eq (.nil)) ?_ ?_
 exact .m (fun k=>k.fx 6 bz) .nil
 refine aftI ao aW aX fun b9 ca ap a1 a3 bK ag=>?_
 have aI:=ag.fx 0 bw
 have aJ:=ag.fx 1 bx
 have bB:=ag.ge 0 13 rfl
 refine st_nil (aZ _ _ ?_)
 refine wp_cond_false bB ?_
 refine wp_skip ?_
 refine aY _ _ ?_
 refine wp_seq_k fun cb a4=>?_
 refine wp_seq_k fun cc a5=>?_
 refine wp_g0 [true,true,true] [] 20
   [ve (.int .u16 (a:Int)),ve (.int .u16 (b:Int)),ve (.bool (decide ((a:Int) < (b:Int))))] ap (.eq (.eq (.eq (.nil)))) ?_ ?_
 exact .m (fun k=>k.fx 0 aI)<| .m (fun k=>k.fx 1 aJ)<| .t (fun _ w hn k=>⟨_,v_bin rfl (k.eq1 0 14 rfl) (k.eq1 1 15 rfl) (fun _=>rfl) (r_lssK rfl),rfl⟩) .nil
 refine aftI ap a1 a3 fun cd ce ac ah ai bL aj=>?_
 have aK:=aj.fx 0 aI
 have aL:=aj.fx 1 aJ
 have aM:=aj.ge 2 16 rfl
 refine st_nil (a5 _ _ ?_)
 rcases bc (decide ((a:Int) < (b:Int))) with aa|aa
 have au:=oT aa
 have a6:=hB aM aa
 refine wp_cond_true a6 ?_
 refine wp_seq_k fun cf a7=>?_
 refine wp_g0 [true] [] 20
   [ve (iv (-1))] ac (.eq (.nil)) ?_ ?_
 exact .t (fun _ w hn k=>⟨_,v_assign rfl rfl,rfl⟩) .nil
 refine aftI ac ah ai fun ch ci bM a8 a9 bN ba=>?_
 have bC:=ba.ge 0 4 rfl
 refine st_nil (a7 _ _ ?_)
 refine wp_ret (ret_k a8 (v:=iv (-1)) (res_t rfl bC _) ?_)
 refine ⟨?_,a9⟩
 show Ending.returned (iv (-1))=Ending.returned (iv (cmpI a b))
 first|rfl|(simp only [cmpN_eq,aa,bsm] <;> rfl)|(exfalso; omega)
 have au:=oF aa
 have bb:=hB aM aa
 refine wp_cond_false bb ?_
 refine wp_skip ?_
 refine a4 _ _ ?_
 refine wp_seq_k fun cj bd=>?_
 refine wp_seq_k fun cl aq=>?_
 rcases bc (decide ((a:Int)≤(b:Int))) with ab|ab
 have av:=oT ab
 refine wp_g0 [true,true,true] [] 20
   [ve (.int .u16 (a:Int)),ve (.int .u16 (b:Int)),vF] ac (.eq (.eq (.eq (.nil)))) ?_ ?_
 exact .m (fun k=>k.fx 0 aK)<| .m (fun k=>k.fx 1 aL)<| .t (fun _ w hn k=>⟨_,v_bin rfl (k.eq1 0 17 rfl) (k.eq1 1 18 rfl) (fun _=>rfl) (r_gtrK ab),rfl⟩) .nil
 refine aftI ac ah ai fun cm cn ar be bf bO bg=>?_
 have bD:=bg.ge 2 19 rfl
 refine st_nil (aq _ _ ?_)
 refine wp_cond_false bD ?_
 refine wp_skip ?_
 refine bd _ _ ?_
 refine wp_seq_k fun co bh=>?_
 refine wp_g0 [true] [] 20
   [ve (iv 0)] ar (.eq (.nil)) ?_ ?_
 exact .t (fun _ w hn k=>⟨_,v_assign rfl rfl,rfl⟩) .nil
 refine aftI ar be bf fun cp cq bP aw ax bQ bi=>?_
 have bj:=bi.ge 0 4 rfl
 refine st_nil (bh _ _ ?_)
 refine wp_ret (ret_k aw (v:=iv 0) (res_t rfl bj _) ?_)
 refine ⟨?_,ax⟩
 show Ending.returned (iv 0)=Ending.returned (iv (cmpI a b))
 first|rfl|(simp only [cmpN_eq,aa,ab,bsm] <;> rfl)|(exfalso; omega)
 have av:=oF ab
 refine wp_g0 [true,true,true] [] 20
   [ve (.int .u16 (a:Int)),ve (.int .u16 (b:Int)),vT] ac (.eq (.eq (.eq (.nil)))) ?_ ?_
 exact .m (fun k=>k.fx 0 aK)<| .m (fun k=>k.fx 1 aL)<| .t (fun _ w hn k=>⟨_,v_bin rfl (k.eq1 0 17 rfl) (k.eq1 1 18 rfl) (fun _=>rfl) (r_gtrK ab),rfl⟩) .nil
 refine aftI ac ah ai fun bR bS al ay az bE aA=>?_
 have bk:=aA.ge 2 19 rfl
 refine st_nil (aq _ _ ?_)
 refine wp_cond_true bk ?_
 refine wp_seq_k fun bT aB=>?_
 refine wp_g0 [true] [] 20
   [ve (iv 1)] al (.eq (.nil)) ?_ ?_
 exact .t (fun _ w hn k=>⟨_,v_assign rfl rfl,rfl⟩) .nil
 refine aftI al ay az fun bU bV bF aC aD bG aE=>?_
 have bl:=aE.ge 0 4 rfl
 refine st_nil (aB _ _ ?_)
 refine wp_ret (ret_k aC (v:=iv 1) (res_t rfl bl _) ?_)
 refine ⟨?_,aD⟩
 show Ending.returned (iv 1)=Ending.returned (iv (cmpI a b))
 first|rfl|(simp only [cmpN_eq,aa,ab,bsm] <;> rfl)|(exfalso; omega)
end Go.Proofs.YtjakfchffigkkaaGreatDoor
