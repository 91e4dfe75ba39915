import Derived.Test.YtecgdgjlmlpcnaaGreatDoorTla
import Derived.Test.YtecgdgjlmlpcnaaGreatDoorCvShelfZ
namespace Go.Proofs.YtecgdgjlmlpcnaaGreatDoor
open Go.RowKit
open Tryz
set_option linter.unusedSimpArgs false
set_option linter.unusedVariables false
set_option maxHeartbeats 16000000
set_option maxRecDepth 100000
theorem nan_c  (w:World):Calls prog 130 #[] w (IsRet (nv (Nm.mk 2 0)) w):=by
 refine enter_abs func130 rfl fun a0 aa au hp=>?_
 have aa:a0.tmps.size=2:=aa
 have ad:New w w:=Upd.refl _ _
 refine wk fun K1 av=>?_
 refine wB tr1 [] [] 2 [IsNew w 23 [iv 0,iv 0]] [0] aa ?_ heN ?_
 exact .Y .nil
 refine aftI aa au ad fun a2 w3 ae aw ag aC ax=>?_
 obtain⟨q9,h8,ah,ai⟩:=ax.G 0 0
 have az:=Nat.le_trans ad.size ah
 refine av _ _ <| wk fun aD aj=>?_
 refine wA [true,false] [(1,false)] 2 [ve (nv (Nm.mk 2 0)),vt] ae ?_ ?_
 exact .T (fun k=>v_build (ps:=[(0,iv 2)]) rfl (parts1 rfl) (by kernel_rfl))<| .off .nil
 refine aftI ae aw ag fun aE aF aA ak al am ab=>?_
 have af:=ab.f1 h8
 have ay:=ab.g 0 1
 have an:=ai.new_ am
 refine sS2 af ay an fun aG ao ap aB=>?_
 have ar:=al.tR ap
 refine aj _ _<| wp_ret (ret_k ak (v:=nv (Nm.mk 2 0)) (res_c rfl af (l_two isAgg23 sizeOf23 ao)) ?_)
 exact⟨rfl,ar⟩
theorem may_c (a:Nm) (w:World):Calls prog 108 #[nv a] w (IsRet (.bool (nmayB a)) w):=by
 refine enter_abs func108 rfl fun a0 aq b3 hp=>?_
 have aq:a0.tmps.size=23:=aq
 have bh:New w w:=Upd.refl _ _
 have hp0:a0.eval (.tmp 0)=nv a:=hp 0 _ rfl
 refine wk fun K1 b4=>?_
 refine wB tr2 [] [] 23 [IsNew w 23 [iv a.k,iv a.n],vF] [0] aq ?_ heN ?_
 exact .X hp0<| .c .nil
 refine aftI aq b3 bh fun a2 w3 bi b5 bs cE b6=>?_
 obtain⟨q9,h8,bt,aA⟩:=b6.G 0 1
 have ci:=Nat.le_trans bh.size bt
 refine b4 _ _ <| wk fun cF bu=>?_
 refine wk fun cG bv=>?_
 refine wA tr2 [] 23 [ve (pv q9),ve (iv a.k)] bi ?_ ?_
 exact .F h8<| .J 0 isAgg3 aA .nil
 refine aftI bi b5 bs fun cH cI aB bw bx bz aC=>?_
 have b7:=aC.f1 h8
 have bj:=aC.g 1 4
 have bA:=aA.new_ bz
 refine bv _ _<| wb<| wk fun cJ bB=>?_
 refine wA tr2 [] 23 [ve (.bool (decide (a.k=0))),ve (.bool (decide (a.k=0)))] aB ?_ ?_
 exact .H bj (r_eql rfl)<| .B 0 .nil
 refine aftI aB bw bx fun cK cL ah aD aE bC am=>?_
 have⟨aF,bk⟩:=am.f2 b7 bj
 have bl:=am.g 1 5
 have an:=bA.new_ bC
 refine bB _ _ ?_
 rcases bc (decide (a.k=0)) with aa|aa
 have aT:=oT aa
 have bD:=hB bl aa
 refine wt bD<| wk fun cM bE=>?_
 refine wA tr9 [] 23 [ve (.pointer (some ⟨q9,1,none⟩)),ve (iv a.n),ve (.bool (!decide (a.n < -9007199254740991))),ve (.bool (!decide (a.n < -9007199254740991))),ve (gq (!decide (a.n < -9007199254740991)) (.pointer (some ⟨q9,1,none⟩))),ve (gq (!decide (a.n < -9007199254740991)) (iv a.n)),ve (gq (!decide (a.n < -9007199254740991)) (.bool (decide (a.n≤9007199254740991)))),ve (.bool ((!decide (a.n < -9007199254740991)) && (decide (a.n≤9007199254740991)))),ve (.bool ((!decide (a.n < -9007199254740991)) && (decide (a.n≤9007199254740991))))] ah ?_ ?_
 exact .F aF<| .J 0 isAgg3 an<| .b 1 (r_geqK rfl)<| .N 2<| .Q (fun k=>g0 (k.eq1 3 10 rfl)) (fun hG p k=>v_field rfl (k.fx 1 aF) (fun w=>rfl))<| .Q (fun k=>g0 (k.eq1 3 10 rfl)) (fun hG p k=>v_load rfl (cT hG (k.eq1 4 11 rfl)) (l_one isAgg3 ((an.new_ p).cell 1)))<| .Q (fun k=>g0 (k.eq1 3 10 rfl)) (fun hG p k=>v_bin rfl (cT hG (k.eq1 5 12 rfl)) rfl (fun _=>rfl) (r_leqK rfl))<| .O 3 6<| .B 7 .nil
 refine aftI ah aD aE fun cN cO cj bF bG cl bH=>?_
 have b8:=bH.g 8 2
 refine bE _ _<| wp_ret (ret_k bF (v:=.bool ((!decide (a.n < -9007199254740991)) && (decide (a.n≤9007199254740991)))) (res_t rfl b8 _) ?_)
 refine ⟨?_,bG⟩
 show Ending.returned (.bool ((!decide (a.n < -9007199254740991)) && (decide (a.n≤9007199254740991))))=Ending.returned (.bool (nmayB a))
 first|rfl|(simp only [nmayB,aa,bsm] <;> rfl)|(exfalso; omega)
 have aT:=oF aa
 have bI:=hB bl aa
 refine wf bI<| wk fun cP ai=>wk fun cQ bJ=>?_
 refine wA tr2 [] 23 [ve (.bool (decide (a.k=1))),ve (.bool (decide (a.k=1)))] ah ?_ ?_
 exact .H bk (r_eql rfl)<| .B 0 .nil
 refine aftI ah aD aE fun cR cS aj aG aH bK ao=>?_
 have⟨bm,bn⟩:=ao.f2 aF bk
 have bo:=ao.g 1 15
 have aI:=an.new_ bK
 refine bJ _ _ ?_
 rcases bc (decide (a.k=1)) with ac|ac
 have aU:=oT ac
 have aJ:=hB bo ac
 refine wt aJ<| ws<| ai _ _<| wt aJ<| wk fun cU bL=>?_
 refine wA tr4 [] 23 [ve (.pointer (some ⟨q9,1,none⟩)),ve (iv a.n),ve (.bool (decide (a.n=0))),ve (.bool (decide (a.n=0)))] aj ?_ ?_
 exact .F bm<| .J 0 isAgg3 aI<| .b 1 (r_eql rfl)<| .B 2 .nil
 refine aftI aj aG aH fun cV cW cm bM bN cn bO=>?_
 have b9:=bO.g 3 2
 refine bL _ _<| wp_ret (ret_k bM (v:=.bool (decide (a.n=0))) (res_t rfl b9 _) ?_)
 refine ⟨?_,bN⟩
 show Ending.returned (.bool (decide (a.n=0)))=Ending.returned (.bool (nmayB a))
 first|rfl|(simp only [nmayB,aa,ac,bsm] <;> rfl)|(exfalso; omega)
 have aU:=oF ac
 have bP:=hB bo ac
 refine wf bP<| wk fun cX bQ=>?_
 refine wA tr2 [] 23 [ve (.bool (decide (a.k=2))),ve (.bool (decide (a.k=2)))] aj ?_ ?_
 exact .H bn (r_eql rfl)<| .B 0 .nil
 refine aftI aj aG aH fun cY cZ ak aK aL bR ap=>?_
 have⟨bp,bq⟩:=ap.f2 bm bn
 have br:=ap.g 1 15
 have aM:=aI.new_ bR
 refine bQ _ _ ?_
 rcases bc (decide (a.k=2)) with ad|ad
 have aV:=oT ad
 have aN:=hB br ad
 refine wt aN<| ws<| ai _ _<| wt aN<| wk fun c0 bS=>?_
 refine wA tr4 [] 23 [ve (.pointer (some ⟨q9,1,none⟩)),ve (iv a.n),ve (.bool (decide (a.n=0))),ve (.bool (decide (a.n=0)))] ak ?_ ?_
 exact .F bp<| .J 0 isAgg3 aM<| .b 1 (r_eql rfl)<| .B 2 .nil
 refine aftI ak aK aL fun c1 c2 co bT bU cp bV=>?_
 have ca:=bV.g 3 2
 refine bS _ _<| wp_ret (ret_k bT (v:=.bool (decide (a.n=0))) (res_t rfl ca _) ?_)
 refine ⟨?_,bU⟩
 show Ending.returned (.bool (decide (a.n=0)))=Ending.returned (.bool (nmayB a))
 first|rfl|(simp only [nmayB,aa,ac,ad,bsm] <;> rfl)|(exfalso; omega)
 have aV:=oF ad
 have bW:=hB br ad
 refine wf bW<| wk fun c3 bX=>?_
 refine wA tr2 [] 23 [ve (.bool (decide (a.k=3))),ve (.bool (decide (a.k=3)))] ak ?_ ?_
 exact .H bq (r_eql rfl)<| .B 0 .nil
 refine aftI ak aK aL fun cq cr af ar au aW al=>?_
 have⟨aO,bY⟩:=al.f2 bp bq
 have aP:=al.g 1 15
 have av:=aM.new_ aW
 refine bX _ _ ?_
 rcases bc (decide (a.k=3)) with ab|ab
 have aQ:=oT ab
 have aw:=hB aP ab
 refine wt aw<| ws<| ai _ _<| wt aw<| wk fun ct aX=>?_
 refine wA tr4 [] 23 [ve (.pointer (some ⟨q9,1,none⟩)),ve (iv a.n),ve (.bool (decide (a.n=0))),ve (.bool (decide (a.n=0)))] af ?_ ?_
 exact .F aO<| .J 0 isAgg3 av<| .b 1 (r_eql rfl)<| .B 2 .nil
 refine aftI af ar au fun cu cv cb aY aZ cc a1=>?_
 have bZ:=a1.g 3 2
 refine aX _ _<| wp_ret (ret_k aY (v:=.bool (decide (a.n=0))) (res_t rfl bZ _) ?_)
 refine ⟨?_,aZ⟩
 show Ending.returned (.bool (decide (a.n=0)))=Ending.returned (.bool (nmayB a))
 first|rfl|(simp only [nmayB,aa,ac,ad,ab,bsm] <;> rfl)|(exfalso; omega)
 have aQ:=oF ab
 have a3:=hB aP ab
 refine wf a3<| wp_g0 [true,true] [] 23
  [ve (.bool (decide (a.k=4))),ve (.bool (decide (a.k=4)))] af (.eq (.eq .nil)) ?_ ?_
 exact .H bY (r_eql rfl)<| .B 0 .nil
 refine aftI af ar au fun cw cx ag ax ay a4 az=>?_
 have b0:=az.f1 aO
 have aR:=az.g 1 15
 have a5:=av.new_ a4
 refine ai _ _ ?_
 rcases bc (decide (a.k=4)) with ae|ae
 have aS:=oT ae
 have a6:=hB aR ae
 refine wt a6<| wk fun cy a7=>?_
 refine wA tr4 [] 23 [ve (.pointer (some ⟨q9,1,none⟩)),ve (iv a.n),ve (.bool (decide (a.n=0))),ve (.bool (decide (a.n=0)))] ag ?_ ?_
 exact .F b0<| .J 0 isAgg3 a5<| .b 1 (r_eql rfl)<| .B 2 .nil
 refine aftI ag ax ay fun cz cA cd a8 a9 ce ba=>?_
 have b1:=ba.g 3 2
 refine a7 _ _<| wp_ret (ret_k a8 (v:=.bool (decide (a.n=0))) (res_t rfl b1 _) ?_)
 refine ⟨?_,a9⟩
 show Ending.returned (.bool (decide (a.n=0)))=Ending.returned (.bool (nmayB a))
 first|rfl|(simp only [nmayB,aa,ac,ad,ab,ae,bsm] <;> rfl)|(exfalso; omega)
 have aS:=oF ae
 have bb:=hB aR ae
 refine wf bb<| ws<| bu _ _<| wk fun cB bd=>?_
 refine wA tr1 [] 23 [vF] ag ?_ ?_
 exact .c .nil
 refine aftI ag ax ay fun cC cD cf be bf ch bg=>?_
 have b2:=bg.g 0 2
 refine bd _ _<| wp_ret (ret_k be (v:=.bool false) (res_t rfl b2 _) ?_)
 refine ⟨?_,bf⟩
 show Ending.returned (.bool false)=Ending.returned (.bool (nmayB a))
 first|rfl|(simp only [nmayB,aa,ac,ad,ab,ae,bsm] <;> rfl)|(exfalso; omega)
theorem bmay_c (a:Bool) (Aa:Option Addr) (ma:List Nat) (ca:Nat) (w:World) (hra:SRow w .u32 Aa ma ca):Calls prog 109 #[.agg #[.bool a,sv Aa ma ca]] w (IsRet (.bool (mayB a ma)) w):=by
 refine enter_abs func109 rfl fun a0 aq a9 hp=>?_
 have aq:a0.tmps.size=31:=aq
 have az:New w w:=Upd.refl _ _
 have hp0:a0.eval (.tmp 0)=.agg #[.bool a,sv Aa ma ca]:=hp 0 _ rfl
 have hmx:=hra.max
 refine wk fun K1 ba=>?_
 refine wB tr2 [] [] 31 [IsNew w 26 [.bool a,sv Aa ma ca],vF] [0] aq ?_ heN ?_
 exact .X hp0<| .c .nil
 refine aftI aq a9 az fun a2 w3 aA bb aB bX bd=>?_
 obtain⟨q9,h8,aC,ar⟩:=bd.G 0 1
 have bG:=Nat.le_trans az.size aC
 refine ba _ _ <| wk fun bY aD=>?_
 refine wA tr4 [] 31 [ve (.pointer (some ⟨q9,1,none⟩)),ve (sv Aa ma ca),ve (iv (ma.length:Int)),ve (iv (ma.length:Int))] aA ?_ ?_
 exact .F h8<| .J 0 isAgg24 ar<| .T (fun k=>v_lenR rfl elW (k.eq1 1 5 rfl))<| .B 2 .nil
 refine aftI aA bb aB fun bZ b0 ab ag ac aE au=>?_
 have al:=au.f1 h8
 have aa:=au.g 3 3
 have ah:=ar.new_ aE
 refine aD _ _ <| wk fun b1 ai=>?_
 rcases bc (decide ((ma.length:Int)≤8)) with ad|ad
 have av:=oT ad
 rcases bc (decide ((ma.length:Int)=0)) with ae|ae
 have aw:=oT ae
 rcases bc (a) with af|af
 rcases bc (decide ((ma.length:Int)≤0)) with aj|aj
 have ax:=oT aj
 refine wA tr25 [] 31 [ve (iv (ma.length:Int)),vT,vT,ve (iv (ma.length:Int)),vT,vT,ve (pv q9),vT,vF,vF,vF,ve (iv (ma.length:Int)),vF,vF,vU,vU,vU,vU,vU,vU,vU,vF,vF,vF,vF] ab ?_ ?_
 exact .M aa<| .b 0 (r_leqK ad)<| .N 1<| .gm (fun k=>k.eq1 2 9 rfl) (fun k=>k.fx 3 aa)<| .V (fun p k=>v_bin rfl (k.eq1 3 10 rfl) rfl (fun _=>rfl) (r_eql ae))<| .gm (fun k=>k.eq1 2 9 rfl) (fun k=>k.eq1 4 11 rfl)<| .gf (fun k=>k.eq1 5 12 rfl) (fun k=>k.fx 1 al)<| .o1 (tg rfl rfl rfl (fun _ _ k=>k.eq1 5 12 rfl) fun _ w hn k=>⟨_,v_load rfl (k.eq1 6 13 rfl) (l_one isAgg4 ((ah.new_ hn).cell 0)),congrArg Value.bool af⟩)<| .V (fun p k=>v_not rfl (k.eq1 7 14 rfl))<| .V (fun p k=>v_pickT rfl (k.eq1 5 12 rfl) (k.eq1 8 15 rfl))<| .gm (fun k=>k.eq1 2 9 rfl) (fun k=>k.eq1 9 16 rfl)<| .gm (fun k=>k.eq1 10 17 rfl) (fun k=>k.fx 3 aa)<| .V (fun p k=>v_bin rfl (k.eq1 11 18 rfl) rfl (fun _=>rfl) (r_gtrK aj))<| .gm (fun k=>k.eq1 10 17 rfl) (fun k=>k.eq1 12 19 rfl)<| .S<| .S<| .S<| .S<| .S<| .S<| .S<| .V (fun p k=>v_pickF rfl (k.eq1 13 20 rfl) rfl)<| .V (fun p k=>v_pickF rfl (k.eq1 10 17 rfl) (k.eq1 21 28 rfl))<| .T (fun k=>v_pickT rfl (k.eq1 2 9 rfl) (k.eq1 22 29 rfl))<| .B 23 .nil
 refine aftI ab ag ac fun b2 b3 bH aF aG bI aH=>?_
 have be:=aH.g 24 2
 refine ai _ _<| wp_ret (ret_k aF (v:=.bool false) (res_t rfl be _) ?_)
 have hix:((ma.length:Int) - 1).toNat=ma.length - 1:=by omega
 have q8:decide (ma.length≤8)=true:=decide_eq_true (by omega)
 have q0:decide (ma.length=0)=true:=decide_eq_true (by omega)
 have q1:decide (0 < ma.length)=false:=decide_eq_false (by omega)
 refine ⟨?_,aG⟩
 rw [show mayB a ma=false from by unfold mayB; simp only [q8,q0,q1,af]; first|rfl|(exfalso; omega)]
 have ax:=oF aj
 rcases bc (decide (((ma.getD (((ma.length:Int) - 1:Int).toNat) 0:Nat):Int)=0)) with am|am
 have ao:=oT am
 refine wp_g0 (.replicate 25 true) [] 31
  [ve (iv (ma.length:Int)),vT,vT,ve (iv (ma.length:Int)),vT,vT,ve (pv q9),vT,vF,vF,vF,ve (iv (ma.length:Int)),vT,vT,ve (.pointer (some ⟨q9,1,none⟩)),ve (sv Aa ma ca),ve (iv (ma.length:Int)),ve (iv ((ma.length:Int) - 1)),
  (EP (.int .u32 ((ma.getD (((ma.length:Int) - 1:Int).toNat) 0:Nat):Int))),ve (.int .u32 ((ma.getD (((ma.length:Int) - 1:Int).toNat) 0:Nat):Int)),vF,vF,vF,vF,vF] ab (.eq (.eq (.eq (.eq (.eq (.eq (.eq (.eq (.eq (.eq (.eq (.eq (.eq (.eq (.eq (.eq (.eq (.eq (.cons (fun _ _ _ n ⟨_,_,e,h⟩=>⟨_,_,e,h.new_ n⟩) (.eq (.eq (.eq (.eq (.eq (.eq .nil))))))))))))))))))))))))) ?_ ?_
 refine .M aa<| .b 0 (r_leqK ad)<| .N 1<| .gm (fun k=>k.eq1 2 9 rfl) (fun k=>k.fx 3 aa)<| .V (fun p k=>v_bin rfl (k.eq1 3 10 rfl) rfl (fun _=>rfl) (r_eql ae))<| .gm (fun k=>k.eq1 2 9 rfl) (fun k=>k.eq1 4 11 rfl)<| .gf (fun k=>k.eq1 5 12 rfl) (fun k=>k.fx 1 al)<| .o1 (tg rfl rfl rfl (fun _ _ k=>k.eq1 5 12 rfl) fun _ w hn k=>⟨_,v_load rfl (k.eq1 6 13 rfl) (l_one isAgg4 ((ah.new_ hn).cell 0)),congrArg Value.bool af⟩)<| .V (fun p k=>v_not rfl (k.eq1 7 14 rfl))<| .V (fun p k=>v_pickT rfl (k.eq1 5 12 rfl) (k.eq1 8 15 rfl))<| .gm (fun k=>k.eq1 2 9 rfl) (fun k=>k.eq1 9 16 rfl)<| .gm (fun k=>k.eq1 10 17 rfl) (fun k=>k.fx 3 aa)<| .V (fun p k=>v_bin rfl (k.eq1 11 18 rfl) rfl (fun _=>rfl) (r_gtrK aj))<| .gm (fun k=>k.eq1 10 17 rfl) (fun k=>k.eq1 12 19 rfl)<| .gf (fun k=>k.eq1 13 20 rfl) (fun k=>k.fx 1 al)<| .V (fun p k=>v_load rfl (k.eq1 14 21 rfl) (l_one isAgg24 ((ah.new_ p).cell 1)))<| .gm (fun k=>k.eq1 13 20 rfl) (fun k=>k.fx 3 aa)<| .V (fun p k=>v_bin rfl (k.eq1 16 23 rfl) rfl (fun _=>rfl) (r_sub rfl (by omega))) ?_
 refine .o1 (tg rfl rfl rfl (fun _ _ k=>k.eq1 13 20 rfl) fun _ w hn k=>(by
  exact x_eaddr (k:=.u32) rfl elW (k.eq1 15 22 rfl) (k.eq1 17 24 rfl) (hra.new_ (ac.transNew hn)) (by omega) fun b9 bh hme=>⟨b9,bh,rfl,hme⟩)) ?_
 refine .o1 (tg rfl rfl rfl (fun _ _ k=>k.eq1 13 20 rfl) fun _ w hn k=>(by
  obtain⟨b4,b5,bi,aI⟩:=k.G 18 25
  exact⟨_,v_load rfl bi (l_one isAgg59 aI.1),rfl⟩)) ?_
 exact .V (fun p k=>v_bin rfl (k.eq1 19 26 rfl) rfl (fun _=>rfl) (r_neq am))<| .V (fun p k=>v_pickT rfl (k.eq1 13 20 rfl) (k.eq1 20 27 rfl))<| .V (fun p k=>v_pickF rfl (k.eq1 10 17 rfl) (k.eq1 21 28 rfl))<| .T (fun k=>v_pickT rfl (k.eq1 2 9 rfl) (k.eq1 22 29 rfl))<| .B 23 .nil
 refine aftI ab ag ac fun b6 b7 bJ aJ aK bK aL=>?_
 have bj:=aL.g 24 2
 refine ai _ _<| wp_ret (ret_k aJ (v:=.bool false) (res_t rfl bj _) ?_)
 have hix:((ma.length:Int) - 1).toNat=ma.length - 1:=by omega
 have q8:decide (ma.length≤8)=true:=decide_eq_true (by omega)
 have q0:decide (ma.length=0)=true:=decide_eq_true (by omega)
 have q1:decide (0 < ma.length)=false:=decide_eq_false (by omega)
 rw [hix] at ao
 have q2:decide (ma.getD (ma.length - 1) 0 ≠ 0)=false:=decide_eq_false (by omega)
 refine ⟨?_,aK⟩
 rw [show mayB a ma=false from by unfold mayB; simp only [q8,q0,q1,af,q2]; first|rfl|(exfalso; omega)]
 have ao:=oF am
 refine wp_g0 (.replicate 25 true) [] 31
  [ve (iv (ma.length:Int)),vT,vT,ve (iv (ma.length:Int)),vT,vT,ve (pv q9),vT,vF,vF,vF,ve (iv (ma.length:Int)),vT,vT,ve (.pointer (some ⟨q9,1,none⟩)),ve (sv Aa ma ca),ve (iv (ma.length:Int)),ve (iv ((ma.length:Int) - 1)),
  (EP (.int .u32 ((ma.getD (((ma.length:Int) - 1:Int).toNat) 0:Nat):Int))),ve (.int .u32 ((ma.getD (((ma.length:Int) - 1:Int).toNat) 0:Nat):Int)),vT,vT,vT,vT,vT] ab (.eq (.eq (.eq (.eq (.eq (.eq (.eq (.eq (.eq (.eq (.eq (.eq (.eq (.eq (.eq (.eq (.eq (.eq (.cons (fun _ _ _ n ⟨_,_,e,h⟩=>⟨_,_,e,h.new_ n⟩) (.eq (.eq (.eq (.eq (.eq (.eq .nil))))))))))))))))))))))))) ?_ ?_
 refine .M aa<| .b 0 (r_leqK ad)<| .N 1<| .gm (fun k=>k.eq1 2 9 rfl) (fun k=>k.fx 3 aa)<| .V (fun p k=>v_bin rfl (k.eq1 3 10 rfl) rfl (fun _=>rfl) (r_eql ae))<| .gm (fun k=>k.eq1 2 9 rfl) (fun k=>k.eq1 4 11 rfl)<| .gf (fun k=>k.eq1 5 12 rfl) (fun k=>k.fx 1 al)<| .o1 (tg rfl rfl rfl (fun _ _ k=>k.eq1 5 12 rfl) fun _ w hn k=>⟨_,v_load rfl (k.eq1 6 13 rfl) (l_one isAgg4 ((ah.new_ hn).cell 0)),congrArg Value.bool af⟩)<| .V (fun p k=>v_not rfl (k.eq1 7 14 rfl))<| .V (fun p k=>v_pickT rfl (k.eq1 5 12 rfl) (k.eq1 8 15 rfl))<| .gm (fun k=>k.eq1 2 9 rfl) (fun k=>k.eq1 9 16 rfl)<| .gm (fun k=>k.eq1 10 17 rfl) (fun k=>k.fx 3 aa)<| .V (fun p k=>v_bin rfl (k.eq1 11 18 rfl) rfl (fun _=>rfl) (r_gtrK aj))<| .gm (fun k=>k.eq1 10 17 rfl) (fun k=>k.eq1 12 19 rfl)<| .gf (fun k=>k.eq1 13 20 rfl) (fun k=>k.fx 1 al)<| .V (fun p k=>v_load rfl (k.eq1 14 21 rfl) (l_one isAgg24 ((ah.new_ p).cell 1)))<| .gm (fun k=>k.eq1 13 20 rfl) (fun k=>k.fx 3 aa)<| .V (fun p k=>v_bin rfl (k.eq1 16 23 rfl) rfl (fun _=>rfl) (r_sub rfl (by omega))) ?_
 refine .o1 (tg rfl rfl rfl (fun _ _ k=>k.eq1 13 20 rfl) fun _ w hn k=>(by
  exact x_eaddr (k:=.u32) rfl elW (k.eq1 15 22 rfl) (k.eq1 17 24 rfl) (hra.new_ (ac.transNew hn)) (by omega) fun bm bn hme=>⟨bm,bn,rfl,hme⟩)) ?_
 refine .o1 (tg rfl rfl rfl (fun _ _ k=>k.eq1 13 20 rfl) fun _ w hn k=>(by
  obtain⟨b8,cb,bo,aM⟩:=k.G 18 25
  exact⟨_,v_load rfl bo (l_one isAgg59 aM.1),rfl⟩)) ?_
 exact .V (fun p k=>v_bin rfl (k.eq1 19 26 rfl) rfl (fun _=>rfl) (r_neq am))<| .V (fun p k=>v_pickT rfl (k.eq1 13 20 rfl) (k.eq1 20 27 rfl))<| .V (fun p k=>v_pickF rfl (k.eq1 10 17 rfl) (k.eq1 21 28 rfl))<| .T (fun k=>v_pickT rfl (k.eq1 2 9 rfl) (k.eq1 22 29 rfl))<| .B 23 .nil
 refine aftI ab ag ac fun cc cd bL aN aO bM aP=>?_
 have bp:=aP.g 24 2
 refine ai _ _<| wp_ret (ret_k aN (v:=.bool true) (res_t rfl bp _) ?_)
 have hix:((ma.length:Int) - 1).toNat=ma.length - 1:=by omega
 have q8:decide (ma.length≤8)=true:=decide_eq_true (by omega)
 have q0:decide (ma.length=0)=true:=decide_eq_true (by omega)
 have q1:decide (0 < ma.length)=false:=decide_eq_false (by omega)
 rw [hix] at ao
 have q2:decide (ma.getD (ma.length - 1) 0 ≠ 0)=true:=decide_eq_true (by omega)
 refine ⟨?_,aO⟩
 rw [show mayB a ma=true from by unfold mayB; simp only [q8,q0,q1,af,q2]; first|rfl|(exfalso; omega)]
 refine wA tr25 [] 31 [ve (iv (ma.length:Int)),vT,vT,ve (iv (ma.length:Int)),vT,vT,ve (pv q9),vF,vT,vT,vT,vU,vU,vU,vU,vU,vU,vU,vU,vU,vU,vU,vT,vT,vT] ab ?_ ?_
 exact .M aa<| .b 0 (r_leqK ad)<| .N 1<| .gm (fun k=>k.eq1 2 9 rfl) (fun k=>k.fx 3 aa)<| .V (fun p k=>v_bin rfl (k.eq1 3 10 rfl) rfl (fun _=>rfl) (r_eql ae))<| .gm (fun k=>k.eq1 2 9 rfl) (fun k=>k.eq1 4 11 rfl)<| .gf (fun k=>k.eq1 5 12 rfl) (fun k=>k.fx 1 al)<| .o1 (tg rfl rfl rfl (fun _ _ k=>k.eq1 5 12 rfl) fun _ w hn k=>⟨_,v_load rfl (k.eq1 6 13 rfl) (l_one isAgg4 ((ah.new_ hn).cell 0)),congrArg Value.bool af⟩)<| .V (fun p k=>v_not rfl (k.eq1 7 14 rfl))<| .V (fun p k=>v_pickT rfl (k.eq1 5 12 rfl) (k.eq1 8 15 rfl))<| .gm (fun k=>k.eq1 2 9 rfl) (fun k=>k.eq1 9 16 rfl)<| .S<| .S<| .S<| .o1 (su rfl rfl rfl (fun _ _ _ k=>k.eq1 13 20 rfl) (fun _=>rfl))<| .o1 (su rfl rfl rfl (fun _ _ _ k=>k.eq1 13 20 rfl) (fun _=>rfl))<| .o1 (su rfl rfl rfl (fun _ _ _ k=>k.eq1 13 20 rfl) (fun _=>rfl))<| .o1 (su rfl rfl rfl (fun _ _ _ k=>k.eq1 13 20 rfl) (fun _=>rfl))<| .o1 (su rfl rfl rfl (fun _ _ _ k=>k.eq1 13 20 rfl) (fun _=>rfl))<| .o1 (su rfl rfl rfl (fun _ _ _ k=>k.eq1 13 20 rfl) (fun _=>rfl))<| .o1 (su rfl rfl rfl (fun _ _ _ k=>k.eq1 13 20 rfl) (fun _=>rfl))<| .S<| .V (fun p k=>v_pickT rfl (k.eq1 10 17 rfl) rfl)<| .T (fun k=>v_pickT rfl (k.eq1 2 9 rfl) (k.eq1 22 29 rfl))<| .B 23 .nil
 refine aftI ab ag ac fun ce cf bN aQ aR bO aS=>?_
 have bq:=aS.g 24 2
 refine ai _ _<| wp_ret (ret_k aQ (v:=.bool true) (res_t rfl bq _) ?_)
 have hix:((ma.length:Int) - 1).toNat=ma.length - 1:=by omega
 have q8:decide (ma.length≤8)=true:=decide_eq_true (by omega)
 have q0:decide (ma.length=0)=true:=decide_eq_true (by omega)
 have q1:decide (0 < ma.length)=false:=decide_eq_false (by omega)
 refine ⟨?_,aR⟩
 rw [show mayB a ma=true from by unfold mayB; simp only [q8,q0,q1,af]; first|rfl|(exfalso; omega)]
 have aw:=oF ae
 rcases bc (decide ((ma.length:Int)≤0)) with ak|ak
 have ay:=oT ak
 refine wA tr25 [] 31 [ve (iv (ma.length:Int)),vT,vT,ve (iv (ma.length:Int)),vF,vF,vU,vU,vU,vF,vF,ve (iv (ma.length:Int)),vF,vF,vU,vU,vU,vU,vU,vU,vU,vF,vF,vF,vF] ab ?_ ?_
 exact .M aa<| .b 0 (r_leqK ad)<| .N 1<| .gm (fun k=>k.eq1 2 9 rfl) (fun k=>k.fx 3 aa)<| .V (fun p k=>v_bin rfl (k.eq1 3 10 rfl) rfl (fun _=>rfl) (r_eql ae))<| .gm (fun k=>k.eq1 2 9 rfl) (fun k=>k.eq1 4 11 rfl)<| .S<| .S<| .S<| .V (fun p k=>v_pickF rfl (k.eq1 5 12 rfl) rfl)<| .gm (fun k=>k.eq1 2 9 rfl) (fun k=>k.eq1 9 16 rfl)<| .gm (fun k=>k.eq1 10 17 rfl) (fun k=>k.fx 3 aa)<| .V (fun p k=>v_bin rfl (k.eq1 11 18 rfl) rfl (fun _=>rfl) (r_gtrK ak))<| .gm (fun k=>k.eq1 10 17 rfl) (fun k=>k.eq1 12 19 rfl)<| .S<| .S<| .S<| .S<| .S<| .S<| .S<| .V (fun p k=>v_pickF rfl (k.eq1 13 20 rfl) rfl)<| .V (fun p k=>v_pickF rfl (k.eq1 10 17 rfl) (k.eq1 21 28 rfl))<| .T (fun k=>v_pickT rfl (k.eq1 2 9 rfl) (k.eq1 22 29 rfl))<| .B 23 .nil
 refine aftI ab ag ac fun ch ci bP aT aU bQ aV=>?_
 have br:=aV.g 24 2
 refine ai _ _<| wp_ret (ret_k aT (v:=.bool false) (res_t rfl br _) ?_)
 have hix:((ma.length:Int) - 1).toNat=ma.length - 1:=by omega
 have q8:decide (ma.length≤8)=true:=decide_eq_true (by omega)
 have q0:decide (ma.length=0)=false:=decide_eq_false (by omega)
 have q1:decide (0 < ma.length)=true:=decide_eq_true (by omega)
 refine ⟨?_,aU⟩
 rw [show mayB a ma=false from by unfold mayB; simp only [q8,q0,q1]; first|rfl|(exfalso; omega)]
 have ay:=oF ak
 rcases bc (decide (((ma.getD (((ma.length:Int) - 1:Int).toNat) 0:Nat):Int)=0)) with an|an
 have ap:=oT an
 refine wp_g0 (.replicate 25 true) [] 31
  [ve (iv (ma.length:Int)),vT,vT,ve (iv (ma.length:Int)),vF,vF,vU,vU,vU,vF,vF,ve (iv (ma.length:Int)),vT,vT,ve (.pointer (some ⟨q9,1,none⟩)),ve (sv Aa ma ca),ve (iv (ma.length:Int)),ve (iv ((ma.length:Int) - 1)),
  (EP (.int .u32 ((ma.getD (((ma.length:Int) - 1:Int).toNat) 0:Nat):Int))),ve (.int .u32 ((ma.getD (((ma.length:Int) - 1:Int).toNat) 0:Nat):Int)),vF,vF,vF,vF,vF] ab (.eq (.eq (.eq (.eq (.eq (.eq (.eq (.eq (.eq (.eq (.eq (.eq (.eq (.eq (.eq (.eq (.eq (.eq (.cons (fun _ _ _ n ⟨_,_,e,h⟩=>⟨_,_,e,h.new_ n⟩) (.eq (.eq (.eq (.eq (.eq (.eq .nil))))))))))))))))))))))))) ?_ ?_
 refine .M aa<| .b 0 (r_leqK ad)<| .N 1<| .gm (fun k=>k.eq1 2 9 rfl) (fun k=>k.fx 3 aa)<| .V (fun p k=>v_bin rfl (k.eq1 3 10 rfl) rfl (fun _=>rfl) (r_eql ae))<| .gm (fun k=>k.eq1 2 9 rfl) (fun k=>k.eq1 4 11 rfl)<| .S<| .S<| .S<| .V (fun p k=>v_pickF rfl (k.eq1 5 12 rfl) rfl)<| .gm (fun k=>k.eq1 2 9 rfl) (fun k=>k.eq1 9 16 rfl)<| .gm (fun k=>k.eq1 10 17 rfl) (fun k=>k.fx 3 aa)<| .V (fun p k=>v_bin rfl (k.eq1 11 18 rfl) rfl (fun _=>rfl) (r_gtrK ak))<| .gm (fun k=>k.eq1 10 17 rfl) (fun k=>k.eq1 12 19 rfl)<| .gf (fun k=>k.eq1 13 20 rfl) (fun k=>k.fx 1 al)<| .V (fun p k=>v_load rfl (k.eq1 14 21 rfl) (l_one isAgg24 ((ah.new_ p).cell 1)))<| .gm (fun k=>k.eq1 13 20 rfl) (fun k=>k.fx 3 aa)<| .V (fun p k=>v_bin rfl (k.eq1 16 23 rfl) rfl (fun _=>rfl) (r_sub rfl (by omega))) ?_
 refine .o1 (tg rfl rfl rfl (fun _ _ k=>k.eq1 13 20 rfl) fun _ w hn k=>(by
  exact x_eaddr (k:=.u32) rfl elW (k.eq1 15 22 rfl) (k.eq1 17 24 rfl) (hra.new_ (ac.transNew hn)) (by omega) fun bu bv hme=>⟨bu,bv,rfl,hme⟩)) ?_
 refine .o1 (tg rfl rfl rfl (fun _ _ k=>k.eq1 13 20 rfl) fun _ w hn k=>(by
  obtain⟨cj,cl,bw,aW⟩:=k.G 18 25
  exact⟨_,v_load rfl bw (l_one isAgg59 aW.1),rfl⟩)) ?_
 exact .V (fun p k=>v_bin rfl (k.eq1 19 26 rfl) rfl (fun _=>rfl) (r_neq an))<| .V (fun p k=>v_pickT rfl (k.eq1 13 20 rfl) (k.eq1 20 27 rfl))<| .V (fun p k=>v_pickF rfl (k.eq1 10 17 rfl) (k.eq1 21 28 rfl))<| .T (fun k=>v_pickT rfl (k.eq1 2 9 rfl) (k.eq1 22 29 rfl))<| .B 23 .nil
 refine aftI ab ag ac fun cm cn bR aX aY bS aZ=>?_
 have bx:=aZ.g 24 2
 refine ai _ _<| wp_ret (ret_k aX (v:=.bool false) (res_t rfl bx _) ?_)
 have hix:((ma.length:Int) - 1).toNat=ma.length - 1:=by omega
 have q8:decide (ma.length≤8)=true:=decide_eq_true (by omega)
 have q0:decide (ma.length=0)=false:=decide_eq_false (by omega)
 have q1:decide (0 < ma.length)=true:=decide_eq_true (by omega)
 rw [hix] at ap
 have q2:decide (ma.getD (ma.length - 1) 0 ≠ 0)=false:=decide_eq_false (by omega)
 refine ⟨?_,aY⟩
 rw [show mayB a ma=false from by unfold mayB; simp only [q8,q0,q1,q2]; first|rfl|(exfalso; omega)]
 have ap:=oF an
 refine wp_g0 (.replicate 25 true) [] 31
  [ve (iv (ma.length:Int)),vT,vT,ve (iv (ma.length:Int)),vF,vF,vU,vU,vU,vF,vF,ve (iv (ma.length:Int)),vT,vT,ve (.pointer (some ⟨q9,1,none⟩)),ve (sv Aa ma ca),ve (iv (ma.length:Int)),ve (iv ((ma.length:Int) - 1)),
  (EP (.int .u32 ((ma.getD (((ma.length:Int) - 1:Int).toNat) 0:Nat):Int))),ve (.int .u32 ((ma.getD (((ma.length:Int) - 1:Int).toNat) 0:Nat):Int)),vT,vT,vT,vT,vT] ab (.eq (.eq (.eq (.eq (.eq (.eq (.eq (.eq (.eq (.eq (.eq (.eq (.eq (.eq (.eq (.eq (.eq (.eq (.cons (fun _ _ _ n ⟨_,_,e,h⟩=>⟨_,_,e,h.new_ n⟩) (.eq (.eq (.eq (.eq (.eq (.eq .nil))))))))))))))))))))))))) ?_ ?_
 refine .M aa<| .b 0 (r_leqK ad)<| .N 1<| .gm (fun k=>k.eq1 2 9 rfl) (fun k=>k.fx 3 aa)<| .V (fun p k=>v_bin rfl (k.eq1 3 10 rfl) rfl (fun _=>rfl) (r_eql ae))<| .gm (fun k=>k.eq1 2 9 rfl) (fun k=>k.eq1 4 11 rfl)<| .S<| .S<| .S<| .V (fun p k=>v_pickF rfl (k.eq1 5 12 rfl) rfl)<| .gm (fun k=>k.eq1 2 9 rfl) (fun k=>k.eq1 9 16 rfl)<| .gm (fun k=>k.eq1 10 17 rfl) (fun k=>k.fx 3 aa)<| .V (fun p k=>v_bin rfl (k.eq1 11 18 rfl) rfl (fun _=>rfl) (r_gtrK ak))<| .gm (fun k=>k.eq1 10 17 rfl) (fun k=>k.eq1 12 19 rfl)<| .gf (fun k=>k.eq1 13 20 rfl) (fun k=>k.fx 1 al)<| .V (fun p k=>v_load rfl (k.eq1 14 21 rfl) (l_one isAgg24 ((ah.new_ p).cell 1)))<| .gm (fun k=>k.eq1 13 20 rfl) (fun k=>k.fx 3 aa)<| .V (fun p k=>v_bin rfl (k.eq1 16 23 rfl) rfl (fun _=>rfl) (r_sub rfl (by omega))) ?_
 refine .o1 (tg rfl rfl rfl (fun _ _ k=>k.eq1 13 20 rfl) fun _ w hn k=>(by
  exact x_eaddr (k:=.u32) rfl elW (k.eq1 15 22 rfl) (k.eq1 17 24 rfl) (hra.new_ (ac.transNew hn)) (by omega) fun bB bC hme=>⟨bB,bC,rfl,hme⟩)) ?_
 refine .o1 (tg rfl rfl rfl (fun _ _ k=>k.eq1 13 20 rfl) fun _ w hn k=>(by
  obtain⟨co,cp,bD,a1⟩:=k.G 18 25
  exact⟨_,v_load rfl bD (l_one isAgg59 a1.1),rfl⟩)) ?_
 exact .V (fun p k=>v_bin rfl (k.eq1 19 26 rfl) rfl (fun _=>rfl) (r_neq an))<| .V (fun p k=>v_pickT rfl (k.eq1 13 20 rfl) (k.eq1 20 27 rfl))<| .V (fun p k=>v_pickF rfl (k.eq1 10 17 rfl) (k.eq1 21 28 rfl))<| .T (fun k=>v_pickT rfl (k.eq1 2 9 rfl) (k.eq1 22 29 rfl))<| .B 23 .nil
 refine aftI ab ag ac fun cq cr bT a3 a4 bU a5=>?_
 have bE:=a5.g 24 2
 refine ai _ _<| wp_ret (ret_k a3 (v:=.bool true) (res_t rfl bE _) ?_)
 have hix:((ma.length:Int) - 1).toNat=ma.length - 1:=by omega
 have q8:decide (ma.length≤8)=true:=decide_eq_true (by omega)
 have q0:decide (ma.length=0)=false:=decide_eq_false (by omega)
 have q1:decide (0 < ma.length)=true:=decide_eq_true (by omega)
 rw [hix] at ap
 have q2:decide (ma.getD (ma.length - 1) 0 ≠ 0)=true:=decide_eq_true (by omega)
 refine ⟨?_,a4⟩
 rw [show mayB a ma=true from by unfold mayB; simp only [q8,q0,q1,q2]; first|rfl|(exfalso; omega)]
 have av:=oF ad
 refine wA tr25 [] 31 [ve (iv (ma.length:Int)),vF,vF,vU,vU,vU,vU,vU,vU,vU,vU,vU,vU,vU,vU,vU,vU,vU,vU,vU,vU,vU,vU,vF,vF] ab ?_ ?_
 exact .M aa<| .b 0 (r_leqK ad)<| .N 1<| .S<| .S<| .S<| .o1 (su rfl rfl rfl (fun _ _ _ k=>k.eq1 5 12 rfl) (fun _=>rfl))<| .o1 (su rfl rfl rfl (fun _ _ _ k=>k.eq1 5 12 rfl) (fun _=>rfl))<| .o1 (su rfl rfl rfl (fun _ _ _ k=>k.eq1 5 12 rfl) (fun _=>rfl))<| .S<| .S<| .o1 (su rfl rfl rfl (fun _ _ _ k=>k.eq1 10 17 rfl) (fun _=>rfl))<| .o1 (su rfl rfl rfl (fun _ _ _ k=>k.eq1 10 17 rfl) (fun _=>rfl))<| .o1 (su rfl rfl rfl (fun _ _ _ k=>k.eq1 10 17 rfl) (fun _=>rfl))<| .o1 (su rfl rfl rfl (fun _ _ _ k=>k.eq1 13 20 rfl) (fun _=>rfl))<| .o1 (su rfl rfl rfl (fun _ _ _ k=>k.eq1 13 20 rfl) (fun _=>rfl))<| .o1 (su rfl rfl rfl (fun _ _ _ k=>k.eq1 13 20 rfl) (fun _=>rfl))<| .o1 (su rfl rfl rfl (fun _ _ _ k=>k.eq1 13 20 rfl) (fun _=>rfl))<| .o1 (su rfl rfl rfl (fun _ _ _ k=>k.eq1 13 20 rfl) (fun _=>rfl))<| .o1 (su rfl rfl rfl (fun _ _ _ k=>k.eq1 13 20 rfl) (fun _=>rfl))<| .o1 (su rfl rfl rfl (fun _ _ _ k=>k.eq1 13 20 rfl) (fun _=>rfl))<| .o1 (su rfl rfl rfl (fun _ _ _ k=>k.eq1 10 17 rfl) (fun _=>rfl))<| .S<| .T (fun k=>v_pickF rfl (k.eq1 2 9 rfl) rfl)<| .B 23 .nil
 refine aftI ab ag ac fun ct cu bV a6 a7 bW a8=>?_
 have bF:=a8.g 24 2
 refine ai _ _<| wp_ret (ret_k a6 (v:=.bool false) (res_t rfl bF _) ?_)
 have hix:((ma.length:Int) - 1).toNat=ma.length - 1:=by omega
 have q8:decide (ma.length≤8)=false:=decide_eq_false (by omega)
 refine ⟨?_,a7⟩
 rw [show mayB a ma=false from by unfold mayB; simp only [q8]; first|rfl|(exfalso; omega)]
theorem zero_c (v:Vl) (Av:Option Addr) (cv:Nat) (Bv:Option Addr) (dv:Nat) (w:World) (hmv:SRow w .u32 Av v.mag cv) (hsv:SRow w .u16 Bv v.s dv):Calls prog 107 #[vv v Av cv Bv dv] w (IsRet (.bool (zeroV v)) w):=by
 refine enter_abs func107 rfl fun a0 ab ak hp=>?_
 have ab:a0.tmps.size=31:=ab
 have ac:New w w:=Upd.refl _ _
 have hp0:a0.eval (.tmp 0)=vv v Av cv Bv dv:=hp 0 _ rfl
 refine wk fun K1 al=>?_
 refine wB tr2 [] [] 31 [IsNew w 29 (c7 v Av cv Bv dv),vF] [0] ab ?_ heN ?_
 exact .X hp0<| .c .nil
 refine aftI ab ak ac fun a2 w3 ad am ae au an=>?_
 obtain⟨q9,h8,af,aa⟩:=an.G 0 1
 have ap:=Nat.le_trans ac.size af
 refine al _ _ <| wk fun av ag=>?_
 refine wA tr29 [] 31 [ve (.pointer (some ⟨q9,1,none⟩)),ve (nv (Nm.mk v.nk v.nn)),ve (nv (Nm.mk 0 0)),ve (.bool (decide (v.nk=0) && decide (v.nn=0))),ve (.bool (decide (v.nk=0) && decide (v.nn=0))),ve (gq (decide (v.nk=0) && decide (v.nn=0)) (.pointer (some ⟨q9,3,none⟩))),ve (gq (decide (v.nk=0) && decide (v.nn=0)) (.pointer (some ⟨q9,3,none⟩))),ve (gq (decide (v.nk=0) && decide (v.nn=0)) (.bool v.neg)),ve (gq (decide (v.nk=0) && decide (v.nn=0)) (.bool (!v.neg))),ve (.bool ((decide (v.nk=0) && decide (v.nn=0)) && (!v.neg))),ve (.bool ((decide (v.nk=0) && decide (v.nn=0)) && (!v.neg))),ve (gq ((decide (v.nk=0) && decide (v.nn=0)) && (!v.neg)) (.pointer (some ⟨q9,3,none⟩))),ve (gq ((decide (v.nk=0) && decide (v.nn=0)) && (!v.neg)) (.pointer (some ⟨q9,4,none⟩))),ve (gq ((decide (v.nk=0) && decide (v.nn=0)) && (!v.neg)) (sv Av v.mag cv)),ve (gq ((decide (v.nk=0) && decide (v.nn=0)) && (!v.neg)) (iv (v.mag.length:Int))),ve (gq ((decide (v.nk=0) && decide (v.nn=0)) && (!v.neg)) (.bool (decide ((v.mag.length:Int)=0)))),ve (.bool (((decide (v.nk=0) && decide (v.nn=0)) && (!v.neg)) && (decide ((v.mag.length:Int)=0)))),ve (.bool (((decide (v.nk=0) && decide (v.nn=0)) && (!v.neg)) && (decide ((v.mag.length:Int)=0)))),ve (gq (((decide (v.nk=0) && decide (v.nn=0)) && (!v.neg)) && (decide ((v.mag.length:Int)=0))) (.pointer (some ⟨q9,5,none⟩))),ve (gq (((decide (v.nk=0) && decide (v.nn=0)) && (!v.neg)) && (decide ((v.mag.length:Int)=0))) (sv Bv v.s dv)),ve (gq (((decide (v.nk=0) && decide (v.nn=0)) && (!v.neg)) && (decide ((v.mag.length:Int)=0))) (iv (v.s.length:Int))),ve (gq (((decide (v.nk=0) && decide (v.nn=0)) && (!v.neg)) && (decide ((v.mag.length:Int)=0))) (.bool (decide ((v.s.length:Int)=0)))),ve (.bool ((((decide (v.nk=0) && decide (v.nn=0)) && (!v.neg)) && (decide ((v.mag.length:Int)=0))) && (decide ((v.s.length:Int)=0)))),ve (.bool ((((decide (v.nk=0) && decide (v.nn=0)) && (!v.neg)) && (decide ((v.mag.length:Int)=0))) && (decide ((v.s.length:Int)=0)))),ve (gq ((((decide (v.nk=0) && decide (v.nn=0)) && (!v.neg)) && (decide ((v.mag.length:Int)=0))) && (decide ((v.s.length:Int)=0))) (.pointer (some ⟨q9,6,none⟩))),ve (gq ((((decide (v.nk=0) && decide (v.nn=0)) && (!v.neg)) && (decide ((v.mag.length:Int)=0))) && (decide ((v.s.length:Int)=0))) (iv v.ref)),ve (gq ((((decide (v.nk=0) && decide (v.nn=0)) && (!v.neg)) && (decide ((v.mag.length:Int)=0))) && (decide ((v.s.length:Int)=0))) (.bool (decide (v.ref=0)))),ve (.bool (((((decide (v.nk=0) && decide (v.nn=0)) && (!v.neg)) && (decide ((v.mag.length:Int)=0))) && (decide ((v.s.length:Int)=0))) && (decide (v.ref=0)))),ve (.bool (((((decide (v.nk=0) && decide (v.nn=0)) && (!v.neg)) && (decide ((v.mag.length:Int)=0))) && (decide ((v.s.length:Int)=0))) && (decide (v.ref=0))))] ad ?_ ?_
 exact .F h8<| .K2 0 aa<| .Z<| .T (fun k=>v_bin rfl (k.eq1 1 4 rfl) (k.eq1 2 5 rfl) (gNum _ _ _ _) (eqlNum _ _ _ _ rfl))<| .N 3<| .Q (fun k=>g0 (k.eq1 4 7 rfl)) (fun hG n k=>v_field rfl (k.fx 1 h8) (fun w=>rfl))<| .Q (fun k=>g0 (k.eq1 4 7 rfl)) (fun hG n k=>v_field rfl (cT hG (k.eq1 5 8 rfl)) (fun w=>rfl))<| .Q (fun k=>g0 (k.eq1 4 7 rfl)) (fun hG n k=>v_load rfl (cT hG (k.eq1 6 9 rfl)) (l_one isAgg4 ((aa.new_ n).cell 3)))<| .Q (fun k=>g0 (k.eq1 4 7 rfl)) (fun hG n k=>v_not rfl (cT hG (k.eq1 7 10 rfl)))<| .O 4 8<| .N 9<| .Q (fun k=>g0 (k.eq1 10 13 rfl)) (fun hG n k=>v_field rfl (k.fx 1 h8) (fun w=>rfl))<| .Q (fun k=>g0 (k.eq1 10 13 rfl)) (fun hG n k=>v_field rfl (cT hG (k.eq1 11 14 rfl)) (fun w=>rfl))<| .Q (fun k=>g0 (k.eq1 10 13 rfl)) (fun hG n k=>v_load rfl (cT hG (k.eq1 12 15 rfl)) (l_one isAgg24 ((aa.new_ n).cell 4)))<| .Q (fun k=>g0 (k.eq1 10 13 rfl)) (fun hG n k=>v_lenR rfl elW (cT hG (k.eq1 13 16 rfl)))<| .Q (fun k=>g0 (k.eq1 10 13 rfl)) (fun hG n k=>v_bin rfl (cT hG (k.eq1 14 17 rfl)) rfl (fun _=>rfl) (r_eql rfl))<| .O 10 15<| .N 16<| .Q (fun k=>g0 (k.eq1 17 20 rfl)) (fun hG n k=>v_field rfl (k.fx 1 h8) (fun w=>rfl))<| .Q (fun k=>g0 (k.eq1 17 20 rfl)) (fun hG n k=>v_load rfl (cT hG (k.eq1 18 21 rfl)) (l_one isAgg27 ((aa.new_ n).cell 5)))<| .Q (fun k=>g0 (k.eq1 17 20 rfl)) (fun hG n k=>v_lenR rfl elU (cT hG (k.eq1 19 22 rfl)))<| .Q (fun k=>g0 (k.eq1 17 20 rfl)) (fun hG n k=>v_bin rfl (cT hG (k.eq1 20 23 rfl)) rfl (fun _=>rfl) (r_eql rfl))<| .O 17 21<| .N 22<| .Q (fun k=>g0 (k.eq1 23 26 rfl)) (fun hG n k=>v_field rfl (k.fx 1 h8) (fun w=>rfl))<| .Q (fun k=>g0 (k.eq1 23 26 rfl)) (fun hG n k=>v_load rfl (cT hG (k.eq1 24 27 rfl)) (l_one isAgg3 ((aa.new_ n).cell 6)))<| .Q (fun k=>g0 (k.eq1 23 26 rfl)) (fun hG n k=>v_bin rfl (cT hG (k.eq1 25 28 rfl)) rfl (fun _=>rfl) (r_eql rfl))<| .O 23 26<| .B 27 .nil
 refine aftI ad am ae fun aw ax aq ah ai ar aj=>?_
 have ao:=aj.g 28 2
 refine ag _ _<| wp_ret (ret_k ah (v:=.bool (((((decide (v.nk=0) && decide (v.nn=0)) && (!v.neg)) && (decide ((v.mag.length:Int)=0))) && (decide ((v.s.length:Int)=0))) && (decide (v.ref=0)))) (res_t rfl ao _) ?_)
 refine ⟨?_,ai⟩
 show Ending.returned (.bool (((((decide (v.nk=0) && decide (v.nn=0)) && (!v.neg)) && (decide ((v.mag.length:Int)=0))) && (decide ((v.s.length:Int)=0))) && (decide (v.ref=0))))=Ending.returned (.bool (zeroV v))
 first|rfl|(simp only [zeroV,bsm] <;> rfl)|(exfalso; omega)
theorem vmay_c (v:Vl) (Av:Option Addr) (cv:Nat) (Bv:Option Addr) (dv:Nat) (w:World) (hmv:SRow w .u32 Av v.mag cv) (hsv:SRow w .u16 Bv v.s dv):Calls prog 62 #[vv v Av cv Bv dv] w (IsRet (.bool (mayV v)) w):=by
 refine enter_abs func62 rfl fun a0 aS eV hp=>?_
 have aS:a0.tmps.size=70:=aS
 have dQ:New w w:=Upd.refl _ _
 have hp0:a0.eval (.tmp 0)=vv v Av cv Bv dv:=hp 0 _ rfl
 refine wk fun K1 eW=>?_
 refine wB tr2 [] [] 70 [IsNew w 29 (c7 v Av cv Bv dv),vF] [0] aS ?_ heN ?_
 exact .X hp0<| .c .nil
 refine aftI aS eV dQ fun a2 w3 dR eX bv gl eY=>?_
 obtain⟨q9,h8,d1,aL⟩:=eY.G 0 1
 have fj:=Nat.le_trans dQ.size d1
 refine eW _ _ <| wk fun gm d2=>?_
 refine wB [true,true,false] [] [(2,false)] 70 [ve (vv v Av cv Bv dv),IsNew w3 29 z7,vt] [1] dR ?_ heN ?_
 exact .L9 h8 aL<| .Y<| .off .nil
 refine aftI dR eX bv fun gn go bw d3 d4 d5 aM=>?_
 have dS:=aM.f1 h8
 have eZ:=aM.g 0 4
 obtain⟨ah,dT,bx,d6⟩:=aM.G 1 3
 have d7:=aL.new_ d5
 have hne28:q9 ≠ ah:=by have h1:=aL.lt; have h2:=bx; omega
 have fk:=Nat.le_trans bv.size bx
 refine sS9 dT eZ d6 fun e0 ea d8 d9=>?_
 have bz:=d9 hne28 d7
 have ec:=d4.tR d8
 refine d2 _ _ <| wk fun gr ed=>?_
 refine wk fun gs ee=>?_
 refine wA tr2 [] 70 [ve (pv q9),ve (iv v.k)] bw ?_ ?_
 exact .F dS<| .J 0 isAgg3 bz .nil
 refine aftI bw d3 ec fun gt gu bA ef eg bB aN=>?_
 have⟨e1,e2⟩:=aN.f2 dS dT
 have dU:=aN.g 1 6
 have⟨eh,ei⟩:=nw2 bB bz ea
 refine ee _ _<| wb<| wk fun gv bC=>wk fun gw ej=>?_
 refine wA tr2 [] 70 [ve (.bool (decide (v.k=0))),ve (.bool (decide (v.k=0)))] bA ?_ ?_
 exact .H dU (r_eql rfl)<| .B 0 .nil
 refine aftI bA ef eg fun gx gy ax bD ay bE az=>?_
 have⟨dV,e3,dW⟩:=az.f3 e1 e2 dU
 have dX:=az.g 1 7
 have⟨bF,ek⟩:=nw2 bE eh ei
 refine ej _ _ ?_
 rcases bc (decide (v.k=0)) with ab|ab
 have cb:=oT ab
 have bG:=hB dX ab
 refine wt bG<| ws<| bC _ _<| wt bG<| wk fun gz el=>?_
 refine wA tr3 [] 70 [ve (vv v Av cv Bv dv),ve (.bool (zeroV v)),ve (.bool (zeroV v))] ax ?_ ?_
 exact .L9 dV bF<| .C 0 (fun n=>zero_c v _ _ _ _ _ (hmv.new_ (ay.transNew n)) (hsv.new_ (ay.transNew n)))<| .B 1 .nil
 refine aftI ax bD ay fun gA gB fl em en fm eo=>?_
 have e4:=eo.g 2 2
 refine el _ _<| wp_ret (ret_k em (v:=.bool (zeroV v)) (res_t rfl e4 _) ?_)
 refine ⟨?_,en⟩
 show Ending.returned (.bool (zeroV v))=Ending.returned (.bool (mayV v))
 first|rfl|(simp only [mayV,ab,bsm] <;> rfl)|(exfalso; omega)
 have cb:=oF ab
 have ep:=hB dX ab
 refine wf ep<| wp_g0 [true,true] [] 70
  [ve (.bool (decide (v.k=1))),ve (.bool (decide (v.k=1)))] ax (.eq (.eq .nil)) ?_ ?_
 exact .H dW (r_eql rfl)<| .B 0 .nil
 refine aftI ax bD ay fun gC gD aA bH aB bI aC=>?_
 have⟨dY,e5,dZ⟩:=aC.f3 dV e3 dW
 have d0:=aC.g 1 7
 have⟨bJ,er⟩:=nw2 bI bF ek
 refine bC _ _ ?_
 rcases bc (decide (v.k=1)) with ad|ad
 have cc:=oT ad
 have es:=hB d0 ad
 refine wt es<| wk fun gE et=>?_
 refine wA tr3 [] 70 [ve (vv v Av cv Bv dv),ve (.bool (zeroV v)),ve (.bool (zeroV v))] aA ?_ ?_
 exact .L9 dY bJ<| .C 0 (fun n=>zero_c v _ _ _ _ _ (hmv.new_ (aB.transNew n)) (hsv.new_ (aB.transNew n)))<| .B 1 .nil
 refine aftI aA bH aB fun gF gG e6 cd ce fn cf=>?_
 have eu:=cf.g 2 2
 refine et _ _<| wp_ret (ret_k cd (v:=.bool (zeroV v)) (res_t rfl eu _) ?_)
 refine ⟨?_,ce⟩
 show Ending.returned (.bool (zeroV v))=Ending.returned (.bool (mayV v))
 first|rfl|(simp only [mayV,ab,ad,bsm] <;> rfl)|(exfalso; omega)
 have cc:=oF ad
 have ch:=hB d0 ad
 refine wf ch<| wk fun fo ci=>?_
 refine wA tr2 [] 70 [ve (.bool (decide (v.k=2))),ve (.bool (decide (v.k=2)))] aA ?_ ?_
 exact .H dZ (r_eql rfl)<| .B 0 .nil
 refine aftI aA bH aB fun fp fq ai aT aU aV ak=>?_
 have⟨bK,aO,bL⟩:=ak.f3 dY e5 dZ
 have bM:=ak.g 1 12
 have⟨aW,aX⟩:=nw2 aV bJ er
 refine ci _ _ ?_
 rcases bc (decide (v.k=2)) with aa|aa
 have bN:=oT aa
 have cj:=hB bM aa
 refine wt cj<| wk fun fs cl=>?_
 refine wA [true,false] [(1,false)] 70 [ve (.pointer (some ⟨ah,6,none⟩)),vt] ai ?_ ?_
 exact .F aO<| .off .nil
 refine aftI ai aT aU fun ft fu aY cm cn aZ aD=>?_
 have⟨bO,ev⟩:=aD.f2 bK aO
 have ew:=aD.g 0 14
 have⟨co,cp⟩:=nw2 aZ aW aX
 obtain⟨fv,-,bP,cq,cr,ct⟩:=s_one (v:=iv 0) (i:=6) sizeOf3 rfl rfl cp lb
 refine st_act rfl rfl fun fw cu=>a_store' rfl ew rfl bP (cu _ _ trivial ?_)
 have a1:=ct _ _ _ (hne28) co
 have aE:=cn.tR cr
 refine cl _ _ <| wk fun fy cw=>?_
 refine wA tr13 [] 70 [ve (vv (Vl.mk v.k v.nk v.nn v.neg v.mag v.s 0) Av cv Bv dv),ve (.bool (zeroV (Vl.mk v.k v.nk v.nn v.neg v.mag v.s 0))),ve (.bool (zeroV (Vl.mk v.k v.nk v.nn v.neg v.mag v.s 0))),ve (gq (zeroV (Vl.mk v.k v.nk v.nn v.neg v.mag v.s 0)) (.pointer (some ⟨q9,6,none⟩))),ve (gq (zeroV (Vl.mk v.k v.nk v.nn v.neg v.mag v.s 0)) (iv v.ref)),ve (gq (zeroV (Vl.mk v.k v.nk v.nn v.neg v.mag v.s 0)) (.bool (decide (v.ref=0)))),ve (gq (zeroV (Vl.mk v.k v.nk v.nn v.neg v.mag v.s 0)) (.bool (decide (v.ref=0)))),ve (gq ((zeroV (Vl.mk v.k v.nk v.nn v.neg v.mag v.s 0)) && (!(decide (v.ref=0)))) (.pointer (some ⟨q9,6,none⟩))),ve (gq ((zeroV (Vl.mk v.k v.nk v.nn v.neg v.mag v.s 0)) && (!(decide (v.ref=0)))) (iv v.ref)),ve (gq ((zeroV (Vl.mk v.k v.nk v.nn v.neg v.mag v.s 0)) && (!(decide (v.ref=0)))) (.bool (decide (v.ref=1)))),ve (gq (zeroV (Vl.mk v.k v.nk v.nn v.neg v.mag v.s 0)) (.bool ((decide (v.ref=0)) || (decide (v.ref=1))))),ve (.bool ((zeroV (Vl.mk v.k v.nk v.nn v.neg v.mag v.s 0)) && ((decide (v.ref=0)) || (decide (v.ref=1))))),ve (.bool ((zeroV (Vl.mk v.k v.nk v.nn v.neg v.mag v.s 0)) && ((decide (v.ref=0)) || (decide (v.ref=1)))))] aY ?_ ?_
 exact .L9 ev cq<| .C 0 (fun n=>zero_c (Vl.mk v.k v.nk v.nn v.neg v.mag v.s 0) _ _ _ _ _ (hmv.new_ (aE.transNew n)) (hsv.new_ (aE.transNew n)))<| .N 1<| .Q (fun k=>g0 (k.eq1 2 17 rfl)) (fun hG n k=>v_field rfl (k.fx 1 bO) (fun w=>rfl))<| .Q (fun k=>g0 (k.eq1 2 17 rfl)) (fun hG n k=>v_load rfl (cT hG (k.eq1 3 18 rfl)) (l_one isAgg3 ((a1.new_ n).cell 6)))<| .Q (fun k=>g0 (k.eq1 2 17 rfl)) (fun hG n k=>v_bin rfl (cT hG (k.eq1 4 19 rfl)) rfl (fun _=>rfl) (r_eql rfl))<| .Q (fun k=>g0 (k.eq1 2 17 rfl)) (fun hG n k=>v_move rfl (cT hG (k.eq1 5 20 rfl)))<| .Q (fun k=>g1' (k.eq1 6 21 rfl)) (fun hG n k=>v_field rfl (k.fx 1 bO) (fun w=>rfl))<| .Q (fun k=>g1' (k.eq1 6 21 rfl)) (fun hG n k=>v_load rfl (cT hG (k.eq1 7 22 rfl)) (l_one isAgg3 ((a1.new_ n).cell 6)))<| .Q (fun k=>g1' (k.eq1 6 21 rfl)) (fun hG n k=>v_bin rfl (cT hG (k.eq1 8 23 rfl)) rfl (fun _=>rfl) (r_eql rfl))<| .Q (fun k=>g0 (k.eq1 2 17 rfl)) (fun hG n k=>v_or rfl (cT hG (k.eq1 6 21 rfl)) rfl (fun hg=>(cT (aj hG (nt hg)) (k.eq1 9 24 rfl))))<| .O 2 10<| .B 11 .nil
 refine aftI aY cm aE fun fz fA e7 cx cy e8 cz=>?_
 have ex:=cz.g 12 2
 refine cw _ _<| wp_ret (ret_k cx (v:=.bool ((zeroV (Vl.mk v.k v.nk v.nn v.neg v.mag v.s 0)) && ((decide (v.ref=0)) || (decide (v.ref=1))))) (res_t rfl ex _) ?_)
 refine ⟨?_,cy⟩
 show Ending.returned (.bool ((zeroV (Vl.mk v.k v.nk v.nn v.neg v.mag v.s 0)) && ((decide (v.ref=0)) || (decide (v.ref=1)))))=Ending.returned (.bool (mayV v))
 first|rfl|(simp only [mayV,ab,ad,aa,bsm] <;> rfl)|(exfalso; omega)
 have bN:=oF aa
 have cA:=hB bM aa
 refine wf cA<| wk fun fB cB=>?_
 refine wA tr2 [] 70 [ve (.bool (decide (v.k=3))),ve (.bool (decide (v.k=3)))] ai ?_ ?_
 exact .H bL (r_eql rfl)<| .B 0 .nil
 refine aftI ai aT aU fun fC fD al a3 a4 a5 am=>?_
 have⟨bQ,aP,bR⟩:=am.f3 bK aO bL
 have bS:=am.g 1 27
 have⟨a6,a7⟩:=nw2 a5 aW aX
 refine cB _ _ ?_
 rcases bc (decide (v.k=3)) with ac|ac
 have bT:=oT ac
 have cC:=hB bS ac
 refine wt cC<| wk fun fE cD=>?_
 refine wA [true,true,false] [(2,false)] 70 [ve (nv (Nm.mk 0 0)),ve (.pointer (some ⟨ah,1,none⟩)),vt] al ?_ ?_
 exact .Z<| .F aP<| .off .nil
 refine aftI al a3 a4 fun fF fG a8 cE cF a9 an=>?_
 have⟨ey,ez⟩:=an.f2 bQ aP
 have eA:=an.g 0 29
 have eB:=an.g 1 30
 have⟨cG,cH⟩:=nw2 a9 a6 a7
 obtain⟨eC,bU,bV,cI,cJ⟩:=s_many (P:=prog) (t:=23) (i:=1) [iv 0,iv 0] sizeOf23 rfl rfl rfl cH lb
 have cK:Blk eC ah 29 [iv v.k,iv 0,iv 0,.bool v.neg,sv Av v.mag cv,sv Bv v.s dv,iv v.ref]:=bV
 refine st_act rfl rfl fun fH cL=>a_store' rfl eB eA bU (cL _ _ trivial ?_)
 have cM:=cJ _ _ _ (hne28) cG
 have aF:=cF.tR cI
 refine cD _ _ <| wk fun fI cN=>?_
 refine wA tr8 [] 70 [ve (vv (Vl.mk v.k 0 0 v.neg v.mag v.s v.ref) Av cv Bv dv),ve (.bool (zeroV (Vl.mk v.k 0 0 v.neg v.mag v.s v.ref))),ve (.bool (zeroV (Vl.mk v.k 0 0 v.neg v.mag v.s v.ref))),ve (gq (zeroV (Vl.mk v.k 0 0 v.neg v.mag v.s v.ref)) (.pointer (some ⟨q9,1,none⟩))),ve (gq (zeroV (Vl.mk v.k 0 0 v.neg v.mag v.s v.ref)) (nv (Nm.mk v.nk v.nn))),ve (gq (zeroV (Vl.mk v.k 0 0 v.neg v.mag v.s v.ref)) (.bool (nmayB (Nm.mk v.nk v.nn)))),ve (.bool ((zeroV (Vl.mk v.k 0 0 v.neg v.mag v.s v.ref)) && (nmayB (Nm.mk v.nk v.nn)))),ve (.bool ((zeroV (Vl.mk v.k 0 0 v.neg v.mag v.s v.ref)) && (nmayB (Nm.mk v.nk v.nn))))] a8 ?_ ?_
 exact .L9 ez cK<| .C 0 (fun n=>zero_c (Vl.mk v.k 0 0 v.neg v.mag v.s v.ref) _ _ _ _ _ (hmv.new_ (aF.transNew n)) (hsv.new_ (aF.transNew n)))<| .N 1<| .Q (fun k=>g0 (k.eq1 2 33 rfl)) (fun hG n k=>v_field rfl (k.fx 1 ey) (fun w=>rfl))<| .Q (fun k=>g0 (k.eq1 2 33 rfl)) (fun hG n k=>v_load rfl (cT hG (k.eq1 3 34 rfl)) (l_part isAgg23 sizeOf23 (cM.new_ n) lb))<| .o1 (scC (G:=(zeroV (Vl.mk v.k 0 0 v.neg v.mag v.s v.ref))) rfl rfl rfl (fun _ _ k=>g0 (k.eq1 2 33 rfl)) rfl (fun hG _ w hn k=>⟨#[nv (Nm.mk v.nk v.nn)],args1 (cT hG (k.eq1 4 35 rfl)),fun _=>by kernel_rfl,may_c (Nm.mk v.nk v.nn) _ ⟩))<| .O 2 5<| .B 6 .nil
 refine aftI a8 cE aF fun fJ fK e9 cO cP fa cQ=>?_
 have eD:=cQ.g 7 2
 refine cN _ _<| wp_ret (ret_k cO (v:=.bool ((zeroV (Vl.mk v.k 0 0 v.neg v.mag v.s v.ref)) && (nmayB (Nm.mk v.nk v.nn)))) (res_t rfl eD _) ?_)
 refine ⟨?_,cP⟩
 show Ending.returned (.bool ((zeroV (Vl.mk v.k 0 0 v.neg v.mag v.s v.ref)) && (nmayB (Nm.mk v.nk v.nn))))=Ending.returned (.bool (mayV v))
 first|rfl|(simp only [mayV,ab,ad,aa,ac,bsm] <;> rfl)|(exfalso; omega)
 have bT:=oF ac
 have cR:=hB bS ac
 refine wf cR<| wk fun fL cS=>?_
 refine wA tr2 [] 70 [ve (.bool (decide (v.k=4))),ve (.bool (decide (v.k=4)))] al ?_ ?_
 exact .H bR (r_eql rfl)<| .B 0 .nil
 refine aftI al a3 a4 fun fM fN ao ba bb bd ap=>?_
 have⟨bW,aQ,bX⟩:=ap.f3 bQ aP bR
 have bY:=ap.g 1 38
 have⟨be,bf⟩:=nw2 bd a6 a7
 refine cS _ _ ?_
 rcases bc (decide (v.k=4)) with ae|ae
 have bZ:=oT ae
 have cU:=hB bY ae
 refine wt cU<| wk fun fO cV=>?_
 refine wA [true,true,false] [(2,false)] 70 [ve (.agg #[.bool false,sv none ([]) 0]),ve (.pointer (some ⟨ah,3,none⟩)),vt] ao ?_ ?_
 exact .Z<| .F aQ<| .off .nil
 refine aftI ao ba bb fun fP fQ bg cW cX bh aq=>?_
 have⟨eE,eF⟩:=aq.f2 bW aQ
 have eG:=aq.g 0 40
 have eH:=aq.g 1 41
 have⟨cY,cZ⟩:=nw2 bh be bf
 obtain⟨eI,b0,b1,c0,c1⟩:=s_many (P:=prog) (t:=26) (i:=3) [.bool false,sv none ([]) 0] sizeOf26 rfl rfl rfl cZ lb
 have c2:Blk eI ah 29 [iv v.k,iv v.nk,iv v.nn,.bool false,sv none ([]) 0,sv Bv v.s dv,iv v.ref]:=b1
 refine st_act rfl rfl fun fR c3=>a_store' rfl eH eG b0 (c3 _ _ trivial ?_)
 have c4:=c1 _ _ _ (hne28) cY
 have aG:=cX.tR c0
 refine cV _ _ <| wk fun fS c5=>?_
 refine wA tr8 [] 70 [ve (vv (Vl.mk v.k v.nk v.nn false [] v.s v.ref) none 0 Bv dv),ve (.bool (zeroV (Vl.mk v.k v.nk v.nn false [] v.s v.ref))),ve (.bool (zeroV (Vl.mk v.k v.nk v.nn false [] v.s v.ref))),ve (gq (zeroV (Vl.mk v.k v.nk v.nn false [] v.s v.ref)) (.pointer (some ⟨q9,3,none⟩))),ve (gq (zeroV (Vl.mk v.k v.nk v.nn false [] v.s v.ref)) (.agg #[.bool v.neg,sv Av v.mag cv])),ve (gq (zeroV (Vl.mk v.k v.nk v.nn false [] v.s v.ref)) (.bool (mayB v.neg v.mag))),ve (.bool ((zeroV (Vl.mk v.k v.nk v.nn false [] v.s v.ref)) && (mayB v.neg v.mag))),ve (.bool ((zeroV (Vl.mk v.k v.nk v.nn false [] v.s v.ref)) && (mayB v.neg v.mag)))] bg ?_ ?_
 exact .L9 eF c2<| .C 0 (fun n=>zero_c (Vl.mk v.k v.nk v.nn false [] v.s v.ref) _ _ _ _ _ (SRow.nil _ _) (hsv.new_ (aG.transNew n)))<| .N 1<| .Q (fun k=>g0 (k.eq1 2 44 rfl)) (fun hG n k=>v_field rfl (k.fx 1 eE) (fun w=>rfl))<| .Q (fun k=>g0 (k.eq1 2 44 rfl)) (fun hG n k=>v_load rfl (cT hG (k.eq1 3 45 rfl)) (l_part isAgg26 sizeOf26 (c4.new_ n) lb))<| .o1 (scC (G:=(zeroV (Vl.mk v.k v.nk v.nn false [] v.s v.ref))) rfl rfl rfl (fun _ _ k=>g0 (k.eq1 2 44 rfl)) rfl (fun hG _ w hn k=>⟨#[.agg #[.bool v.neg,sv Av v.mag cv]],args1 (cT hG (k.eq1 4 46 rfl)),fun _=>by kernel_rfl,bmay_c v.neg _ v.mag _ _ (hmv.new_ (aG.transNew hn))⟩))<| .O 2 5<| .B 6 .nil
 refine aftI bg cW aG fun fT fU fb c6 c8 fc c9=>?_
 have eJ:=c9.g 7 2
 refine c5 _ _<| wp_ret (ret_k c6 (v:=.bool ((zeroV (Vl.mk v.k v.nk v.nn false [] v.s v.ref)) && (mayB v.neg v.mag))) (res_t rfl eJ _) ?_)
 refine ⟨?_,c8⟩
 show Ending.returned (.bool ((zeroV (Vl.mk v.k v.nk v.nn false [] v.s v.ref)) && (mayB v.neg v.mag)))=Ending.returned (.bool (mayV v))
 first|rfl|(simp only [mayV,ab,ad,aa,ac,ae,bsm] <;> rfl)|(exfalso; omega)
 have bZ:=oF ae
 have da:=hB bY ae
 refine wf da<| wk fun fV db=>?_
 refine wA tr2 [] 70 [ve (.bool (decide (v.k=5))),ve (.bool (decide (v.k=5)))] ao ?_ ?_
 exact .H bX (r_eql rfl)<| .B 0 .nil
 refine aftI ao ba bb fun fW fX ar bi bj bk au=>?_
 have⟨b2,aR,eK⟩:=au.f3 bW aQ bX
 have b3:=au.g 1 49
 have⟨bl,bm⟩:=nw2 bk be bf
 refine db _ _ ?_
 rcases bc (decide (v.k=5)) with af|af
 have b4:=oT af
 have dc:=hB b3 af
 refine wt dc<| wk fun fY dd=>?_
 refine wA [true,false] [(1,false)] 70 [ve (.pointer (some ⟨ah,5,none⟩)),vt] ar ?_ ?_
 exact .F aR<| .off .nil
 refine aftI ar bi bj fun fZ f0 bn de df bo aH=>?_
 have⟨eL,eM⟩:=aH.f2 b2 aR
 have eN:=aH.g 0 51
 have⟨dg,dh⟩:=nw2 bo bl bm
 obtain⟨f1,-,b5,di,dj,dk⟩:=s_one (v:=sv none ([]) 0) (i:=5) sizeOf27 rfl rfl dh lb
 refine st_act rfl rfl fun f2 dl=>a_store' rfl eN rfl b5 (dl _ _ trivial ?_)
 have dm:=dk _ _ _ (hne28) dg
 have bp:=df.tR dj
 refine dd _ _ <| wk fun f3 dn=>?_
 refine wA tr9 [] 70 [ve (vv (Vl.mk v.k v.nk v.nn v.neg v.mag [] v.ref) Av cv none 0),ve (.bool (zeroV (Vl.mk v.k v.nk v.nn v.neg v.mag [] v.ref))),ve (.bool (zeroV (Vl.mk v.k v.nk v.nn v.neg v.mag [] v.ref))),ve (gq (zeroV (Vl.mk v.k v.nk v.nn v.neg v.mag [] v.ref)) (.pointer (some ⟨q9,5,none⟩))),ve (gq (zeroV (Vl.mk v.k v.nk v.nn v.neg v.mag [] v.ref)) (sv Bv v.s dv)),ve (gq (zeroV (Vl.mk v.k v.nk v.nn v.neg v.mag [] v.ref)) (iv (v.s.length:Int))),ve (gq (zeroV (Vl.mk v.k v.nk v.nn v.neg v.mag [] v.ref)) (.bool (decide ((v.s.length:Int)≤4096)))),ve (.bool ((zeroV (Vl.mk v.k v.nk v.nn v.neg v.mag [] v.ref)) && (decide ((v.s.length:Int)≤4096)))),ve (.bool ((zeroV (Vl.mk v.k v.nk v.nn v.neg v.mag [] v.ref)) && (decide ((v.s.length:Int)≤4096))))] bn ?_ ?_
 exact .L9 eM di<| .C 0 (fun n=>zero_c (Vl.mk v.k v.nk v.nn v.neg v.mag [] v.ref) _ _ _ _ _ (hmv.new_ (bp.transNew n)) (SRow.nil _ _))<| .N 1<| .Q (fun k=>g0 (k.eq1 2 54 rfl)) (fun hG n k=>v_field rfl (k.fx 1 eL) (fun w=>rfl))<| .Q (fun k=>g0 (k.eq1 2 54 rfl)) (fun hG n k=>v_load rfl (cT hG (k.eq1 3 55 rfl)) (l_one isAgg27 ((dm.new_ n).cell 5)))<| .Q (fun k=>g0 (k.eq1 2 54 rfl)) (fun hG n k=>v_lenR rfl elU (cT hG (k.eq1 4 56 rfl)))<| .Q (fun k=>g0 (k.eq1 2 54 rfl)) (fun hG n k=>v_bin rfl (cT hG (k.eq1 5 57 rfl)) rfl (fun _=>rfl) (r_leqK rfl))<| .O 2 6<| .B 7 .nil
 refine aftI bn de bp fun f4 f5 fd dp dq fe dr=>?_
 have eO:=dr.g 8 2
 refine dn _ _<| wp_ret (ret_k dp (v:=.bool ((zeroV (Vl.mk v.k v.nk v.nn v.neg v.mag [] v.ref)) && (decide ((v.s.length:Int)≤4096)))) (res_t rfl eO _) ?_)
 refine ⟨?_,dq⟩
 show Ending.returned (.bool ((zeroV (Vl.mk v.k v.nk v.nn v.neg v.mag [] v.ref)) && (decide ((v.s.length:Int)≤4096))))=Ending.returned (.bool (mayV v))
 first|rfl|(simp only [mayV,ab,ad,aa,ac,ae,af,bsm] <;> rfl)|(exfalso; omega)
 have b4:=oF af
 have ds:=hB b3 af
 refine wf ds<| wk fun f6 dt=>?_
 refine wA tr2 [] 70 [ve (.bool (decide (v.k=6))),ve (.bool (decide (v.k=6)))] ar ?_ ?_
 exact .H eK (r_eql rfl)<| .B 0 .nil
 refine aftI ar bi bj fun f7 f8 av bq br bs aI=>?_
 have⟨eP,b6⟩:=aI.f2 b2 aR
 have b7:=aI.g 1 60
 have⟨du,dw⟩:=nw2 bs bl bm
 refine dt _ _ ?_
 rcases bc (decide (v.k=6)) with ag|ag
 have b8:=oT ag
 have dx:=hB b7 ag
 refine wt dx<| wk fun f9 dy=>?_
 refine wA [true,false] [(1,false)] 70 [ve (.pointer (some ⟨ah,6,none⟩)),vt] av ?_ ?_
 exact .F b6<| .off .nil
 refine aftI av bq br fun ga gb bt dz dA bu aJ=>?_
 have⟨eQ,eR⟩:=aJ.f2 eP b6
 have eS:=aJ.g 0 62
 have⟨dB,dC⟩:=nw2 bu du dw
 obtain⟨gc,-,b9,aw,dD,dE⟩:=s_one (v:=iv 0) (i:=6) sizeOf3 rfl rfl dC lb
 refine st_act rfl rfl fun gd dF=>a_store' rfl eS rfl b9 (dF _ _ trivial ?_)
 have dG:=dE _ _ _ (hne28) dB
 have aK:=dA.tR dD
 refine dy _ _ <| wk fun gf dH=>?_
 refine wA tr8 [] 70 [ve (vv (Vl.mk v.k v.nk v.nn v.neg v.mag v.s 0) Av cv Bv dv),ve (.bool (zeroV (Vl.mk v.k v.nk v.nn v.neg v.mag v.s 0))),ve (.bool (zeroV (Vl.mk v.k v.nk v.nn v.neg v.mag v.s 0))),ve (gq (zeroV (Vl.mk v.k v.nk v.nn v.neg v.mag v.s 0)) (.pointer (some ⟨q9,6,none⟩))),ve (gq (zeroV (Vl.mk v.k v.nk v.nn v.neg v.mag v.s 0)) (iv v.ref)),ve (gq (zeroV (Vl.mk v.k v.nk v.nn v.neg v.mag v.s 0)) (.bool (!decide (v.ref < 0)))),ve (.bool ((zeroV (Vl.mk v.k v.nk v.nn v.neg v.mag v.s 0)) && (!decide (v.ref < 0)))),ve (.bool ((zeroV (Vl.mk v.k v.nk v.nn v.neg v.mag v.s 0)) && (!decide (v.ref < 0))))] bt ?_ ?_
 exact .L9 eR aw<| .C 0 (fun n=>zero_c (Vl.mk v.k v.nk v.nn v.neg v.mag v.s 0) _ _ _ _ _ (hmv.new_ (aK.transNew n)) (hsv.new_ (aK.transNew n)))<| .N 1<| .Q (fun k=>g0 (k.eq1 2 65 rfl)) (fun hG n k=>v_field rfl (k.fx 1 eQ) (fun w=>rfl))<| .Q (fun k=>g0 (k.eq1 2 65 rfl)) (fun hG n k=>v_load rfl (cT hG (k.eq1 3 66 rfl)) (l_one isAgg3 ((dG.new_ n).cell 6)))<| .Q (fun k=>g0 (k.eq1 2 65 rfl)) (fun hG n k=>v_bin rfl (cT hG (k.eq1 4 67 rfl)) rfl (fun _=>rfl) (r_geqK rfl))<| .O 2 5<| .B 6 .nil
 refine aftI bt dz aK fun gg gh ff dI dJ fg dK=>?_
 have eT:=dK.g 7 2
 refine dH _ _<| wp_ret (ret_k dI (v:=.bool ((zeroV (Vl.mk v.k v.nk v.nn v.neg v.mag v.s 0)) && (!decide (v.ref < 0)))) (res_t rfl eT _) ?_)
 refine ⟨?_,dJ⟩
 show Ending.returned (.bool ((zeroV (Vl.mk v.k v.nk v.nn v.neg v.mag v.s 0)) && (!decide (v.ref < 0))))=Ending.returned (.bool (mayV v))
 first|rfl|(simp only [mayV,ab,ad,aa,ac,ae,af,ag,bsm] <;> rfl)|(exfalso; omega)
 have b8:=oF ag
 have dL:=hB b7 ag
 refine wf dL<| ws<| ed _ _<| wk fun gi dM=>?_
 refine wA tr1 [] 70 [vF] av ?_ ?_
 exact .c .nil
 refine aftI av bq br fun gj gk fh dN dO fi dP=>?_
 have eU:=dP.g 0 2
 refine dM _ _<| wp_ret (ret_k dN (v:=.bool false) (res_t rfl eU _) ?_)
 refine ⟨?_,dO⟩
 show Ending.returned (.bool false)=Ending.returned (.bool (mayV v))
 first|rfl|(simp only [mayV,ab,ad,aa,ac,ae,af,ag,bsm] <;> rfl)|(exfalso; omega)
def clean_c_P (v:Vl) (Av:Option Addr) (cv:Nat) (Bv:Option Addr) (dv:Nat) (w:World) (en:Ending) (w':World):Prop:=∃ (Ar0:Option Addr) (cr0:Nat) (Ar1:Option Addr) (cr1:Nat),en=.returned (vv (cleanV v) Ar0 cr0 Ar1 cr1)∧SRow w' .u32 Ar0 ((cleanV v).mag) cr0∧SRow w' .u16 Ar1 ((cleanV v).s) cr1∧New w w'
theorem clean_c (v:Vl) (Av:Option Addr) (cv:Nat) (Bv:Option Addr) (dv:Nat) (w:World) (hmv:SRow w .u32 Av v.mag cv) (hsv:SRow w .u16 Bv v.s dv):Calls prog 32 #[vv v Av cv Bv dv] w (clean_c_P v Av cv Bv dv w):=by
 refine enter_abs func32 rfl fun a0 ai a8 hp=>?_
 have ai:a0.tmps.size=8:=ai
 have ak:New w w:=Upd.refl _ _
 have hp0:a0.eval (.tmp 0)=vv v Av cv Bv dv:=hp 0 _ rfl
 refine wk fun K1 a9=>?_
 refine wB tr2 [] [] 8 [IsNew w 29 (c7 v Av cv Bv dv),IsNew w 29 z7] [0,1] ai ?_ heN ?_
 exact .X hp0<| .Y .nil
 refine aftI ai a8 ak fun a2 w3 aj aC ab br al=>?_
 obtain⟨q9,h8,aF,ac⟩:=al.G 0 1
 obtain⟨am,an,aG,ao⟩:=al.G 1 2
 have hne16:=al.ne 0 1 1 2 h8 an
 have bk:=Nat.le_trans ak.size aF
 have bl:=Nat.le_trans ak.size aG
 refine a9 _ _ <| wk fun bs aH=>?_
 refine wk fun bt ap=>?_
 rcases bc (mayV v) with aa|aa
 refine wA tr3 [] 8 [ve (vv v Av cv Bv dv),vT,vF] aj ?_ ?_
 exact .L9 h8 ac<| .o1 (ck rfl rfl rfl (fun _ w hn k=>⟨#[vv v Av cv Bv dv],args1 (k.eq1 0 3 rfl),fun _=>by kernel_rfl,vmay_c v _ _ _ _ _ (hmv.new_ (ab.transNew hn)) (hsv.new_ (ab.transNew hn))⟩) fun _=>congrArg Value.bool aa)<| .T (fun k=>v_not rfl (k.eq1 1 4 rfl)) .nil
 refine aftI aj aC ab fun bu bv aq aI aJ ar af=>?_
 have⟨ba,bb⟩:=af.f2 h8 an
 have bd:=af.g 2 5
 have⟨aK,aL⟩:=nw2 ar ac ao
 refine ap _ _<| wf bd<| ws ?_
 refine aH _ _<| wk fun bw aM=>?_
 refine wA [true,false] [(1,false)] 8 [ve (vv v Av cv Bv dv),vt] aq ?_ ?_
 exact .L9 ba aK<| .off .nil
 refine aftI aq aI aJ fun bx bz bm aN aO aP au=>?_
 have aD:=au.f1 bb
 have be:=au.g 0 7
 have aQ:=aL.new_ aP
 refine sS9 aD be aQ fun bf aS aR bn=>?_
 have ag:=aO.tR aR
 refine aM _ _<| wp_ret (ret_k aN (v:=vv v Av cv Bv dv) (res_c rfl aD (l_agg isAgg29 sizeOf29 aS rfl)) ?_)
 have ad:(cleanV v).mag=v.mag:=by first|rfl|(simp only [cleanV,Vl.z,aa,bsm] <;> rfl)|(exfalso; omega)
 have ae:(cleanV v).s=v.s:=by first|rfl|(simp only [cleanV,Vl.z,aa,bsm] <;> rfl)|(exfalso; omega)
 exact⟨Av,cv,Bv,dv,(by show Ending.returned (vv v Av cv Bv dv)=Ending.returned (vv (cleanV v) Av cv Bv dv); (first|rfl|(simp only [cleanV,Vl.z,aa,ad,ae,bsm] <;> rfl)|(exfalso; omega))),(by rw [ad]; exact (hmv.new_ ag)),(by rw [ae]; exact (hsv.new_ ag)),ag⟩
 refine wA tr3 [] 8 [ve (vv v Av cv Bv dv),vF,vT] aj ?_ ?_
 exact .L9 h8 ac<| .o1 (ck rfl rfl rfl (fun _ w hn k=>⟨#[vv v Av cv Bv dv],args1 (k.eq1 0 3 rfl),fun _=>by kernel_rfl,vmay_c v _ _ _ _ _ (hmv.new_ (ab.transNew hn)) (hsv.new_ (ab.transNew hn))⟩) fun _=>congrArg Value.bool aa)<| .T (fun k=>v_not rfl (k.eq1 1 4 rfl)) .nil
 refine aftI aj aC ab fun bB bC av aU aV aw ah=>?_
 have⟨bD,bg⟩:=ah.f2 h8 an
 have bh:=ah.g 2 5
 have⟨bo,aW⟩:=nw2 aw ac ao
 refine ap _ _<| wt bh<| wk fun bE aX=>?_
 refine wA [true,false] [(1,false)] 8 [ve (vv (Vl.mk 0 0 0 false [] [] 0) none 0 none 0),vt] av ?_ ?_
 exact .Z<| .off .nil
 refine aftI av aU aV fun bF bG bp aY aZ a1 ax=>?_
 have aE:=ax.f1 bg
 have bi:=ax.g 0 6
 have a3:=aW.new_ a1
 refine sS9 aE bi a3 fun bj a5 a4 bq=>?_
 have a7:=aZ.tR a4
 refine aX _ _<| wp_ret (ret_k aY (v:=vv (Vl.mk 0 0 0 false [] [] 0) none 0 none 0) (res_c rfl aE (l_agg isAgg29 sizeOf29 a5 rfl)) ?_)
 exact rW (by first|rfl|(simp only [cleanV,Vl.z,aa,bsm] <;> rfl)|(exfalso; omega)) a7
theorem whole_c (n:Int) (w:World):Calls prog 114 #[iv n] w (IsRet (nv (Nm.mk 0 n)) w):=by
 refine enter_abs func114 rfl fun a0 aa av hp=>?_
 have aa:a0.tmps.size=5:=aa
 have ad:New w w:=Upd.refl _ _
 have hp0:a0.eval (.tmp 0)=iv n:=hp 0 _ rfl
 refine wk fun K1 aw=>?_
 refine wB tr1 [] [] 5 [IsNew w 23 [iv 0,iv 0]] [0] aa ?_ heN ?_
 exact .Y .nil
 refine aftI aa av ad fun a2 w3 ae ax ah aC af=>?_
 have h8:=af.f1 hp0
 obtain⟨aD,h9,ai,aj⟩:=af.G 0 2
 have az:=Nat.le_trans ad.size ai
 refine aw _ _ <| wk fun aE ak=>?_
 refine wA [true,true,false] [(2,false)] 5 [ve (iv n),ve (nv (Nm.mk 0 n)),vt] ae ?_ ?_
 exact .M h8<| .T (fun k=>v_build (ps:=[(0,iv 0),(1,iv n)]) rfl (parts2 rfl (k.eq1 0 3 rfl)) (by kernel_rfl))<| .off .nil
 refine aftI ae ax ah fun aF aG aA al am an ab=>?_
 have ag:=ab.f1 h9
 have ay:=ab.g 1 4
 have ao:=aj.new_ an
 refine sS2 ag ay ao fun aH ap aq aB=>?_
 have au:=am.tR aq
 refine ak _ _<| wp_ret (ret_k al (v:=nv (Nm.mk 0 n)) (res_c rfl ag (l_two isAgg23 sizeOf23 ap)) ?_)
 exact⟨rfl,au⟩
theorem nought_c (d:Bool) (w:World):Calls prog 115 #[.bool d] w (IsRet (nv (noughtM d)) w):=by
 refine enter_abs func115 rfl fun a0 ac aU hp=>?_
 have ac:a0.tmps.size=6:=ac
 have al:New w w:=Upd.refl _ _
 have hp0:a0.eval (.tmp 0)=.bool d:=hp 0 _ rfl
 refine wk fun K1 aV=>?_
 refine wB tr1 [] [] 6 [IsNew w 23 [iv 0,iv 0]] [0] ac ?_ heN ?_
 exact .Y .nil
 refine aftI ac aU al fun a2 w3 am aW au a6 an=>?_
 have h8:=an.f1 hp0
 obtain⟨a7,h9,av,aw⟩:=an.G 0 2
 have aZ:=Nat.le_trans al.size av
 refine aV _ _ <| wk fun a8 ax=>?_
 refine wk fun a9 ay=>?_
 refine wA tr1 [] 6 [ve (.bool d)] am ?_ ?_
 exact .M h8 .nil
 refine aftI am aW au fun ba bb ab ad ae az af=>?_
 have ao:=af.f1 h9
 have ap:=af.g 0 3
 have ag:=aw.new_ az
 refine ay _ _ ?_
 rcases bc (d) with aa|aa
 have aA:=hB ap aa
 refine wt aA<| wk fun bd aB=>?_
 refine wA [true,false] [(1,false)] 6 [ve (nv (Nm.mk 1 0)),vt] ab ?_ ?_
 exact .T (fun k=>v_build (ps:=[(0,iv 1)]) rfl (parts1 rfl) (by kernel_rfl))<| .off .nil
 refine aftI ab ad ae fun be bf a1 aC aD aE ah=>?_
 have aq:=ah.f1 ao
 have aX:=ah.g 0 4
 have aF:=ag.new_ aE
 refine sS2 aq aX aF fun bg aG aH a3=>?_
 have aJ:=aD.tR aH
 refine aB _ _<| wp_ret (ret_k aC (v:=nv (Nm.mk 1 0)) (res_c rfl aq (l_two isAgg23 sizeOf23 aG)) ?_)
 refine ⟨?_,aJ⟩
 show Ending.returned (nv (Nm.mk 1 0))=Ending.returned (nv (noughtM d))
 first|rfl|(simp only [noughtM,aa,bsm] <;> rfl)|(exfalso; omega)
 have aK:=hB ap aa
 refine wf aK<| ws<| ax _ _<| wk fun bi aL=>?_
 refine wA [true,false] [(1,false)] 6 [ve (nv (Nm.mk 0 0)),vt] ab ?_ ?_
 exact .D (fun k=>args1 rfl) (fun n=>whole_c 0 _)<| .off .nil
 refine aftI ab ad ae fun bj bk a4 aM aN aO ai=>?_
 have ar:=ai.f1 ao
 have aY:=ai.g 0 5
 have aP:=ag.new_ aO
 refine sS2 ar aY aP fun bl aQ aR a5=>?_
 have aT:=aN.tR aR
 refine aL _ _<| wp_ret (ret_k aM (v:=nv (Nm.mk 0 0)) (res_c rfl ar (l_two isAgg23 sizeOf23 aQ)) ?_)
 refine ⟨?_,aT⟩
 show Ending.returned (nv (Nm.mk 0 0))=Ending.returned (nv (noughtM d))
 first|rfl|(simp only [noughtM,aa,bsm] <;> rfl)|(exfalso; omega)
theorem inf_c (d:Bool) (w:World):Calls prog 113 #[.bool d] w (IsRet (nv (infM d)) w):=by
 refine enter_abs func113 rfl fun a0 ac aU hp=>?_
 have ac:a0.tmps.size=6:=ac
 have al:New w w:=Upd.refl _ _
 have hp0:a0.eval (.tmp 0)=.bool d:=hp 0 _ rfl
 refine wk fun K1 aV=>?_
 refine wB tr1 [] [] 6 [IsNew w 23 [iv 0,iv 0]] [0] ac ?_ heN ?_
 exact .Y .nil
 refine aftI ac aU al fun a2 w3 am aW au a6 an=>?_
 have h8:=an.f1 hp0
 obtain⟨a7,h9,av,aw⟩:=an.G 0 2
 have aZ:=Nat.le_trans al.size av
 refine aV _ _ <| wk fun a8 ax=>?_
 refine wk fun a9 ay=>?_
 refine wA tr1 [] 6 [ve (.bool d)] am ?_ ?_
 exact .M h8 .nil
 refine aftI am aW au fun ba bb ab ad ae az af=>?_
 have ao:=af.f1 h9
 have ap:=af.g 0 3
 have ag:=aw.new_ az
 refine ay _ _ ?_
 rcases bc (d) with aa|aa
 have aA:=hB ap aa
 refine wt aA<| wk fun bd aB=>?_
 refine wA [true,false] [(1,false)] 6 [ve (nv (Nm.mk 4 0)),vt] ab ?_ ?_
 exact .T (fun k=>v_build (ps:=[(0,iv 4)]) rfl (parts1 rfl) (by kernel_rfl))<| .off .nil
 refine aftI ab ad ae fun be bf a1 aC aD aE ah=>?_
 have aq:=ah.f1 ao
 have aX:=ah.g 0 4
 have aF:=ag.new_ aE
 refine sS2 aq aX aF fun bg aG aH a3=>?_
 have aJ:=aD.tR aH
 refine aB _ _<| wp_ret (ret_k aC (v:=nv (Nm.mk 4 0)) (res_c rfl aq (l_two isAgg23 sizeOf23 aG)) ?_)
 refine ⟨?_,aJ⟩
 show Ending.returned (nv (Nm.mk 4 0))=Ending.returned (nv (infM d))
 first|rfl|(simp only [infM,aa,bsm] <;> rfl)|(exfalso; omega)
 have aK:=hB ap aa
 refine wf aK<| ws<| ax _ _<| wk fun bi aL=>?_
 refine wA [true,false] [(1,false)] 6 [ve (nv (Nm.mk 3 0)),vt] ab ?_ ?_
 exact .T (fun k=>v_build (ps:=[(0,iv 3)]) rfl (parts1 rfl) (by kernel_rfl))<| .off .nil
 refine aftI ab ad ae fun bj bk a4 aM aN aO ai=>?_
 have ar:=ai.f1 ao
 have aY:=ai.g 0 5
 have aP:=ag.new_ aO
 refine sS2 ar aY aP fun bl aQ aR a5=>?_
 have aT:=aN.tR aR
 refine aL _ _<| wp_ret (ret_k aM (v:=nv (Nm.mk 3 0)) (res_c rfl ar (l_two isAgg23 sizeOf23 aQ)) ?_)
 refine ⟨?_,aT⟩
 show Ending.returned (nv (Nm.mk 3 0))=Ending.returned (nv (infM d))
 first|rfl|(simp only [infM,aa,bsm] <;> rfl)|(exfalso; omega)
theorem as_c (a:Nm) (w:World):Calls prog 90 #[nv a] w (IsRet (nv (asM a)) w):=by
 refine enter_abs func90 rfl fun a0 ad a1 hp=>?_
 have ad:a0.tmps.size=8:=ad
 have ae:New w w:=Upd.refl _ _
 have hp0:a0.eval (.tmp 0)=nv a:=hp 0 _ rfl
 refine wk fun K1 a3=>?_
 refine wB tr2 [] [] 8 [IsNew w 23 [iv a.k,iv a.n],IsNew w 23 [iv 0,iv 0]] [0,1] ad ?_ heN ?_
 exact .X hp0<| .Y .nil
 refine aftI ad a1 ae fun a2 w3 ar a4 az bg af=>?_
 obtain⟨q9,h8,aA,ag⟩:=af.G 0 1
 obtain⟨a5,au,aB,aC⟩:=af.G 1 2
 have hne16:=af.ne 0 1 1 2 h8 au
 have a9:=Nat.le_trans ae.size aA
 have ba:=Nat.le_trans ae.size aB
 refine a3 _ _ <| wk fun bh aD=>?_
 refine wk fun bi aE=>?_
 refine wA tr3 [] 8 [ve (nv a),ve (.bool (nmayB a)),ve (.bool (!(nmayB a)))] ar ?_ ?_
 exact .L2 h8 ag<| .C 0 (fun m=>may_c a _)<| .T (fun k=>v_not rfl (k.eq1 1 4 rfl)) .nil
 refine aftI ar a4 az fun bj bk ab ah ai aj ac=>?_
 have⟨a6,av⟩:=ac.f2 h8 au
 have aw:=ac.g 2 5
 have⟨aF,ak⟩:=nw2 aj ag aC
 refine aE _ _ ?_
 rcases bc ((!(nmayB a))) with aa|aa
 have aG:=hB aw aa
 have al:(nmayB a)=false:=nF aa
 refine wt aG<| wk fun bl aH=>?_
 refine wA [true,false] [(1,false)] 8 [ve (nv (Nm.mk 2 0)),vt] ab ?_ ?_
 exact .o1 (ck rfl rfl rfl (fun _ w hn k=>⟨#[],rfl,fun _=>by kernel_rfl,nan_c  _ ⟩) fun _=>rfl)<| .off .nil
 refine aftI ab ah ai fun bm bn bb aI aJ aK am=>?_
 have ax:=am.f1 av
 have a7:=am.g 0 6
 have aL:=ak.new_ aK
 refine sS2 ax a7 aL fun bo aM aN bd=>?_
 have aP:=aJ.tR aN
 refine aH _ _<| wp_ret (ret_k aI (v:=nv (Nm.mk 2 0)) (res_c rfl ax (l_two isAgg23 sizeOf23 aM)) ?_)
 refine ⟨?_,aP⟩
 show Ending.returned (nv (Nm.mk 2 0))=Ending.returned (nv (asM a))
 first|rfl|(simp only [asM,aa,al,al,bsm] <;> rfl)|(exfalso; omega)
 have aQ:=hB aw aa
 have an:(nmayB a)=true:=nT aa
 refine wf aQ<| ws<| aD _ _<| wk fun bq aR=>?_
 refine wA [true,false] [(1,false)] 8 [ve (nv a),vt] ab ?_ ?_
 exact .L2 a6 aF<| .off .nil
 refine aftI ab ah ai fun br bs be aS aT aU ao=>?_
 have ay:=ao.f1 av
 have a8:=ao.g 0 7
 have aV:=ak.new_ aU
 refine sS2 ay a8 aV fun bt aW aX bf=>?_
 have aZ:=aT.tR aX
 refine aR _ _<| wp_ret (ret_k aS (v:=nv a) (res_c rfl ay (l_two isAgg23 sizeOf23 aW)) ?_)
 refine ⟨?_,aZ⟩
 show Ending.returned (nv a)=Ending.returned (nv (asM a))
 first|rfl|(simp only [asM,aa,an,an,bsm] <;> rfl)|(exfalso; omega)
theorem isNaN_c (a:Nm) (w:World):Calls prog 103 #[nv a] w (IsRet (.bool (decide (a.k=2))) w):=by
 refine enter_abs func103 rfl fun a0 aa ak hp=>?_
 have aa:a0.tmps.size=6:=aa
 have ab:New w w:=Upd.refl _ _
 have hp0:a0.eval (.tmp 0)=nv a:=hp 0 _ rfl
 refine wk fun K1 al=>?_
 refine wB tr2 [] [] 6 [IsNew w 23 [iv a.k,iv a.n],vF] [0] aa ?_ heN ?_
 exact .X hp0<| .c .nil
 refine aftI aa ak ab fun a2 w3 ac am ad au an=>?_
 obtain⟨q9,h8,ae,af⟩:=an.G 0 1
 have ap:=Nat.le_trans ab.size ae
 refine al _ _ <| wk fun av ag=>?_
 refine wA tr4 [] 6 [ve (pv q9),ve (iv a.k),ve (.bool (decide (a.k=2))),ve (.bool (decide (a.k=2)))] ac ?_ ?_
 exact .F h8<| .J 0 isAgg3 af<| .b 1 (r_eql rfl)<| .B 2 .nil
 refine aftI ac am ad fun aw ax aq ah ai ar aj=>?_
 have ao:=aj.g 3 2
 refine ag _ _<| wp_ret (ret_k ah (v:=.bool (decide (a.k=2))) (res_t rfl ao _) ?_)
 exact⟨rfl,ai⟩
theorem rank_c (a:Nm) (w:World):Calls prog 104 #[nv a] w (IsRet (iv (rankM a)) w):=by
 refine enter_abs func104 rfl fun a0 af a3 hp=>?_
 have af:a0.tmps.size=11:=af
 have aq:New w w:=Upd.refl _ _
 have hp0:a0.eval (.tmp 0)=nv a:=hp 0 _ rfl
 refine wk fun K1 a4=>?_
 refine wB tr2 [] [] 11 [IsNew w 23 [iv a.k,iv a.n],ve (iv 0)] [0] af ?_ heN ?_
 exact .X hp0<| .c .nil
 refine aftI af a3 aq fun a2 w3 ar a5 ax bm a6=>?_
 obtain⟨q9,h8,ay,ag⟩:=a6.G 0 1
 have bf:=Nat.le_trans aq.size ay
 refine a4 _ _ <| wk fun bn az=>?_
 refine wk fun bo aA=>?_
 refine wA tr2 [] 11 [ve (pv q9),ve (iv a.k)] ar ?_ ?_
 exact .F h8<| .J 0 isAgg3 ag .nil
 refine aftI ar a5 ax fun bp bq ah aB aC aD ai=>?_
 have a7:=ai.f1 h8
 have au:=ai.g 1 4
 have aE:=ag.new_ aD
 refine aA _ _<| wb<| wk fun br aF=>?_
 refine wA tr2 [] 11 [ve (.bool (decide (a.k=3))),ve (.bool (decide (a.k=3)))] ah ?_ ?_
 exact .H au (r_eql rfl)<| .B 0 .nil
 refine aftI ah aB aC fun bs bt ac aj ak aG ae=>?_
 have⟨a8,a9⟩:=ae.f2 a7 au
 have av:=ae.g 1 5
 have aH:=aE.new_ aG
 refine aF _ _ ?_
 rcases bc (decide (a.k=3)) with aa|aa
 have ao:=oT aa
 have aI:=hB av aa
 refine wt aI<| wk fun bu aJ=>?_
 refine wA tr1 [] 11 [ve (iv 9007199254740992)] ac ?_ ?_
 exact .c .nil
 refine aftI ac aj ak fun bv bw bg aK aL bh aM=>?_
 have ba:=aM.g 0 2
 refine aJ _ _<| wp_ret (ret_k aK (v:=iv 9007199254740992) (res_t rfl ba _) ?_)
 refine ⟨?_,aL⟩
 show Ending.returned (iv 9007199254740992)=Ending.returned (iv (rankM a))
 first|rfl|(simp only [rankM,aa,bsm] <;> rfl)|(exfalso; omega)
 have ao:=oF aa
 have aN:=hB av aa
 refine wf aN<| wk fun bx aO=>?_
 refine wA tr2 [] 11 [ve (.bool (decide (a.k=4))),ve (.bool (decide (a.k=4)))] ac ?_ ?_
 exact .H a9 (r_eql rfl)<| .B 0 .nil
 refine aftI ac aj ak fun bz bA ad al am aP an=>?_
 have bb:=an.f1 a8
 have aw:=an.g 1 7
 have aQ:=aH.new_ aP
 refine aO _ _ ?_
 rcases bc (decide (a.k=4)) with ab|ab
 have ap:=oT ab
 have aR:=hB aw ab
 refine wt aR<| wk fun bB aS=>?_
 refine wA tr1 [] 11 [ve (iv (-9007199254740992))] ad ?_ ?_
 exact .c .nil
 refine aftI ad al am fun bC bD bi aT aU bj aV=>?_
 have bd:=aV.g 0 2
 refine aS _ _<| wp_ret (ret_k aT (v:=iv (-9007199254740992)) (res_t rfl bd _) ?_)
 refine ⟨?_,aU⟩
 show Ending.returned (iv (-9007199254740992))=Ending.returned (iv (rankM a))
 first|rfl|(simp only [rankM,aa,ab,bsm] <;> rfl)|(exfalso; omega)
 have ap:=oF ab
 have aW:=hB aw ab
 refine wf aW<| ws<| az _ _<| wk fun bE aX=>?_
 refine wA tr3 [] 11 [ve (.pointer (some ⟨q9,1,none⟩)),ve (iv a.n),ve (iv a.n)] ad ?_ ?_
 exact .F bb<| .J 0 isAgg3 aQ<| .B 1 .nil
 refine aftI ad al am fun bF bG bk aY aZ bl a1=>?_
 have be:=a1.g 2 2
 refine aX _ _<| wp_ret (ret_k aY (v:=iv a.n) (res_t rfl be _) ?_)
 refine ⟨?_,aZ⟩
 show Ending.returned (iv a.n)=Ending.returned (iv (rankM a))
 first|rfl|(simp only [rankM,aa,ab,bsm] <;> rfl)|(exfalso; omega)
theorem equal_c (a:Nm) (b:Nm) (w:World):Calls prog 56 #[nv a,nv b] w (IsRet (.bool (equalM a b)) w):=by
 refine enter_abs func56 rfl fun a0 ab aO hp=>?_
 have ab:a0.tmps.size=24:=ab
 have ac:New w w:=Upd.refl _ _
 have hp0:a0.eval (.tmp 0)=nv a:=hp 0 _ rfl
 have hp1:a0.eval (.tmp 1)=nv b:=hp 1 _ rfl
 refine wk fun K1 aP=>?_
 refine wB tr3 [] [] 24 [IsNew w 23 [iv a.k,iv a.n],IsNew w 23 [iv b.k,iv b.n],vF] [0,1] ab ?_ heN ?_
 exact .X hp0<| .X hp1<| .c .nil
 refine aftI ab aO ac fun a2 w3 ap aQ aq aZ ad=>?_
 obtain⟨q9,h8,ar,ae⟩:=ad.G 0 2
 obtain⟨aR,af,au,ag⟩:=ad.G 1 3
 have hne16:=ad.ne 0 1 2 3 h8 af
 have aV:=Nat.le_trans ac.size ar
 have aW:=Nat.le_trans ac.size au
 refine aP _ _ <| wk fun a1 av=>?_
 refine wA [true,true,true,true,false,false] [(4,false),(5,false)] 24 [ve (nv a),ve (nv (asM a)),ve (nv b),ve (nv (asM b)),vt,vt] ap ?_ ?_
 exact .L2 h8 ae<| .C 0 (fun p=>as_c a _)<| .L2 af ag<| .C 2 (fun p=>as_c b _)<| .off<| .off .nil
 refine aftI ap aQ aq fun a3 a4 ah aw ax ai aa=>?_
 have⟨aj,ak⟩:=aa.f2 h8 af
 have aS:=aa.g 1 6
 have aT:=aa.g 3 8
 have⟨ay,az⟩:=nw2 ai ae ag
 have hbd_a:=as_bd a
 have hbd_b:=as_bd b
 refine sS2 aj aS ay fun a5 aA aB aC=>?_
 have aE:=aC hne16.symm az
 have aF:=ax.tR aB
 refine sS2 ak aT aE fun a7 al aG aH=>?_
 have am:=aH hne16 aA
 have aJ:=aF.tR aG
 refine av _ _ <| wk fun a9 aK=>?_
 refine wA tr16 [] 24 [ve (nv (asM a)),ve (.bool (decide ((asM a).k=2))),ve (.bool (!(decide ((asM a).k=2)))),ve (.bool (!(decide ((asM a).k=2)))),ve (gq (!(decide ((asM a).k=2))) (nv (asM b))),ve (gq (!(decide ((asM a).k=2))) (.bool (decide ((asM b).k=2)))),ve (gq (!(decide ((asM a).k=2))) (.bool (!(decide ((asM b).k=2))))),ve (.bool ((!(decide ((asM a).k=2))) && (!(decide ((asM b).k=2))))),ve (.bool ((!(decide ((asM a).k=2))) && (!(decide ((asM b).k=2))))),ve (gq ((!(decide ((asM a).k=2))) && (!(decide ((asM b).k=2)))) (nv (asM a))),ve (gq ((!(decide ((asM a).k=2))) && (!(decide ((asM b).k=2)))) (iv (rankM (asM a)))),ve (gq ((!(decide ((asM a).k=2))) && (!(decide ((asM b).k=2)))) (nv (asM b))),ve (gq ((!(decide ((asM a).k=2))) && (!(decide ((asM b).k=2)))) (iv (rankM (asM b)))),ve (gq ((!(decide ((asM a).k=2))) && (!(decide ((asM b).k=2)))) (.bool (decide ((rankM (asM a))=(rankM (asM b)))))),ve (.bool (((!(decide ((asM a).k=2))) && (!(decide ((asM b).k=2)))) && (decide ((rankM (asM a))=(rankM (asM b)))))),ve (.bool (((!(decide ((asM a).k=2))) && (!(decide ((asM b).k=2)))) && (decide ((rankM (asM a))=(rankM (asM b))))))] ah ?_ ?_
 exact .L2 aj am<| .C 0 (fun p=>isNaN_c (asM a) _)<| .T (fun k=>v_not rfl (k.eq1 1 10 rfl))<| .N 2<| .Q (fun k=>g0 (k.eq1 3 12 rfl)) (fun hG p k=>v_load rfl (k.fx 3 ak) (l_two isAgg23 sizeOf23 (al.new_ p)))<| .o1 (scC (G:=(!(decide ((asM a).k=2)))) rfl rfl rfl (fun _ _ k=>g0 (k.eq1 3 12 rfl)) rfl (fun hG _ w hn k=>⟨#[nv (asM b)],args1 (cT hG (k.eq1 4 13 rfl)),fun _=>by kernel_rfl,isNaN_c (asM b) _ ⟩))<| .Q (fun k=>g0 (k.eq1 3 12 rfl)) (fun hG p k=>v_not rfl (cT hG (k.eq1 5 14 rfl)))<| .O 3 6<| .N 7<| .Q (fun k=>g0 (k.eq1 8 17 rfl)) (fun hG p k=>v_load rfl (k.fx 2 aj) (l_two isAgg23 sizeOf23 (am.new_ p)))<| .o1 (scC (G:=((!(decide ((asM a).k=2))) && (!(decide ((asM b).k=2))))) rfl rfl rfl (fun _ _ k=>g0 (k.eq1 8 17 rfl)) rfl (fun hG _ w hn k=>⟨#[nv (asM a)],args1 (cT hG (k.eq1 9 18 rfl)),fun _=>by kernel_rfl,rank_c (asM a) _ ⟩))<| .Q (fun k=>g0 (k.eq1 8 17 rfl)) (fun hG p k=>v_load rfl (k.fx 3 ak) (l_two isAgg23 sizeOf23 (al.new_ p)))<| .o1 (scC (G:=((!(decide ((asM a).k=2))) && (!(decide ((asM b).k=2))))) rfl rfl rfl (fun _ _ k=>g0 (k.eq1 8 17 rfl)) rfl (fun hG _ w hn k=>⟨#[nv (asM b)],args1 (cT hG (k.eq1 11 20 rfl)),fun _=>by kernel_rfl,rank_c (asM b) _ ⟩))<| .Q (fun k=>g0 (k.eq1 8 17 rfl)) (fun hG p k=>v_bin rfl (cT hG (k.eq1 10 19 rfl)) (cT hG (k.eq1 12 21 rfl)) (fun _=>rfl) (r_eql rfl))<| .O 8 13<| .B 14 .nil
 refine aftI ah aw aJ fun ba bb aX aL aM aY aN=>?_
 have aU:=aN.g 15 4
 refine aK _ _<| wp_ret (ret_k aL (v:=.bool (((!(decide ((asM a).k=2))) && (!(decide ((asM b).k=2)))) && (decide ((rankM (asM a))=(rankM (asM b)))))) (res_t rfl aU _) ?_)
 refine ⟨?_,aM⟩
 show Ending.returned (.bool (((!(decide ((asM a).k=2))) && (!(decide ((asM b).k=2)))) && (decide ((rankM (asM a))=(rankM (asM b))))))=Ending.returned (.bool (equalM a b))
 first|rfl|(simp only [equalM,equalA,bsm] <;> rfl)|(exfalso; omega)
theorem nneg_c (a:Nm) (w:World):Calls prog 70 #[nv a] w (IsRet (nv (negM a)) w):=by
 refine enter_abs func70 rfl fun a0 ar dr hp=>?_
 have ar:a0.tmps.size=28:=ar
 have aR:New w w:=Upd.refl _ _
 have hp0:a0.eval (.tmp 0)=nv a:=hp 0 _ rfl
 refine wk fun K1 ds=>?_
 refine wB tr2 [] [] 28 [IsNew w 23 [iv a.k,iv a.n],IsNew w 23 [iv 0,iv 0]] [0,1] ar ?_ heN ?_
 exact .X hp0<| .Y .nil
 refine aftI ar dr aR fun a2 w3 cD dt cL em aS=>?_
 obtain⟨q9,h8,cM,aT⟩:=aS.G 0 1
 obtain⟨du,cE,cN,cO⟩:=aS.G 1 2
 have hne16:=aS.ne 0 1 1 2 h8 cE
 have dK:=Nat.le_trans aR.size cM
 have dL:=Nat.le_trans aR.size cN
 refine ds _ _ <| wk fun en cP=>?_
 refine wA [true,true,false] [(2,false)] 28 [ve (nv a),ve (nv (asM a)),vt] cD ?_ ?_
 exact .L2 h8 aT<| .C 0 (fun m=>as_c a _)<| .off .nil
 refine aftI cD dt cL fun eo ep aU cQ cR aV ap=>?_
 have⟨aW,dv⟩:=ap.f2 h8 cE
 have dw:=ap.g 1 4
 have⟨cS,cT⟩:=nw2 aV aT cO
 have hbd_a:=as_bd a
 refine sS2 aW dw cS fun er aX cU cV=>?_
 have cX:=cV hne16.symm cT
 have cY:=cR.tR cU
 refine cP _ _ <| wk fun et cZ=>?_
 refine wk fun eu c0=>?_
 refine wA tr2 [] 28 [ve (pv q9),ve (iv ((asM a).k))] aU ?_ ?_
 exact .F aW<| .J 0 isAgg3 aX .nil
 refine aftI aU cQ cY fun ev ew aY c1 c2 aZ aq=>?_
 have⟨dx,dy⟩:=aq.f2 aW dv
 have cF:=aq.g 1 6
 have⟨c3,c4⟩:=nw2 aZ aX cX
 refine c0 _ _<| wb<| wk fun ex c5=>?_
 refine wA tr2 [] 28 [ve (.bool (decide (((asM a).k)=2))),ve (.bool (decide (((asM a).k)=2)))] aY ?_ ?_
 exact .H cF (r_eql rfl)<| .B 0 .nil
 refine aftI aY c1 c2 fun ey ez aj a1 a3 a4 ak=>?_
 have⟨cG,cH,cI⟩:=ak.f3 dx dy cF
 have cJ:=ak.g 1 7
 have⟨a5,a6⟩:=nw2 a4 c3 c4
 refine c5 _ _ ?_
 rcases bc (decide (((asM a).k)=2)) with ac|ac
 have bE:=oT ac
 have c6:=hB cJ ac
 refine wt c6<| wk fun eA c8=>?_
 refine wA [true,false] [(1,false)] 28 [ve (nv (asM a)),vt] aj ?_ ?_
 exact .L2 cG a5<| .off .nil
 refine aftI aj a1 a3 fun eB eC dM c9 da db a7=>?_
 have cK:=a7.f1 cH
 have dz:=a7.g 0 9
 have dc:=a6.new_ db
 refine sS2 cK dz dc fun eD dd de dN=>?_
 have dg:=da.tR de
 refine c8 _ _<| wp_ret (ret_k c9 (v:=nv (asM a)) (res_c rfl cK (l_two isAgg23 sizeOf23 dd)) ?_)
 refine ⟨?_,dg⟩
 show Ending.returned (nv (asM a))=Ending.returned (nv (negM a))
 first|rfl|(simp only [negM,negA,infM,ac,bsm] <;> rfl)|(exfalso; omega)
 have bE:=oF ac
 have dh:=hB cJ ac
 refine wf dh<| wk fun eF a8=>wk fun eG di=>?_
 refine wA tr2 [] 28 [ve (.bool (decide (((asM a).k)=3))),ve (.bool (decide (((asM a).k)=3)))] aj ?_ ?_
 exact .H cI (r_eql rfl)<| .B 0 .nil
 refine aftI aj a1 a3 fun eH eI al a9 au ba am=>?_
 have⟨bb,bd,be⟩:=am.f3 cG cH cI
 have bf:=am.g 1 10
 have⟨av,aw⟩:=nw2 ba a5 a6
 refine di _ _ ?_
 rcases bc (decide (((asM a).k)=3)) with aa|aa
 have bg:=oT aa
 have ax:=hB bf aa
 refine wt ax<| ws<| a8 _ _<| wt ax<| wk fun dO bG=>?_
 refine wA [true,true,true,true,false] [(4,false)] 28 [ve (pv q9),ve (iv ((asM a).k)),vT,ve (nv (infM true)),vt] al ?_ ?_
 exact .F bb<| .J 0 isAgg3 av<| .b 1 (r_eql aa)<| .C 2 (fun m=>inf_c true _)<| .off .nil
 refine aftI al a9 au fun dP dQ dA bH bI bJ ay=>?_
 have bh:=ay.f1 bd
 have dj:=ay.g 3 16
 have bK:=aw.new_ bJ
 refine sS2 bh dj bK fun dR bL bM dB=>?_
 have bO:=bI.tR bM
 refine bG _ _<| wp_ret (ret_k bH (v:=nv (infM true)) (res_c rfl bh (l_two isAgg23 sizeOf23 bL)) ?_)
 refine ⟨?_,bO⟩
 show Ending.returned (nv (infM true))=Ending.returned (nv (negM a))
 first|rfl|(simp only [negM,negA,infM,ac,aa,bsm] <;> rfl)|(exfalso; omega)
 have bg:=oF aa
 have bP:=hB bf aa
 refine wf bP<| wp_g0 [true,true] [] 28
  [ve (.bool (decide (((asM a).k)=4))),ve (.bool (decide (((asM a).k)=4)))] al (.eq (.eq .nil)) ?_ ?_
 exact .H be (r_eql rfl)<| .B 0 .nil
 refine aftI al a9 au fun dT dU af az aA aB ag=>?_
 have⟨bj,bk,dk⟩:=ag.f3 bb bd be
 have bl:=ag.g 1 10
 have⟨aC,aD⟩:=nw2 aB av aw
 refine a8 _ _ ?_
 rcases bc (decide (((asM a).k)=4)) with ab|ab
 have bm:=oT ab
 have bQ:=hB bl ab
 refine wt bQ<| wk fun dV bR=>?_
 refine wA [true,true,true,true,false] [(4,false)] 28 [ve (pv q9),ve (iv ((asM a).k)),vF,ve (nv (infM false)),vt] af ?_ ?_
 exact .F bj<| .J 0 isAgg3 aC<| .b 1 (r_eql aa)<| .C 2 (fun m=>inf_c false _)<| .off .nil
 refine aftI af az aA fun dW dX dC bS bT bU aE=>?_
 have bn:=aE.f1 bk
 have dl:=aE.g 3 16
 have bV:=aD.new_ bU
 refine sS2 bn dl bV fun dY bW bX dD=>?_
 have bZ:=bT.tR bX
 refine bR _ _<| wp_ret (ret_k bS (v:=nv (infM false)) (res_c rfl bn (l_two isAgg23 sizeOf23 bW)) ?_)
 refine ⟨?_,bZ⟩
 show Ending.returned (nv (infM false))=Ending.returned (nv (negM a))
 first|rfl|(simp only [negM,negA,infM,ac,aa,ab,bsm] <;> rfl)|(exfalso; omega)
 have bm:=oF ab
 have b0:=hB bl ab
 refine wf b0<| wk fun d0 b1=>?_
 refine wA tr2 [] 28 [ve (.bool (decide (((asM a).k)=1))),ve (.bool (decide (((asM a).k)=1)))] af ?_ ?_
 exact .H dk (r_eql rfl)<| .B 0 .nil
 refine aftI af az aA fun d1 d2 ah aF aG aH an=>?_
 have⟨bp,bq⟩:=an.f2 bj bk
 have br:=an.g 1 17
 have⟨aI,aJ⟩:=nw2 aH aC aD
 refine b1 _ _ ?_
 rcases bc (decide (((asM a).k)=1)) with ad|ad
 have bs:=oT ad
 have b2:=hB br ad
 refine wt b2<| wk fun d3 b3=>?_
 refine wA [true,false] [(1,false)] 28 [ve (nv (Nm.mk 0 0)),vt] ah ?_ ?_
 exact .D (fun k=>args1 rfl) (fun m=>whole_c 0 _)<| .off .nil
 refine aftI ah aF aG fun d4 d5 dE b4 b5 b6 aK=>?_
 have bt:=aK.f1 bq
 have dm:=aK.g 0 19
 have b7:=aJ.new_ b6
 refine sS2 bt dm b7 fun d6 b8 b9 dF=>?_
 have cb:=b5.tR b9
 refine b3 _ _<| wp_ret (ret_k b4 (v:=nv (Nm.mk 0 0)) (res_c rfl bt (l_two isAgg23 sizeOf23 b8)) ?_)
 refine ⟨?_,cb⟩
 show Ending.returned (nv (Nm.mk 0 0))=Ending.returned (nv (negM a))
 first|rfl|(simp only [negM,negA,infM,ac,aa,ab,ad,bsm] <;> rfl)|(exfalso; omega)
 have bs:=oF ad
 have cc:=hB br ad
 refine wf cc<| ws<| cZ _ _<| wk fun d8 cd=>wk fun d9 ce=>?_
 refine wA tr3 [] 28 [ve (.pointer (some ⟨q9,1,none⟩)),ve (iv ((asM a).n)),ve (.bool (decide (((asM a).n)=0)))] ah ?_ ?_
 exact .F bp<| .J 0 isAgg3 aI<| .b 1 (r_eql rfl) .nil
 refine aftI ah aF aG fun ea eb ai aL aM aN ao=>?_
 have⟨dn,bv⟩:=ao.f2 bp bq
 have bw:=ao.g 2 22
 have⟨cf,aO⟩:=nw2 aN aI aJ
 refine ce _ _ ?_
 rcases bc (decide (((asM a).n)=0)) with ae|ae
 have bx:=oT ae
 have ch:=hB bw ae
 refine wt ch<| wk fun ec ci=>?_
 refine wA [true,false] [(1,false)] 28 [ve (nv (noughtM true)),vt] ai ?_ ?_
 exact .D (fun k=>args1 rfl) (fun m=>nought_c true _)<| .off .nil
 refine aftI ai aL aM fun ed ee dG cj cl cm aP=>?_
 have bz:=aP.f1 bv
 have dp:=aP.g 0 23
 have cn:=aO.new_ cm
 refine sS2 bz dp cn fun ef co cp dH=>?_
 have cr:=cl.tR cp
 refine ci _ _<| wp_ret (ret_k cj (v:=nv (noughtM true)) (res_c rfl bz (l_two isAgg23 sizeOf23 co)) ?_)
 refine ⟨?_,cr⟩
 show Ending.returned (nv (noughtM true))=Ending.returned (nv (negM a))
 first|rfl|(simp only [negM,negA,infM,ac,aa,ab,ad,ae,bsm] <;> rfl)|(exfalso; omega)
 have bx:=oF ae
 have ct:=hB bw ae
 refine wf ct<| ws<| cd _ _<| wk fun eh cu=>?_
 refine wA [true,true,true,true,false] [(4,false)] 28 [ve (.pointer (some ⟨q9,1,none⟩)),ve (iv ((asM a).n)),ve (iv (-((asM a).n))),ve (nv (Nm.mk 0 (-((asM a).n)))),vt] ai ?_ ?_
 exact .F dn<| .J 0 isAgg3 cf<| .R (fun k=>v_neg rfl (k.eq1 1 25 rfl) (by omega)) (fun _=>rfl)<| .C 2 (fun m=>whole_c (-((asM a).n)) _)<| .off .nil
 refine aftI ai aL aM fun ei ej dI cv cw cx aQ=>?_
 have bB:=aQ.f1 bv
 have dq:=aQ.g 3 27
 have cy:=aO.new_ cx
 refine sS2 bB dq cy fun ek cz cA dJ=>?_
 have cC:=cw.tR cA
 refine cu _ _<| wp_ret (ret_k cv (v:=nv (Nm.mk 0 (-((asM a).n)))) (res_c rfl bB (l_two isAgg23 sizeOf23 cz)) ?_)
 refine ⟨?_,cC⟩
 show Ending.returned (nv (Nm.mk 0 (-((asM a).n))))=Ending.returned (nv (negM a))
 first|rfl|(simp only [negM,negA,infM,ac,aa,ab,ad,ae,bsm] <;> rfl)|(exfalso; omega)
theorem nwhole_c (a:Nm) (w:World):Calls prog 101 #[nv a] w (IsRet (nv (wholeM a)) w):=by
 refine enter_abs func101 rfl fun a0 aj bF hp=>?_
 have aj:a0.tmps.size=15:=aj
 have al:New w w:=Upd.refl _ _
 have hp0:a0.eval (.tmp 0)=nv a:=hp 0 _ rfl
 refine wk fun K1 bG=>?_
 refine wB tr2 [] [] 15 [IsNew w 23 [iv a.k,iv a.n],IsNew w 23 [iv 0,iv 0]] [0,1] aj ?_ heN ?_
 exact .X hp0<| .Y .nil
 refine aftI aj bF al fun a2 w3 aZ bH a8 b5 am=>?_
 obtain⟨q9,h8,a9,an⟩:=am.G 0 1
 obtain⟨bI,a1,ba,bb⟩:=am.G 1 2
 have hne16:=am.ne 0 1 1 2 h8 a1
 have bS:=Nat.le_trans al.size a9
 have bT:=Nat.le_trans al.size ba
 refine bG _ _ <| wk fun b6 bd=>?_
 refine wk fun b7 be=>?_
 refine wA [true,true,false] [(2,false)] 15 [ve (nv a),ve (nv (asM a)),vt] aZ ?_ ?_
 exact .L2 h8 an<| .C 0 (fun p=>as_c a _)<| .off .nil
 refine aftI aZ bH a8 fun b8 b9 ae ao bf ap ag=>?_
 have⟨ad,a3⟩:=ag.f2 h8 a1
 have bJ:=ag.g 1 4
 have⟨bg,bh⟩:=nw2 ap an bb
 have hbd_a:=as_bd a
 refine sS2 ad bJ bg fun ca ac bi bj=>?_
 have aq:=bj hne16.symm bh
 have ar:=bf.tR bi
 refine be _ _ <| wk fun cc au=>?_
 rcases bc (decide (((asM a).k)=2)) with aa|aa
 have aH:=oT aa
 refine wA tr8 [] 15 [ve (pv q9),ve (iv ((asM a).k)),vT,vT,vU,vU,vU,vT] ae ?_ ?_
 exact .F ad<| .J 0 isAgg3 ac<| .b 1 (r_eql aa)<| .N 2<| .S<| .S<| .S<| .T (fun k=>v_pickT rfl (k.eq1 3 8 rfl) rfl) .nil
 refine aftI ae ao ar fun cd ce av bl bm aw ah=>?_
 have⟨cf,bK⟩:=ah.f2 ad a3
 have bL:=ah.g 7 12
 have⟨bU,bn⟩:=nw2 aw ac aq
 refine au _ _<| wt bL<| wk fun ch bo=>?_
 refine wA [true,false] [(1,false)] 15 [ve (nv (Nm.mk 0 0)),vt] av ?_ ?_
 exact .D (fun k=>args1 rfl) (fun p=>whole_c 0 _)<| .off .nil
 refine aftI av bl bm fun ci cj bV bp bq br ax=>?_
 have a4:=ax.f1 bK
 have bM:=ax.g 0 13
 have bs:=bn.new_ br
 refine sS2 a4 bM bs fun cl bt bu bW=>?_
 have bw:=bq.tR bu
 refine bo _ _<| wp_ret (ret_k bp (v:=nv (Nm.mk 0 0)) (res_c rfl a4 (l_two isAgg23 sizeOf23 bt)) ?_)
 refine ⟨?_,bw⟩
 show Ending.returned (nv (Nm.mk 0 0))=Ending.returned (nv (wholeM a))
 first|rfl|(simp only [wholeM,aa,bsm] <;> rfl)|(exfalso; omega)
 have aH:=oF aa
 refine wA tr8 [] 15 [ve (pv q9),ve (iv ((asM a).k)),vF,vF,ve (pv q9),ve (iv ((asM a).k)),ve (.bool (decide (((asM a).k)=1))),ve (.bool (decide (((asM a).k)=1)))] ae ?_ ?_
 exact .F ad<| .J 0 isAgg3 ac<| .b 1 (r_eql aa)<| .N 2<| .gf (fun k=>k.eq1 3 8 rfl) (fun k=>k.fx 1 ad)<| .V (fun p k=>v_load rfl (k.eq1 4 9 rfl) (l_one isAgg3 ((ac.new_ p).cell 0)))<| .V (fun p k=>v_bin rfl (k.eq1 5 10 rfl) rfl (fun _=>rfl) (r_eql rfl))<| .T (fun k=>v_pickF rfl (k.eq1 3 8 rfl) (k.eq1 6 11 rfl)) .nil
 refine aftI ae ao ar fun cn co af ay az aA ai=>?_
 have⟨bN,a5⟩:=ai.f2 ad a3
 have a6:=ai.g 7 12
 have⟨bx,aB⟩:=nw2 aA ac aq
 refine au _ _ ?_
 rcases bc (decide (((asM a).k)=1)) with ab|ab
 have aJ:=oT ab
 have bz:=hB a6 ab
 refine wt bz<| wk fun cp bA=>?_
 refine wA [true,false] [(1,false)] 15 [ve (nv (Nm.mk 0 0)),vt] af ?_ ?_
 exact .D (fun k=>args1 rfl) (fun p=>whole_c 0 _)<| .off .nil
 refine aftI af ay az fun cq cr bX bB aK bC aC=>?_
 have a7:=aC.f1 a5
 have bO:=aC.g 0 13
 have bD:=aB.new_ bC
 refine sS2 a7 bO bD fun bY aL aM bP=>?_
 have aO:=aK.tR aM
 refine bA _ _<| wp_ret (ret_k bB (v:=nv (Nm.mk 0 0)) (res_c rfl a7 (l_two isAgg23 sizeOf23 aL)) ?_)
 refine ⟨?_,aO⟩
 show Ending.returned (nv (Nm.mk 0 0))=Ending.returned (nv (wholeM a))
 first|rfl|(simp only [wholeM,aa,ab,bsm] <;> rfl)|(exfalso; omega)
 have aJ:=oF ab
 have aP:=hB a6 ab
 refine wf aP<| ws<| bd _ _<| wk fun b0 aQ=>?_
 refine wA [true,false] [(1,false)] 15 [ve (nv (asM a)),vt] af ?_ ?_
 exact .L2 bN bx<| .off .nil
 refine aftI af ay az fun b1 b2 bQ aR aS aT ak=>?_
 have aE:=ak.f1 a5
 have bE:=ak.g 0 14
 have aU:=aB.new_ aT
 refine sS2 aE bE aU fun b3 aV aW bR=>?_
 have aY:=aS.tR aW
 refine aQ _ _<| wp_ret (ret_k aR (v:=nv (asM a)) (res_c rfl aE (l_two isAgg23 sizeOf23 aV)) ?_)
 refine ⟨?_,aY⟩
 show Ending.returned (nv (asM a))=Ending.returned (nv (wholeM a))
 first|rfl|(simp only [wholeM,aa,ab,bsm] <;> rfl)|(exfalso; omega)
theorem nindex_c (a:Nm) (w:World):Calls prog 54 #[nv a] w (IsRet (.tuple #[iv ((indexM a).1),.bool ((indexM a).2)]) w):=by
 refine enter_abs func54 rfl fun a0 ag a3 hp=>?_
 have ag:a0.tmps.size=16:=ag
 have az:New w w:=Upd.refl _ _
 have hp0:a0.eval (.tmp 0)=nv a:=hp 0 _ rfl
 refine wk fun K1 a4=>?_
 refine wB tr3 [] [] 16 [IsNew w 23 [iv a.k,iv a.n],ve (iv 0),vF] [0] ag ?_ heN ?_
 exact .X hp0<| .c<| .c .nil
 refine aftI ag a3 az fun a2 w3 aA a5 aC bq a6=>?_
 obtain⟨q9,h8,aD,ah⟩:=a6.G 0 1
 have bh:=Nat.le_trans az.size aD
 refine a4 _ _ <| wk fun br aE=>?_
 refine wk fun bs aF=>?_
 refine wA [true,true,false] [(2,false)] 16 [ve (nv a),ve (nv (wholeM a)),vt] aA ?_ ?_
 exact .L2 h8 ah<| .C 0 (fun p=>nwhole_c a _)<| .off .nil
 refine aftI aA a5 aC fun bt bu ae ai aG aH aj=>?_
 have ad:=aj.f1 h8
 have a7:=aj.g 1 5
 have aI:=ah.new_ aH
 have hwb_a:=whole_bd a
 refine sS2 ad a7 aI fun bv ac aJ bi=>?_
 have ak:=aG.tR aJ
 refine aF _ _ <| wk fun bx al=>?_
 rcases bc (decide (((wholeM a).k)=0)) with aa|aa
 have ax:=oT aa
 refine wA tr8 [] 16 [ve (pv q9),ve (iv ((wholeM a).k)),vF,vF,ve (.pointer (some ⟨q9,1,none⟩)),ve (iv ((wholeM a).n)),ve (.bool (decide (((wholeM a).n) < 0))),ve (.bool (decide (((wholeM a).n) < 0)))] ae ?_ ?_
 exact .F ad<| .J 0 isAgg3 ac<| .b 1 (r_neq aa)<| .N 2<| .gf (fun k=>k.eq1 3 9 rfl) (fun k=>k.fx 1 ad)<| .V (fun p k=>v_load rfl (k.eq1 4 10 rfl) (l_one isAgg3 ((ac.new_ p).cell 1)))<| .V (fun p k=>v_bin rfl (k.eq1 5 11 rfl) rfl (fun _=>rfl) (r_lssK rfl))<| .T (fun k=>v_pickF rfl (k.eq1 3 9 rfl) (k.eq1 6 12 rfl)) .nil
 refine aftI ae ai ak fun bz bA af am an aL ao=>?_
 have a8:=ao.f1 ad
 have aB:=ao.g 7 13
 have aM:=ac.new_ aL
 refine al _ _ ?_
 rcases bc (decide (((wholeM a).n) < 0)) with ab|ab
 have ay:=oT ab
 have aN:=hB aB ab
 refine wt aN<| wk fun bB aO=>?_
 refine wA tr2 [] 16 [ve (iv 0),vF] af ?_ ?_
 exact .c<| .c .nil
 refine aftI af am an fun bC bD bj aP aQ bk ap=>?_
 have a9:=ap.g 0 2
 have ba:=ap.g 1 3
 refine aO _ _<| wp_ret (ret_k aP (v:=.tuple #[iv 0,.bool false]) (res_tt rfl a9 ba _) ?_)
 refine ⟨?_,aQ⟩
 show Ending.returned (.tuple #[iv 0,.bool false])=Ending.returned (.tuple #[iv ((indexM a).1),.bool ((indexM a).2)])
 first|rfl|(simp only [indexM,aa,ab,bsm] <;> rfl)|(exfalso; omega)
 have ay:=oF ab
 have aR:=hB aB ab
 refine wf aR<| ws<| aE _ _<| wk fun bE aS=>?_
 refine wA tr4 [] 16 [ve (.pointer (some ⟨q9,1,none⟩)),ve (iv ((wholeM a).n)),ve (iv ((wholeM a).n)),vT] af ?_ ?_
 exact .F a8<| .J 0 isAgg3 aM<| .B 1<| .c .nil
 refine aftI af am an fun bF bG bl aT aU bm aq=>?_
 have bb:=aq.g 2 2
 have bd:=aq.g 3 3
 refine aS _ _<| wp_ret (ret_k aT (v:=.tuple #[iv ((wholeM a).n),.bool true]) (res_tt rfl bb bd _) ?_)
 refine ⟨?_,aU⟩
 show Ending.returned (.tuple #[iv ((wholeM a).n),.bool true])=Ending.returned (.tuple #[iv ((indexM a).1),.bool ((indexM a).2)])
 first|rfl|(simp only [indexM,aa,ab,bsm] <;> rfl)|(exfalso; omega)
 have ax:=oF aa
 refine wA tr8 [] 16 [ve (pv q9),ve (iv ((wholeM a).k)),vT,vT,vU,vU,vU,vT] ae ?_ ?_
 exact .F ad<| .J 0 isAgg3 ac<| .b 1 (r_neq aa)<| .N 2<| .S<| .S<| .S<| .T (fun k=>v_pickT rfl (k.eq1 3 9 rfl) rfl) .nil
 refine aftI ae ai ak fun bH bI ar aV aW aX au=>?_
 have bJ:=au.f1 ad
 have be:=au.g 7 13
 have bn:=ac.new_ aX
 refine al _ _<| wt be<| wk fun bK aY=>?_
 refine wA tr2 [] 16 [ve (iv 0),vF] ar ?_ ?_
 exact .c<| .c .nil
 refine aftI ar aV aW fun bL bM bo aZ a1 bp av=>?_
 have bf:=av.g 0 2
 have bg:=av.g 1 3
 refine aY _ _<| wp_ret (ret_k aZ (v:=.tuple #[iv 0,.bool false]) (res_tt rfl bf bg _) ?_)
 refine ⟨?_,a1⟩
 show Ending.returned (.tuple #[iv 0,.bool false])=Ending.returned (.tuple #[iv ((indexM a).1),.bool ((indexM a).2)])
 first|rfl|(simp only [indexM,aa,bsm] <;> rfl)|(exfalso; omega)
def btrim_c_P (Am:Option Addr) (m:List Nat) (cm:Nat) (w:World) (en:Ending) (w':World):Prop:=∃ (Ar0:Option Addr) (cr0:Nat),en=.returned (sv Ar0 (canon (val m)) cr0)∧SRow w' .u32 Ar0 (canon (val m)) cr0∧New w w'
theorem btrim_c (Am:Option Addr) (m:List Nat) (cm:Nat) (w:World) (hrm:SRow w .u32 Am m cm) (hl:Limbs m):Calls prog 93 #[sv Am m cm] w (btrim_c_P Am m cm w):=by
 refine enter_abs func93 rfl fun a0 al a9 hp=>?_
 have al:a0.tmps.size=21:=al
 have ba:New w w:=Upd.refl _ _
 have hp0:a0.eval (.tmp 0)=sv Am m cm:=hp 0 _ rfl
 have hmx:=hrm.max
 refine wk fun K1 bb=>?_
 refine wA tr1 [] 21 [ve (sv none ([]) 0)] al ?_ ?_
 exact .c .nil
 refine aftI al a9 ba fun a2 w3 bd be aF bs bf=>?_
 have h8:=bf.f1 hp0
 refine bb _ _ <| wk fun bt ao=>?_
 refine wb<| wp_loopX (fun (mm:Nat) (aa:Act) (ww:World)=>∃ (kk:Nat) (A1:Option Addr) (c1:Nat),mm=kk∧aa.tmps.size=21∧aa.defers=[]∧New w ww∧aa.eval (.tmp 0)=sv A1 (m.take kk) c1∧SRow ww .u32 A1 (m.take kk) c1∧(kk≤m.length)∧(val (m.take kk)=val m)) (fun mm=>mm) ⟨_,⟨m.length,Am,cm,rfl,bd,be,aF,(h8.trans (by rw [List.take_length])),(by rw [List.take_length]; exact hrm.new_ aF),(Nat.le_refl _),(by rw [List.take_length])⟩⟩ ?_
 rintro mm bu bv ⟨kk,A1,c1,hmm,ah,ap,aq,af,aj,hk,hv⟩
 refine wk fun bw aI=>wk fun bx ar=>?_
 have htl:(m.take kk).length=kk:=by rw [List.length_take]; omega
 rcases bc (decide (((m.take kk).length:Int)≤0)) with ad|ad
 have aD:=oT ad
 refine wA tr12 [] 21 [ve (sv A1 (m.take kk) c1),ve (iv ((m.take kk).length:Int)),vF,vF,vU,vU,vU,vU,vU,vU,vU,vF] ah ?_ ?_
 exact .M af<| .T (fun k=>v_lenR rfl elW (k.eq1 0 3 rfl))<| .b 1 (r_gtrK ad)<| .N 2<| .S<| .S<| .S<| .S<| .S<| .S<| .S<| .T (fun k=>v_pickF rfl (k.eq1 3 6 rfl) rfl) .nil
 refine aftI ah ap aq fun bz bA au aJ aK aL av=>?_
 have bg:=av.f1 af
 have bh:=av.g 11 14
 have aM:=aj.new_ aL
 refine ar _ _<| wf bh<| wp_exit ?_
 refine ao _ _<| wk fun bB aN=>?_
 refine wA tr2 [] 21 [ve (sv A1 (m.take kk) c1),ve (sv A1 (m.take kk) c1)] au ?_ ?_
 exact .M bg<| .B 0 .nil
 refine aftI au aJ aK fun bC bD bp aO aP aQ aR=>?_
 have bi:=aR.g 1 2
 have aS:=aM.new_ aQ
 refine aN _ _<| wp_ret (ret_k aO (v:=sv A1 (m.take kk) c1) (res_t rfl bi _) ?_)
 have hsp:m.take kk=canon (val m):=trim_end' hl hk hv (Or.inl (by omega))
 exact⟨A1,c1,by rw [← hsp],by rw [← hsp]; exact aS,aP⟩
 have aD:=oF ad
 refine wp_g0 (.replicate 12 true) [] 21
  [ve (sv A1 (m.take kk) c1),ve (iv ((m.take kk).length:Int)),vT,vT,ve (sv A1 (m.take kk) c1),ve (sv A1 (m.take kk) c1),ve (iv ((m.take kk).length:Int)),ve (iv (((m.take kk).length:Int) - 1)),
  (EP (.int .u32 (((m.take kk).getD ((((m.take kk).length:Int) - 1:Int).toNat) 0:Nat):Int))),ve (.int .u32 (((m.take kk).getD ((((m.take kk).length:Int) - 1:Int).toNat) 0:Nat):Int)),ve (.bool (decide ((((m.take kk).getD ((((m.take kk).length:Int) - 1:Int).toNat) 0:Nat):Int)=0))),ve (.bool (decide ((((m.take kk).getD ((((m.take kk).length:Int) - 1:Int).toNat) 0:Nat):Int)=0)))] ah (.eq (.eq (.eq (.eq (.eq (.eq (.eq (.eq (.cons (fun _ _ _ n ⟨_,_,e,h⟩=>⟨_,_,e,h.new_ n⟩) (.eq (.eq (.eq .nil)))))))))))) ?_ ?_
 refine .M af<| .T (fun k=>v_lenR rfl elW (k.eq1 0 3 rfl))<| .b 1 (r_gtrK ad)<| .N 2<| .gm (fun k=>k.eq1 3 6 rfl) (fun k=>k.fx 0 af)<| .gm (fun k=>k.eq1 3 6 rfl) (fun k=>k.fx 0 af)<| .V (fun p k=>v_lenR rfl elW (k.eq1 5 8 rfl))<| .V (fun p k=>v_bin rfl (k.eq1 6 9 rfl) rfl (fun _=>rfl) (r_sub rfl (by omega))) ?_
 refine .o1 (tg rfl rfl rfl (fun _ _ k=>k.eq1 3 6 rfl) fun _ w hn k=>(by
  exact x_eaddr (k:=.u32) rfl elW (k.eq1 4 7 rfl) (k.eq1 7 10 rfl) (aj.new_ hn) (by omega) fun b1 o2 hme=>⟨b1,o2,rfl,hme⟩)) ?_
 refine .o1 (tg rfl rfl rfl (fun _ _ k=>k.eq1 3 6 rfl) fun _ w hn k=>(by
  obtain⟨b5,o6,e7,bj⟩:=k.G 8 11
  exact⟨_,v_load rfl e7 (l_one isAgg59 bj.1),rfl⟩)) ?_
 exact .V (fun p k=>v_bin rfl (k.eq1 9 12 rfl) rfl (fun _=>rfl) (r_eql rfl))<| .T (fun k=>v_pickT rfl (k.eq1 3 6 rfl) (k.eq1 10 13 rfl)) .nil
 refine aftI ah ap aq fun bE bF ai aw ax aT ay=>?_
 have am:=ay.f1 af
 have aG:=ay.g 11 14
 have ak:=aj.new_ aT
 refine ar _ _ ?_
 rcases bc (decide ((((m.take kk).getD ((((m.take kk).length:Int) - 1:Int).toNat) 0:Nat):Int)=0)) with ab|ab
 have aE:=oT ab
 have aU:=hB aG ab
 refine wt aU<| ws<| aI _ _<| wb<| wp_g0 [true,true,true,true,true,false] [(5,true)] 21
  [ve (sv A1 (m.take kk) c1),ve (sv A1 (m.take kk) c1),ve (iv ((m.take kk).length:Int)),ve (iv (((m.take kk).length:Int) - 1)),
  (RP .u32 ((m.take kk).take ((((m.take kk).length:Int) - 1:Int).toNat))),vt] ai (.eq (.eq (.eq (.eq (.cons (fun _ _ _ n ⟨_,_,e,h⟩=>⟨_,_,e,h.new_ n⟩) (.tt .nil)))))) ?_ ?_
 refine .M am<| .M am<| .T (fun k=>v_lenR rfl elW (k.eq1 1 16 rfl))<| .R (fun k=>v_bin rfl (k.eq1 2 17 rfl) rfl (fun _=>rfl) (r_sub rfl (by omega))) (fun _=>rfl) ?_
 refine .o1 (tk rfl rfl fun _ w hn k=>(by
  exact x_cutH (k:=.u32) rfl elW (k.eq1 0 15 rfl) (k.eq1 3 18 rfl) (ak.new_ hn) (by omega) fun A9 bm hmr=>⟨A9,bm,rfl,hmr⟩)) ?_
 exact .off .nil
 refine aftI ai aw ax fun az bG aA aV aW aX aB=>?_
 have bH:=aB.f1 am
 obtain⟨ag,ac,an,aC⟩:=aB.G 4 19
 have an:az.eval (.tmp 19)=sv ag ((m.take kk).take ((((m.take kk).length:Int) - 1:Int).toNat)) ac:=an
 have bq:=ak.new_ aX
 refine sP an aA aV fun bn aY aZ ae aH=>?_
 have bI:=ae.q an
 refine st_nil ?_
 have he72:((m.take kk).take ((((m.take kk).length:Int) - 1:Int).toNat))=(m.take (kk - 1)):=by rw [List.take_take]; congr 1; rw [htl]; omega
 rw [he72] at aH
 rw [he72] at aC
 refine blk_n ?_
 refine then_n ?_
 exact⟨_,⟨kk - 1,ag,ac,rfl,aY,aZ,aW,aH,aC,(by omega),(trim_dn' (by omega) hk ab hv)⟩,(by omega)⟩
 have aE:=oF ab
 have a1:=hB aG ab
 refine wf a1<| wp_exit ?_
 refine ao _ _<| wk fun bJ a3=>?_
 refine wA tr2 [] 21 [ve (sv A1 (m.take kk) c1),ve (sv A1 (m.take kk) c1)] ai ?_ ?_
 exact .M am<| .B 0 .nil
 refine aftI ai aw ax fun bK bL br a4 a5 a6 a7=>?_
 have bo:=a7.g 1 2
 have a8:=ak.new_ a6
 refine a3 _ _<| wp_ret (ret_k a4 (v:=sv A1 (m.take kk) c1) (res_t rfl bo _) ?_)
 have hsp:m.take kk=canon (val m):=trim_end' hl hk hv (Or.inr (trim_nz' (by omega) hk ab))
 exact⟨A1,c1,by rw [← hsp],by rw [← hsp]; exact a8,a5⟩
theorem bsign_c (n:Int) (w:World):Calls prog 143 #[iv n] w (IsRet (iv (cmpI1 n)) w):=by
 refine enter_abs func143 rfl fun a0 aa ag hp=>?_
 have aa:a0.tmps.size=6:=aa
 have ah:New w w:=Upd.refl _ _
 have hp0:a0.eval (.tmp 0)=iv n:=hp 0 _ rfl
 refine wk fun K1 ai=>?_
 refine wA tr1 [] 6 [ve (iv 0)] aa ?_ ?_
 exact .c .nil
 refine aftI aa ag ah fun a2 w3 ab aj ak ap al=>?_
 have h8:=al.f1 hp0
 refine ai _ _ <| wk fun aq ac=>?_
 refine wA tr4 [] 6 [ve (iv n),ve (iv (max n (-1))),ve (iv (min (max n (-1)) 1)),ve (iv (min (max n (-1)) 1))] ab ?_ ?_
 exact .M h8<| .T (fun k=>v_max rfl (k.eq1 0 3 rfl) rfl)<| .T (fun k=>v_min rfl (k.eq1 1 4 rfl) rfl)<| .B 2 .nil
 refine aftI ab aj ak fun ar au an ad ae ao af=>?_
 have am:=af.g 3 2
 refine ac _ _<| wp_ret (ret_k ad (v:=iv (min (max n (-1)) 1)) (res_t rfl am _) ?_)
 exact⟨congrArg (fun z=>Ending.returned (iv z)) (sign_eq n),ae⟩
theorem bneg_c (a:Bool) (Aa:Option Addr) (ma:List Nat) (ca:Nat) (w:World) (hra:SRow w .u32 Aa ma ca):Calls prog 94 #[.agg #[.bool a,sv Aa ma ca]] w (IsRet (.bool (mayB a ma && a)) w):=by
 refine enter_abs func94 rfl fun a0 ad ap hp=>?_
 have ad:a0.tmps.size=9:=ad
 have ag:New w w:=Upd.refl _ _
 have hp0:a0.eval (.tmp 0)=.agg #[.bool a,sv Aa ma ca]:=hp 0 _ rfl
 refine wk fun K1 aq=>?_
 refine wB tr2 [] [] 9 [IsNew w 26 [.bool a,sv Aa ma ca],vF] [0] ad ?_ heN ?_
 exact .X hp0<| .c .nil
 refine aftI ad ap ag fun a2 w3 ae ah ab aB ar=>?_
 obtain⟨q9,h8,ai,ac⟩:=ar.G 0 1
 have aw:=Nat.le_trans ag.size ai
 refine aq _ _ <| wk fun aC af=>?_
 rcases bc (mayB a ma) with aa|aa
 refine wA tr7 [] 9 [ve (.agg #[.bool a,sv Aa ma ca]),vT,vT,ve (pv q9),ve (.bool a),ve (.bool a),ve (.bool a)] ae ?_ ?_
 exact .L6 h8 ac<| .o1 (ck rfl rfl rfl (fun _ w hn k=>⟨#[.agg #[.bool a,sv Aa ma ca]],args1 (k.eq1 0 3 rfl),fun _=>by kernel_rfl,bmay_c a _ ma _ _ (hra.new_ (ab.transNew hn))⟩) fun _=>congrArg Value.bool aa)<| .N 1<| .gf (fun k=>k.eq1 2 5 rfl) (fun k=>k.fx 1 h8)<| .V (fun n k=>v_load rfl (k.eq1 3 6 rfl) (l_one isAgg4 ((ac.new_ n).cell 0)))<| .T (fun k=>v_pickT rfl (k.eq1 2 5 rfl) (k.eq1 4 7 rfl))<| .B 5 .nil
 refine aftI ae ah ab fun aD aE ax aj ak ay al=>?_
 have au:=al.g 6 2
 refine af _ _<| wp_ret (ret_k aj (v:=.bool a) (res_t rfl au _) ?_)
 refine ⟨?_,ak⟩
 show Ending.returned (.bool a)=Ending.returned (.bool (mayB a ma && a))
 first|rfl|(simp only [aa,bsm] <;> rfl)|(exfalso; omega)
 refine wA tr7 [] 9 [ve (.agg #[.bool a,sv Aa ma ca]),vF,vF,vU,vU,vF,vF] ae ?_ ?_
 exact .L6 h8 ac<| .o1 (ck rfl rfl rfl (fun _ w hn k=>⟨#[.agg #[.bool a,sv Aa ma ca]],args1 (k.eq1 0 3 rfl),fun _=>by kernel_rfl,bmay_c a _ ma _ _ (hra.new_ (ab.transNew hn))⟩) fun _=>congrArg Value.bool aa)<| .N 1<| .S<| .S<| .T (fun k=>v_pickF rfl (k.eq1 2 5 rfl) rfl)<| .B 5 .nil
 refine aftI ae ah ab fun aF aG az am an aA ao=>?_
 have av:=ao.g 6 2
 refine af _ _<| wp_ret (ret_k am (v:=.bool false) (res_t rfl av _) ?_)
 refine ⟨?_,an⟩
 show Ending.returned (.bool false)=Ending.returned (.bool (mayB a ma && a))
 first|rfl|(simp only [aa,bsm] <;> rfl)|(exfalso; omega)
def clone32_c_P (Au:Option Addr) (u:List Nat) (cu:Nat) (w:World) (en:Ending) (w':World):Prop:=∃ (Ar0:Option Addr) (cr0:Nat),en=.returned (sv Ar0 u cr0)∧SOwn w' w.heap.size 59 .u32 Ar0 u cr0∧New w w'
theorem clone32_c (Au:Option Addr) (u:List Nat) (cu:Nat) (w:World) (hru:SRow w .u32 Au u cu) (hs:u.length≤1000000):Calls prog 77 #[sv Au u cu] w (clone32_c_P Au u cu w):=by
 refine enter_abs func77 rfl fun a0 ai aR hp=>?_
 have ai:a0.tmps.size=8:=ai
 have aS:New w w:=Upd.refl _ _
 have hp0:a0.eval (.tmp 0)=sv Au u cu:=hp 0 _ rfl
 refine wk fun K1 aT=>?_
 refine wA tr1 [] 8 [ve (sv none ([]) 0)] ai ?_ ?_
 exact .c .nil
 refine aftI ai aR aS fun a2 w3 au aU aV ba aW=>?_
 have h8:=aW.f1 hp0
 refine aT _ _ <| wk fun bb aA=>?_
 refine wk fun bd aB=>?_
 refine wA tr2 [] 8 [ve (sv Au u cu),ve (.bool Au.isNone)] au ?_ ?_
 exact .M h8<| .b 0 (fun W=>Lib.run_eql_slice_nil W _ _ _ _ _ _ _ underlying24) .nil
 refine aftI au aU aV fun be av ae aj ag a5 ak=>?_
 have aX:=ak.f1 h8
 have aw:=ak.g 1 4
 refine aB _ _ ?_
 rcases bc (Au.isNone) with af|af
 have aC:=hB aw af
 refine wt aC<| wk fun bf aD=>?_
 refine wA tr1 [] 8 [ve (sv none ([]) 0)] ae ?_ ?_
 exact .c .nil
 refine aftI ae aj ag fun bg bh a6 aE aF a7 aG=>?_
 have aY:=aG.g 0 2
 refine aD _ _<| wp_ret (ret_k aE (v:=sv none ([]) 0) (res_t rfl aY _) ?_)
 have ax:=row_none hru af
 exact⟨none,0,by rw [ax],by rw [ax]; exact SOwn.nil _ _ _ _,aF⟩
 have aH:=hB aw af
 refine wf aH<| ws<| aA _ _<| wk fun bi aI=>?_
 refine wp_g0 [true,true,false,false] [(2,false),(3,true)] 8
  [(OP av.heap.size 59 .u32 ([])),ve (sv Au u cu),vt,vt] ae (.cons (fun _ _ _ n ⟨_,_,e,h⟩=>⟨_,_,e,h.new_ n⟩) (.eq (.tt (.tt .nil)))) ?_ ?_
 refine .o1 (tkA rfl (noG rfl) fun _ w hn k=>(by
  exact x_bslice0 .u32 rfl parts0 elW fun A1 c2 W' hmo=>⟨A1,c2,rfl,(hmo.more hn.size)⟩)) ?_
 exact .M aX<| .off<| .off .nil
 refine aftI ae aj ag fun al bj am aJ ah a8 an=>?_
 obtain⟨aZ,aK,ao,aL⟩:=an.G 0 5
 have ao:al.eval (.tmp 5)=sv aZ ([]) aK:=ao
 have ay:=an.g 1 6
 have ap:=aL.more ag.size
 have hw55:=ah.size
 refine st_act rfl rfl fun bk aM=>a_append (k:=.u32) (b:=w.heap.size) rfl elW ao ap ay (hru.new_ ah) (by first|omega|(simp only [List.length_nil,List.length_cons,List.length_append,List.length_take,List.length_drop,List.length_replicate,List.length_set]; omega)) (by first|omega|(simp only [List.length_nil,List.length_cons,List.length_append,List.length_take,List.length_drop,List.length_replicate,List.length_set]; omega)) hw55 fun ab aa bl aN hg51=>aM _ _ trivial ?_
 have aO:=ah.ownGrown ap hg51
 obtain⟨aq,ad⟩:∃ a',a'=al.put (some 7) (sv ab ([] ++ u) aa):=⟨_,rfl⟩
 have⟨ar,aP⟩:=pz2 ad am aJ
 have a1:=pN ad ay
 have az:=s7 ad am
 show stepsTo _ _ _ _ _ (al.put (some 7) (sv ab ([] ++ u) aa)) _
 rw [← ad]
 refine sP az ar aP fun a3 a9 aQ ac a4=>?_
 have⟨bm,bn⟩:=ac.q2 a1 az
 refine aI _ _<| wp_ret (ret_k aQ (v:=sv ab ([] ++ u) aa) (res_t rfl a4 _) ?_)
 exact⟨ab,aa,by rw [List.nil_append],by have h:=aN; rw [List.nil_append] at h; exact h,aO⟩
def clone16_c_P (Au:Option Addr) (u:List Nat) (cu:Nat) (w:World) (en:Ending) (w':World):Prop:=∃ (Ar0:Option Addr) (cr0:Nat),en=.returned (sv Ar0 u cr0)∧SOwn w' w.heap.size 79 .u16 Ar0 u cr0∧New w w'
theorem clone16_c (Au:Option Addr) (u:List Nat) (cu:Nat) (w:World) (hru:SRow w .u16 Au u cu) (hs:u.length≤1000000):Calls prog 50 #[sv Au u cu] w (clone16_c_P Au u cu w):=by
 refine enter_abs func50 rfl fun a0 ai aR hp=>?_
 have ai:a0.tmps.size=8:=ai
 have aS:New w w:=Upd.refl _ _
 have hp0:a0.eval (.tmp 0)=sv Au u cu:=hp 0 _ rfl
 refine wk fun K1 aT=>?_
 refine wA tr1 [] 8 [ve (sv none ([]) 0)] ai ?_ ?_
 exact .c .nil
 refine aftI ai aR aS fun a2 w3 au aU aV ba aW=>?_
 have h8:=aW.f1 hp0
 refine aT _ _ <| wk fun bb aA=>?_
 refine wk fun bd aB=>?_
 refine wA tr2 [] 8 [ve (sv Au u cu),ve (.bool Au.isNone)] au ?_ ?_
 exact .M h8<| .b 0 (fun W=>Lib.run_eql_slice_nil W _ _ _ _ _ _ _ underlying27) .nil
 refine aftI au aU aV fun be av ae aj ag a5 ak=>?_
 have aX:=ak.f1 h8
 have aw:=ak.g 1 4
 refine aB _ _ ?_
 rcases bc (Au.isNone) with af|af
 have aC:=hB aw af
 refine wt aC<| wk fun bf aD=>?_
 refine wA tr1 [] 8 [ve (sv none ([]) 0)] ae ?_ ?_
 exact .c .nil
 refine aftI ae aj ag fun bg bh a6 aE aF a7 aG=>?_
 have aY:=aG.g 0 2
 refine aD _ _<| wp_ret (ret_k aE (v:=sv none ([]) 0) (res_t rfl aY _) ?_)
 have ax:=row_none hru af
 exact⟨none,0,by rw [ax],by rw [ax]; exact SOwn.nil _ _ _ _,aF⟩
 have aH:=hB aw af
 refine wf aH<| ws<| aA _ _<| wk fun bi aI=>?_
 refine wp_g0 [true,true,false,false] [(2,false),(3,true)] 8
  [(OP av.heap.size 79 .u16 ([])),ve (sv Au u cu),vt,vt] ae (.cons (fun _ _ _ n ⟨_,_,e,h⟩=>⟨_,_,e,h.new_ n⟩) (.eq (.tt (.tt .nil)))) ?_ ?_
 refine .o1 (tkA rfl (noG rfl) fun _ w hn k=>(by
  exact x_bslice0 .u16 rfl parts0 elU fun A1 c2 W' hmo=>⟨A1,c2,rfl,(hmo.more hn.size)⟩)) ?_
 exact .M aX<| .off<| .off .nil
 refine aftI ae aj ag fun al bj am aJ ah a8 an=>?_
 obtain⟨aZ,aK,ao,aL⟩:=an.G 0 5
 have ao:al.eval (.tmp 5)=sv aZ ([]) aK:=ao
 have ay:=an.g 1 6
 have ap:=aL.more ag.size
 have hw55:=ah.size
 refine st_act rfl rfl fun bk aM=>a_append (k:=.u16) (b:=w.heap.size) rfl elU ao ap ay (hru.new_ ah) (by first|omega|(simp only [List.length_nil,List.length_cons,List.length_append,List.length_take,List.length_drop,List.length_replicate,List.length_set]; omega)) (by first|omega|(simp only [List.length_nil,List.length_cons,List.length_append,List.length_take,List.length_drop,List.length_replicate,List.length_set]; omega)) hw55 fun ab aa bl aN hg51=>aM _ _ trivial ?_
 have aO:=ah.ownGrown ap hg51
 obtain⟨aq,ad⟩:∃ a',a'=al.put (some 7) (sv ab ([] ++ u) aa):=⟨_,rfl⟩
 have⟨ar,aP⟩:=pz2 ad am aJ
 have a1:=pN ad ay
 have az:=s7 ad am
 show stepsTo _ _ _ _ _ (al.put (some 7) (sv ab ([] ++ u) aa)) _
 rw [← ad]
 refine sP az ar aP fun a3 a9 aQ ac a4=>?_
 have⟨bm,bn⟩:=ac.q2 a1 az
 refine aI _ _<| wp_ret (ret_k aQ (v:=sv ab ([] ++ u) aa) (res_t rfl a4 _) ?_)
 exact⟨ab,aa,by rw [List.nil_append],by have h:=aN; rw [List.nil_append] at h; exact h,aO⟩
def bmag_c_P (a:Bool) (Aa:Option Addr) (ma:List Nat) (ca:Nat) (w:World) (en:Ending) (w':World):Prop:=∃ (Ar0:Option Addr) (cr0:Nat),en=.returned (sv Ar0 (canon (goodI a ma).natAbs) cr0)∧SOwn w' w.heap.size 59 .u32 Ar0 (canon (goodI a ma).natAbs) cr0∧New w w'
theorem bmag_c (a:Bool) (Aa:Option Addr) (ma:List Nat) (ca:Nat) (w:World) (hra:SRow w .u32 Aa ma ca) (ha:Limbs ma) (hs:ma.length≤1000000):Calls prog 92 #[.agg #[.bool a,sv Aa ma ca]] w (bmag_c_P a Aa ma ca w):=by
 refine enter_abs func92 rfl fun a0 af aL hp=>?_
 have af:a0.tmps.size=9:=af
 have ap:New w w:=Upd.refl _ _
 have hp0:a0.eval (.tmp 0)=.agg #[.bool a,sv Aa ma ca]:=hp 0 _ rfl
 refine wk fun K1 aM=>?_
 refine wB tr2 [] [] 9 [IsNew w 26 [.bool a,sv Aa ma ca],ve (sv none ([]) 0)] [0] af ?_ heN ?_
 exact .X hp0<| .c .nil
 refine aftI af aL ap fun a2 w3 ag aq ab a3 aN=>?_
 obtain⟨q9,h8,ar,ac⟩:=aN.G 0 1
 have aV:=Nat.le_trans ap.size ar
 refine aM _ _ <| wk fun a4 au=>?_
 refine wk fun a5 aj=>?_
 rcases bc (mayB a ma) with aa|aa
 refine wA tr3 [] 9 [ve (.agg #[.bool a,sv Aa ma ca]),vT,vF] ag ?_ ?_
 exact .L6 h8 ac<| .o1 (ck rfl rfl rfl (fun _ w hn k=>⟨#[.agg #[.bool a,sv Aa ma ca]],args1 (k.eq1 0 3 rfl),fun _=>by kernel_rfl,bmay_c a _ ma _ _ (hra.new_ (ab.transNew hn))⟩) fun _=>congrArg Value.bool aa)<| .T (fun k=>v_not rfl (k.eq1 1 4 rfl)) .nil
 refine aftI ag aq ab fun a6 ah ak av ae aw al=>?_
 have aO:=al.f1 h8
 have aP:=al.g 2 5
 have ax:=ac.new_ aw
 refine aj _ _<| wf aP<| ws ?_
 refine au _ _<| wk fun a7 ay=>?_
 refine wp_g0 [true,true,true,true] [] 9
  [ve (.pointer (some ⟨q9,1,none⟩)),ve (sv Aa ma ca),
  (OP ah.heap.size 59 .u32 ma),
  (OP ah.heap.size 59 .u32 ma)] ak (.eq (.eq (.cons (fun _ _ _ n ⟨_,_,e,h⟩=>⟨_,_,e,h.new_ n⟩) (.cons (fun _ _ _ n ⟨_,_,e,h⟩=>⟨_,_,e,h.new_ n⟩) .nil)))) ?_ ?_
 refine .F aO<| .J 0 isAgg24 ax ?_
 refine .o1 (tkC rfl (noG rfl) rfl fun _ w hn k=>(by
  refine ⟨#[sv Aa ma ca],_,args1 (k.eq1 1 7 rfl),fun w=>by kernel_rfl,clone32_c _ ma _ _ (hra.new_ (ae.transNew hn)) (by first|omega|(simp only [List.length_nil,List.length_take,List.length_drop]; omega)|(simp only [List.length_cons,List.length_nil]; omega)),?_⟩
  rintro e w' ⟨A1,c2,rfl,hmo0,hm⟩
  exact⟨_,rfl,hm,⟨A1,c2,rfl,(hmo0.more hn.size)⟩⟩)) ?_
 refine .o1 (tk rfl rfl fun _ w hn k=>(by
  obtain⟨A5,c6,e7,aR⟩:=k.G 2 8
  exact⟨_,v_assign rfl e7,⟨A5,c6,rfl,aR⟩⟩)) ?_
 exact .nil
 refine aftI ak av ae fun aS a8 aW az aA aX aB=>?_
 obtain⟨ai,ad,am,aC⟩:=aB.G 3 2
 have am:aS.eval (.tmp 2)=sv ai ma ad:=am
 have aD:=aC.more ae.size
 refine ay _ _<| wp_ret (ret_k az (v:=sv ai ma ad) (res_t rfl am _) ?_)
 have hg:=canon_good (b:=a) ha
 rw [aa] at hg
 exact⟨ai,ad,congrArg (fun l=>Ending.returned (sv ai l ad)) hg.symm,by rw [hg]; exact aD,aA⟩
 refine wA tr3 [] 9 [ve (.agg #[.bool a,sv Aa ma ca]),vF,vT] ag ?_ ?_
 exact .L6 h8 ac<| .o1 (ck rfl rfl rfl (fun _ w hn k=>⟨#[.agg #[.bool a,sv Aa ma ca]],args1 (k.eq1 0 3 rfl),fun _=>by kernel_rfl,bmay_c a _ ma _ _ (hra.new_ (ab.transNew hn))⟩) fun _=>congrArg Value.bool aa)<| .T (fun k=>v_not rfl (k.eq1 1 4 rfl)) .nil
 refine aftI ag aq ab fun a9 ba an aE aF aG ao=>?_
 have bb:=ao.f1 h8
 have aT:=ao.g 2 5
 have aY:=ac.new_ aG
 refine aj _ _<| wt aT<| wk fun bd aH=>?_
 refine wA tr1 [] 9 [ve (sv none ([]) 0)] an ?_ ?_
 exact .c .nil
 refine aftI an aE aF fun be bf aZ aI aJ a1 aK=>?_
 have aU:=aK.g 0 2
 refine aH _ _<| wp_ret (ret_k aI (v:=sv none ([]) 0) (res_t rfl aU _) ?_)
 have hg:=canon_good (b:=a) ha
 rw [aa] at hg
 exact⟨none,0,congrArg (fun l=>Ending.returned (sv none l 0)) hg.symm,by rw [hg]; exact (SOwn.nil _ _ _ _),aJ⟩
def bmade_c_P (Am:Option Addr) (m:List Nat) (cm:Nat) (d:Bool) (w:World) (en:Ending) (w':World):Prop:=∃ (Ar0:Option Addr) (cr0:Nat),en=.returned (.agg #[.bool (decide (sgn d (val m) < 0)),sv Ar0 (canon (sgn d (val m)).natAbs) cr0])∧SRow w' .u32 Ar0 (canon (sgn d (val m)).natAbs) cr0∧New w w'
theorem bmade_c (Am:Option Addr) (m:List Nat) (cm:Nat) (d:Bool) (w:World) (hrm:SRow w .u32 Am m cm) (hl:Limbs m):Calls prog 78 #[sv Am m cm,.bool d] w (bmade_c_P Am m cm d w):=by
 refine enter_abs func78 rfl fun a0 ah bh hp=>?_
 have ah:a0.tmps.size=14:=ah
 have aC:New w w:=Upd.refl _ _
 have hp0:a0.eval (.tmp 0)=sv Am m cm:=hp 0 _ rfl
 have hp1:a0.eval (.tmp 1)=.bool d:=hp 1 _ rfl
 refine wk fun K1 bi=>?_
 refine wB tr1 [] [] 14 [IsNew w 26 [.bool false,sv none ([]) 0]] [0] ah ?_ heN ?_
 exact .Y .nil
 refine aftI ah bh aC fun a2 w3 aD bj aj bA ak=>?_
 have⟨h8,h9⟩:=ak.f2 hp0 hp1
 obtain⟨bB,bk,aJ,aK⟩:=ak.G 0 4
 have bu:=Nat.le_trans aC.size aJ
 refine bi _ _ <| wk fun bC aL=>?_
 refine wp_g0 [true,true,false] [(2,true)] 14
  [ve (sv Am m cm),
  (RP .u32 (canon (val m))),vt] aD (.eq (.cons (fun _ _ _ n ⟨_,_,e,h⟩=>⟨_,_,e,h.new_ n⟩) (.tt .nil))) ?_ ?_
 refine .M h8 ?_
 refine .o1 (tkC rfl (noG rfl) rfl fun _ w hn k=>(by
  refine ⟨#[sv Am m cm],_,args1 (k.eq1 0 5 rfl),fun w=>by kernel_rfl,btrim_c _ m _ _ (hrm.new_ (aj.transNew hn)) hl,?_⟩
  rintro e w' ⟨A1,c2,rfl,hmo0,hm⟩
  exact⟨_,rfl,hm,⟨A1,c2,rfl,hmo0⟩⟩)) ?_
 exact .off .nil
 refine aftI aD bj aj fun al bD am aM aN aO ae=>?_
 have⟨bE,bl,bm⟩:=ae.f3 h8 h9 bk
 obtain⟨ab,aa,ai,aP⟩:=ae.G 1 6
 have ai:al.eval (.tmp 6)=sv ab (canon (val m)) aa:=ai
 have aQ:=aK.new_ aO
 refine sP ai am aM fun bn an aR ad aE=>?_
 have⟨bo,bp,bF⟩:=ad.q3 bl bm ai
 refine aL _ _ <| wk fun bG aS=>?_
 refine wk fun bH aT=>?_
 refine wA tr3 [] 14 [ve (sv ab (canon (val m)) aa),ve (iv ((canon (val m)).length:Int)),ve (.bool (decide (((canon (val m)).length:Int)=0)))] an ?_ ?_
 exact .M aE<| .T (fun k=>v_lenR rfl elW (k.eq1 0 7 rfl))<| .b 1 (r_eql rfl) .nil
 refine aftI an aR aN fun bI bJ af ao ap aq ag=>?_
 have⟨bq,aF,br⟩:=ag.f3 bo bp aE
 have aG:=ag.g 2 9
 have⟨ar,aU⟩:=nw2 aq aQ aP
 refine aT _ _ ?_
 rcases bc (decide (((canon (val m)).length:Int)=0)) with ac|ac
 have az:=oT ac
 have aV:=hB aG ac
 refine wt aV<| wk fun bK aW=>?_
 refine wA [true,false] [(1,false)] 14 [ve (.agg #[.bool false,sv none ([]) 0]),vt] af ?_ ?_
 exact .Z<| .off .nil
 refine aftI af ao ap fun bL bM bv aX aY aZ au=>?_
 have aH:=au.f1 aF
 have bs:=au.g 0 10
 have a1:=ar.new_ aZ
 refine sS6 aH bs a1 fun bN a3 a4 bw=>?_
 have a6:=aY.tR a4
 refine aW _ _<| wp_ret (ret_k aX (v:=.agg #[.bool false,sv none ([]) 0]) (res_c rfl aH (l_two isAgg26 sizeOf26 a3)) ?_)
 have hz1:(decide (sgn d (val m) < 0))=false:=by rw [made_zero ac]; rfl
 have hz2:canon (sgn d (val m)).natAbs=[]:=by rw [made_zero ac]; exact canon_zero
 exact⟨none,0,by rw [hz1,hz2],by rw [hz2]; exact (SRow.nil _ _),a6⟩
 have az:=oF ac
 have a7:=hB aG ac
 refine wf a7<| ws<| aS _ _<| wk fun bP a8=>?_
 refine wA [true,true,true,false] [(3,false)] 14 [ve (.bool d),ve (sv ab (canon (val m)) aa),ve (.agg #[.bool d,sv ab (canon (val m)) aa]),vt] af ?_ ?_
 exact .M bq<| .M br<| .T (fun k=>v_build (ps:=[(0,.bool d),(1,sv ab (canon (val m)) aa)]) rfl (parts2 (k.eq1 0 11 rfl) (k.eq1 1 12 rfl)) (by kernel_rfl))<| .off .nil
 refine aftI af ao ap fun bQ bR bx a9 ba av aw=>?_
 have aI:=aw.f1 aF
 have bt:=aw.g 2 13
 have⟨ax,bb⟩:=nw2 av ar aU
 refine sS6 aI bt ax fun bS bd ay bz=>?_
 have bf:=bb.fr ax ay
 have bg:=ba.tR ay
 refine a8 _ _<| wp_ret (ret_k a9 (v:=.agg #[.bool d,sv ab (canon (val m)) aa]) (res_c rfl aI (l_two isAgg26 sizeOf26 bd)) ?_)
 have hz1:(decide (sgn d (val m) < 0))=d:=made_nz ac
 have hz2:canon (sgn d (val m)).natAbs=(canon (val m)):=by rw [natAbs_sgn]
 exact⟨ab,aa,by rw [hz1,hz2],by rw [hz2]; exact bf,bg⟩
theorem bcmp_c (Aa:Option Addr) (a:List Nat) (ca:Nat) (Ab:Option Addr) (b:List Nat) (cb:Nat) (w:World) (hra:SRow w .u32 Aa a ca) (hrb:SRow w .u32 Ab b cb) (ha:Limbs a) (hb:Limbs b) (hta:Trim a) (htb:Trim b):Calls prog 138 #[sv Aa a ca,sv Ab b cb] w (IsRet (iv (cmpI (val a) (val b))) w):=by
 refine enter_abs func138 rfl fun a0 au bS hp=>?_
 have au:a0.tmps.size=45:=au
 have bT:New w w:=Upd.refl _ _
 have hp0:a0.eval (.tmp 0)=sv Aa a ca:=hp 0 _ rfl
 have hp1:a0.eval (.tmp 1)=sv Ab b cb:=hp 1 _ rfl
 have hmx:=hra.max
 have hmy:=hrb.max
 refine wk fun K1 bU=>?_
 refine wA tr1 [] 45 [ve (iv 0)] au ?_ ?_
 exact .c .nil
 refine aftI au bS bT fun a2 w3 av a7 aB c4 a8=>?_
 have⟨h8,h9⟩:=a8.f2 hp0 hp1
 refine bU _ _ <| wk fun c5 bf=>?_
 refine wk fun c6 aC=>?_
 rcases bc (decide ((a.length:Int)=(b.length:Int))) with af|af
 have aO:=oT af
 refine wA tr5 [] 45 [ve (sv Aa a ca),ve (iv (a.length:Int)),ve (sv Ab b cb),ve (iv (b.length:Int)),vF] av ?_ ?_
 exact .M h8<| .T (fun k=>v_lenR rfl elW (k.eq1 0 6 rfl))<| .M h9<| .T (fun k=>v_lenR rfl elW (k.eq1 2 8 rfl))<| .T (fun k=>v_bin rfl (k.eq1 1 7 rfl) (k.eq1 3 9 rfl) (fun _=>rfl) (r_neq af)) .nil
 refine aftI av a7 aB fun c8 c9 aD bg bh cL aq=>?_
 have⟨a9,bV⟩:=aq.f2 h8 h9
 have bW:=aq.g 4 10
 refine aC _ _<| wf bW<| ws ?_
 refine bf _ _<| wk fun da bi=>wk fun db bj=>?_
 refine wA tr4 [] 45 [ve (sv Aa a ca),ve (iv (a.length:Int)),ve (iv ((a.length:Int) - 1)),ve (iv ((a.length:Int) - 1))] aD ?_ ?_
 exact .M a9<| .T (fun k=>v_lenR rfl elW (k.eq1 0 17 rfl))<| .R (fun k=>v_bin rfl (k.eq1 1 18 rfl) rfl (fun _=>rfl) (r_sub rfl (by omega))) (fun _=>rfl)<| .B 2 .nil
 refine aftI aD bg bh fun dc dd bk bl bm cM ar=>?_
 have⟨bX,bY⟩:=ar.f2 a9 bV
 have bZ:=ar.g 3 5
 refine bj _ _<| wb<| wp_loopX (fun (mm:Nat) (aa:Act) (ww:World)=>∃ (n:Nat),mm=n∧aa.tmps.size=45∧aa.defers=[]∧New w ww∧aa.eval (.tmp 5)=iv ((n:Int) - 1)∧aa.eval (.tmp 0)=sv Aa a ca∧aa.eval (.tmp 1)=sv Ab b cb∧(n≤a.length)∧(Above a b n)) (fun mm=>mm) ⟨_,⟨a.length,rfl,bk,bl,bm,bZ,bX,bY,(Nat.le_refl _),(above_of_eqlen (by omega))⟩⟩ ?_
 rintro mm de df ⟨n,hmm,ai,aE,aF,aw,ba,bb,hn,hab⟩
 refine wk fun dg bn=>wk fun dh aG=>?_
 rcases bc (decide (((n:Int) - 1) < 0)) with ag|ag
 have aP:=oT ag
 refine wA tr2 [] 45 [ve (iv ((n:Int) - 1)),vF] ai ?_ ?_
 exact .M aw<| .b 0 (r_geqK ag) .nil
 refine aftI ai aE aF fun di dj aH bo bp cN aj=>?_
 have⟨dk,dl,dm⟩:=aj.f3 aw ba bb
 have b0:=aj.g 1 21
 refine aG _ _<| wf b0<| wp_exit ?_
 refine bi _ _<| wk fun dn bq=>?_
 refine wA tr1 [] 45 [ve (iv 0)] aH ?_ ?_
 exact .c .nil
 refine aftI aH bo bp fun dp dq cO br bs cP bt=>?_
 have b1:=bt.g 0 4
 refine bq _ _<| wp_ret (ret_k br (v:=iv 0) (res_t rfl b1 _) ?_)
 exact⟨by rw [cmp_same hab (by omega)],bs⟩
 have aP:=oF ag
 refine wA tr2 [] 45 [ve (iv ((n:Int) - 1)),vT] ai ?_ ?_
 exact .M aw<| .b 0 (r_geqK ag) .nil
 refine aftI ai aE aF fun dr ds ak aI ad cQ al=>?_
 have⟨ah,ax,ay⟩:=al.f3 aw ba bb
 have b2:=al.g 1 21
 refine aG _ _<| wt b2<| ws ?_
 refine bn _ _<| wk fun dt bu=>wb ?_
 refine wk fun du aJ=>?_
 rcases bc (decide (((a.getD (((n:Int) - 1:Int).toNat) 0:Nat):Int)=((b.getD (((n:Int) - 1:Int).toNat) 0:Nat):Int))) with ac|ac
 have aQ:=oT ac
 have hai:=ha.at ((n:Int) - 1).toNat
 have hbi:=hb.at ((n:Int) - 1).toNat
 refine wp_g0 (.replicate 9 true) [] 45
  [ve (sv Aa a ca),ve (iv ((n:Int) - 1)),
  (EP (.int .u32 ((a.getD (((n:Int) - 1:Int).toNat) 0:Nat):Int))),ve (.int .u32 ((a.getD (((n:Int) - 1:Int).toNat) 0:Nat):Int)),ve (sv Ab b cb),ve (iv ((n:Int) - 1)),
  (EP (.int .u32 ((b.getD (((n:Int) - 1:Int).toNat) 0:Nat):Int))),ve (.int .u32 ((b.getD (((n:Int) - 1:Int).toNat) 0:Nat):Int)),vF] ak (.eq (.eq (.cons (fun _ _ _ n ⟨_,_,e,h⟩=>⟨_,_,e,h.new_ n⟩) (.eq (.eq (.eq (.cons (fun _ _ _ n ⟨_,_,e,h⟩=>⟨_,_,e,h.new_ n⟩) (.eq (.eq .nil))))))))) ?_ ?_
 refine .M ax<| .M ah ?_
 refine .o1 (tk rfl rfl fun _ w hn k=>(by
  exact x_eaddr (k:=.u32) rfl elW (k.eq1 0 24 rfl) (k.eq1 1 25 rfl) (hra.new_ (ad.transNew hn)) (by omega) fun b7 b8 hme=>⟨b7,b8,rfl,hme⟩)) ?_
 refine .o1 (tk rfl rfl fun _ w hn k=>(by
  obtain⟨dv,dw,b9,bv⟩:=k.G 2 26
  exact⟨_,v_load rfl b9 (l_one isAgg59 bv.1),rfl⟩)) ?_
 refine .M ay<| .M ah ?_
 refine .o1 (tk rfl rfl fun _ w hn k=>(by
  exact x_eaddr (k:=.u32) rfl elW (k.eq1 4 28 rfl) (k.eq1 5 29 rfl) (hrb.new_ (ad.transNew hn)) (by omega) fun cc cd hme=>⟨cc,cd,rfl,hme⟩)) ?_
 refine .o1 (tk rfl rfl fun _ w hn k=>(by
  obtain⟨dx,dy,ce,bw⟩:=k.G 6 30
  exact⟨_,v_load rfl ce (l_one isAgg59 bw.1),rfl⟩)) ?_
 exact .T (fun k=>v_bin rfl (k.eq1 3 27 rfl) (k.eq1 7 31 rfl) (fun _=>rfl) (r_neq ac)) .nil
 refine aftI ak aI ad fun dz dA aK bx bz cR am=>?_
 have⟨bd,cf,ch⟩:=am.f3 ah ax ay
 have ci:=am.g 8 32
 refine aJ _ _<| wf ci<| ws ?_
 refine bu _ _<| wA [true,true,false] [(2,true)] 45 [ve (iv ((n:Int) - 1)),ve (iv (((n:Int) - 1) - 1)),vt] aK ?_ ?_
 exact .M bd<| .R (fun k=>v_bin rfl (k.eq1 0 22 rfl) rfl (fun _=>rfl) (r_sub rfl (by omega))) (fun _=>rfl)<| .off .nil
 refine aftI aK bx bz fun be dB aL bA aR cS an=>?_
 have⟨dC,cj,bB⟩:=an.f3 bd cf ch
 have aM:=an.g 1 23
 refine sP aM aL bA fun bC aS aT ab bF=>?_
 have⟨bD,bE,cT⟩:=ab.q3 cj bB aM
 refine st_nil ?_
 refine then_n ?_
 exact⟨_,⟨n - 1,rfl,aS,aT,aR,(bF.trans (congrArg (Value.int .i64) (by omega))),bD,bE,(by omega),(above_dn1 hab (by omega) ac)⟩,(by omega)⟩
 have aQ:=oF ac
 have hai:=ha.at ((n:Int) - 1).toNat
 have hbi:=hb.at ((n:Int) - 1).toNat
 refine wp_g0 (.replicate 9 true) [] 45
  [ve (sv Aa a ca),ve (iv ((n:Int) - 1)),
  (EP (.int .u32 ((a.getD (((n:Int) - 1:Int).toNat) 0:Nat):Int))),ve (.int .u32 ((a.getD (((n:Int) - 1:Int).toNat) 0:Nat):Int)),ve (sv Ab b cb),ve (iv ((n:Int) - 1)),
  (EP (.int .u32 ((b.getD (((n:Int) - 1:Int).toNat) 0:Nat):Int))),ve (.int .u32 ((b.getD (((n:Int) - 1:Int).toNat) 0:Nat):Int)),vT] ak (.eq (.eq (.cons (fun _ _ _ n ⟨_,_,e,h⟩=>⟨_,_,e,h.new_ n⟩) (.eq (.eq (.eq (.cons (fun _ _ _ n ⟨_,_,e,h⟩=>⟨_,_,e,h.new_ n⟩) (.eq (.eq .nil))))))))) ?_ ?_
 refine .M ax<| .M ah ?_
 refine .o1 (tk rfl rfl fun _ w hn k=>(by
  exact x_eaddr (k:=.u32) rfl elW (k.eq1 0 24 rfl) (k.eq1 1 25 rfl) (hra.new_ (ad.transNew hn)) (by omega) fun cp cq hme=>⟨cp,cq,rfl,hme⟩)) ?_
 refine .o1 (tk rfl rfl fun _ w hn k=>(by
  obtain⟨dD,dE,cr,bG⟩:=k.G 2 26
  exact⟨_,v_load rfl cr (l_one isAgg59 bG.1),rfl⟩)) ?_
 refine .M ay<| .M ah ?_
 refine .o1 (tk rfl rfl fun _ w hn k=>(by
  exact x_eaddr (k:=.u32) rfl elW (k.eq1 4 28 rfl) (k.eq1 5 29 rfl) (hrb.new_ (ad.transNew hn)) (by omega) fun cs ct hme=>⟨cs,ct,rfl,hme⟩)) ?_
 refine .o1 (tk rfl rfl fun _ w hn k=>(by
  obtain⟨dF,dG,cu,bH⟩:=k.G 6 30
  exact⟨_,v_load rfl cu (l_one isAgg59 bH.1),rfl⟩)) ?_
 exact .T (fun k=>v_bin rfl (k.eq1 3 27 rfl) (k.eq1 7 31 rfl) (fun _=>rfl) (r_neq ac)) .nil
 refine aftI ak aI ad fun cU cV az aU ao cF ae=>?_
 have⟨aN,bI,bJ⟩:=ae.f3 ah ax ay
 have bK:=ae.g 8 32
 refine aJ _ _<| wt bK<| wk fun cW aV=>?_
 have hai:=ha.at ((n:Int) - 1).toNat
 have hbi:=hb.at ((n:Int) - 1).toNat
 refine wp_g0 (.replicate 13 true) [] 45
  [ve (sv Aa a ca),ve (iv ((n:Int) - 1)),
  (EP (.int .u32 ((a.getD (((n:Int) - 1:Int).toNat) 0:Nat):Int))),ve (.int .u32 ((a.getD (((n:Int) - 1:Int).toNat) 0:Nat):Int)),ve (iv ((a.getD (((n:Int) - 1:Int).toNat) 0:Nat):Int)),ve (sv Ab b cb),ve (iv ((n:Int) - 1)),
  (EP (.int .u32 ((b.getD (((n:Int) - 1:Int).toNat) 0:Nat):Int))),ve (.int .u32 ((b.getD (((n:Int) - 1:Int).toNat) 0:Nat):Int)),ve (iv ((b.getD (((n:Int) - 1:Int).toNat) 0:Nat):Int)),ve (iv (((a.getD (((n:Int) - 1:Int).toNat) 0:Nat):Int) - ((b.getD (((n:Int) - 1:Int).toNat) 0:Nat):Int))),ve (iv (cmpI1 (((a.getD (((n:Int) - 1:Int).toNat) 0:Nat):Int) - ((b.getD (((n:Int) - 1:Int).toNat) 0:Nat):Int)))),ve (iv (cmpI1 (((a.getD (((n:Int) - 1:Int).toNat) 0:Nat):Int) - ((b.getD (((n:Int) - 1:Int).toNat) 0:Nat):Int))))] az (.eq (.eq (.cons (fun _ _ _ n ⟨_,_,e,h⟩=>⟨_,_,e,h.new_ n⟩) (.eq (.eq (.eq (.eq (.cons (fun _ _ _ n ⟨_,_,e,h⟩=>⟨_,_,e,h.new_ n⟩) (.eq (.eq (.eq (.eq (.eq .nil))))))))))))) ?_ ?_
 refine .M bI<| .M aN ?_
 refine .o1 (tk rfl rfl fun _ w hn k=>(by
  exact x_eaddr (k:=.u32) rfl elW (k.eq1 0 33 rfl) (k.eq1 1 34 rfl) (hra.new_ (ao.transNew hn)) (by omega) fun cz cA hme=>⟨cz,cA,rfl,hme⟩)) ?_
 refine .o1 (tk rfl rfl fun _ w hn k=>(by
  obtain⟨dH,dI,cB,bL⟩:=k.G 2 35
  exact⟨_,v_load rfl cB (l_one isAgg59 bL.1),rfl⟩)) ?_
 refine .R (fun k=>v_conv rfl (k.eq1 3 36 rfl) (n_conv (by kernel_rfl) (by kernel_rfl) (by kernel_rfl) (IntWalk.i64_in _ (by omega)))) (fun _=>rfl)<| .M bJ<| .M aN ?_
 refine .o1 (tk rfl rfl fun _ w hn k=>(by
  exact x_eaddr (k:=.u32) rfl elW (k.eq1 5 38 rfl) (k.eq1 6 39 rfl) (hrb.new_ (ao.transNew hn)) (by omega) fun cC cD hme=>⟨cC,cD,rfl,hme⟩)) ?_
 refine .o1 (tk rfl rfl fun _ w hn k=>(by
  obtain⟨dJ,dK,cE,bM⟩:=k.G 7 40
  exact⟨_,v_load rfl cE (l_one isAgg59 bM.1),rfl⟩)) ?_
 exact .R (fun k=>v_conv rfl (k.eq1 8 41 rfl) (n_conv (by kernel_rfl) (by kernel_rfl) (by kernel_rfl) (IntWalk.i64_in _ (by omega)))) (fun _=>rfl)<| .R (fun k=>v_bin rfl (k.eq1 4 37 rfl) (k.eq1 9 42 rfl) (fun _=>rfl) (r_sub rfl (by omega))) (fun _=>rfl)<| .C 10 (fun p=>bsign_c (((a.getD (((n:Int) - 1:Int).toNat) 0:Nat):Int) - ((b.getD (((n:Int) - 1:Int).toNat) 0:Nat):Int)) _)<| .B 11 .nil
 refine aftI az aU ao fun cX cY cG aW aX cH aY=>?_
 have bN:=aY.g 12 4
 refine aV _ _<| wp_ret (ret_k aW (v:=iv (cmpI1 (((a.getD (((n:Int) - 1:Int).toNat) 0:Nat):Int) - ((b.getD (((n:Int) - 1:Int).toNat) 0:Nat):Int)))) (res_t rfl bN _) ?_)
 exact⟨congrArg (fun z=>Ending.returned (iv z)) (cmp_at ha hb hab (by omega) ac),aX⟩
 have aO:=oF af
 refine wA tr5 [] 45 [ve (sv Aa a ca),ve (iv (a.length:Int)),ve (sv Ab b cb),ve (iv (b.length:Int)),vT] av ?_ ?_
 exact .M h8<| .T (fun k=>v_lenR rfl elW (k.eq1 0 6 rfl))<| .M h9<| .T (fun k=>v_lenR rfl elW (k.eq1 2 8 rfl))<| .T (fun k=>v_bin rfl (k.eq1 1 7 rfl) (k.eq1 3 9 rfl) (fun _=>rfl) (r_neq af)) .nil
 refine aftI av a7 aB fun cZ c0 aA aZ a1 cI ap=>?_
 have⟨bO,bP⟩:=ap.f2 h8 h9
 have bQ:=ap.g 4 10
 refine aC _ _<| wt bQ<| wk fun c1 a3=>?_
 refine wA tr7 [] 45 [ve (sv Aa a ca),ve (iv (a.length:Int)),ve (sv Ab b cb),ve (iv (b.length:Int)),ve (iv ((a.length:Int) - (b.length:Int))),ve (iv (cmpI1 ((a.length:Int) - (b.length:Int)))),ve (iv (cmpI1 ((a.length:Int) - (b.length:Int))))] aA ?_ ?_
 exact .M bO<| .T (fun k=>v_lenR rfl elW (k.eq1 0 11 rfl))<| .M bP<| .T (fun k=>v_lenR rfl elW (k.eq1 2 13 rfl))<| .R (fun k=>v_bin rfl (k.eq1 1 12 rfl) (k.eq1 3 14 rfl) (fun _=>rfl) (r_sub rfl (by omega))) (fun _=>rfl)<| .C 4 (fun p=>bsign_c ((a.length:Int) - (b.length:Int)) _)<| .B 5 .nil
 refine aftI aA aZ a1 fun c2 c3 cJ a4 a5 cK a6=>?_
 have bR:=a6.g 6 4
 refine a3 _ _<| wp_ret (ret_k a4 (v:=iv (cmpI1 ((a.length:Int) - (b.length:Int)))) (res_t rfl bR _) ?_)
 exact⟨congrArg (fun z=>Ending.returned (iv z)) (cmp_len ha hb hta htb (by omega)),a5⟩
theorem bCmp_c (a:Bool) (Aa:Option Addr) (ma:List Nat) (ca:Nat) (b:Bool) (Ab:Option Addr) (mb:List Nat) (cb:Nat) (w:World) (hra:SRow w .u32 Aa ma ca) (hrb:SRow w .u32 Ab mb cb) (ha:Limbs ma) (hb:Limbs mb) (hsa:ma.length≤1000000) (hsb:mb.length≤1000000):Calls prog 135 #[.agg #[.bool a,sv Aa ma ca],.agg #[.bool b,sv Ab mb cb]] w (IsRet (iv (cmpZ (goodI a ma) (goodI b mb))) w):=by
 refine enter_abs func135 rfl fun a0 aB cp hp=>?_
 have aB:a0.tmps.size=35:=aB
 have aQ:New w w:=Upd.refl _ _
 have hp0:a0.eval (.tmp 0)=.agg #[.bool a,sv Aa ma ca]:=hp 0 _ rfl
 have hp1:a0.eval (.tmp 1)=.agg #[.bool b,sv Ab mb cb]:=hp 1 _ rfl
 refine wk fun K1 cq=>?_
 refine wB tr3 [] [] 35 [IsNew w 26 [.bool a,sv Aa ma ca],IsNew w 26 [.bool b,sv Ab mb cb],ve (iv 0)] [0,1] aB ?_ heN ?_
 exact .X hp0<| .X hp1<| .c .nil
 refine aftI aB cp aQ fun a2 w3 bD cr aq dD bE=>?_
 obtain⟨q9,h8,bI,aR⟩:=bE.G 0 2
 obtain⟨dE,bF,bJ,aS⟩:=bE.G 1 3
 have dd:=Nat.le_trans aQ.size bI
 have de:=Nat.le_trans aQ.size bJ
 refine cq _ _ <| wk fun dF bK=>?_
 refine wA tr6 [] 35 [ve (.agg #[.bool a,sv Aa ma ca]),ve (.bool (mayB a ma && a)),ve (.agg #[.bool b,sv Ab mb cb]),ve (.bool (mayB b mb && b)),ve (.bool (mayB a ma && a)),ve (.bool (mayB b mb && b))] bD ?_ ?_
 exact .L6 h8 aR<| .C 0 (fun p=>bneg_c a _ ma _ _ (hra.new_ (aq.transNew p)))<| .L6 bF aS<| .C 2 (fun p=>bneg_c b _ mb _ _ (hrb.new_ (aq.transNew p)))<| .B 1<| .B 3 .nil
 refine aftI bD cr aq fun dG dH ae ar au aT ak=>?_
 have⟨aU,aV⟩:=ak.f2 h8 bF
 have bG:=ak.g 4 5
 have aW:=ak.g 5 6
 have⟨av,aw⟩:=nw2 aT aR aS
 refine bK _ _ <| wk fun dI bL=>?_
 refine wb<| wk fun dJ ax=>?_
 rcases bc ((mayB a ma && a)) with aa|aa
 have al:=hB bG aa
 rcases bc ((mayB b mb && b)) with ac|ac
 have aX:=hB aW ac
 refine wA tr6 [] 35 [vT,vT,vT,vF,vF,vF] ae ?_ ?_
 exact .M al<| .N 0<| .gm (fun k=>k.eq1 1 13 rfl) (fun k=>k.fx 6 aX)<| .V (fun p k=>v_not rfl (k.eq1 2 14 rfl))<| .T (fun k=>v_pickT rfl (k.eq1 1 13 rfl) (k.eq1 3 15 rfl))<| .B 4 .nil
 refine aftI ae ar au fun dK dL aY bM bN aZ ai=>?_
 have⟨ct,cu,bH,cv⟩:=ai.f4 aU aV al aX
 have cw:=ai.g 5 11
 have⟨bO,bP⟩:=nw2 aZ av aw
 refine ax _ _<| wf cw<| wk fun dM bQ=>?_
 refine wA tr6 [] 35 [vT,vT,vT,vF,vF,vF] aY ?_ ?_
 exact .M cv<| .N 0<| .gm (fun k=>k.eq1 1 19 rfl) (fun k=>k.fx 5 bH)<| .V (fun p k=>v_not rfl (k.eq1 2 20 rfl))<| .T (fun k=>v_pickT rfl (k.eq1 1 19 rfl) (k.eq1 3 21 rfl))<| .B 4 .nil
 refine aftI aY bM bN fun dN dO a1 bR bS a3 am=>?_
 have⟨cx,cy,cz⟩:=am.f3 ct cu bH
 have cA:=am.g 5 17
 have⟨bT,bU⟩:=nw2 a3 bO bP
 refine bQ _ _<| wf cA<| wk fun dP bV=>?_
 refine wA tr2 [] 35 [vT,vT] a1 ?_ ?_
 exact .M cz<| .B 0 .nil
 refine aftI a1 bR bS fun dQ aC a4 bW ay a5 az=>?_
 have⟨cB,cC⟩:=az.f2 cx cy
 have cD:=az.g 1 23
 have⟨bX,bY⟩:=nw2 a5 bT bU
 refine bV _ _<| wt cD<| wk fun dR bZ=>?_
 refine wp_g0 [true,true,true,true,true,true] [] 35
  [ve (.agg #[.bool b,sv Ab mb cb]),
  (OP aC.heap.size 59 .u32 (canon (goodI b mb).natAbs)),ve (.agg #[.bool a,sv Aa ma ca]),
  (OP aC.heap.size 59 .u32 (canon (goodI a ma).natAbs)),ve (iv (cmpI (val (canon (goodI b mb).natAbs)) (val (canon (goodI a ma).natAbs)))),ve (iv (cmpI (val (canon (goodI b mb).natAbs)) (val (canon (goodI a ma).natAbs))))] a4 (.eq (.cons (fun _ _ _ n ⟨_,_,e,h⟩=>⟨_,_,e,h.new_ n⟩) (.eq (.cons (fun _ _ _ n ⟨_,_,e,h⟩=>⟨_,_,e,h.new_ n⟩) (.eq (.eq .nil)))))) ?_ ?_
 refine .L6 cC bY ?_
 refine .o1 (tkC rfl (noG rfl) rfl fun _ w hn k=>(by
  refine ⟨#[.agg #[.bool b,sv Ab mb cb]],_,args1 (k.eq1 0 25 rfl),fun w=>by kernel_rfl,bmag_c b _ mb _ _ (hrb.new_ (ay.transNew hn)) hb (by first|omega|(simp only [List.length_nil,List.length_take,List.length_drop]; omega)|(simp only [List.length_cons,List.length_nil]; omega)),?_⟩
  rintro e w' ⟨A1,c2,rfl,hmo0,hm⟩
  exact⟨_,rfl,hm,⟨A1,c2,rfl,(hmo0.more hn.size)⟩⟩)) ?_
 refine .L6 cB bX ?_
 refine .o1 (tkC rfl (noG rfl) rfl fun _ w hn k=>(by
  refine ⟨#[.agg #[.bool a,sv Aa ma ca]],_,args1 (k.eq1 2 27 rfl),fun w=>by kernel_rfl,bmag_c a _ ma _ _ (hra.new_ (ay.transNew hn)) ha (by first|omega|(simp only [List.length_nil,List.length_take,List.length_drop]; omega)|(simp only [List.length_cons,List.length_nil]; omega)),?_⟩
  rintro e w' ⟨A5,c6,rfl,hmo0,hm⟩
  exact⟨_,rfl,hm,⟨A5,c6,rfl,(hmo0.more hn.size)⟩⟩)) ?_
 refine .o1 (tkC rfl (noG rfl) rfl fun _ w hn k=>(by
  obtain⟨A9,cE,cF,b0⟩:=k.G 1 26
  obtain⟨cG,cH,cI,b1⟩:=k.G 3 28
  refine ⟨#[sv A9 (canon (goodI b mb).natAbs) cE,sv cG (canon (goodI a ma).natAbs) cH],_,args2 cF cI,fun w=>by kernel_rfl,bcmp_c _ (canon (goodI b mb).natAbs) _ _ (canon (goodI a ma).natAbs) _ _ b0.row b1.row (limbs_canon _) (limbs_canon _) (trim_canon _) (trim_canon _),?_⟩
  rintro e w' ⟨rfl,hm⟩
  exact⟨_,rfl,hm,rfl⟩)) ?_
 exact .B 4 .nil
 refine aftI a4 bW ay fun dS dT df b2 b3 dg b4=>?_
 have cJ:=b4.g 5 4
 refine bZ _ _<| wp_ret (ret_k b2 (v:=iv (cmpI (val (canon (goodI b mb).natAbs)) (val (canon (goodI a ma).natAbs)))) (res_t rfl cJ _) ?_)
 rw [← neg_good ha] at aa
 rw [← neg_good hb] at ac
 exact⟨congrArg (fun z=>Ending.returned (iv z)) (by rw [val_canon,val_canon]; exact cmpZ_nn (oT aa) (oT ac)),b3⟩
 have a6:=hB aW ac
 refine wA tr6 [] 35 [vT,vT,vF,vT,vT,vT] ae ?_ ?_
 exact .M al<| .N 0<| .gm (fun k=>k.eq1 1 13 rfl) (fun k=>k.fx 6 a6)<| .V (fun p k=>v_not rfl (k.eq1 2 14 rfl))<| .T (fun k=>v_pickT rfl (k.eq1 1 13 rfl) (k.eq1 3 15 rfl))<| .B 4 .nil
 refine aftI ae ar au fun dU dV a7 b5 bd a8 aj=>?_
 have⟨dW,dX,dY,dZ⟩:=aj.f4 aU aV al a6
 have b6:=aj.g 5 11
 have⟨cY,cZ⟩:=nw2 a8 av aw
 refine ax _ _<| wt b6<| wk fun dh be=>?_
 refine wA tr1 [] 35 [ve (iv (-1))] a7 ?_ ?_
 exact .c .nil
 refine aftI a7 b5 bd fun di dj c0 bf bg c1 bh=>?_
 have b7:=bh.g 0 4
 refine be _ _<| wp_ret (ret_k bf (v:=iv (-1)) (res_t rfl b7 _) ?_)
 rw [← neg_good ha] at aa
 rw [← neg_good hb] at ac
 exact⟨by rw [show cmpZ (goodI a ma) (goodI b mb) = -1 from cmpZ_np (oT aa) (oF ac)],bg⟩
 have aD:=hB bG aa
 refine wA tr6 [] 35 [vF,vF,vU,vU,vF,vF] ae ?_ ?_
 exact .M aD<| .N 0<| .S<| .S<| .T (fun k=>v_pickF rfl (k.eq1 1 13 rfl) rfl)<| .B 4 .nil
 refine aftI ae ar au fun dk dl af aE aF aG ad=>?_
 have⟨a9,ba,aA,bb⟩:=ad.f4 aU aV aD aW
 have b8:=ad.g 5 11
 have⟨aH,aI⟩:=nw2 aG av aw
 refine ax _ _<| wf b8<| wk fun dm aJ=>?_
 rcases bc ((mayB b mb && b)) with ab|ab
 have bi:=hB bb ab
 refine wA tr6 [] 35 [vT,vT,vF,vT,vT,vT] af ?_ ?_
 exact .M bi<| .N 0<| .gm (fun k=>k.eq1 1 19 rfl) (fun k=>k.fx 5 aA)<| .V (fun p k=>v_not rfl (k.eq1 2 20 rfl))<| .T (fun k=>v_pickT rfl (k.eq1 1 19 rfl) (k.eq1 3 21 rfl))<| .B 4 .nil
 refine aftI af aE aF fun dn dp aK bj bk aL ag=>?_
 have⟨dq,dr,ds⟩:=ag.f3 a9 ba aA
 have b9:=ag.g 5 17
 have⟨c3,c5⟩:=nw2 aL aH aI
 refine aJ _ _<| wt b9<| wk fun dt bl=>?_
 refine wA tr1 [] 35 [ve (iv 1)] aK ?_ ?_
 exact .c .nil
 refine aftI aK bj bk fun du dv c9 bm bn da bo=>?_
 have cc:=bo.g 0 4
 refine bl _ _<| wp_ret (ret_k bm (v:=iv 1) (res_t rfl cc _) ?_)
 rw [← neg_good ha] at aa
 rw [← neg_good hb] at ab
 exact⟨by rw [show cmpZ (goodI a ma) (goodI b mb)=1 from cmpZ_pn (oF aa) (oT ab)],bn⟩
 have bp:=hB bb ab
 refine wA tr6 [] 35 [vF,vF,vU,vU,vF,vF] af ?_ ?_
 exact .M bp<| .N 0<| .S<| .S<| .T (fun k=>v_pickF rfl (k.eq1 1 19 rfl) rfl)<| .B 4 .nil
 refine aftI af aE aF fun dw dx aM bq br aN ah=>?_
 have⟨cd,ce,cf⟩:=ah.f3 a9 ba aA
 have ch:=ah.g 5 17
 have⟨bs,bt⟩:=nw2 aN aH aI
 refine aJ _ _<| wf ch<| wk fun dy bu=>?_
 refine wA tr2 [] 35 [vF,vF] aM ?_ ?_
 exact .M cf<| .B 0 .nil
 refine aftI aM bq br fun dz an aO bv ao aP ap=>?_
 have⟨ci,cj⟩:=ap.f2 cd ce
 have cl:=ap.g 1 23
 have⟨bw,bx⟩:=nw2 aP bs bt
 refine bu _ _<| wf cl<| ws ?_
 refine bL _ _<| wk fun dA bz=>?_
 refine wp_g0 [true,true,true,true,true,true] [] 35
  [ve (.agg #[.bool a,sv Aa ma ca]),
  (OP an.heap.size 59 .u32 (canon (goodI a ma).natAbs)),ve (.agg #[.bool b,sv Ab mb cb]),
  (OP an.heap.size 59 .u32 (canon (goodI b mb).natAbs)),ve (iv (cmpI (val (canon (goodI a ma).natAbs)) (val (canon (goodI b mb).natAbs)))),ve (iv (cmpI (val (canon (goodI a ma).natAbs)) (val (canon (goodI b mb).natAbs))))] aO (.eq (.cons (fun _ _ _ n ⟨_,_,e,h⟩=>⟨_,_,e,h.new_ n⟩) (.eq (.cons (fun _ _ _ n ⟨_,_,e,h⟩=>⟨_,_,e,h.new_ n⟩) (.eq (.eq .nil)))))) ?_ ?_
 refine .L6 ci bw ?_
 refine .o1 (tkC rfl (noG rfl) rfl fun _ w hn k=>(by
  refine ⟨#[.agg #[.bool a,sv Aa ma ca]],_,args1 (k.eq1 0 30 rfl),fun w=>by kernel_rfl,bmag_c a _ ma _ _ (hra.new_ (ao.transNew hn)) ha (by first|omega|(simp only [List.length_nil,List.length_take,List.length_drop]; omega)|(simp only [List.length_cons,List.length_nil]; omega)),?_⟩
  rintro e w' ⟨cO,cP,rfl,hmo0,hm⟩
  exact⟨_,rfl,hm,⟨cO,cP,rfl,(hmo0.more hn.size)⟩⟩)) ?_
 refine .L6 cj bx ?_
 refine .o1 (tkC rfl (noG rfl) rfl fun _ w hn k=>(by
  refine ⟨#[.agg #[.bool b,sv Ab mb cb]],_,args1 (k.eq1 2 32 rfl),fun w=>by kernel_rfl,bmag_c b _ mb _ _ (hrb.new_ (ao.transNew hn)) hb (by first|omega|(simp only [List.length_nil,List.length_take,List.length_drop]; omega)|(simp only [List.length_cons,List.length_nil]; omega)),?_⟩
  rintro e w' ⟨cQ,cR,rfl,hmo0,hm⟩
  exact⟨_,rfl,hm,⟨cQ,cR,rfl,(hmo0.more hn.size)⟩⟩)) ?_
 refine .o1 (tkC rfl (noG rfl) rfl fun _ w hn k=>(by
  obtain⟨cS,cT,cU,cm⟩:=k.G 1 31
  obtain⟨cV,cW,cX,cn⟩:=k.G 3 33
  refine ⟨#[sv cS (canon (goodI a ma).natAbs) cT,sv cV (canon (goodI b mb).natAbs) cW],_,args2 cU cX,fun w=>by kernel_rfl,bcmp_c _ (canon (goodI a ma).natAbs) _ _ (canon (goodI b mb).natAbs) _ _ cm.row cn.row (limbs_canon _) (limbs_canon _) (trim_canon _) (trim_canon _),?_⟩
  rintro e w' ⟨rfl,hm⟩
  exact⟨_,rfl,hm,rfl⟩)) ?_
 exact .B 4 .nil
 refine aftI aO bv ao fun dB dC db bA bB dc bC=>?_
 have co:=bC.g 5 4
 refine bz _ _<| wp_ret (ret_k bA (v:=iv (cmpI (val (canon (goodI a ma).natAbs)) (val (canon (goodI b mb).natAbs)))) (res_t rfl co _) ?_)
 rw [← neg_good ha] at aa
 rw [← neg_good hb] at ab
 exact⟨congrArg (fun z=>Ending.returned (iv z)) (by rw [val_canon,val_canon]; exact cmpZ_pp (oF aa) (oF ab)),bB⟩
theorem bSame_c (a:Bool) (Aa:Option Addr) (ma:List Nat) (ca:Nat) (b:Bool) (Ab:Option Addr) (mb:List Nat) (cb:Nat) (w:World) (hra:SRow w .u32 Aa ma ca) (hrb:SRow w .u32 Ab mb cb) (ha:Limbs ma) (hb:Limbs mb) (hsa:ma.length≤1000000) (hsb:mb.length≤1000000):Calls prog 106 #[.agg #[.bool a,sv Aa ma ca],.agg #[.bool b,sv Ab mb cb]] w (IsRet (.bool (decide (goodI a ma=goodI b mb))) w):=by
 refine enter_abs func106 rfl fun a0 ab an hp=>?_
 have ab:a0.tmps.size=9:=ab
 have ac:New w w:=Upd.refl _ _
 have hp0:a0.eval (.tmp 0)=.agg #[.bool a,sv Aa ma ca]:=hp 0 _ rfl
 have hp1:a0.eval (.tmp 1)=.agg #[.bool b,sv Ab mb cb]:=hp 1 _ rfl
 refine wk fun K1 ao=>?_
 refine wB tr3 [] [] 9 [IsNew w 26 [.bool a,sv Aa ma ca],IsNew w 26 [.bool b,sv Ab mb cb],vF] [0,1] ab ?_ heN ?_
 exact .X hp0<| .X hp1<| .c .nil
 refine aftI ab an ac fun a2 w3 ad ap aa ay ae=>?_
 obtain⟨q9,h8,af,ag⟩:=ae.G 0 2
 obtain⟨az,aq,ah,ai⟩:=ae.G 1 3
 have au:=Nat.le_trans ac.size af
 have av:=Nat.le_trans ac.size ah
 refine ao _ _ <| wk fun aA aj=>?_
 refine wA tr5 [] 9 [ve (.agg #[.bool a,sv Aa ma ca]),ve (.agg #[.bool b,sv Ab mb cb]),ve (iv (cmpZ (goodI a ma) (goodI b mb))),ve (.bool (decide ((cmpZ (goodI a ma) (goodI b mb))=0))),ve (.bool (decide ((cmpZ (goodI a ma) (goodI b mb))=0)))] ad ?_ ?_
 exact .L6 h8 ag<| .L6 aq ai<| .C2 0 1 (fun n=>bCmp_c a _ ma _ b _ mb _ _ (hra.new_ (aa.transNew n)) (hrb.new_ (aa.transNew n)) ha hb (by first|omega|(simp only [List.length_nil,List.length_take,List.length_drop]; omega)|(simp only [List.length_cons,List.length_nil]; omega)) (by first|omega|(simp only [List.length_nil,List.length_take,List.length_drop]; omega)|(simp only [List.length_cons,List.length_nil]; omega)))<| .b 2 (r_eql rfl)<| .B 3 .nil
 refine aftI ad ap aa fun aB aC aw ak al ax am=>?_
 have ar:=am.g 4 4
 refine aj _ _<| wp_ret (ret_k ak (v:=.bool (decide ((cmpZ (goodI a ma) (goodI b mb))=0))) (res_t rfl ar _) ?_)
 exact⟨by rw [show (decide (cmpZ (goodI a ma) (goodI b mb)=0))=decide (goodI a ma=goodI b mb) from same_cmp _ _],al⟩
def bOf_c_P (n:Int) (w:World) (en:Ending) (w':World):Prop:=∃ (Ar0:Option Addr) (cr0:Nat),en=.returned (.agg #[.bool (decide (n < 0)),sv Ar0 (canon (n).natAbs) cr0])∧SRow w' .u32 Ar0 (canon (n).natAbs) cr0∧New w w'
theorem bOf_c (n:Int) (w:World) (hlo:-9223372036854775808≤n) (hhi:n≤9223372036854775807):Calls prog 41 #[iv n] w (bOf_c_P n w):=by
 refine enter_abs func41 rfl fun a0 ao bC hp=>?_
 have ao:a0.tmps.size=19:=ao
 have aP:New w w:=Upd.refl _ _
 have hp0:a0.eval (.tmp 0)=iv n:=hp 0 _ rfl
 have hmd:0≤n % 18446744073709551616∧n % 18446744073709551616 < 18446744073709551616:=by omega
 refine wk fun K1 bD=>?_
 refine wB tr1 [] [] 19 [IsNew w 26 [.bool false,sv none ([]) 0]] [0] ao ?_ heN ?_
 exact .Y .nil
 refine aftI ao bC aP fun a2 w3 aQ bE a5 b6 aR=>?_
 have h8:=aR.f1 hp0
 obtain⟨b7,h9,a6,a7⟩:=aR.G 0 2
 have b0:=Nat.le_trans aP.size a6
 refine bD _ _ <| wk fun b8 a8=>?_
 refine wA tr3 [] 19 [ve (iv n),ve (.int .u64 (((n % 18446744073709551616).toNat:Nat):Int)),ve (.int .u64 (((n % 18446744073709551616).toNat:Nat):Int))] aQ ?_ ?_
 exact .M h8<| .T (fun k=>v_conv rfl (k.eq1 0 4 rfl) (n_conv (by kernel_rfl) (by kernel_rfl) (by kernel_rfl) (of_conv n)))<| .B 1 .nil
 refine aftI aQ bE a5 fun b9 ca ar a9 ba bb an=>?_
 have⟨aS,bF⟩:=an.f2 h8 h9
 have bG:=an.g 2 3
 have bd:=a7.new_ bb
 refine a8 _ _ <| wk fun cb au=>?_
 refine wk fun cc be=>?_
 refine wA tr2 [] 19 [ve (iv n),ve (.bool (decide (n < 0)))] ar ?_ ?_
 exact .M aS<| .b 0 (r_lssK rfl) .nil
 refine aftI ar a9 ba fun cd aT ak av aw bf al=>?_
 have⟨aU,aV,ap⟩:=al.f3 aS bF bG
 have aW:=al.g 1 7
 have ax:=bd.new_ bf
 refine be _ _ ?_
 rcases bc (decide (n < 0)) with aa|aa
 have aI:=oT aa
 have bg:=hB aW aa
 refine wt bg<| wp_g0 [true,true,false] [(2,true)] 19
  [ve (.int .u64 (((n % 18446744073709551616).toNat:Nat):Int)),ve (.int .u64 (((-n).toNat:Nat):Int)),vt] ak (.eq (.eq (.tt .nil))) ?_ ?_
 exact .M ap<| .T (fun k=>v_negU rfl (k.eq1 0 8 rfl) (of_neg hlo (oT aa)))<| .off .nil
 refine aftI ak av aw fun aX aY ay bh bi bj am=>?_
 have⟨bH,bI,ce⟩:=am.f3 aU aV ap
 have aZ:=am.g 1 9
 have bk:=ax.new_ bj
 refine sP aZ ay bh fun bJ az bl ab a1=>?_
 have⟨bK,bL,cf⟩:=ab.q3 bH bI aZ
 refine au _ _ <| wk fun ch bm=>?_
 refine wp_g0 [true,true,true,true,true,true,true,true,true,false] [(9,false)] 19
  [ve (.int .u64 (((-n).toNat:Nat):Int)),ve (.int .u32 ((((-n).toNat) % 4294967296:Nat):Int)),ve (.int .u64 (((-n).toNat:Nat):Int)),ve (.int .u64 ((((-n).toNat) / 4294967296:Nat):Int)),ve (.int .u32 (((((-n).toNat) / 4294967296) % 4294967296:Nat):Int)),
  (OP aY.heap.size 59 .u32 ([(((-n).toNat) % 4294967296),((((-n).toNat) / 4294967296) % 4294967296)])),ve (iv n),vT,(fun (v_:Value) (W:World)=>∃ (ae:Option Addr) (af:Nat),v_=.agg #[.bool (decide (sgn true (val ([(((-n).toNat) % 4294967296),((((-n).toNat) / 4294967296) % 4294967296)])) < 0)),sv ae (canon (sgn true (val ([(((-n).toNat) % 4294967296),((((-n).toNat) / 4294967296) % 4294967296)]))).natAbs) af]∧SRow W .u32 ae (canon (sgn true (val ([(((-n).toNat) % 4294967296),((((-n).toNat) / 4294967296) % 4294967296)]))).natAbs) af),vt] az (.eq (.eq (.eq (.eq (.eq (.cons (fun _ _ _ n ⟨_,_,e,h⟩=>⟨_,_,e,h.new_ n⟩) (.eq (.eq (.cons (fun _ _ _ n ⟨_,_,e,h⟩=>⟨_,_,e,h.new_ n⟩) (.tt .nil)))))))))) ?_ ?_
 refine .M a1<| .T (fun k=>v_conv rfl (k.eq1 0 10 rfl) (n_conv (by kernel_rfl) (by kernel_rfl) (by kernel_rfl) (n_wrap32 _)))<| .M a1<| .T (fun k=>v_bin rfl (k.eq1 2 12 rfl) rfl (fun _=>rfl) (n_shr ((-n).toNat) 32 (by decide)))<| .T (fun k=>v_conv rfl (k.eq1 3 13 rfl) (n_conv (by kernel_rfl) (by kernel_rfl) (by kernel_rfl) (n_wrap32 _))) ?_
 refine .o1 (tkA rfl (noG rfl) fun _ w hn k=>(by
  exact x_bslice (k:=.u32) (ps:=[(0,.int .u32 ((((-n).toNat) % 4294967296:Nat):Int)),(1,.int .u32 (((((-n).toNat) / 4294967296) % 4294967296:Nat):Int))]) [(((-n).toNat) % 4294967296),((((-n).toNat) / 4294967296) % 4294967296)] rfl (parts2 (k.eq1 1 11 rfl) (k.eq1 4 14 rfl)) elW rfl (by omega) (by omega) (by first|kernel_rfl|(simp only [enc,List.map_cons,List.map_nil,Int.toNat_natCast,Int.toNat_of_nonneg (by omega:(0:Int)≤_)]; kernel_rfl)) fun A1 c2 W' hmo=>⟨A1,c2,rfl,(hmo.more hn.size)⟩)) ?_
 refine .M bK<| .b 6 (r_lssK aa) ?_
 refine .o1 (tkC rfl (noG rfl) rfl fun _ w hn k=>(by
  obtain⟨A5,c6,e7,bM⟩:=k.G 5 15
  refine ⟨#[sv A5 ([(((-n).toNat) % 4294967296),((((-n).toNat) / 4294967296) % 4294967296)]) c6,.bool true],_,args2 e7 (k.eq1 7 17 rfl),fun w=>by kernel_rfl,bmade_c _ ([(((-n).toNat) % 4294967296),((((-n).toNat) / 4294967296) % 4294967296)]) _ true _ bM.row (two_limbs_m _),?_⟩
  rintro e w' ⟨A9,bN,rfl,hmo0,hm⟩
  exact⟨_,rfl,hm,⟨A9,bN,rfl,hmo0⟩⟩)) ?_
 exact .off .nil
 refine aftI az bl bi fun bO ci b1 bn bo bp aA=>?_
 have a3:=aA.f1 bL
 obtain⟨ai,ac,aB,bq⟩:=aA.G 8 18
 have aB:bO.eval (.tmp 18)=.agg #[.bool (decide (sgn true (val ([(((-n).toNat) % 4294967296),((((-n).toNat) / 4294967296) % 4294967296)])) < 0)),sv ai (canon (sgn true (val ([(((-n).toNat) % 4294967296),((((-n).toNat) / 4294967296) % 4294967296)]))).natAbs) ac]:=aB
 have aC:=bk.new_ bp
 refine sS6 a3 aB aC fun cj br aD b2=>?_
 have bt:=bq.fr aC aD
 have bu:=bo.tR aD
 refine bm _ _<| wp_ret (ret_k bn (v:=.agg #[.bool (decide (sgn true (val ([(((-n).toNat) % 4294967296),((((-n).toNat) / 4294967296) % 4294967296)])) < 0)),sv ai (canon (sgn true (val ([(((-n).toNat) % 4294967296),((((-n).toNat) / 4294967296) % 4294967296)]))).natAbs) ac]) (res_c rfl a3 (l_two isAgg26 sizeOf26 br)) ?_)
 have hz1:sgn true (val ([(((-n).toNat) % 4294967296),((((-n).toNat) / 4294967296) % 4294967296)]))=n:=of_yes hlo aa
 exact⟨ai,ac,congrArg (fun z:Int=>Ending.returned (Value.agg #[.bool (decide (z < 0)),sv ai (canon z.natAbs) ac])) hz1,Eq.mp (congrArg (fun z:Int=>SRow _ .u32 ai (canon z.natAbs) ac) hz1) bt,bu⟩
 have aI:=oF aa
 have bv:=hB aW aa
 refine wf bv<| ws<| au _ _<| wk fun cm bw=>?_
 refine wp_g0 [true,true,true,true,true,true,true,true,true,false] [(9,false)] 19
  [ve (.int .u64 (((n % 18446744073709551616).toNat:Nat):Int)),ve (.int .u32 ((((n % 18446744073709551616).toNat) % 4294967296:Nat):Int)),ve (.int .u64 (((n % 18446744073709551616).toNat:Nat):Int)),ve (.int .u64 ((((n % 18446744073709551616).toNat) / 4294967296:Nat):Int)),ve (.int .u32 (((((n % 18446744073709551616).toNat) / 4294967296) % 4294967296:Nat):Int)),
  (OP aT.heap.size 59 .u32 ([(((n % 18446744073709551616).toNat) % 4294967296),((((n % 18446744073709551616).toNat) / 4294967296) % 4294967296)])),ve (iv n),vF,(fun (v_:Value) (W:World)=>∃ (ag:Option Addr) (ah:Nat),v_=.agg #[.bool (decide (sgn false (val ([(((n % 18446744073709551616).toNat) % 4294967296),((((n % 18446744073709551616).toNat) / 4294967296) % 4294967296)])) < 0)),sv ag (canon (sgn false (val ([(((n % 18446744073709551616).toNat) % 4294967296),((((n % 18446744073709551616).toNat) / 4294967296) % 4294967296)]))).natAbs) ah]∧SRow W .u32 ag (canon (sgn false (val ([(((n % 18446744073709551616).toNat) % 4294967296),((((n % 18446744073709551616).toNat) / 4294967296) % 4294967296)]))).natAbs) ah),vt] ak (.eq (.eq (.eq (.eq (.eq (.cons (fun _ _ _ n ⟨_,_,e,h⟩=>⟨_,_,e,h.new_ n⟩) (.eq (.eq (.cons (fun _ _ _ n ⟨_,_,e,h⟩=>⟨_,_,e,h.new_ n⟩) (.tt .nil)))))))))) ?_ ?_
 refine .M ap<| .T (fun k=>v_conv rfl (k.eq1 0 10 rfl) (n_conv (by kernel_rfl) (by kernel_rfl) (by kernel_rfl) (n_wrap32 _)))<| .M ap<| .T (fun k=>v_bin rfl (k.eq1 2 12 rfl) rfl (fun _=>rfl) (n_shr ((n % 18446744073709551616).toNat) 32 (by decide)))<| .T (fun k=>v_conv rfl (k.eq1 3 13 rfl) (n_conv (by kernel_rfl) (by kernel_rfl) (by kernel_rfl) (n_wrap32 _))) ?_
 refine .o1 (tkA rfl (noG rfl) fun _ w hn k=>(by
  exact x_bslice (k:=.u32) (ps:=[(0,.int .u32 ((((n % 18446744073709551616).toNat) % 4294967296:Nat):Int)),(1,.int .u32 (((((n % 18446744073709551616).toNat) / 4294967296) % 4294967296:Nat):Int))]) [(((n % 18446744073709551616).toNat) % 4294967296),((((n % 18446744073709551616).toNat) / 4294967296) % 4294967296)] rfl (parts2 (k.eq1 1 11 rfl) (k.eq1 4 14 rfl)) elW rfl (by omega) (by omega) (by first|kernel_rfl|(simp only [enc,List.map_cons,List.map_nil,Int.toNat_natCast,Int.toNat_of_nonneg (by omega:(0:Int)≤_)]; kernel_rfl)) fun bR bS W' hmo=>⟨bR,bS,rfl,(hmo.more hn.size)⟩)) ?_
 refine .M aU<| .b 6 (r_lssK aa) ?_
 refine .o1 (tkC rfl (noG rfl) rfl fun _ w hn k=>(by
  obtain⟨bT,bU,bV,bx⟩:=k.G 5 15
  refine ⟨#[sv bT ([(((n % 18446744073709551616).toNat) % 4294967296),((((n % 18446744073709551616).toNat) / 4294967296) % 4294967296)]) bU,.bool false],_,args2 bV (k.eq1 7 17 rfl),fun w=>by kernel_rfl,bmade_c _ ([(((n % 18446744073709551616).toNat) % 4294967296),((((n % 18446744073709551616).toNat) / 4294967296) % 4294967296)]) _ false _ bx.row (two_limbs_m _),?_⟩
  rintro e w' ⟨bW,bX,rfl,hmo0,hm⟩
  exact⟨_,rfl,hm,⟨bW,bX,rfl,hmo0⟩⟩)) ?_
 exact .off .nil
 refine aftI ak av aw fun bY cn b3 bz aK bA aE=>?_
 have a4:=aE.f1 aV
 obtain⟨aj,ad,aF,bB⟩:=aE.G 8 18
 have aF:bY.eval (.tmp 18)=.agg #[.bool (decide (sgn false (val ([(((n % 18446744073709551616).toNat) % 4294967296),((((n % 18446744073709551616).toNat) / 4294967296) % 4294967296)])) < 0)),sv aj (canon (sgn false (val ([(((n % 18446744073709551616).toNat) % 4294967296),((((n % 18446744073709551616).toNat) / 4294967296) % 4294967296)]))).natAbs) ad]:=aF
 have aG:=ax.new_ bA
 refine sS6 a4 aF aG fun b4 aL aq bZ=>?_
 have aN:=bB.fr aG aq
 have aO:=aK.tR aq
 refine bw _ _<| wp_ret (ret_k bz (v:=.agg #[.bool (decide (sgn false (val ([(((n % 18446744073709551616).toNat) % 4294967296),((((n % 18446744073709551616).toNat) / 4294967296) % 4294967296)])) < 0)),sv aj (canon (sgn false (val ([(((n % 18446744073709551616).toNat) % 4294967296),((((n % 18446744073709551616).toNat) / 4294967296) % 4294967296)]))).natAbs) ad]) (res_c rfl a4 (l_two isAgg26 sizeOf26 aL)) ?_)
 have hz1:sgn false (val ([(((n % 18446744073709551616).toNat) % 4294967296),((((n % 18446744073709551616).toNat) / 4294967296) % 4294967296)]))=n:=of_no hhi aa
 exact⟨aj,ad,congrArg (fun z:Int=>Ending.returned (Value.agg #[.bool (decide (z < 0)),sv aj (canon z.natAbs) ad])) hz1,Eq.mp (congrArg (fun z:Int=>SRow _ .u32 aj (canon z.natAbs) ad) hz1) aN,aO⟩
theorem sequal32_c (Aa:Option Addr) (a:List Nat) (ca:Nat) (Ab:Option Addr) (b:List Nat) (cb:Nat) (w:World) (hra:SRow w .u32 Aa a ca) (hrb:SRow w .u32 Ab b cb):Calls prog 134 #[sv Aa a ca,sv Ab b cb] w (IsRet (.bool (decide (a=b))) w):=by
 refine enter_abs func134 rfl fun a0 au bS hp=>?_
 have au:a0.tmps.size=26:=au
 have bT:New w w:=Upd.refl _ _
 have hp0:a0.eval (.tmp 0)=sv Aa a ca:=hp 0 _ rfl
 have hp1:a0.eval (.tmp 1)=sv Ab b cb:=hp 1 _ rfl
 have hmx:=hra.max
 have hmy:=hrb.max
 refine wk fun K1 bU=>?_
 refine wA tr1 [] 26 [vF] au ?_ ?_
 exact .c .nil
 refine aftI au bS bT fun a2 w3 av a9 aB da ba=>?_
 have⟨h8,h9⟩:=ba.f2 hp0 hp1
 refine bU _ _ <| wk fun db bl=>?_
 refine wk fun dc aC=>?_
 rcases bc (decide ((a.length:Int)=(b.length:Int))) with af|af
 have al:=oT af
 refine wA tr5 [] 26 [ve (sv Aa a ca),ve (iv (a.length:Int)),ve (sv Ab b cb),ve (iv (b.length:Int)),vF] av ?_ ?_
 exact .M h8<| .T (fun k=>v_lenR rfl elW (k.eq1 0 6 rfl))<| .M h9<| .T (fun k=>v_lenR rfl elW (k.eq1 2 8 rfl))<| .T (fun k=>v_bin rfl (k.eq1 1 7 rfl) (k.eq1 3 9 rfl) (fun _=>rfl) (r_neq af)) .nil
 refine aftI av a9 aB fun dd de aD bm bn cJ ar=>?_
 have⟨bb,bV⟩:=ar.f2 h8 h9
 have bW:=ar.g 4 10
 refine aC _ _<| wf bW<| ws ?_
 refine bl _ _<| wk fun df bo=>wk fun dg bp=>?_
 refine wA tr3 [] 26 [ve (sv Aa a ca),ve (iv (a.length:Int)),ve (iv 0)] aD ?_ ?_
 exact .M bb<| .T (fun k=>v_lenR rfl elW (k.eq1 0 11 rfl))<| .T (fun k=>v_move rfl rfl) .nil
 refine aftI aD bm bn fun dh di bq br bs cK am=>?_
 have⟨bX,bY⟩:=am.f2 bb bV
 have bZ:=am.g 1 12
 have b0:=am.g 2 13
 refine bp _ _<| wb<| wp_loopX (fun (mm:Nat) (aa:Act) (ww:World)=>∃ (i:Nat),mm=a.length - i∧aa.tmps.size=26∧aa.defers=[]∧New w ww∧aa.eval (.tmp 13)=iv (i:Int)∧aa.eval (.tmp 0)=sv Aa a ca∧aa.eval (.tmp 1)=sv Ab b cb∧aa.eval (.tmp 12)=iv (a.length:Int)∧(i≤a.length)∧(∀ j,j < i→a.getD j 0=b.getD j 0)) (fun mm=>mm) ⟨_,⟨0,rfl,bq,br,bs,b0,bX,bY,bZ,(Nat.zero_le _),(fun j h=>absurd h (Nat.not_lt_zero _))⟩⟩ ?_
 rintro mm dj dk ⟨i,hmm,aE,bt,bu,bd,b1,b2,be,hi,heq⟩
 refine wk fun dl bv=>?_
 refine wA tr1 [] 26 [ve (.bool (decide ((i:Int) < (a.length:Int))))] aE ?_ ?_
 exact .T (fun k=>v_bin rfl (k.fx 13 bd) (k.fx 12 be) (fun _=>rfl) (r_lssK rfl)) .nil
 refine aftI aE bt bu fun dm dn an aF aG cL ag=>?_
 have⟨bf,b3,b4,b5⟩:=ag.f4 bd b1 b2 be
 have bg:=ag.g 0 14
 refine bv _ _ <| wk fun dp bw=>?_
 rcases bc (decide ((i:Int) < (a.length:Int))) with ah|ah
 have aM:=oT ah
 have bx:=hB bg ah
 refine wt bx<| ws<| bw _ _<| wk fun dq bz=>wb ?_
 refine wk fun dr bA=>?_
 refine wA tr2 [] 26 [ve (iv (i:Int)),ve (iv (i:Int))] an ?_ ?_
 exact .M bf<| .B 0 .nil
 refine aftI an aF aG fun ds dt ao aH ad cM ai=>?_
 have⟨bh,aw,ax,bi⟩:=ai.f4 bf b3 b4 b5
 have ay:=ai.g 1 5
 refine bA _ _ <| wk fun du aI=>?_
 rcases bc (decide (((a.getD i 0:Nat):Int)=((b.getD i 0:Nat):Int))) with ae|ae
 have ap:=oT ae
 refine wp_g0 (.replicate 9 true) [] 26
  [ve (sv Aa a ca),ve (iv (i:Int)),
  (EP (.int .u32 ((a.getD i 0:Nat):Int))),ve (.int .u32 ((a.getD i 0:Nat):Int)),ve (sv Ab b cb),ve (iv (i:Int)),
  (EP (.int .u32 ((b.getD i 0:Nat):Int))),ve (.int .u32 ((b.getD i 0:Nat):Int)),vF] ao (.eq (.eq (.cons (fun _ _ _ n ⟨_,_,e,h⟩=>⟨_,_,e,h.new_ n⟩) (.eq (.eq (.eq (.cons (fun _ _ _ n ⟨_,_,e,h⟩=>⟨_,_,e,h.new_ n⟩) (.eq (.eq .nil))))))))) ?_ ?_
 refine .M aw<| .M ay ?_
 refine .o1 (tk rfl rfl fun _ w hn k=>(by
  exact x_eaddr (k:=.u32) rfl elW (k.eq1 0 16 rfl) (k.eq1 1 17 rfl) (hra.new_ (ad.transNew hn)) (by omega) fun cc cd hme=>⟨cc,cd,rfl,hme⟩)) ?_
 refine .o1 (tk rfl rfl fun _ w hn k=>(by
  obtain⟨dv,dw,ce,bB⟩:=k.G 2 18
  exact⟨_,v_load rfl ce (l_one isAgg59 bB.1),rfl⟩)) ?_
 refine .M ax<| .M ay ?_
 refine .o1 (tk rfl rfl fun _ w hn k=>(by
  exact x_eaddr (k:=.u32) rfl elW (k.eq1 4 20 rfl) (k.eq1 5 21 rfl) (hrb.new_ (ad.transNew hn)) (by omega) fun cf ch hme=>⟨cf,ch,rfl,hme⟩)) ?_
 refine .o1 (tk rfl rfl fun _ w hn k=>(by
  obtain⟨dx,dy,ci,bC⟩:=k.G 6 22
  exact⟨_,v_load rfl ci (l_one isAgg59 bC.1),rfl⟩)) ?_
 exact .T (fun k=>v_bin rfl (k.eq1 3 19 rfl) (k.eq1 7 23 rfl) (fun _=>rfl) (r_neq ae)) .nil
 refine aftI ao aH ad fun dz dA aJ bD bE cN aj=>?_
 have⟨bj,cj,cl,cm⟩:=aj.f4 bh aw ax bi
 have cn:=aj.g 8 24
 refine aI _ _<| wf cn<| ws ?_
 refine bz _ _<| wA [true,false] [(1,true)] 26 [ve (iv ((i + 1:Nat):Int)),vt] aJ ?_ ?_
 exact .R (fun k=>v_bin rfl (k.fx 13 bj) rfl (fun _=>rfl) (n_add (by omega) (IntWalk.i64_in _ (by omega)))) (fun _=>rfl)<| .off .nil
 refine aftI aJ bD bE fun bk dB aK bF aN cO ak=>?_
 have⟨dC,co,cp,cq⟩:=ak.f4 bj cj cl cm
 have aL:=ak.g 0 25
 refine st_take rfl rfl (y_move (v:=iv ((i + 1:Nat):Int)) rfl aL) rfl ?_
 obtain⟨bG,ab⟩:∃ a',a'=bk.put (some 13) (iv ((i + 1:Nat):Int)):=⟨_,rfl⟩
 have⟨aO,aP⟩:=pz2 ab aK bF
 have⟨bH,bI,bJ⟩:=pN3 ab co cp cq
 have cP:=pN ab aL
 have bK:=s7 ab aK
 show stepsTo _ _ _ _ _ (bk.put (some 13) (iv ((i + 1:Nat):Int))) _
 rw [← ab]
 refine st_nil ?_
 refine then_n ?_
 exact⟨_,⟨i + 1,rfl,aO,aP,aN,(bK.trans (congrArg (Value.int .i64) (by omega))),bH,bI,bJ,(by omega),(eq_up heq (by omega) ae)⟩,(by omega)⟩
 have ap:=oF ae
 refine wp_g0 (.replicate 9 true) [] 26
  [ve (sv Aa a ca),ve (iv (i:Int)),
  (EP (.int .u32 ((a.getD i 0:Nat):Int))),ve (.int .u32 ((a.getD i 0:Nat):Int)),ve (sv Ab b cb),ve (iv (i:Int)),
  (EP (.int .u32 ((b.getD i 0:Nat):Int))),ve (.int .u32 ((b.getD i 0:Nat):Int)),vT] ao (.eq (.eq (.cons (fun _ _ _ n ⟨_,_,e,h⟩=>⟨_,_,e,h.new_ n⟩) (.eq (.eq (.eq (.cons (fun _ _ _ n ⟨_,_,e,h⟩=>⟨_,_,e,h.new_ n⟩) (.eq (.eq .nil))))))))) ?_ ?_
 refine .M aw<| .M ay ?_
 refine .o1 (tk rfl rfl fun _ w hn k=>(by
  exact x_eaddr (k:=.u32) rfl elW (k.eq1 0 16 rfl) (k.eq1 1 17 rfl) (hra.new_ (ad.transNew hn)) (by omega) fun cv cw hme=>⟨cv,cw,rfl,hme⟩)) ?_
 refine .o1 (tk rfl rfl fun _ w hn k=>(by
  obtain⟨dD,dE,cx,bL⟩:=k.G 2 18
  exact⟨_,v_load rfl cx (l_one isAgg59 bL.1),rfl⟩)) ?_
 refine .M ax<| .M ay ?_
 refine .o1 (tk rfl rfl fun _ w hn k=>(by
  exact x_eaddr (k:=.u32) rfl elW (k.eq1 4 20 rfl) (k.eq1 5 21 rfl) (hrb.new_ (ad.transNew hn)) (by omega) fun cy cz hme=>⟨cy,cz,rfl,hme⟩)) ?_
 refine .o1 (tk rfl rfl fun _ w hn k=>(by
  obtain⟨dF,dG,cA,bM⟩:=k.G 6 22
  exact⟨_,v_load rfl cA (l_one isAgg59 bM.1),rfl⟩)) ?_
 exact .T (fun k=>v_bin rfl (k.eq1 3 19 rfl) (k.eq1 7 23 rfl) (fun _=>rfl) (r_neq ae)) .nil
 refine aftI ao aH ad fun cQ cR az aQ aR cB ac=>?_
 have⟨cS,cT,cU,cV⟩:=ac.f4 bh aw ax bi
 have bN:=ac.g 8 24
 refine aI _ _<| wt bN<| wk fun cW aS=>?_
 refine wA tr1 [] 26 [vF] az ?_ ?_
 exact .c .nil
 refine aftI az aQ aR fun cX cY cC aT aU cD aV=>?_
 have bO:=aV.g 0 4
 refine aS _ _<| wp_ret (ret_k aT (v:=.bool false) (res_t rfl bO _) ?_)
 exact⟨by rw [decide_eq_false (fun e=>by rw [e] at ap; exact ap rfl)],aU⟩
 have aM:=oF ah
 have aW:=hB bg ah
 refine wf aW<| wp_exit ?_
 refine bo _ _<| wk fun cZ aX=>?_
 refine wA tr1 [] 26 [vT] an ?_ ?_
 exact .c .nil
 refine aftI an aF aG fun c0 c1 cE aY aZ cF a1=>?_
 have bP:=a1.g 0 4
 refine aX _ _<| wp_ret (ret_k aY (v:=.bool true) (res_t rfl bP _) ?_)
 exact⟨by rw [decide_eq_true (eq_all (by omega) (by omega:i=a.length) heq)],aZ⟩
 have al:=oF af
 refine wA tr5 [] 26 [ve (sv Aa a ca),ve (iv (a.length:Int)),ve (sv Ab b cb),ve (iv (b.length:Int)),vT] av ?_ ?_
 exact .M h8<| .T (fun k=>v_lenR rfl elW (k.eq1 0 6 rfl))<| .M h9<| .T (fun k=>v_lenR rfl elW (k.eq1 2 8 rfl))<| .T (fun k=>v_bin rfl (k.eq1 1 7 rfl) (k.eq1 3 9 rfl) (fun _=>rfl) (r_neq af)) .nil
 refine aftI av a9 aB fun c2 c3 aA a3 a4 cG aq=>?_
 have⟨c4,c5⟩:=aq.f2 h8 h9
 have bQ:=aq.g 4 10
 refine aC _ _<| wt bQ<| wk fun c6 a5=>?_
 refine wA tr1 [] 26 [vF] aA ?_ ?_
 exact .c .nil
 refine aftI aA a3 a4 fun c8 c9 cH a6 a7 cI a8=>?_
 have bR:=a8.g 0 4
 refine a5 _ _<| wp_ret (ret_k a6 (v:=.bool false) (res_t rfl bR _) ?_)
 exact⟨by rw [decide_eq_false (fun e=>by rw [e] at al; exact al rfl)],a7⟩
theorem rlist32_c (Aa:Option Addr) (a:List Nat) (ca:Nat) (Ab:Option Addr) (b:List Nat) (cb:Nat) (w:World) (hra:SRow w .u32 Aa a ca) (hrb:SRow w .u32 Ab b cb):Calls prog 46 #[sv Aa a ca,sv Ab b cb] w (IsRet (.bool (decide (a=b))) w):=by
 refine enter_abs func46 rfl fun a0 au bE hp=>?_
 have au:a0.tmps.size=26:=au
 have bF:New w w:=Upd.refl _ _
 have hp0:a0.eval (.tmp 0)=sv Aa a ca:=hp 0 _ rfl
 have hp1:a0.eval (.tmp 1)=sv Ab b cb:=hp 1 _ rfl
 have hmx:=hra.max
 have hmy:=hrb.max
 refine wk fun K1 bG=>?_
 refine wA tr1 [] 26 [vF] au ?_ ?_
 exact .c .nil
 refine aftI au bE bF fun a2 w3 av aY az cM aZ=>?_
 have⟨h8,h9⟩:=aZ.f2 hp0 hp1
 refine bG _ _ <| wk fun cN a8=>?_
 refine wk fun cO aA=>?_
 rcases bc (decide ((a.length:Int)=(b.length:Int))) with af|af
 have ai:=oT af
 refine wA tr5 [] 26 [ve (sv Aa a ca),ve (iv (a.length:Int)),ve (sv Ab b cb),ve (iv (b.length:Int)),vF] av ?_ ?_
 exact .M h8<| .T (fun k=>v_lenR rfl elW (k.eq1 0 6 rfl))<| .M h9<| .T (fun k=>v_lenR rfl elW (k.eq1 2 8 rfl))<| .T (fun k=>v_bin rfl (k.eq1 1 7 rfl) (k.eq1 3 9 rfl) (fun _=>rfl) (r_neq af)) .nil
 refine aftI av aY az fun cP cQ aB a9 ba cs ap=>?_
 have⟨bH,bI⟩:=ap.f2 h8 h9
 have bJ:=ap.g 4 10
 refine aA _ _<| wf bJ<| ws ?_
 refine a8 _ _<| wk fun cR bb=>wk fun cS bd=>?_
 refine wA tr1 [] 26 [ve (iv 0)] aB ?_ ?_
 exact .c .nil
 refine aftI aB a9 ba fun cT cU be bf bg ct aq=>?_
 have⟨bK,bL⟩:=aq.f2 bH bI
 have bM:=aq.g 0 5
 refine bd _ _<| wb<| wp_loopX (fun (mm:Nat) (aa:Act) (ww:World)=>∃ (i:Nat),mm=a.length - i∧aa.tmps.size=26∧aa.defers=[]∧New w ww∧aa.eval (.tmp 5)=iv (i:Int)∧aa.eval (.tmp 0)=sv Aa a ca∧aa.eval (.tmp 1)=sv Ab b cb∧(i≤a.length)∧(∀ j,j < i→a.getD j 0=b.getD j 0)) (fun mm=>mm) ⟨_,⟨0,rfl,be,bf,bg,bM,bK,bL,(Nat.zero_le _),(fun j h=>absurd h (Nat.not_lt_zero _))⟩⟩ ?_
 rintro mm cV cW ⟨i,hmm,aC,bh,bi,a1,a3,bN,hi,heq⟩
 refine wk fun cX bj=>wk fun cY bk=>?_
 refine wA tr4 [] 26 [ve (iv (i:Int)),ve (sv Aa a ca),ve (iv (a.length:Int)),ve (.bool (decide ((i:Int) < (a.length:Int))))] aC ?_ ?_
 exact .M a1<| .M a3<| .T (fun k=>v_lenR rfl elW (k.eq1 1 12 rfl))<| .T (fun k=>v_bin rfl (k.eq1 0 11 rfl) (k.eq1 2 13 rfl) (fun _=>rfl) (r_lssK rfl)) .nil
 refine aftI aC bh bi fun cZ c0 ad ar ab cu aj=>?_
 have⟨ah,aw,ax⟩:=aj.f3 a1 a3 bN
 have a4:=aj.g 3 14
 refine bk _ _ ?_
 rcases bc (decide ((i:Int) < (a.length:Int))) with ag|ag
 have aH:=oT ag
 have bl:=hB a4 ag
 refine wt bl<| ws<| bj _ _<| wk fun c1 bm=>wb ?_
 refine wk fun c2 aD=>?_
 rcases bc (decide (((a.getD i 0:Nat):Int)=((b.getD i 0:Nat):Int))) with ae|ae
 have ak:=oT ae
 refine wp_g0 (.replicate 9 true) [] 26
  [ve (sv Aa a ca),ve (iv (i:Int)),
  (EP (.int .u32 ((a.getD i 0:Nat):Int))),ve (.int .u32 ((a.getD i 0:Nat):Int)),ve (sv Ab b cb),ve (iv (i:Int)),
  (EP (.int .u32 ((b.getD i 0:Nat):Int))),ve (.int .u32 ((b.getD i 0:Nat):Int)),vF] ad (.eq (.eq (.cons (fun _ _ _ n ⟨_,_,e,h⟩=>⟨_,_,e,h.new_ n⟩) (.eq (.eq (.eq (.cons (fun _ _ _ n ⟨_,_,e,h⟩=>⟨_,_,e,h.new_ n⟩) (.eq (.eq .nil))))))))) ?_ ?_
 refine .M aw<| .M ah ?_
 refine .o1 (tk rfl rfl fun _ w hn k=>(by
  exact x_eaddr (k:=.u32) rfl elW (k.eq1 0 17 rfl) (k.eq1 1 18 rfl) (hra.new_ (ab.transNew hn)) (by omega) fun bS bT hme=>⟨bS,bT,rfl,hme⟩)) ?_
 refine .o1 (tk rfl rfl fun _ w hn k=>(by
  obtain⟨c3,c4,bU,bn⟩:=k.G 2 19
  exact⟨_,v_load rfl bU (l_one isAgg59 bn.1),rfl⟩)) ?_
 refine .M ax<| .M ah ?_
 refine .o1 (tk rfl rfl fun _ w hn k=>(by
  exact x_eaddr (k:=.u32) rfl elW (k.eq1 4 21 rfl) (k.eq1 5 22 rfl) (hrb.new_ (ab.transNew hn)) (by omega) fun bV bW hme=>⟨bV,bW,rfl,hme⟩)) ?_
 refine .o1 (tk rfl rfl fun _ w hn k=>(by
  obtain⟨c5,c6,bX,bo⟩:=k.G 6 23
  exact⟨_,v_load rfl bX (l_one isAgg59 bo.1),rfl⟩)) ?_
 exact .T (fun k=>v_bin rfl (k.eq1 3 20 rfl) (k.eq1 7 24 rfl) (fun _=>rfl) (r_neq ae)) .nil
 refine aftI ad ar ab fun c8 c9 aE bp bq cv al=>?_
 have⟨a5,bY,bZ⟩:=al.f3 ah aw ax
 have b0:=al.g 8 25
 refine aD _ _<| wf b0<| ws ?_
 refine bm _ _<| wA [true,true,false] [(2,true)] 26 [ve (iv (i:Int)),ve (iv ((i + 1:Nat):Int)),vt] aE ?_ ?_
 exact .M a5<| .R (fun k=>v_bin rfl (k.eq1 0 15 rfl) rfl (fun _=>rfl) (n_add (by omega) (IntWalk.i64_in _ (by omega)))) (fun _=>rfl)<| .off .nil
 refine aftI aE bp bq fun a6 da aF br bs cw am=>?_
 have⟨db,b1,b2⟩:=am.f3 a5 bY bZ
 have a7:=am.g 1 16
 refine sP a7 aF br fun b3 bt bu ac b6=>?_
 have⟨b4,b5,dc⟩:=ac.q3 b1 b2 a7
 refine st_nil ?_
 refine then_n ?_
 exact⟨_,⟨i + 1,rfl,bt,bu,bs,(b6.trans (congrArg (Value.int .i64) (by omega))),b4,b5,(by omega),(eq_up heq (by omega) ae)⟩,(by omega)⟩
 have ak:=oF ae
 refine wp_g0 (.replicate 9 true) [] 26
  [ve (sv Aa a ca),ve (iv (i:Int)),
  (EP (.int .u32 ((a.getD i 0:Nat):Int))),ve (.int .u32 ((a.getD i 0:Nat):Int)),ve (sv Ab b cb),ve (iv (i:Int)),
  (EP (.int .u32 ((b.getD i 0:Nat):Int))),ve (.int .u32 ((b.getD i 0:Nat):Int)),vT] ad (.eq (.eq (.cons (fun _ _ _ n ⟨_,_,e,h⟩=>⟨_,_,e,h.new_ n⟩) (.eq (.eq (.eq (.cons (fun _ _ _ n ⟨_,_,e,h⟩=>⟨_,_,e,h.new_ n⟩) (.eq (.eq .nil))))))))) ?_ ?_
 refine .M aw<| .M ah ?_
 refine .o1 (tk rfl rfl fun _ w hn k=>(by
  exact x_eaddr (k:=.u32) rfl elW (k.eq1 0 17 rfl) (k.eq1 1 18 rfl) (hra.new_ (ab.transNew hn)) (by omega) fun cd ce hme=>⟨cd,ce,rfl,hme⟩)) ?_
 refine .o1 (tk rfl rfl fun _ w hn k=>(by
  obtain⟨dd,de,cf,bv⟩:=k.G 2 19
  exact⟨_,v_load rfl cf (l_one isAgg59 bv.1),rfl⟩)) ?_
 refine .M ax<| .M ah ?_
 refine .o1 (tk rfl rfl fun _ w hn k=>(by
  exact x_eaddr (k:=.u32) rfl elW (k.eq1 4 21 rfl) (k.eq1 5 22 rfl) (hrb.new_ (ab.transNew hn)) (by omega) fun ch ci hme=>⟨ch,ci,rfl,hme⟩)) ?_
 refine .o1 (tk rfl rfl fun _ w hn k=>(by
  obtain⟨df,dg,cj,bw⟩:=k.G 6 23
  exact⟨_,v_load rfl cj (l_one isAgg59 bw.1),rfl⟩)) ?_
 exact .T (fun k=>v_bin rfl (k.eq1 3 20 rfl) (k.eq1 7 24 rfl) (fun _=>rfl) (r_neq ae)) .nil
 refine aftI ad ar ab fun dh di aG bx aI cx an=>?_
 have⟨dj,dk,cy⟩:=an.f3 ah aw ax
 have bz:=an.g 8 25
 refine aD _ _<| wt bz<| wk fun cz aJ=>?_
 refine wA tr1 [] 26 [vF] aG ?_ ?_
 exact .c .nil
 refine aftI aG bx aI fun cA cB cl aK aL cm aM=>?_
 have bA:=aM.g 0 4
 refine aJ _ _<| wp_ret (ret_k aK (v:=.bool false) (res_t rfl bA _) ?_)
 exact⟨by rw [decide_eq_false (fun e=>by rw [e] at ak; exact ak rfl)],aL⟩
 have aH:=oF ag
 have aN:=hB a4 ag
 refine wf aN<| wp_exit ?_
 refine bb _ _<| wk fun cC aO=>?_
 refine wA tr1 [] 26 [vT] ad ?_ ?_
 exact .c .nil
 refine aftI ad ar ab fun cD cE cn aP aQ co aR=>?_
 have bB:=aR.g 0 4
 refine aO _ _<| wp_ret (ret_k aP (v:=.bool true) (res_t rfl bB _) ?_)
 exact⟨by rw [decide_eq_true (eq_all (by omega) (by omega:i=a.length) heq)],aQ⟩
 have ai:=oF af
 refine wA tr5 [] 26 [ve (sv Aa a ca),ve (iv (a.length:Int)),ve (sv Ab b cb),ve (iv (b.length:Int)),vT] av ?_ ?_
 exact .M h8<| .T (fun k=>v_lenR rfl elW (k.eq1 0 6 rfl))<| .M h9<| .T (fun k=>v_lenR rfl elW (k.eq1 2 8 rfl))<| .T (fun k=>v_bin rfl (k.eq1 1 7 rfl) (k.eq1 3 9 rfl) (fun _=>rfl) (r_neq af)) .nil
 refine aftI av aY az fun cF cG ay aS aT cp ao=>?_
 have⟨cH,cI⟩:=ao.f2 h8 h9
 have bC:=ao.g 4 10
 refine aA _ _<| wt bC<| wk fun cJ aU=>?_
 refine wA tr1 [] 26 [vF] ay ?_ ?_
 exact .c .nil
 refine aftI ay aS aT fun cK cL cq aV aW cr aX=>?_
 have bD:=aX.g 0 4
 refine aU _ _<| wp_ret (ret_k aV (v:=.bool false) (res_t rfl bD _) ?_)
 exact⟨by rw [decide_eq_false (fun e=>by rw [e] at ai; exact ai rfl)],aW⟩
theorem sequal16_c (Aa:Option Addr) (a:List Nat) (ca:Nat) (Ab:Option Addr) (b:List Nat) (cb:Nat) (w:World) (hra:SRow w .u16 Aa a ca) (hrb:SRow w .u16 Ab b cb):Calls prog 111 #[sv Aa a ca,sv Ab b cb] w (IsRet (.bool (decide (a=b))) w):=by
 refine enter_abs func111 rfl fun a0 au bS hp=>?_
 have au:a0.tmps.size=26:=au
 have bT:New w w:=Upd.refl _ _
 have hp0:a0.eval (.tmp 0)=sv Aa a ca:=hp 0 _ rfl
 have hp1:a0.eval (.tmp 1)=sv Ab b cb:=hp 1 _ rfl
 have hmx:=hra.max
 have hmy:=hrb.max
 refine wk fun K1 bU=>?_
 refine wA tr1 [] 26 [vF] au ?_ ?_
 exact .c .nil
 refine aftI au bS bT fun a2 w3 av a9 aB da ba=>?_
 have⟨h8,h9⟩:=ba.f2 hp0 hp1
 refine bU _ _ <| wk fun db bl=>?_
 refine wk fun dc aC=>?_
 rcases bc (decide ((a.length:Int)=(b.length:Int))) with af|af
 have al:=oT af
 refine wA tr5 [] 26 [ve (sv Aa a ca),ve (iv (a.length:Int)),ve (sv Ab b cb),ve (iv (b.length:Int)),vF] av ?_ ?_
 exact .M h8<| .T (fun k=>v_lenR rfl elU (k.eq1 0 6 rfl))<| .M h9<| .T (fun k=>v_lenR rfl elU (k.eq1 2 8 rfl))<| .T (fun k=>v_bin rfl (k.eq1 1 7 rfl) (k.eq1 3 9 rfl) (fun _=>rfl) (r_neq af)) .nil
 refine aftI av a9 aB fun dd de aD bm bn cJ ar=>?_
 have⟨bb,bV⟩:=ar.f2 h8 h9
 have bW:=ar.g 4 10
 refine aC _ _<| wf bW<| ws ?_
 refine bl _ _<| wk fun df bo=>wk fun dg bp=>?_
 refine wA tr3 [] 26 [ve (sv Aa a ca),ve (iv (a.length:Int)),ve (iv 0)] aD ?_ ?_
 exact .M bb<| .T (fun k=>v_lenR rfl elU (k.eq1 0 11 rfl))<| .T (fun k=>v_move rfl rfl) .nil
 refine aftI aD bm bn fun dh di bq br bs cK am=>?_
 have⟨bX,bY⟩:=am.f2 bb bV
 have bZ:=am.g 1 12
 have b0:=am.g 2 13
 refine bp _ _<| wb<| wp_loopX (fun (mm:Nat) (aa:Act) (ww:World)=>∃ (i:Nat),mm=a.length - i∧aa.tmps.size=26∧aa.defers=[]∧New w ww∧aa.eval (.tmp 13)=iv (i:Int)∧aa.eval (.tmp 0)=sv Aa a ca∧aa.eval (.tmp 1)=sv Ab b cb∧aa.eval (.tmp 12)=iv (a.length:Int)∧(i≤a.length)∧(∀ j,j < i→a.getD j 0=b.getD j 0)) (fun mm=>mm) ⟨_,⟨0,rfl,bq,br,bs,b0,bX,bY,bZ,(Nat.zero_le _),(fun j h=>absurd h (Nat.not_lt_zero _))⟩⟩ ?_
 rintro mm dj dk ⟨i,hmm,aE,bt,bu,bd,b1,b2,be,hi,heq⟩
 refine wk fun dl bv=>?_
 refine wA tr1 [] 26 [ve (.bool (decide ((i:Int) < (a.length:Int))))] aE ?_ ?_
 exact .T (fun k=>v_bin rfl (k.fx 13 bd) (k.fx 12 be) (fun _=>rfl) (r_lssK rfl)) .nil
 refine aftI aE bt bu fun dm dn an aF aG cL ag=>?_
 have⟨bf,b3,b4,b5⟩:=ag.f4 bd b1 b2 be
 have bg:=ag.g 0 14
 refine bv _ _ <| wk fun dp bw=>?_
 rcases bc (decide ((i:Int) < (a.length:Int))) with ah|ah
 have aM:=oT ah
 have bx:=hB bg ah
 refine wt bx<| ws<| bw _ _<| wk fun dq bz=>wb ?_
 refine wk fun dr bA=>?_
 refine wA tr2 [] 26 [ve (iv (i:Int)),ve (iv (i:Int))] an ?_ ?_
 exact .M bf<| .B 0 .nil
 refine aftI an aF aG fun ds dt ao aH ad cM ai=>?_
 have⟨bh,aw,ax,bi⟩:=ai.f4 bf b3 b4 b5
 have ay:=ai.g 1 5
 refine bA _ _ <| wk fun du aI=>?_
 rcases bc (decide (((a.getD i 0:Nat):Int)=((b.getD i 0:Nat):Int))) with ae|ae
 have ap:=oT ae
 refine wp_g0 (.replicate 9 true) [] 26
  [ve (sv Aa a ca),ve (iv (i:Int)),
  (EP (.int .u16 ((a.getD i 0:Nat):Int))),ve (.int .u16 ((a.getD i 0:Nat):Int)),ve (sv Ab b cb),ve (iv (i:Int)),
  (EP (.int .u16 ((b.getD i 0:Nat):Int))),ve (.int .u16 ((b.getD i 0:Nat):Int)),vF] ao (.eq (.eq (.cons (fun _ _ _ n ⟨_,_,e,h⟩=>⟨_,_,e,h.new_ n⟩) (.eq (.eq (.eq (.cons (fun _ _ _ n ⟨_,_,e,h⟩=>⟨_,_,e,h.new_ n⟩) (.eq (.eq .nil))))))))) ?_ ?_
 refine .M aw<| .M ay ?_
 refine .o1 (tk rfl rfl fun _ w hn k=>(by
  exact x_eaddr (k:=.u16) rfl elU (k.eq1 0 16 rfl) (k.eq1 1 17 rfl) (hra.new_ (ad.transNew hn)) (by omega) fun cc cd hme=>⟨cc,cd,rfl,hme⟩)) ?_
 refine .o1 (tk rfl rfl fun _ w hn k=>(by
  obtain⟨dv,dw,ce,bB⟩:=k.G 2 18
  exact⟨_,v_load rfl ce (l_one isAgg79 bB.1),rfl⟩)) ?_
 refine .M ax<| .M ay ?_
 refine .o1 (tk rfl rfl fun _ w hn k=>(by
  exact x_eaddr (k:=.u16) rfl elU (k.eq1 4 20 rfl) (k.eq1 5 21 rfl) (hrb.new_ (ad.transNew hn)) (by omega) fun cf ch hme=>⟨cf,ch,rfl,hme⟩)) ?_
 refine .o1 (tk rfl rfl fun _ w hn k=>(by
  obtain⟨dx,dy,ci,bC⟩:=k.G 6 22
  exact⟨_,v_load rfl ci (l_one isAgg79 bC.1),rfl⟩)) ?_
 exact .T (fun k=>v_bin rfl (k.eq1 3 19 rfl) (k.eq1 7 23 rfl) (fun _=>rfl) (r_neq ae)) .nil
 refine aftI ao aH ad fun dz dA aJ bD bE cN aj=>?_
 have⟨bj,cj,cl,cm⟩:=aj.f4 bh aw ax bi
 have cn:=aj.g 8 24
 refine aI _ _<| wf cn<| ws ?_
 refine bz _ _<| wA [true,false] [(1,true)] 26 [ve (iv ((i + 1:Nat):Int)),vt] aJ ?_ ?_
 exact .R (fun k=>v_bin rfl (k.fx 13 bj) rfl (fun _=>rfl) (n_add (by omega) (IntWalk.i64_in _ (by omega)))) (fun _=>rfl)<| .off .nil
 refine aftI aJ bD bE fun bk dB aK bF aN cO ak=>?_
 have⟨dC,co,cp,cq⟩:=ak.f4 bj cj cl cm
 have aL:=ak.g 0 25
 refine st_take rfl rfl (y_move (v:=iv ((i + 1:Nat):Int)) rfl aL) rfl ?_
 obtain⟨bG,ab⟩:∃ a',a'=bk.put (some 13) (iv ((i + 1:Nat):Int)):=⟨_,rfl⟩
 have⟨aO,aP⟩:=pz2 ab aK bF
 have⟨bH,bI,bJ⟩:=pN3 ab co cp cq
 have cP:=pN ab aL
 have bK:=s7 ab aK
 show stepsTo _ _ _ _ _ (bk.put (some 13) (iv ((i + 1:Nat):Int))) _
 rw [← ab]
 refine st_nil ?_
 refine then_n ?_
 exact⟨_,⟨i + 1,rfl,aO,aP,aN,(bK.trans (congrArg (Value.int .i64) (by omega))),bH,bI,bJ,(by omega),(eq_up heq (by omega) ae)⟩,(by omega)⟩
 have ap:=oF ae
 refine wp_g0 (.replicate 9 true) [] 26
  [ve (sv Aa a ca),ve (iv (i:Int)),
  (EP (.int .u16 ((a.getD i 0:Nat):Int))),ve (.int .u16 ((a.getD i 0:Nat):Int)),ve (sv Ab b cb),ve (iv (i:Int)),
  (EP (.int .u16 ((b.getD i 0:Nat):Int))),ve (.int .u16 ((b.getD i 0:Nat):Int)),vT] ao (.eq (.eq (.cons (fun _ _ _ n ⟨_,_,e,h⟩=>⟨_,_,e,h.new_ n⟩) (.eq (.eq (.eq (.cons (fun _ _ _ n ⟨_,_,e,h⟩=>⟨_,_,e,h.new_ n⟩) (.eq (.eq .nil))))))))) ?_ ?_
 refine .M aw<| .M ay ?_
 refine .o1 (tk rfl rfl fun _ w hn k=>(by
  exact x_eaddr (k:=.u16) rfl elU (k.eq1 0 16 rfl) (k.eq1 1 17 rfl) (hra.new_ (ad.transNew hn)) (by omega) fun cv cw hme=>⟨cv,cw,rfl,hme⟩)) ?_
 refine .o1 (tk rfl rfl fun _ w hn k=>(by
  obtain⟨dD,dE,cx,bL⟩:=k.G 2 18
  exact⟨_,v_load rfl cx (l_one isAgg79 bL.1),rfl⟩)) ?_
 refine .M ax<| .M ay ?_
 refine .o1 (tk rfl rfl fun _ w hn k=>(by
  exact x_eaddr (k:=.u16) rfl elU (k.eq1 4 20 rfl) (k.eq1 5 21 rfl) (hrb.new_ (ad.transNew hn)) (by omega) fun cy cz hme=>⟨cy,cz,rfl,hme⟩)) ?_
 refine .o1 (tk rfl rfl fun _ w hn k=>(by
  obtain⟨dF,dG,cA,bM⟩:=k.G 6 22
  exact⟨_,v_load rfl cA (l_one isAgg79 bM.1),rfl⟩)) ?_
 exact .T (fun k=>v_bin rfl (k.eq1 3 19 rfl) (k.eq1 7 23 rfl) (fun _=>rfl) (r_neq ae)) .nil
 refine aftI ao aH ad fun cQ cR az aQ aR cB ac=>?_
 have⟨cS,cT,cU,cV⟩:=ac.f4 bh aw ax bi
 have bN:=ac.g 8 24
 refine aI _ _<| wt bN<| wk fun cW aS=>?_
 refine wA tr1 [] 26 [vF] az ?_ ?_
 exact .c .nil
 refine aftI az aQ aR fun cX cY cC aT aU cD aV=>?_
 have bO:=aV.g 0 4
 refine aS _ _<| wp_ret (ret_k aT (v:=.bool false) (res_t rfl bO _) ?_)
 exact⟨by rw [decide_eq_false (fun e=>by rw [e] at ap; exact ap rfl)],aU⟩
 have aM:=oF ah
 have aW:=hB bg ah
 refine wf aW<| wp_exit ?_
 refine bo _ _<| wk fun cZ aX=>?_
 refine wA tr1 [] 26 [vT] an ?_ ?_
 exact .c .nil
 refine aftI an aF aG fun c0 c1 cE aY aZ cF a1=>?_
 have bP:=a1.g 0 4
 refine aX _ _<| wp_ret (ret_k aY (v:=.bool true) (res_t rfl bP _) ?_)
 exact⟨by rw [decide_eq_true (eq_all (by omega) (by omega:i=a.length) heq)],aZ⟩
 have al:=oF af
 refine wA tr5 [] 26 [ve (sv Aa a ca),ve (iv (a.length:Int)),ve (sv Ab b cb),ve (iv (b.length:Int)),vT] av ?_ ?_
 exact .M h8<| .T (fun k=>v_lenR rfl elU (k.eq1 0 6 rfl))<| .M h9<| .T (fun k=>v_lenR rfl elU (k.eq1 2 8 rfl))<| .T (fun k=>v_bin rfl (k.eq1 1 7 rfl) (k.eq1 3 9 rfl) (fun _=>rfl) (r_neq af)) .nil
 refine aftI av a9 aB fun c2 c3 aA a3 a4 cG aq=>?_
 have⟨c4,c5⟩:=aq.f2 h8 h9
 have bQ:=aq.g 4 10
 refine aC _ _<| wt bQ<| wk fun c6 a5=>?_
 refine wA tr1 [] 26 [vF] aA ?_ ?_
 exact .c .nil
 refine aftI aA a3 a4 fun c8 c9 cH a6 a7 cI a8=>?_
 have bR:=a8.g 0 4
 refine a5 _ _<| wp_ret (ret_k a6 (v:=.bool false) (res_t rfl bR _) ?_)
 exact⟨by rw [decide_eq_false (fun e=>by rw [e] at al; exact al rfl)],a7⟩
theorem rlist16_c (Aa:Option Addr) (a:List Nat) (ca:Nat) (Ab:Option Addr) (b:List Nat) (cb:Nat) (w:World) (hra:SRow w .u16 Aa a ca) (hrb:SRow w .u16 Ab b cb):Calls prog 21 #[sv Aa a ca,sv Ab b cb] w (IsRet (.bool (decide (a=b))) w):=by
 refine enter_abs func21 rfl fun a0 au bE hp=>?_
 have au:a0.tmps.size=26:=au
 have bF:New w w:=Upd.refl _ _
 have hp0:a0.eval (.tmp 0)=sv Aa a ca:=hp 0 _ rfl
 have hp1:a0.eval (.tmp 1)=sv Ab b cb:=hp 1 _ rfl
 have hmx:=hra.max
 have hmy:=hrb.max
 refine wk fun K1 bG=>?_
 refine wA tr1 [] 26 [vF] au ?_ ?_
 exact .c .nil
 refine aftI au bE bF fun a2 w3 av aY az cM aZ=>?_
 have⟨h8,h9⟩:=aZ.f2 hp0 hp1
 refine bG _ _ <| wk fun cN a8=>?_
 refine wk fun cO aA=>?_
 rcases bc (decide ((a.length:Int)=(b.length:Int))) with af|af
 have ai:=oT af
 refine wA tr5 [] 26 [ve (sv Aa a ca),ve (iv (a.length:Int)),ve (sv Ab b cb),ve (iv (b.length:Int)),vF] av ?_ ?_
 exact .M h8<| .T (fun k=>v_lenR rfl elU (k.eq1 0 6 rfl))<| .M h9<| .T (fun k=>v_lenR rfl elU (k.eq1 2 8 rfl))<| .T (fun k=>v_bin rfl (k.eq1 1 7 rfl) (k.eq1 3 9 rfl) (fun _=>rfl) (r_neq af)) .nil
 refine aftI av aY az fun cP cQ aB a9 ba cs ap=>?_
 have⟨bH,bI⟩:=ap.f2 h8 h9
 have bJ:=ap.g 4 10
 refine aA _ _<| wf bJ<| ws ?_
 refine a8 _ _<| wk fun cR bb=>wk fun cS bd=>?_
 refine wA tr1 [] 26 [ve (iv 0)] aB ?_ ?_
 exact .c .nil
 refine aftI aB a9 ba fun cT cU be bf bg ct aq=>?_
 have⟨bK,bL⟩:=aq.f2 bH bI
 have bM:=aq.g 0 5
 refine bd _ _<| wb<| wp_loopX (fun (mm:Nat) (aa:Act) (ww:World)=>∃ (i:Nat),mm=a.length - i∧aa.tmps.size=26∧aa.defers=[]∧New w ww∧aa.eval (.tmp 5)=iv (i:Int)∧aa.eval (.tmp 0)=sv Aa a ca∧aa.eval (.tmp 1)=sv Ab b cb∧(i≤a.length)∧(∀ j,j < i→a.getD j 0=b.getD j 0)) (fun mm=>mm) ⟨_,⟨0,rfl,be,bf,bg,bM,bK,bL,(Nat.zero_le _),(fun j h=>absurd h (Nat.not_lt_zero _))⟩⟩ ?_
 rintro mm cV cW ⟨i,hmm,aC,bh,bi,a1,a3,bN,hi,heq⟩
 refine wk fun cX bj=>wk fun cY bk=>?_
 refine wA tr4 [] 26 [ve (iv (i:Int)),ve (sv Aa a ca),ve (iv (a.length:Int)),ve (.bool (decide ((i:Int) < (a.length:Int))))] aC ?_ ?_
 exact .M a1<| .M a3<| .T (fun k=>v_lenR rfl elU (k.eq1 1 12 rfl))<| .T (fun k=>v_bin rfl (k.eq1 0 11 rfl) (k.eq1 2 13 rfl) (fun _=>rfl) (r_lssK rfl)) .nil
 refine aftI aC bh bi fun cZ c0 ad ar ab cu aj=>?_
 have⟨ah,aw,ax⟩:=aj.f3 a1 a3 bN
 have a4:=aj.g 3 14
 refine bk _ _ ?_
 rcases bc (decide ((i:Int) < (a.length:Int))) with ag|ag
 have aH:=oT ag
 have bl:=hB a4 ag
 refine wt bl<| ws<| bj _ _<| wk fun c1 bm=>wb ?_
 refine wk fun c2 aD=>?_
 rcases bc (decide (((a.getD i 0:Nat):Int)=((b.getD i 0:Nat):Int))) with ae|ae
 have ak:=oT ae
 refine wp_g0 (.replicate 9 true) [] 26
  [ve (sv Aa a ca),ve (iv (i:Int)),
  (EP (.int .u16 ((a.getD i 0:Nat):Int))),ve (.int .u16 ((a.getD i 0:Nat):Int)),ve (sv Ab b cb),ve (iv (i:Int)),
  (EP (.int .u16 ((b.getD i 0:Nat):Int))),ve (.int .u16 ((b.getD i 0:Nat):Int)),vF] ad (.eq (.eq (.cons (fun _ _ _ n ⟨_,_,e,h⟩=>⟨_,_,e,h.new_ n⟩) (.eq (.eq (.eq (.cons (fun _ _ _ n ⟨_,_,e,h⟩=>⟨_,_,e,h.new_ n⟩) (.eq (.eq .nil))))))))) ?_ ?_
 refine .M aw<| .M ah ?_
 refine .o1 (tk rfl rfl fun _ w hn k=>(by
  exact x_eaddr (k:=.u16) rfl elU (k.eq1 0 17 rfl) (k.eq1 1 18 rfl) (hra.new_ (ab.transNew hn)) (by omega) fun bS bT hme=>⟨bS,bT,rfl,hme⟩)) ?_
 refine .o1 (tk rfl rfl fun _ w hn k=>(by
  obtain⟨c3,c4,bU,bn⟩:=k.G 2 19
  exact⟨_,v_load rfl bU (l_one isAgg79 bn.1),rfl⟩)) ?_
 refine .M ax<| .M ah ?_
 refine .o1 (tk rfl rfl fun _ w hn k=>(by
  exact x_eaddr (k:=.u16) rfl elU (k.eq1 4 21 rfl) (k.eq1 5 22 rfl) (hrb.new_ (ab.transNew hn)) (by omega) fun bV bW hme=>⟨bV,bW,rfl,hme⟩)) ?_
 refine .o1 (tk rfl rfl fun _ w hn k=>(by
  obtain⟨c5,c6,bX,bo⟩:=k.G 6 23
  exact⟨_,v_load rfl bX (l_one isAgg79 bo.1),rfl⟩)) ?_
 exact .T (fun k=>v_bin rfl (k.eq1 3 20 rfl) (k.eq1 7 24 rfl) (fun _=>rfl) (r_neq ae)) .nil
 refine aftI ad ar ab fun c8 c9 aE bp bq cv al=>?_
 have⟨a5,bY,bZ⟩:=al.f3 ah aw ax
 have b0:=al.g 8 25
 refine aD _ _<| wf b0<| ws ?_
 refine bm _ _<| wA [true,true,false] [(2,true)] 26 [ve (iv (i:Int)),ve (iv ((i + 1:Nat):Int)),vt] aE ?_ ?_
 exact .M a5<| .R (fun k=>v_bin rfl (k.eq1 0 15 rfl) rfl (fun _=>rfl) (n_add (by omega) (IntWalk.i64_in _ (by omega)))) (fun _=>rfl)<| .off .nil
 refine aftI aE bp bq fun a6 da aF br bs cw am=>?_
 have⟨db,b1,b2⟩:=am.f3 a5 bY bZ
 have a7:=am.g 1 16
 refine sP a7 aF br fun b3 bt bu ac b6=>?_
 have⟨b4,b5,dc⟩:=ac.q3 b1 b2 a7
 refine st_nil ?_
 refine then_n ?_
 exact⟨_,⟨i + 1,rfl,bt,bu,bs,(b6.trans (congrArg (Value.int .i64) (by omega))),b4,b5,(by omega),(eq_up heq (by omega) ae)⟩,(by omega)⟩
 have ak:=oF ae
 refine wp_g0 (.replicate 9 true) [] 26
  [ve (sv Aa a ca),ve (iv (i:Int)),
  (EP (.int .u16 ((a.getD i 0:Nat):Int))),ve (.int .u16 ((a.getD i 0:Nat):Int)),ve (sv Ab b cb),ve (iv (i:Int)),
  (EP (.int .u16 ((b.getD i 0:Nat):Int))),ve (.int .u16 ((b.getD i 0:Nat):Int)),vT] ad (.eq (.eq (.cons (fun _ _ _ n ⟨_,_,e,h⟩=>⟨_,_,e,h.new_ n⟩) (.eq (.eq (.eq (.cons (fun _ _ _ n ⟨_,_,e,h⟩=>⟨_,_,e,h.new_ n⟩) (.eq (.eq .nil))))))))) ?_ ?_
 refine .M aw<| .M ah ?_
 refine .o1 (tk rfl rfl fun _ w hn k=>(by
  exact x_eaddr (k:=.u16) rfl elU (k.eq1 0 17 rfl) (k.eq1 1 18 rfl) (hra.new_ (ab.transNew hn)) (by omega) fun cd ce hme=>⟨cd,ce,rfl,hme⟩)) ?_
 refine .o1 (tk rfl rfl fun _ w hn k=>(by
  obtain⟨dd,de,cf,bv⟩:=k.G 2 19
  exact⟨_,v_load rfl cf (l_one isAgg79 bv.1),rfl⟩)) ?_
 refine .M ax<| .M ah ?_
 refine .o1 (tk rfl rfl fun _ w hn k=>(by
  exact x_eaddr (k:=.u16) rfl elU (k.eq1 4 21 rfl) (k.eq1 5 22 rfl) (hrb.new_ (ab.transNew hn)) (by omega) fun ch ci hme=>⟨ch,ci,rfl,hme⟩)) ?_
 refine .o1 (tk rfl rfl fun _ w hn k=>(by
  obtain⟨df,dg,cj,bw⟩:=k.G 6 23
  exact⟨_,v_load rfl cj (l_one isAgg79 bw.1),rfl⟩)) ?_
 exact .T (fun k=>v_bin rfl (k.eq1 3 20 rfl) (k.eq1 7 24 rfl) (fun _=>rfl) (r_neq ae)) .nil
 refine aftI ad ar ab fun dh di aG bx aI cx an=>?_
 have⟨dj,dk,cy⟩:=an.f3 ah aw ax
 have bz:=an.g 8 25
 refine aD _ _<| wt bz<| wk fun cz aJ=>?_
 refine wA tr1 [] 26 [vF] aG ?_ ?_
 exact .c .nil
 refine aftI aG bx aI fun cA cB cl aK aL cm aM=>?_
 have bA:=aM.g 0 4
 refine aJ _ _<| wp_ret (ret_k aK (v:=.bool false) (res_t rfl bA _) ?_)
 exact⟨by rw [decide_eq_false (fun e=>by rw [e] at ak; exact ak rfl)],aL⟩
 have aH:=oF ag
 have aN:=hB a4 ag
 refine wf aN<| wp_exit ?_
 refine bb _ _<| wk fun cC aO=>?_
 refine wA tr1 [] 26 [vT] ad ?_ ?_
 exact .c .nil
 refine aftI ad ar ab fun cD cE cn aP aQ co aR=>?_
 have bB:=aR.g 0 4
 refine aO _ _<| wp_ret (ret_k aP (v:=.bool true) (res_t rfl bB _) ?_)
 exact⟨by rw [decide_eq_true (eq_all (by omega) (by omega:i=a.length) heq)],aQ⟩
 have ai:=oF af
 refine wA tr5 [] 26 [ve (sv Aa a ca),ve (iv (a.length:Int)),ve (sv Ab b cb),ve (iv (b.length:Int)),vT] av ?_ ?_
 exact .M h8<| .T (fun k=>v_lenR rfl elU (k.eq1 0 6 rfl))<| .M h9<| .T (fun k=>v_lenR rfl elU (k.eq1 2 8 rfl))<| .T (fun k=>v_bin rfl (k.eq1 1 7 rfl) (k.eq1 3 9 rfl) (fun _=>rfl) (r_neq af)) .nil
 refine aftI av aY az fun cF cG ay aS aT cp ao=>?_
 have⟨cH,cI⟩:=ao.f2 h8 h9
 have bC:=ao.g 4 10
 refine aA _ _<| wt bC<| wk fun cJ aU=>?_
 refine wA tr1 [] 26 [vF] ay ?_ ?_
 exact .c .nil
 refine aftI ay aS aT fun cK cL cq aV aW cr aX=>?_
 have bD:=aX.g 0 4
 refine aU _ _<| wp_ret (ret_k aV (v:=.bool false) (res_t rfl bD _) ?_)
 exact⟨by rw [decide_eq_false (fun e=>by rw [e] at ai; exact ai rfl)],aW⟩
theorem vsame_c (v:Vl) (Av:Option Addr) (cv:Nat) (Bv:Option Addr) (dv:Nat) (u:Vl) (Au:Option Addr) (cu:Nat) (Bu:Option Addr) (du:Nat) (w:World) (hmv:SRow w .u32 Av v.mag cv) (hsv:SRow w .u16 Bv v.s dv) (hmu:SRow w .u32 Au u.mag cu) (hsu:SRow w .u16 Bu u.s du):Calls prog 105 #[vv v Av cv Bv dv,vv u Au cu Bu du] w (IsRet (.bool (sameV v u)) w):=by
 refine enter_abs func105 rfl fun a0 af ap hp=>?_
 have af:a0.tmps.size=49:=af
 have ag:New w w:=Upd.refl _ _
 have hp0:a0.eval (.tmp 0)=vv v Av cv Bv dv:=hp 0 _ rfl
 have hp1:a0.eval (.tmp 1)=vv u Au cu Bu du:=hp 1 _ rfl
 refine wk fun K1 aq=>?_
 refine wB tr3 [] [] 49 [IsNew w 29 (c7 v Av cv Bv dv),IsNew w 29 (c7 u Au cu Bu du),vF] [0,1] af ?_ heN ?_
 exact .X hp0<| .X hp1<| .c .nil
 refine aftI af ap ag fun a2 w3 ah ar ad az ai=>?_
 obtain⟨q9,h8,aj,aa⟩:=ai.G 0 2
 obtain⟨ac,ae,ak,ab⟩:=ai.G 1 3
 have av:=Nat.le_trans ag.size aj
 have aw:=Nat.le_trans ag.size ak
 refine aq _ _ <| wk fun aA al=>?_
 refine wA tr45 [] 49 [ve (pv q9),ve (iv v.k),ve (pv ac),ve (iv u.k),ve (.bool (decide (v.k=u.k))),ve (.bool (decide (v.k=u.k))),ve (gq (decide (v.k=u.k)) (.pointer (some ⟨q9,1,none⟩))),ve (gq (decide (v.k=u.k)) (nv (Nm.mk v.nk v.nn))),ve (gq (decide (v.k=u.k)) (.pointer (some ⟨ac,1,none⟩))),ve (gq (decide (v.k=u.k)) (nv (Nm.mk u.nk u.nn))),ve (gq (decide (v.k=u.k)) (.bool (decide (v.nk=u.nk) && decide (v.nn=u.nn)))),ve (.bool ((decide (v.k=u.k)) && (decide (v.nk=u.nk) && decide (v.nn=u.nn)))),ve (.bool ((decide (v.k=u.k)) && (decide (v.nk=u.nk) && decide (v.nn=u.nn)))),ve (gq ((decide (v.k=u.k)) && (decide (v.nk=u.nk) && decide (v.nn=u.nn))) (.pointer (some ⟨q9,3,none⟩))),ve (gq ((decide (v.k=u.k)) && (decide (v.nk=u.nk) && decide (v.nn=u.nn))) (.pointer (some ⟨q9,3,none⟩))),ve (gq ((decide (v.k=u.k)) && (decide (v.nk=u.nk) && decide (v.nn=u.nn))) (.bool v.neg)),ve (gq ((decide (v.k=u.k)) && (decide (v.nk=u.nk) && decide (v.nn=u.nn))) (.pointer (some ⟨ac,3,none⟩))),ve (gq ((decide (v.k=u.k)) && (decide (v.nk=u.nk) && decide (v.nn=u.nn))) (.pointer (some ⟨ac,3,none⟩))),ve (gq ((decide (v.k=u.k)) && (decide (v.nk=u.nk) && decide (v.nn=u.nn))) (.bool u.neg)),ve (gq ((decide (v.k=u.k)) && (decide (v.nk=u.nk) && decide (v.nn=u.nn))) (.bool (v.neg == u.neg))),ve (.bool (((decide (v.k=u.k)) && (decide (v.nk=u.nk) && decide (v.nn=u.nn))) && (v.neg == u.neg))),ve (.bool (((decide (v.k=u.k)) && (decide (v.nk=u.nk) && decide (v.nn=u.nn))) && (v.neg == u.neg))),ve (gq (((decide (v.k=u.k)) && (decide (v.nk=u.nk) && decide (v.nn=u.nn))) && (v.neg == u.neg)) (.pointer (some ⟨q9,3,none⟩))),ve (gq (((decide (v.k=u.k)) && (decide (v.nk=u.nk) && decide (v.nn=u.nn))) && (v.neg == u.neg)) (.pointer (some ⟨q9,4,none⟩))),ve (gq (((decide (v.k=u.k)) && (decide (v.nk=u.nk) && decide (v.nn=u.nn))) && (v.neg == u.neg)) (sv Av v.mag cv)),ve (gq (((decide (v.k=u.k)) && (decide (v.nk=u.nk) && decide (v.nn=u.nn))) && (v.neg == u.neg)) (.pointer (some ⟨ac,3,none⟩))),ve (gq (((decide (v.k=u.k)) && (decide (v.nk=u.nk) && decide (v.nn=u.nn))) && (v.neg == u.neg)) (.pointer (some ⟨ac,4,none⟩))),ve (gq (((decide (v.k=u.k)) && (decide (v.nk=u.nk) && decide (v.nn=u.nn))) && (v.neg == u.neg)) (sv Au u.mag cu)),ve (gq (((decide (v.k=u.k)) && (decide (v.nk=u.nk) && decide (v.nn=u.nn))) && (v.neg == u.neg)) (.bool (decide (v.mag=u.mag)))),ve (.bool ((((decide (v.k=u.k)) && (decide (v.nk=u.nk) && decide (v.nn=u.nn))) && (v.neg == u.neg)) && (decide (v.mag=u.mag)))),ve (.bool ((((decide (v.k=u.k)) && (decide (v.nk=u.nk) && decide (v.nn=u.nn))) && (v.neg == u.neg)) && (decide (v.mag=u.mag)))),ve (gq ((((decide (v.k=u.k)) && (decide (v.nk=u.nk) && decide (v.nn=u.nn))) && (v.neg == u.neg)) && (decide (v.mag=u.mag))) (.pointer (some ⟨q9,5,none⟩))),ve (gq ((((decide (v.k=u.k)) && (decide (v.nk=u.nk) && decide (v.nn=u.nn))) && (v.neg == u.neg)) && (decide (v.mag=u.mag))) (sv Bv v.s dv)),ve (gq ((((decide (v.k=u.k)) && (decide (v.nk=u.nk) && decide (v.nn=u.nn))) && (v.neg == u.neg)) && (decide (v.mag=u.mag))) (.pointer (some ⟨ac,5,none⟩))),ve (gq ((((decide (v.k=u.k)) && (decide (v.nk=u.nk) && decide (v.nn=u.nn))) && (v.neg == u.neg)) && (decide (v.mag=u.mag))) (sv Bu u.s du)),ve (gq ((((decide (v.k=u.k)) && (decide (v.nk=u.nk) && decide (v.nn=u.nn))) && (v.neg == u.neg)) && (decide (v.mag=u.mag))) (.bool (decide (v.s=u.s)))),ve (.bool (((((decide (v.k=u.k)) && (decide (v.nk=u.nk) && decide (v.nn=u.nn))) && (v.neg == u.neg)) && (decide (v.mag=u.mag))) && (decide (v.s=u.s)))),ve (.bool (((((decide (v.k=u.k)) && (decide (v.nk=u.nk) && decide (v.nn=u.nn))) && (v.neg == u.neg)) && (decide (v.mag=u.mag))) && (decide (v.s=u.s)))),ve (gq (((((decide (v.k=u.k)) && (decide (v.nk=u.nk) && decide (v.nn=u.nn))) && (v.neg == u.neg)) && (decide (v.mag=u.mag))) && (decide (v.s=u.s))) (.pointer (some ⟨q9,6,none⟩))),ve (gq (((((decide (v.k=u.k)) && (decide (v.nk=u.nk) && decide (v.nn=u.nn))) && (v.neg == u.neg)) && (decide (v.mag=u.mag))) && (decide (v.s=u.s))) (iv v.ref)),ve (gq (((((decide (v.k=u.k)) && (decide (v.nk=u.nk) && decide (v.nn=u.nn))) && (v.neg == u.neg)) && (decide (v.mag=u.mag))) && (decide (v.s=u.s))) (.pointer (some ⟨ac,6,none⟩))),ve (gq (((((decide (v.k=u.k)) && (decide (v.nk=u.nk) && decide (v.nn=u.nn))) && (v.neg == u.neg)) && (decide (v.mag=u.mag))) && (decide (v.s=u.s))) (iv u.ref)),ve (gq (((((decide (v.k=u.k)) && (decide (v.nk=u.nk) && decide (v.nn=u.nn))) && (v.neg == u.neg)) && (decide (v.mag=u.mag))) && (decide (v.s=u.s))) (.bool (decide (v.ref=u.ref)))),ve (.bool ((((((decide (v.k=u.k)) && (decide (v.nk=u.nk) && decide (v.nn=u.nn))) && (v.neg == u.neg)) && (decide (v.mag=u.mag))) && (decide (v.s=u.s))) && (decide (v.ref=u.ref)))),ve (.bool ((((((decide (v.k=u.k)) && (decide (v.nk=u.nk) && decide (v.nn=u.nn))) && (v.neg == u.neg)) && (decide (v.mag=u.mag))) && (decide (v.s=u.s))) && (decide (v.ref=u.ref))))] ah ?_ ?_
 exact .F h8<| .J 0 isAgg3 aa<| .F ae<| .J 2 isAgg3 ab<| .T (fun k=>v_bin rfl (k.eq1 1 6 rfl) (k.eq1 3 8 rfl) (fun _=>rfl) (r_eql rfl))<| .N 4<| .Q (fun k=>g0 (k.eq1 5 10 rfl)) (fun hG n k=>v_field rfl (k.fx 2 h8) (fun w=>rfl))<| .Q (fun k=>g0 (k.eq1 5 10 rfl)) (fun hG n k=>v_load rfl (cT hG (k.eq1 6 11 rfl)) (l_part isAgg23 sizeOf23 (aa.new_ n) lb))<| .Q (fun k=>g0 (k.eq1 5 10 rfl)) (fun hG n k=>v_field rfl (k.fx 3 ae) (fun w=>rfl))<| .Q (fun k=>g0 (k.eq1 5 10 rfl)) (fun hG n k=>v_load rfl (cT hG (k.eq1 8 13 rfl)) (l_part isAgg23 sizeOf23 (ab.new_ n) lb))<| .Q (fun k=>g0 (k.eq1 5 10 rfl)) (fun hG n k=>v_bin rfl (cT hG (k.eq1 7 12 rfl)) (cT hG (k.eq1 9 14 rfl)) (gNum _ _ _ _) (eqlNum _ _ _ _ rfl))<| .O 5 10<| .N 11<| .Q (fun k=>g0 (k.eq1 12 17 rfl)) (fun hG n k=>v_field rfl (k.fx 2 h8) (fun w=>rfl))<| .Q (fun k=>g0 (k.eq1 12 17 rfl)) (fun hG n k=>v_field rfl (cT hG (k.eq1 13 18 rfl)) (fun w=>rfl))<| .Q (fun k=>g0 (k.eq1 12 17 rfl)) (fun hG n k=>v_load rfl (cT hG (k.eq1 14 19 rfl)) (l_one isAgg4 ((aa.new_ n).cell 3)))<| .Q (fun k=>g0 (k.eq1 12 17 rfl)) (fun hG n k=>v_field rfl (k.fx 3 ae) (fun w=>rfl))<| .Q (fun k=>g0 (k.eq1 12 17 rfl)) (fun hG n k=>v_field rfl (cT hG (k.eq1 16 21 rfl)) (fun w=>rfl))<| .Q (fun k=>g0 (k.eq1 12 17 rfl)) (fun hG n k=>v_load rfl (cT hG (k.eq1 17 22 rfl)) (l_one isAgg4 ((ab.new_ n).cell 3)))<| .Q (fun k=>g0 (k.eq1 12 17 rfl)) (fun hG n k=>v_bin rfl (cT hG (k.eq1 15 20 rfl)) (cT hG (k.eq1 18 23 rfl)) (fun _=>rfl) (r_eqlB _ _))<| .O 12 19<| .N 20<| .Q (fun k=>g0 (k.eq1 21 26 rfl)) (fun hG n k=>v_field rfl (k.fx 2 h8) (fun w=>rfl))<| .Q (fun k=>g0 (k.eq1 21 26 rfl)) (fun hG n k=>v_field rfl (cT hG (k.eq1 22 27 rfl)) (fun w=>rfl))<| .Q (fun k=>g0 (k.eq1 21 26 rfl)) (fun hG n k=>v_load rfl (cT hG (k.eq1 23 28 rfl)) (l_one isAgg24 ((aa.new_ n).cell 4)))<| .Q (fun k=>g0 (k.eq1 21 26 rfl)) (fun hG n k=>v_field rfl (k.fx 3 ae) (fun w=>rfl))<| .Q (fun k=>g0 (k.eq1 21 26 rfl)) (fun hG n k=>v_field rfl (cT hG (k.eq1 25 30 rfl)) (fun w=>rfl))<| .Q (fun k=>g0 (k.eq1 21 26 rfl)) (fun hG n k=>v_load rfl (cT hG (k.eq1 26 31 rfl)) (l_one isAgg24 ((ab.new_ n).cell 4)))<| .o1 (scC (G:=(((decide (v.k=u.k)) && (decide (v.nk=u.nk) && decide (v.nn=u.nn))) && (v.neg == u.neg))) rfl rfl rfl (fun _ _ k=>g0 (k.eq1 21 26 rfl)) rfl (fun hG _ w hn k=>⟨#[sv Av v.mag cv,sv Au u.mag cu],args2 (cT hG (k.eq1 24 29 rfl)) (cT hG (k.eq1 27 32 rfl)),fun _=>by kernel_rfl,sequal32_c _ v.mag _ _ u.mag _ _ (hmv.new_ (ad.transNew hn)) (hmu.new_ (ad.transNew hn))⟩))<| .O 21 28<| .N 29<| .Q (fun k=>g0 (k.eq1 30 35 rfl)) (fun hG n k=>v_field rfl (k.fx 2 h8) (fun w=>rfl))<| .Q (fun k=>g0 (k.eq1 30 35 rfl)) (fun hG n k=>v_load rfl (cT hG (k.eq1 31 36 rfl)) (l_one isAgg27 ((aa.new_ n).cell 5)))<| .Q (fun k=>g0 (k.eq1 30 35 rfl)) (fun hG n k=>v_field rfl (k.fx 3 ae) (fun w=>rfl))<| .Q (fun k=>g0 (k.eq1 30 35 rfl)) (fun hG n k=>v_load rfl (cT hG (k.eq1 33 38 rfl)) (l_one isAgg27 ((ab.new_ n).cell 5)))<| .o1 (scC (G:=((((decide (v.k=u.k)) && (decide (v.nk=u.nk) && decide (v.nn=u.nn))) && (v.neg == u.neg)) && (decide (v.mag=u.mag)))) rfl rfl rfl (fun _ _ k=>g0 (k.eq1 30 35 rfl)) rfl (fun hG _ w hn k=>⟨#[sv Bv v.s dv,sv Bu u.s du],args2 (cT hG (k.eq1 32 37 rfl)) (cT hG (k.eq1 34 39 rfl)),fun _=>by kernel_rfl,sequal16_c _ v.s _ _ u.s _ _ (hsv.new_ (ad.transNew hn)) (hsu.new_ (ad.transNew hn))⟩))<| .O 30 35<| .N 36<| .Q (fun k=>g0 (k.eq1 37 42 rfl)) (fun hG n k=>v_field rfl (k.fx 2 h8) (fun w=>rfl))<| .Q (fun k=>g0 (k.eq1 37 42 rfl)) (fun hG n k=>v_load rfl (cT hG (k.eq1 38 43 rfl)) (l_one isAgg3 ((aa.new_ n).cell 6)))<| .Q (fun k=>g0 (k.eq1 37 42 rfl)) (fun hG n k=>v_field rfl (k.fx 3 ae) (fun w=>rfl))<| .Q (fun k=>g0 (k.eq1 37 42 rfl)) (fun hG n k=>v_load rfl (cT hG (k.eq1 40 45 rfl)) (l_one isAgg3 ((ab.new_ n).cell 6)))<| .Q (fun k=>g0 (k.eq1 37 42 rfl)) (fun hG n k=>v_bin rfl (cT hG (k.eq1 39 44 rfl)) (cT hG (k.eq1 41 46 rfl)) (fun _=>rfl) (r_eql rfl))<| .O 37 42<| .B 43 .nil
 refine aftI ah ar ad fun aB aC ax am an ay ao=>?_
 have au:=ao.g 44 4
 refine al _ _<| wp_ret (ret_k am (v:=.bool ((((((decide (v.k=u.k)) && (decide (v.nk=u.nk) && decide (v.nn=u.nn))) && (v.neg == u.neg)) && (decide (v.mag=u.mag))) && (decide (v.s=u.s))) && (decide (v.ref=u.ref)))) (res_t rfl au _) ?_)
 refine ⟨?_,an⟩
 show Ending.returned (.bool ((((((decide (v.k=u.k)) && (decide (v.nk=u.nk) && decide (v.nn=u.nn))) && (v.neg == u.neg)) && (decide (v.mag=u.mag))) && (decide (v.s=u.s))) && (decide (v.ref=u.ref))))=Ending.returned (.bool (sameV v u))
 first|rfl|(simp only [sameV,bsm] <;> rfl)|(exfalso; omega)
theorem none_c (v:Vl) (Av:Option Addr) (cv:Nat) (Bv:Option Addr) (dv:Nat) (w:World) (hmv:SRow w .u32 Av v.mag cv) (hsv:SRow w .u16 Bv v.s dv):Calls prog 59 #[vv v Av cv Bv dv] w (IsRet (.bool (decide (v.k=0) || decide (v.k=1))) w):=by
 refine enter_abs func59 rfl fun a0 aa ak hp=>?_
 have aa:a0.tmps.size=11:=aa
 have ac:New w w:=Upd.refl _ _
 have hp0:a0.eval (.tmp 0)=vv v Av cv Bv dv:=hp 0 _ rfl
 refine wk fun K1 al=>?_
 refine wB tr2 [] [] 11 [IsNew w 29 (c7 v Av cv Bv dv),vF] [0] aa ?_ heN ?_
 exact .X hp0<| .c .nil
 refine aftI aa ak ac fun a2 w3 ad am ae au an=>?_
 obtain⟨q9,h8,af,ab⟩:=an.G 0 1
 have ap:=Nat.le_trans ac.size af
 refine al _ _ <| wk fun av ag=>?_
 refine wA tr9 [] 11 [ve (pv q9),ve (iv v.k),ve (.bool (decide (v.k=0))),ve (.bool (decide (v.k=0))),ve (gq (!(decide (v.k=0))) (pv q9)),ve (gq (!(decide (v.k=0))) (iv v.k)),ve (gq (!(decide (v.k=0))) (.bool (decide (v.k=1)))),ve (.bool ((decide (v.k=0)) || (decide (v.k=1)))),ve (.bool ((decide (v.k=0)) || (decide (v.k=1))))] ad ?_ ?_
 exact .F h8<| .J 0 isAgg3 ab<| .b 1 (r_eql rfl)<| .N 2<| .Q (fun k=>g0' (k.eq1 3 6 rfl)) (fun hG n k=>v_field rfl (k.fx 1 h8) (fun w=>rfl))<| .Q (fun k=>g0' (k.eq1 3 6 rfl)) (fun hG n k=>v_load rfl (cT hG (k.eq1 4 7 rfl)) (l_one isAgg3 ((ab.new_ n).cell 0)))<| .Q (fun k=>g0' (k.eq1 3 6 rfl)) (fun hG n k=>v_bin rfl (cT hG (k.eq1 5 8 rfl)) rfl (fun _=>rfl) (r_eql rfl))<| .W 3 6<| .B 7 .nil
 refine aftI ad am ae fun aw ax aq ah ai ar aj=>?_
 have ao:=aj.g 8 2
 refine ag _ _<| wp_ret (ret_k ah (v:=.bool ((decide (v.k=0)) || (decide (v.k=1)))) (res_t rfl ao _) ?_)
 refine ⟨?_,ai⟩
 show Ending.returned (.bool ((decide (v.k=0)) || (decide (v.k=1))))=Ending.returned (.bool (decide (v.k=0) || decide (v.k=1)))
 first|rfl|(simp only [bsm] <;> rfl)|(exfalso; omega)
theorem cnum_c (a:Nm) (w:World):Calls prog 39 #[nv a] w (IsRet (vv (Vl.mk 3 a.k a.n false [] [] 0) none 0 none 0) w):=by
 refine enter_abs func39 rfl fun a0 aa aA hp=>?_
 have aa:a0.tmps.size=5:=aa
 have ab:New w w:=Upd.refl _ _
 have hp0:a0.eval (.tmp 0)=nv a:=hp 0 _ rfl
 refine wk fun K1 aB=>?_
 refine wB tr2 [] [] 5 [IsNew w 23 [iv a.k,iv a.n],IsNew w 29 z7] [0,1] aa ?_ heN ?_
 exact .X hp0<| .Y .nil
 refine aftI aa aA ab fun a2 w3 ag aC ak aJ ac=>?_
 obtain⟨q9,h8,al,am⟩:=ac.G 0 1
 obtain⟨ah,ai,an,ao⟩:=ac.G 1 2
 have hne16:=ac.ne 0 1 1 2 h8 ai
 have aF:=Nat.le_trans ab.size al
 have aG:=Nat.le_trans ab.size an
 refine aB _ _ <| wk fun aK ap=>?_
 refine wA [true,true,false] [(2,false)] 5 [ve (nv a),ve (vv (Vl.mk 3 a.k a.n false [] [] 0) none 0 none 0),vt] ag ?_ ?_
 exact .L2 h8 am<| .T (fun k=>v_build (ps:=[(0,iv 3),(1,nv a)]) rfl (parts2 rfl (k.eq1 0 3 rfl)) (by kernel_rfl))<| .off .nil
 refine aftI ag aC ak fun aL aM aH aq ar au ad=>?_
 have aj:=ad.f1 ai
 have aD:=ad.g 1 4
 have av:=ao.new_ au
 refine sS9 aj aD av fun aE ax aw aI=>?_
 have az:=ar.tR aw
 refine ap _ _<| wp_ret (ret_k aq (v:=vv (Vl.mk 3 a.k a.n false [] [] 0) none 0 none 0) (res_c rfl aj (l_agg isAgg29 sizeOf29 ax rfl)) ?_)
 exact⟨rfl,az⟩
def counted_c_P (v:Vl) (Av:Option Addr) (cv:Nat) (Bv:Option Addr) (dv:Nat) (w:World) (en:Ending) (w':World):Prop:=∃ (Ar0:Option Addr) (cr0:Nat) (Ar1:Option Addr) (cr1:Nat),en=.returned (vv (countedV v) Ar0 cr0 Ar1 cr1)∧SRow w' .u32 Ar0 ((countedV v).mag) cr0∧SRow w' .u16 Ar1 ((countedV v).s) cr1∧New w w'
theorem counted_c (v:Vl) (Av:Option Addr) (cv:Nat) (Bv:Option Addr) (dv:Nat) (w:World) (hmv:SRow w .u32 Av v.mag cv) (hsv:SRow w .u16 Bv v.s dv):Calls prog 60 #[vv v Av cv Bv dv] w (counted_c_P v Av cv Bv dv w):=by
 refine enter_abs func60 rfl fun a0 ag a7 hp=>?_
 have ag:a0.tmps.size=11:=ag
 have ah:New w w:=Upd.refl _ _
 have hp0:a0.eval (.tmp 0)=vv v Av cv Bv dv:=hp 0 _ rfl
 refine wk fun K1 a8=>?_
 refine wB tr2 [] [] 11 [IsNew w 29 (c7 v Av cv Bv dv),IsNew w 29 z7] [0,1] ag ?_ heN ?_
 exact .X hp0<| .Y .nil
 refine aftI ag a7 ah fun a2 w3 az a9 aG bl ai=>?_
 obtain⟨q9,h8,aH,aj⟩:=ai.G 0 1
 obtain⟨ak,aA,aI,aJ⟩:=ai.G 1 2
 have hne16:=ai.ne 0 1 1 2 h8 aA
 have bf:=Nat.le_trans ah.size aH
 have bg:=Nat.le_trans ah.size aI
 refine a8 _ _ <| wk fun bm aK=>?_
 refine wk fun bn aL=>?_
 refine wA tr3 [] 11 [ve (pv q9),ve (iv v.k),ve (.bool (decide (v.k=2)))] az ?_ ?_
 exact .F h8<| .J 0 isAgg3 aj<| .b 1 (r_eql rfl) .nil
 refine aftI az a9 aG fun bo bp ab al am an ae=>?_
 have⟨aB,aC⟩:=ae.f2 h8 aA
 have aD:=ae.g 2 5
 have⟨ao,ap⟩:=nw2 an aj aJ
 refine aL _ _ ?_
 rcases bc (decide (v.k=2)) with aa|aa
 have au:=oT aa
 have aM:=hB aD aa
 refine wt aM<| wk fun bq aN=>?_
 refine wA [true,true,true,true,false] [(4,false)] 11 [ve (.pointer (some ⟨q9,6,none⟩)),ve (iv v.ref),ve (nv (Nm.mk 0 v.ref)),ve (vv (Vl.mk 3 0 v.ref false [] [] 0) none 0 none 0),vt] ab ?_ ?_
 exact .F aB<| .J 0 isAgg3 ao<| .T (fun k=>v_build (ps:=[(1,iv v.ref)]) rfl (parts1 (k.eq1 1 7 rfl)) (by kernel_rfl))<| .C 2 (fun n=>cnum_c (Nm.mk 0 v.ref) _)<| .off .nil
 refine aftI ab al am fun br bs bh aO aP aQ aq=>?_
 have aE:=aq.f1 aC
 have ba:=aq.g 3 9
 have aR:=ap.new_ aQ
 refine sS9 aE ba aR fun bb aT aS bi=>?_
 have aV:=aP.tR aS
 refine aN _ _<| wp_ret (ret_k aO (v:=vv (Vl.mk 3 0 v.ref false [] [] 0) none 0 none 0) (res_c rfl aE (l_agg isAgg29 sizeOf29 aT rfl)) ?_)
 exact rW (by first|rfl|(simp only [countedV,aa,bsm] <;> rfl)|(exfalso; omega)) aV
 have au:=oF aa
 have aW:=hB aD aa
 refine wf aW<| ws<| aK _ _<| wk fun bu aX=>?_
 refine wA [true,false] [(1,false)] 11 [ve (vv v Av cv Bv dv),vt] ab ?_ ?_
 exact .L9 aB ao<| .off .nil
 refine aftI ab al am fun bv bw bj aY aZ a1 ar=>?_
 have aF:=ar.f1 aC
 have bd:=ar.g 0 10
 have a3:=ap.new_ a1
 refine sS9 aF bd a3 fun be a5 a4 bk=>?_
 have af:=aZ.tR a4
 refine aX _ _<| wp_ret (ret_k aY (v:=vv v Av cv Bv dv) (res_c rfl aF (l_agg isAgg29 sizeOf29 a5 rfl)) ?_)
 have ac:(countedV v).mag=v.mag:=by first|rfl|(simp only [countedV,aa,bsm] <;> rfl)|(exfalso; omega)
 have ad:(countedV v).s=v.s:=by first|rfl|(simp only [countedV,aa,bsm] <;> rfl)|(exfalso; omega)
 exact⟨Av,cv,Bv,dv,(by show Ending.returned (vv v Av cv Bv dv)=Ending.returned (vv (countedV v) Av cv Bv dv); (first|rfl|(simp only [countedV,aa,ac,ad,bsm] <;> rfl)|(exfalso; omega))),(by rw [ac]; exact (hmv.new_ af)),(by rw [ad]; exact (hsv.new_ af)),af⟩
def truth_c_P (t:Bool) (w:World) (en:Ending) (w':World):Prop:=∃ (Ar0:Option Addr) (cr0:Nat) (Ar1:Option Addr) (cr1:Nat),en=.returned (vv (truthV t) Ar0 cr0 Ar1 cr1)∧SRow w' .u32 Ar0 ((truthV t).mag) cr0∧SRow w' .u16 Ar1 ((truthV t).s) cr1∧New w w'
theorem truth_c (t:Bool) (w:World):Calls prog 28 #[.bool t] w (truth_c_P t w):=by
 refine enter_abs func28 rfl fun a0 ae aZ hp=>?_
 have ae:a0.tmps.size=6:=ae
 have ap:New w w:=Upd.refl _ _
 have hp0:a0.eval (.tmp 0)=.bool t:=hp 0 _ rfl
 refine wk fun K1 a1=>?_
 refine wB tr1 [] [] 6 [IsNew w 29 z7] [0] ae ?_ heN ?_
 exact .Y .nil
 refine aftI ae aZ ap fun a2 w3 aq a3 az be ar=>?_
 have h8:=ar.f1 hp0
 obtain⟨au,h9,aA,aB⟩:=ar.G 0 2
 have a8:=Nat.le_trans ap.size aA
 refine a1 _ _ <| wk fun bf aC=>?_
 refine wk fun bg aD=>?_
 refine wA tr1 [] 6 [ve (.bool t)] aq ?_ ?_
 exact .M h8 .nil
 refine aftI aq a3 az fun bh bi ab af ag aE ah=>?_
 have av:=ah.f1 h9
 have aw:=ah.g 0 3
 have ai:=aB.new_ aE
 refine aD _ _ ?_
 rcases bc (t) with aa|aa
 have aF:=hB aw aa
 refine wt aF<| wk fun bj aG=>?_
 refine wA [true,false] [(1,false)] 6 [ve (vv (Vl.mk 2 0 0 false [] [] 1) none 0 none 0),vt] ab ?_ ?_
 exact .T (fun k=>v_build (ps:=[(0,iv 2),(4,iv 1)]) rfl (parts2 rfl rfl) (by kernel_rfl))<| .off .nil
 refine aftI ab af ag fun bk bl a9 aH aI aJ aj=>?_
 have ax:=aj.f1 av
 have a4:=aj.g 0 4
 have aK:=ai.new_ aJ
 refine sS9 ax a4 aK fun a5 aM aL ba=>?_
 have aO:=aI.tR aL
 refine aG _ _<| wp_ret (ret_k aH (v:=vv (Vl.mk 2 0 0 false [] [] 1) none 0 none 0) (res_c rfl ax (l_agg isAgg29 sizeOf29 aM rfl)) ?_)
 exact rW (by first|rfl|(simp only [truthV,aa,bsm] <;> rfl)|(exfalso; omega)) aO
 have aP:=hB aw aa
 refine wf aP<| ws<| aC _ _<| wk fun bn aQ=>?_
 refine wA [true,false] [(1,false)] 6 [ve (vv (Vl.mk 2 0 0 false [] [] 0) none 0 none 0),vt] ab ?_ ?_
 exact .T (fun k=>v_build (ps:=[(0,iv 2)]) rfl (parts1 rfl) (by kernel_rfl))<| .off .nil
 refine aftI ab af ag fun bo bp bb aR aS aT ak=>?_
 have ay:=ak.f1 av
 have a6:=ak.g 0 5
 have aU:=ai.new_ aT
 refine sS9 ay a6 aU fun a7 aW aV bd=>?_
 have aY:=aS.tR aV
 refine aQ _ _<| wp_ret (ret_k aR (v:=vv (Vl.mk 2 0 0 false [] [] 0) none 0 none 0) (res_c rfl ay (l_agg isAgg29 sizeOf29 aW rfl)) ?_)
 exact rW (by first|rfl|(simp only [truthV,aa,bsm] <;> rfl)|(exfalso; omega)) aY
theorem alike_c (a:Bool) (Aa:Option Addr) (ma:List Nat) (ca:Nat) (x:Nm) (w:World) (hra:SRow w .u32 Aa ma ca) (ha:Limbs ma) (hs:ma.length≤1000000) (hlo:-9223372036854775808≤x.n) (hhi:x.n≤9223372036854775807):Calls prog 61 #[.agg #[.bool a,sv Aa ma ca],nv x] w (IsRet (.bool (alikeB a ma x)) w):=by
 refine enter_abs func61 rfl fun a0 ao aP hp=>?_
 have ao:a0.tmps.size=26:=ao
 have ap:New w w:=Upd.refl _ _
 have hp0:a0.eval (.tmp 0)=.agg #[.bool a,sv Aa ma ca]:=hp 0 _ rfl
 have hp1:a0.eval (.tmp 1)=nv x:=hp 1 _ rfl
 have hnl:(canon x.n.natAbs).length≤8:=(canon_len8 _).2 (by omega)
 have hgn:=good_canon (z:=x.n) (by omega)
 refine wk fun K1 aQ=>?_
 refine wB tr3 [] [] 26 [IsNew w 26 [.bool a,sv Aa ma ca],IsNew w 23 [iv x.k,iv x.n],vF] [0,1] ao ?_ heN ?_
 exact .X hp0<| .X hp1<| .c .nil
 refine aftI ao aP ap fun a2 w3 af an ag bg aw=>?_
 obtain⟨q9,h8,ax,aj⟩:=aw.G 0 2
 obtain⟨ad,ae,ay,ab⟩:=aw.G 1 3
 have a3:=Nat.le_trans ap.size ax
 have a4:=Nat.le_trans ap.size ay
 refine aQ _ _ <| wk fun bh ak=>?_
 rcases bc (decide (x.k=1)) with aa|aa
 have aq:=oT aa
 rcases bc (decide ((ma.length:Int)=0)) with ac|ac
 have ar:=oT ac
 refine wA tr22 [] 26 [ve (pv ad),ve (iv x.k),vT,vT,ve (.pointer (some ⟨q9,1,none⟩)),ve (sv Aa ma ca),ve (iv (ma.length:Int)),vT,vT,vT,vU,vU,vU,vU,vU,vU,vU,vU,vU,vU,vT,vT] af ?_ ?_
 exact .F ae<| .J 0 isAgg3 ab<| .b 1 (r_eql aa)<| .N 2<| .gf (fun k=>k.eq1 3 8 rfl) (fun k=>k.fx 2 h8)<| .V (fun p k=>v_load rfl (k.eq1 4 9 rfl) (l_one isAgg24 ((aj.new_ p).cell 1)))<| .V (fun p k=>v_lenR rfl elW (k.eq1 5 10 rfl))<| .V (fun p k=>v_bin rfl (k.eq1 6 11 rfl) rfl (fun _=>rfl) (r_eql ac))<| .T (fun k=>v_pickT rfl (k.eq1 3 8 rfl) (k.eq1 7 12 rfl))<| .N 8<| .S<| .S<| .S<| .S<| .o1 (su rfl rfl rfl (fun _ _ _ k=>k.eq1 13 18 rfl) (fun _=>rfl))<| .o1 (su rfl rfl rfl (fun _ _ _ k=>k.eq1 13 18 rfl) (fun _=>rfl))<| .o1 (su rfl rfl rfl (fun _ _ _ k=>k.eq1 13 18 rfl) (fun _=>rfl))<| .o1 (su rfl rfl rfl (fun _ _ _ k=>k.eq1 13 18 rfl) (fun _=>rfl))<| .o1 (su rfl rfl rfl (fun _ _ _ k=>k.eq1 13 18 rfl) (fun _=>rfl))<| .S<| .T (fun k=>v_pickT rfl (k.eq1 9 14 rfl) rfl)<| .B 20 .nil
 refine aftI af an ag fun bi bj a5 az aA a6 aB=>?_
 have aR:=aB.g 21 4
 refine ak _ _<| wp_ret (ret_k az (v:=.bool true) (res_t rfl aR _) ?_)
 refine ⟨?_,aA⟩
 show Ending.returned (.bool true)=Ending.returned (.bool (alikeB a ma x))
 first|rfl|(simp only [alikeB,aa,ac,good_canon (z:=x.n) (by omega),bsm] <;> rfl)|(exfalso; omega)
 have ar:=oF ac
 rcases bc (decide (x.k=0)) with ah|ah
 have au:=oT ah
 refine wp_g0 (.replicate 22 true) [] 26
  [ve (pv ad),ve (iv x.k),vT,vT,ve (.pointer (some ⟨q9,1,none⟩)),ve (sv Aa ma ca),ve (iv (ma.length:Int)),vF,vF,vF,ve (pv ad),ve (iv x.k),vT,vT,ve (.agg #[.bool a,sv Aa ma ca]),ve (.pointer (some ⟨ad,1,none⟩)),ve (iv x.n),(fun (v_:Value) (W:World)=>∃ (A3:Option Addr) (c4:Nat),v_=.agg #[.bool (decide (x.n < 0)),sv A3 (canon (x.n).natAbs) c4]∧SRow W .u32 A3 (canon (x.n).natAbs) c4),ve (.bool (decide (goodI a ma=goodI (decide (x.n < 0)) (canon (x.n).natAbs)))),ve (.bool (decide (goodI a ma=goodI (decide (x.n < 0)) (canon (x.n).natAbs)))),ve (.bool (decide (goodI a ma=goodI (decide (x.n < 0)) (canon (x.n).natAbs)))),ve (.bool (decide (goodI a ma=goodI (decide (x.n < 0)) (canon (x.n).natAbs))))] af (.eq (.eq (.eq (.eq (.eq (.eq (.eq (.eq (.eq (.eq (.eq (.eq (.eq (.eq (.eq (.eq (.eq (.cons (fun _ _ _ n ⟨_,_,e,h⟩=>⟨_,_,e,h.new_ n⟩) (.eq (.eq (.eq (.eq .nil)))))))))))))))))))))) ?_ ?_
 refine .F ae<| .J 0 isAgg3 ab<| .b 1 (r_eql aa)<| .N 2<| .gf (fun k=>k.eq1 3 8 rfl) (fun k=>k.fx 2 h8)<| .V (fun p k=>v_load rfl (k.eq1 4 9 rfl) (l_one isAgg24 ((aj.new_ p).cell 1)))<| .V (fun p k=>v_lenR rfl elW (k.eq1 5 10 rfl))<| .V (fun p k=>v_bin rfl (k.eq1 6 11 rfl) rfl (fun _=>rfl) (r_eql ac))<| .T (fun k=>v_pickT rfl (k.eq1 3 8 rfl) (k.eq1 7 12 rfl))<| .N 8<| .gf (fun k=>k.eq1 9 14 rfl) (fun k=>k.fx 3 ae)<| .V (fun p k=>v_load rfl (k.eq1 10 15 rfl) (l_one isAgg3 ((ab.new_ p).cell 0)))<| .V (fun p k=>v_bin rfl (k.eq1 11 16 rfl) rfl (fun _=>rfl) (r_eql ah))<| .gm (fun k=>k.eq1 9 14 rfl) (fun k=>k.eq1 12 17 rfl)<| .V (fun p k=>v_load rfl (k.fx 2 h8) (l_two isAgg26 sizeOf26 (aj.new_ p)))<| .gf (fun k=>k.eq1 13 18 rfl) (fun k=>k.fx 3 ae)<| .V (fun p k=>v_load rfl (k.eq1 15 20 rfl) (l_one isAgg3 ((ab.new_ p).cell 1))) ?_
 refine .o1 (tkC rfl (onG rfl rfl fun _ _ k=>k.eq1 13 18 rfl) rfl fun _ w hn k=>(by
  refine ⟨#[iv x.n],_,args1 (k.eq1 16 21 rfl),fun w=>by kernel_rfl,bOf_c x.n _ (by omega) (by omega),?_⟩
  rintro e w' ⟨A1,c2,rfl,hmo0,hm⟩
  exact⟨_,rfl,hm,⟨A1,c2,rfl,hmo0⟩⟩)) ?_
 refine .o1 (tkC rfl (onG rfl rfl fun _ _ k=>k.eq1 13 18 rfl) rfl fun _ w hn k=>(by
  obtain⟨A5,c6,e7,aS⟩:=k.G 17 22
  refine ⟨#[.agg #[.bool a,sv Aa ma ca],.agg #[.bool (decide (x.n < 0)),sv A5 (canon (x.n).natAbs) c6]],_,args2 (k.eq1 14 19 rfl) e7,fun w=>by kernel_rfl,bSame_c a _ ma _ (decide (x.n < 0)) _ (canon (x.n).natAbs) _ _ (hra.new_ (ag.transNew hn)) aS ha (limbs_canon _) (by first|omega|(simp only [List.length_nil,List.length_take,List.length_drop]; omega)|(simp only [List.length_cons,List.length_nil]; omega)) (by first|omega|(simp only [List.length_nil,List.length_take,List.length_drop]; omega)|(simp only [List.length_cons,List.length_nil]; omega)),?_⟩
  rintro e w' ⟨rfl,hm⟩
  exact⟨_,rfl,hm,rfl⟩)) ?_
 exact .V (fun p k=>v_pickT rfl (k.eq1 13 18 rfl) (k.eq1 18 23 rfl))<| .T (fun k=>v_pickF rfl (k.eq1 9 14 rfl) (k.eq1 19 24 rfl))<| .B 20 .nil
 refine aftI af an ag fun bk bl a7 aC aD a8 aE=>?_
 have aT:=aE.g 21 4
 refine ak _ _<| wp_ret (ret_k aC (v:=.bool (decide (goodI a ma=goodI (decide (x.n < 0)) (canon (x.n).natAbs)))) (res_t rfl aT _) ?_)
 refine ⟨?_,aD⟩
 show Ending.returned (.bool (decide (goodI a ma=goodI (decide (x.n < 0)) (canon (x.n).natAbs))))=Ending.returned (.bool (alikeB a ma x))
 first|rfl|(simp only [alikeB,aa,ac,ah,good_canon (z:=x.n) (by omega),bsm] <;> rfl)|(exfalso; omega)
 have au:=oF ah
 refine wA tr22 [] 26 [ve (pv ad),ve (iv x.k),vT,vT,ve (.pointer (some ⟨q9,1,none⟩)),ve (sv Aa ma ca),ve (iv (ma.length:Int)),vF,vF,vF,ve (pv ad),ve (iv x.k),vF,vF,vU,vU,vU,vU,vU,vF,vF,vF] af ?_ ?_
 exact .F ae<| .J 0 isAgg3 ab<| .b 1 (r_eql aa)<| .N 2<| .gf (fun k=>k.eq1 3 8 rfl) (fun k=>k.fx 2 h8)<| .V (fun p k=>v_load rfl (k.eq1 4 9 rfl) (l_one isAgg24 ((aj.new_ p).cell 1)))<| .V (fun p k=>v_lenR rfl elW (k.eq1 5 10 rfl))<| .V (fun p k=>v_bin rfl (k.eq1 6 11 rfl) rfl (fun _=>rfl) (r_eql ac))<| .T (fun k=>v_pickT rfl (k.eq1 3 8 rfl) (k.eq1 7 12 rfl))<| .N 8<| .gf (fun k=>k.eq1 9 14 rfl) (fun k=>k.fx 3 ae)<| .V (fun p k=>v_load rfl (k.eq1 10 15 rfl) (l_one isAgg3 ((ab.new_ p).cell 0)))<| .V (fun p k=>v_bin rfl (k.eq1 11 16 rfl) rfl (fun _=>rfl) (r_eql ah))<| .gm (fun k=>k.eq1 9 14 rfl) (fun k=>k.eq1 12 17 rfl)<| .S<| .S<| .S<| .S<| .S<| .V (fun p k=>v_pickF rfl (k.eq1 13 18 rfl) rfl)<| .T (fun k=>v_pickF rfl (k.eq1 9 14 rfl) (k.eq1 19 24 rfl))<| .B 20 .nil
 refine aftI af an ag fun bm bn a9 aF aG ba aH=>?_
 have aU:=aH.g 21 4
 refine ak _ _<| wp_ret (ret_k aF (v:=.bool false) (res_t rfl aU _) ?_)
 refine ⟨?_,aG⟩
 show Ending.returned (.bool false)=Ending.returned (.bool (alikeB a ma x))
 first|rfl|(simp only [alikeB,aa,ac,ah,good_canon (z:=x.n) (by omega),bsm] <;> rfl)|(exfalso; omega)
 have aq:=oF aa
 rcases bc (decide (x.k=0)) with ai|ai
 have av:=oT ai
 refine wp_g0 (.replicate 22 true) [] 26
  [ve (pv ad),ve (iv x.k),vF,vF,vU,vU,vU,vU,vF,vF,ve (pv ad),ve (iv x.k),vT,vT,ve (.agg #[.bool a,sv Aa ma ca]),ve (.pointer (some ⟨ad,1,none⟩)),ve (iv x.n),(fun (v_:Value) (W:World)=>∃ (al:Option Addr) (am:Nat),v_=.agg #[.bool (decide (x.n < 0)),sv al (canon (x.n).natAbs) am]∧SRow W .u32 al (canon (x.n).natAbs) am),ve (.bool (decide (goodI a ma=goodI (decide (x.n < 0)) (canon (x.n).natAbs)))),ve (.bool (decide (goodI a ma=goodI (decide (x.n < 0)) (canon (x.n).natAbs)))),ve (.bool (decide (goodI a ma=goodI (decide (x.n < 0)) (canon (x.n).natAbs)))),ve (.bool (decide (goodI a ma=goodI (decide (x.n < 0)) (canon (x.n).natAbs))))] af (.eq (.eq (.eq (.eq (.eq (.eq (.eq (.eq (.eq (.eq (.eq (.eq (.eq (.eq (.eq (.eq (.eq (.cons (fun _ _ _ n ⟨_,_,e,h⟩=>⟨_,_,e,h.new_ n⟩) (.eq (.eq (.eq (.eq .nil)))))))))))))))))))))) ?_ ?_
 refine .F ae<| .J 0 isAgg3 ab<| .b 1 (r_eql aa)<| .N 2<| .S<| .S<| .S<| .S<| .T (fun k=>v_pickF rfl (k.eq1 3 8 rfl) rfl)<| .N 8<| .gf (fun k=>k.eq1 9 14 rfl) (fun k=>k.fx 3 ae)<| .V (fun p k=>v_load rfl (k.eq1 10 15 rfl) (l_one isAgg3 ((ab.new_ p).cell 0)))<| .V (fun p k=>v_bin rfl (k.eq1 11 16 rfl) rfl (fun _=>rfl) (r_eql ai))<| .gm (fun k=>k.eq1 9 14 rfl) (fun k=>k.eq1 12 17 rfl)<| .V (fun p k=>v_load rfl (k.fx 2 h8) (l_two isAgg26 sizeOf26 (aj.new_ p)))<| .gf (fun k=>k.eq1 13 18 rfl) (fun k=>k.fx 3 ae)<| .V (fun p k=>v_load rfl (k.eq1 15 20 rfl) (l_one isAgg3 ((ab.new_ p).cell 1))) ?_
 refine .o1 (tkC rfl (onG rfl rfl fun _ _ k=>k.eq1 13 18 rfl) rfl fun _ w hn k=>(by
  refine ⟨#[iv x.n],_,args1 (k.eq1 16 21 rfl),fun w=>by kernel_rfl,bOf_c x.n _ (by omega) (by omega),?_⟩
  rintro e w' ⟨A9,aV,rfl,hmo0,hm⟩
  exact⟨_,rfl,hm,⟨A9,aV,rfl,hmo0⟩⟩)) ?_
 refine .o1 (tkC rfl (onG rfl rfl fun _ _ k=>k.eq1 13 18 rfl) rfl fun _ w hn k=>(by
  obtain⟨aW,aX,aY,aI⟩:=k.G 17 22
  refine ⟨#[.agg #[.bool a,sv Aa ma ca],.agg #[.bool (decide (x.n < 0)),sv aW (canon (x.n).natAbs) aX]],_,args2 (k.eq1 14 19 rfl) aY,fun w=>by kernel_rfl,bSame_c a _ ma _ (decide (x.n < 0)) _ (canon (x.n).natAbs) _ _ (hra.new_ (ag.transNew hn)) aI ha (limbs_canon _) (by first|omega|(simp only [List.length_nil,List.length_take,List.length_drop]; omega)|(simp only [List.length_cons,List.length_nil]; omega)) (by first|omega|(simp only [List.length_nil,List.length_take,List.length_drop]; omega)|(simp only [List.length_cons,List.length_nil]; omega)),?_⟩
  rintro e w' ⟨rfl,hm⟩
  exact⟨_,rfl,hm,rfl⟩)) ?_
 exact .V (fun p k=>v_pickT rfl (k.eq1 13 18 rfl) (k.eq1 18 23 rfl))<| .T (fun k=>v_pickF rfl (k.eq1 9 14 rfl) (k.eq1 19 24 rfl))<| .B 20 .nil
 refine aftI af an ag fun bo bp bb aJ aK bd aL=>?_
 have aZ:=aL.g 21 4
 refine ak _ _<| wp_ret (ret_k aJ (v:=.bool (decide (goodI a ma=goodI (decide (x.n < 0)) (canon (x.n).natAbs)))) (res_t rfl aZ _) ?_)
 refine ⟨?_,aK⟩
 show Ending.returned (.bool (decide (goodI a ma=goodI (decide (x.n < 0)) (canon (x.n).natAbs))))=Ending.returned (.bool (alikeB a ma x))
 first|rfl|(simp only [alikeB,aa,ai,good_canon (z:=x.n) (by omega),bsm] <;> rfl)|(exfalso; omega)
 have av:=oF ai
 refine wA tr22 [] 26 [ve (pv ad),ve (iv x.k),vF,vF,vU,vU,vU,vU,vF,vF,ve (pv ad),ve (iv x.k),vF,vF,vU,vU,vU,vU,vU,vF,vF,vF] af ?_ ?_
 exact .F ae<| .J 0 isAgg3 ab<| .b 1 (r_eql aa)<| .N 2<| .S<| .S<| .S<| .S<| .T (fun k=>v_pickF rfl (k.eq1 3 8 rfl) rfl)<| .N 8<| .gf (fun k=>k.eq1 9 14 rfl) (fun k=>k.fx 3 ae)<| .V (fun p k=>v_load rfl (k.eq1 10 15 rfl) (l_one isAgg3 ((ab.new_ p).cell 0)))<| .V (fun p k=>v_bin rfl (k.eq1 11 16 rfl) rfl (fun _=>rfl) (r_eql ai))<| .gm (fun k=>k.eq1 9 14 rfl) (fun k=>k.eq1 12 17 rfl)<| .S<| .S<| .S<| .S<| .S<| .V (fun p k=>v_pickF rfl (k.eq1 13 18 rfl) rfl)<| .T (fun k=>v_pickF rfl (k.eq1 9 14 rfl) (k.eq1 19 24 rfl))<| .B 20 .nil
 refine aftI af an ag fun bq br be aM aN bf aO=>?_
 have a1:=aO.g 21 4
 refine ak _ _<| wp_ret (ret_k aM (v:=.bool false) (res_t rfl a1 _) ?_)
 refine ⟨?_,aN⟩
 show Ending.returned (.bool false)=Ending.returned (.bool (alikeB a ma x))
 first|rfl|(simp only [alikeB,aa,ai,good_canon (z:=x.n) (by omega),bsm] <;> rfl)|(exfalso; omega)
theorem blank_c (x:Nat) (w:World) (hx:x < 65536):Calls prog 63 #[.int .u16 (x:Int)] w (IsRet (.bool (blankN x)) w):=by
 refine enter_abs func63 rfl fun a0 aa ag hp=>?_
 have aa:a0.tmps.size=17:=aa
 have ah:New w w:=Upd.refl _ _
 have hp0:a0.eval (.tmp 0)=.int .u16 (x:Int):=hp 0 _ rfl
 refine wk fun K1 ai=>?_
 refine wA tr1 [] 17 [vF] aa ?_ ?_
 exact .c .nil
 refine aftI aa ag ah fun a2 w3 ab aj ak ap al=>?_
 have h8:=al.f1 hp0
 refine ai _ _ <| wk fun aq ac=>?_
 refine wA tr15 [] 17 [ve (.int .u16 (x:Int)),ve (.bool (decide ((x:Int)=32))),ve (.bool (decide ((x:Int)=32))),ve (gq (!(decide ((x:Int)=32))) (.int .u16 (x:Int))),ve (gq (!(decide ((x:Int)=32))) (.bool (decide ((x:Int)=9)))),ve (.bool ((decide ((x:Int)=32)) || (decide ((x:Int)=9)))),ve (.bool ((decide ((x:Int)=32)) || (decide ((x:Int)=9)))),ve (gq (!((decide ((x:Int)=32)) || (decide ((x:Int)=9)))) (.int .u16 (x:Int))),ve (gq (!((decide ((x:Int)=32)) || (decide ((x:Int)=9)))) (.bool (decide ((x:Int)=10)))),ve (.bool (((decide ((x:Int)=32)) || (decide ((x:Int)=9))) || (decide ((x:Int)=10)))),ve (.bool (((decide ((x:Int)=32)) || (decide ((x:Int)=9))) || (decide ((x:Int)=10)))),ve (gq (!(((decide ((x:Int)=32)) || (decide ((x:Int)=9))) || (decide ((x:Int)=10)))) (.int .u16 (x:Int))),ve (gq (!(((decide ((x:Int)=32)) || (decide ((x:Int)=9))) || (decide ((x:Int)=10)))) (.bool (decide ((x:Int)=13)))),ve (.bool ((((decide ((x:Int)=32)) || (decide ((x:Int)=9))) || (decide ((x:Int)=10))) || (decide ((x:Int)=13)))),ve (.bool ((((decide ((x:Int)=32)) || (decide ((x:Int)=9))) || (decide ((x:Int)=10))) || (decide ((x:Int)=13))))] ab ?_ ?_
 exact .M h8<| .b 0 (r_eql rfl)<| .N 1<| .Q (fun k=>g0' (k.eq1 2 5 rfl)) (fun hG n k=>v_move rfl (k.fx 0 h8))<| .Q (fun k=>g0' (k.eq1 2 5 rfl)) (fun hG n k=>v_bin rfl (cT hG (k.eq1 3 6 rfl)) rfl (fun _=>rfl) (r_eql rfl))<| .W 2 4<| .N 5<| .Q (fun k=>g0' (k.eq1 6 9 rfl)) (fun hG n k=>v_move rfl (k.fx 0 h8))<| .Q (fun k=>g0' (k.eq1 6 9 rfl)) (fun hG n k=>v_bin rfl (cT hG (k.eq1 7 10 rfl)) rfl (fun _=>rfl) (r_eql rfl))<| .W 6 8<| .N 9<| .Q (fun k=>g0' (k.eq1 10 13 rfl)) (fun hG n k=>v_move rfl (k.fx 0 h8))<| .Q (fun k=>g0' (k.eq1 10 13 rfl)) (fun hG n k=>v_bin rfl (cT hG (k.eq1 11 14 rfl)) rfl (fun _=>rfl) (r_eql rfl))<| .W 10 12<| .B 13 .nil
 refine aftI ab aj ak fun ar au an ad ae ao af=>?_
 have am:=af.g 14 2
 refine ac _ _<| wp_ret (ret_k ad (v:=.bool ((((decide ((x:Int)=32)) || (decide ((x:Int)=9))) || (decide ((x:Int)=10))) || (decide ((x:Int)=13)))) (res_t rfl am _) ?_)
 refine ⟨?_,ae⟩
 show Ending.returned (.bool ((((decide ((x:Int)=32)) || (decide ((x:Int)=9))) || (decide ((x:Int)=10))) || (decide ((x:Int)=13))))=Ending.returned (.bool (blankN x))
 first|rfl|(simp only [blankN,bsm] <;> rfl)|(exfalso; omega)
theorem digit_c (x:Nat) (w:World) (hx:x < 65536):Calls prog 68 #[.int .u16 (x:Int)] w (IsRet (.bool (dgtN x)) w):=by
 refine enter_abs func68 rfl fun a0 aa ag hp=>?_
 have aa:a0.tmps.size=9:=aa
 have ah:New w w:=Upd.refl _ _
 have hp0:a0.eval (.tmp 0)=.int .u16 (x:Int):=hp 0 _ rfl
 refine wk fun K1 ai=>?_
 refine wA tr1 [] 9 [vF] aa ?_ ?_
 exact .c .nil
 refine aftI aa ag ah fun a2 w3 ab aj ak ap al=>?_
 have h8:=al.f1 hp0
 refine ai _ _ <| wk fun aq ac=>?_
 refine wA tr7 [] 9 [ve (.int .u16 (x:Int)),ve (.bool (!decide ((x:Int) < 48))),ve (.bool (!decide ((x:Int) < 48))),ve (gq (!decide ((x:Int) < 48)) (.int .u16 (x:Int))),ve (gq (!decide ((x:Int) < 48)) (.bool (decide ((x:Int)≤57)))),ve (.bool ((!decide ((x:Int) < 48)) && (decide ((x:Int)≤57)))),ve (.bool ((!decide ((x:Int) < 48)) && (decide ((x:Int)≤57))))] ab ?_ ?_
 exact .M h8<| .b 0 (r_geqK rfl)<| .N 1<| .Q (fun k=>g0 (k.eq1 2 5 rfl)) (fun hG n k=>v_move rfl (k.fx 0 h8))<| .Q (fun k=>g0 (k.eq1 2 5 rfl)) (fun hG n k=>v_bin rfl (cT hG (k.eq1 3 6 rfl)) rfl (fun _=>rfl) (r_leqK rfl))<| .O 2 4<| .B 5 .nil
 refine aftI ab aj ak fun ar au an ad ae ao af=>?_
 have am:=af.g 6 2
 refine ac _ _<| wp_ret (ret_k ad (v:=.bool ((!decide ((x:Int) < 48)) && (decide ((x:Int)≤57)))) (res_t rfl am _) ?_)
 refine ⟨?_,ae⟩
 show Ending.returned (.bool ((!decide ((x:Int) < 48)) && (decide ((x:Int)≤57))))=Ending.returned (.bool (dgtN x))
 first|rfl|(simp only [dgtN,bsm] <;> rfl)|(exfalso; omega)
def ascii_c_P (s:ByteArray) (w:World) (en:Ending) (w':World):Prop:=∃ (Ar0:Option Addr) (cr0:Nat),en=.returned (sv Ar0 (asc s) cr0)∧SOwn w' w.heap.size 79 .u16 Ar0 (asc s) cr0∧New w w'
theorem ascii_c (s:ByteArray) (w:World) (hs:s.size≤1000000):Calls prog 47 #[.string s] w (ascii_c_P s w):=by
 refine enter_abs func47 rfl fun a0 ao bX hp=>?_
 have ao:a0.tmps.size=19:=ao
 have bY:New w w:=Upd.refl _ _
 have hp0:a0.eval (.tmp 0)=.string s:=hp 0 _ rfl
 refine wk fun K1 bZ=>?_
 refine wA tr1 [] 19 [ve (sv none ([]) 0)] ao ?_ ?_
 exact .c .nil
 refine aftI ao bX bY fun a2 w3 a6 b0 b1 cw b2=>?_
 have h8:=b2.f1 hp0
 refine bZ _ _ <| wk fun cx bh=>?_
 refine wA tr1 [] 19 [ve (sv none ([]) 0)] a6 ?_ ?_
 exact .c .nil
 refine aftI a6 b0 b1 fun cy cz au bi bj cn av=>?_
 have a7:=av.f1 h8
 have b3:=av.g 0 3
 refine bh _ _ <| wk fun cA bk=>?_
 refine wk fun cB bl=>?_
 refine wA tr3 [] 19 [ve (.string s),ve (iv (s.size:Int)),ve (iv 0)] au ?_ ?_
 exact .M a7<| .T (fun k=>v_lenS rfl (k.eq1 0 5 rfl) (by kernel_rfl))<| .T (fun k=>v_move rfl rfl) .nil
 refine aftI au bi bj fun cC cD bm bn bo co al=>?_
 have⟨b4,b5⟩:=al.f2 a7 b3
 have b6:=al.g 1 6
 have b7:=al.g 2 7
 refine bl _ _<| wb<| wp_loopX (fun (mm:Nat) (aa:Act) (ww:World)=>∃ (i:Nat) (A1:Option Addr) (c1:Nat),mm=s.size - i∧aa.tmps.size=19∧aa.defers=[]∧New w ww∧aa.eval (.tmp 3)=sv A1 (ascT s i) c1∧aa.eval (.tmp 7)=iv (i:Int)∧aa.eval (.tmp 0)=.string s∧aa.eval (.tmp 6)=iv (s.size:Int)∧SOwn ww w.heap.size 79 .u16 A1 (ascT s i) c1∧(i≤s.size)) (fun mm=>mm) ⟨_,⟨0,none,0,rfl,bm,bn,bo,(b5.trans (by rw [asc0])),b7,b4,b6,(by rw [asc0]; exact SOwn.nil _ _ _ _),(Nat.zero_le _)⟩⟩ ?_
 rintro mm cE cF ⟨i,A1,c1,hmm,aw,bp,bq,b8,a8,b9,a9,br,hi⟩
 refine wk fun cG bs=>?_
 refine wA tr1 [] 19 [ve (.bool (decide ((i:Int) < (s.size:Int))))] aw ?_ ?_
 exact .T (fun k=>v_bin rfl (k.fx 7 a8) (k.fx 6 a9) (fun _=>rfl) (r_lssK rfl)) .nil
 refine aftI aw bp bq fun cH cI am ax ay bt ai=>?_
 have⟨ba,bb,ca,cb⟩:=ai.f4 b8 a8 b9 a9
 have bd:=ai.g 0 8
 have az:=br.new_ bt
 refine bs _ _ <| wk fun cJ bu=>?_
 rcases bc (decide ((i:Int) < (s.size:Int))) with aj|aj
 have aN:=oT aj
 have bv:=hB bd aj
 refine wt bv<| ws<| bu _ _<| wk fun cK bw=>wb ?_
 refine wk fun cL bx=>?_
 refine wA tr2 [] 19 [ve (iv (i:Int)),ve (iv (i:Int))] am ?_ ?_
 exact .M bb<| .B 0 .nil
 refine aftI am ax ay fun cM be aA bz aB bA ak=>?_
 have⟨bf,cc,bg,cd⟩:=ak.f4 ba bb ca cb
 have ce:=ak.g 1 4
 have bB:=az.new_ bA
 refine bx _ _ ?_
 have hal:=@ascT_len s i
 have hbl:=bAt_lt s i
 refine wp_g0 [true,true,true,true,true,true,false,false] [(6,false),(7,true)] 19
  [ve (sv A1 (ascT s i) c1),ve (.string s),ve (iv (i:Int)),ve (.int .u8 ((bAt s i:Nat):Int)),ve (.int .u16 ((bAt s i:Nat):Int)),
  (OP be.heap.size 79 .u16 ([(bAt s i)])),vt,vt] aA (.eq (.eq (.eq (.eq (.eq (.cons (fun _ _ _ n ⟨_,_,e,h⟩=>⟨_,_,e,h.new_ n⟩) (.tt (.tt .nil)))))))) ?_ ?_
 refine .M bf<| .M bg<| .M ce<| .R (fun k=>v_idxN rfl (k.eq1 1 11 rfl) (k.eq1 2 12 rfl) (by kernel_rfl) (by omega)) (fun _=>rfl)<| .R (fun k=>v_conv rfl (k.eq1 3 13 rfl) (n_conv (by kernel_rfl) (by kernel_rfl) (by kernel_rfl) (IntWalk.u16_in _ (by omega)))) (fun _=>rfl) ?_
 refine .o1 (tkA rfl (noG rfl) fun _ w hn k=>(by
  exact x_bslice (k:=.u16) (ps:=[(0,.int .u16 ((bAt s i:Nat):Int))]) [(bAt s i)] rfl (parts1 (k.eq1 4 14 rfl)) elU rfl (by omega) (by omega) (by first|kernel_rfl|(simp only [enc,List.map_cons,List.map_nil,Int.toNat_natCast,Int.toNat_of_nonneg (by omega:(0:Int)≤_)]; kernel_rfl)) fun A1 c2 W' hmo=>⟨A1,c2,rfl,(hmo.more hn.size)⟩)) ?_
 exact .off<| .off .nil
 refine aftI aA bz aB fun aC cN aD bC aE bD ag=>?_
 have⟨cO,cf,ch,ci⟩:=ag.f4 bf cc bg cd
 have cj:=ag.g 0 10
 obtain⟨cl,bE,aF,bF⟩:=ag.G 5 15
 have aF:aC.eval (.tmp 15)=sv cl ([(bAt s i)]) bE:=aF
 have aG:=bB.new_ bD
 have bG:=bF.more aB.size
 have hw101:=aE.size
 refine st_act rfl rfl fun cP aO=>a_append (k:=.u16) (b:=w.heap.size) rfl elU cj aG aF bG.row (by first|omega|(simp only [List.length_nil,List.length_cons,List.length_append,List.length_take,List.length_drop,List.length_replicate,List.length_set]; omega)) (by first|omega|(simp only [List.length_nil,List.length_cons,List.length_append,List.length_take,List.length_drop,List.length_replicate,List.length_set]; omega)) hw101 fun ah ae cQ aH hg97=>aO _ _ trivial ?_
 have bH:=aE.ownGrown aG hg97
 obtain⟨an,ad⟩:∃ a',a'=aC.put (some 16) (sv ah ((ascT s i) ++ [(bAt s i)]) ae):=⟨_,rfl⟩
 have⟨ap,aP⟩:=pz2 ad aD bC
 have⟨bI,bJ,bK⟩:=pN3 ad cf ch ci
 have aI:=s7 ad aD
 show stepsTo _ _ _ _ _ (aC.put (some 16) (sv ah ((ascT s i) ++ [(bAt s i)]) ae)) _
 rw [← ad]
 refine sP aI ap aP fun bL aq aQ ab aK=>?_
 have⟨aJ,bM,bN⟩:=ab.q3 bI bJ bK
 have cp:=ab.q aI
 refine st_nil ?_
 have he119:((ascT s i) ++ [(bAt s i)])=(ascT s (i + 1)):=asc_up (by omega)
 rw [he119] at aK
 rw [he119] at aH
 refine bw _ _<| wA [true,false] [(1,true)] 19 [ve (iv ((i + 1:Nat):Int)),vt] aq ?_ ?_
 exact .R (fun k=>v_bin rfl (k.fx 7 aJ) rfl (fun _=>rfl) (n_add (by omega) (IntWalk.i64_in _ (by omega)))) (fun _=>rfl)<| .off .nil
 refine aftI aq aQ bH fun aL cq ar aR aS aT af=>?_
 have⟨cr,bO,bP,bQ⟩:=af.f4 aJ bM bN aK
 have aM:=af.g 0 17
 have aU:=aH.new_ aT
 refine st_take rfl rfl (y_move (v:=iv ((i + 1:Nat):Int)) rfl aM) rfl ?_
 obtain⟨bR,ac⟩:∃ a',a'=aL.put (some 7) (iv ((i + 1:Nat):Int)):=⟨_,rfl⟩
 have⟨aV,aW⟩:=pz2 ac ar aR
 have⟨bS,bT,bU⟩:=pN3 ac bO bP bQ
 have cs:=pN ac aM
 have bV:=s7 ac ar
 show stepsTo _ _ _ _ _ (aL.put (some 7) (iv ((i + 1:Nat):Int))) _
 rw [← ac]
 refine st_nil ?_
 refine then_n ?_
 exact⟨_,⟨i + 1,ah,ae,rfl,aV,aW,aS,bU,(bV.trans (congrArg (Value.int .i64) (by omega))),bS,bT,aU,(by omega)⟩,(by omega)⟩
 have aN:=oF aj
 have aX:=hB bd aj
 refine wf aX<| wp_exit ?_
 refine bk _ _<| wk fun ct aY=>?_
 refine wA tr2 [] 19 [ve (sv A1 (ascT s i) c1),ve (sv A1 (ascT s i) c1)] am ?_ ?_
 exact .M ba<| .B 0 .nil
 refine aftI am ax ay fun cu cv cm aZ a1 a3 a4=>?_
 have bW:=a4.g 1 2
 have a5:=az.new_ a3
 refine aY _ _<| wp_ret (ret_k aZ (v:=sv A1 (ascT s i) c1) (res_t rfl bW _) ?_)
 have hsp:ascT s i=asc s:=asc_end (by omega)
 exact⟨A1,c1,by rw [← hsp],by rw [← hsp]; exact a5,a1⟩
def rascii_c_P (s:ByteArray) (w:World) (en:Ending) (w':World):Prop:=∃ (Ar0:Option Addr) (cr0:Nat),en=.returned (sv Ar0 (asc s) cr0)∧SOwn w' w.heap.size 79 .u16 Ar0 (asc s) cr0∧New w w'
theorem rascii_c (s:ByteArray) (w:World) (hs:s.size≤1000000):Calls prog 51 #[.string s] w (rascii_c_P s w):=by
 refine enter_abs func51 rfl fun a0 an bG hp=>?_
 have an:a0.tmps.size=19:=an
 have bH:New w w:=Upd.refl _ _
 have hp0:a0.eval (.tmp 0)=.string s:=hp 0 _ rfl
 refine wk fun K1 bI=>?_
 refine wA tr1 [] 19 [ve (sv none ([]) 0)] an ?_ ?_
 exact .c .nil
 refine aftI an bG bH fun a2 w3 aW bJ bK b9 bL=>?_
 have h8:=bL.f1 hp0
 refine bI _ _ <| wk fun ca a8=>?_
 refine wA tr1 [] 19 [ve (sv none ([]) 0)] aW ?_ ?_
 exact .c .nil
 refine aftI aW bJ bK fun cb cc ap a9 ba b1 aq=>?_
 have bM:=aq.f1 h8
 have bN:=aq.g 0 3
 refine a8 _ _ <| wk fun cd bb=>?_
 refine wk fun ce bd=>?_
 refine wA tr1 [] 19 [ve (iv 0)] ap ?_ ?_
 exact .c .nil
 refine aftI ap a9 ba fun cf ch be bf bg b2 al=>?_
 have⟨bO,bP⟩:=al.f2 bM bN
 have bQ:=al.g 0 4
 refine bd _ _<| wb<| wp_loopX (fun (mm:Nat) (aa:Act) (ww:World)=>∃ (i:Nat) (A1:Option Addr) (c1:Nat),mm=s.size - i∧aa.tmps.size=19∧aa.defers=[]∧New w ww∧aa.eval (.tmp 3)=sv A1 (ascT s i) c1∧aa.eval (.tmp 4)=iv (i:Int)∧aa.eval (.tmp 0)=.string s∧SOwn ww w.heap.size 79 .u16 A1 (ascT s i) c1∧(i≤s.size)) (fun mm=>mm) ⟨_,⟨0,none,0,rfl,be,bf,bg,(bP.trans (by rw [asc0])),bQ,bO,(by rw [asc0]; exact SOwn.nil _ _ _ _),(Nat.zero_le _)⟩⟩ ?_
 rintro mm ci cj ⟨i,A1,c1,hmm,ar,bh,bi,bR,aX,aY,bj,hi⟩
 refine wk fun cl bk=>wk fun cm bl=>?_
 refine wA tr4 [] 19 [ve (iv (i:Int)),ve (.string s),ve (iv (s.size:Int)),ve (.bool (decide ((i:Int) < (s.size:Int))))] ar ?_ ?_
 exact .M aX<| .M aY<| .T (fun k=>v_lenS rfl (k.eq1 1 6 rfl) (by kernel_rfl))<| .T (fun k=>v_bin rfl (k.eq1 0 5 rfl) (k.eq1 2 7 rfl) (fun _=>rfl) (r_lssK rfl)) .nil
 refine aftI ar bh bi fun cn aZ aj au am bm ak=>?_
 have⟨av,a1,a3⟩:=ak.f3 bR aX aY
 have a4:=ak.g 3 8
 have aw:=bj.new_ bm
 refine bl _ _ ?_
 rcases bc (decide ((i:Int) < (s.size:Int))) with ah|ah
 have aI:=oT ah
 have bn:=hB a4 ah
 refine wt bn<| ws<| bk _ _<| wk fun co bo=>wb ?_
 have hal:=@ascT_len s i
 have hbl:=bAt_lt s i
 refine wp_g0 [true,true,true,true,true,true,false,false] [(6,false),(7,true)] 19
  [ve (sv A1 (ascT s i) c1),ve (.string s),ve (iv (i:Int)),ve (.int .u8 ((bAt s i:Nat):Int)),ve (.int .u16 ((bAt s i:Nat):Int)),
  (OP aZ.heap.size 79 .u16 ([(bAt s i)])),vt,vt] aj (.eq (.eq (.eq (.eq (.eq (.cons (fun _ _ _ n ⟨_,_,e,h⟩=>⟨_,_,e,h.new_ n⟩) (.tt (.tt .nil)))))))) ?_ ?_
 refine .M av<| .M a3<| .M a1<| .R (fun k=>v_idxN rfl (k.eq1 1 12 rfl) (k.eq1 2 13 rfl) (by kernel_rfl) (by omega)) (fun _=>rfl)<| .R (fun k=>v_conv rfl (k.eq1 3 14 rfl) (n_conv (by kernel_rfl) (by kernel_rfl) (by kernel_rfl) (IntWalk.u16_in _ (by omega)))) (fun _=>rfl) ?_
 refine .o1 (tkA rfl (noG rfl) fun _ w hn k=>(by
  exact x_bslice (k:=.u16) (ps:=[(0,.int .u16 ((bAt s i:Nat):Int))]) [(bAt s i)] rfl (parts1 (k.eq1 4 15 rfl)) elU rfl (by omega) (by omega) (by first|kernel_rfl|(simp only [enc,List.map_cons,List.map_nil,Int.toNat_natCast,Int.toNat_of_nonneg (by omega:(0:Int)≤_)]; kernel_rfl)) fun A1 c2 W' hmo=>⟨A1,c2,rfl,(hmo.more hn.size)⟩)) ?_
 exact .off<| .off .nil
 refine aftI aj au am fun ax cp ay bp az bq ai=>?_
 have⟨cq,bS,bT⟩:=ai.f3 av a1 a3
 have bU:=ai.g 0 11
 obtain⟨bV,br,aA,bs⟩:=ai.G 5 16
 have aA:ax.eval (.tmp 16)=sv bV ([(bAt s i)]) br:=aA
 have aB:=aw.new_ bq
 have bt:=bs.more am.size
 have hw83:=az.size
 refine st_act rfl rfl fun cr bu=>a_append (k:=.u16) (b:=w.heap.size) rfl elU bU aB aA bt.row (by first|omega|(simp only [List.length_nil,List.length_cons,List.length_append,List.length_take,List.length_drop,List.length_replicate,List.length_set]; omega)) (by first|omega|(simp only [List.length_nil,List.length_cons,List.length_append,List.length_take,List.length_drop,List.length_replicate,List.length_set]; omega)) hw83 fun af ac cs aC hg79=>bu _ _ trivial ?_
 have bv:=az.ownGrown aB hg79
 obtain⟨aD,ae⟩:∃ a',a'=ax.put (some 17) (sv af ((ascT s i) ++ [(bAt s i)]) ac):=⟨_,rfl⟩
 have⟨aE,bw⟩:=pz2 ae ay bp
 have⟨bW,bX⟩:=pN2 ae bS bT
 have a5:=s7 ae ay
 show stepsTo _ _ _ _ _ (ax.put (some 17) (sv af ((ascT s i) ++ [(bAt s i)]) ac)) _
 rw [← ae]
 refine sP a5 aE bw fun bY aF bx ad a7=>?_
 have⟨a6,bZ,ct⟩:=ad.q3 bW bX a5
 refine st_nil ?_
 have he99:((ascT s i) ++ [(bAt s i)])=(ascT s (i + 1)):=asc_up (by omega)
 rw [he99] at a7
 rw [he99] at aC
 refine bo _ _<| wA [true,true,false] [(2,true)] 19 [ve (iv (i:Int)),ve (iv ((i + 1:Nat):Int)),vt] aF ?_ ?_
 exact .M a6<| .R (fun k=>v_bin rfl (k.eq1 0 9 rfl) rfl (fun _=>rfl) (n_add (by omega) (IntWalk.i64_in _ (by omega)))) (fun _=>rfl)<| .off .nil
 refine aftI aF bx bv fun aG b3 ao aJ aK aL ag=>?_
 have⟨b4,bz,bA⟩:=ag.f3 a6 bZ a7
 have aH:=ag.g 1 10
 have aM:=aC.new_ aL
 refine sP aH ao aJ fun bB aN aO ab bE=>?_
 have⟨bC,bD,b5⟩:=ab.q3 bz bA aH
 refine st_nil ?_
 refine then_n ?_
 exact⟨_,⟨i + 1,af,ac,rfl,aN,aO,aK,bD,(bE.trans (congrArg (Value.int .i64) (by omega))),bC,aM,(by omega)⟩,(by omega)⟩
 have aI:=oF ah
 have aP:=hB a4 ah
 refine wf aP<| wp_exit ?_
 refine bb _ _<| wk fun b6 aQ=>?_
 refine wA tr2 [] 19 [ve (sv A1 (ascT s i) c1),ve (sv A1 (ascT s i) c1)] aj ?_ ?_
 exact .M av<| .B 0 .nil
 refine aftI aj au am fun b7 b8 b0 aR aS aT aU=>?_
 have bF:=aU.g 1 2
 have aV:=aw.new_ aT
 refine aQ _ _<| wp_ret (ret_k aR (v:=sv A1 (ascT s i) c1) (res_t rfl bF _) ?_)
 have hsp:ascT s i=asc s:=asc_end (by omega)
 exact⟨A1,c1,by rw [← hsp],by rw [← hsp]; exact aV,aS⟩
theorem tsame_c (Aa:Option Addr) (a:List Nat) (ca:Nat) (Ab:Option Addr) (b:List Nat) (cb:Nat) (w:World) (hra:SRow w .u16 Aa a ca) (hrb:SRow w .u16 Ab b cb):Calls prog 65 #[sv Aa a ca,sv Ab b cb] w (IsRet (.bool (decide (a=b))) w):=by
 refine enter_abs func65 rfl fun a0 ab ai hp=>?_
 have ab:a0.tmps.size=8:=ab
 have aj:New w w:=Upd.refl _ _
 have hp0:a0.eval (.tmp 0)=sv Aa a ca:=hp 0 _ rfl
 have hp1:a0.eval (.tmp 1)=sv Ab b cb:=hp 1 _ rfl
 refine wk fun K1 ak=>?_
 refine wA tr1 [] 8 [vF] ab ?_ ?_
 exact .c .nil
 refine aftI ab ai aj fun a2 w3 ac al aa ap ad=>?_
 have⟨h8,h9⟩:=ad.f2 hp0 hp1
 refine ak _ _ <| wk fun aq ae=>?_
 refine wA tr4 [] 8 [ve (sv Aa a ca),ve (sv Ab b cb),ve (.bool (decide (a=b))),ve (.bool (decide (a=b)))] ac ?_ ?_
 exact .M h8<| .M h9<| .C2 0 1 (fun n=>sequal16_c _ a _ _ b _ _ (hra.new_ (aa.transNew n)) (hrb.new_ (aa.transNew n)))<| .B 2 .nil
 refine aftI ac al aa fun ar au an af ag ao ah=>?_
 have am:=ah.g 3 4
 refine ae _ _<| wp_ret (ret_k af (v:=.bool (decide (a=b))) (res_t rfl am _) ?_)
 exact⟨rfl,ag⟩
theorem index16_c (Au:Option Addr) (u:List Nat) (cu:Nat) (x:Nat) (w:World) (hru:SRow w .u16 Au u cu) (hx:x < 65536):Calls prog 136 #[sv Au u cu,.int .u16 (x:Int)] w (IsRet (iv (idxF (fun y:Nat=>decide ((x:Int)=(y:Int))) u)) w):=by
 refine enter_abs func136 rfl fun a0 al bo hp=>?_
 have al:a0.tmps.size=19:=al
 have bp:New w w:=Upd.refl _ _
 have hp0:a0.eval (.tmp 0)=sv Au u cu:=hp 0 _ rfl
 have hp1:a0.eval (.tmp 1)=.int .u16 (x:Int):=hp 1 _ rfl
 have hmx:=hru.max
 refine wk fun K1 bq=>?_
 refine wA tr1 [] 19 [ve (iv 0)] al ?_ ?_
 exact .c .nil
 refine aftI al bo bp fun a2 w3 aG br aT b0 aH=>?_
 have⟨h8,h9⟩:=aH.f2 hp0 hp1
 refine bq _ _ <| wk fun b2 aU=>?_
 refine wk fun b4 aV=>?_
 refine wA tr3 [] 19 [ve (sv Au u cu),ve (iv (u.length:Int)),ve (iv 0)] aG ?_ ?_
 exact .M h8<| .T (fun k=>v_lenR rfl elU (k.eq1 0 6 rfl))<| .T (fun k=>v_move rfl rfl) .nil
 refine aftI aG br aT fun b6 b7 aW aX aY bP ai=>?_
 have⟨bs,bt⟩:=ai.f2 h8 h9
 have bu:=ai.g 1 7
 have bv:=ai.g 2 8
 refine aV _ _<| wb<| wp_loopX (fun (mm:Nat) (aa:Act) (ww:World)=>∃ (i:Nat),mm=u.length - i∧aa.tmps.size=19∧aa.defers=[]∧New w ww∧aa.eval (.tmp 8)=iv (i:Int)∧aa.eval (.tmp 0)=sv Au u cu∧aa.eval (.tmp 1)=.int .u16 (x:Int)∧aa.eval (.tmp 7)=iv (u.length:Int)∧(i≤u.length)∧(∀ j,j < i→(fun y:Nat=>decide ((x:Int)=(y:Int))) (u.getD j 0)=false)) (fun mm=>mm) ⟨_,⟨0,rfl,aW,aX,aY,bv,bs,bt,bu,(Nat.zero_le _),(fun j h=>absurd h (Nat.not_lt_zero _))⟩⟩ ?_
 rintro mm b8 b9 ⟨i,hmm,am,aZ,a1,aI,bw,bx,aJ,hi,hno⟩
 refine wk fun ca a3=>?_
 refine wA tr1 [] 19 [ve (.bool (decide ((i:Int) < (u.length:Int))))] am ?_ ?_
 exact .T (fun k=>v_bin rfl (k.fx 8 aI) (k.fx 7 aJ) (fun _=>rfl) (r_lssK rfl)) .nil
 refine aftI am aZ a1 fun cb cc aj an ao bQ ae=>?_
 have⟨aK,bz,bA,bB⟩:=ae.f4 aI bw bx aJ
 have aL:=ae.g 0 9
 refine a3 _ _ <| wk fun cd a4=>?_
 rcases bc (decide ((i:Int) < (u.length:Int))) with af|af
 have aw:=oT af
 have a5:=hB aL af
 refine wt a5<| ws<| a4 _ _<| wk fun ce a6=>wb ?_
 refine wk fun cf a7=>?_
 refine wA tr2 [] 19 [ve (iv (i:Int)),ve (iv (i:Int))] aj ?_ ?_
 exact .M aK<| .B 0 .nil
 refine aftI aj an ao fun ch ci ap a8 aq bR ag=>?_
 have⟨bC,aM,aN,bD⟩:=ag.f4 aK bz bA bB
 have aO:=ag.g 1 5
 refine a7 _ _ <| wk fun cj a9=>?_
 refine wp_g0 [true,true,true,true,true,true] [] 19
  [ve (.int .u16 (x:Int)),ve (sv Au u cu),ve (iv (i:Int)),
  (EP (.int .u16 ((u.getD i 0:Nat):Int))),ve (.int .u16 ((u.getD i 0:Nat):Int)),ve (.bool (decide ((x:Int)=((u.getD i 0:Nat):Int))))] ap (.eq (.eq (.eq (.cons (fun _ _ _ n ⟨_,_,e,h⟩=>⟨_,_,e,h.new_ n⟩) (.eq (.eq .nil)))))) ?_ ?_
 refine .M aN<| .M aM<| .M aO ?_
 refine .o1 (tk rfl rfl fun _ w hn k=>(by
  exact x_eaddr (k:=.u16) rfl elU (k.eq1 1 12 rfl) (k.eq1 2 13 rfl) (hru.new_ (aq.transNew hn)) (by omega) fun b1 o2 hme=>⟨b1,o2,rfl,hme⟩)) ?_
 refine .o1 (tk rfl rfl fun _ w hn k=>(by
  obtain⟨b5,o6,e7,bE⟩:=k.G 3 14
  exact⟨_,v_load rfl e7 (l_one isAgg79 bE.1),rfl⟩)) ?_
 exact .T (fun k=>v_bin rfl (k.eq1 0 11 rfl) (k.eq1 4 15 rfl) (fun _=>rfl) (r_eql rfl)) .nil
 refine aftI ap a8 aq fun cl cm ak ar au bS ad=>?_
 have⟨aP,bF,bG,bH⟩:=ad.f4 bC aM aN bD
 have bI:=ad.f1 aO
 have aQ:=ad.g 5 16
 refine a9 _ _ ?_
 rcases bc (decide ((x:Int)=((u.getD i 0:Nat):Int))) with ac|ac
 have ax:=oT ac
 have ba:=hB aQ ac
 refine wt ba<| wk fun cn bb=>?_
 refine wA tr2 [] 19 [ve (iv (i:Int)),ve (iv (i:Int))] ak ?_ ?_
 exact .M bI<| .B 0 .nil
 refine aftI ak ar au fun co cp bT bd be bU bf=>?_
 have bJ:=bf.g 1 4
 refine bb _ _<| wp_ret (ret_k bd (v:=iv (i:Int)) (res_t rfl bJ _) ?_)
 exact⟨by rw [idxF_at (fun y:Nat=>decide ((x:Int)=(y:Int))) u i (by omega) hno ac],be⟩
 have ax:=oF ac
 have bg:=hB aQ ac
 refine wf bg<| ws<| a6 _ _<| wA [true,false] [(1,true)] 19 [ve (iv ((i + 1:Nat):Int)),vt] ak ?_ ?_
 exact .R (fun k=>v_bin rfl (k.fx 8 aP) rfl (fun _=>rfl) (n_add (by omega) (IntWalk.i64_in _ (by omega)))) (fun _=>rfl)<| .off .nil
 refine aftI ak ar au fun aR cq av bh ay bV ah=>?_
 have⟨cr,bK,bL,bM⟩:=ah.f4 aP bF bG bH
 have aS:=ah.g 0 18
 refine st_take rfl rfl (y_move (v:=iv ((i + 1:Nat):Int)) rfl aS) rfl ?_
 obtain⟨bi,ab⟩:∃ a',a'=aR.put (some 8) (iv ((i + 1:Nat):Int)):=⟨_,rfl⟩
 have⟨az,aA⟩:=pz2 ab av bh
 have⟨bj,bk,bl⟩:=pN3 ab bK bL bM
 have bW:=pN ab aS
 have bm:=s7 ab av
 show stepsTo _ _ _ _ _ (aR.put (some 8) (iv ((i + 1:Nat):Int))) _
 rw [← ab]
 refine st_nil ?_
 refine then_n ?_
 exact⟨_,⟨i + 1,rfl,az,aA,ay,(bm.trans (congrArg (Value.int .i64) (by omega))),bj,bk,bl,(by omega),(up_false (p:=(fun y:Nat=>decide ((x:Int)=(y:Int)))) hno ac)⟩,(by omega)⟩
 have aw:=oF af
 have aB:=hB aL af
 refine wf aB<| wp_exit ?_
 refine aU _ _<| wk fun bX aC=>?_
 refine wA tr1 [] 19 [ve (iv (-1))] aj ?_ ?_
 exact .c .nil
 refine aftI aj an ao fun bY bZ bN aD aE bO aF=>?_
 have bn:=aF.g 0 4
 refine aC _ _<| wp_ret (ret_k aD (v:=iv (-1)) (res_t rfl bn _) ?_)
 exact⟨by rw [idxF_none (fun y:Nat=>decide ((x:Int)=(y:Int))) u (fun j hj=>hno j (by omega))],aE⟩
theorem contains16_c (Au:Option Addr) (u:List Nat) (cu:Nat) (x:Nat) (w:World) (hru:SRow w .u16 Au u cu) (hx:x < 65536):Calls prog 110 #[sv Au u cu,.int .u16 (x:Int)] w (IsRet (.bool (u.any (fun y:Nat=>decide ((x:Int)=(y:Int))))) w):=by
 refine enter_abs func110 rfl fun a0 ac ao hp=>?_
 have ac:a0.tmps.size=9:=ac
 have ap:New w w:=Upd.refl _ _
 have hp0:a0.eval (.tmp 0)=sv Au u cu:=hp 0 _ rfl
 have hp1:a0.eval (.tmp 1)=.int .u16 (x:Int):=hp 1 _ rfl
 refine wk fun K1 aq=>?_
 refine wA tr1 [] 9 [vF] ac ?_ ?_
 exact .c .nil
 refine aftI ac ao ap fun a2 w3 ad ag ab az ah=>?_
 have⟨h8,h9⟩:=ah.f2 hp0 hp1
 refine aq _ _ <| wk fun aA ae=>?_
 rcases bc (decide ((idxF (fun y:Nat=>decide ((x:Int)=(y:Int))) u) < 0)) with aa|aa
 have af:=oT aa
 refine wA tr5 [] 9 [ve (sv Au u cu),ve (.int .u16 (x:Int)),ve (iv (idxF (fun y:Nat=>decide ((x:Int)=(y:Int))) u)),vF,vF] ad ?_ ?_
 exact .M h8<| .M h9<| .C2 0 1 (fun n=>index16_c _ u _ x _ (hru.new_ (ab.transNew n)) (by omega))<| .b 2 (r_geqK aa)<| .B 3 .nil
 refine aftI ad ag ab fun aB aC av ai aj aw ak=>?_
 have ar:=ak.g 4 4
 refine ae _ _<| wp_ret (ret_k ai (v:=.bool false) (res_t rfl ar _) ?_)
 exact⟨by rw [← idxF_any (fun y:Nat=>decide ((x:Int)=(y:Int))) u,aa]; rfl,aj⟩
 have af:=oF aa
 refine wA tr5 [] 9 [ve (sv Au u cu),ve (.int .u16 (x:Int)),ve (iv (idxF (fun y:Nat=>decide ((x:Int)=(y:Int))) u)),vT,vT] ad ?_ ?_
 exact .M h8<| .M h9<| .C2 0 1 (fun n=>index16_c _ u _ x _ (hru.new_ (ab.transNew n)) (by omega))<| .b 2 (r_geqK aa)<| .B 3 .nil
 refine aftI ad ag ab fun aD aE ax al am ay an=>?_
 have au:=an.g 4 4
 refine ae _ _<| wp_ret (ret_k al (v:=.bool true) (res_t rfl au _) ?_)
 exact⟨by rw [← idxF_any (fun y:Nat=>decide ((x:Int)=(y:Int))) u,aa]; rfl,am⟩
theorem nodigit_c (x:Nat) (w:World) (hx:x < 65536):Calls prog 67 #[.int .u16 (x:Int)] w (IsRet (.bool (!dgtN x)) w):=by
 refine enter_abs func67 rfl fun a0 ab am hp=>?_
 have ab:a0.tmps.size=6:=ab
 have an:New w w:=Upd.refl _ _
 have hp0:a0.eval (.tmp 0)=.int .u16 (x:Int):=hp 0 _ rfl
 refine wk fun K1 ao=>?_
 refine wA tr1 [] 6 [vF] ab ?_ ?_
 exact .c .nil
 refine aftI ab am an fun a2 w3 ac ae af ay ap=>?_
 have h8:=ap.f1 hp0
 refine ao _ _ <| wk fun az ad=>?_
 rcases bc (dgtN x) with aa|aa
 refine wA tr4 [] 6 [ve (.int .u16 (x:Int)),vT,vF,vF] ac ?_ ?_
 exact .M h8<| .o1 (ck rfl rfl rfl (fun _ w hn k=>⟨#[.int .u16 (x:Int)],args1 (k.eq1 0 3 rfl),fun _=>by kernel_rfl,digit_c x _ (by omega)⟩) fun _=>congrArg Value.bool aa)<| .T (fun k=>v_not rfl (k.eq1 1 4 rfl))<| .B 2 .nil
 refine aftI ac ae af fun aA aB au ag ah av ai=>?_
 have aq:=ai.g 3 2
 refine ad _ _<| wp_ret (ret_k ag (v:=.bool false) (res_t rfl aq _) ?_)
 refine ⟨?_,ah⟩
 show Ending.returned (.bool false)=Ending.returned (.bool (!dgtN x))
 first|rfl|(simp only [aa,bsm] <;> rfl)|(exfalso; omega)
 refine wA tr4 [] 6 [ve (.int .u16 (x:Int)),vF,vT,vT] ac ?_ ?_
 exact .M h8<| .o1 (ck rfl rfl rfl (fun _ w hn k=>⟨#[.int .u16 (x:Int)],args1 (k.eq1 0 3 rfl),fun _=>by kernel_rfl,digit_c x _ (by omega)⟩) fun _=>congrArg Value.bool aa)<| .T (fun k=>v_not rfl (k.eq1 1 4 rfl))<| .B 2 .nil
 refine aftI ac ae af fun aC aD aw aj ak ax al=>?_
 have ar:=al.g 3 2
 refine ad _ _<| wp_ret (ret_k aj (v:=.bool true) (res_t rfl ar _) ?_)
 refine ⟨?_,ak⟩
 show Ending.returned (.bool true)=Ending.returned (.bool (!dgtN x))
 first|rfl|(simp only [aa,bsm] <;> rfl)|(exfalso; omega)
theorem indexf_c (Au:Option Addr) (u:List Nat) (cu:Nat) (w:World) (hru:SRow w .u16 Au u cu) (hu:U16s u):Calls prog 112 #[sv Au u cu,.func (.func 67) #[] #[]] w (IsRet (iv (idxF (fun y:Nat=>!dgtN y) u)) w):=by
 refine enter_abs func112 rfl fun a0 al bn hp=>?_
 have al:a0.tmps.size=19:=al
 have bo:New w w:=Upd.refl _ _
 have hp0:a0.eval (.tmp 0)=sv Au u cu:=hp 0 _ rfl
 have hp1:a0.eval (.tmp 1)=.func (.func 67) #[] #[]:=hp 1 _ rfl
 have hmx:=hru.max
 refine wk fun K1 bp=>?_
 refine wA tr1 [] 19 [ve (iv 0)] al ?_ ?_
 exact .c .nil
 refine aftI al bn bo fun a2 w3 aF bq aS bZ aG=>?_
 have⟨h8,h9⟩:=aG.f2 hp0 hp1
 refine bp _ _ <| wk fun b0 aT=>?_
 refine wk fun b2 aU=>?_
 refine wA tr3 [] 19 [ve (sv Au u cu),ve (iv (u.length:Int)),ve (iv 0)] aF ?_ ?_
 exact .M h8<| .T (fun k=>v_lenR rfl elU (k.eq1 0 6 rfl))<| .T (fun k=>v_move rfl rfl) .nil
 refine aftI aF bq aS fun b4 b6 aV aW aX bO ai=>?_
 have⟨br,bs⟩:=ai.f2 h8 h9
 have bt:=ai.g 1 7
 have bu:=ai.g 2 8
 refine aU _ _<| wb<| wp_loopX (fun (mm:Nat) (aa:Act) (ww:World)=>∃ (i:Nat),mm=u.length - i∧aa.tmps.size=19∧aa.defers=[]∧New w ww∧aa.eval (.tmp 8)=iv (i:Int)∧aa.eval (.tmp 0)=sv Au u cu∧aa.eval (.tmp 1)=.func (.func 67) #[] #[]∧aa.eval (.tmp 7)=iv (u.length:Int)∧(i≤u.length)∧(∀ j,j < i→(fun y:Nat=>!dgtN y) (u.getD j 0)=false)) (fun mm=>mm) ⟨_,⟨0,rfl,aV,aW,aX,bu,br,bs,bt,(Nat.zero_le _),(fun j h=>absurd h (Nat.not_lt_zero _))⟩⟩ ?_
 rintro mm b7 b8 ⟨i,hmm,am,aY,aZ,aH,bv,bw,aI,hi,hno⟩
 refine wk fun b9 a1=>?_
 refine wA tr1 [] 19 [ve (.bool (decide ((i:Int) < (u.length:Int))))] am ?_ ?_
 exact .T (fun k=>v_bin rfl (k.fx 8 aH) (k.fx 7 aI) (fun _=>rfl) (r_lssK rfl)) .nil
 refine aftI am aY aZ fun ca cb aj an ao bP ad=>?_
 have⟨aJ,bx,bz,bA⟩:=ad.f4 aH bv bw aI
 have aK:=ad.g 0 9
 refine a1 _ _ <| wk fun cc a3=>?_
 rcases bc (decide ((i:Int) < (u.length:Int))) with ae|ae
 have aw:=oT ae
 have a4:=hB aK ae
 refine wt a4<| ws<| a3 _ _<| wk fun cd a5=>wb ?_
 refine wk fun ce a6=>?_
 refine wA tr2 [] 19 [ve (iv (i:Int)),ve (iv (i:Int))] aj ?_ ?_
 exact .M aJ<| .B 0 .nil
 refine aftI aj an ao fun cf ch ap a7 aq bQ af=>?_
 have⟨bB,aL,aM,bC⟩:=af.f4 aJ bx bz bA
 have aN:=af.g 1 5
 refine a6 _ _ <| wk fun ci a8=>?_
 have hb:=hu.at16 i
 refine wp_g0 [true,true,true,true,true,true] [] 19
  [ve (.func (.func 67) #[] #[]),ve (sv Au u cu),ve (iv (i:Int)),
  (EP (.int .u16 ((u.getD i 0:Nat):Int))),ve (.int .u16 ((u.getD i 0:Nat):Int)),ve (.bool (!dgtN (u.getD i 0)))] ap (.eq (.eq (.eq (.cons (fun _ _ _ n ⟨_,_,e,h⟩=>⟨_,_,e,h.new_ n⟩) (.eq (.eq .nil)))))) ?_ ?_
 refine .M aM<| .M aL<| .M aN ?_
 refine .o1 (tk rfl rfl fun _ w hn k=>(by
  exact x_eaddr (k:=.u16) rfl elU (k.eq1 1 12 rfl) (k.eq1 2 13 rfl) (hru.new_ (aq.transNew hn)) (by omega) fun b1 o2 hme=>⟨b1,o2,rfl,hme⟩)) ?_
 refine .o1 (tk rfl rfl fun _ w hn k=>(by
  obtain⟨b5,o6,e7,bD⟩:=k.G 3 14
  exact⟨_,v_load rfl e7 (l_one isAgg79 bD.1),rfl⟩)) ?_
 refine .o1 (tkV rfl (noG rfl) rfl fun _ w hn k=>(by
  refine ⟨67,#[.int .u16 ((u.getD i 0:Nat):Int)],_,(k.eq1 0 11 rfl),args1 (k.eq1 4 15 rfl),fun w=>by kernel_rfl,nodigit_c (u.getD i 0) _ (by omega),?_⟩
  rintro e w' ⟨rfl,hm⟩
  exact⟨_,rfl,hm,rfl⟩)) ?_
 exact .nil
 refine aftI ap a7 aq fun cj cl ak ar au bR ac=>?_
 have⟨aO,bE,bF,bG⟩:=ac.f4 bB aL aM bC
 have bH:=ac.f1 aN
 have aP:=ac.g 5 16
 refine a8 _ _ ?_
 rcases bc ((!dgtN (u.getD i 0))) with ag|ag
 have a9:=hB aP ag
 refine wt a9<| wk fun cm ba=>?_
 refine wA tr2 [] 19 [ve (iv (i:Int)),ve (iv (i:Int))] ak ?_ ?_
 exact .M bH<| .B 0 .nil
 refine aftI ak ar au fun cn co bS bb bd bT be=>?_
 have bI:=be.g 1 4
 refine ba _ _<| wp_ret (ret_k bb (v:=iv (i:Int)) (res_t rfl bI _) ?_)
 exact⟨by rw [idxF_at (fun y:Nat=>!dgtN y) u i (by omega) hno ag],bd⟩
 have bf:=hB aP ag
 refine wf bf<| ws<| a5 _ _<| wA [true,false] [(1,true)] 19 [ve (iv ((i + 1:Nat):Int)),vt] ak ?_ ?_
 exact .R (fun k=>v_bin rfl (k.fx 8 aO) rfl (fun _=>rfl) (n_add (by omega) (IntWalk.i64_in _ (by omega)))) (fun _=>rfl)<| .off .nil
 refine aftI ak ar au fun aQ cp av bg ax bU ah=>?_
 have⟨cq,bJ,bK,bL⟩:=ah.f4 aO bE bF bG
 have aR:=ah.g 0 18
 refine st_take rfl rfl (y_move (v:=iv ((i + 1:Nat):Int)) rfl aR) rfl ?_
 obtain⟨bh,ab⟩:∃ a',a'=aQ.put (some 8) (iv ((i + 1:Nat):Int)):=⟨_,rfl⟩
 have⟨ay,az⟩:=pz2 ab av bg
 have⟨bi,bj,bk⟩:=pN3 ab bJ bK bL
 have bV:=pN ab aR
 have bl:=s7 ab av
 show stepsTo _ _ _ _ _ (aQ.put (some 8) (iv ((i + 1:Nat):Int))) _
 rw [← ab]
 refine st_nil ?_
 refine then_n ?_
 exact⟨_,⟨i + 1,rfl,ay,az,ax,(bl.trans (congrArg (Value.int .i64) (by omega))),bi,bj,bk,(by omega),(up_false (p:=(fun y:Nat=>!dgtN y)) hno ag)⟩,(by omega)⟩
 have aw:=oF ae
 have aA:=hB aK ae
 refine wf aA<| wp_exit ?_
 refine aT _ _<| wk fun bW aB=>?_
 refine wA tr1 [] 19 [ve (iv (-1))] aj ?_ ?_
 exact .c .nil
 refine aftI aj an ao fun bX bY bM aC aD bN aE=>?_
 have bm:=aE.g 0 4
 refine aB _ _<| wp_ret (ret_k aC (v:=iv (-1)) (res_t rfl bm _) ?_)
 exact⟨by rw [idxF_none (fun y:Nat=>!dgtN y) u (fun j hj=>hno j (by omega))],aD⟩
theorem containsf_c (Au:Option Addr) (u:List Nat) (cu:Nat) (w:World) (hru:SRow w .u16 Au u cu) (hu:U16s u):Calls prog 66 #[sv Au u cu,.func (.func 67) #[] #[]] w (IsRet (.bool (u.any (fun y:Nat=>!dgtN y))) w):=by
 refine enter_abs func66 rfl fun a0 ac ao hp=>?_
 have ac:a0.tmps.size=9:=ac
 have ap:New w w:=Upd.refl _ _
 have hp0:a0.eval (.tmp 0)=sv Au u cu:=hp 0 _ rfl
 have hp1:a0.eval (.tmp 1)=.func (.func 67) #[] #[]:=hp 1 _ rfl
 have hmx:=hru.max
 refine wk fun K1 aq=>?_
 refine wA tr1 [] 9 [vF] ac ?_ ?_
 exact .c .nil
 refine aftI ac ao ap fun a2 w3 ad ag ab az ah=>?_
 have⟨h8,h9⟩:=ah.f2 hp0 hp1
 refine aq _ _ <| wk fun aA ae=>?_
 rcases bc (decide ((idxF (fun y:Nat=>!dgtN y) u) < 0)) with aa|aa
 have af:=oT aa
 refine wA tr5 [] 9 [ve (sv Au u cu),ve (.func (.func 67) #[] #[]),ve (iv (idxF (fun y:Nat=>!dgtN y) u)),vF,vF] ad ?_ ?_
 exact .M h8<| .M h9<| .C2 0 1 (fun n=>indexf_c _ u _ _ (hru.new_ (ab.transNew n)) hu)<| .b 2 (r_geqK aa)<| .B 3 .nil
 refine aftI ad ag ab fun aB aC av ai aj aw ak=>?_
 have ar:=ak.g 4 4
 refine ae _ _<| wp_ret (ret_k ai (v:=.bool false) (res_t rfl ar _) ?_)
 exact⟨by rw [← idxF_any (fun y:Nat=>!dgtN y) u,aa]; rfl,aj⟩
 have af:=oF aa
 refine wA tr5 [] 9 [ve (sv Au u cu),ve (.func (.func 67) #[] #[]),ve (iv (idxF (fun y:Nat=>!dgtN y) u)),vT,vT] ad ?_ ?_
 exact .M h8<| .M h9<| .C2 0 1 (fun n=>indexf_c _ u _ _ (hru.new_ (ab.transNew n)) hu)<| .b 2 (r_geqK aa)<| .B 3 .nil
 refine aftI ad ag ab fun aD aE ax al am ay an=>?_
 have au:=an.g 4 4
 refine ae _ _<| wp_ret (ret_k al (v:=.bool true) (res_t rfl au _) ?_)
 exact⟨by rw [← idxF_any (fun y:Nat=>!dgtN y) u,aa]; rfl,am⟩
theorem strange_c (Au:Option Addr) (u:List Nat) (cu:Nat) (w:World) (hru:SRow w .u16 Au u cu) (hu:U16s u):Calls prog 64 #[sv Au u cu] w (IsRet (.bool (strangeN u)) w):=by
 refine enter_abs func64 rfl fun a0 aL cU hp=>?_
 have aL:a0.tmps.size=38:=aL
 have cV:New w w:=Upd.refl _ _
 have hp0:a0.eval (.tmp 0)=sv Au u cu:=hp 0 _ rfl
 have hmx:=hru.max
 refine wk fun K1 cW=>?_
 refine wA tr1 [] 38 [vF] aL ?_ ?_
 exact .c .nil
 refine aftI aL cU cV fun a2 w3 bV cX cY eb cZ=>?_
 have h8:=cZ.f1 hp0
 refine cW _ _ <| wk fun ec b9=>?_
 refine wA tr1 [] 38 [vF] bV ?_ ?_
 exact .c .nil
 refine aftI bV cX cY fun ed ee aY ca cb dJ aZ=>?_
 have c0:=aZ.f1 h8
 have c1:=aZ.g 0 3
 refine b9 _ _ <| wk fun ef cc=>?_
 refine wk fun eg cd=>?_
 refine wA tr3 [] 38 [ve (sv Au u cu),ve (iv (u.length:Int)),ve (iv 0)] aY ?_ ?_
 exact .M c0<| .T (fun k=>v_lenR rfl elU (k.eq1 0 6 rfl))<| .T (fun k=>v_move rfl rfl) .nil
 refine aftI aY ca cb fun eh ei ce cf ch dK au=>?_
 have c2:=au.f1 c1
 have c3:=au.g 0 6
 have c4:=au.g 1 7
 have c5:=au.g 2 8
 refine cd _ _<| wb<| wp_loopX (fun (mm:Nat) (aa:Act) (ww:World)=>∃ (i:Nat),mm=u.length - i∧aa.tmps.size=38∧aa.defers=[]∧New w ww∧aa.eval (.tmp 3)=.bool ((u.take i).any dgtN)∧aa.eval (.tmp 8)=iv (i:Int)∧aa.eval (.tmp 6)=sv Au u cu∧aa.eval (.tmp 7)=iv (u.length:Int)∧(i≤u.length)∧((u.take i).all okcN=true)) (fun mm=>mm) ⟨_,⟨0,rfl,ce,cf,ch,(c2.trans rfl),c5,c3,c4,(Nat.zero_le _),rfl⟩⟩ ?_
 rintro mm ej ek ⟨i,hmm,a1,ci,cj,c6,bW,c8,bX,hi,hall⟩
 refine wk fun el cl=>?_
 refine wA tr1 [] 38 [ve (.bool (decide ((i:Int) < (u.length:Int))))] a1 ?_ ?_
 exact .T (fun k=>v_bin rfl (k.fx 8 bW) (k.fx 7 bX) (fun _=>rfl) (r_lssK rfl)) .nil
 refine aftI a1 ci cj fun em en av a3 aI dL an=>?_
 have⟨bY,bZ,b0,c9⟩:=an.f4 c6 bW c8 bX
 have b2:=an.g 0 9
 refine cl _ _ <| wk fun eo cm=>?_
 rcases bc (decide ((i:Int) < (u.length:Int))) with ao|ao
 have bt:=oT ao
 have cn:=hB b2 ao
 refine wt cn<| ws<| cm _ _ ?_
 refine wp_seq_j (fun (aa:Act) (ww:World)=>aa.tmps.size=38∧aa.defers=[]∧New w ww∧aa.eval (.tmp 3)=.bool ((u.take (i + 1)).any dgtN)∧aa.eval (.tmp 6)=sv Au u cu∧aa.eval (.tmp 7)=iv (u.length:Int)∧aa.eval (.tmp 8)=iv (i:Int)∧(okcN (u.getD i 0)=true)) ?_ ?_
 rintro ep er ⟨a4,co,cp,da,db,dc,b4,hok⟩
 refine wA [true,false] [(1,true)] 38 [ve (iv ((i + 1:Nat):Int)),vt] a4 ?_ ?_
 exact .R (fun k=>v_bin rfl (k.fx 8 b4) rfl (fun _=>rfl) (n_add (by omega) (IntWalk.i64_in _ (by omega)))) (fun _=>rfl)<| .off .nil
 refine aftI a4 co cp fun b6 es a5 cq cr dM ap=>?_
 have⟨dd,de,df,et⟩:=ap.f4 da db dc b4
 have b7:=ap.g 0 36
 refine st_take rfl rfl (y_move (v:=iv ((i + 1:Nat):Int)) rfl b7) rfl ?_
 obtain⟨dg,af⟩:∃ a',a'=b6.put (some 8) (iv ((i + 1:Nat):Int)):=⟨_,rfl⟩
 have⟨cs,ct⟩:=pz2 af a5 cq
 have⟨dh,di,dj⟩:=pN3 af dd de df
 have eu:=pN af b7
 have dk:=s7 af a5
 show stepsTo _ _ _ _ _ (b6.put (some 8) (iv ((i + 1:Nat):Int))) _
 rw [← af]
 refine st_nil ?_
 refine then_n ?_
 exact⟨_,⟨i + 1,rfl,cs,ct,cr,dh,(dk.trans (congrArg (Value.int .i64) (by omega))),di,dj,(by omega),(all_up (by omega) hall hok)⟩,(by omega)⟩
 intro ev aw
 refine wb<| wk fun ew cv=>?_
 have hb:=hu.at16 i
 refine wp_g0 [true,true,true] [] 38
  [(EP (.int .u16 ((u.getD i 0:Nat):Int))),ve (.int .u16 ((u.getD i 0:Nat):Int)),ve (.int .u16 ((u.getD i 0:Nat):Int))] av (.cons (fun _ _ _ n ⟨_,_,e,h⟩=>⟨_,_,e,h.new_ n⟩) (.eq (.eq .nil))) ?_ ?_
 refine .o1 (tk rfl rfl fun _ w hn k=>(by
  exact x_eaddr (k:=.u16) rfl elU (k.fx 6 b0) (k.fx 8 bZ) (hru.new_ (aI.transNew hn)) (by omega) fun b1 o2 hme=>⟨b1,o2,rfl,hme⟩)) ?_
 refine .o1 (tk rfl rfl fun _ w hn k=>(by
  obtain⟨b5,o6,e7,dl⟩:=k.G 0 10
  exact⟨_,v_load rfl e7 (l_one isAgg79 dl.1),rfl⟩)) ?_
 exact .B 1 .nil
 refine aftI av a3 aI fun ex ey a6 cw bu dN aq=>?_
 have⟨b8,dm,dn,dp⟩:=aq.f4 bY bZ b0 c9
 have a7:=aq.g 2 5
 refine cv _ _ ?_
 refine wp_seq_j (fun (aa:Act) (ww:World)=>aa.tmps.size=38∧aa.defers=[]∧New w ww∧aa.eval (.tmp 3)=.bool ((u.take (i + 1)).any dgtN)∧aa.eval (.tmp 5)=.int .u16 ((u.getD i 0:Nat):Int)∧aa.eval (.tmp 6)=sv Au u cu∧aa.eval (.tmp 7)=iv (u.length:Int)∧aa.eval (.tmp 8)=iv (i:Int)) ?_ ?_
 rintro dO dP ⟨aM,bv,bw,cx,a8,cy,cz,cA⟩
 refine wb<| wk fun dQ ax=>wk fun dR bx=>?_
 have hb:=hu.at16 i
 refine wA tr3 [] 38 [ve (.int .u16 ((u.getD i 0:Nat):Int)),ve (.bool (dgtN (u.getD i 0))),ve (.bool (dgtN (u.getD i 0)))] aM ?_ ?_
 exact .M a8<| .C 0 (fun p=>digit_c (u.getD i 0) _ (by omega))<| .B 1 .nil
 refine aftI aM bv bw fun dS dT ay aN aO dA ag=>?_
 have⟨a9,aJ,ba,bb⟩:=ag.f4 cx a8 cy cz
 have bd:=ag.f1 cA
 have be:=ag.g 2 17
 refine bx _ _ ?_
 rcases bc (dgtN (u.getD i 0)) with ad|ad
 have aP:=hB be ad
 refine wt aP<| ws<| ax _ _<| wt aP<| ws<| aw _ _ ⟨ay,aN,aO,a9,ba,bb,bd,(by unfold okcN; simp only [ad,bsm])⟩
 have bz:=hB be ad
 refine wf bz<| wk fun dU bA=>?_
 refine wA tr7 [] 38 [ve (.int .u16 ((u.getD i 0:Nat):Int)),ve (.bool (!decide (((u.getD i 0:Nat):Int) < 97))),ve (.bool (!decide (((u.getD i 0:Nat):Int) < 97))),ve (gq (!decide (((u.getD i 0:Nat):Int) < 97)) (.int .u16 ((u.getD i 0:Nat):Int))),ve (gq (!decide (((u.getD i 0:Nat):Int) < 97)) (.bool (decide (((u.getD i 0:Nat):Int)≤102)))),ve (.bool ((!decide (((u.getD i 0:Nat):Int) < 97)) && (decide (((u.getD i 0:Nat):Int)≤102)))),ve (.bool ((!decide (((u.getD i 0:Nat):Int) < 97)) && (decide (((u.getD i 0:Nat):Int)≤102))))] ay ?_ ?_
 exact .M aJ<| .b 0 (r_geqK rfl)<| .N 1<| .Q (fun k=>g0 (k.eq1 2 22 rfl)) (fun hG p k=>v_move rfl (k.fx 5 aJ))<| .Q (fun k=>g0 (k.eq1 2 22 rfl)) (fun hG p k=>v_bin rfl (cT hG (k.eq1 3 23 rfl)) rfl (fun _=>rfl) (r_leqK rfl))<| .O 2 4<| .B 5 .nil
 refine aftI ay aN aO fun dV dW az aQ aR dB ah=>?_
 have⟨bf,aK,bg,bh⟩:=ah.f4 a9 aJ ba bb
 have bi:=ah.f1 bd
 have bj:=ah.g 6 17
 refine bA _ _ ?_
 rcases bc (((!decide (((u.getD i 0:Nat):Int) < 97)) && (decide (((u.getD i 0:Nat):Int)≤102)))) with ab|ab
 have aS:=hB bj ab
 have aA:(!decide (((u.getD i 0:Nat):Int) < 97))=true:=al ab
 have aB:(decide (((u.getD i 0:Nat):Int) < 97))=false:=nF aA
 have dq:=oF aB
 have aC:(decide (((u.getD i 0:Nat):Int)≤102))=true:=ar ab
 have dr:=oT aC
 refine wt aS<| ws<| ax _ _<| wt aS<| ws<| aw _ _ ⟨az,aQ,aR,bf,bg,bh,bi,(by unfold okcN; simp only [ad,ab,aA,aA,aB,aB,aC,aC,bsm])⟩
 have bB:=hB bj ab
 refine wf bB<| wp_g0 [true,true,true,true,true,true,true] [] 38
  [ve (.int .u16 ((u.getD i 0:Nat):Int)),ve (.bool (!decide (((u.getD i 0:Nat):Int) < 65))),ve (.bool (!decide (((u.getD i 0:Nat):Int) < 65))),ve (gq (!decide (((u.getD i 0:Nat):Int) < 65)) (.int .u16 ((u.getD i 0:Nat):Int))),ve (gq (!decide (((u.getD i 0:Nat):Int) < 65)) (.bool (decide (((u.getD i 0:Nat):Int)≤70)))),ve (.bool ((!decide (((u.getD i 0:Nat):Int) < 65)) && (decide (((u.getD i 0:Nat):Int)≤70)))),ve (.bool ((!decide (((u.getD i 0:Nat):Int) < 65)) && (decide (((u.getD i 0:Nat):Int)≤70))))] az (.eq (.eq (.eq (.eq (.eq (.eq (.eq .nil))))))) ?_ ?_
 exact .M aK<| .b 0 (r_geqK rfl)<| .N 1<| .Q (fun k=>g0 (k.eq1 2 28 rfl)) (fun hG p k=>v_move rfl (k.fx 5 aK))<| .Q (fun k=>g0 (k.eq1 2 28 rfl)) (fun hG p k=>v_bin rfl (cT hG (k.eq1 3 29 rfl)) rfl (fun _=>rfl) (r_leqK rfl))<| .O 2 4<| .B 5 .nil
 refine aftI az aQ aR fun dX bk aD aT aU dC ai=>?_
 have⟨bl,cB,bm,bn⟩:=ai.f4 bf aK bg bh
 have bo:=ai.f1 bi
 have bp:=ai.g 6 17
 refine ax _ _ ?_
 rcases bc (((!decide (((u.getD i 0:Nat):Int) < 65)) && (decide (((u.getD i 0:Nat):Int)≤70)))) with ae|ae
 have bC:=hB bp ae
 have aE:(!decide (((u.getD i 0:Nat):Int) < 65))=true:=al ae
 have aF:(decide (((u.getD i 0:Nat):Int) < 65))=false:=nF aE
 have ds:=oF aF
 have aG:(decide (((u.getD i 0:Nat):Int)≤70))=true:=ar ae
 have dt:=oT aG
 refine wt bC<| ws<| aw _ _ ⟨aD,aT,aU,bl,bm,bn,bo,(by unfold okcN; simp only [ad,ab,ae,aE,aE,aF,aF,aG,aG,bsm])⟩
 have bD:=hB bp ae
 refine wf bD<| wk fun dY bE=>?_
 have hb:=hu.at16 i
 refine wp_g0 [true,true,true,true] [] 38
  [(OP bk.heap.size 79 .u16 (asc ⟨#[120,88,111,79,46,43,45,95]⟩)),ve (.int .u16 ((u.getD i 0:Nat):Int)),ve (.bool ((asc ⟨#[120,88,111,79,46,43,45,95]⟩).any (fun y:Nat=>decide (((u.getD i 0):Int)=(y:Int))))),ve (.bool ((asc ⟨#[120,88,111,79,46,43,45,95]⟩).any (fun y:Nat=>decide (((u.getD i 0):Int)=(y:Int)))))] aD (.cons (fun _ _ _ n ⟨_,_,e,h⟩=>⟨_,_,e,h.new_ n⟩) (.eq (.eq (.eq .nil)))) ?_ ?_
 refine .o1 (tkC rfl (noG rfl) rfl fun _ w hn k=>(by
  refine ⟨#[.string ⟨#[120,88,111,79,46,43,45,95]⟩],_,args1 rfl,fun w=>by kernel_rfl,ascii_c ⟨#[120,88,111,79,46,43,45,95]⟩ _ (by first|omega|(show (_:Nat)≤_; decide)),?_⟩
  rintro e w' ⟨A9,dw,rfl,hmo0,hm⟩
  exact⟨_,rfl,hm,⟨A9,dw,rfl,(hmo0.more hn.size)⟩⟩)) ?_
 refine .M cB ?_
 refine .o1 (tkC rfl (noG rfl) rfl fun _ w hn k=>(by
  obtain⟨dx,dy,dz,cC⟩:=k.G 0 33
  refine ⟨#[sv dx (asc ⟨#[120,88,111,79,46,43,45,95]⟩) dy,.int .u16 ((u.getD i 0:Nat):Int)],_,args2 dz (k.eq1 1 34 rfl),fun w=>by kernel_rfl,contains16_c _ (asc ⟨#[120,88,111,79,46,43,45,95]⟩) _ (u.getD i 0) _ cC.row (by omega),?_⟩
  rintro e w' ⟨rfl,hm⟩
  exact⟨_,rfl,hm,rfl⟩)) ?_
 exact .B 2 .nil
 refine aftI aD aT aU fun dZ d0 aH aV aW dD ak=>?_
 have⟨cD,cE,cF,cG⟩:=ak.f4 bl bm bn bo
 have bq:=ak.g 3 32
 refine bE _ _ ?_
 rcases bc (((asc ⟨#[120,88,111,79,46,43,45,95]⟩).any (fun y:Nat=>decide (((u.getD i 0):Int)=(y:Int))))) with am|am
 have bF:=hB bq am
 refine wt bF<| ws<| aw _ _ ⟨aH,aV,aW,cD,cE,cF,cG,(by unfold okcN; simp only [ad,ab,ae,am,bsm])⟩
 have bG:=hB bq am
 refine wf bG<| wk fun d1 bH=>?_
 refine wA tr1 [] 38 [vF] aH ?_ ?_
 exact .c .nil
 refine aftI aH aV aW fun d2 d3 dE bI bJ dF bK=>?_
 have cH:=bK.g 0 2
 refine bH _ _<| wp_ret (ret_k bI (v:=.bool false) (res_t rfl cH _) ?_)
 exact⟨by rw [show strangeN u=false from by unfold strangeN; rw [all_bad (i:=i) (by omega) (by unfold okcN; simp only [ad,ab,ae,am,bsm]),Bool.false_and]],bJ⟩
 intro d4 bL
 have hb:=hu.at16 i
 refine wA [true,true,true,true,true,false] [(5,true)] 38 [ve (.bool ((u.take i).any dgtN)),ve (.bool ((u.take i).any dgtN)),ve (gq (!((u.take i).any dgtN)) (.int .u16 ((u.getD i 0:Nat):Int))),ve (gq (!((u.take i).any dgtN)) (.bool (dgtN (u.getD i 0)))),ve (.bool (((u.take i).any dgtN) || (dgtN (u.getD i 0)))),vt] a6 ?_ ?_
 exact .M b8<| .N 0<| .Q (fun k=>g0' (k.eq1 1 13 rfl)) (fun hG p k=>v_move rfl (k.fx 5 a7))<| .o1 (scC (G:=(!((u.take i).any dgtN))) rfl rfl rfl (fun _ _ k=>g0' (k.eq1 1 13 rfl)) rfl (fun hG _ w hn k=>⟨#[.int .u16 ((u.getD i 0:Nat):Int)],args1 (cT hG (k.eq1 2 14 rfl)),fun _=>by kernel_rfl,digit_c (u.getD i 0) _ (by omega)⟩))<| .W 1 3<| .off .nil
 refine aftI a6 cw bu fun br d5 aX bM bN dG aj=>?_
 have⟨d6,cI,cJ,cK⟩:=aj.f4 b8 dm dn dp
 have cL:=aj.f1 a7
 have bs:=aj.g 4 16
 refine sP bs aX bM fun cM bO bP ac cR=>?_
 have⟨cN,cO,cP⟩:=ac.q3 cI cJ cK
 have⟨cQ,d7⟩:=ac.q2 cL bs
 refine st_nil ?_
 exact bL _ _ ⟨bO,bP,bN,(cR.trans (congrArg Value.bool (by rw [any_up (by omega)]))),cQ,cO,cP,cN⟩
 have bt:=oF ao
 have bQ:=hB b2 ao
 refine wf bQ<| wp_exit ?_
 refine cc _ _<| wk fun d8 bR=>?_
 refine wA tr2 [] 38 [ve (.bool ((u.take i).any dgtN)),ve (.bool ((u.take i).any dgtN))] av ?_ ?_
 exact .M bY<| .B 0 .nil
 refine aftI av a3 aI fun d9 ea dH bS bT dI bU=>?_
 have cS:=bU.g 1 2
 refine bR _ _<| wp_ret (ret_k bS (v:=.bool ((u.take i).any dgtN)) (res_t rfl cS _) ?_)
 exact⟨by rw [show strangeN u=((u.take i).any dgtN) from by unfold strangeN; rw [List.take_of_length_le (by omega)] at hall; rw [hall,Bool.true_and,List.take_of_length_le (by omega)]],bT⟩
theorem value_c (Au:Option Addr) (u:List Nat) (cu:Nat) (w:World) (hru:SRow w .u16 Au u cu) (hu:U16s u) (hd:∀ j,j < u.length→48≤u.getD j 0∧u.getD j 0≤57):Calls prog 69 #[sv Au u cu] w (IsRet (.tuple #[iv ((valR u 0).1),.bool ((valR u 0).2)]) w):=by
 refine enter_abs func69 rfl fun a0 ap bT hp=>?_
 have ap:a0.tmps.size=25:=ap
 have bU:New w w:=Upd.refl _ _
 have hp0:a0.eval (.tmp 0)=sv Au u cu:=hp 0 _ rfl
 have hmx:=hru.max
 refine wk fun K1 bV=>?_
 refine wA tr2 [] 25 [ve (iv 0),vF] ap ?_ ?_
 exact .c<| .c .nil
 refine aftI ap bT bU fun a2 w3 a3 bW bX cQ bY=>?_
 have h8:=bY.f1 hp0
 refine bV _ _ <| wk fun cR bh=>?_
 refine wA tr1 [] 25 [ve (iv 0)] a3 ?_ ?_
 exact .c .nil
 refine aftI a3 bW bX fun cS cT ay bi bj cs az=>?_
 have bZ:=az.f1 h8
 have b0:=az.g 0 4
 refine bh _ _ <| wk fun cU bk=>?_
 refine wk fun cV bl=>?_
 refine wA tr3 [] 25 [ve (sv Au u cu),ve (iv (u.length:Int)),ve (iv 0)] ay ?_ ?_
 exact .M bZ<| .T (fun k=>v_lenR rfl elU (k.eq1 0 7 rfl))<| .T (fun k=>v_move rfl rfl) .nil
 refine aftI ay bi bj fun cW cX bm bn bo ct al=>?_
 have b2:=al.f1 b0
 have b4:=al.g 0 7
 have b6:=al.g 1 8
 have b7:=al.g 2 9
 refine bl _ _<| wb<| wp_loopX (fun (mm:Nat) (aa:Act) (ww:World)=>∃ (i:Nat) (n:Int),mm=u.length - i∧aa.tmps.size=25∧aa.defers=[]∧New w ww∧aa.eval (.tmp 4)=iv n∧aa.eval (.tmp 9)=iv (i:Int)∧aa.eval (.tmp 7)=sv Au u cu∧aa.eval (.tmp 8)=iv (u.length:Int)∧(i≤u.length)∧(0≤n∧n≤9007199254741000)∧(valR u 0=valR (u.drop i) n)) (fun mm=>mm) ⟨_,⟨0,0,rfl,bm,bn,bo,b2,b7,b4,b6,(Nat.zero_le _),(by omega),(by rw [List.drop_zero])⟩⟩ ?_
 rintro mm cY cZ ⟨i,n,hmm,aA,bp,bq,b8,a4,b9,a5,hi,hn,hv⟩
 refine wk fun c0 br=>?_
 refine wA tr1 [] 25 [ve (.bool (decide ((i:Int) < (u.length:Int))))] aA ?_ ?_
 exact .T (fun k=>v_bin rfl (k.fx 9 a4) (k.fx 8 a5) (fun _=>rfl) (r_lssK rfl)) .nil
 refine aftI aA bp bq fun c1 c2 am aB ao cv ah=>?_
 have⟨aC,a6,a7,ca⟩:=ah.f4 b8 a4 b9 a5
 have a8:=ah.g 0 10
 refine br _ _ <| wk fun c3 bs=>?_
 rcases bc (decide ((i:Int) < (u.length:Int))) with ai|ai
 have aL:=oT ai
 have bt:=hB a8 ai
 refine wt bt<| ws<| bs _ _<| wk fun c4 bu=>wb ?_
 refine wk fun c5 bv=>?_
 have hb:=hu.at16 i
 refine wp_g0 [true,true,true] [] 25
  [(EP (.int .u16 ((u.getD i 0:Nat):Int))),ve (.int .u16 ((u.getD i 0:Nat):Int)),ve (.int .u16 ((u.getD i 0:Nat):Int))] am (.cons (fun _ _ _ n ⟨_,_,e,h⟩=>⟨_,_,e,h.new_ n⟩) (.eq (.eq .nil))) ?_ ?_
 refine .o1 (tk rfl rfl fun _ w hn k=>(by
  exact x_eaddr (k:=.u16) rfl elU (k.fx 7 a7) (k.fx 9 a6) (hru.new_ (ao.transNew hn)) (by omega) fun b1 o2 hme=>⟨b1,o2,rfl,hme⟩)) ?_
 refine .o1 (tk rfl rfl fun _ w hn k=>(by
  obtain⟨b5,o6,e7,cb⟩:=k.G 0 11
  exact⟨_,v_load rfl e7 (l_one isAgg79 cb.1),rfl⟩)) ?_
 exact .B 1 .nil
 refine aftI am aB ao fun c6 c8 an aD aE cw aj=>?_
 have⟨aq,a9,ba,bb⟩:=aj.f4 aC a6 a7 ca
 have bd:=aj.g 2 6
 refine bv _ _ <| wk fun c9 bw=>?_
 refine wk fun da aF=>?_
 rcases bc (decide (n≤900719925474099)) with ae|ae
 have aM:=oT ae
 refine wA tr2 [] 25 [ve (iv n),vF] an ?_ ?_
 exact .M aq<| .b 0 (r_gtrK ae) .nil
 refine aftI an aD aE fun db dc aG bx bz cx ag=>?_
 have⟨be,cc,cd,ce⟩:=ag.f4 aq a9 ba bb
 have cf:=ag.f1 bd
 have ch:=ag.g 1 14
 refine aF _ _<| wf ch<| ws ?_
 refine bw _ _ ?_
 have hdg:=hd i (by omega)
 have hb:=hu.at16 i
 refine wA [true,true,true,true,true,true,false] [(6,true)] 25 [ve (iv n),ve (iv (10 * n)),ve (.int .u16 ((u.getD i 0:Nat):Int)),ve (.int .u16 (((u.getD i 0) - 48:Nat):Int)),ve (iv (((u.getD i 0) - 48:Nat):Int)),ve (iv ((10 * n) + (((u.getD i 0) - 48:Nat):Int))),vt] aG ?_ ?_
 exact .M be<| .R (fun k=>v_bin rfl rfl (k.eq1 0 15 rfl) (fun _=>rfl) (n_mul rfl (IntWalk.i64_in _ (by omega)))) (fun _=>rfl)<| .M cf<| .R (fun k=>v_bin rfl (k.eq1 2 17 rfl) rfl (fun _=>rfl) (n_sub (by omega) (IntWalk.u16_in _ (by omega)))) (fun _=>rfl)<| .R (fun k=>v_conv rfl (k.eq1 3 18 rfl) (n_conv (by kernel_rfl) (by kernel_rfl) (by kernel_rfl) (IntWalk.i64_in _ (by omega)))) (fun _=>rfl)<| .R (fun k=>v_bin rfl (k.eq1 1 16 rfl) (k.eq1 4 19 rfl) (fun _=>rfl) (r_add rfl (by omega))) (fun _=>rfl)<| .off .nil
 refine aftI aG bx bz fun bf dd aH bA bB cy ak=>?_
 have⟨de,ci,cj,cl⟩:=ak.f4 be cc cd ce
 have bg:=ak.g 5 20
 refine sP bg aH bA fun bC ar aN ab bF=>?_
 have⟨aI,bD,bE⟩:=ab.q3 ci cj cl
 have cz:=ab.q bg
 refine bu _ _<| wA [true,false] [(1,true)] 25 [ve (iv ((i + 1:Nat):Int)),vt] ar ?_ ?_
 exact .R (fun k=>v_bin rfl (k.fx 9 aI) rfl (fun _=>rfl) (n_add (by omega) (IntWalk.i64_in _ (by omega)))) (fun _=>rfl)<| .off .nil
 refine aftI ar aN bB fun aJ cA au aO aP cm af=>?_
 have⟨cB,bG,bH,bI⟩:=af.f4 aI bD bE bF
 have aK:=af.g 0 21
 refine st_take rfl rfl (y_move (v:=iv ((i + 1:Nat):Int)) rfl aK) rfl ?_
 obtain⟨bJ,ac⟩:∃ a',a'=aJ.put (some 9) (iv ((i + 1:Nat):Int)):=⟨_,rfl⟩
 have⟨aQ,aR⟩:=pz2 ac au aO
 have⟨bK,bL,bM⟩:=pN3 ac bG bH bI
 have cC:=pN ac aK
 have bN:=s7 ac au
 show stepsTo _ _ _ _ _ (aJ.put (some 9) (iv ((i + 1:Nat):Int))) _
 rw [← ac]
 refine st_nil ?_
 refine then_n ?_
 exact⟨_,⟨i + 1,10 * n + (((u.getD i 0:Nat):Int) - 48),rfl,aQ,aR,aP,(bM.trans (congrArg (Value.int .i64) (by omega))),(bN.trans (congrArg (Value.int .i64) (by omega))),bK,bL,(by omega),(by omega),(hv.trans (by rw [drop_at (by omega)]; simp only [valR,ae]; rfl))⟩,(by omega)⟩
 have aM:=oF ae
 refine wA tr2 [] 25 [ve (iv n),vT] an ?_ ?_
 exact .M aq<| .b 0 (r_gtrK ae) .nil
 refine aftI an aD aE fun cD cE av aS aT cn ad=>?_
 have⟨cF,cG,cH,cI⟩:=ad.f4 aq a9 ba bb
 have cJ:=ad.f1 bd
 have bO:=ad.g 1 14
 refine aF _ _<| wt bO<| wk fun cK aU=>?_
 refine wA tr2 [] 25 [ve (iv 0),vF] av ?_ ?_
 exact .c<| .c .nil
 refine aftI av aS aT fun cL cM co aV aW cp aw=>?_
 have bP:=aw.g 0 2
 have bQ:=aw.g 1 3
 refine aU _ _<| wp_ret (ret_k aV (v:=.tuple #[iv 0,.bool false]) (res_tt rfl bP bQ _) ?_)
 exact⟨by rw [show valR u 0=(0,false) from hv.trans (by rw [drop_at (by omega)]; simp only [valR,ae]; rfl)],aW⟩
 have aL:=oF ai
 have aX:=hB a8 ai
 refine wf aX<| wp_exit ?_
 refine bk _ _<| wk fun cN aY=>?_
 refine wA tr5 [] 25 [ve (iv n),ve (iv n),ve (.bool (decide (n≤9007199254740991))),ve (iv n),ve (.bool (decide (n≤9007199254740991)))] am ?_ ?_
 exact .M aC<| .M aC<| .b 1 (r_leqK rfl)<| .B 0<| .B 2 .nil
 refine aftI am aB ao fun cO cP cq aZ a1 cr ax=>?_
 have bR:=ax.g 3 2
 have bS:=ax.g 4 3
 refine aY _ _<| wp_ret (ret_k aZ (v:=.tuple #[iv n,.bool (decide (n≤9007199254740991))]) (res_tt rfl bR bS _) ?_)
 exact⟨by rw [show valR u 0=(n,decide (n≤9007199254740991)) from hv.trans (by rw [List.drop_eq_nil_of_le (by omega)]; rfl)],a1⟩
end Go.Proofs.YtecgdgjlmlpcnaaGreatDoor
