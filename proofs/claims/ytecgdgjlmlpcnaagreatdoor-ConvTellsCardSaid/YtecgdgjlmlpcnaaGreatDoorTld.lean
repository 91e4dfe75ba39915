import Derived.Test.YtecgdgjlmlpcnaaGreatDoorTlc
namespace Go.Proofs.YtecgdgjlmlpcnaaGreatDoor
open Go.RowKit
open Tryz
set_option linter.unusedSimpArgs false
set_option linter.unusedVariables false
set_option maxHeartbeats 16000000
set_option maxRecDepth 100000
theorem sMay_c (a:Bool) (Aa:Option Addr) (ma:List Nat) (ca:Nat) (w:World) (hra:SRow w .u32 Aa ma ca):Calls prog 117 #[.agg #[.bool a,sv Aa ma ca]] w (IsRet (.bool (mayB a ma)) w):=by
 refine enter_abs func117 rfl fun a0 aq a9 hp=>?_
 have aq:a0.tmps.size=31:=aq
 have az:New w w:=Upd.refl _ _
 have hp0:a0.eval (.tmp 0)=.agg #[.bool a,sv Aa ma ca]:=hp 0 _ rfl
 have hmx:=hra.max
 refine wk fun K1 ba=>?_
 refine wB tr2 [] [] 31 [IsNew w 26 [.bool a,sv Aa ma ca],vF] [0] aq ?_ heN ?_
 exact .X hp0<| .c .nil
 refine aftI aq a9 az fun a2 w3 aA bb aB bX bd=>?_
 obtain⟨q9,h8,aC,ar⟩:=bd.G 0 1
 have bG:=Nat.le_trans az.size aC
 refine ba _ _ <| wk fun bY aD=>?_
 refine wA tr4 [] 31 [ve (.pointer (some ⟨q9,1,none⟩)),ve (sv Aa ma ca),ve (iv (ma.length:Int)),ve (iv (ma.length:Int))] aA ?_ ?_
 exact .F h8<| .J 0 isAgg24 ar<| .T (fun k=>v_lenR rfl elW (k.eq1 1 5 rfl))<| .B 2 .nil
 refine aftI aA bb aB fun bZ b0 ab ag ac aE au=>?_
 have al:=au.f1 h8
 have aa:=au.g 3 3
 have ah:=ar.new_ aE
 refine aD _ _ <| wk fun b1 ai=>?_
 rcases bc (decide ((ma.length:Int)≤8)) with ad|ad
 have av:=oT ad
 rcases bc (decide ((ma.length:Int)=0)) with ae|ae
 have aw:=oT ae
 rcases bc (a) with af|af
 rcases bc (decide ((ma.length:Int)≤0)) with aj|aj
 have ax:=oT aj
 refine wA tr25 [] 31 [ve (iv (ma.length:Int)),vT,vT,ve (iv (ma.length:Int)),vT,vT,ve (pv q9),vT,vF,vF,vF,ve (iv (ma.length:Int)),vF,vF,vU,vU,vU,vU,vU,vU,vU,vF,vF,vF,vF] ab ?_ ?_
 exact .M aa<| .b 0 (r_leqK ad)<| .N 1<| .gm (fun k=>k.eq1 2 9 rfl) (fun k=>k.fx 3 aa)<| .V (fun p k=>v_bin rfl (k.eq1 3 10 rfl) rfl (fun _=>rfl) (r_eql ae))<| .gm (fun k=>k.eq1 2 9 rfl) (fun k=>k.eq1 4 11 rfl)<| .gf (fun k=>k.eq1 5 12 rfl) (fun k=>k.fx 1 al)<| .o1 (tg rfl rfl rfl (fun _ _ k=>k.eq1 5 12 rfl) fun _ w hn k=>⟨_,v_load rfl (k.eq1 6 13 rfl) (l_one isAgg4 ((ah.new_ hn).cell 0)),congrArg Value.bool af⟩)<| .V (fun p k=>v_not rfl (k.eq1 7 14 rfl))<| .V (fun p k=>v_pickT rfl (k.eq1 5 12 rfl) (k.eq1 8 15 rfl))<| .gm (fun k=>k.eq1 2 9 rfl) (fun k=>k.eq1 9 16 rfl)<| .gm (fun k=>k.eq1 10 17 rfl) (fun k=>k.fx 3 aa)<| .V (fun p k=>v_bin rfl (k.eq1 11 18 rfl) rfl (fun _=>rfl) (r_gtrK aj))<| .gm (fun k=>k.eq1 10 17 rfl) (fun k=>k.eq1 12 19 rfl)<| .S<| .S<| .S<| .S<| .S<| .S<| .S<| .V (fun p k=>v_pickF rfl (k.eq1 13 20 rfl) rfl)<| .V (fun p k=>v_pickF rfl (k.eq1 10 17 rfl) (k.eq1 21 28 rfl))<| .T (fun k=>v_pickT rfl (k.eq1 2 9 rfl) (k.eq1 22 29 rfl))<| .B 23 .nil
 refine aftI ab ag ac fun b2 b3 bH aF aG bI aH=>?_
 have be:=aH.g 24 2
 refine ai _ _<| wp_ret (ret_k aF (v:=.bool false) (res_t rfl be _) ?_)
 have hix:((ma.length:Int) - 1).toNat=ma.length - 1:=by omega
 have q8:decide (ma.length≤8)=true:=decide_eq_true (by omega)
 have q0:decide (ma.length=0)=true:=decide_eq_true (by omega)
 have q1:decide (0 < ma.length)=false:=decide_eq_false (by omega)
 refine ⟨?_,aG⟩
 rw [show mayB a ma=false from by unfold mayB; simp only [q8,q0,q1,af]; first|rfl|(exfalso; omega)]
 have ax:=oF aj
 rcases bc (decide (((ma.getD (((ma.length:Int) - 1:Int).toNat) 0:Nat):Int)=0)) with am|am
 have ao:=oT am
 refine wp_g0 (.replicate 25 true) [] 31
  [ve (iv (ma.length:Int)),vT,vT,ve (iv (ma.length:Int)),vT,vT,ve (pv q9),vT,vF,vF,vF,ve (iv (ma.length:Int)),vT,vT,ve (.pointer (some ⟨q9,1,none⟩)),ve (sv Aa ma ca),ve (iv (ma.length:Int)),ve (iv ((ma.length:Int) - 1)),
  (EP (.int .u32 ((ma.getD (((ma.length:Int) - 1:Int).toNat) 0:Nat):Int))),ve (.int .u32 ((ma.getD (((ma.length:Int) - 1:Int).toNat) 0:Nat):Int)),vF,vF,vF,vF,vF] ab (.eq (.eq (.eq (.eq (.eq (.eq (.eq (.eq (.eq (.eq (.eq (.eq (.eq (.eq (.eq (.eq (.eq (.eq (.cons (fun _ _ _ n ⟨_,_,e,h⟩=>⟨_,_,e,h.new_ n⟩) (.eq (.eq (.eq (.eq (.eq (.eq .nil))))))))))))))))))))))))) ?_ ?_
 refine .M aa<| .b 0 (r_leqK ad)<| .N 1<| .gm (fun k=>k.eq1 2 9 rfl) (fun k=>k.fx 3 aa)<| .V (fun p k=>v_bin rfl (k.eq1 3 10 rfl) rfl (fun _=>rfl) (r_eql ae))<| .gm (fun k=>k.eq1 2 9 rfl) (fun k=>k.eq1 4 11 rfl)<| .gf (fun k=>k.eq1 5 12 rfl) (fun k=>k.fx 1 al)<| .o1 (tg rfl rfl rfl (fun _ _ k=>k.eq1 5 12 rfl) fun _ w hn k=>⟨_,v_load rfl (k.eq1 6 13 rfl) (l_one isAgg4 ((ah.new_ hn).cell 0)),congrArg Value.bool af⟩)<| .V (fun p k=>v_not rfl (k.eq1 7 14 rfl))<| .V (fun p k=>v_pickT rfl (k.eq1 5 12 rfl) (k.eq1 8 15 rfl))<| .gm (fun k=>k.eq1 2 9 rfl) (fun k=>k.eq1 9 16 rfl)<| .gm (fun k=>k.eq1 10 17 rfl) (fun k=>k.fx 3 aa)<| .V (fun p k=>v_bin rfl (k.eq1 11 18 rfl) rfl (fun _=>rfl) (r_gtrK aj))<| .gm (fun k=>k.eq1 10 17 rfl) (fun k=>k.eq1 12 19 rfl)<| .gf (fun k=>k.eq1 13 20 rfl) (fun k=>k.fx 1 al)<| .V (fun p k=>v_load rfl (k.eq1 14 21 rfl) (l_one isAgg24 ((ah.new_ p).cell 1)))<| .gm (fun k=>k.eq1 13 20 rfl) (fun k=>k.fx 3 aa)<| .V (fun p k=>v_bin rfl (k.eq1 16 23 rfl) rfl (fun _=>rfl) (r_sub rfl (by omega))) ?_
 refine .o1 (tg rfl rfl rfl (fun _ _ k=>k.eq1 13 20 rfl) fun _ w hn k=>(by
  exact x_eaddr (k:=.u32) rfl elW (k.eq1 15 22 rfl) (k.eq1 17 24 rfl) (hra.new_ (ac.transNew hn)) (by omega) fun b9 bh hme=>⟨b9,bh,rfl,hme⟩)) ?_
 refine .o1 (tg rfl rfl rfl (fun _ _ k=>k.eq1 13 20 rfl) fun _ w hn k=>(by
  obtain⟨b4,b5,bi,aI⟩:=k.G 18 25
  exact⟨_,v_load rfl bi (l_one isAgg59 aI.1),rfl⟩)) ?_
 exact .V (fun p k=>v_bin rfl (k.eq1 19 26 rfl) rfl (fun _=>rfl) (r_neq am))<| .V (fun p k=>v_pickT rfl (k.eq1 13 20 rfl) (k.eq1 20 27 rfl))<| .V (fun p k=>v_pickF rfl (k.eq1 10 17 rfl) (k.eq1 21 28 rfl))<| .T (fun k=>v_pickT rfl (k.eq1 2 9 rfl) (k.eq1 22 29 rfl))<| .B 23 .nil
 refine aftI ab ag ac fun b6 b7 bJ aJ aK bK aL=>?_
 have bj:=aL.g 24 2
 refine ai _ _<| wp_ret (ret_k aJ (v:=.bool false) (res_t rfl bj _) ?_)
 have hix:((ma.length:Int) - 1).toNat=ma.length - 1:=by omega
 have q8:decide (ma.length≤8)=true:=decide_eq_true (by omega)
 have q0:decide (ma.length=0)=true:=decide_eq_true (by omega)
 have q1:decide (0 < ma.length)=false:=decide_eq_false (by omega)
 rw [hix] at ao
 have q2:decide (ma.getD (ma.length - 1) 0 ≠ 0)=false:=decide_eq_false (by omega)
 refine ⟨?_,aK⟩
 rw [show mayB a ma=false from by unfold mayB; simp only [q8,q0,q1,af,q2]; first|rfl|(exfalso; omega)]
 have ao:=oF am
 refine wp_g0 (.replicate 25 true) [] 31
  [ve (iv (ma.length:Int)),vT,vT,ve (iv (ma.length:Int)),vT,vT,ve (pv q9),vT,vF,vF,vF,ve (iv (ma.length:Int)),vT,vT,ve (.pointer (some ⟨q9,1,none⟩)),ve (sv Aa ma ca),ve (iv (ma.length:Int)),ve (iv ((ma.length:Int) - 1)),
  (EP (.int .u32 ((ma.getD (((ma.length:Int) - 1:Int).toNat) 0:Nat):Int))),ve (.int .u32 ((ma.getD (((ma.length:Int) - 1:Int).toNat) 0:Nat):Int)),vT,vT,vT,vT,vT] ab (.eq (.eq (.eq (.eq (.eq (.eq (.eq (.eq (.eq (.eq (.eq (.eq (.eq (.eq (.eq (.eq (.eq (.eq (.cons (fun _ _ _ n ⟨_,_,e,h⟩=>⟨_,_,e,h.new_ n⟩) (.eq (.eq (.eq (.eq (.eq (.eq .nil))))))))))))))))))))))))) ?_ ?_
 refine .M aa<| .b 0 (r_leqK ad)<| .N 1<| .gm (fun k=>k.eq1 2 9 rfl) (fun k=>k.fx 3 aa)<| .V (fun p k=>v_bin rfl (k.eq1 3 10 rfl) rfl (fun _=>rfl) (r_eql ae))<| .gm (fun k=>k.eq1 2 9 rfl) (fun k=>k.eq1 4 11 rfl)<| .gf (fun k=>k.eq1 5 12 rfl) (fun k=>k.fx 1 al)<| .o1 (tg rfl rfl rfl (fun _ _ k=>k.eq1 5 12 rfl) fun _ w hn k=>⟨_,v_load rfl (k.eq1 6 13 rfl) (l_one isAgg4 ((ah.new_ hn).cell 0)),congrArg Value.bool af⟩)<| .V (fun p k=>v_not rfl (k.eq1 7 14 rfl))<| .V (fun p k=>v_pickT rfl (k.eq1 5 12 rfl) (k.eq1 8 15 rfl))<| .gm (fun k=>k.eq1 2 9 rfl) (fun k=>k.eq1 9 16 rfl)<| .gm (fun k=>k.eq1 10 17 rfl) (fun k=>k.fx 3 aa)<| .V (fun p k=>v_bin rfl (k.eq1 11 18 rfl) rfl (fun _=>rfl) (r_gtrK aj))<| .gm (fun k=>k.eq1 10 17 rfl) (fun k=>k.eq1 12 19 rfl)<| .gf (fun k=>k.eq1 13 20 rfl) (fun k=>k.fx 1 al)<| .V (fun p k=>v_load rfl (k.eq1 14 21 rfl) (l_one isAgg24 ((ah.new_ p).cell 1)))<| .gm (fun k=>k.eq1 13 20 rfl) (fun k=>k.fx 3 aa)<| .V (fun p k=>v_bin rfl (k.eq1 16 23 rfl) rfl (fun _=>rfl) (r_sub rfl (by omega))) ?_
 refine .o1 (tg rfl rfl rfl (fun _ _ k=>k.eq1 13 20 rfl) fun _ w hn k=>(by
  exact x_eaddr (k:=.u32) rfl elW (k.eq1 15 22 rfl) (k.eq1 17 24 rfl) (hra.new_ (ac.transNew hn)) (by omega) fun bm bn hme=>⟨bm,bn,rfl,hme⟩)) ?_
 refine .o1 (tg rfl rfl rfl (fun _ _ k=>k.eq1 13 20 rfl) fun _ w hn k=>(by
  obtain⟨b8,cb,bo,aM⟩:=k.G 18 25
  exact⟨_,v_load rfl bo (l_one isAgg59 aM.1),rfl⟩)) ?_
 exact .V (fun p k=>v_bin rfl (k.eq1 19 26 rfl) rfl (fun _=>rfl) (r_neq am))<| .V (fun p k=>v_pickT rfl (k.eq1 13 20 rfl) (k.eq1 20 27 rfl))<| .V (fun p k=>v_pickF rfl (k.eq1 10 17 rfl) (k.eq1 21 28 rfl))<| .T (fun k=>v_pickT rfl (k.eq1 2 9 rfl) (k.eq1 22 29 rfl))<| .B 23 .nil
 refine aftI ab ag ac fun cc cd bL aN aO bM aP=>?_
 have bp:=aP.g 24 2
 refine ai _ _<| wp_ret (ret_k aN (v:=.bool true) (res_t rfl bp _) ?_)
 have hix:((ma.length:Int) - 1).toNat=ma.length - 1:=by omega
 have q8:decide (ma.length≤8)=true:=decide_eq_true (by omega)
 have q0:decide (ma.length=0)=true:=decide_eq_true (by omega)
 have q1:decide (0 < ma.length)=false:=decide_eq_false (by omega)
 rw [hix] at ao
 have q2:decide (ma.getD (ma.length - 1) 0 ≠ 0)=true:=decide_eq_true (by omega)
 refine ⟨?_,aO⟩
 rw [show mayB a ma=true from by unfold mayB; simp only [q8,q0,q1,af,q2]; first|rfl|(exfalso; omega)]
 refine wA tr25 [] 31 [ve (iv (ma.length:Int)),vT,vT,ve (iv (ma.length:Int)),vT,vT,ve (pv q9),vF,vT,vT,vT,vU,vU,vU,vU,vU,vU,vU,vU,vU,vU,vU,vT,vT,vT] ab ?_ ?_
 exact .M aa<| .b 0 (r_leqK ad)<| .N 1<| .gm (fun k=>k.eq1 2 9 rfl) (fun k=>k.fx 3 aa)<| .V (fun p k=>v_bin rfl (k.eq1 3 10 rfl) rfl (fun _=>rfl) (r_eql ae))<| .gm (fun k=>k.eq1 2 9 rfl) (fun k=>k.eq1 4 11 rfl)<| .gf (fun k=>k.eq1 5 12 rfl) (fun k=>k.fx 1 al)<| .o1 (tg rfl rfl rfl (fun _ _ k=>k.eq1 5 12 rfl) fun _ w hn k=>⟨_,v_load rfl (k.eq1 6 13 rfl) (l_one isAgg4 ((ah.new_ hn).cell 0)),congrArg Value.bool af⟩)<| .V (fun p k=>v_not rfl (k.eq1 7 14 rfl))<| .V (fun p k=>v_pickT rfl (k.eq1 5 12 rfl) (k.eq1 8 15 rfl))<| .gm (fun k=>k.eq1 2 9 rfl) (fun k=>k.eq1 9 16 rfl)<| .S<| .S<| .S<| .o1 (su rfl rfl rfl (fun _ _ _ k=>k.eq1 13 20 rfl) (fun _=>rfl))<| .o1 (su rfl rfl rfl (fun _ _ _ k=>k.eq1 13 20 rfl) (fun _=>rfl))<| .o1 (su rfl rfl rfl (fun _ _ _ k=>k.eq1 13 20 rfl) (fun _=>rfl))<| .o1 (su rfl rfl rfl (fun _ _ _ k=>k.eq1 13 20 rfl) (fun _=>rfl))<| .o1 (su rfl rfl rfl (fun _ _ _ k=>k.eq1 13 20 rfl) (fun _=>rfl))<| .o1 (su rfl rfl rfl (fun _ _ _ k=>k.eq1 13 20 rfl) (fun _=>rfl))<| .o1 (su rfl rfl rfl (fun _ _ _ k=>k.eq1 13 20 rfl) (fun _=>rfl))<| .S<| .V (fun p k=>v_pickT rfl (k.eq1 10 17 rfl) rfl)<| .T (fun k=>v_pickT rfl (k.eq1 2 9 rfl) (k.eq1 22 29 rfl))<| .B 23 .nil
 refine aftI ab ag ac fun ce cf bN aQ aR bO aS=>?_
 have bq:=aS.g 24 2
 refine ai _ _<| wp_ret (ret_k aQ (v:=.bool true) (res_t rfl bq _) ?_)
 have hix:((ma.length:Int) - 1).toNat=ma.length - 1:=by omega
 have q8:decide (ma.length≤8)=true:=decide_eq_true (by omega)
 have q0:decide (ma.length=0)=true:=decide_eq_true (by omega)
 have q1:decide (0 < ma.length)=false:=decide_eq_false (by omega)
 refine ⟨?_,aR⟩
 rw [show mayB a ma=true from by unfold mayB; simp only [q8,q0,q1,af]; first|rfl|(exfalso; omega)]
 have aw:=oF ae
 rcases bc (decide ((ma.length:Int)≤0)) with ak|ak
 have ay:=oT ak
 refine wA tr25 [] 31 [ve (iv (ma.length:Int)),vT,vT,ve (iv (ma.length:Int)),vF,vF,vU,vU,vU,vF,vF,ve (iv (ma.length:Int)),vF,vF,vU,vU,vU,vU,vU,vU,vU,vF,vF,vF,vF] ab ?_ ?_
 exact .M aa<| .b 0 (r_leqK ad)<| .N 1<| .gm (fun k=>k.eq1 2 9 rfl) (fun k=>k.fx 3 aa)<| .V (fun p k=>v_bin rfl (k.eq1 3 10 rfl) rfl (fun _=>rfl) (r_eql ae))<| .gm (fun k=>k.eq1 2 9 rfl) (fun k=>k.eq1 4 11 rfl)<| .S<| .S<| .S<| .V (fun p k=>v_pickF rfl (k.eq1 5 12 rfl) rfl)<| .gm (fun k=>k.eq1 2 9 rfl) (fun k=>k.eq1 9 16 rfl)<| .gm (fun k=>k.eq1 10 17 rfl) (fun k=>k.fx 3 aa)<| .V (fun p k=>v_bin rfl (k.eq1 11 18 rfl) rfl (fun _=>rfl) (r_gtrK ak))<| .gm (fun k=>k.eq1 10 17 rfl) (fun k=>k.eq1 12 19 rfl)<| .S<| .S<| .S<| .S<| .S<| .S<| .S<| .V (fun p k=>v_pickF rfl (k.eq1 13 20 rfl) rfl)<| .V (fun p k=>v_pickF rfl (k.eq1 10 17 rfl) (k.eq1 21 28 rfl))<| .T (fun k=>v_pickT rfl (k.eq1 2 9 rfl) (k.eq1 22 29 rfl))<| .B 23 .nil
 refine aftI ab ag ac fun ch ci bP aT aU bQ aV=>?_
 have br:=aV.g 24 2
 refine ai _ _<| wp_ret (ret_k aT (v:=.bool false) (res_t rfl br _) ?_)
 have hix:((ma.length:Int) - 1).toNat=ma.length - 1:=by omega
 have q8:decide (ma.length≤8)=true:=decide_eq_true (by omega)
 have q0:decide (ma.length=0)=false:=decide_eq_false (by omega)
 have q1:decide (0 < ma.length)=true:=decide_eq_true (by omega)
 refine ⟨?_,aU⟩
 rw [show mayB a ma=false from by unfold mayB; simp only [q8,q0,q1]; first|rfl|(exfalso; omega)]
 have ay:=oF ak
 rcases bc (decide (((ma.getD (((ma.length:Int) - 1:Int).toNat) 0:Nat):Int)=0)) with an|an
 have ap:=oT an
 refine wp_g0 (.replicate 25 true) [] 31
  [ve (iv (ma.length:Int)),vT,vT,ve (iv (ma.length:Int)),vF,vF,vU,vU,vU,vF,vF,ve (iv (ma.length:Int)),vT,vT,ve (.pointer (some ⟨q9,1,none⟩)),ve (sv Aa ma ca),ve (iv (ma.length:Int)),ve (iv ((ma.length:Int) - 1)),
  (EP (.int .u32 ((ma.getD (((ma.length:Int) - 1:Int).toNat) 0:Nat):Int))),ve (.int .u32 ((ma.getD (((ma.length:Int) - 1:Int).toNat) 0:Nat):Int)),vF,vF,vF,vF,vF] ab (.eq (.eq (.eq (.eq (.eq (.eq (.eq (.eq (.eq (.eq (.eq (.eq (.eq (.eq (.eq (.eq (.eq (.eq (.cons (fun _ _ _ n ⟨_,_,e,h⟩=>⟨_,_,e,h.new_ n⟩) (.eq (.eq (.eq (.eq (.eq (.eq .nil))))))))))))))))))))))))) ?_ ?_
 refine .M aa<| .b 0 (r_leqK ad)<| .N 1<| .gm (fun k=>k.eq1 2 9 rfl) (fun k=>k.fx 3 aa)<| .V (fun p k=>v_bin rfl (k.eq1 3 10 rfl) rfl (fun _=>rfl) (r_eql ae))<| .gm (fun k=>k.eq1 2 9 rfl) (fun k=>k.eq1 4 11 rfl)<| .S<| .S<| .S<| .V (fun p k=>v_pickF rfl (k.eq1 5 12 rfl) rfl)<| .gm (fun k=>k.eq1 2 9 rfl) (fun k=>k.eq1 9 16 rfl)<| .gm (fun k=>k.eq1 10 17 rfl) (fun k=>k.fx 3 aa)<| .V (fun p k=>v_bin rfl (k.eq1 11 18 rfl) rfl (fun _=>rfl) (r_gtrK ak))<| .gm (fun k=>k.eq1 10 17 rfl) (fun k=>k.eq1 12 19 rfl)<| .gf (fun k=>k.eq1 13 20 rfl) (fun k=>k.fx 1 al)<| .V (fun p k=>v_load rfl (k.eq1 14 21 rfl) (l_one isAgg24 ((ah.new_ p).cell 1)))<| .gm (fun k=>k.eq1 13 20 rfl) (fun k=>k.fx 3 aa)<| .V (fun p k=>v_bin rfl (k.eq1 16 23 rfl) rfl (fun _=>rfl) (r_sub rfl (by omega))) ?_
 refine .o1 (tg rfl rfl rfl (fun _ _ k=>k.eq1 13 20 rfl) fun _ w hn k=>(by
  exact x_eaddr (k:=.u32) rfl elW (k.eq1 15 22 rfl) (k.eq1 17 24 rfl) (hra.new_ (ac.transNew hn)) (by omega) fun bu bv hme=>⟨bu,bv,rfl,hme⟩)) ?_
 refine .o1 (tg rfl rfl rfl (fun _ _ k=>k.eq1 13 20 rfl) fun _ w hn k=>(by
  obtain⟨cj,cl,bw,aW⟩:=k.G 18 25
  exact⟨_,v_load rfl bw (l_one isAgg59 aW.1),rfl⟩)) ?_
 exact .V (fun p k=>v_bin rfl (k.eq1 19 26 rfl) rfl (fun _=>rfl) (r_neq an))<| .V (fun p k=>v_pickT rfl (k.eq1 13 20 rfl) (k.eq1 20 27 rfl))<| .V (fun p k=>v_pickF rfl (k.eq1 10 17 rfl) (k.eq1 21 28 rfl))<| .T (fun k=>v_pickT rfl (k.eq1 2 9 rfl) (k.eq1 22 29 rfl))<| .B 23 .nil
 refine aftI ab ag ac fun cm cn bR aX aY bS aZ=>?_
 have bx:=aZ.g 24 2
 refine ai _ _<| wp_ret (ret_k aX (v:=.bool false) (res_t rfl bx _) ?_)
 have hix:((ma.length:Int) - 1).toNat=ma.length - 1:=by omega
 have q8:decide (ma.length≤8)=true:=decide_eq_true (by omega)
 have q0:decide (ma.length=0)=false:=decide_eq_false (by omega)
 have q1:decide (0 < ma.length)=true:=decide_eq_true (by omega)
 rw [hix] at ap
 have q2:decide (ma.getD (ma.length - 1) 0 ≠ 0)=false:=decide_eq_false (by omega)
 refine ⟨?_,aY⟩
 rw [show mayB a ma=false from by unfold mayB; simp only [q8,q0,q1,q2]; first|rfl|(exfalso; omega)]
 have ap:=oF an
 refine wp_g0 (.replicate 25 true) [] 31
  [ve (iv (ma.length:Int)),vT,vT,ve (iv (ma.length:Int)),vF,vF,vU,vU,vU,vF,vF,ve (iv (ma.length:Int)),vT,vT,ve (.pointer (some ⟨q9,1,none⟩)),ve (sv Aa ma ca),ve (iv (ma.length:Int)),ve (iv ((ma.length:Int) - 1)),
  (EP (.int .u32 ((ma.getD (((ma.length:Int) - 1:Int).toNat) 0:Nat):Int))),ve (.int .u32 ((ma.getD (((ma.length:Int) - 1:Int).toNat) 0:Nat):Int)),vT,vT,vT,vT,vT] ab (.eq (.eq (.eq (.eq (.eq (.eq (.eq (.eq (.eq (.eq (.eq (.eq (.eq (.eq (.eq (.eq (.eq (.eq (.cons (fun _ _ _ n ⟨_,_,e,h⟩=>⟨_,_,e,h.new_ n⟩) (.eq (.eq (.eq (.eq (.eq (.eq .nil))))))))))))))))))))))))) ?_ ?_
 refine .M aa<| .b 0 (r_leqK ad)<| .N 1<| .gm (fun k=>k.eq1 2 9 rfl) (fun k=>k.fx 3 aa)<| .V (fun p k=>v_bin rfl (k.eq1 3 10 rfl) rfl (fun _=>rfl) (r_eql ae))<| .gm (fun k=>k.eq1 2 9 rfl) (fun k=>k.eq1 4 11 rfl)<| .S<| .S<| .S<| .V (fun p k=>v_pickF rfl (k.eq1 5 12 rfl) rfl)<| .gm (fun k=>k.eq1 2 9 rfl) (fun k=>k.eq1 9 16 rfl)<| .gm (fun k=>k.eq1 10 17 rfl) (fun k=>k.fx 3 aa)<| .V (fun p k=>v_bin rfl (k.eq1 11 18 rfl) rfl (fun _=>rfl) (r_gtrK ak))<| .gm (fun k=>k.eq1 10 17 rfl) (fun k=>k.eq1 12 19 rfl)<| .gf (fun k=>k.eq1 13 20 rfl) (fun k=>k.fx 1 al)<| .V (fun p k=>v_load rfl (k.eq1 14 21 rfl) (l_one isAgg24 ((ah.new_ p).cell 1)))<| .gm (fun k=>k.eq1 13 20 rfl) (fun k=>k.fx 3 aa)<| .V (fun p k=>v_bin rfl (k.eq1 16 23 rfl) rfl (fun _=>rfl) (r_sub rfl (by omega))) ?_
 refine .o1 (tg rfl rfl rfl (fun _ _ k=>k.eq1 13 20 rfl) fun _ w hn k=>(by
  exact x_eaddr (k:=.u32) rfl elW (k.eq1 15 22 rfl) (k.eq1 17 24 rfl) (hra.new_ (ac.transNew hn)) (by omega) fun bB bC hme=>⟨bB,bC,rfl,hme⟩)) ?_
 refine .o1 (tg rfl rfl rfl (fun _ _ k=>k.eq1 13 20 rfl) fun _ w hn k=>(by
  obtain⟨co,cp,bD,a1⟩:=k.G 18 25
  exact⟨_,v_load rfl bD (l_one isAgg59 a1.1),rfl⟩)) ?_
 exact .V (fun p k=>v_bin rfl (k.eq1 19 26 rfl) rfl (fun _=>rfl) (r_neq an))<| .V (fun p k=>v_pickT rfl (k.eq1 13 20 rfl) (k.eq1 20 27 rfl))<| .V (fun p k=>v_pickF rfl (k.eq1 10 17 rfl) (k.eq1 21 28 rfl))<| .T (fun k=>v_pickT rfl (k.eq1 2 9 rfl) (k.eq1 22 29 rfl))<| .B 23 .nil
 refine aftI ab ag ac fun cq cr bT a3 a4 bU a5=>?_
 have bE:=a5.g 24 2
 refine ai _ _<| wp_ret (ret_k a3 (v:=.bool true) (res_t rfl bE _) ?_)
 have hix:((ma.length:Int) - 1).toNat=ma.length - 1:=by omega
 have q8:decide (ma.length≤8)=true:=decide_eq_true (by omega)
 have q0:decide (ma.length=0)=false:=decide_eq_false (by omega)
 have q1:decide (0 < ma.length)=true:=decide_eq_true (by omega)
 rw [hix] at ap
 have q2:decide (ma.getD (ma.length - 1) 0 ≠ 0)=true:=decide_eq_true (by omega)
 refine ⟨?_,a4⟩
 rw [show mayB a ma=true from by unfold mayB; simp only [q8,q0,q1,q2]; first|rfl|(exfalso; omega)]
 have av:=oF ad
 refine wA tr25 [] 31 [ve (iv (ma.length:Int)),vF,vF,vU,vU,vU,vU,vU,vU,vU,vU,vU,vU,vU,vU,vU,vU,vU,vU,vU,vU,vU,vU,vF,vF] ab ?_ ?_
 exact .M aa<| .b 0 (r_leqK ad)<| .N 1<| .S<| .S<| .S<| .o1 (su rfl rfl rfl (fun _ _ _ k=>k.eq1 5 12 rfl) (fun _=>rfl))<| .o1 (su rfl rfl rfl (fun _ _ _ k=>k.eq1 5 12 rfl) (fun _=>rfl))<| .o1 (su rfl rfl rfl (fun _ _ _ k=>k.eq1 5 12 rfl) (fun _=>rfl))<| .S<| .S<| .o1 (su rfl rfl rfl (fun _ _ _ k=>k.eq1 10 17 rfl) (fun _=>rfl))<| .o1 (su rfl rfl rfl (fun _ _ _ k=>k.eq1 10 17 rfl) (fun _=>rfl))<| .o1 (su rfl rfl rfl (fun _ _ _ k=>k.eq1 10 17 rfl) (fun _=>rfl))<| .o1 (su rfl rfl rfl (fun _ _ _ k=>k.eq1 13 20 rfl) (fun _=>rfl))<| .o1 (su rfl rfl rfl (fun _ _ _ k=>k.eq1 13 20 rfl) (fun _=>rfl))<| .o1 (su rfl rfl rfl (fun _ _ _ k=>k.eq1 13 20 rfl) (fun _=>rfl))<| .o1 (su rfl rfl rfl (fun _ _ _ k=>k.eq1 13 20 rfl) (fun _=>rfl))<| .o1 (su rfl rfl rfl (fun _ _ _ k=>k.eq1 13 20 rfl) (fun _=>rfl))<| .o1 (su rfl rfl rfl (fun _ _ _ k=>k.eq1 13 20 rfl) (fun _=>rfl))<| .o1 (su rfl rfl rfl (fun _ _ _ k=>k.eq1 13 20 rfl) (fun _=>rfl))<| .o1 (su rfl rfl rfl (fun _ _ _ k=>k.eq1 10 17 rfl) (fun _=>rfl))<| .S<| .T (fun k=>v_pickF rfl (k.eq1 2 9 rfl) rfl)<| .B 23 .nil
 refine aftI ab ag ac fun ct cu bV a6 a7 bW a8=>?_
 have bF:=a8.g 24 2
 refine ai _ _<| wp_ret (ret_k a6 (v:=.bool false) (res_t rfl bF _) ?_)
 have hix:((ma.length:Int) - 1).toNat=ma.length - 1:=by omega
 have q8:decide (ma.length≤8)=false:=decide_eq_false (by omega)
 refine ⟨?_,a7⟩
 rw [show mayB a ma=false from by unfold mayB; simp only [q8]; first|rfl|(exfalso; omega)]
def sgood_c_P (a:Bool) (Aa:Option Addr) (ma:List Nat) (ca:Nat) (w:World) (en:Ending) (w':World):Prop:=∃ (Ar0:Option Addr) (cr0:Nat),en=.returned (.agg #[.bool (decide (goodI a ma < 0)),sv Ar0 (canon (goodI a ma).natAbs) cr0])∧SRow w' .u32 Ar0 (canon (goodI a ma).natAbs) cr0∧New w w'
theorem sgood_c (a:Bool) (Aa:Option Addr) (ma:List Nat) (ca:Nat) (w:World) (hra:SRow w .u32 Aa ma ca) (ha:Limbs ma):Calls prog 98 #[.agg #[.bool a,sv Aa ma ca]] w (sgood_c_P a Aa ma ca w):=by
 refine enter_abs func98 rfl fun a0 ad aY hp=>?_
 have ad:a0.tmps.size=7:=ad
 have ae:New w w:=Upd.refl _ _
 have hp0:a0.eval (.tmp 0)=.agg #[.bool a,sv Aa ma ca]:=hp 0 _ rfl
 refine wk fun K1 aZ=>?_
 refine wB tr2 [] [] 7 [IsNew w 26 [.bool a,sv Aa ma ca],IsNew w 26 [.bool false,sv none ([]) 0]] [0,1] ad ?_ heN ?_
 exact .X hp0<| .Y .nil
 refine aftI ad aY ae fun a2 w3 ar a1 af be ag=>?_
 obtain⟨q9,h8,az,ah⟩:=ag.G 0 1
 obtain⟨a3,au,aA,aB⟩:=ag.G 1 2
 have hne16:=ag.ne 0 1 1 2 h8 au
 have a7:=Nat.le_trans ae.size az
 have a8:=Nat.le_trans ae.size aA
 refine aZ _ _ <| wk fun bf aC=>?_
 refine wk fun bg aD=>?_
 refine wA tr2 [] 7 [ve (.agg #[.bool a,sv Aa ma ca]),ve (.bool (mayB a ma))] ar ?_ ?_
 exact .L6 h8 ah<| .C 0 (fun n=>sMay_c a _ ma _ _ (hra.new_ (af.transNew n))) .nil
 refine aftI ar a1 af fun bh bi ab ai aj ak ac=>?_
 have⟨a4,av⟩:=ac.f2 h8 au
 have aw:=ac.g 1 4
 have⟨aE,al⟩:=nw2 ak ah aB
 refine aD _ _ ?_
 rcases bc (mayB a ma) with aa|aa
 have aF:=hB aw aa
 refine wt aF<| wk fun bj aG=>?_
 refine wA [true,false] [(1,false)] 7 [ve (.agg #[.bool a,sv Aa ma ca]),vt] ab ?_ ?_
 exact .L6 a4 aE<| .off .nil
 refine aftI ab ai aj fun bk bl a9 aH aI aJ am=>?_
 have ax:=am.f1 av
 have a5:=am.g 0 5
 have aK:=al.new_ aJ
 refine sS6 ax a5 aK fun bm aL aM ba=>?_
 have an:=aI.tR aM
 refine aG _ _<| wp_ret (ret_k aH (v:=.agg #[.bool a,sv Aa ma ca]) (res_c rfl ax (l_two isAgg26 sizeOf26 aL)) ?_)
 have hz1:(decide (goodI a ma < 0))=a:=by rw [neg_good ha,aa]; rfl
 have hz2:canon (goodI a ma).natAbs=ma:=by rw [canon_good ha,aa]; rfl
 exact⟨Aa,ca,by rw [hz1,hz2],by rw [hz2]; exact (hra.new_ an),an⟩
 have aO:=hB aw aa
 refine wf aO<| ws<| aC _ _<| wk fun bo aP=>?_
 refine wA [true,false] [(1,false)] 7 [ve (.agg #[.bool false,sv none ([]) 0]),vt] ab ?_ ?_
 exact .Z<| .off .nil
 refine aftI ab ai aj fun bp bq bb aQ aR aS ao=>?_
 have ay:=ao.f1 av
 have a6:=ao.g 0 6
 have aT:=al.new_ aS
 refine sS6 ay a6 aT fun br aU aV bd=>?_
 have aX:=aR.tR aV
 refine aP _ _<| wp_ret (ret_k aQ (v:=.agg #[.bool false,sv none ([]) 0]) (res_c rfl ay (l_two isAgg26 sizeOf26 aU)) ?_)
 have hz1:(decide (goodI a ma < 0))=false:=by rw [neg_good ha,aa]; rfl
 have hz2:canon (goodI a ma).natAbs=[]:=by rw [canon_good ha,aa]; rfl
 exact⟨none,0,by rw [hz1,hz2],by rw [hz2]; exact (SRow.nil _ _),aX⟩
theorem sword_c (Am:Option Addr) (m:List Nat) (cm:Nat) (i:Int) (w:World) (hrm:SRow w .u32 Am m cm) (hl:Limbs m) (hi:0≤i):Calls prog 100 #[sv Am m cm,iv i] w (IsRet (.int .u64 ((m.getD i.toNat 0:Nat):Int)) w):=by
 refine enter_abs func100 rfl fun a0 ae az hp=>?_
 have ae:a0.tmps.size=14:=ae
 have aA:New w w:=Upd.refl _ _
 have hp0:a0.eval (.tmp 0)=sv Am m cm:=hp 0 _ rfl
 have hp1:a0.eval (.tmp 1)=iv i:=hp 1 _ rfl
 have hb:=hl.at i.toNat
 refine wk fun K1 aB=>?_
 refine wA tr1 [] 14 [ve (.int .u64 0)] ae ?_ ?_
 exact .c .nil
 refine aftI ae az aA fun a2 w3 ah aC ak aN ai=>?_
 have⟨h8,h9⟩:=ai.f2 hp0 hp1
 refine aB _ _ <| wk fun aO al=>?_
 refine wk fun aP am=>?_
 refine wA tr4 [] 14 [ve (iv i),ve (sv Am m cm),ve (iv (m.length:Int)),ve (.bool (decide (i < (m.length:Int))))] ah ?_ ?_
 exact .M h9<| .M h8<| .T (fun k=>v_lenR rfl elW (k.eq1 1 6 rfl))<| .T (fun k=>v_bin rfl (k.eq1 0 5 rfl) (k.eq1 2 7 rfl) (fun _=>rfl) (r_lssK rfl)) .nil
 refine aftI ah aC ak fun aQ aR ab af ac aI ad=>?_
 have⟨aD,aE⟩:=ad.f2 h8 h9
 have aj:=ad.g 3 8
 refine am _ _ ?_
 rcases bc (decide (i < (m.length:Int))) with aa|aa
 have ag:=oT aa
 have an:=hB aj aa
 refine wt an<| wk fun aS ao=>?_
 refine wp_g0 [true,true,true,true,true,true] [] 14
  [ve (sv Am m cm),ve (iv i),
  (EP (.int .u32 ((m.getD ((i:Int).toNat) 0:Nat):Int))),ve (.int .u32 ((m.getD ((i:Int).toNat) 0:Nat):Int)),ve (.int .u64 ((m.getD ((i:Int).toNat) 0:Nat):Int)),ve (.int .u64 ((m.getD ((i:Int).toNat) 0:Nat):Int))] ab (.eq (.eq (.cons (fun _ _ _ n ⟨_,_,e,h⟩=>⟨_,_,e,h.new_ n⟩) (.eq (.eq (.eq .nil)))))) ?_ ?_
 refine .M aD<| .M aE ?_
 refine .o1 (tk rfl rfl fun _ w hn k=>(by
  exact x_eaddr (k:=.u32) rfl elW (k.eq1 0 9 rfl) (k.eq1 1 10 rfl) (hrm.new_ (ac.transNew hn)) (by omega) fun b1 o2 hme=>⟨b1,o2,rfl,hme⟩)) ?_
 refine .o1 (tk rfl rfl fun _ w hn k=>(by
  obtain⟨b5,o6,e7,aF⟩:=k.G 2 11
  exact⟨_,v_load rfl e7 (l_one isAgg59 aF.1),rfl⟩)) ?_
 exact .R (fun k=>v_conv rfl (k.eq1 3 12 rfl) (n_conv (by kernel_rfl) (by kernel_rfl) (by kernel_rfl) (IntWalk.u64_in _ (by omega)))) (fun _=>rfl)<| .B 4 .nil
 refine aftI ab af ac fun aT aU aJ ap aq aK ar=>?_
 have aG:=ar.g 5 4
 refine ao _ _<| wp_ret (ret_k ap (v:=.int .u64 ((m.getD ((i:Int).toNat) 0:Nat):Int)) (res_t rfl aG _) ?_)
 exact⟨rfl,aq⟩
 have ag:=oF aa
 have au:=hB aj aa
 refine wf au<| ws<| al _ _<| wk fun aV av=>?_
 refine wA tr1 [] 14 [ve (.int .u64 0)] ab ?_ ?_
 exact .c .nil
 refine aftI ab af ac fun aW aX aL aw ax aM ay=>?_
 have aH:=ay.g 0 4
 refine av _ _<| wp_ret (ret_k aw (v:=.int .u64 0) (res_t rfl aH _) ?_)
 have hz:m.getD i.toNat 0=0:=zgetD_far (by omega)
 exact⟨by rw [hz]; rfl,ax⟩
def strim_c_P (Am:Option Addr) (m:List Nat) (cm:Nat) (w:World) (en:Ending) (w':World):Prop:=∃ (Ar0:Option Addr) (cr0:Nat),en=.returned (sv Ar0 (canon (val m)) cr0)∧SOwn w' w.heap.size 59 .u32 Ar0 (canon (val m)) cr0∧New w w'
theorem strim_c (Am:Option Addr) (m:List Nat) (cm:Nat) (w:World) (hrm:SRow w .u32 Am m cm) (hl:Limbs m) (hs:m.length≤1000000):Calls prog 127 #[sv Am m cm] w (strim_c_P Am m cm w):=by
 refine enter_abs func127 rfl fun a0 aB bU hp=>?_
 have aB:a0.tmps.size=23:=aB
 have bV:New w w:=Upd.refl _ _
 have hp0:a0.eval (.tmp 0)=sv Am m cm:=hp 0 _ rfl
 refine wk fun K1 bW=>?_
 refine wA tr1 [] 23 [ve (sv none ([]) 0)] aB ?_ ?_
 exact .c .nil
 refine aftI aB bU bV fun a2 w3 bj bX bY cE bZ=>?_
 have h8:=bZ.f1 hp0
 refine bW _ _ <| wk fun cF br=>?_
 refine wA tr3 [] 23 [ve (sv Am m cm),ve (iv (m.length:Int)),ve (iv (m.length:Int))] bj ?_ ?_
 exact .M h8<| .T (fun k=>v_lenR rfl elW (k.eq1 0 4 rfl))<| .B 1 .nil
 refine aftI bj bX bY fun cG cH bs bt bu cs aI=>?_
 have b0:=aI.f1 h8
 have b1:=aI.g 2 3
 refine br _ _ <| wk fun cI aJ=>?_
 refine wb<| wp_loopX (fun (mm:Nat) (aa:Act) (ww:World)=>∃ (kk:Nat),mm=kk∧aa.tmps.size=23∧aa.defers=[]∧New w ww∧aa.eval (.tmp 3)=iv (kk:Int)∧aa.eval (.tmp 0)=sv Am m cm∧(kk≤m.length)∧(val (m.take kk)=val m)) (fun mm=>mm) ⟨_,⟨m.length,rfl,bs,bt,bu,b1,b0,(Nat.le_refl _),(by rw [List.take_length])⟩⟩ ?_
 rintro mm cJ cK ⟨kk,hmm,al,aK,ar,aq,aL,hk,hv⟩
 refine wk fun cL bv=>wk fun cM aM=>?_
 rcases bc (decide ((kk:Int)≤0)) with aj|aj
 have a1:=oT aj
 refine wA tr10 [] 23 [ve (iv (kk:Int)),vF,vF,vU,vU,vU,vU,vU,vU,vF] al ?_ ?_
 exact .M aq<| .b 0 (r_gtrK aj)<| .N 1<| .S<| .S<| .S<| .S<| .S<| .S<| .T (fun k=>v_pickF rfl (k.eq1 2 8 rfl) rfl) .nil
 refine aftI al aK ar fun cN bk aN bw au ct av=>?_
 have⟨b2,b3⟩:=av.f2 aq aL
 have b4:=av.g 9 15
 refine aM _ _<| wf b4<| wp_exit ?_
 refine aJ _ _<| wk fun cO bx=>?_
 refine wp_g0 [true,true,true,true,false,false] [(4,false),(5,true)] 23
  [(OP bk.heap.size 59 .u32 ([])),ve (sv Am m cm),ve (iv (kk:Int)),
  (RP .u32 (m.take kk)),vt,vt] aN (.cons (fun _ _ _ n ⟨_,_,e,h⟩=>⟨_,_,e,h.new_ n⟩) (.eq (.eq (.cons (fun _ _ _ n ⟨_,_,e,h⟩=>⟨_,_,e,h.new_ n⟩) (.tt (.tt .nil)))))) ?_ ?_
 refine .o1 (tkA rfl (noG rfl) fun _ w hn k=>(by
  exact x_bslice0 .u32 rfl parts0 elW fun A1 c2 W' hmo=>⟨A1,c2,rfl,(hmo.more hn.size)⟩)) ?_
 refine .M b3<| .M b2 ?_
 refine .o1 (tk rfl rfl fun _ w hn k=>(by
  exact x_cutH (k:=.u32) rfl elW (k.eq1 1 19 rfl) (k.eq1 2 20 rfl) (hrm.new_ (au.transNew hn)) (by omega) fun A5 c6 hmr=>⟨A5,c6,rfl,hmr⟩)) ?_
 exact .off<| .off .nil
 refine aftI aN bw au fun aC cP aO bz aP cu aQ=>?_
 obtain⟨b5,bA,aR,bB⟩:=aQ.G 0 18
 have aR:aC.eval (.tmp 18)=sv b5 ([]) bA:=aR
 obtain⟨b6,bC,aS,bD⟩:=aQ.G 3 21
 have aS:aC.eval (.tmp 21)=sv b6 (m.take kk) bC:=aS
 have aT:=bB.more au.size
 have hw66:=aP.size
 refine st_act rfl rfl fun cQ bE=>a_append (k:=.u32) (b:=w.heap.size) rfl elW aR aT aS bD (by first|omega|(simp only [List.length_nil,List.length_cons,List.length_append,List.length_take,List.length_drop,List.length_replicate,List.length_set]; omega)) (by first|omega|(simp only [List.length_nil,List.length_cons,List.length_append,List.length_take,List.length_drop,List.length_replicate,List.length_set]; omega)) hw66 fun ag ac cR bF hg62=>bE _ _ trivial ?_
 have bG:=aP.ownGrown aT hg62
 obtain⟨aU,am⟩:∃ a',a'=aC.put (some 22) (sv ag ([] ++ (m.take kk)) ac):=⟨_,rfl⟩
 have⟨aV,bH⟩:=pz2 am aO bz
 have bl:=s7 am aO
 show stepsTo _ _ _ _ _ (aC.put (some 22) (sv ag ([] ++ (m.take kk)) ac)) _
 rw [← am]
 refine sP bl aV bH fun b7 cv bI ak b8=>?_
 have cS:=ak.q bl
 refine bx _ _<| wp_ret (ret_k bI (v:=sv ag ([] ++ (m.take kk)) ac) (res_t rfl b8 _) ?_)
 have hsp:([] ++ (m.take kk))=canon (val m):=ztrim_end hl hk hv (Or.inl (by omega))
 exact⟨ag,ac,by rw [← hsp],by rw [← hsp]; exact bF,bG⟩
 have a1:=oF aj
 refine wp_g0 (.replicate 10 true) [] 23
  [ve (iv (kk:Int)),vT,vT,ve (sv Am m cm),ve (iv (kk:Int)),ve (iv ((kk:Int) - 1)),
  (EP (.int .u32 ((m.getD (((kk:Int) - 1:Int).toNat) 0:Nat):Int))),ve (.int .u32 ((m.getD (((kk:Int) - 1:Int).toNat) 0:Nat):Int)),ve (.bool (decide (((m.getD (((kk:Int) - 1:Int).toNat) 0:Nat):Int)=0))),ve (.bool (decide (((m.getD (((kk:Int) - 1:Int).toNat) 0:Nat):Int)=0)))] al (.eq (.eq (.eq (.eq (.eq (.eq (.cons (fun _ _ _ n ⟨_,_,e,h⟩=>⟨_,_,e,h.new_ n⟩) (.eq (.eq (.eq .nil)))))))))) ?_ ?_
 refine .M aq<| .b 0 (r_gtrK aj)<| .N 1<| .gm (fun k=>k.eq1 2 8 rfl) (fun k=>k.fx 0 aL)<| .gm (fun k=>k.eq1 2 8 rfl) (fun k=>k.fx 3 aq)<| .V (fun p k=>v_bin rfl (k.eq1 4 10 rfl) rfl (fun _=>rfl) (r_sub rfl (by omega))) ?_
 refine .o1 (tg rfl rfl rfl (fun _ _ k=>k.eq1 2 8 rfl) fun _ w hn k=>(by
  exact x_eaddr (k:=.u32) rfl elW (k.eq1 3 9 rfl) (k.eq1 5 11 rfl) (hrm.new_ (ar.transNew hn)) (by omega) fun b9 cc hme=>⟨b9,cc,rfl,hme⟩)) ?_
 refine .o1 (tg rfl rfl rfl (fun _ _ k=>k.eq1 2 8 rfl) fun _ w hn k=>(by
  obtain⟨cT,cU,cd,bJ⟩:=k.G 6 12
  exact⟨_,v_load rfl cd (l_one isAgg59 bJ.1),rfl⟩)) ?_
 exact .V (fun p k=>v_bin rfl (k.eq1 7 13 rfl) rfl (fun _=>rfl) (r_eql rfl))<| .T (fun k=>v_pickT rfl (k.eq1 2 8 rfl) (k.eq1 8 14 rfl)) .nil
 refine aftI al aK ar fun cV bm an aW ao cw aw=>?_
 have⟨aX,bn⟩:=aw.f2 aq aL
 have bo:=aw.g 9 15
 refine aM _ _ ?_
 rcases bc (decide (((m.getD (((kk:Int) - 1:Int).toNat) 0:Nat):Int)=0)) with af|af
 have a3:=oT af
 have bK:=hB bo af
 refine wt bK<| ws<| bv _ _<| wb<| wp_g0 [true,true,false] [(2,true)] 23
  [ve (iv (kk:Int)),ve (iv ((kk:Int) - 1)),vt] an (.eq (.eq (.tt .nil))) ?_ ?_
 exact .M aX<| .R (fun k=>v_bin rfl (k.eq1 0 16 rfl) rfl (fun _=>rfl) (r_sub rfl (by omega))) (fun _=>rfl)<| .off .nil
 refine aftI an aW ao fun bp cW aY bL bM cx ax=>?_
 have⟨cX,ce⟩:=ax.f2 aX bn
 have bq:=ax.g 1 17
 refine sP bq aY bL fun bN a4 a5 ae bP=>?_
 have⟨bO,cy⟩:=ae.q2 ce bq
 refine st_nil ?_
 refine blk_n ?_
 refine then_n ?_
 exact⟨_,⟨kk - 1,rfl,a4,a5,bM,(bP.trans (congrArg (Value.int .i64) (by omega))),bO,(by omega),(ztrim_dn (by omega) af hv)⟩,(by omega)⟩
 have a3:=oF af
 have a6:=hB bo af
 refine wf a6<| wp_exit ?_
 refine aJ _ _<| wk fun cz a7=>?_
 refine wp_g0 [true,true,true,true,false,false] [(4,false),(5,true)] 23
  [(OP bm.heap.size 59 .u32 ([])),ve (sv Am m cm),ve (iv (kk:Int)),
  (RP .u32 (m.take kk)),vt,vt] an (.cons (fun _ _ _ n ⟨_,_,e,h⟩=>⟨_,_,e,h.new_ n⟩) (.eq (.eq (.cons (fun _ _ _ n ⟨_,_,e,h⟩=>⟨_,_,e,h.new_ n⟩) (.tt (.tt .nil)))))) ?_ ?_
 refine .o1 (tkA rfl (noG rfl) fun _ w hn k=>(by
  exact x_bslice0 .u32 rfl parts0 elW fun cl cn W' hmo=>⟨cl,cn,rfl,(hmo.more hn.size)⟩)) ?_
 refine .M bn<| .M aX ?_
 refine .o1 (tk rfl rfl fun _ w hn k=>(by
  exact x_cutH (k:=.u32) rfl elW (k.eq1 1 19 rfl) (k.eq1 2 20 rfl) (hrm.new_ (ao.transNew hn)) (by omega) fun co cp hmr=>⟨co,cp,rfl,hmr⟩)) ?_
 exact .off<| .off .nil
 refine aftI an aW ao fun ap cA aD a8 aE cq aF=>?_
 obtain⟨bQ,a9,ay,ba⟩:=aF.G 0 18
 have ay:ap.eval (.tmp 18)=sv bQ ([]) a9:=ay
 obtain⟨bR,bb,az,bd⟩:=aF.G 3 21
 have az:ap.eval (.tmp 21)=sv bR (m.take kk) bb:=az
 have aG:=ba.more ao.size
 have hw133:=aE.size
 refine st_act rfl rfl fun cB be=>a_append (k:=.u32) (b:=w.heap.size) rfl elW ay aG az bd (by first|omega|(simp only [List.length_nil,List.length_cons,List.length_append,List.length_take,List.length_drop,List.length_replicate,List.length_set]; omega)) (by first|omega|(simp only [List.length_nil,List.length_cons,List.length_append,List.length_take,List.length_drop,List.length_replicate,List.length_set]; omega)) hw133 fun ad ab cC bf hg129=>be _ _ trivial ?_
 have bg:=aE.ownGrown aG hg129
 obtain⟨aA,ai⟩:∃ a',a'=ap.put (some 22) (sv ad ([] ++ (m.take kk)) ab):=⟨_,rfl⟩
 have⟨aH,bh⟩:=pz2 ai aD a8
 have aZ:=s7 ai aD
 show stepsTo _ _ _ _ _ (ap.put (some 22) (sv ad ([] ++ (m.take kk)) ab)) _
 rw [← ai]
 refine sP aZ aH bh fun bS cr bi ah bT=>?_
 have cD:=ah.q aZ
 refine a7 _ _<| wp_ret (ret_k bi (v:=sv ad ([] ++ (m.take kk)) ab) (res_t rfl bT _) ?_)
 have hsp:([] ++ (m.take kk))=canon (val m):=ztrim_end hl hk hv (Or.inr (ztrim_nz af))
 exact⟨ad,ab,by rw [← hsp],by rw [← hsp]; exact bf,bg⟩
def smade_c_P (d:Bool) (Am:Option Addr) (m:List Nat) (cm:Nat) (w:World) (en:Ending) (w':World):Prop:=∃ (Ar0:Option Addr) (cr0:Nat),en=.returned (.agg #[.bool (decide (sgn d (val m) < 0)),sv Ar0 (canon (sgn d (val m)).natAbs) cr0])∧SRow w' .u32 Ar0 (canon (sgn d (val m)).natAbs) cr0∧New w w'
theorem smade_c (d:Bool) (Am:Option Addr) (m:List Nat) (cm:Nat) (w:World) (hrm:SRow w .u32 Am m cm) (hl:Limbs m) (hs:m.length≤1000000):Calls prog 85 #[.bool d,sv Am m cm] w (smade_c_P d Am m cm w):=by
 refine enter_abs func85 rfl fun a0 an bj hp=>?_
 have an:a0.tmps.size=16:=an
 have aJ:New w w:=Upd.refl _ _
 have hp0:a0.eval (.tmp 0)=.bool d:=hp 0 _ rfl
 have hp1:a0.eval (.tmp 1)=sv Am m cm:=hp 1 _ rfl
 refine wk fun K1 bk=>?_
 refine wB tr1 [] [] 16 [IsNew w 26 [.bool false,sv none ([]) 0]] [0] an ?_ heN ?_
 exact .Y .nil
 refine aftI an bj aJ fun a2 w3 aK bl ag bB ao=>?_
 have⟨h8,h9⟩:=ao.f2 hp0 hp1
 obtain⟨bC,bm,aP,aQ⟩:=ao.G 0 4
 have bt:=Nat.le_trans aJ.size aP
 refine bk _ _ <| wk fun bD aR=>?_
 refine wp_g0 [true,true,true] [] 16
  [ve (sv Am m cm),
  (OP w3.heap.size 59 .u32 (canon (val m))),
  (OP w3.heap.size 59 .u32 (canon (val m)))] aK (.eq (.cons (fun _ _ _ n ⟨_,_,e,h⟩=>⟨_,_,e,h.new_ n⟩) (.cons (fun _ _ _ n ⟨_,_,e,h⟩=>⟨_,_,e,h.new_ n⟩) .nil))) ?_ ?_
 refine .M h9 ?_
 refine .o1 (tkC rfl (noG rfl) rfl fun _ w hn k=>(by
  refine ⟨#[sv Am m cm],_,args1 (k.eq1 0 6 rfl),fun w=>by kernel_rfl,strim_c _ m _ _ (hrm.new_ (ag.transNew hn)) hl (by first|omega|(simp only [List.length_nil,List.length_take,List.length_drop]; omega)|(simp only [List.length_cons,List.length_nil]; omega)),?_⟩
  rintro e w' ⟨A1,c2,rfl,hmo0,hm⟩
  exact⟨_,rfl,hm,⟨A1,c2,rfl,(hmo0.more hn.size)⟩⟩)) ?_
 refine .o1 (tk rfl rfl fun _ w hn k=>(by
  obtain⟨A5,c6,e7,bo⟩:=k.G 1 7
  exact⟨_,v_assign rfl e7,⟨A5,c6,rfl,bo⟩⟩)) ?_
 exact .nil
 refine aftI aK bl ag fun bp bE ad ah ai aS aj=>?_
 have⟨aL,ap⟩:=aj.f2 h8 bm
 obtain⟨ab,aa,ae,aT⟩:=aj.G 2 5
 have ae:bp.eval (.tmp 5)=sv ab (canon (val m)) aa:=ae
 have ak:=aQ.new_ aS
 have al:=aT.more ag.size
 refine aR _ _ <| wk fun bF am=>?_
 rcases bc (d) with af|af
 have aq:=hB aL af
 rcases bc (decide (((canon (val m)).length:Int)≤0)) with ac|ac
 have aF:=oT ac
 refine wA [true,true,true,true,true,true,true,true,false] [(8,false)] 16 [vT,vT,ve (sv ab (canon (val m)) aa),ve (iv ((canon (val m)).length:Int)),vF,vF,ve (sv ab (canon (val m)) aa),ve (.agg #[.bool false,sv ab (canon (val m)) aa]),vt] ad ?_ ?_
 exact .M aq<| .N 0<| .gm (fun k=>k.eq1 1 9 rfl) (fun k=>k.fx 5 ae)<| .V (fun p k=>v_lenR rfl elW (k.eq1 2 10 rfl))<| .V (fun p k=>v_bin rfl (k.eq1 3 11 rfl) rfl (fun _=>rfl) (r_gtrK ac))<| .T (fun k=>v_pickT rfl (k.eq1 1 9 rfl) (k.eq1 4 12 rfl))<| .M ae<| .T (fun k=>v_build (ps:=[(0,.bool false),(1,sv ab (canon (val m)) aa)]) rfl (parts2 (k.eq1 5 13 rfl) (k.eq1 6 14 rfl)) (by kernel_rfl))<| .off .nil
 refine aftI ad ah ai fun bG bH bu aU aV ar au=>?_
 have aM:=au.f1 ap
 have bq:=au.g 7 15
 have⟨av,aW⟩:=nw2 ar ak al
 refine sS6 aM bq av fun bI aX aw bv=>?_
 have aZ:=aW.far av aw (by decide)
 have a1:=aV.tR aw
 refine am _ _<| wp_ret (ret_k aU (v:=.agg #[.bool false,sv ab (canon (val m)) aa]) (res_c rfl aM (l_two isAgg26 sizeOf26 aX)) ?_)
 have hz1:(decide (sgn d (val m) < 0))=false:=zmade_b2 ac
 have hz2:canon (sgn d (val m)).natAbs=(canon (val m)):=by rw [natAbs_sgn]
 exact⟨ab,aa,by rw [hz1,hz2],by rw [hz2]; exact aZ.row,a1⟩
 have aF:=oF ac
 refine wA [true,true,true,true,true,true,true,true,false] [(8,false)] 16 [vT,vT,ve (sv ab (canon (val m)) aa),ve (iv ((canon (val m)).length:Int)),vT,vT,ve (sv ab (canon (val m)) aa),ve (.agg #[.bool true,sv ab (canon (val m)) aa]),vt] ad ?_ ?_
 exact .M aq<| .N 0<| .gm (fun k=>k.eq1 1 9 rfl) (fun k=>k.fx 5 ae)<| .V (fun p k=>v_lenR rfl elW (k.eq1 2 10 rfl))<| .V (fun p k=>v_bin rfl (k.eq1 3 11 rfl) rfl (fun _=>rfl) (r_gtrK ac))<| .T (fun k=>v_pickT rfl (k.eq1 1 9 rfl) (k.eq1 4 12 rfl))<| .M ae<| .T (fun k=>v_build (ps:=[(0,.bool true),(1,sv ab (canon (val m)) aa)]) rfl (parts2 (k.eq1 5 13 rfl) (k.eq1 6 14 rfl)) (by kernel_rfl))<| .off .nil
 refine aftI ad ah ai fun bK bL bw a3 a4 ax ay=>?_
 have aN:=ay.f1 ap
 have br:=ay.g 7 15
 have⟨az,a5⟩:=nw2 ax ak al
 refine sS6 aN br az fun bM a6 aA bx=>?_
 have a8:=a5.far az aA (by decide)
 have a9:=a4.tR aA
 refine am _ _<| wp_ret (ret_k a3 (v:=.agg #[.bool true,sv ab (canon (val m)) aa]) (res_c rfl aN (l_two isAgg26 sizeOf26 a6)) ?_)
 have hz1:(decide (sgn d (val m) < 0))=true:=zmade_b3 af ac
 have hz2:canon (sgn d (val m)).natAbs=(canon (val m)):=by rw [natAbs_sgn]
 exact⟨ab,aa,by rw [hz1,hz2],by rw [hz2]; exact a8.row,a9⟩
 have ba:=hB aL af
 refine wA [true,true,true,true,true,true,true,true,false] [(8,false)] 16 [vF,vF,vU,vU,vU,vF,ve (sv ab (canon (val m)) aa),ve (.agg #[.bool false,sv ab (canon (val m)) aa]),vt] ad ?_ ?_
 exact .M ba<| .N 0<| .S<| .S<| .S<| .T (fun k=>v_pickF rfl (k.eq1 1 9 rfl) rfl)<| .M ae<| .T (fun k=>v_build (ps:=[(0,.bool false),(1,sv ab (canon (val m)) aa)]) rfl (parts2 (k.eq1 5 13 rfl) (k.eq1 6 14 rfl)) (by kernel_rfl))<| .off .nil
 refine aftI ad ah ai fun bO bP bz bb bd aB aC=>?_
 have aO:=aC.f1 ap
 have bs:=aC.g 7 15
 have⟨aD,be⟩:=nw2 aB ak al
 refine sS6 aO bs aD fun bQ bf aE bA=>?_
 have bh:=be.far aD aE (by decide)
 have bi:=bd.tR aE
 refine am _ _<| wp_ret (ret_k bb (v:=.agg #[.bool false,sv ab (canon (val m)) aa]) (res_c rfl aO (l_two isAgg26 sizeOf26 bf)) ?_)
 have hz1:(decide (sgn d (val m) < 0))=false:=zmade_b1 af
 have hz2:canon (sgn d (val m)).natAbs=(canon (val m)):=by rw [natAbs_sgn]
 exact⟨ab,aa,by rw [hz1,hz2],by rw [hz2]; exact bh.row,bi⟩
theorem wcmp_c (Aa:Option Addr) (a:List Nat) (ca:Nat) (Ab:Option Addr) (b:List Nat) (cb:Nat) (w:World) (hra:SRow w .u32 Aa a ca) (hrb:SRow w .u32 Ab b cb) (ha:Limbs a) (hb:Limbs b) (hsa:a.length≤900000) (hsb:b.length≤900000):Calls prog 132 #[sv Aa a ca,sv Ab b cb] w (IsRet (iv (cmpI (val a) (val b))) w):=by
 refine enter_abs func132 rfl fun a0 au bT hp=>?_
 have au:a0.tmps.size=30:=au
 have bU:New w w:=Upd.refl _ _
 have hp0:a0.eval (.tmp 0)=sv Aa a ca:=hp 0 _ rfl
 have hp1:a0.eval (.tmp 1)=sv Ab b cb:=hp 1 _ rfl
 refine wk fun K1 bV=>?_
 refine wA tr1 [] 30 [ve (iv 0)] au ?_ ?_
 exact .c .nil
 refine aftI au bT bU fun a2 w3 a5 bW bk cC a6=>?_
 have⟨h8,h9⟩:=a6.f2 hp0 hp1
 refine bV _ _ <| wk fun cD bl=>?_
 refine wk fun cE bm=>?_
 refine wA tr7 [] 30 [ve (sv Aa a ca),ve (iv (a.length:Int)),ve (sv Ab b cb),ve (iv (b.length:Int)),ve (iv (max (a.length:Int) (b.length:Int))),ve (iv ((max (a.length:Int) (b.length:Int)) - 1)),ve (iv ((max (a.length:Int) (b.length:Int)) - 1))] a5 ?_ ?_
 exact .M h8<| .T (fun k=>v_lenR rfl elW (k.eq1 0 8 rfl))<| .M h9<| .T (fun k=>v_lenR rfl elW (k.eq1 2 10 rfl))<| .T (fun k=>v_max rfl (k.eq1 1 9 rfl) (k.eq1 3 11 rfl))<| .R (fun k=>v_bin rfl (k.eq1 4 12 rfl) rfl (fun _=>rfl) (r_sub rfl (by omega))) (fun _=>rfl)<| .B 5 .nil
 refine aftI a5 bW bk fun cF cG bn bo bp ce ao=>?_
 have⟨bX,bY⟩:=ao.f2 h8 h9
 have bZ:=ao.g 6 5
 refine bm _ _<| wb<| wp_loopX (fun (mm:Nat) (aa:Act) (ww:World)=>∃ (n:Nat),mm=n∧aa.tmps.size=30∧aa.defers=[]∧New w ww∧aa.eval (.tmp 5)=iv ((n:Int) - 1)∧aa.eval (.tmp 0)=sv Aa a ca∧aa.eval (.tmp 1)=sv Ab b cb∧(n≤max a.length b.length)∧(Above a b n)) (fun mm=>mm) ⟨_,⟨(max a.length b.length),rfl,bn,bo,bp,(bZ.trans (congrArg (Value.int .i64) (by omega))),bX,bY,(Nat.le_refl _),above_of_len⟩⟩ ?_
 rintro mm cH cI ⟨n,hmm,al,aA,aB,av,a7,a8,hn,hab⟩
 refine wk fun cJ bq=>wk fun cK aC=>?_
 rcases bc (decide (((n:Int) - 1) < 0)) with aj|aj
 have aL:=oT aj
 refine wA tr2 [] 30 [ve (iv ((n:Int) - 1)),vF] al ?_ ?_
 exact .M av<| .b 0 (r_geqK aj) .nil
 refine aftI al aA aB fun cL cM aD br bs cf am=>?_
 have⟨cN,cO,cP⟩:=am.f3 av a7 a8
 have b0:=am.g 1 15
 refine aC _ _<| wf b0<| wp_exit ?_
 refine bl _ _<| wk fun cQ bt=>?_
 refine wA tr1 [] 30 [ve (iv 0)] aD ?_ ?_
 exact .c .nil
 refine aftI aD br bs fun cR cS ch bu bv ci bw=>?_
 have b1:=bw.g 0 4
 refine bt _ _<| wp_ret (ret_k bu (v:=iv 0) (res_t rfl b1 _) ?_)
 exact⟨by rw [show cmpI (val a) (val b)=0 from zcmp_eq hab (by omega)],bv⟩
 have aL:=oF aj
 refine wA tr2 [] 30 [ve (iv ((n:Int) - 1)),vT] al ?_ ?_
 exact .M av<| .b 0 (r_geqK aj) .nil
 refine aftI al aA aB fun cT cU aE bx ap cj an=>?_
 have⟨aF,a9,ba⟩:=an.f3 av a7 a8
 have b2:=an.g 1 15
 refine aC _ _<| wt b2<| ws ?_
 refine bq _ _<| wk fun cV bz=>wb ?_
 refine wk fun cW bA=>?_
 refine wA tr8 [] 30 [ve (sv Aa a ca),ve (iv ((n:Int) - 1)),ve (.int .u64 ((a.getD (((n:Int) - 1:Int).toNat) 0:Nat):Int)),ve (sv Ab b cb),ve (iv ((n:Int) - 1)),ve (.int .u64 ((b.getD (((n:Int) - 1:Int).toNat) 0:Nat):Int)),ve (.int .u64 ((a.getD (((n:Int) - 1:Int).toNat) 0:Nat):Int)),ve (.int .u64 ((b.getD (((n:Int) - 1:Int).toNat) 0:Nat):Int))] aE ?_ ?_
 exact .M a9<| .M aF<| .C2 0 1 (fun p=>sword_c _ _ _ ((n:Int) - 1) _ (hra.new_ (ap.transNew p)) ha (by omega))<| .M ba<| .M aF<| .C2 3 4 (fun p=>sword_c _ _ _ ((n:Int) - 1) _ (hrb.new_ (ap.transNew p)) hb (by omega))<| .B 2<| .B 5 .nil
 refine aftI aE bx ap fun cX cY aG bB bC cl ak=>?_
 have⟨b3,b4,b5⟩:=ak.f3 aF a9 ba
 have bb:=ak.g 6 6
 have bd:=ak.g 7 7
 refine bA _ _ <| wk fun cZ bD=>?_
 refine wk fun c0 bE=>?_
 refine wA tr3 [] 30 [ve (.int .u64 ((a.getD (((n:Int) - 1:Int).toNat) 0:Nat):Int)),ve (.int .u64 ((b.getD (((n:Int) - 1:Int).toNat) 0:Nat):Int)),ve (.bool (decide (((a.getD (((n:Int) - 1:Int).toNat) 0:Nat):Int) < ((b.getD (((n:Int) - 1:Int).toNat) 0:Nat):Int))))] aG ?_ ?_
 exact .M bb<| .M bd<| .T (fun k=>v_bin rfl (k.eq1 0 24 rfl) (k.eq1 1 25 rfl) (fun _=>rfl) (r_lssK rfl)) .nil
 refine aftI aG bB bC fun c1 c2 ae aq ar cm af=>?_
 have⟨be,bf,bg,bh⟩:=af.f4 b3 b4 b5 bb
 have bi:=af.f1 bd
 have bj:=af.g 2 26
 refine bE _ _ ?_
 rcases bc (decide (((a.getD (((n:Int) - 1:Int).toNat) 0:Nat):Int) < ((b.getD (((n:Int) - 1:Int).toNat) 0:Nat):Int))) with ad|ad
 have aM:=oT ad
 have bF:=hB bj ad
 refine wt bF<| wk fun c3 bG=>?_
 refine wA tr1 [] 30 [ve (iv (-1))] ae ?_ ?_
 exact .c .nil
 refine aftI ae aq ar fun c4 c5 b6 aN aO cn aP=>?_
 have bH:=aP.g 0 4
 refine bG _ _<| wp_ret (ret_k aN (v:=iv (-1)) (res_t rfl bH _) ?_)
 exact⟨by rw [show cmpI (val a) (val b) = -1 from zcmp_lt ha hab (by omega) ad],aO⟩
 have aM:=oF ad
 have aQ:=hB bj ad
 refine wf aQ<| ws<| bD _ _<| wk fun co aw=>?_
 rcases bc (decide (((a.getD (((n:Int) - 1:Int).toNat) 0:Nat):Int)≤((b.getD (((n:Int) - 1:Int).toNat) 0:Nat):Int))) with ab|ab
 have aH:=oT ab
 refine wA tr3 [] 30 [ve (.int .u64 ((a.getD (((n:Int) - 1:Int).toNat) 0:Nat):Int)),ve (.int .u64 ((b.getD (((n:Int) - 1:Int).toNat) 0:Nat):Int)),vF] ae ?_ ?_
 exact .M bh<| .M bi<| .T (fun k=>v_bin rfl (k.eq1 0 27 rfl) (k.eq1 1 28 rfl) (fun _=>rfl) (r_gtrK ab)) .nil
 refine aftI ae aq ar fun cp cq ax aR aS b7 ag=>?_
 have⟨aI,bI,bJ⟩:=ag.f3 be bf bg
 have bK:=ag.g 2 29
 refine aw _ _<| wf bK<| ws ?_
 refine bz _ _<| wA [true,true,false] [(2,true)] 30 [ve (iv ((n:Int) - 1)),ve (iv (((n:Int) - 1) - 1)),vt] ax ?_ ?_
 exact .M aI<| .R (fun k=>v_bin rfl (k.eq1 0 16 rfl) rfl (fun _=>rfl) (r_sub rfl (by omega))) (fun _=>rfl)<| .off .nil
 refine aftI ax aR aS fun aJ cr ay aT aU b8 ah=>?_
 have⟨cs,bL,bM⟩:=ah.f3 aI bI bJ
 have aK:=ah.g 1 17
 refine sP aK ay aT fun bN aV aW ac bQ=>?_
 have⟨bO,bP,ct⟩:=ac.q3 bL bM aK
 refine st_nil ?_
 refine then_n ?_
 exact⟨_,⟨n - 1,rfl,aV,aW,aU,(bQ.trans (congrArg (Value.int .i64) (by omega))),bO,bP,(by omega),(zabove_dn hab (by omega) ad ab)⟩,(by omega)⟩
 have aH:=oF ab
 refine wA tr3 [] 30 [ve (.int .u64 ((a.getD (((n:Int) - 1:Int).toNat) 0:Nat):Int)),ve (.int .u64 ((b.getD (((n:Int) - 1:Int).toNat) 0:Nat):Int)),vT] ae ?_ ?_
 exact .M bh<| .M bi<| .T (fun k=>v_bin rfl (k.eq1 0 27 rfl) (k.eq1 1 28 rfl) (fun _=>rfl) (r_gtrK ab)) .nil
 refine aftI ae aq ar fun cu cv az aX aY b9 ai=>?_
 have⟨cw,cx,cy⟩:=ai.f3 be bf bg
 have bR:=ai.g 2 29
 refine aw _ _<| wt bR<| wk fun cz aZ=>?_
 refine wA tr1 [] 30 [ve (iv 1)] az ?_ ?_
 exact .c .nil
 refine aftI az aX aY fun cA cB cc a1 a3 cd a4=>?_
 have bS:=a4.g 0 4
 refine aZ _ _<| wp_ret (ret_k a1 (v:=iv 1) (res_t rfl bS _) ?_)
 exact⟨by rw [show cmpI (val a) (val b)=1 from zcmp_gt hb hab (by omega) ab],a3⟩
def sOf_c_P (n:Int) (w:World) (en:Ending) (w':World):Prop:=∃ (Ar0:Option Addr) (cr0:Nat),en=.returned (.agg #[.bool (decide (n < 0)),sv Ar0 (canon (n).natAbs) cr0])∧SRow w' .u32 Ar0 (canon (n).natAbs) cr0∧New w w'
theorem sOf_c (n:Int) (w:World) (hlo:-9223372036854775808≤n) (hhi:n≤9223372036854775807):Calls prog 43 #[iv n] w (sOf_c_P n w):=by
 refine enter_abs func43 rfl fun a0 ao bC hp=>?_
 have ao:a0.tmps.size=20:=ao
 have aP:New w w:=Upd.refl _ _
 have hp0:a0.eval (.tmp 0)=iv n:=hp 0 _ rfl
 have hmd:0≤n % 18446744073709551616∧n % 18446744073709551616 < 18446744073709551616:=by omega
 refine wk fun K1 bD=>?_
 refine wB tr1 [] [] 20 [IsNew w 26 [.bool false,sv none ([]) 0]] [0] ao ?_ heN ?_
 exact .Y .nil
 refine aftI ao bC aP fun a2 w3 aQ bE a5 b6 aR=>?_
 have h8:=aR.f1 hp0
 obtain⟨b7,h9,a6,a7⟩:=aR.G 0 2
 have b0:=Nat.le_trans aP.size a6
 refine bD _ _ <| wk fun b8 a8=>?_
 refine wA tr3 [] 20 [ve (iv n),ve (.int .u64 (((n % 18446744073709551616).toNat:Nat):Int)),ve (.int .u64 (((n % 18446744073709551616).toNat:Nat):Int))] aQ ?_ ?_
 exact .M h8<| .T (fun k=>v_conv rfl (k.eq1 0 4 rfl) (n_conv (by kernel_rfl) (by kernel_rfl) (by kernel_rfl) (of_conv n)))<| .B 1 .nil
 refine aftI aQ bE a5 fun b9 ca ar a9 ba bb an=>?_
 have⟨aS,bF⟩:=an.f2 h8 h9
 have bG:=an.g 2 3
 have bd:=a7.new_ bb
 refine a8 _ _ <| wk fun cb au=>?_
 refine wk fun cc be=>?_
 refine wA tr2 [] 20 [ve (iv n),ve (.bool (decide (n < 0)))] ar ?_ ?_
 exact .M aS<| .b 0 (r_lssK rfl) .nil
 refine aftI ar a9 ba fun cd aT ak av aw bf al=>?_
 have⟨aU,aV,ap⟩:=al.f3 aS bF bG
 have aW:=al.g 1 7
 have ax:=bd.new_ bf
 refine be _ _ ?_
 rcases bc (decide (n < 0)) with aa|aa
 have aI:=oT aa
 have bg:=hB aW aa
 refine wt bg<| wp_g0 [true,true,false] [(2,true)] 20
  [ve (.int .u64 (((n % 18446744073709551616).toNat:Nat):Int)),ve (.int .u64 (((-n).toNat:Nat):Int)),vt] ak (.eq (.eq (.tt .nil))) ?_ ?_
 exact .M ap<| .T (fun k=>v_negU rfl (k.eq1 0 8 rfl) (of_neg hlo (oT aa)))<| .off .nil
 refine aftI ak av aw fun aX aY ay bh bi bj am=>?_
 have⟨bH,bI,ce⟩:=am.f3 aU aV ap
 have aZ:=am.g 1 9
 have bk:=ax.new_ bj
 refine sP aZ ay bh fun bJ az bl ab a1=>?_
 have⟨bK,bL,cf⟩:=ab.q3 bH bI aZ
 refine au _ _ <| wk fun ch bm=>?_
 refine wp_g0 [true,true,true,true,true,true,true,true,true,true,false] [(10,false)] 20
  [ve (iv n),vT,ve (.int .u64 (((-n).toNat:Nat):Int)),ve (.int .u64 ((((-n).toNat) % 4294967296:Nat):Int)),ve (.int .u32 ((((-n).toNat) % 4294967296:Nat):Int)),ve (.int .u64 (((-n).toNat:Nat):Int)),ve (.int .u64 ((((-n).toNat) / 4294967296:Nat):Int)),ve (.int .u32 (((((-n).toNat) / 4294967296) % 4294967296:Nat):Int)),
  (OP aY.heap.size 59 .u32 ([(((-n).toNat) % 4294967296),((((-n).toNat) / 4294967296) % 4294967296)])),(fun (v_:Value) (W:World)=>∃ (ae:Option Addr) (af:Nat),v_=.agg #[.bool (decide (sgn true (val ([(((-n).toNat) % 4294967296),((((-n).toNat) / 4294967296) % 4294967296)])) < 0)),sv ae (canon (sgn true (val ([(((-n).toNat) % 4294967296),((((-n).toNat) / 4294967296) % 4294967296)]))).natAbs) af]∧SRow W .u32 ae (canon (sgn true (val ([(((-n).toNat) % 4294967296),((((-n).toNat) / 4294967296) % 4294967296)]))).natAbs) af),vt] az (.eq (.eq (.eq (.eq (.eq (.eq (.eq (.eq (.cons (fun _ _ _ n ⟨_,_,e,h⟩=>⟨_,_,e,h.new_ n⟩) (.cons (fun _ _ _ n ⟨_,_,e,h⟩=>⟨_,_,e,h.new_ n⟩) (.tt .nil))))))))))) ?_ ?_
 refine .M bK<| .b 0 (r_lssK aa)<| .M a1<| .R (fun k=>v_bin rfl (k.eq1 2 12 rfl) rfl (fun _=>rfl) (n_andMask64 ((-n).toNat) (by omega))) (fun _=>rfl)<| .R (fun k=>v_conv rfl (k.eq1 3 13 rfl) (n_conv (by kernel_rfl) (by kernel_rfl) (by kernel_rfl) (IntWalk.u32_in _ (by omega)))) (fun _=>rfl)<| .M a1<| .T (fun k=>v_bin rfl (k.eq1 5 15 rfl) rfl (fun _=>rfl) (n_shr ((-n).toNat) 32 (by decide)))<| .T (fun k=>v_conv rfl (k.eq1 6 16 rfl) (n_conv (by kernel_rfl) (by kernel_rfl) (by kernel_rfl) (n_wrap32 _))) ?_
 refine .o1 (tkA rfl (noG rfl) fun _ w hn k=>(by
  exact x_bslice (k:=.u32) (ps:=[(0,.int .u32 ((((-n).toNat) % 4294967296:Nat):Int)),(1,.int .u32 (((((-n).toNat) / 4294967296) % 4294967296:Nat):Int))]) [(((-n).toNat) % 4294967296),((((-n).toNat) / 4294967296) % 4294967296)] rfl (parts2 (k.eq1 4 14 rfl) (k.eq1 7 17 rfl)) elW rfl (by omega) (by omega) (by first|kernel_rfl|(simp only [enc,List.map_cons,List.map_nil,Int.toNat_natCast,Int.toNat_of_nonneg (by omega:(0:Int)≤_)]; kernel_rfl)) fun A1 c2 W' hmo=>⟨A1,c2,rfl,(hmo.more hn.size)⟩)) ?_
 refine .o1 (tkC rfl (noG rfl) rfl fun _ w hn k=>(by
  obtain⟨A5,c6,e7,bM⟩:=k.G 8 18
  refine ⟨#[.bool true,sv A5 ([(((-n).toNat) % 4294967296),((((-n).toNat) / 4294967296) % 4294967296)]) c6],_,args2 (k.eq1 1 11 rfl) e7,fun w=>by kernel_rfl,smade_c true _ ([(((-n).toNat) % 4294967296),((((-n).toNat) / 4294967296) % 4294967296)]) _ _ bM.row (two_limbs_m _) (by first|omega|(simp only [List.length_nil,List.length_take,List.length_drop]; omega)|(simp only [List.length_cons,List.length_nil]; omega)),?_⟩
  rintro e w' ⟨A9,bN,rfl,hmo0,hm⟩
  exact⟨_,rfl,hm,⟨A9,bN,rfl,hmo0⟩⟩)) ?_
 exact .off .nil
 refine aftI az bl bi fun bO ci b1 bn bo bp aA=>?_
 have a3:=aA.f1 bL
 obtain⟨ai,ac,aB,bq⟩:=aA.G 9 19
 have aB:bO.eval (.tmp 19)=.agg #[.bool (decide (sgn true (val ([(((-n).toNat) % 4294967296),((((-n).toNat) / 4294967296) % 4294967296)])) < 0)),sv ai (canon (sgn true (val ([(((-n).toNat) % 4294967296),((((-n).toNat) / 4294967296) % 4294967296)]))).natAbs) ac]:=aB
 have aC:=bk.new_ bp
 refine sS6 a3 aB aC fun cj br aD b2=>?_
 have bt:=bq.fr aC aD
 have bu:=bo.tR aD
 refine bm _ _<| wp_ret (ret_k bn (v:=.agg #[.bool (decide (sgn true (val ([(((-n).toNat) % 4294967296),((((-n).toNat) / 4294967296) % 4294967296)])) < 0)),sv ai (canon (sgn true (val ([(((-n).toNat) % 4294967296),((((-n).toNat) / 4294967296) % 4294967296)]))).natAbs) ac]) (res_c rfl a3 (l_two isAgg26 sizeOf26 br)) ?_)
 have hz1:sgn true (val ([(((-n).toNat) % 4294967296),((((-n).toNat) / 4294967296) % 4294967296)]))=n:=of_yes hlo aa
 exact⟨ai,ac,congrArg (fun z:Int=>Ending.returned (Value.agg #[.bool (decide (z < 0)),sv ai (canon z.natAbs) ac])) hz1,Eq.mp (congrArg (fun z:Int=>SRow _ .u32 ai (canon z.natAbs) ac) hz1) bt,bu⟩
 have aI:=oF aa
 have bv:=hB aW aa
 refine wf bv<| ws<| au _ _<| wk fun cm bw=>?_
 refine wp_g0 [true,true,true,true,true,true,true,true,true,true,false] [(10,false)] 20
  [ve (iv n),vF,ve (.int .u64 (((n % 18446744073709551616).toNat:Nat):Int)),ve (.int .u64 ((((n % 18446744073709551616).toNat) % 4294967296:Nat):Int)),ve (.int .u32 ((((n % 18446744073709551616).toNat) % 4294967296:Nat):Int)),ve (.int .u64 (((n % 18446744073709551616).toNat:Nat):Int)),ve (.int .u64 ((((n % 18446744073709551616).toNat) / 4294967296:Nat):Int)),ve (.int .u32 (((((n % 18446744073709551616).toNat) / 4294967296) % 4294967296:Nat):Int)),
  (OP aT.heap.size 59 .u32 ([(((n % 18446744073709551616).toNat) % 4294967296),((((n % 18446744073709551616).toNat) / 4294967296) % 4294967296)])),(fun (v_:Value) (W:World)=>∃ (ag:Option Addr) (ah:Nat),v_=.agg #[.bool (decide (sgn false (val ([(((n % 18446744073709551616).toNat) % 4294967296),((((n % 18446744073709551616).toNat) / 4294967296) % 4294967296)])) < 0)),sv ag (canon (sgn false (val ([(((n % 18446744073709551616).toNat) % 4294967296),((((n % 18446744073709551616).toNat) / 4294967296) % 4294967296)]))).natAbs) ah]∧SRow W .u32 ag (canon (sgn false (val ([(((n % 18446744073709551616).toNat) % 4294967296),((((n % 18446744073709551616).toNat) / 4294967296) % 4294967296)]))).natAbs) ah),vt] ak (.eq (.eq (.eq (.eq (.eq (.eq (.eq (.eq (.cons (fun _ _ _ n ⟨_,_,e,h⟩=>⟨_,_,e,h.new_ n⟩) (.cons (fun _ _ _ n ⟨_,_,e,h⟩=>⟨_,_,e,h.new_ n⟩) (.tt .nil))))))))))) ?_ ?_
 refine .M aU<| .b 0 (r_lssK aa)<| .M ap<| .R (fun k=>v_bin rfl (k.eq1 2 12 rfl) rfl (fun _=>rfl) (n_andMask64 ((n % 18446744073709551616).toNat) (by omega))) (fun _=>rfl)<| .R (fun k=>v_conv rfl (k.eq1 3 13 rfl) (n_conv (by kernel_rfl) (by kernel_rfl) (by kernel_rfl) (IntWalk.u32_in _ (by omega)))) (fun _=>rfl)<| .M ap<| .T (fun k=>v_bin rfl (k.eq1 5 15 rfl) rfl (fun _=>rfl) (n_shr ((n % 18446744073709551616).toNat) 32 (by decide)))<| .T (fun k=>v_conv rfl (k.eq1 6 16 rfl) (n_conv (by kernel_rfl) (by kernel_rfl) (by kernel_rfl) (n_wrap32 _))) ?_
 refine .o1 (tkA rfl (noG rfl) fun _ w hn k=>(by
  exact x_bslice (k:=.u32) (ps:=[(0,.int .u32 ((((n % 18446744073709551616).toNat) % 4294967296:Nat):Int)),(1,.int .u32 (((((n % 18446744073709551616).toNat) / 4294967296) % 4294967296:Nat):Int))]) [(((n % 18446744073709551616).toNat) % 4294967296),((((n % 18446744073709551616).toNat) / 4294967296) % 4294967296)] rfl (parts2 (k.eq1 4 14 rfl) (k.eq1 7 17 rfl)) elW rfl (by omega) (by omega) (by first|kernel_rfl|(simp only [enc,List.map_cons,List.map_nil,Int.toNat_natCast,Int.toNat_of_nonneg (by omega:(0:Int)≤_)]; kernel_rfl)) fun bR bS W' hmo=>⟨bR,bS,rfl,(hmo.more hn.size)⟩)) ?_
 refine .o1 (tkC rfl (noG rfl) rfl fun _ w hn k=>(by
  obtain⟨bT,bU,bV,bx⟩:=k.G 8 18
  refine ⟨#[.bool false,sv bT ([(((n % 18446744073709551616).toNat) % 4294967296),((((n % 18446744073709551616).toNat) / 4294967296) % 4294967296)]) bU],_,args2 (k.eq1 1 11 rfl) bV,fun w=>by kernel_rfl,smade_c false _ ([(((n % 18446744073709551616).toNat) % 4294967296),((((n % 18446744073709551616).toNat) / 4294967296) % 4294967296)]) _ _ bx.row (two_limbs_m _) (by first|omega|(simp only [List.length_nil,List.length_take,List.length_drop]; omega)|(simp only [List.length_cons,List.length_nil]; omega)),?_⟩
  rintro e w' ⟨bW,bX,rfl,hmo0,hm⟩
  exact⟨_,rfl,hm,⟨bW,bX,rfl,hmo0⟩⟩)) ?_
 exact .off .nil
 refine aftI ak av aw fun bY cn b3 bz aK bA aE=>?_
 have a4:=aE.f1 aV
 obtain⟨aj,ad,aF,bB⟩:=aE.G 9 19
 have aF:bY.eval (.tmp 19)=.agg #[.bool (decide (sgn false (val ([(((n % 18446744073709551616).toNat) % 4294967296),((((n % 18446744073709551616).toNat) / 4294967296) % 4294967296)])) < 0)),sv aj (canon (sgn false (val ([(((n % 18446744073709551616).toNat) % 4294967296),((((n % 18446744073709551616).toNat) / 4294967296) % 4294967296)]))).natAbs) ad]:=aF
 have aG:=ax.new_ bA
 refine sS6 a4 aF aG fun b4 aL aq bZ=>?_
 have aN:=bB.fr aG aq
 have aO:=aK.tR aq
 refine bw _ _<| wp_ret (ret_k bz (v:=.agg #[.bool (decide (sgn false (val ([(((n % 18446744073709551616).toNat) % 4294967296),((((n % 18446744073709551616).toNat) / 4294967296) % 4294967296)])) < 0)),sv aj (canon (sgn false (val ([(((n % 18446744073709551616).toNat) % 4294967296),((((n % 18446744073709551616).toNat) / 4294967296) % 4294967296)]))).natAbs) ad]) (res_c rfl a4 (l_two isAgg26 sizeOf26 aL)) ?_)
 have hz1:sgn false (val ([(((n % 18446744073709551616).toNat) % 4294967296),((((n % 18446744073709551616).toNat) / 4294967296) % 4294967296)]))=n:=of_no hhi aa
 exact⟨aj,ad,congrArg (fun z:Int=>Ending.returned (Value.agg #[.bool (decide (z < 0)),sv aj (canon z.natAbs) ad])) hz1,Eq.mp (congrArg (fun z:Int=>SRow _ .u32 aj (canon z.natAbs) ad) hz1) aN,aO⟩
theorem rbig_c (a:Bool) (Aa:Option Addr) (ma:List Nat) (ca:Nat) (b:Bool) (Ab:Option Addr) (mb:List Nat) (cb:Nat) (w:World) (hra:SRow w .u32 Aa ma ca) (hrb:SRow w .u32 Ab mb cb):Calls prog 16 #[.agg #[.bool a,sv Aa ma ca],.agg #[.bool b,sv Ab mb cb]] w (IsRet (.bool (decide (a=b) && decide (ma=mb))) w):=by
 refine enter_abs func16 rfl fun a0 ab ap hp=>?_
 have ab:a0.tmps.size=17:=ab
 have ac:New w w:=Upd.refl _ _
 have hp0:a0.eval (.tmp 0)=.agg #[.bool a,sv Aa ma ca]:=hp 0 _ rfl
 have hp1:a0.eval (.tmp 1)=.agg #[.bool b,sv Ab mb cb]:=hp 1 _ rfl
 refine wk fun K1 aq=>?_
 refine wB tr3 [] [] 17 [IsNew w 26 [.bool a,sv Aa ma ca],IsNew w 26 [.bool b,sv Ab mb cb],vF] [0,1] ab ?_ heN ?_
 exact .X hp0<| .X hp1<| .c .nil
 refine aftI ab ap ac fun a2 w3 af ar aa az ag=>?_
 obtain⟨q9,h8,aj,ad⟩:=ag.G 0 2
 obtain⟨ah,ai,ak,ae⟩:=ag.G 1 3
 have av:=Nat.le_trans ac.size aj
 have aw:=Nat.le_trans ac.size ak
 refine aq _ _ <| wk fun aA al=>?_
 refine wA tr13 [] 17 [ve (pv q9),ve (.bool a),ve (pv ah),ve (.bool b),ve (.bool (a == b)),ve (.bool (a == b)),ve (gq (a == b) (.pointer (some ⟨q9,1,none⟩))),ve (gq (a == b) (sv Aa ma ca)),ve (gq (a == b) (.pointer (some ⟨ah,1,none⟩))),ve (gq (a == b) (sv Ab mb cb)),ve (gq (a == b) (.bool (decide (ma=mb)))),ve (.bool ((a == b) && (decide (ma=mb)))),ve (.bool ((a == b) && (decide (ma=mb))))] af ?_ ?_
 exact .F h8<| .J 0 isAgg4 ad<| .F ai<| .J 2 isAgg4 ae<| .T (fun k=>v_bin rfl (k.eq1 1 6 rfl) (k.eq1 3 8 rfl) (fun _=>rfl) (r_eqlB _ _))<| .N 4<| .Q (fun k=>g0 (k.eq1 5 10 rfl)) (fun hG n k=>v_field rfl (k.fx 2 h8) (fun w=>rfl))<| .Q (fun k=>g0 (k.eq1 5 10 rfl)) (fun hG n k=>v_load rfl (cT hG (k.eq1 6 11 rfl)) (l_one isAgg24 ((ad.new_ n).cell 1)))<| .Q (fun k=>g0 (k.eq1 5 10 rfl)) (fun hG n k=>v_field rfl (k.fx 3 ai) (fun w=>rfl))<| .Q (fun k=>g0 (k.eq1 5 10 rfl)) (fun hG n k=>v_load rfl (cT hG (k.eq1 8 13 rfl)) (l_one isAgg24 ((ae.new_ n).cell 1)))<| .o1 (scC (G:=(a == b)) rfl rfl rfl (fun _ _ k=>g0 (k.eq1 5 10 rfl)) rfl (fun hG _ w hn k=>⟨#[sv Aa ma ca,sv Ab mb cb],args2 (cT hG (k.eq1 7 12 rfl)) (cT hG (k.eq1 9 14 rfl)),fun _=>by kernel_rfl,rlist32_c _ ma _ _ mb _ _ (hra.new_ (aa.transNew hn)) (hrb.new_ (aa.transNew hn))⟩))<| .O 5 10<| .B 11 .nil
 refine aftI af ar aa fun aB aC ax am an ay ao=>?_
 have au:=ao.g 12 4
 refine al _ _<| wp_ret (ret_k am (v:=.bool ((a == b) && (decide (ma=mb)))) (res_t rfl au _) ?_)
 refine ⟨?_,an⟩
 show Ending.returned (.bool ((a == b) && (decide (ma=mb))))=Ending.returned (.bool (decide (a=b) && decide (ma=mb)))
 first|rfl|(simp only [bsm] <;> rfl)|(exfalso; omega)
def cunits_c_P (Au:Option Addr) (u:List Nat) (cu:Nat) (w:World) (en:Ending) (w':World):Prop:=∃ (Ar0:Option Addr) (cr0:Nat),en=.returned (sv Ar0 u cr0)∧SOwn w' w.heap.size 79 .u16 Ar0 u cr0∧New w w'
theorem cunits_c (Au:Option Addr) (u:List Nat) (cu:Nat) (w:World) (hru:SRow w .u16 Au u cu) (hs:u.length≤1000000):Calls prog 30 #[sv Au u cu] w (cunits_c_P Au u cu w):=by
 refine enter_abs func30 rfl fun a0 af aC hp=>?_
 have af:a0.tmps.size=6:=af
 have aD:New w w:=Upd.refl _ _
 have hp0:a0.eval (.tmp 0)=sv Au u cu:=hp 0 _ rfl
 refine wk fun K1 aE=>?_
 refine wA tr1 [] 6 [ve (sv none ([]) 0)] af ?_ ?_
 exact .c .nil
 refine aftI af aC aD fun a2 w3 an aF ao aN aG=>?_
 have h8:=aG.f1 hp0
 refine aE _ _ <| wk fun aO ar=>?_
 refine wp_g0 [true,true,false,false] [(2,false),(3,true)] 6
  [(OP w3.heap.size 79 .u16 ([])),ve (sv Au u cu),vt,vt] an (.cons (fun _ _ _ n ⟨_,_,e,h⟩=>⟨_,_,e,h.new_ n⟩) (.eq (.tt (.tt .nil)))) ?_ ?_
 refine .o1 (tkA rfl (noG rfl) fun _ w hn k=>(by
  exact x_bslice0 .u16 rfl parts0 elU fun A1 c2 W' hmo=>⟨A1,c2,rfl,(hmo.more hn.size)⟩)) ?_
 exact .M h8<| .off<| .off .nil
 refine aftI an aF ao fun ag aP ah au ae aL ai=>?_
 obtain⟨aH,av,aj,aw⟩:=ai.G 0 3
 have aj:ag.eval (.tmp 3)=sv aH ([]) av:=aj
 have ap:=ai.g 1 4
 have ak:=aw.more ao.size
 have hw32:=ae.size
 refine st_act rfl rfl fun aQ ax=>a_append (k:=.u16) (b:=w.heap.size) rfl elU aj ak ap (hru.new_ ae) (by first|omega|(simp only [List.length_nil,List.length_cons,List.length_append,List.length_take,List.length_drop,List.length_replicate,List.length_set]; omega)) (by first|omega|(simp only [List.length_nil,List.length_cons,List.length_append,List.length_take,List.length_drop,List.length_replicate,List.length_set]; omega)) hw32 fun ab aa aR ay hg28=>ax _ _ trivial ?_
 have az:=ae.ownGrown ak hg28
 obtain⟨al,ad⟩:∃ a',a'=ag.put (some 5) (sv ab ([] ++ u) aa):=⟨_,rfl⟩
 have⟨am,aA⟩:=pz2 ad ah au
 have aI:=pN ad ap
 have aq:=s7 ad ah
 show stepsTo _ _ _ _ _ (ag.put (some 5) (sv ab ([] ++ u) aa)) _
 rw [← ad]
 refine sP aq am aA fun aJ aM aB ac aK=>?_
 have⟨aS,aT⟩:=ac.q2 aI aq
 refine ar _ _<| wp_ret (ret_k aB (v:=sv ab ([] ++ u) aa) (res_t rfl aK _) ?_)
 have hsp:([] ++ u)=u:=by simp
 exact⟨ab,aa,congrArg (fun l=>Ending.returned (sv ab l aa)) hsp,Eq.mp (congrArg (fun l=>SOwn _ _ _ _ ab l aa) hsp) ay,az⟩
theorem qsame_c (v:Vl) (Av:Option Addr) (cv:Nat) (Bv:Option Addr) (dv:Nat) (u:Vl) (Au:Option Addr) (cu:Nat) (Bu:Option Addr) (du:Nat) (w:World) (hmv:SRow w .u32 Av v.mag cv) (hsv:SRow w .u16 Bv v.s dv) (hmu:SRow w .u32 Au u.mag cu) (hsu:SRow w .u16 Bu u.s du):Calls prog 24 #[vv v Av cv Bv dv,vv u Au cu Bu du] w (IsRet (.bool (sameV v u)) w):=by
 refine enter_abs func24 rfl fun a0 af ap hp=>?_
 have af:a0.tmps.size=38:=af
 have ag:New w w:=Upd.refl _ _
 have hp0:a0.eval (.tmp 0)=vv v Av cv Bv dv:=hp 0 _ rfl
 have hp1:a0.eval (.tmp 1)=vv u Au cu Bu du:=hp 1 _ rfl
 refine wk fun K1 aq=>?_
 refine wB tr3 [] [] 38 [IsNew w 32 (c7 v Av cv Bv dv),IsNew w 32 (c7 u Au cu Bu du),vF] [0,1] af ?_ heN ?_
 exact .X hp0<| .X hp1<| .c .nil
 refine aftI af ap ag fun a2 w3 ah ar aa az ai=>?_
 obtain⟨q9,h8,aj,ab⟩:=ai.G 0 2
 obtain⟨ad,ae,ak,ac⟩:=ai.G 1 3
 have av:=Nat.le_trans ag.size aj
 have aw:=Nat.le_trans ag.size ak
 refine aq _ _ <| wk fun aA al=>?_
 refine wA tr34 [] 38 [ve (pv q9),ve (iv v.k),ve (pv ad),ve (iv u.k),ve (.bool (decide (v.k=u.k))),ve (.bool (decide (v.k=u.k))),ve (gq (decide (v.k=u.k)) (.pointer (some ⟨q9,1,none⟩))),ve (gq (decide (v.k=u.k)) (nv (Nm.mk v.nk v.nn))),ve (gq (decide (v.k=u.k)) (.pointer (some ⟨ad,1,none⟩))),ve (gq (decide (v.k=u.k)) (nv (Nm.mk u.nk u.nn))),ve (gq (decide (v.k=u.k)) (.bool (decide ((Nm.mk v.nk v.nn).k=(Nm.mk u.nk u.nn).k) && decide ((Nm.mk v.nk v.nn).n=(Nm.mk u.nk u.nn).n)))),ve (.bool ((decide (v.k=u.k)) && (decide ((Nm.mk v.nk v.nn).k=(Nm.mk u.nk u.nn).k) && decide ((Nm.mk v.nk v.nn).n=(Nm.mk u.nk u.nn).n)))),ve (.bool ((decide (v.k=u.k)) && (decide ((Nm.mk v.nk v.nn).k=(Nm.mk u.nk u.nn).k) && decide ((Nm.mk v.nk v.nn).n=(Nm.mk u.nk u.nn).n)))),ve (gq ((decide (v.k=u.k)) && (decide ((Nm.mk v.nk v.nn).k=(Nm.mk u.nk u.nn).k) && decide ((Nm.mk v.nk v.nn).n=(Nm.mk u.nk u.nn).n))) (.pointer (some ⟨q9,3,none⟩))),ve (gq ((decide (v.k=u.k)) && (decide ((Nm.mk v.nk v.nn).k=(Nm.mk u.nk u.nn).k) && decide ((Nm.mk v.nk v.nn).n=(Nm.mk u.nk u.nn).n))) (.agg #[.bool v.neg,sv Av v.mag cv])),ve (gq ((decide (v.k=u.k)) && (decide ((Nm.mk v.nk v.nn).k=(Nm.mk u.nk u.nn).k) && decide ((Nm.mk v.nk v.nn).n=(Nm.mk u.nk u.nn).n))) (.pointer (some ⟨ad,3,none⟩))),ve (gq ((decide (v.k=u.k)) && (decide ((Nm.mk v.nk v.nn).k=(Nm.mk u.nk u.nn).k) && decide ((Nm.mk v.nk v.nn).n=(Nm.mk u.nk u.nn).n))) (.agg #[.bool u.neg,sv Au u.mag cu])),ve (gq ((decide (v.k=u.k)) && (decide ((Nm.mk v.nk v.nn).k=(Nm.mk u.nk u.nn).k) && decide ((Nm.mk v.nk v.nn).n=(Nm.mk u.nk u.nn).n))) (.bool (decide (v.neg=u.neg) && decide (v.mag=u.mag)))),ve (.bool (((decide (v.k=u.k)) && (decide ((Nm.mk v.nk v.nn).k=(Nm.mk u.nk u.nn).k) && decide ((Nm.mk v.nk v.nn).n=(Nm.mk u.nk u.nn).n))) && (decide (v.neg=u.neg) && decide (v.mag=u.mag)))),ve (.bool (((decide (v.k=u.k)) && (decide ((Nm.mk v.nk v.nn).k=(Nm.mk u.nk u.nn).k) && decide ((Nm.mk v.nk v.nn).n=(Nm.mk u.nk u.nn).n))) && (decide (v.neg=u.neg) && decide (v.mag=u.mag)))),ve (gq (((decide (v.k=u.k)) && (decide ((Nm.mk v.nk v.nn).k=(Nm.mk u.nk u.nn).k) && decide ((Nm.mk v.nk v.nn).n=(Nm.mk u.nk u.nn).n))) && (decide (v.neg=u.neg) && decide (v.mag=u.mag))) (.pointer (some ⟨q9,5,none⟩))),ve (gq (((decide (v.k=u.k)) && (decide ((Nm.mk v.nk v.nn).k=(Nm.mk u.nk u.nn).k) && decide ((Nm.mk v.nk v.nn).n=(Nm.mk u.nk u.nn).n))) && (decide (v.neg=u.neg) && decide (v.mag=u.mag))) (sv Bv v.s dv)),ve (gq (((decide (v.k=u.k)) && (decide ((Nm.mk v.nk v.nn).k=(Nm.mk u.nk u.nn).k) && decide ((Nm.mk v.nk v.nn).n=(Nm.mk u.nk u.nn).n))) && (decide (v.neg=u.neg) && decide (v.mag=u.mag))) (.pointer (some ⟨ad,5,none⟩))),ve (gq (((decide (v.k=u.k)) && (decide ((Nm.mk v.nk v.nn).k=(Nm.mk u.nk u.nn).k) && decide ((Nm.mk v.nk v.nn).n=(Nm.mk u.nk u.nn).n))) && (decide (v.neg=u.neg) && decide (v.mag=u.mag))) (sv Bu u.s du)),ve (gq (((decide (v.k=u.k)) && (decide ((Nm.mk v.nk v.nn).k=(Nm.mk u.nk u.nn).k) && decide ((Nm.mk v.nk v.nn).n=(Nm.mk u.nk u.nn).n))) && (decide (v.neg=u.neg) && decide (v.mag=u.mag))) (.bool (decide (v.s=u.s)))),ve (.bool ((((decide (v.k=u.k)) && (decide ((Nm.mk v.nk v.nn).k=(Nm.mk u.nk u.nn).k) && decide ((Nm.mk v.nk v.nn).n=(Nm.mk u.nk u.nn).n))) && (decide (v.neg=u.neg) && decide (v.mag=u.mag))) && (decide (v.s=u.s)))),ve (.bool ((((decide (v.k=u.k)) && (decide ((Nm.mk v.nk v.nn).k=(Nm.mk u.nk u.nn).k) && decide ((Nm.mk v.nk v.nn).n=(Nm.mk u.nk u.nn).n))) && (decide (v.neg=u.neg) && decide (v.mag=u.mag))) && (decide (v.s=u.s)))),ve (gq ((((decide (v.k=u.k)) && (decide ((Nm.mk v.nk v.nn).k=(Nm.mk u.nk u.nn).k) && decide ((Nm.mk v.nk v.nn).n=(Nm.mk u.nk u.nn).n))) && (decide (v.neg=u.neg) && decide (v.mag=u.mag))) && (decide (v.s=u.s))) (.pointer (some ⟨q9,6,none⟩))),ve (gq ((((decide (v.k=u.k)) && (decide ((Nm.mk v.nk v.nn).k=(Nm.mk u.nk u.nn).k) && decide ((Nm.mk v.nk v.nn).n=(Nm.mk u.nk u.nn).n))) && (decide (v.neg=u.neg) && decide (v.mag=u.mag))) && (decide (v.s=u.s))) (iv v.ref)),ve (gq ((((decide (v.k=u.k)) && (decide ((Nm.mk v.nk v.nn).k=(Nm.mk u.nk u.nn).k) && decide ((Nm.mk v.nk v.nn).n=(Nm.mk u.nk u.nn).n))) && (decide (v.neg=u.neg) && decide (v.mag=u.mag))) && (decide (v.s=u.s))) (.pointer (some ⟨ad,6,none⟩))),ve (gq ((((decide (v.k=u.k)) && (decide ((Nm.mk v.nk v.nn).k=(Nm.mk u.nk u.nn).k) && decide ((Nm.mk v.nk v.nn).n=(Nm.mk u.nk u.nn).n))) && (decide (v.neg=u.neg) && decide (v.mag=u.mag))) && (decide (v.s=u.s))) (iv u.ref)),ve (gq ((((decide (v.k=u.k)) && (decide ((Nm.mk v.nk v.nn).k=(Nm.mk u.nk u.nn).k) && decide ((Nm.mk v.nk v.nn).n=(Nm.mk u.nk u.nn).n))) && (decide (v.neg=u.neg) && decide (v.mag=u.mag))) && (decide (v.s=u.s))) (.bool (decide (v.ref=u.ref)))),ve (.bool (((((decide (v.k=u.k)) && (decide ((Nm.mk v.nk v.nn).k=(Nm.mk u.nk u.nn).k) && decide ((Nm.mk v.nk v.nn).n=(Nm.mk u.nk u.nn).n))) && (decide (v.neg=u.neg) && decide (v.mag=u.mag))) && (decide (v.s=u.s))) && (decide (v.ref=u.ref)))),ve (.bool (((((decide (v.k=u.k)) && (decide ((Nm.mk v.nk v.nn).k=(Nm.mk u.nk u.nn).k) && decide ((Nm.mk v.nk v.nn).n=(Nm.mk u.nk u.nn).n))) && (decide (v.neg=u.neg) && decide (v.mag=u.mag))) && (decide (v.s=u.s))) && (decide (v.ref=u.ref))))] ah ?_ ?_
 exact .F h8<| .J 0 isAgg3 ab<| .F ae<| .J 2 isAgg3 ac<| .T (fun k=>v_bin rfl (k.eq1 1 6 rfl) (k.eq1 3 8 rfl) (fun _=>rfl) (r_eql rfl))<| .N 4<| .Q (fun k=>g0 (k.eq1 5 10 rfl)) (fun hG p k=>v_field rfl (k.fx 2 h8) (fun w=>rfl))<| .Q (fun k=>g0 (k.eq1 5 10 rfl)) (fun hG p k=>v_load rfl (cT hG (k.eq1 6 11 rfl)) (l_part isAgg23 sizeOf23 (ab.new_ p) lb))<| .Q (fun k=>g0 (k.eq1 5 10 rfl)) (fun hG p k=>v_field rfl (k.fx 3 ae) (fun w=>rfl))<| .Q (fun k=>g0 (k.eq1 5 10 rfl)) (fun hG p k=>v_load rfl (cT hG (k.eq1 8 13 rfl)) (l_part isAgg23 sizeOf23 (ac.new_ p) lb))<| .o1 (scC (G:=(decide (v.k=u.k))) rfl rfl rfl (fun _ _ k=>g0 (k.eq1 5 10 rfl)) rfl (fun hG _ w hn k=>⟨#[nv (Nm.mk v.nk v.nn),nv (Nm.mk u.nk u.nn)],args2 (cT hG (k.eq1 7 12 rfl)) (cT hG (k.eq1 9 14 rfl)),fun _=>by kernel_rfl,rnum_c (Nm.mk v.nk v.nn) (Nm.mk u.nk u.nn) _ ⟩))<| .O 5 10<| .N 11<| .Q (fun k=>g0 (k.eq1 12 17 rfl)) (fun hG p k=>v_field rfl (k.fx 2 h8) (fun w=>rfl))<| .Q (fun k=>g0 (k.eq1 12 17 rfl)) (fun hG p k=>v_load rfl (cT hG (k.eq1 13 18 rfl)) (l_part isAgg26 sizeOf26 (ab.new_ p) lb))<| .Q (fun k=>g0 (k.eq1 12 17 rfl)) (fun hG p k=>v_field rfl (k.fx 3 ae) (fun w=>rfl))<| .Q (fun k=>g0 (k.eq1 12 17 rfl)) (fun hG p k=>v_load rfl (cT hG (k.eq1 15 20 rfl)) (l_part isAgg26 sizeOf26 (ac.new_ p) lb))<| .o1 (scC (G:=((decide (v.k=u.k)) && (decide ((Nm.mk v.nk v.nn).k=(Nm.mk u.nk u.nn).k) && decide ((Nm.mk v.nk v.nn).n=(Nm.mk u.nk u.nn).n)))) rfl rfl rfl (fun _ _ k=>g0 (k.eq1 12 17 rfl)) rfl (fun hG _ w hn k=>⟨#[.agg #[.bool v.neg,sv Av v.mag cv],.agg #[.bool u.neg,sv Au u.mag cu]],args2 (cT hG (k.eq1 14 19 rfl)) (cT hG (k.eq1 16 21 rfl)),fun _=>by kernel_rfl,rbig_c v.neg _ v.mag _ u.neg _ u.mag _ _ (hmv.new_ (aa.transNew hn)) (hmu.new_ (aa.transNew hn))⟩))<| .O 12 17<| .N 18<| .Q (fun k=>g0 (k.eq1 19 24 rfl)) (fun hG p k=>v_field rfl (k.fx 2 h8) (fun w=>rfl))<| .Q (fun k=>g0 (k.eq1 19 24 rfl)) (fun hG p k=>v_load rfl (cT hG (k.eq1 20 25 rfl)) (l_one isAgg27 ((ab.new_ p).cell 5)))<| .Q (fun k=>g0 (k.eq1 19 24 rfl)) (fun hG p k=>v_field rfl (k.fx 3 ae) (fun w=>rfl))<| .Q (fun k=>g0 (k.eq1 19 24 rfl)) (fun hG p k=>v_load rfl (cT hG (k.eq1 22 27 rfl)) (l_one isAgg27 ((ac.new_ p).cell 5)))<| .o1 (scC (G:=(((decide (v.k=u.k)) && (decide ((Nm.mk v.nk v.nn).k=(Nm.mk u.nk u.nn).k) && decide ((Nm.mk v.nk v.nn).n=(Nm.mk u.nk u.nn).n))) && (decide (v.neg=u.neg) && decide (v.mag=u.mag)))) rfl rfl rfl (fun _ _ k=>g0 (k.eq1 19 24 rfl)) rfl (fun hG _ w hn k=>⟨#[sv Bv v.s dv,sv Bu u.s du],args2 (cT hG (k.eq1 21 26 rfl)) (cT hG (k.eq1 23 28 rfl)),fun _=>by kernel_rfl,rlist16_c _ v.s _ _ u.s _ _ (hsv.new_ (aa.transNew hn)) (hsu.new_ (aa.transNew hn))⟩))<| .O 19 24<| .N 25<| .Q (fun k=>g0 (k.eq1 26 31 rfl)) (fun hG p k=>v_field rfl (k.fx 2 h8) (fun w=>rfl))<| .Q (fun k=>g0 (k.eq1 26 31 rfl)) (fun hG p k=>v_load rfl (cT hG (k.eq1 27 32 rfl)) (l_one isAgg3 ((ab.new_ p).cell 6)))<| .Q (fun k=>g0 (k.eq1 26 31 rfl)) (fun hG p k=>v_field rfl (k.fx 3 ae) (fun w=>rfl))<| .Q (fun k=>g0 (k.eq1 26 31 rfl)) (fun hG p k=>v_load rfl (cT hG (k.eq1 29 34 rfl)) (l_one isAgg3 ((ac.new_ p).cell 6)))<| .Q (fun k=>g0 (k.eq1 26 31 rfl)) (fun hG p k=>v_bin rfl (cT hG (k.eq1 28 33 rfl)) (cT hG (k.eq1 30 35 rfl)) (fun _=>rfl) (r_eql rfl))<| .O 26 31<| .B 32 .nil
 refine aftI ah ar aa fun aB aC ax am an ay ao=>?_
 have au:=ao.g 33 4
 refine al _ _<| wp_ret (ret_k am (v:=.bool (((((decide (v.k=u.k)) && (decide ((Nm.mk v.nk v.nn).k=(Nm.mk u.nk u.nn).k) && decide ((Nm.mk v.nk v.nn).n=(Nm.mk u.nk u.nn).n))) && (decide (v.neg=u.neg) && decide (v.mag=u.mag))) && (decide (v.s=u.s))) && (decide (v.ref=u.ref)))) (res_t rfl au _) ?_)
 refine ⟨?_,an⟩
 show Ending.returned (.bool (((((decide (v.k=u.k)) && (decide ((Nm.mk v.nk v.nn).k=(Nm.mk u.nk u.nn).k) && decide ((Nm.mk v.nk v.nn).n=(Nm.mk u.nk u.nn).n))) && (decide (v.neg=u.neg) && decide (v.mag=u.mag))) && (decide (v.s=u.s))) && (decide (v.ref=u.ref))))=Ending.returned (.bool (sameV v u))
 first|rfl|(simp only [sameV,Bool.and_assoc,bsm] <;> rfl)|(exfalso; omega)
theorem qmay_c0 (v:Vl) (Av:Option Addr) (cv:Nat) (Bv:Option Addr) (dv:Nat) (w:World) (hmv:SRow w .u32 Av v.mag cv) (hsv:SRow w .u16 Bv v.s dv):Calls prog 71 #[vv v Av cv Bv dv] w (IsRet (.bool (mayR v)) w):=by
 refine enter_abs func71 rfl fun a0 bs gO hp=>?_
 have bs:a0.tmps.size=63:=bs
 have fv:New w w:=Upd.refl _ _
 have hp0:a0.eval (.tmp 0)=vv v Av cv Bv dv:=hp 0 _ rfl
 refine wk fun K1 gP=>?_
 refine wB tr2 [] [] 63 [IsNew w 32 (c7 v Av cv Bv dv),vF] [0] bs ?_ heN ?_
 exact .X hp0<| .c .nil
 refine aftI bs gO fv fun a2 w3 fw gQ ci i7 gR=>?_
 obtain⟨q9,h8,fJ,bg⟩:=gR.G 0 1
 have hv:=Nat.le_trans fv.size fJ
 refine gP _ _ <| wk fun i8 fK=>?_
 refine wB [true,true,true,true,false] [] [(4,false)] 63 [ve (pv q9),ve (iv v.k),ve (vv (Vl.mk v.k 0 0 false [] [] 0) none 0 none 0),IsNew w3 32 z7,vt] [3] fw ?_ heN ?_
 exact .F h8<| .J 0 isAgg3 bg<| .T (fun k=>v_build (ps:=[(0,iv v.k)]) rfl (parts1 (k.eq1 1 5 rfl)) (by kernel_rfl))<| .Y<| .off .nil
 refine aftI fw gQ ci fun i9 ja cj fL fM fN bh=>?_
 have fy:=bh.f1 h8
 have gS:=bh.g 2 6
 obtain⟨ao,fz,cl,fO⟩:=bh.G 3 3
 have fP:=bg.new_ fN
 have hne28:q9 ≠ ao:=by have h1:=bg.lt; have h2:=cl; omega
 have hw:=Nat.le_trans ci.size cl
 refine sS8 fz gS fO fun gT fS fQ fR=>?_
 have cm:=fR hne28 fP
 have fU:=fM.tR fQ
 refine fK _ _ <| wk fun jc an=>?_
 refine wk fun jd fV=>?_
 refine wA tr2 [] 63 [ve (pv q9),ve (iv v.k)] cj ?_ ?_
 exact .F fy<| .J 0 isAgg3 cm .nil
 refine aftI cj fL fU fun je jf cn fW fX co bi=>?_
 have⟨gU,gV⟩:=bi.f2 fy fz
 have fA:=bi.g 1 8
 have⟨fY,fZ⟩:=nw2 co cm fS
 refine fV _ _<| wb<| wk fun jg cp=>wk fun jh f0=>?_
 refine wA tr2 [] 63 [ve (.bool (decide (v.k=0))),ve (.bool (decide (v.k=0)))] cn ?_ ?_
 exact .H fA (r_eql rfl)<| .B 0 .nil
 refine aftI cn fW fX fun ji jj aQ cq aR cr aS=>?_
 have⟨fB,fC,fD⟩:=aS.f3 gU gV fA
 have fE:=aS.g 1 9
 have⟨ct,cu⟩:=nw2 cr fY fZ
 refine f0 _ _ ?_
 rcases bc (decide (v.k=0)) with ab|ab
 have db:=oT ab
 have cw:=hB fE ab
 refine wt cw<| ws<| cp _ _<| wt cw<| ws<| an _ _<| wk fun jk f1=>?_
 refine wA tr4 [] 63 [ve (vv v Av cv Bv dv),ve (vv (Vl.mk v.k 0 0 false [] [] 0) none 0 none 0),ve (.bool (sameV v (Vl.mk v.k 0 0 false [] [] 0))),ve (.bool (sameV v (Vl.mk v.k 0 0 false [] [] 0)))] aQ ?_ ?_
 exact .L8 fB ct<| .L8 fC cu<| .C2 0 1 (fun n=>qsame_c v _ _ _ _ (Vl.mk v.k 0 0 false [] [] 0) _ _ _ _ _ (hmv.new_ (aR.transNew n)) (hsv.new_ (aR.transNew n)) (SRow.nil _ _) (SRow.nil _ _))<| .B 2 .nil
 refine aftI aQ cq aR fun jl jm hx f2 f3 hy f4=>?_
 have gW:=f4.g 3 2
 refine f1 _ _<| wp_ret (ret_k f2 (v:=.bool (sameV v (Vl.mk v.k 0 0 false [] [] 0))) (res_t rfl gW _) ?_)
 refine ⟨?_,f3⟩
 show Ending.returned (.bool (sameV v (Vl.mk v.k 0 0 false [] [] 0)))=Ending.returned (.bool (mayR v))
 first|rfl|(simp only [mayR,Vl.num,ab,bsm] <;> rfl)|(exfalso; omega)
 have db:=oF ab
 have f5:=hB fE ab
 refine wf f5<| wp_g0 [true,true] [] 63
  [ve (.bool (decide (v.k=1))),ve (.bool (decide (v.k=1)))] aQ (.eq (.eq .nil)) ?_ ?_
 exact .H fD (r_eql rfl)<| .B 0 .nil
 refine aftI aQ cq aR fun jn jo aT cx aU cy aV=>?_
 have⟨fF,fG,fH⟩:=aV.f3 fB fC fD
 have fI:=aV.g 1 9
 have⟨cz,cA⟩:=nw2 cy ct cu
 refine cp _ _ ?_
 rcases bc (decide (v.k=1)) with ad|ad
 have dc:=oT ad
 have f6:=hB fI ad
 refine wt f6<| ws<| an _ _<| wk fun jp f7=>?_
 refine wA tr4 [] 63 [ve (vv v Av cv Bv dv),ve (vv (Vl.mk v.k 0 0 false [] [] 0) none 0 none 0),ve (.bool (sameV v (Vl.mk v.k 0 0 false [] [] 0))),ve (.bool (sameV v (Vl.mk v.k 0 0 false [] [] 0)))] aT ?_ ?_
 exact .L8 fF cz<| .L8 fG cA<| .C2 0 1 (fun n=>qsame_c v _ _ _ _ (Vl.mk v.k 0 0 false [] [] 0) _ _ _ _ _ (hmv.new_ (aU.transNew n)) (hsv.new_ (aU.transNew n)) (SRow.nil _ _) (SRow.nil _ _))<| .B 2 .nil
 refine aftI aT cx aU fun jq jr g2 dd de hz df=>?_
 have f8:=df.g 3 2
 refine f7 _ _<| wp_ret (ret_k dd (v:=.bool (sameV v (Vl.mk v.k 0 0 false [] [] 0))) (res_t rfl f8 _) ?_)
 refine ⟨?_,de⟩
 show Ending.returned (.bool (sameV v (Vl.mk v.k 0 0 false [] [] 0)))=Ending.returned (.bool (mayR v))
 first|rfl|(simp only [mayR,Vl.num,ab,ad,bsm] <;> rfl)|(exfalso; omega)
 have dc:=oF ad
 have dg:=hB fI ad
 refine wf dg<| wk fun hA dh=>?_
 refine wA tr2 [] 63 [ve (.bool (decide (v.k=2))),ve (.bool (decide (v.k=2)))] aT ?_ ?_
 exact .H fH (r_eql rfl)<| .B 0 .nil
 refine aftI aT cx aU fun hC hD au bt bu bv av=>?_
 have⟨bj,bk,cB⟩:=av.f3 fF fG fH
 have cC:=av.g 1 12
 have⟨aW,bw⟩:=nw2 bv cz cA
 refine dh _ _ ?_
 rcases bc (decide (v.k=2)) with aa|aa
 have cD:=oT aa
 have di:=hB cC aa
 refine wt di<| wk fun hE dj=>?_
 refine wA [true,true,true,false] [(3,false)] 63 [ve (.pointer (some ⟨q9,6,none⟩)),ve (iv v.ref),ve (.pointer (some ⟨ao,6,none⟩)),vt] au ?_ ?_
 exact .F bj<| .J 0 isAgg3 aW<| .F bk<| .off .nil
 refine aftI au bt bu fun hF hH bx dk dl bz aw=>?_
 have⟨bl,f9⟩:=aw.f2 bj bk
 have ga:=aw.g 1 15
 have gb:=aw.g 2 16
 have⟨dm,dn⟩:=nw2 bz aW bw
 obtain⟨hI,-,cE,dp,dq,dr⟩:=s_one (v:=iv v.ref) (i:=6) sizeOf3 rfl rfl dn lb
 refine st_act rfl rfl fun hJ ds=>a_store' rfl gb ga cE (ds _ _ trivial ?_)
 have aX:=dr _ _ _ (hne28) dm
 have dt:=dl.tR dq
 refine dj _ _ <| wk fun hK du=>?_
 refine wA tr8 [] 63 [ve (.pointer (some ⟨q9,6,none⟩)),ve (iv v.ref),ve (.bool (!decide (v.ref=0))),ve (.bool (!decide (v.ref=0))),ve (gq (!decide (v.ref=0)) (.pointer (some ⟨q9,6,none⟩))),ve (gq (!decide (v.ref=0)) (iv v.ref)),ve (gq (!decide (v.ref=0)) (.bool (!decide (v.ref=1)))),ve (.bool ((!decide (v.ref=0)) && (!decide (v.ref=1))))] bx ?_ ?_
 exact .F bl<| .J 0 isAgg3 aX<| .b 1 (r_neq rfl)<| .N 2<| .Q (fun k=>g0 (k.eq1 3 20 rfl)) (fun hG n k=>v_field rfl (k.fx 1 bl) (fun w=>rfl))<| .Q (fun k=>g0 (k.eq1 3 20 rfl)) (fun hG n k=>v_load rfl (cT hG (k.eq1 4 21 rfl)) (l_one isAgg3 ((aX.new_ n).cell 6)))<| .Q (fun k=>g0 (k.eq1 3 20 rfl)) (fun hG n k=>v_bin rfl (cT hG (k.eq1 5 22 rfl)) rfl (fun _=>rfl) (r_neq rfl))<| .O 3 6 .nil
 refine aftI bx dk dt fun hL hM ax bA ay bB aY=>?_
 have⟨gc,gd⟩:=aY.f2 bl f9
 have cF:=aY.g 7 24
 have⟨dw,dx⟩:=nw2 bB aX dp
 refine du _ _ ?_
 rcases bc (((!decide (v.ref=0)) && (!decide (v.ref=1)))) with ah|ah
 have dy:=hB cF ah
 have aZ:(!decide (v.ref=0))=true:=al ah
 have a1:(decide (v.ref=0))=false:=nF aZ
 have gX:=oF a1
 have a3:(!decide (v.ref=1))=true:=ar ah
 have a4:(decide (v.ref=1))=false:=nF a3
 have gY:=oF a4
 refine wt dy<| wk fun hN dz=>?_
 refine wA tr1 [] 63 [vF] ax ?_ ?_
 exact .c .nil
 refine aftI ax bA ay fun hO hP g3 dA dB g4 dC=>?_
 have gf:=dC.g 0 2
 refine dz _ _<| wp_ret (ret_k dA (v:=.bool false) (res_t rfl gf _) ?_)
 refine ⟨?_,dB⟩
 show Ending.returned (.bool false)=Ending.returned (.bool (mayR v))
 first|rfl|(simp only [mayR,Vl.num,ab,ad,aa,ah,aZ,aZ,a1,a1,a3,a3,a4,a4,bsm] <;> rfl)|(exfalso; omega)
 have dD:=hB cF ah
 refine wf dD<| ws<| an _ _<| wk fun hQ dE=>?_
 refine wA tr4 [] 63 [ve (vv v Av cv Bv dv),ve (vv (Vl.mk v.k 0 0 false [] [] v.ref) none 0 none 0),ve (.bool (sameV v (Vl.mk v.k 0 0 false [] [] v.ref))),ve (.bool (sameV v (Vl.mk v.k 0 0 false [] [] v.ref)))] ax ?_ ?_
 exact .L8 gc dw<| .L8 gd dx<| .C2 0 1 (fun n=>qsame_c v _ _ _ _ (Vl.mk v.k 0 0 false [] [] v.ref) _ _ _ _ _ (hmv.new_ (ay.transNew n)) (hsv.new_ (ay.transNew n)) (SRow.nil _ _) (SRow.nil _ _))<| .B 2 .nil
 refine aftI ax bA ay fun hR hS g5 dF dG g6 dH=>?_
 have gg:=dH.g 3 2
 refine dE _ _<| wp_ret (ret_k dF (v:=.bool (sameV v (Vl.mk v.k 0 0 false [] [] v.ref))) (res_t rfl gg _) ?_)
 refine ⟨?_,dG⟩
 show Ending.returned (.bool (sameV v (Vl.mk v.k 0 0 false [] [] v.ref)))=Ending.returned (.bool (mayR v))
 first|rfl|(simp only [mayR,Vl.num,ab,ad,aa,ah,bsm] <;> rfl)|(exfalso; omega)
 have cD:=oF aa
 have dI:=hB cC aa
 refine wf dI<| wk fun hT dJ=>?_
 refine wA tr2 [] 63 [ve (.bool (decide (v.k=3))),ve (.bool (decide (v.k=3)))] au ?_ ?_
 exact .H cB (r_eql rfl)<| .B 0 .nil
 refine aftI au bt bu fun hU hV az bC bD bE aA=>?_
 have⟨bm,bn,cG⟩:=aA.f3 bj bk cB
 have cH:=aA.g 1 25
 have⟨a5,bF⟩:=nw2 bE aW bw
 refine dJ _ _ ?_
 rcases bc (decide (v.k=3)) with ac|ac
 have cI:=oT ac
 have dK:=hB cH ac
 refine wt dK<| wk fun hW dL=>?_
 refine wA [true,true,true,false] [(3,false)] 63 [ve (.pointer (some ⟨q9,1,none⟩)),ve (nv (Nm.mk v.nk v.nn)),ve (.pointer (some ⟨ao,1,none⟩)),vt] az ?_ ?_
 exact .F bm<| .K2 0 a5<| .F bn<| .off .nil
 refine aftI az bC bD fun hX hY bG dM dN bH aB=>?_
 have⟨cJ,gh⟩:=aB.f2 bm bn
 have gi:=aB.g 1 28
 have gj:=aB.g 2 29
 have⟨dO,dP⟩:=nw2 bH a5 bF
 obtain⟨gk,cK,cL,dQ,dR⟩:=s_many (P:=prog) (t:=23) (i:=1) [iv v.nk,iv v.nn] sizeOf23 rfl rfl rfl dP lb
 have dS:Blk gk ao 32 [iv v.k,iv v.nk,iv v.nn,.bool false,sv none ([]) 0,sv none ([]) 0,iv 0]:=cL
 refine st_act rfl rfl fun hZ dT=>a_store' rfl gj gi cK (dT _ _ trivial ?_)
 have bI:=dR _ _ _ (hne28) dO
 have dU:=dN.tR dQ
 refine dL _ _ <| wk fun h0 dV=>?_
 refine wA tr4 [] 63 [ve (.pointer (some ⟨q9,1,none⟩)),ve (nv (Nm.mk v.nk v.nn)),ve (.bool (nmayB (Nm.mk v.nk v.nn))),ve (.bool (!(nmayB (Nm.mk v.nk v.nn))))] bG ?_ ?_
 exact .F cJ<| .K2 0 bI<| .C 1 (fun n=>rmay_c (Nm.mk v.nk v.nn) _)<| .T (fun k=>v_not rfl (k.eq1 2 32 rfl)) .nil
 refine aftI bG dM dU fun h3 h4 aC bJ aD bK a6=>?_
 have⟨gl,gm⟩:=a6.f2 cJ gh
 have cM:=a6.g 3 33
 have⟨dW,dX⟩:=nw2 bK bI dS
 refine dV _ _ ?_
 rcases bc ((!(nmayB (Nm.mk v.nk v.nn)))) with ai|ai
 have dY:=hB cM ai
 have bL:(nmayB (Nm.mk v.nk v.nn))=false:=nF ai
 refine wt dY<| wk fun h5 dZ=>?_
 refine wA tr1 [] 63 [vF] aC ?_ ?_
 exact .c .nil
 refine aftI aC bJ aD fun h6 h7 g7 d0 d1 g8 d2=>?_
 have gn:=d2.g 0 2
 refine dZ _ _<| wp_ret (ret_k d0 (v:=.bool false) (res_t rfl gn _) ?_)
 refine ⟨?_,d1⟩
 show Ending.returned (.bool false)=Ending.returned (.bool (mayR v))
 first|rfl|(simp only [mayR,Vl.num,ab,ad,aa,ac,ai,bL,bL,bsm] <;> rfl)|(exfalso; omega)
 have d3:=hB cM ai
 have bM:(nmayB (Nm.mk v.nk v.nn))=true:=nT ai
 refine wf d3<| ws<| an _ _<| wk fun h9 d4=>?_
 refine wA tr4 [] 63 [ve (vv v Av cv Bv dv),ve (vv (Vl.mk v.k v.nk v.nn false [] [] 0) none 0 none 0),ve (.bool (sameV v (Vl.mk v.k v.nk v.nn false [] [] 0))),ve (.bool (sameV v (Vl.mk v.k v.nk v.nn false [] [] 0)))] aC ?_ ?_
 exact .L8 gl dW<| .L8 gm dX<| .C2 0 1 (fun n=>qsame_c v _ _ _ _ (Vl.mk v.k v.nk v.nn false [] [] 0) _ _ _ _ _ (hmv.new_ (aD.transNew n)) (hsv.new_ (aD.transNew n)) (SRow.nil _ _) (SRow.nil _ _))<| .B 2 .nil
 refine aftI aC bJ aD fun ia ib g9 d5 d6 ha d7=>?_
 have go:=d7.g 3 2
 refine d4 _ _<| wp_ret (ret_k d5 (v:=.bool (sameV v (Vl.mk v.k v.nk v.nn false [] [] 0))) (res_t rfl go _) ?_)
 refine ⟨?_,d6⟩
 show Ending.returned (.bool (sameV v (Vl.mk v.k v.nk v.nn false [] [] 0)))=Ending.returned (.bool (mayR v))
 first|rfl|(simp only [mayR,Vl.num,ab,ad,aa,ac,ai,bM,bM,bsm] <;> rfl)|(exfalso; omega)
 have cI:=oF ac
 have d8:=hB cH ac
 refine wf d8<| wk fun ic d9=>?_
 refine wA tr2 [] 63 [ve (.bool (decide (v.k=4))),ve (.bool (decide (v.k=4)))] az ?_ ?_
 exact .H cG (r_eql rfl)<| .B 0 .nil
 refine aftI az bC bD fun id ie aE bN bO bP aF=>?_
 have⟨bo,bp,cN⟩:=aF.f3 bm bn cG
 have cO:=aF.g 1 34
 have⟨a7,bQ⟩:=nw2 bP a5 bF
 refine d9 _ _ ?_
 rcases bc (decide (v.k=4)) with ae|ae
 have cP:=oT ae
 have ea:=hB cO ae
 refine wt ea<| wk fun ig eb=>?_
 refine wA [true,true,true,false] [(3,false)] 63 [ve (.pointer (some ⟨q9,3,none⟩)),ve (.agg #[.bool v.neg,sv Av v.mag cv]),ve (.pointer (some ⟨ao,3,none⟩)),vt] aE ?_ ?_
 exact .F bo<| .K6 0 a7<| .F bp<| .off .nil
 refine aftI aE bN bO fun ih ii bR ec ed bS aG=>?_
 have⟨cQ,gp⟩:=aG.f2 bo bp
 have gr:=aG.g 1 37
 have gs:=aG.g 2 38
 have⟨ee,ef⟩:=nw2 bS a7 bQ
 obtain⟨gt,cR,cS,eg,eh⟩:=s_many (P:=prog) (t:=26) (i:=3) [.bool v.neg,sv Av v.mag cv] sizeOf26 rfl rfl rfl ef lb
 have ei:Blk gt ao 32 [iv v.k,iv 0,iv 0,.bool v.neg,sv Av v.mag cv,sv none ([]) 0,iv 0]:=cS
 refine st_act rfl rfl fun ij ej=>a_store' rfl gs gr cR (ej _ _ trivial ?_)
 have bT:=eh _ _ _ (hne28) ee
 have bU:=ed.tR eg
 refine eb _ _ <| wk fun ik ek=>?_
 refine wA tr4 [] 63 [ve (.pointer (some ⟨q9,3,none⟩)),ve (.agg #[.bool v.neg,sv Av v.mag cv]),ve (.bool (mayB v.neg v.mag)),ve (.bool (!(mayB v.neg v.mag)))] bR ?_ ?_
 exact .F cQ<| .K6 0 bT<| .C 1 (fun n=>sMay_c v.neg _ v.mag _ _ (hmv.new_ (bU.transNew n)))<| .T (fun k=>v_not rfl (k.eq1 2 41 rfl)) .nil
 refine aftI bR ec bU fun il im aH bV ap bW a8=>?_
 have⟨gu,gv⟩:=a8.f2 cQ gp
 have cU:=a8.g 3 42
 have⟨el,em⟩:=nw2 bW bT ei
 refine ek _ _ ?_
 rcases bc ((!(mayB v.neg v.mag))) with aj|aj
 have en:=hB cU aj
 have bX:(mayB v.neg v.mag)=false:=nF aj
 refine wt en<| wk fun io eo=>?_
 refine wA tr1 [] 63 [vF] aH ?_ ?_
 exact .c .nil
 refine aftI aH bV ap fun ip iq hc ep er hd es=>?_
 have gw:=es.g 0 2
 refine eo _ _<| wp_ret (ret_k ep (v:=.bool false) (res_t rfl gw _) ?_)
 refine ⟨?_,er⟩
 show Ending.returned (.bool false)=Ending.returned (.bool (mayR v))
 first|rfl|(simp only [mayR,Vl.num,ab,ad,aa,ac,ae,aj,bX,bX,bsm] <;> rfl)|(exfalso; omega)
 have et:=hB cU aj
 have bY:(mayB v.neg v.mag)=true:=nT aj
 refine wf et<| ws<| an _ _<| wk fun ir eu=>?_
 refine wA tr4 [] 63 [ve (vv v Av cv Bv dv),ve (vv (Vl.mk v.k 0 0 v.neg v.mag [] 0) Av cv none 0),ve (.bool (sameV v (Vl.mk v.k 0 0 v.neg v.mag [] 0))),ve (.bool (sameV v (Vl.mk v.k 0 0 v.neg v.mag [] 0)))] aH ?_ ?_
 exact .L8 gu el<| .L8 gv em<| .C2 0 1 (fun n=>qsame_c v _ _ _ _ (Vl.mk v.k 0 0 v.neg v.mag [] 0) _ _ _ _ _ (hmv.new_ (ap.transNew n)) (hsv.new_ (ap.transNew n)) (hmv.new_ (ap.transNew n)) (SRow.nil _ _))<| .B 2 .nil
 refine aftI aH bV ap fun it iu he ev ew hf ex=>?_
 have gx:=ex.g 3 2
 refine eu _ _<| wp_ret (ret_k ev (v:=.bool (sameV v (Vl.mk v.k 0 0 v.neg v.mag [] 0))) (res_t rfl gx _) ?_)
 refine ⟨?_,ew⟩
 show Ending.returned (.bool (sameV v (Vl.mk v.k 0 0 v.neg v.mag [] 0)))=Ending.returned (.bool (mayR v))
 first|rfl|(simp only [mayR,Vl.num,ab,ad,aa,ac,ae,aj,bY,bY,bsm] <;> rfl)|(exfalso; omega)
 have cP:=oF ae
 have ey:=hB cO ae
 refine wf ey<| wk fun iw ez=>?_
 refine wA tr2 [] 63 [ve (.bool (decide (v.k=5))),ve (.bool (decide (v.k=5)))] aE ?_ ?_
 exact .H cN (r_eql rfl)<| .B 0 .nil
 refine aftI aE bN bO fun ix iy aI bZ b0 b1 aJ=>?_
 have⟨bq,br,gy⟩:=aJ.f3 bo bp cN
 have cV:=aJ.g 1 43
 have⟨a9,b2⟩:=nw2 b1 a7 bQ
 refine ez _ _ ?_
 rcases bc (decide (v.k=5)) with af|af
 have cW:=oT af
 have eA:=hB cV af
 refine wt eA<| wk fun iz eB=>?_
 refine wA [true,true,true,false] [(3,false)] 63 [ve (.pointer (some ⟨q9,5,none⟩)),ve (sv Bv v.s dv),ve (.pointer (some ⟨ao,5,none⟩)),vt] aI ?_ ?_
 exact .F bq<| .J 0 isAgg27 a9<| .F br<| .off .nil
 refine aftI aI bZ b0 fun iA iB b3 eC eD b4 aK=>?_
 have⟨cX,gz⟩:=aK.f2 bq br
 have gA:=aK.g 1 46
 have gB:=aK.g 2 47
 have⟨eE,eF⟩:=nw2 b4 a9 b2
 obtain⟨iC,-,cY,eG,eH,eI⟩:=s_one (v:=sv Bv v.s dv) (i:=5) sizeOf27 rfl rfl eF lb
 refine st_act rfl rfl fun iD eJ=>a_store' rfl gB gA cY (eJ _ _ trivial ?_)
 have b5:=eI _ _ _ (hne28) eE
 have eK:=eD.tR eH
 refine eB _ _ <| wk fun iE eL=>?_
 refine wA tr4 [] 63 [ve (.pointer (some ⟨q9,5,none⟩)),ve (sv Bv v.s dv),ve (iv (v.s.length:Int)),ve (.bool (!decide ((v.s.length:Int)≤4096)))] b3 ?_ ?_
 exact .F cX<| .J 0 isAgg27 b5<| .T (fun k=>v_lenR rfl elU (k.eq1 1 49 rfl))<| .b 2 (r_gtrK rfl) .nil
 refine aftI b3 eC eK fun iF iG aL b6 aq b7 ba=>?_
 have⟨gC,gD⟩:=ba.f2 cX gz
 have cZ:=ba.g 3 51
 have⟨eM,eN⟩:=nw2 b7 b5 eG
 refine eL _ _ ?_
 rcases bc ((!decide ((v.s.length:Int)≤4096))) with ak|ak
 have eO:=hB cZ ak
 have bb:(decide ((v.s.length:Int)≤4096))=false:=nF ak
 have gZ:=oF bb
 refine wt eO<| wk fun iH eP=>?_
 refine wA tr1 [] 63 [vF] aL ?_ ?_
 exact .c .nil
 refine aftI aL b6 aq fun iI iJ hh eQ eR hi eS=>?_
 have gE:=eS.g 0 2
 refine eP _ _<| wp_ret (ret_k eQ (v:=.bool false) (res_t rfl gE _) ?_)
 refine ⟨?_,eR⟩
 show Ending.returned (.bool false)=Ending.returned (.bool (mayR v))
 first|rfl|(simp only [mayR,Vl.num,ab,ad,aa,ac,ae,af,ak,bb,bb,bsm] <;> rfl)|(exfalso; omega)
 have eT:=hB cZ ak
 have bd:(decide ((v.s.length:Int)≤4096))=true:=nT ak
 have g1:=oT bd
 refine wf eT<| ws<| an _ _<| wk fun iK eU=>?_
 refine wA tr4 [] 63 [ve (vv v Av cv Bv dv),ve (vv (Vl.mk v.k 0 0 false [] v.s 0) none 0 Bv dv),ve (.bool (sameV v (Vl.mk v.k 0 0 false [] v.s 0))),ve (.bool (sameV v (Vl.mk v.k 0 0 false [] v.s 0)))] aL ?_ ?_
 exact .L8 gC eM<| .L8 gD eN<| .C2 0 1 (fun n=>qsame_c v _ _ _ _ (Vl.mk v.k 0 0 false [] v.s 0) _ _ _ _ _ (hmv.new_ (aq.transNew n)) (hsv.new_ (aq.transNew n)) (SRow.nil _ _) (hsv.new_ (aq.transNew n)))<| .B 2 .nil
 refine aftI aL b6 aq fun iL iM hj eV eW hl eX=>?_
 have gF:=eX.g 3 2
 refine eU _ _<| wp_ret (ret_k eV (v:=.bool (sameV v (Vl.mk v.k 0 0 false [] v.s 0))) (res_t rfl gF _) ?_)
 refine ⟨?_,eW⟩
 show Ending.returned (.bool (sameV v (Vl.mk v.k 0 0 false [] v.s 0)))=Ending.returned (.bool (mayR v))
 first|rfl|(simp only [mayR,Vl.num,ab,ad,aa,ac,ae,af,ak,bd,bd,bsm] <;> rfl)|(exfalso; omega)
 have cW:=oF af
 have eY:=hB cV af
 refine wf eY<| wk fun iN eZ=>?_
 refine wA tr2 [] 63 [ve (.bool (decide (v.k=6))),ve (.bool (decide (v.k=6)))] aI ?_ ?_
 exact .H gy (r_eql rfl)<| .B 0 .nil
 refine aftI aI bZ b0 fun iO iP aM b8 b9 ca be=>?_
 have⟨c0,c1⟩:=be.f2 bq br
 have c2:=be.g 1 52
 have⟨cb,e0⟩:=nw2 ca a9 b2
 refine eZ _ _ ?_
 rcases bc (decide (v.k=6)) with ag|ag
 have c3:=oT ag
 have e1:=hB c2 ag
 refine wt e1<| wk fun iQ e2=>?_
 refine wA [true,true,true,false] [(3,false)] 63 [ve (.pointer (some ⟨q9,6,none⟩)),ve (iv v.ref),ve (.pointer (some ⟨ao,6,none⟩)),vt] aM ?_ ?_
 exact .F c0<| .J 0 isAgg3 cb<| .F c1<| .off .nil
 refine aftI aM b8 b9 fun iR iS cc e3 e4 cd aN=>?_
 have⟨c4,gG⟩:=aN.f2 c0 c1
 have gH:=aN.g 1 55
 have gI:=aN.g 2 56
 have⟨e5,e6⟩:=nw2 cd cb e0
 obtain⟨iT,-,c5,e7,e8,e9⟩:=s_one (v:=iv v.ref) (i:=6) sizeOf3 rfl rfl e6 lb
 refine st_act rfl rfl fun iU fa=>a_store' rfl gI gH c5 (fa _ _ trivial ?_)
 have ce:=e9 _ _ _ (hne28) e5
 have fb:=e4.tR e8
 refine e2 _ _ <| wk fun iV fc=>?_
 refine wA tr3 [] 63 [ve (.pointer (some ⟨q9,6,none⟩)),ve (iv v.ref),ve (.bool (decide (v.ref < 0)))] cc ?_ ?_
 exact .F c4<| .J 0 isAgg3 ce<| .b 1 (r_lssK rfl) .nil
 refine aftI cc e3 fb fun iW iX aO cf aP ch bf=>?_
 have⟨gJ,gK⟩:=bf.f2 c4 gG
 have c6:=bf.g 2 59
 have⟨fd,fe⟩:=nw2 ch ce e7
 refine fc _ _ ?_
 rcases bc (decide (v.ref < 0)) with am|am
 have c8:=oT am
 have ff:=hB c6 am
 refine wt ff<| wk fun iY fg=>?_
 refine wA tr1 [] 63 [vF] aO ?_ ?_
 exact .c .nil
 refine aftI aO cf aP fun iZ i0 hm fh fi ho fj=>?_
 have gL:=fj.g 0 2
 refine fg _ _<| wp_ret (ret_k fh (v:=.bool false) (res_t rfl gL _) ?_)
 refine ⟨?_,fi⟩
 show Ending.returned (.bool false)=Ending.returned (.bool (mayR v))
 first|rfl|(simp only [mayR,Vl.num,ab,ad,aa,ac,ae,af,ag,am,bsm] <;> rfl)|(exfalso; omega)
 have c8:=oF am
 have fk:=hB c6 am
 refine wf fk<| ws<| an _ _<| wk fun i1 fl=>?_
 refine wA tr4 [] 63 [ve (vv v Av cv Bv dv),ve (vv (Vl.mk v.k 0 0 false [] [] v.ref) none 0 none 0),ve (.bool (sameV v (Vl.mk v.k 0 0 false [] [] v.ref))),ve (.bool (sameV v (Vl.mk v.k 0 0 false [] [] v.ref)))] aO ?_ ?_
 exact .L8 gJ fd<| .L8 gK fe<| .C2 0 1 (fun n=>qsame_c v _ _ _ _ (Vl.mk v.k 0 0 false [] [] v.ref) _ _ _ _ _ (hmv.new_ (aP.transNew n)) (hsv.new_ (aP.transNew n)) (SRow.nil _ _) (SRow.nil _ _))<| .B 2 .nil
 refine aftI aO cf aP fun i2 i3 hr fm fn hs fo=>?_
 have gM:=fo.g 3 2
 refine fl _ _<| wp_ret (ret_k fm (v:=.bool (sameV v (Vl.mk v.k 0 0 false [] [] v.ref))) (res_t rfl gM _) ?_)
 refine ⟨?_,fn⟩
 show Ending.returned (.bool (sameV v (Vl.mk v.k 0 0 false [] [] v.ref)))=Ending.returned (.bool (mayR v))
 first|rfl|(simp only [mayR,Vl.num,ab,ad,aa,ac,ae,af,ag,am,bsm] <;> rfl)|(exfalso; omega)
 have c3:=oF ag
 have fp:=hB c2 ag
 refine wf fp<| wk fun i4 fq=>?_
 refine wA tr1 [] 63 [vF] aM ?_ ?_
 exact .c .nil
 refine aftI aM b8 b9 fun i5 i6 ht fs ft hu fu=>?_
 have gN:=fu.g 0 2
 refine fq _ _<| wp_ret (ret_k fs (v:=.bool false) (res_t rfl gN _) ?_)
 refine ⟨?_,ft⟩
 show Ending.returned (.bool false)=Ending.returned (.bool (mayR v))
 first|rfl|(simp only [mayR,Vl.num,ab,ad,aa,ac,ae,af,ag,bsm] <;> rfl)|(exfalso; omega)
theorem qmay_c (v:Vl) (Av:Option Addr) (cv:Nat) (Bv:Option Addr) (dv:Nat) (w:World) (hmv:SRow w .u32 Av v.mag cv) (hsv:SRow w .u16 Bv v.s dv):Calls Tryz.prog 71 #[vv v Av cv Bv dv] w (IsRet (.bool (mayV v)) w):=by
  have h:=qmay_c0 v Av cv Bv dv w hmv hsv
  rw [mayR_eq] at h
  exact h
def qgood_c_P (v:Vl) (Av:Option Addr) (cv:Nat) (Bv:Option Addr) (dv:Nat) (w:World) (en:Ending) (w':World):Prop:=∃ (Ar0:Option Addr) (cr0:Nat) (Ar1:Option Addr) (cr1:Nat),en=.returned (vv (cleanV v) Ar0 cr0 Ar1 cr1)∧SRow w' .u32 Ar0 ((cleanV v).mag) cr0∧SRow w' .u16 Ar1 ((cleanV v).s) cr1∧New w w'
theorem qgood_c (v:Vl) (Av:Option Addr) (cv:Nat) (Bv:Option Addr) (dv:Nat) (w:World) (hmv:SRow w .u32 Av v.mag cv) (hsv:SRow w .u16 Bv v.s dv):Calls prog 34 #[vv v Av cv Bv dv] w (qgood_c_P v Av cv Bv dv w):=by
 refine enter_abs func34 rfl fun a0 ah a5 hp=>?_
 have ah:a0.tmps.size=7:=ah
 have ai:New w w:=Upd.refl _ _
 have hp0:a0.eval (.tmp 0)=vv v Av cv Bv dv:=hp 0 _ rfl
 refine wk fun K1 a6=>?_
 refine wB tr2 [] [] 7 [IsNew w 32 (c7 v Av cv Bv dv),IsNew w 32 z7] [0,1] ah ?_ heN ?_
 exact .X hp0<| .Y .nil
 refine aftI ah a5 ai fun a2 w3 ay a7 ae bk aj=>?_
 obtain⟨q9,h8,aE,ak⟩:=aj.G 0 1
 obtain⟨al,az,aF,aG⟩:=aj.G 1 2
 have hne16:=aj.ne 0 1 1 2 h8 az
 have be:=Nat.le_trans ai.size aE
 have bf:=Nat.le_trans ai.size aF
 refine a6 _ _ <| wk fun bl aH=>?_
 refine wk fun bm aI=>?_
 refine wA tr2 [] 7 [ve (vv v Av cv Bv dv),ve (.bool (mayV v))] ay ?_ ?_
 exact .L8 h8 ak<| .C 0 (fun n=>qmay_c v _ _ _ _ _ (hmv.new_ (ae.transNew n)) (hsv.new_ (ae.transNew n))) .nil
 refine aftI ay a7 ae fun bn bo ab am an ao af=>?_
 have⟨a8,aA⟩:=af.f2 h8 az
 have aB:=af.g 1 4
 have⟨aJ,ap⟩:=nw2 ao ak aG
 refine aI _ _ ?_
 rcases bc (mayV v) with aa|aa
 have aK:=hB aB aa
 refine wt aK<| wk fun bp aL=>?_
 refine wA [true,false] [(1,false)] 7 [ve (vv v Av cv Bv dv),vt] ab ?_ ?_
 exact .L8 a8 aJ<| .off .nil
 refine aftI ab am an fun bq br bg aM aN aO aq=>?_
 have aC:=aq.f1 aA
 have a9:=aq.g 0 5
 have aP:=ap.new_ aO
 refine sS8 aC a9 aP fun ba aR aQ bh=>?_
 have ag:=aN.tR aQ
 refine aL _ _<| wp_ret (ret_k aM (v:=vv v Av cv Bv dv) (res_c rfl aC (l_agg isAgg32 sizeOf32 aR rfl)) ?_)
 have ac:(cleanV v).mag=v.mag:=by first|rfl|(simp only [cleanV,Vl.z,aa,bsm] <;> rfl)|(exfalso; omega)
 have ad:(cleanV v).s=v.s:=by first|rfl|(simp only [cleanV,Vl.z,aa,bsm] <;> rfl)|(exfalso; omega)
 exact⟨Av,cv,Bv,dv,(by show Ending.returned (vv v Av cv Bv dv)=Ending.returned (vv (cleanV v) Av cv Bv dv); (first|rfl|(simp only [cleanV,Vl.z,aa,ac,ad,bsm] <;> rfl)|(exfalso; omega))),(by rw [ac]; exact (hmv.new_ ag)),(by rw [ad]; exact (hsv.new_ ag)),ag⟩
 have aT:=hB aB aa
 refine wf aT<| ws<| aH _ _<| wk fun bt aU=>?_
 refine wA [true,false] [(1,false)] 7 [ve (vv (Vl.mk 0 0 0 false [] [] 0) none 0 none 0),vt] ab ?_ ?_
 exact .Z<| .off .nil
 refine aftI ab am an fun bu bv bi aV aW aX ar=>?_
 have aD:=ar.f1 aA
 have bb:=ar.g 0 6
 have aY:=ap.new_ aX
 refine sS8 aD bb aY fun bd a1 aZ bj=>?_
 have a4:=aW.tR aZ
 refine aU _ _<| wp_ret (ret_k aV (v:=vv (Vl.mk 0 0 0 false [] [] 0) none 0 none 0) (res_c rfl aD (l_agg isAgg32 sizeOf32 a1 rfl)) ?_)
 exact rW (by first|rfl|(simp only [cleanV,Vl.z,aa,bsm] <;> rfl)|(exfalso; omega)) a4
theorem qnum_c (a:Nm) (w:World):Calls prog 40 #[nv a] w (IsRet (vv (Vl.mk 3 a.k a.n false [] [] 0) none 0 none 0) w):=by
 refine enter_abs func40 rfl fun a0 aa aA hp=>?_
 have aa:a0.tmps.size=5:=aa
 have ab:New w w:=Upd.refl _ _
 have hp0:a0.eval (.tmp 0)=nv a:=hp 0 _ rfl
 refine wk fun K1 aB=>?_
 refine wB tr2 [] [] 5 [IsNew w 23 [iv a.k,iv a.n],IsNew w 32 z7] [0,1] aa ?_ heN ?_
 exact .X hp0<| .Y .nil
 refine aftI aa aA ab fun a2 w3 ag aC ak aJ ac=>?_
 obtain⟨q9,h8,al,am⟩:=ac.G 0 1
 obtain⟨ah,ai,an,ao⟩:=ac.G 1 2
 have hne16:=ac.ne 0 1 1 2 h8 ai
 have aF:=Nat.le_trans ab.size al
 have aG:=Nat.le_trans ab.size an
 refine aB _ _ <| wk fun aK ap=>?_
 refine wA [true,true,false] [(2,false)] 5 [ve (nv a),ve (vv (Vl.mk 3 a.k a.n false [] [] 0) none 0 none 0),vt] ag ?_ ?_
 exact .L2 h8 am<| .T (fun k=>v_build (ps:=[(0,iv 3),(1,nv a)]) rfl (parts2 rfl (k.eq1 0 3 rfl)) (by kernel_rfl))<| .off .nil
 refine aftI ag aC ak fun aL aM aH aq ar au ad=>?_
 have aj:=ad.f1 ai
 have aD:=ad.g 1 4
 have av:=ao.new_ au
 refine sS8 aj aD av fun aE ax aw aI=>?_
 have az:=ar.tR aw
 refine ap _ _<| wp_ret (ret_k aq (v:=vv (Vl.mk 3 a.k a.n false [] [] 0) none 0 none 0) (res_c rfl aj (l_agg isAgg32 sizeOf32 ax rfl)) ?_)
 exact⟨rfl,az⟩
theorem few_c (v:Vl) (Av:Option Addr) (cv:Nat) (Bv:Option Addr) (dv:Nat) (w:World) (hmv:SRow w .u32 Av v.mag cv) (hsv:SRow w .u16 Bv v.s dv):Calls prog 5 #[vv v Av cv Bv dv] w (IsRet (.bool (decide ((v.s.length:Int)≤20000) && decide ((v.mag.length:Int)≤40))) w):=by
 refine enter_abs func5 rfl fun a0 aa ak hp=>?_
 have aa:a0.tmps.size=14:=aa
 have ac:New w w:=Upd.refl _ _
 have hp0:a0.eval (.tmp 0)=vv v Av cv Bv dv:=hp 0 _ rfl
 refine wk fun K1 al=>?_
 refine wB tr2 [] [] 14 [IsNew w 29 (c7 v Av cv Bv dv),vF] [0] aa ?_ heN ?_
 exact .X hp0<| .c .nil
 refine aftI aa ak ac fun a2 w3 ad am ae au an=>?_
 obtain⟨q9,h8,af,ab⟩:=an.G 0 1
 have ap:=Nat.le_trans ac.size af
 refine al _ _ <| wk fun av ag=>?_
 refine wA tr12 [] 14 [ve (.pointer (some ⟨q9,5,none⟩)),ve (sv Bv v.s dv),ve (iv (v.s.length:Int)),ve (.bool (decide ((v.s.length:Int)≤20000))),ve (.bool (decide ((v.s.length:Int)≤20000))),ve (gq (decide ((v.s.length:Int)≤20000)) (.pointer (some ⟨q9,3,none⟩))),ve (gq (decide ((v.s.length:Int)≤20000)) (.pointer (some ⟨q9,4,none⟩))),ve (gq (decide ((v.s.length:Int)≤20000)) (sv Av v.mag cv)),ve (gq (decide ((v.s.length:Int)≤20000)) (iv (v.mag.length:Int))),ve (gq (decide ((v.s.length:Int)≤20000)) (.bool (decide ((v.mag.length:Int)≤40)))),ve (.bool ((decide ((v.s.length:Int)≤20000)) && (decide ((v.mag.length:Int)≤40)))),ve (.bool ((decide ((v.s.length:Int)≤20000)) && (decide ((v.mag.length:Int)≤40))))] ad ?_ ?_
 exact .F h8<| .J 0 isAgg27 ab<| .T (fun k=>v_lenR rfl elU (k.eq1 1 4 rfl))<| .b 2 (r_leqK rfl)<| .N 3<| .Q (fun k=>g0 (k.eq1 4 7 rfl)) (fun hG n k=>v_field rfl (k.fx 1 h8) (fun w=>rfl))<| .Q (fun k=>g0 (k.eq1 4 7 rfl)) (fun hG n k=>v_field rfl (cT hG (k.eq1 5 8 rfl)) (fun w=>rfl))<| .Q (fun k=>g0 (k.eq1 4 7 rfl)) (fun hG n k=>v_load rfl (cT hG (k.eq1 6 9 rfl)) (l_one isAgg24 ((ab.new_ n).cell 4)))<| .Q (fun k=>g0 (k.eq1 4 7 rfl)) (fun hG n k=>v_lenR rfl elW (cT hG (k.eq1 7 10 rfl)))<| .Q (fun k=>g0 (k.eq1 4 7 rfl)) (fun hG n k=>v_bin rfl (cT hG (k.eq1 8 11 rfl)) rfl (fun _=>rfl) (r_leqK rfl))<| .O 4 9<| .B 10 .nil
 refine aftI ad am ae fun aw ax aq ah ai ar aj=>?_
 have ao:=aj.g 11 2
 refine ag _ _<| wp_ret (ret_k ah (v:=.bool ((decide ((v.s.length:Int)≤20000)) && (decide ((v.mag.length:Int)≤40)))) (res_t rfl ao _) ?_)
 refine ⟨?_,ai⟩
 show Ending.returned (.bool ((decide ((v.s.length:Int)≤20000)) && (decide ((v.mag.length:Int)≤40))))=Ending.returned (.bool (decide ((v.s.length:Int)≤20000) && decide ((v.mag.length:Int)≤40)))
 first|rfl|(simp only [bsm] <;> rfl)|(exfalso; omega)
theorem lplain_c (v:Vl) (Av:Option Addr) (cv:Nat) (Bv:Option Addr) (dv:Nat) (w:World) (hmv:SRow w .u32 Av v.mag cv) (hsv:SRow w .u16 Bv v.s dv):Calls prog 6 #[vv v Av cv Bv dv] w (IsRet (vv v Av cv Bv dv) w):=by
 refine enter_abs func6 rfl fun a0 ab aA hp=>?_
 have ab:a0.tmps.size=14:=ab
 have ac:New w w:=Upd.refl _ _
 have hp0:a0.eval (.tmp 0)=vv v Av cv Bv dv:=hp 0 _ rfl
 refine wk fun K1 aB=>?_
 refine wB tr2 [] [] 14 [IsNew w 29 (c7 v Av cv Bv dv),IsNew w 32 z7] [0,1] ab ?_ heN ?_
 exact .X hp0<| .Y .nil
 refine aftI ab aA ac fun a2 w3 ah aC al aJ ad=>?_
 obtain⟨q9,h8,am,aa⟩:=ad.G 0 1
 obtain⟨ai,aj,an,ao⟩:=ad.G 1 2
 have hne16:=ad.ne 0 1 1 2 h8 aj
 have aF:=Nat.le_trans ac.size am
 have aG:=Nat.le_trans ac.size an
 refine aB _ _ <| wk fun aK ap=>?_
 refine wA [true,true,true,true,true,true,true,true,true,true,true,false] [(11,false)] 14 [ve (pv q9),ve (iv v.k),ve (.pointer (some ⟨q9,1,none⟩)),ve (nv (Nm.mk v.nk v.nn)),ve (.pointer (some ⟨q9,3,none⟩)),ve (.agg #[.bool v.neg,sv Av v.mag cv]),ve (.pointer (some ⟨q9,5,none⟩)),ve (sv Bv v.s dv),ve (.pointer (some ⟨q9,6,none⟩)),ve (iv v.ref),ve (vv v Av cv Bv dv),vt] ah ?_ ?_
 exact .F h8<| .J 0 isAgg3 aa<| .F h8<| .K2 2 aa<| .F h8<| .K6 4 aa<| .F h8<| .J 6 isAgg27 aa<| .F h8<| .J 8 isAgg3 aa<| .T (fun k=>v_build (ps:=[(0,iv v.k),(1,nv (Nm.mk v.nk v.nn)),(2,.agg #[.bool v.neg,sv Av v.mag cv]),(3,sv Bv v.s dv),(4,iv v.ref)]) rfl (parts5 (k.eq1 1 4 rfl) (k.eq1 3 6 rfl) (k.eq1 5 8 rfl) (k.eq1 7 10 rfl) (k.eq1 9 12 rfl)) (by kernel_rfl))<| .off .nil
 refine aftI ah aC al fun aL aM aH aq ar au ae=>?_
 have ak:=ae.f1 aj
 have aD:=ae.g 10 13
 have av:=ao.new_ au
 refine sS8 ak aD av fun aE ax aw aI=>?_
 have az:=ar.tR aw
 refine ap _ _<| wp_ret (ret_k aq (v:=vv v Av cv Bv dv) (res_c rfl ak (l_agg isAgg32 sizeOf32 ax rfl)) ?_)
 exact⟨rfl,az⟩
theorem is_c (v:Vl) (Av:Option Addr) (cv:Nat) (Bv:Option Addr) (dv:Nat) (u:Vl) (Au:Option Addr) (cu:Nat) (Bu:Option Addr) (du:Nat) (w:World) (hmv:SRow w .u32 Av v.mag cv) (hsv:SRow w .u16 Bv v.s dv) (hmu:SRow w .u32 Au u.mag cu) (hsu:SRow w .u16 Bu u.s du):Calls prog 15 #[vv v Av cv Bv dv,vv u Au cu Bu du] w (IsRet (.bool (sameV v u)) w):=by
 refine enter_abs func15 rfl fun a0 ab an hp=>?_
 have ab:a0.tmps.size=9:=ab
 have ac:New w w:=Upd.refl _ _
 have hp0:a0.eval (.tmp 0)=vv v Av cv Bv dv:=hp 0 _ rfl
 have hp1:a0.eval (.tmp 1)=vv u Au cu Bu du:=hp 1 _ rfl
 refine wk fun K1 ao=>?_
 refine wB tr3 [] [] 9 [IsNew w 29 (c7 v Av cv Bv dv),IsNew w 32 (c7 u Au cu Bu du),vF] [0,1] ab ?_ heN ?_
 exact .X hp0<| .X hp1<| .c .nil
 refine aftI ab an ac fun a2 w3 ad ap aa ay ae=>?_
 obtain⟨q9,h8,af,ag⟩:=ae.G 0 2
 obtain⟨az,aq,ah,ai⟩:=ae.G 1 3
 have au:=Nat.le_trans ac.size af
 have av:=Nat.le_trans ac.size ah
 refine ao _ _ <| wk fun aA aj=>?_
 refine wA tr5 [] 9 [ve (vv v Av cv Bv dv),ve (vv v Av cv Bv dv),ve (vv u Au cu Bu du),ve (.bool (sameV v u)),ve (.bool (sameV v u))] ad ?_ ?_
 exact .L9 h8 ag<| .C 0 (fun n=>lplain_c v _ _ _ _ _ (hmv.new_ (aa.transNew n)) (hsv.new_ (aa.transNew n)))<| .L8 aq ai<| .C2 1 2 (fun n=>qsame_c v _ _ _ _ u _ _ _ _ _ (hmv.new_ (aa.transNew n)) (hsv.new_ (aa.transNew n)) (hmu.new_ (aa.transNew n)) (hsu.new_ (aa.transNew n)))<| .B 3 .nil
 refine aftI ad ap aa fun aB aC aw ak al ax am=>?_
 have ar:=am.g 4 4
 refine aj _ _<| wp_ret (ret_k ak (v:=.bool (sameV v u)) (res_t rfl ar _) ?_)
 exact⟨rfl,al⟩
theorem rblank_c (x:Nat) (w:World) (hx:x < 65536):Calls prog 89 #[.int .u16 (x:Int)] w (IsRet (.bool (blankN x)) w):=by
 refine enter_abs func89 rfl fun a0 aa ag hp=>?_
 have aa:a0.tmps.size=17:=aa
 have ah:New w w:=Upd.refl _ _
 have hp0:a0.eval (.tmp 0)=.int .u16 (x:Int):=hp 0 _ rfl
 refine wk fun K1 ai=>?_
 refine wA tr1 [] 17 [vF] aa ?_ ?_
 exact .c .nil
 refine aftI aa ag ah fun a2 w3 ab aj ak ap al=>?_
 have h8:=al.f1 hp0
 refine ai _ _ <| wk fun aq ac=>?_
 refine wA tr15 [] 17 [ve (.int .u16 (x:Int)),ve (.bool (decide ((x:Int)=32))),ve (.bool (decide ((x:Int)=32))),ve (gq (!(decide ((x:Int)=32))) (.int .u16 (x:Int))),ve (gq (!(decide ((x:Int)=32))) (.bool (decide ((x:Int)=9)))),ve (.bool ((decide ((x:Int)=32)) || (decide ((x:Int)=9)))),ve (.bool ((decide ((x:Int)=32)) || (decide ((x:Int)=9)))),ve (gq (!((decide ((x:Int)=32)) || (decide ((x:Int)=9)))) (.int .u16 (x:Int))),ve (gq (!((decide ((x:Int)=32)) || (decide ((x:Int)=9)))) (.bool (decide ((x:Int)=10)))),ve (.bool (((decide ((x:Int)=32)) || (decide ((x:Int)=9))) || (decide ((x:Int)=10)))),ve (.bool (((decide ((x:Int)=32)) || (decide ((x:Int)=9))) || (decide ((x:Int)=10)))),ve (gq (!(((decide ((x:Int)=32)) || (decide ((x:Int)=9))) || (decide ((x:Int)=10)))) (.int .u16 (x:Int))),ve (gq (!(((decide ((x:Int)=32)) || (decide ((x:Int)=9))) || (decide ((x:Int)=10)))) (.bool (decide ((x:Int)=13)))),ve (.bool ((((decide ((x:Int)=32)) || (decide ((x:Int)=9))) || (decide ((x:Int)=10))) || (decide ((x:Int)=13)))),ve (.bool ((((decide ((x:Int)=32)) || (decide ((x:Int)=9))) || (decide ((x:Int)=10))) || (decide ((x:Int)=13))))] ab ?_ ?_
 exact .M h8<| .b 0 (r_eql rfl)<| .N 1<| .Q (fun k=>g0' (k.eq1 2 5 rfl)) (fun hG n k=>v_move rfl (k.fx 0 h8))<| .Q (fun k=>g0' (k.eq1 2 5 rfl)) (fun hG n k=>v_bin rfl (cT hG (k.eq1 3 6 rfl)) rfl (fun _=>rfl) (r_eql rfl))<| .W 2 4<| .N 5<| .Q (fun k=>g0' (k.eq1 6 9 rfl)) (fun hG n k=>v_move rfl (k.fx 0 h8))<| .Q (fun k=>g0' (k.eq1 6 9 rfl)) (fun hG n k=>v_bin rfl (cT hG (k.eq1 7 10 rfl)) rfl (fun _=>rfl) (r_eql rfl))<| .W 6 8<| .N 9<| .Q (fun k=>g0' (k.eq1 10 13 rfl)) (fun hG n k=>v_move rfl (k.fx 0 h8))<| .Q (fun k=>g0' (k.eq1 10 13 rfl)) (fun hG n k=>v_bin rfl (cT hG (k.eq1 11 14 rfl)) rfl (fun _=>rfl) (r_eql rfl))<| .W 10 12<| .B 13 .nil
 refine aftI ab aj ak fun ar au an ad ae ao af=>?_
 have am:=af.g 14 2
 refine ac _ _<| wp_ret (ret_k ad (v:=.bool ((((decide ((x:Int)=32)) || (decide ((x:Int)=9))) || (decide ((x:Int)=10))) || (decide ((x:Int)=13)))) (res_t rfl am _) ?_)
 refine ⟨?_,ae⟩
 show Ending.returned (.bool ((((decide ((x:Int)=32)) || (decide ((x:Int)=9))) || (decide ((x:Int)=10))) || (decide ((x:Int)=13))))=Ending.returned (.bool (blankN x))
 first|rfl|(simp only [blankN,bsm] <;> rfl)|(exfalso; omega)
theorem rdigit_c (x:Nat) (w:World) (hx:x < 65536):Calls prog 118 #[.int .u16 (x:Int)] w (IsRet (.bool (dgtN x)) w):=by
 refine enter_abs func118 rfl fun a0 aa ag hp=>?_
 have aa:a0.tmps.size=9:=aa
 have ah:New w w:=Upd.refl _ _
 have hp0:a0.eval (.tmp 0)=.int .u16 (x:Int):=hp 0 _ rfl
 refine wk fun K1 ai=>?_
 refine wA tr1 [] 9 [vF] aa ?_ ?_
 exact .c .nil
 refine aftI aa ag ah fun a2 w3 ab aj ak ap al=>?_
 have h8:=al.f1 hp0
 refine ai _ _ <| wk fun aq ac=>?_
 refine wA tr7 [] 9 [ve (.int .u16 (x:Int)),ve (.bool (!decide ((x:Int) < 48))),ve (.bool (!decide ((x:Int) < 48))),ve (gq (!decide ((x:Int) < 48)) (.int .u16 (x:Int))),ve (gq (!decide ((x:Int) < 48)) (.bool (decide ((x:Int)≤57)))),ve (.bool ((!decide ((x:Int) < 48)) && (decide ((x:Int)≤57)))),ve (.bool ((!decide ((x:Int) < 48)) && (decide ((x:Int)≤57))))] ab ?_ ?_
 exact .M h8<| .b 0 (r_geqK rfl)<| .N 1<| .Q (fun k=>g0 (k.eq1 2 5 rfl)) (fun hG n k=>v_move rfl (k.fx 0 h8))<| .Q (fun k=>g0 (k.eq1 2 5 rfl)) (fun hG n k=>v_bin rfl (cT hG (k.eq1 3 6 rfl)) rfl (fun _=>rfl) (r_leqK rfl))<| .O 2 4<| .B 5 .nil
 refine aftI ab aj ak fun ar au an ad ae ao af=>?_
 have am:=af.g 6 2
 refine ac _ _<| wp_ret (ret_k ad (v:=.bool ((!decide ((x:Int) < 48)) && (decide ((x:Int)≤57)))) (res_t rfl am _) ?_)
 refine ⟨?_,ae⟩
 show Ending.returned (.bool ((!decide ((x:Int) < 48)) && (decide ((x:Int)≤57))))=Ending.returned (.bool (dgtN x))
 first|rfl|(simp only [dgtN,bsm] <;> rfl)|(exfalso; omega)
def rtrim_c_P (Au:Option Addr) (u:List Nat) (cu:Nat) (w:World) (en:Ending) (w':World):Prop:=∃ (Ar0:Option Addr) (cr0:Nat),en=.returned (sv Ar0 (trimN u) cr0)∧SRow w' .u16 Ar0 (trimN u) cr0∧New w w'
theorem rtrim_c (Au:Option Addr) (u:List Nat) (cu:Nat) (w:World) (hru:SRow w .u16 Au u cu) (hu:U16s u):Calls prog 45 #[sv Au u cu] w (rtrim_c_P Au u cu w):=by
 refine enter_abs func45 rfl fun a0 aZ db hp=>?_
 have aZ:a0.tmps.size=36:=aZ
 have dc:New w w:=Upd.refl _ _
 have hp0:a0.eval (.tmp 0)=sv Au u cu:=hp 0 _ rfl
 have hmx:=hru.max
 refine wk fun K1 dd=>?_
 refine wA tr1 [] 36 [ve (sv none ([]) 0)] aZ ?_ ?_
 exact .c .nil
 refine aftI aZ db dc fun a2 w3 ci de df eY dg=>?_
 have h8:=dg.f1 hp0
 refine dd _ _ <| wk fun eZ cp=>?_
 refine wA tr4 [] 36 [ve (sv Au u cu),ve (iv (u.length:Int)),ve (iv 0),ve (iv (u.length:Int))] ci ?_ ?_
 exact .M h8<| .T (fun k=>v_lenR rfl elU (k.eq1 0 5 rfl))<| .c<| .B 1 .nil
 refine aftI ci de df fun e0 e1 cq cr cs et aP=>?_
 have dh:=aP.f1 h8
 have di:=aP.g 2 3
 have dj:=aP.g 3 4
 refine cp _ _ <| wk fun e2 be=>?_
 refine wb<| wp_loopX (fun (mm:Nat) (aa:Act) (ww:World)=>∃ (i:Nat),mm=u.length - i∧aa.tmps.size=36∧aa.defers=[]∧New w ww∧aa.eval (.tmp 3)=iv (i:Int)∧aa.eval (.tmp 0)=sv Au u cu∧aa.eval (.tmp 4)=iv (u.length:Int)∧(i≤u.length)∧((u.drop i).dropWhile blankN=u.dropWhile blankN)) (fun mm=>mm) ⟨_,⟨0,rfl,cq,cr,cs,di,dh,dj,(Nat.zero_le _),(by rw [List.drop_zero])⟩⟩ ?_
 rintro mm e3 e4 ⟨i,hmm,aD,bf,aQ,aM,bg,a1,hi,hcd⟩
 refine wk fun e5 ct=>wk fun e6 bh=>?_
 rcases bc (decide ((i:Int) < (u.length:Int))) with av|av
 have bF:=oT av
 have hb:=hu.at16 i
 refine wp_g0 (.replicate 10 true) [] 36
  [ve (iv (i:Int)),ve (iv (u.length:Int)),vT,vT,ve (sv Au u cu),ve (iv (i:Int)),
  (EP (.int .u16 ((u.getD i 0:Nat):Int))),ve (.int .u16 ((u.getD i 0:Nat):Int)),ve (.bool (blankN (u.getD i 0))),ve (.bool (blankN (u.getD i 0)))] aD (.eq (.eq (.eq (.eq (.eq (.eq (.cons (fun _ _ _ n ⟨_,_,e,h⟩=>⟨_,_,e,h.new_ n⟩) (.eq (.eq (.eq .nil)))))))))) ?_ ?_
 refine .M aM<| .M a1<| .T (fun k=>v_bin rfl (k.eq1 0 7 rfl) (k.eq1 1 8 rfl) (fun _=>rfl) (r_lssK av))<| .N 2<| .gm (fun k=>k.eq1 3 10 rfl) (fun k=>k.fx 0 bg)<| .gm (fun k=>k.eq1 3 10 rfl) (fun k=>k.fx 3 aM) ?_
 refine .o1 (tg rfl rfl rfl (fun _ _ k=>k.eq1 3 10 rfl) fun _ w hn k=>(by
  exact x_eaddr (k:=.u16) rfl elU (k.eq1 4 11 rfl) (k.eq1 5 12 rfl) (hru.new_ (aQ.transNew hn)) (by omega) fun b1 o2 hme=>⟨b1,o2,rfl,hme⟩)) ?_
 refine .o1 (tg rfl rfl rfl (fun _ _ k=>k.eq1 3 10 rfl) fun _ w hn k=>(by
  obtain⟨b5,o6,e7,dk⟩:=k.G 6 13
  exact⟨_,v_load rfl e7 (l_one isAgg79 dk.1),rfl⟩)) ?_
 exact .o1 (cg rfl rfl rfl (fun _ _ k=>k.eq1 3 10 rfl) rfl (fun _ w hn k=>⟨#[.int .u16 ((u.getD i 0:Nat):Int)],args1 (k.eq1 7 14 rfl),fun _=>by kernel_rfl,rblank_c (u.getD i 0) _ (by omega)⟩) fun _=>rfl)<| .T (fun k=>v_pickT rfl (k.eq1 3 10 rfl) (k.eq1 8 15 rfl)) .nil
 refine aftI aD bf aQ fun e8 e9 aR bi bj eu aE=>?_
 have⟨bk,cj,cl⟩:=aE.f3 aM bg a1
 have cm:=aE.g 9 16
 refine bh _ _ ?_
 rcases bc (blankN (u.getD i 0)) with aw|aw
 have cv:=hB cm aw
 refine wt cv<| ws<| ct _ _<| wb<| wp_g0 [true,true,false] [(2,true)] 36
  [ve (iv (i:Int)),ve (iv ((i + 1:Nat):Int)),vt] aR (.eq (.eq (.tt .nil))) ?_ ?_
 exact .M bk<| .R (fun k=>v_bin rfl (k.eq1 0 17 rfl) rfl (fun _=>rfl) (n_add (by omega) (IntWalk.i64_in _ (by omega)))) (fun _=>rfl)<| .off .nil
 refine aftI aR bi bj fun cn fa bl cw cx ev aF=>?_
 have⟨fb,dl,dm⟩:=aF.f3 bk cj cl
 have co:=aF.g 1 18
 refine sP co bl cw fun dn cy cz ad dr=>?_
 have⟨dp,dq,fc⟩:=ad.q3 dl dm co
 refine st_nil ?_
 refine blk_n ?_
 refine then_n ?_
 exact⟨_,⟨i + 1,rfl,cy,cz,cx,(dr.trans (congrArg (Value.int .i64) (by omega))),dp,dq,(by omega),((tr_up (by omega) aw).trans hcd)⟩,(by omega)⟩
 have cA:=hB cm aw
 refine wf cA<| wp_exit ?_
 refine be _ _<| wk fun fd bm=>wb ?_
 refine wp_loopX (fun (mm:Nat) (aa:Act) (ww:World)=>∃ (jj:Nat),mm=jj∧aa.tmps.size=36∧aa.defers=[]∧New w ww∧aa.eval (.tmp 4)=iv (jj:Int)∧aa.eval (.tmp 0)=sv Au u cu∧aa.eval (.tmp 3)=iv (i:Int)∧(i≤jj)∧(jj≤u.length)∧(rtrimN ((u.take jj).drop i)=trimN u)) (fun mm=>mm) ⟨_,⟨u.length,rfl,aR,bi,bj,cl,cj,bk,(by omega),(Nat.le_refl _),(by rw [List.take_length]; exact tr_mid hcd (Or.inr ⟨by omega,aw⟩))⟩⟩ ?_
 rintro mm fe ff ⟨jj,hmm,aG,bn,aS,aN,bo,a3,hij,hjl,hc2⟩
 refine wk fun fg cB=>wk fun fh bp=>?_
 rcases bc (decide ((jj:Int)≤(i:Int))) with ax|ax
 have bG:=oT ax
 have hb:=hu.at16 ((jj:Int) - 1).toNat
 refine wA tr11 [] 36 [ve (iv (jj:Int)),ve (iv (i:Int)),vF,vF,vU,vU,vU,vU,vU,vU,vF] aG ?_ ?_
 exact .M aN<| .M a3<| .T (fun k=>v_bin rfl (k.eq1 0 19 rfl) (k.eq1 1 20 rfl) (fun _=>rfl) (r_gtrK ax))<| .N 2<| .S<| .S<| .S<| .S<| .S<| .S<| .T (fun k=>v_pickF rfl (k.eq1 3 22 rfl) rfl) .nil
 refine aftI aG bn aS fun fi fj bq cC br ew aH=>?_
 have⟨ds,dt,du⟩:=aH.f3 aN bo a3
 have dv:=aH.g 10 29
 refine bp _ _<| wf dv<| wp_exit ?_
 refine bm _ _<| wk fun fk cD=>?_
 refine wp_g0 [true,true,true,true,true] [] 36
  [ve (sv Au u cu),ve (iv (i:Int)),ve (iv (jj:Int)),
  (RP .u16 ((u.take jj).drop i)),
  (RP .u16 ((u.take jj).drop i))] bq (.eq (.eq (.eq (.cons (fun _ _ _ n ⟨_,_,e,h⟩=>⟨_,_,e,h.new_ n⟩) (.cons (fun _ _ _ n ⟨_,_,e,h⟩=>⟨_,_,e,h.new_ n⟩) .nil))))) ?_ ?_
 refine .M dt<| .M du<| .M ds ?_
 refine .o1 (tk rfl rfl fun _ w hn k=>(by
  exact x_cutLH (k:=.u16) rfl elU (k.eq1 0 32 rfl) (k.eq1 1 33 rfl) (k.eq1 2 34 rfl) (hru.new_ (br.transNew hn)) (by omega) fun A9 dA hmr=>⟨A9,dA,rfl,hmr⟩)) ?_
 refine .o1 (tk rfl rfl fun _ w hn k=>(by
  obtain⟨dB,dC,dD,cE⟩:=k.G 3 35
  exact⟨_,v_assign rfl dD,⟨dB,dC,rfl,cE⟩⟩)) ?_
 exact .nil
 refine aftI bq cC br fun dE fl ex cF bH ey cG=>?_
 obtain⟨aO,ay,bs,cH⟩:=cG.G 4 2
 have bs:dE.eval (.tmp 2)=sv aO ((u.take jj).drop i) ay:=bs
 refine cD _ _<| wp_ret (ret_k cF (v:=sv aO ((u.take jj).drop i) ay) (res_t rfl bs _) ?_)
 have hsp:((u.take jj).drop i)=trimN u:=tr_end hjl hc2 (Or.inl (by omega))
 exact⟨aO,ay,congrArg (fun l=>Ending.returned (sv aO l ay)) hsp,Eq.mp (congrArg (fun l=>SRow _ _ aO l ay) hsp) cH,bH⟩
 have bG:=oF ax
 have hb:=hu.at16 ((jj:Int) - 1).toNat
 refine wp_g0 (.replicate 11 true) [] 36
  [ve (iv (jj:Int)),ve (iv (i:Int)),vT,vT,ve (sv Au u cu),ve (iv (jj:Int)),ve (iv ((jj:Int) - 1)),
  (EP (.int .u16 ((u.getD (((jj:Int) - 1:Int).toNat) 0:Nat):Int))),ve (.int .u16 ((u.getD (((jj:Int) - 1:Int).toNat) 0:Nat):Int)),ve (.bool (blankN (u.getD (((jj:Int) - 1:Int).toNat) 0))),ve (.bool (blankN (u.getD (((jj:Int) - 1:Int).toNat) 0)))] aG (.eq (.eq (.eq (.eq (.eq (.eq (.eq (.cons (fun _ _ _ n ⟨_,_,e,h⟩=>⟨_,_,e,h.new_ n⟩) (.eq (.eq (.eq .nil))))))))))) ?_ ?_
 refine .M aN<| .M a3<| .T (fun k=>v_bin rfl (k.eq1 0 19 rfl) (k.eq1 1 20 rfl) (fun _=>rfl) (r_gtrK ax))<| .N 2<| .gm (fun k=>k.eq1 3 22 rfl) (fun k=>k.fx 0 bo)<| .gm (fun k=>k.eq1 3 22 rfl) (fun k=>k.fx 4 aN)<| .V (fun p k=>v_bin rfl (k.eq1 5 24 rfl) rfl (fun _=>rfl) (r_sub rfl (by omega))) ?_
 refine .o1 (tg rfl rfl rfl (fun _ _ k=>k.eq1 3 22 rfl) fun _ w hn k=>(by
  exact x_eaddr (k:=.u16) rfl elU (k.eq1 4 23 rfl) (k.eq1 6 25 rfl) (hru.new_ (aS.transNew hn)) (by omega) fun dH dI hme=>⟨dH,dI,rfl,hme⟩)) ?_
 refine .o1 (tg rfl rfl rfl (fun _ _ k=>k.eq1 3 22 rfl) fun _ w hn k=>(by
  obtain⟨fm,fn,dJ,cI⟩:=k.G 7 26
  exact⟨_,v_load rfl dJ (l_one isAgg79 cI.1),rfl⟩)) ?_
 exact .o1 (cg rfl rfl rfl (fun _ _ k=>k.eq1 3 22 rfl) rfl (fun _ w hn k=>⟨#[.int .u16 ((u.getD (((jj:Int) - 1:Int).toNat) 0:Nat):Int)],args1 (k.eq1 8 27 rfl),fun _=>by kernel_rfl,rblank_c (u.getD (((jj:Int) - 1:Int).toNat) 0) _ (by omega)⟩) fun _=>rfl)<| .T (fun k=>v_pickT rfl (k.eq1 3 22 rfl) (k.eq1 9 28 rfl)) .nil
 refine aftI aG bn aS fun ez eA ak a4 aI eg al=>?_
 have⟨aT,bt,bu⟩:=al.f3 aN bo a3
 have bv:=al.g 10 29
 refine bp _ _ ?_
 rcases bc (blankN (u.getD (((jj:Int) - 1:Int).toNat) 0)) with ae|ae
 have bI:=hB bv ae
 refine wt bI<| ws<| cB _ _<| wb<| wp_g0 [true,true,false] [(2,true)] 36
  [ve (iv (jj:Int)),ve (iv ((jj:Int) - 1)),vt] ak (.eq (.eq (.tt .nil))) ?_ ?_
 exact .M aT<| .R (fun k=>v_bin rfl (k.eq1 0 30 rfl) rfl (fun _=>rfl) (r_sub rfl (by omega))) (fun _=>rfl)<| .off .nil
 refine aftI ak a4 aI fun bw eB a5 bJ bK eh am=>?_
 have⟨eC,cJ,cK⟩:=am.f3 aT bt bu
 have bx:=am.g 1 31
 refine sP bx a5 bJ fun cL bL bM ab cO=>?_
 have⟨cM,cN,eD⟩:=ab.q3 cJ cK bx
 refine st_nil ?_
 refine blk_n ?_
 refine then_n ?_
 exact⟨_,⟨jj - 1,rfl,bL,bM,bK,(cO.trans (congrArg (Value.int .i64) (by omega))),cM,cN,(by omega),(by omega),((tr_dn (by omega) hjl ae).trans hc2)⟩,(by omega)⟩
 have bN:=hB bv ae
 refine wf bN<| wp_exit ?_
 refine bm _ _<| wk fun eE bO=>?_
 refine wp_g0 [true,true,true,true,true] [] 36
  [ve (sv Au u cu),ve (iv (i:Int)),ve (iv (jj:Int)),
  (RP .u16 ((u.take jj).drop i)),
  (RP .u16 ((u.take jj).drop i))] ak (.eq (.eq (.eq (.cons (fun _ _ _ n ⟨_,_,e,h⟩=>⟨_,_,e,h.new_ n⟩) (.cons (fun _ _ _ n ⟨_,_,e,h⟩=>⟨_,_,e,h.new_ n⟩) .nil))))) ?_ ?_
 refine .M bt<| .M bu<| .M aT ?_
 refine .o1 (tk rfl rfl fun _ w hn k=>(by
  exact x_cutLH (k:=.u16) rfl elU (k.eq1 0 32 rfl) (k.eq1 1 33 rfl) (k.eq1 2 34 rfl) (hru.new_ (aI.transNew hn)) (by omega) fun dO dP hmr=>⟨dO,dP,rfl,hmr⟩)) ?_
 refine .o1 (tk rfl rfl fun _ w hn k=>(by
  obtain⟨dQ,dR,dS,cP⟩:=k.G 3 35
  exact⟨_,v_assign rfl dS,⟨dQ,dR,rfl,cP⟩⟩)) ?_
 exact .nil
 refine aftI ak a4 aI fun cQ eF ei bP bQ ej bR=>?_
 obtain⟨az,af,aU,bS⟩:=bR.G 4 2
 have aU:cQ.eval (.tmp 2)=sv az ((u.take jj).drop i) af:=aU
 refine bO _ _<| wp_ret (ret_k bP (v:=sv az ((u.take jj).drop i) af) (res_t rfl aU _) ?_)
 have hsp:((u.take jj).drop i)=trimN u:=tr_end hjl hc2 (Or.inr ⟨by omega,ae⟩)
 exact⟨az,af,congrArg (fun l=>Ending.returned (sv az l af)) hsp,Eq.mp (congrArg (fun l=>SRow _ _ az l af) hsp) bS,bQ⟩
 have bF:=oF av
 have hb:=hu.at16 i
 refine wA tr10 [] 36 [ve (iv (i:Int)),ve (iv (u.length:Int)),vF,vF,vU,vU,vU,vU,vU,vF] aD ?_ ?_
 exact .M aM<| .M a1<| .T (fun k=>v_bin rfl (k.eq1 0 7 rfl) (k.eq1 1 8 rfl) (fun _=>rfl) (r_lssK av))<| .N 2<| .S<| .S<| .S<| .S<| .S<| .T (fun k=>v_pickF rfl (k.eq1 3 10 rfl) rfl) .nil
 refine aftI aD bf aQ fun eG eH bT bU bV ek an=>?_
 have⟨cR,cS,cT⟩:=an.f3 aM bg a1
 have cU:=an.g 9 16
 refine bh _ _<| wf cU<| wp_exit ?_
 refine be _ _<| wk fun eI a6=>wb ?_
 refine wp_loopX (fun (mm:Nat) (aa:Act) (ww:World)=>∃ (jj:Nat),mm=jj∧aa.tmps.size=36∧aa.defers=[]∧New w ww∧aa.eval (.tmp 4)=iv (jj:Int)∧aa.eval (.tmp 0)=sv Au u cu∧aa.eval (.tmp 3)=iv (i:Int)∧(i≤jj)∧(jj≤u.length)∧(rtrimN ((u.take jj).drop i)=trimN u)) (fun mm=>mm) ⟨_,⟨u.length,rfl,bT,bU,bV,cT,cS,cR,(by omega),(Nat.le_refl _),(by rw [List.take_length]; exact tr_mid hcd (Or.inl (by omega)))⟩⟩ ?_
 rintro mm eJ eK ⟨jj,hmm,ao,a7,aJ,aA,aV,aK,hij,hjl,hc2⟩
 refine wk fun eL bW=>wk fun eM a8=>?_
 rcases bc (decide ((jj:Int)≤(i:Int))) with ag|ag
 have bz:=oT ag
 have hb:=hu.at16 ((jj:Int) - 1).toNat
 refine wA tr11 [] 36 [ve (iv (jj:Int)),ve (iv (i:Int)),vF,vF,vU,vU,vU,vU,vU,vU,vF] ao ?_ ?_
 exact .M aA<| .M aK<| .T (fun k=>v_bin rfl (k.eq1 0 19 rfl) (k.eq1 1 20 rfl) (fun _=>rfl) (r_gtrK ag))<| .N 2<| .S<| .S<| .S<| .S<| .S<| .S<| .T (fun k=>v_pickF rfl (k.eq1 3 22 rfl) rfl) .nil
 refine aftI ao a7 aJ fun eN eO a9 bX ba el ap=>?_
 have⟨cV,cW,cX⟩:=ap.f3 aA aV aK
 have cY:=ap.g 10 29
 refine a8 _ _<| wf cY<| wp_exit ?_
 refine a6 _ _<| wk fun eP bY=>?_
 refine wp_g0 [true,true,true,true,true] [] 36
  [ve (sv Au u cu),ve (iv (i:Int)),ve (iv (jj:Int)),
  (RP .u16 ((u.take jj).drop i)),
  (RP .u16 ((u.take jj).drop i))] a9 (.eq (.eq (.eq (.cons (fun _ _ _ n ⟨_,_,e,h⟩=>⟨_,_,e,h.new_ n⟩) (.cons (fun _ _ _ n ⟨_,_,e,h⟩=>⟨_,_,e,h.new_ n⟩) .nil))))) ?_ ?_
 refine .M cW<| .M cX<| .M cV ?_
 refine .o1 (tk rfl rfl fun _ w hn k=>(by
  exact x_cutLH (k:=.u16) rfl elU (k.eq1 0 32 rfl) (k.eq1 1 33 rfl) (k.eq1 2 34 rfl) (hru.new_ (ba.transNew hn)) (by omega) fun dX dY hmr=>⟨dX,dY,rfl,hmr⟩)) ?_
 refine .o1 (tk rfl rfl fun _ w hn k=>(by
  obtain⟨dZ,d0,d1,cZ⟩:=k.G 3 35
  exact⟨_,v_assign rfl d1,⟨dZ,d0,rfl,cZ⟩⟩)) ?_
 exact .nil
 refine aftI a9 bX ba fun c0 eQ em bZ b0 en b2=>?_
 obtain⟨aB,ah,aW,b4⟩:=b2.G 4 2
 have aW:c0.eval (.tmp 2)=sv aB ((u.take jj).drop i) ah:=aW
 refine bY _ _<| wp_ret (ret_k bZ (v:=sv aB ((u.take jj).drop i) ah) (res_t rfl aW _) ?_)
 have hsp:((u.take jj).drop i)=trimN u:=tr_end hjl hc2 (Or.inl (by omega))
 exact⟨aB,ah,congrArg (fun l=>Ending.returned (sv aB l ah)) hsp,Eq.mp (congrArg (fun l=>SRow _ _ aB l ah) hsp) b4,b0⟩
 have bz:=oF ag
 have hb:=hu.at16 ((jj:Int) - 1).toNat
 refine wp_g0 (.replicate 11 true) [] 36
  [ve (iv (jj:Int)),ve (iv (i:Int)),vT,vT,ve (sv Au u cu),ve (iv (jj:Int)),ve (iv ((jj:Int) - 1)),
  (EP (.int .u16 ((u.getD (((jj:Int) - 1:Int).toNat) 0:Nat):Int))),ve (.int .u16 ((u.getD (((jj:Int) - 1:Int).toNat) 0:Nat):Int)),ve (.bool (blankN (u.getD (((jj:Int) - 1:Int).toNat) 0))),ve (.bool (blankN (u.getD (((jj:Int) - 1:Int).toNat) 0)))] ao (.eq (.eq (.eq (.eq (.eq (.eq (.eq (.cons (fun _ _ _ n ⟨_,_,e,h⟩=>⟨_,_,e,h.new_ n⟩) (.eq (.eq (.eq .nil))))))))))) ?_ ?_
 refine .M aA<| .M aK<| .T (fun k=>v_bin rfl (k.eq1 0 19 rfl) (k.eq1 1 20 rfl) (fun _=>rfl) (r_gtrK ag))<| .N 2<| .gm (fun k=>k.eq1 3 22 rfl) (fun k=>k.fx 0 aV)<| .gm (fun k=>k.eq1 3 22 rfl) (fun k=>k.fx 4 aA)<| .V (fun p k=>v_bin rfl (k.eq1 5 24 rfl) rfl (fun _=>rfl) (r_sub rfl (by omega))) ?_
 refine .o1 (tg rfl rfl rfl (fun _ _ k=>k.eq1 3 22 rfl) fun _ w hn k=>(by
  exact x_eaddr (k:=.u16) rfl elU (k.eq1 4 23 rfl) (k.eq1 6 25 rfl) (hru.new_ (aJ.transNew hn)) (by omega) fun d4 d5 hme=>⟨d4,d5,rfl,hme⟩)) ?_
 refine .o1 (tg rfl rfl rfl (fun _ _ k=>k.eq1 3 22 rfl) fun _ w hn k=>(by
  obtain⟨fo,fp,d6,c1⟩:=k.G 7 26
  exact⟨_,v_load rfl d6 (l_one isAgg79 c1.1),rfl⟩)) ?_
 exact .o1 (cg rfl rfl rfl (fun _ _ k=>k.eq1 3 22 rfl) rfl (fun _ w hn k=>⟨#[.int .u16 ((u.getD (((jj:Int) - 1:Int).toNat) 0:Nat):Int)],args1 (k.eq1 8 27 rfl),fun _=>by kernel_rfl,rblank_c (u.getD (((jj:Int) - 1:Int).toNat) 0) _ (by omega)⟩) fun _=>rfl)<| .T (fun k=>v_pickT rfl (k.eq1 3 22 rfl) (k.eq1 9 28 rfl)) .nil
 refine aftI ao a7 aJ fun eR eS aq bb aL eo ar=>?_
 have⟨aX,bA,bB⟩:=ar.f3 aA aV aK
 have bC:=ar.g 10 29
 refine a8 _ _ ?_
 rcases bc (blankN (u.getD (((jj:Int) - 1:Int).toNat) 0)) with ai|ai
 have b6:=hB bC ai
 refine wt b6<| ws<| bW _ _<| wb<| wp_g0 [true,true,false] [(2,true)] 36
  [ve (iv (jj:Int)),ve (iv ((jj:Int) - 1)),vt] aq (.eq (.eq (.tt .nil))) ?_ ?_
 exact .M aX<| .R (fun k=>v_bin rfl (k.eq1 0 30 rfl) rfl (fun _=>rfl) (r_sub rfl (by omega))) (fun _=>rfl)<| .off .nil
 refine aftI aq bb aL fun bD eT bd b7 b8 ep au=>?_
 have⟨eU,c2,c3⟩:=au.f3 aX bA bB
 have bE:=au.g 1 31
 refine sP bE bd b7 fun c4 b9 ca ac c8=>?_
 have⟨c5,c6,eV⟩:=ac.q3 c2 c3 bE
 refine st_nil ?_
 refine blk_n ?_
 refine then_n ?_
 exact⟨_,⟨jj - 1,rfl,b9,ca,b8,(c8.trans (congrArg (Value.int .i64) (by omega))),c5,c6,(by omega),(by omega),((tr_dn (by omega) hjl ai).trans hc2)⟩,(by omega)⟩
 have cb:=hB bC ai
 refine wf cb<| wp_exit ?_
 refine a6 _ _<| wk fun eW cc=>?_
 refine wp_g0 [true,true,true,true,true] [] 36
  [ve (sv Au u cu),ve (iv (i:Int)),ve (iv (jj:Int)),
  (RP .u16 ((u.take jj).drop i)),
  (RP .u16 ((u.take jj).drop i))] aq (.eq (.eq (.eq (.cons (fun _ _ _ n ⟨_,_,e,h⟩=>⟨_,_,e,h.new_ n⟩) (.cons (fun _ _ _ n ⟨_,_,e,h⟩=>⟨_,_,e,h.new_ n⟩) .nil))))) ?_ ?_
 refine .M bA<| .M bB<| .M aX ?_
 refine .o1 (tk rfl rfl fun _ w hn k=>(by
  exact x_cutLH (k:=.u16) rfl elU (k.eq1 0 32 rfl) (k.eq1 1 33 rfl) (k.eq1 2 34 rfl) (hru.new_ (aL.transNew hn)) (by omega) fun eb ec hmr=>⟨eb,ec,rfl,hmr⟩)) ?_
 refine .o1 (tk rfl rfl fun _ w hn k=>(by
  obtain⟨ed,ee,ef,c9⟩:=k.G 3 35
  exact⟨_,v_assign rfl ef,⟨ed,ee,rfl,c9⟩⟩)) ?_
 exact .nil
 refine aftI aq bb aL fun da eX er cd ce es cf=>?_
 obtain⟨aC,aj,aY,ch⟩:=cf.G 4 2
 have aY:da.eval (.tmp 2)=sv aC ((u.take jj).drop i) aj:=aY
 refine cc _ _<| wp_ret (ret_k cd (v:=sv aC ((u.take jj).drop i) aj) (res_t rfl aY _) ?_)
 have hsp:((u.take jj).drop i)=trimN u:=tr_end hjl hc2 (Or.inr ⟨by omega,ai⟩)
 exact⟨aC,aj,congrArg (fun l=>Ending.returned (sv aC l aj)) hsp,Eq.mp (congrArg (fun l=>SRow _ _ aC l aj) hsp) ch,ce⟩
theorem rdigits_c (Au:Option Addr) (u:List Nat) (cu:Nat) (w:World) (hru:SRow w .u16 Au u cu) (hu:U16s u):Calls prog 73 #[sv Au u cu] w (IsRet (.bool (digitsT u)) w):=by
 refine enter_abs func73 rfl fun a0 an bi hp=>?_
 have an:a0.tmps.size=19:=an
 have bj:New w w:=Upd.refl _ _
 have hp0:a0.eval (.tmp 0)=sv Au u cu:=hp 0 _ rfl
 have hmx:=hru.max
 refine wk fun K1 bk=>?_
 refine wA tr1 [] 19 [vF] an ?_ ?_
 exact .c .nil
 refine aftI an bi bj fun a2 w3 aE bl bm bV bn=>?_
 have h8:=bn.f1 hp0
 refine bk _ _ <| wk fun bW aL=>?_
 refine wk fun bX aM=>?_
 refine wA tr1 [] 19 [ve (iv 0)] aE ?_ ?_
 exact .c .nil
 refine aftI aE bl bm fun bY bZ aN aO aP bK ap=>?_
 have bo:=ap.f1 h8
 have bp:=ap.g 0 3
 refine aM _ _<| wb<| wp_loopX (fun (mm:Nat) (aa:Act) (ww:World)=>∃ (i:Nat),mm=u.length - i∧aa.tmps.size=19∧aa.defers=[]∧New w ww∧aa.eval (.tmp 3)=iv (i:Int)∧aa.eval (.tmp 0)=sv Au u cu∧(i≤u.length)∧(∀ j,j < i→(fun y:Nat=>!dgtN y) (u.getD j 0)=false)) (fun mm=>mm) ⟨_,⟨0,rfl,aN,aO,aP,bp,bo,(Nat.zero_le _),(fun j h=>absurd h (Nat.not_lt_zero _))⟩⟩ ?_
 rintro mm b0 b1 ⟨i,hmm,aq,aQ,aR,aF,aG,hi,hno⟩
 refine wk fun b2 aS=>wk fun b3 aT=>?_
 refine wA tr4 [] 19 [ve (iv (i:Int)),ve (sv Au u cu),ve (iv (u.length:Int)),ve (.bool (decide ((i:Int) < (u.length:Int))))] aq ?_ ?_
 exact .M aF<| .M aG<| .T (fun k=>v_lenR rfl elU (k.eq1 1 5 rfl))<| .T (fun k=>v_bin rfl (k.eq1 0 4 rfl) (k.eq1 2 6 rfl) (fun _=>rfl) (r_lssK rfl)) .nil
 refine aftI aq aQ aR fun b4 b5 ab ai ad bL aj=>?_
 have⟨ao,ah⟩:=aj.f2 aF aG
 have aH:=aj.g 3 7
 refine aT _ _ ?_
 rcases bc (decide ((i:Int) < (u.length:Int))) with af|af
 have ay:=oT af
 have aU:=hB aH af
 refine wt aU<| ws<| aS _ _<| wk fun b6 aV=>wb ?_
 refine wk fun b7 ar=>?_
 rcases bc (dgtN (u.getD i 0)) with ag|ag
 have hb:=hu.at16 i
 refine wp_g0 [true,true,true,true,true,true] [] 19
  [ve (sv Au u cu),ve (iv (i:Int)),
  (EP (.int .u16 ((u.getD i 0:Nat):Int))),ve (.int .u16 ((u.getD i 0:Nat):Int)),vT,vF] ab (.eq (.eq (.cons (fun _ _ _ n ⟨_,_,e,h⟩=>⟨_,_,e,h.new_ n⟩) (.eq (.eq (.eq .nil)))))) ?_ ?_
 refine .M ah<| .M ao ?_
 refine .o1 (tk rfl rfl fun _ w hn k=>(by
  exact x_eaddr (k:=.u16) rfl elU (k.eq1 0 10 rfl) (k.eq1 1 11 rfl) (hru.new_ (ad.transNew hn)) (by omega) fun b9 bs hme=>⟨b9,bs,rfl,hme⟩)) ?_
 refine .o1 (tk rfl rfl fun _ w hn k=>(by
  obtain⟨b8,ca,bt,aW⟩:=k.G 2 12
  exact⟨_,v_load rfl bt (l_one isAgg79 aW.1),rfl⟩)) ?_
 exact .o1 (ck rfl rfl rfl (fun _ w hn k=>⟨#[.int .u16 ((u.getD i 0:Nat):Int)],args1 (k.eq1 3 13 rfl),fun _=>by kernel_rfl,rdigit_c (u.getD i 0) _ (by omega)⟩) fun _=>congrArg Value.bool ag)<| .T (fun k=>v_not rfl (k.eq1 4 14 rfl)) .nil
 refine aftI ab ai ad fun cb cc au aX aY bM ak=>?_
 have⟨aI,bu⟩:=ak.f2 ao ah
 have bv:=ak.g 5 15
 refine ar _ _<| wf bv<| ws ?_
 refine aV _ _<| wA [true,true,false] [(2,true)] 19 [ve (iv (i:Int)),ve (iv ((i + 1:Nat):Int)),vt] au ?_ ?_
 exact .M aI<| .R (fun k=>v_bin rfl (k.eq1 0 8 rfl) rfl (fun _=>rfl) (n_add (by omega) (IntWalk.i64_in _ (by omega)))) (fun _=>rfl)<| .off .nil
 refine aftI au aX aY fun aJ cd av aZ a1 bN al=>?_
 have⟨ce,bw⟩:=al.f2 aI bu
 have aK:=al.g 1 9
 refine sP aK av aZ fun bx a3 a4 ae bA=>?_
 have⟨bz,cf⟩:=ae.q2 bw aK
 refine st_nil ?_
 refine then_n ?_
 exact⟨_,⟨i + 1,rfl,a3,a4,a1,(bA.trans (congrArg (Value.int .i64) (by omega))),bz,(by omega),(up_false (p:=(fun y:Nat=>!dgtN y)) hno (by show (!dgtN (u.getD i 0))=false; rw [ag]; rfl))⟩,(by omega)⟩
 have hb:=hu.at16 i
 refine wp_g0 [true,true,true,true,true,true] [] 19
  [ve (sv Au u cu),ve (iv (i:Int)),
  (EP (.int .u16 ((u.getD i 0:Nat):Int))),ve (.int .u16 ((u.getD i 0:Nat):Int)),vF,vT] ab (.eq (.eq (.cons (fun _ _ _ n ⟨_,_,e,h⟩=>⟨_,_,e,h.new_ n⟩) (.eq (.eq (.eq .nil)))))) ?_ ?_
 refine .M ah<| .M ao ?_
 refine .o1 (tk rfl rfl fun _ w hn k=>(by
  exact x_eaddr (k:=.u16) rfl elU (k.eq1 0 10 rfl) (k.eq1 1 11 rfl) (hru.new_ (ad.transNew hn)) (by omega) fun bD bE hme=>⟨bD,bE,rfl,hme⟩)) ?_
 refine .o1 (tk rfl rfl fun _ w hn k=>(by
  obtain⟨ch,ci,bF,a5⟩:=k.G 2 12
  exact⟨_,v_load rfl bF (l_one isAgg79 a5.1),rfl⟩)) ?_
 exact .o1 (ck rfl rfl rfl (fun _ w hn k=>⟨#[.int .u16 ((u.getD i 0:Nat):Int)],args1 (k.eq1 3 13 rfl),fun _=>by kernel_rfl,rdigit_c (u.getD i 0) _ (by omega)⟩) fun _=>congrArg Value.bool ag)<| .T (fun k=>v_not rfl (k.eq1 4 14 rfl)) .nil
 refine aftI ab ai ad fun cj cl aw a6 a7 bO am=>?_
 have⟨cm,cn⟩:=am.f2 ao ah
 have bG:=am.g 5 15
 refine ar _ _<| wt bG<| wk fun co a8=>?_
 refine wA tr1 [] 19 [vF] aw ?_ ?_
 exact .c .nil
 refine aftI aw a6 a7 fun cp cq bP a9 ba bQ bb=>?_
 have bH:=bb.g 0 2
 refine a8 _ _<| wp_ret (ret_k a9 (v:=.bool false) (res_t rfl bH _) ?_)
 exact⟨by rw [show digitsT u=false from by unfold digitsT; rw [any_true (p:=(fun y:Nat=>!dgtN y)) (i:=i) (by omega) (by show (!dgtN (u.getD i 0))=true; rw [ag]; rfl)]; simp],ba⟩
 have ay:=oF af
 have bd:=hB aH af
 refine wf bd<| wp_exit ?_
 refine aL _ _<| wk fun cr ax=>?_
 rcases bc (decide ((u.length:Int)≤0)) with ac|ac
 have az:=oT ac
 refine wA tr4 [] 19 [ve (sv Au u cu),ve (iv (u.length:Int)),vF,vF] ab ?_ ?_
 exact .M ah<| .T (fun k=>v_lenR rfl elU (k.eq1 0 16 rfl))<| .b 1 (r_gtrK ac)<| .B 2 .nil
 refine aftI ab ai ad fun cs ct bR be aA bS bf=>?_
 have bg:=bf.g 3 2
 refine ax _ _<| wp_ret (ret_k be (v:=.bool false) (res_t rfl bg _) ?_)
 exact⟨by rw [show digitsT u=false from by unfold digitsT; rw [any_false (p:=(fun y:Nat=>!dgtN y)) (fun j hj=>hno j (by omega))]; simp only [ac]; rfl],aA⟩
 have az:=oF ac
 refine wA tr4 [] 19 [ve (sv Au u cu),ve (iv (u.length:Int)),vT,vT] ab ?_ ?_
 exact .M ah<| .T (fun k=>v_lenR rfl elU (k.eq1 0 16 rfl))<| .b 1 (r_gtrK ac)<| .B 2 .nil
 refine aftI ab ai ad fun bT bU bI aB aC bJ aD=>?_
 have bh:=aD.g 3 2
 refine ax _ _<| wp_ret (ret_k aB (v:=.bool true) (res_t rfl bh _) ?_)
 exact⟨by rw [show digitsT u=true from by unfold digitsT; rw [any_false (p:=(fun y:Nat=>!dgtN y)) (fun j hj=>hno j (by omega))]; simp only [ac]; rfl],aC⟩
theorem rwhole3_c (Au:Option Addr) (u:List Nat) (cu:Nat) (w:World) (hru:SRow w .u16 Au u cu) (hu:U16s u) (hd:∀ j,j < u.length→48≤u.getD j 0∧u.getD j 0≤57):Calls prog 74 #[sv Au u cu] w (IsRet (iv (wholeR u 0)) w):=by
 refine enter_abs func74 rfl fun a0 ao bB hp=>?_
 have ao:a0.tmps.size=23:=ao
 have bC:New w w:=Upd.refl _ _
 have hp0:a0.eval (.tmp 0)=sv Au u cu:=hp 0 _ rfl
 have hmx:=hru.max
 refine wk fun K1 bD=>?_
 refine wA tr1 [] 23 [ve (iv 0)] ao ?_ ?_
 exact .c .nil
 refine aftI ao bB bC fun a2 w3 aT bE bF co bG=>?_
 have h8:=bG.f1 hp0
 refine bD _ _ <| wk fun cp a8=>?_
 refine wA tr1 [] 23 [ve (iv 0)] aT ?_ ?_
 exact .c .nil
 refine aftI aT bE bF fun cq cr ar a9 ba b2 au=>?_
 have bH:=au.f1 h8
 have bI:=au.g 0 3
 refine a8 _ _ <| wk fun cs bb=>?_
 refine wk fun ct bd=>?_
 refine wA tr1 [] 23 [ve (iv 0)] ar ?_ ?_
 exact .c .nil
 refine aftI ar a9 ba fun cv cw be bf bg b4 am=>?_
 have⟨bJ,bK⟩:=am.f2 bH bI
 have bL:=am.g 0 4
 refine bd _ _<| wb<| wp_loopX (fun (mm:Nat) (aa:Act) (ww:World)=>∃ (i:Nat) (n:Int),mm=u.length - i∧aa.tmps.size=23∧aa.defers=[]∧New w ww∧aa.eval (.tmp 3)=iv n∧aa.eval (.tmp 4)=iv (i:Int)∧aa.eval (.tmp 0)=sv Au u cu∧(i≤u.length)∧(0≤n∧n≤9007199254740991)∧(wholeR u 0=wholeR (u.drop i) n)) (fun mm=>mm) ⟨_,⟨0,0,rfl,be,bf,bg,bK,bL,bJ,(Nat.zero_le _),(by omega),(by rw [List.drop_zero])⟩⟩ ?_
 rintro mm cx cy ⟨i,n,hmm,av,bh,bi,bM,aU,aV,hi,hn,hv⟩
 refine wk fun cz bj=>wk fun cA bk=>?_
 refine wA tr4 [] 23 [ve (iv (i:Int)),ve (sv Au u cu),ve (iv (u.length:Int)),ve (.bool (decide ((i:Int) < (u.length:Int))))] av ?_ ?_
 exact .M aU<| .M aV<| .T (fun k=>v_lenR rfl elU (k.eq1 1 6 rfl))<| .T (fun k=>v_bin rfl (k.eq1 0 5 rfl) (k.eq1 2 7 rfl) (fun _=>rfl) (r_lssK rfl)) .nil
 refine aftI av bh bi fun cB cC ag aw an b6 ah=>?_
 have⟨ax,aW,aX⟩:=ah.f3 bM aU aV
 have aY:=ah.g 3 8
 refine bk _ _ ?_
 rcases bc (decide ((i:Int) < (u.length:Int))) with ae|ae
 have aE:=oT ae
 have bl:=hB aY ae
 refine wt bl<| ws<| bj _ _<| wk fun cD bm=>wb ?_
 refine wk fun cE bn=>?_
 have hdg:=hd i (by omega)
 have hb:=hu.at16 i
 refine wp_g0 [true,true,true,true,true,true,true,true,true,false] [(9,true)] 23
  [ve (iv n),ve (iv (10 * n)),ve (sv Au u cu),ve (iv (i:Int)),
  (EP (.int .u16 ((u.getD i 0:Nat):Int))),ve (.int .u16 ((u.getD i 0:Nat):Int)),ve (.int .u16 (((u.getD i 0) - 48:Nat):Int)),ve (iv (((u.getD i 0) - 48:Nat):Int)),ve (iv ((10 * n) + (((u.getD i 0) - 48:Nat):Int))),vt] ag (.eq (.eq (.eq (.eq (.cons (fun _ _ _ n ⟨_,_,e,h⟩=>⟨_,_,e,h.new_ n⟩) (.eq (.eq (.eq (.eq (.tt .nil)))))))))) ?_ ?_
 refine .M ax<| .R (fun k=>v_bin rfl rfl (k.eq1 0 11 rfl) (fun _=>rfl) (n_mul rfl (IntWalk.i64_in _ (by omega)))) (fun _=>rfl)<| .M aX<| .M aW ?_
 refine .o1 (tk rfl rfl fun _ w hn k=>(by
  exact x_eaddr (k:=.u16) rfl elU (k.eq1 2 13 rfl) (k.eq1 3 14 rfl) (hru.new_ (an.transNew hn)) (by omega) fun b1 o2 hme=>⟨b1,o2,rfl,hme⟩)) ?_
 refine .o1 (tk rfl rfl fun _ w hn k=>(by
  obtain⟨b5,o6,e7,bN⟩:=k.G 4 15
  exact⟨_,v_load rfl e7 (l_one isAgg79 bN.1),rfl⟩)) ?_
 exact .R (fun k=>v_bin rfl (k.eq1 5 16 rfl) rfl (fun _=>rfl) (n_sub (by omega) (IntWalk.u16_in _ (by omega)))) (fun _=>rfl)<| .R (fun k=>v_conv rfl (k.eq1 6 17 rfl) (n_conv (by kernel_rfl) (by kernel_rfl) (by kernel_rfl) (IntWalk.i64_in _ (by omega)))) (fun _=>rfl)<| .R (fun k=>v_bin rfl (k.eq1 1 12 rfl) (k.eq1 7 18 rfl) (fun _=>rfl) (r_add rfl (by omega))) (fun _=>rfl)<| .off .nil
 refine aftI ag aw an fun aZ cF ay bo az b7 ai=>?_
 have⟨cG,bO,bP⟩:=ai.f3 ax aW aX
 have a1:=ai.g 8 19
 refine sP a1 ay bo fun bQ aj aA ac ap=>?_
 have⟨a3,a4,cH⟩:=ac.q3 bO bP a1
 refine bn _ _ <| wk fun cI aB=>?_
 rcases bc (decide (((10 * n) + (((u.getD i 0) - 48:Nat):Int))≤9007199254740991)) with af|af
 have aF:=oT af
 refine wA tr2 [] 23 [ve (iv ((10 * n) + (((u.getD i 0) - 48:Nat):Int))),vF] aj ?_ ?_
 exact .M ap<| .b 0 (r_gtrK af) .nil
 refine aftI aj aA az fun cJ cK aC bp bq b8 ak=>?_
 have⟨a5,bR,bS⟩:=ak.f3 a3 a4 ap
 have bT:=ak.g 1 21
 refine aB _ _<| wf bT<| ws ?_
 refine bm _ _<| wA [true,true,false] [(2,true)] 23 [ve (iv (i:Int)),ve (iv ((i + 1:Nat):Int)),vt] aC ?_ ?_
 exact .M a5<| .R (fun k=>v_bin rfl (k.eq1 0 9 rfl) rfl (fun _=>rfl) (n_add (by omega) (IntWalk.i64_in _ (by omega)))) (fun _=>rfl)<| .off .nil
 refine aftI aC bp bq fun a6 cL aD br bs b9 al=>?_
 have⟨cM,bU,bV⟩:=al.f3 a5 bR bS
 have a7:=al.g 1 10
 refine sP a7 aD br fun bt aG aH ab bw=>?_
 have⟨bu,bv,ca⟩:=ab.q3 bU bV a7
 refine st_nil ?_
 refine then_n ?_
 exact⟨_,⟨i + 1,10 * n + (((u.getD i 0:Nat):Int) - 48),rfl,aG,aH,bs,(bv.trans (congrArg (Value.int .i64) (by omega))),(bw.trans (congrArg (Value.int .i64) (by omega))),bu,(by omega),(by omega),(hv.trans (by rw [drop_at (by omega),wholeR,if_pos (decide_eq_true (by omega))]))⟩,(by omega)⟩
 have aF:=oF af
 refine wA tr2 [] 23 [ve (iv ((10 * n) + (((u.getD i 0) - 48:Nat):Int))),vT] aj ?_ ?_
 exact .M ap<| .b 0 (r_gtrK af) .nil
 refine aftI aj aA az fun cb cc aq aI aJ bW ad=>?_
 have⟨cd,ce,cf⟩:=ad.f3 a3 a4 ap
 have bx:=ad.g 1 21
 refine aB _ _<| wt bx<| wk fun ch aK=>?_
 refine wA tr1 [] 23 [ve (iv (-1))] aq ?_ ?_
 exact .c .nil
 refine aftI aq aI aJ fun ci cj bX aL aM bY aN=>?_
 have bz:=aN.g 0 2
 refine aK _ _<| wp_ret (ret_k aL (v:=iv (-1)) (res_t rfl bz _) ?_)
 exact⟨by rw [show wholeR u 0 = -1 from hv.trans (by rw [drop_at (by omega),wholeR,if_neg (show ¬ (decide (10 * n + (((u.getD i 0:Nat):Int) - 48)≤9007199254740991)=true) by simp only [decide_eq_true_eq]; omega)])],aM⟩
 have aE:=oF ae
 have aO:=hB aY ae
 refine wf aO<| wp_exit ?_
 refine bb _ _<| wk fun cl aP=>?_
 refine wA tr2 [] 23 [ve (iv n),ve (iv n)] ag ?_ ?_
 exact .M ax<| .B 0 .nil
 refine aftI ag aw an fun cm cn bZ aQ aR b0 aS=>?_
 have bA:=aS.g 1 2
 refine aP _ _<| wp_ret (ret_k aQ (v:=iv n) (res_t rfl bA _) ?_)
 exact⟨by rw [show wholeR u 0=n from hv.trans (by rw [List.drop_eq_nil_of_le (by omega)]; rfl)],aR⟩
theorem rnumeric_c (Au:Option Addr) (u:List Nat) (cu:Nat) (s:ByteArray) (w:World) (hru:SRow w .u16 Au u cu) (hu:U16s u) (hss:s.size≤1000000):Calls prog 75 #[sv Au u cu,.string s] w (IsRet (.bool (numericN s u)) w):=by
 refine enter_abs func75 rfl fun a0 aF dM hp=>?_
 have aF:a0.tmps.size=61:=aF
 have dN:New w w:=Upd.refl _ _
 have hp0:a0.eval (.tmp 0)=sv Au u cu:=hp 0 _ rfl
 have hp1:a0.eval (.tmp 1)=.string s:=hp 1 _ rfl
 have hmx:=hru.max
 refine wk fun K1 dO=>?_
 refine wA tr1 [] 61 [vF] aF ?_ ?_
 exact .c .nil
 refine aftI aF dM dN fun a2 w3 b6 dP ce e4 b7=>?_
 have⟨h8,h9⟩:=b7.f2 hp0 hp1
 refine dO _ _ <| wk fun e5 cf=>?_
 refine wA tr1 [] 61 [vF] b6 ?_ ?_
 exact .c .nil
 refine aftI b6 dP ce fun e6 e8 aR ch ci eu aA=>?_
 have⟨dQ,dR⟩:=aA.f2 h8 h9
 have dS:=aA.g 0 5
 refine cf _ _ <| wk fun e9 cj=>?_
 refine wk fun fa cl=>?_
 refine wA tr1 [] 61 [ve (iv 0)] aR ?_ ?_
 exact .c .nil
 refine aftI aR ch ci fun fb fc cm cn co ev ax=>?_
 have⟨dT,dU,dV⟩:=ax.f3 dQ dR dS
 have dW:=ax.g 0 6
 refine cl _ _<| wb<| wp_loopX (fun (mm:Nat) (aa:Act) (ww:World)=>∃ (i:Nat),mm=u.length - i∧aa.tmps.size=61∧aa.defers=[]∧New w ww∧aa.eval (.tmp 5)=.bool ((u.take i).any dgtN)∧aa.eval (.tmp 6)=iv (i:Int)∧aa.eval (.tmp 0)=sv Au u cu∧aa.eval (.tmp 1)=.string s∧(i≤u.length)∧((u.take i).all (okS s)=true)) (fun mm=>mm) ⟨_,⟨0,rfl,cm,cn,co,(dV.trans rfl),dW,dT,dU,(Nat.zero_le _),rfl⟩⟩ ?_
 rintro mm fd fe ⟨i,hmm,aS,cp,cq,dX,b8,b9,dY,hi,hall⟩
 refine wk fun ff cr=>wk fun fg cs=>?_
 refine wA tr4 [] 61 [ve (iv (i:Int)),ve (sv Au u cu),ve (iv (u.length:Int)),ve (.bool (decide ((i:Int) < (u.length:Int))))] aS ?_ ?_
 exact .M b8<| .M b9<| .T (fun k=>v_lenR rfl elU (k.eq1 1 11 rfl))<| .T (fun k=>v_bin rfl (k.eq1 0 10 rfl) (k.eq1 2 12 rfl) (fun _=>rfl) (r_lssK rfl)) .nil
 refine aftI aS cp cq fun fh fi ay aT aB ew ar=>?_
 have⟨ca,cb,cc,dZ⟩:=ar.f4 dX b8 b9 dY
 have cd:=ar.g 3 13
 refine cs _ _ ?_
 rcases bc (decide ((i:Int) < (u.length:Int))) with au|au
 have bk:=oT au
 have ct:=hB cd au
 refine wt ct<| ws<| cr _ _<| wk fun fj cv=>wb ?_
 refine wk fun fk cw=>?_
 have hb:=hu.at16 i
 refine wp_g0 [true,true,true,true,true] [] 61
  [ve (sv Au u cu),ve (iv (i:Int)),
  (EP (.int .u16 ((u.getD i 0:Nat):Int))),ve (.int .u16 ((u.getD i 0:Nat):Int)),ve (.int .u16 ((u.getD i 0:Nat):Int))] ay (.eq (.eq (.cons (fun _ _ _ n ⟨_,_,e,h⟩=>⟨_,_,e,h.new_ n⟩) (.eq (.eq .nil))))) ?_ ?_
 refine .M cc<| .M cb ?_
 refine .o1 (tk rfl rfl fun _ w hn k=>(by
  exact x_eaddr (k:=.u16) rfl elU (k.eq1 0 16 rfl) (k.eq1 1 17 rfl) (hru.new_ (aB.transNew hn)) (by omega) fun b1 o2 hme=>⟨b1,o2,rfl,hme⟩)) ?_
 refine .o1 (tk rfl rfl fun _ w hn k=>(by
  obtain⟨b5,o6,e7,d0⟩:=k.G 2 18
  exact⟨_,v_load rfl e7 (l_one isAgg79 d0.1),rfl⟩)) ?_
 exact .B 3 .nil
 refine aftI ay aT aB fun fl fm aU cx cy ex av=>?_
 have⟨d1,d2,d3,d4⟩:=av.f4 ca cb cc dZ
 have aw:=av.g 4 7
 refine cw _ _ ?_
 refine wp_seq_j (fun (aa:Act) (ww:World)=>aa.tmps.size=61∧aa.defers=[]∧New w ww∧aa.eval (.tmp 8)=.bool (okbN (u.getD i 0))∧aa.eval (.tmp 0)=sv Au u cu∧aa.eval (.tmp 1)=.string s∧aa.eval (.tmp 5)=.bool ((u.take i).any dgtN)∧aa.eval (.tmp 6)=iv (i:Int)∧aa.eval (.tmp 7)=.int .u16 ((u.getD i 0:Nat):Int)) ?_ ?_
 rintro fn fo ⟨aV,cz,cA,d5,d6,d7,d8,d9,ea⟩
 refine wp_seq_j (fun (aa:Act) (ww:World)=>aa.tmps.size=61∧aa.defers=[]∧New w ww∧aa.eval (.tmp 8)=.bool (okS s (u.getD i 0))∧aa.eval (.tmp 0)=sv Au u cu∧aa.eval (.tmp 1)=.string s∧aa.eval (.tmp 5)=.bool ((u.take i).any dgtN)∧aa.eval (.tmp 6)=iv (i:Int)∧aa.eval (.tmp 7)=.int .u16 ((u.getD i 0:Nat):Int)) ?_ ?_
 rintro fp fq ⟨aW,cB,cC,eb,ec,ed,ee,ef,eg⟩
 refine wk fun fs cD=>wk fun ft cE=>?_
 refine wA tr2 [] 61 [ve (.bool (okS s (u.getD i 0))),ve (.bool (!(okS s (u.getD i 0))))] aW ?_ ?_
 exact .M eb<| .T (fun k=>v_not rfl (k.eq1 0 53 rfl)) .nil
 refine aftI aW cB cC fun fu fv aq aG aH eh ak=>?_
 have⟨cF,cG,aX,cH⟩:=ak.f4 ec ed ee ef
 have cI:=ak.f1 eg
 have aY:=ak.g 1 54
 refine cE _ _ ?_
 rcases bc ((!(okS s (u.getD i 0)))) with am|am
 have bl:=hB aY am
 have bm:(okS s (u.getD i 0))=false:=nF am
 refine wt bl<| wk fun ey bn=>?_
 refine wA tr1 [] 61 [vF] aq ?_ ?_
 exact .c .nil
 refine aftI aq aG aH fun ez eA ei bo bp ej bq=>?_
 have cJ:=bq.g 0 4
 refine bn _ _<| wp_ret (ret_k bo (v:=.bool false) (res_t rfl cJ _) ?_)
 exact⟨by rw [show numericN s u=false from by unfold numericN; rw [all_bad (i:=i) (by omega) bm,Bool.false_and]],bp⟩
 have br:=hB aY am
 have bs:(okS s (u.getD i 0))=true:=nT am
 refine wf br<| ws<| cD _ _ ?_
 have hb:=hu.at16 i
 refine wA [true,true,true,true,true,false] [(5,true)] 61 [ve (.bool ((u.take i).any dgtN)),ve (.bool ((u.take i).any dgtN)),ve (gq (!((u.take i).any dgtN)) (.int .u16 ((u.getD i 0:Nat):Int))),ve (gq (!((u.take i).any dgtN)) (.bool (dgtN (u.getD i 0)))),ve (.bool (((u.take i).any dgtN) || (dgtN (u.getD i 0)))),vt] aq ?_ ?_
 exact .M aX<| .N 0<| .Q (fun k=>g0' (k.eq1 1 56 rfl)) (fun hG p k=>v_move rfl (k.fx 7 cI))<| .o1 (scC (G:=(!((u.take i).any dgtN))) rfl rfl rfl (fun _ _ k=>g0' (k.eq1 1 56 rfl)) rfl (fun hG _ w hn k=>⟨#[.int .u16 ((u.getD i 0:Nat):Int)],args1 (cT hG (k.eq1 2 57 rfl)),fun _=>by kernel_rfl,rdigit_c (u.getD i 0) _ (by omega)⟩))<| .W 1 3<| .off .nil
 refine aftI aq aG aH fun aZ eB aI bt bu ek an=>?_
 have⟨cK,cL,eC,cM⟩:=an.f4 cF cG aX cH
 have a1:=an.g 4 59
 refine sP a1 aI bt fun cN aJ bv ad cQ=>?_
 have⟨cO,cP,a3⟩:=ad.q3 cK cL cM
 have eD:=ad.q a1
 refine cv _ _<| wA [true,true,false] [(2,true)] 61 [ve (iv (i:Int)),ve (iv ((i + 1:Nat):Int)),vt] aJ ?_ ?_
 exact .M a3<| .R (fun k=>v_bin rfl (k.eq1 0 14 rfl) rfl (fun _=>rfl) (n_add (by omega) (IntWalk.i64_in _ (by omega)))) (fun _=>rfl)<| .off .nil
 refine aftI aJ bv bu fun a4 eE aK bw bx el ao=>?_
 have⟨cR,cS,eF,cU⟩:=ao.f4 cO cP a3 cQ
 have a5:=ao.g 1 15
 refine sP a5 aK bw fun cV bz bA ae cZ=>?_
 have⟨cW,cX,cY⟩:=ae.q3 cR cS cU
 have eG:=ae.q a5
 refine st_nil ?_
 refine then_n ?_
 exact⟨_,⟨i + 1,rfl,bz,bA,bx,(cY.trans (congrArg Value.bool (by rw [any_up (by omega)]))),(cZ.trans (congrArg (Value.int .i64) (by omega))),cW,cX,(by omega),(all_up (by omega) hall bs)⟩,(by omega)⟩
 intro eH bB
 refine wk fun eI bC=>?_
 refine wA tr1 [] 61 [ve (iv 0)] aV ?_ ?_
 exact .c .nil
 refine aftI aV cz cA fun eJ eK bD bE bF em ai=>?_
 have⟨c0,c1,c2,c3⟩:=ai.f4 d5 d6 d7 d8
 have⟨c4,c5⟩:=ai.f2 d9 ea
 have c6:=ai.g 0 9
 refine bC _ _<| wb<| wp_loopX (fun (mm:Nat) (aa:Act) (ww:World)=>∃ (jj:Nat),mm=s.size - jj∧aa.tmps.size=61∧aa.defers=[]∧New w ww∧aa.eval (.tmp 8)=.bool (okbN (u.getD i 0) || hasN s jj (u.getD i 0))∧aa.eval (.tmp 9)=iv (jj:Int)∧aa.eval (.tmp 0)=sv Au u cu∧aa.eval (.tmp 1)=.string s∧aa.eval (.tmp 5)=.bool ((u.take i).any dgtN)∧aa.eval (.tmp 6)=iv (i:Int)∧aa.eval (.tmp 7)=.int .u16 ((u.getD i 0:Nat):Int)∧(jj≤s.size)) (fun mm=>mm) ⟨_,⟨0,rfl,bD,bE,bF,(c0.trans (congrArg Value.bool (by rw [has0,Bool.or_false]))),c6,c1,c2,c3,c4,c5,(Nat.zero_le _)⟩⟩ ?_
 rintro mm eL eM ⟨jj,hmm,aL,bG,bH,c8,a6,c9,a7,da,db,dc,hj⟩
 refine wk fun eN bI=>wk fun eO bJ=>?_
 refine wA tr4 [] 61 [ve (iv (jj:Int)),ve (.string s),ve (iv (s.size:Int)),ve (.bool (decide ((jj:Int) < (s.size:Int))))] aL ?_ ?_
 exact .M a6<| .M a7<| .T (fun k=>v_lenS rfl (k.eq1 1 39 rfl) (by kernel_rfl))<| .T (fun k=>v_bin rfl (k.eq1 0 38 rfl) (k.eq1 2 40 rfl) (fun _=>rfl) (r_lssK rfl)) .nil
 refine aftI aL bG bH fun eP eQ az aM aN en af=>?_
 have⟨aC,a8,a9,aD⟩:=af.f4 c8 a6 c9 a7
 have⟨ba,bb,aE⟩:=af.f3 da db dc
 have bd:=af.g 3 41
 refine bJ _ _ ?_
 rcases bc (decide ((jj:Int) < (s.size:Int))) with ap|ap
 have be:=oT ap
 have bK:=hB bd ap
 refine wt bK<| ws<| bI _ _<| wk fun eR bL=>wb ?_
 have hb:=hu.at16 i
 have fw:=bAt_lt s jj
 refine wA [true,true,true,true,true,true,true,true,true,false] [(9,true)] 61 [ve (.bool (okbN (u.getD i 0) || hasN s jj (u.getD i 0))),ve (.bool (okbN (u.getD i 0) || hasN s jj (u.getD i 0))),ve (gq (!(okbN (u.getD i 0) || hasN s jj (u.getD i 0))) (.int .u16 ((u.getD i 0:Nat):Int))),ve (gq (!(okbN (u.getD i 0) || hasN s jj (u.getD i 0))) (.string s)),ve (gq (!(okbN (u.getD i 0) || hasN s jj (u.getD i 0))) (iv (jj:Int))),ve (gq (!(okbN (u.getD i 0) || hasN s jj (u.getD i 0))) (.int .u8 ((bAt s jj:Nat):Int))),ve (gq (!(okbN (u.getD i 0) || hasN s jj (u.getD i 0))) (.int .u16 ((bAt s jj:Nat):Int))),ve (gq (!(okbN (u.getD i 0) || hasN s jj (u.getD i 0))) (.bool (decide (((u.getD i 0:Nat):Int)=((bAt s jj:Nat):Int))))),ve (.bool ((okbN (u.getD i 0) || hasN s jj (u.getD i 0)) || (decide (((u.getD i 0:Nat):Int)=((bAt s jj:Nat):Int))))),vt] az ?_ ?_
 exact .M aC<| .N 0<| .Q (fun k=>g0' (k.eq1 1 45 rfl)) (fun hG p k=>v_move rfl (k.fx 7 aE))<| .Q (fun k=>g0' (k.eq1 1 45 rfl)) (fun hG p k=>v_move rfl (k.fx 1 aD))<| .Q (fun k=>g0' (k.eq1 1 45 rfl)) (fun hG p k=>v_move rfl (k.fx 9 a8))<| .Q (fun k=>g0' (k.eq1 1 45 rfl)) (fun hG p k=>v_idxN rfl (cT hG (k.eq1 3 47 rfl)) (cT hG (k.eq1 4 48 rfl)) (by kernel_rfl) (by omega))<| .Q (fun k=>g0' (k.eq1 1 45 rfl)) (fun hG p k=>v_conv rfl (cT hG (k.eq1 5 49 rfl)) (n_conv (by kernel_rfl) (by kernel_rfl) (by kernel_rfl) (IntWalk.u16_in _ (by omega))))<| .Q (fun k=>g0' (k.eq1 1 45 rfl)) (fun hG p k=>v_bin rfl (cT hG (k.eq1 2 46 rfl)) (cT hG (k.eq1 6 50 rfl)) (fun _=>rfl) (r_eql rfl))<| .W 1 7<| .off .nil
 refine aftI az aM aN fun bf eS aO bM bN eo ag=>?_
 have⟨eT,dd,de,df⟩:=ag.f4 aC a8 a9 aD
 have⟨dg,dh,di⟩:=ag.f3 ba bb aE
 have bg:=ag.g 8 52
 refine sP bg aO bM fun dj aP bO ab dq=>?_
 have⟨bh,dk,dl⟩:=ab.q3 dd de df
 have⟨dm,dn,dp⟩:=ab.q3 dg dh di
 have eU:=ab.q bg
 refine bL _ _<| wA [true,true,false] [(2,true)] 61 [ve (iv (jj:Int)),ve (iv ((jj + 1:Nat):Int)),vt] aP ?_ ?_
 exact .M bh<| .R (fun k=>v_bin rfl (k.eq1 0 42 rfl) rfl (fun _=>rfl) (n_add (by omega) (IntWalk.i64_in _ (by omega)))) (fun _=>rfl)<| .off .nil
 refine aftI aP bO bN fun bi eV aQ bP bQ ep ah=>?_
 have⟨eW,dr,ds,dt⟩:=ah.f4 bh dk dl dm
 have⟨du,dv,dw⟩:=ah.f3 dn dp dq
 have bj:=ah.g 1 43
 refine sP bj aQ bP fun dx bR bS ac dE=>?_
 have⟨dy,dz,dA⟩:=ac.q3 dr ds dt
 have⟨dB,dC,dD⟩:=ac.q3 du dv dw
 have eX:=ac.q bj
 refine st_nil ?_
 refine then_n ?_
 exact⟨_,⟨jj + 1,rfl,bR,bS,bQ,(dD.trans (congrArg Value.bool (by rw [has_up (by omega),← Bool.or_assoc]))),(dE.trans (congrArg (Value.int .i64) (by omega))),dy,dz,dA,dB,dC,(by omega)⟩,(by omega)⟩
 have be:=oF ap
 have bT:=hB bd ap
 refine wf bT<| wp_exit ?_
 exact bB _ _ ⟨az,aM,aN,(aC.trans (congrArg Value.bool (has_end (by omega)))),a9,aD,ba,bb,aE⟩
 intro eY bU
 have hb:=hu.at16 i
 refine wA tr19 [] 61 [ve (.int .u16 ((u.getD i 0:Nat):Int)),ve (.bool (dgtN (u.getD i 0))),ve (.bool (dgtN (u.getD i 0))),ve (gq (!(dgtN (u.getD i 0))) (.int .u16 ((u.getD i 0:Nat):Int))),ve (gq (!(dgtN (u.getD i 0))) (.bool (!decide (((u.getD i 0:Nat):Int) < 97)))),ve (gq (!(dgtN (u.getD i 0))) (.bool (!decide (((u.getD i 0:Nat):Int) < 97)))),ve (gq ((!(dgtN (u.getD i 0))) && (!decide (((u.getD i 0:Nat):Int) < 97))) (.int .u16 ((u.getD i 0:Nat):Int))),ve (gq ((!(dgtN (u.getD i 0))) && (!decide (((u.getD i 0:Nat):Int) < 97))) (.bool (decide (((u.getD i 0:Nat):Int)≤102)))),ve (gq (!(dgtN (u.getD i 0))) (.bool ((!decide (((u.getD i 0:Nat):Int) < 97)) && (decide (((u.getD i 0:Nat):Int)≤102))))),ve (.bool ((dgtN (u.getD i 0)) || ((!decide (((u.getD i 0:Nat):Int) < 97)) && (decide (((u.getD i 0:Nat):Int)≤102))))),ve (.bool ((dgtN (u.getD i 0)) || ((!decide (((u.getD i 0:Nat):Int) < 97)) && (decide (((u.getD i 0:Nat):Int)≤102))))),ve (gq (!((dgtN (u.getD i 0)) || ((!decide (((u.getD i 0:Nat):Int) < 97)) && (decide (((u.getD i 0:Nat):Int)≤102))))) (.int .u16 ((u.getD i 0:Nat):Int))),ve (gq (!((dgtN (u.getD i 0)) || ((!decide (((u.getD i 0:Nat):Int) < 97)) && (decide (((u.getD i 0:Nat):Int)≤102))))) (.bool (!decide (((u.getD i 0:Nat):Int) < 65)))),ve (gq (!((dgtN (u.getD i 0)) || ((!decide (((u.getD i 0:Nat):Int) < 97)) && (decide (((u.getD i 0:Nat):Int)≤102))))) (.bool (!decide (((u.getD i 0:Nat):Int) < 65)))),ve (gq ((!((dgtN (u.getD i 0)) || ((!decide (((u.getD i 0:Nat):Int) < 97)) && (decide (((u.getD i 0:Nat):Int)≤102))))) && (!decide (((u.getD i 0:Nat):Int) < 65))) (.int .u16 ((u.getD i 0:Nat):Int))),ve (gq ((!((dgtN (u.getD i 0)) || ((!decide (((u.getD i 0:Nat):Int) < 97)) && (decide (((u.getD i 0:Nat):Int)≤102))))) && (!decide (((u.getD i 0:Nat):Int) < 65))) (.bool (decide (((u.getD i 0:Nat):Int)≤70)))),ve (gq (!((dgtN (u.getD i 0)) || ((!decide (((u.getD i 0:Nat):Int) < 97)) && (decide (((u.getD i 0:Nat):Int)≤102))))) (.bool ((!decide (((u.getD i 0:Nat):Int) < 65)) && (decide (((u.getD i 0:Nat):Int)≤70))))),ve (.bool (((dgtN (u.getD i 0)) || ((!decide (((u.getD i 0:Nat):Int) < 97)) && (decide (((u.getD i 0:Nat):Int)≤102)))) || ((!decide (((u.getD i 0:Nat):Int) < 65)) && (decide (((u.getD i 0:Nat):Int)≤70))))),ve (.bool (((dgtN (u.getD i 0)) || ((!decide (((u.getD i 0:Nat):Int) < 97)) && (decide (((u.getD i 0:Nat):Int)≤102)))) || ((!decide (((u.getD i 0:Nat):Int) < 65)) && (decide (((u.getD i 0:Nat):Int)≤70)))))] aU ?_ ?_
 exact .M aw<| .C 0 (fun p=>rdigit_c (u.getD i 0) _ (by omega))<| .N 1<| .Q (fun k=>g0' (k.eq1 2 22 rfl)) (fun hG p k=>v_move rfl (k.fx 7 aw))<| .Q (fun k=>g0' (k.eq1 2 22 rfl)) (fun hG p k=>v_bin rfl (cT hG (k.eq1 3 23 rfl)) rfl (fun _=>rfl) (r_geqK rfl))<| .Q (fun k=>g0' (k.eq1 2 22 rfl)) (fun hG p k=>v_move rfl (cT hG (k.eq1 4 24 rfl)))<| .Q (fun k=>g1 (k.eq1 5 25 rfl)) (fun hG p k=>v_move rfl (k.fx 7 aw))<| .Q (fun k=>g1 (k.eq1 5 25 rfl)) (fun hG p k=>v_bin rfl (cT hG (k.eq1 6 26 rfl)) rfl (fun _=>rfl) (r_leqK rfl))<| .Q (fun k=>g0' (k.eq1 2 22 rfl)) (fun hG p k=>v_and rfl (cT hG (k.eq1 5 25 rfl)) (fun hg=>(cT (aj hG hg) (k.eq1 7 27 rfl))) rfl)<| .W 2 8<| .N 9<| .Q (fun k=>g0' (k.eq1 10 30 rfl)) (fun hG p k=>v_move rfl (k.fx 7 aw))<| .Q (fun k=>g0' (k.eq1 10 30 rfl)) (fun hG p k=>v_bin rfl (cT hG (k.eq1 11 31 rfl)) rfl (fun _=>rfl) (r_geqK rfl))<| .Q (fun k=>g0' (k.eq1 10 30 rfl)) (fun hG p k=>v_move rfl (cT hG (k.eq1 12 32 rfl)))<| .Q (fun k=>g1 (k.eq1 13 33 rfl)) (fun hG p k=>v_move rfl (k.fx 7 aw))<| .Q (fun k=>g1 (k.eq1 13 33 rfl)) (fun hG p k=>v_bin rfl (cT hG (k.eq1 14 34 rfl)) rfl (fun _=>rfl) (r_leqK rfl))<| .Q (fun k=>g0' (k.eq1 10 30 rfl)) (fun hG p k=>v_and rfl (cT hG (k.eq1 13 33 rfl)) (fun hg=>(cT (aj hG hg) (k.eq1 15 35 rfl))) rfl)<| .W 10 16<| .B 17 .nil
 refine aftI aU cx cy fun eZ e0 bV bW bX er al=>?_
 have⟨dF,dG,dH,dI⟩:=al.f4 d1 d2 d3 d4
 have dJ:=al.f1 aw
 have dK:=al.g 18 8
 refine st_nil ?_
 exact bU _ _ ⟨bV,bW,bX,(dK.trans (congrArg Value.bool (by unfold okbN; simp only [bsm]))),dH,dI,dF,dG,dJ⟩
 have bk:=oF au
 have bY:=hB cd au
 refine wf bY<| wp_exit ?_
 refine cj _ _<| wk fun e1 bZ=>?_
 refine wA tr2 [] 61 [ve (.bool ((u.take i).any dgtN)),ve (.bool ((u.take i).any dgtN))] ay ?_ ?_
 exact .M ca<| .B 0 .nil
 refine aftI ay aT aB fun e2 e3 es b0 b2 et b4=>?_
 have dL:=b4.g 1 4
 refine bZ _ _<| wp_ret (ret_k b0 (v:=.bool ((u.take i).any dgtN)) (res_t rfl dL _) ?_)
 exact⟨by rw [show numericN s u=((u.take i).any dgtN) from by unfold numericN; rw [List.take_of_length_le (by omega)] at hall; rw [hall,Bool.true_and,List.take_of_length_le (by omega)]],b2⟩
theorem rnumber3_c0 (Au:Option Addr) (u:List Nat) (cu:Nat) (w:World) (hru:SRow w .u16 Au u cu) (hu:U16s u):Calls prog 36 #[sv Au u cu] w (IsRet (.tuple #[nv ((numR u).1),.bool ((numR u).2)]) w):=by
 refine enter_abs func36 rfl fun a0 bd ip hp=>?_
 have bd:a0.tmps.size=53:=bd
 have gs:New w w:=Upd.refl _ _
 have hp0:a0.eval (.tmp 0)=sv Au u cu:=hp 0 _ rfl
 have hut:=hu.trim
 have hb:=hut.at16 0
 refine wk fun K1 iq=>?_
 refine wB tr2 [] [] 53 [IsNew w 23 [iv 0,iv 0],vF] [0] bd ?_ heN ?_
 exact .Y<| .c .nil
 refine aftI bd ip gs fun a2 w3 gt ir cm kM gu=>?_
 have h8:=gu.f1 hp0
 obtain⟨cn,h9,gF,gG⟩:=gu.G 0 2
 have jp:=Nat.le_trans gs.size gF
 refine iq _ _ <| wk fun kN gH=>?_
 refine wp_g0 [true,true,true] [] 53
  [ve (sv Au u cu),
  (RP .u16 (trimN u)),
  (RP .u16 (trimN u))] gt (.eq (.cons (fun _ _ _ n ⟨_,_,e,h⟩=>⟨_,_,e,h.new_ n⟩) (.cons (fun _ _ _ n ⟨_,_,e,h⟩=>⟨_,_,e,h.new_ n⟩) .nil))) ?_ ?_
 refine .M h8 ?_
 refine .o1 (tkC rfl (noG rfl) rfl fun _ w hn k=>(by
  refine ⟨#[sv Au u cu],_,args1 (k.eq1 0 9 rfl),fun w=>by kernel_rfl,rtrim_c _ u _ _ (hru.new_ (cm.transNew hn)) hu,?_⟩
  rintro e w' ⟨A1,c2,rfl,hmo0,hm⟩
  exact⟨_,rfl,hm,⟨A1,c2,rfl,hmo0⟩⟩)) ?_
 refine .o1 (tk rfl rfl fun _ w hn k=>(by
  obtain⟨A5,c6,e7,iu⟩:=k.G 1 10
  exact⟨_,v_assign rfl e7,⟨A5,c6,rfl,iu⟩⟩)) ?_
 exact .nil
 refine aftI gt ir cm fun iw kO co gI gJ gK cp=>?_
 have ix:=cp.f1 h9
 obtain⟨ah,ad,be,gL⟩:=cp.G 2 4
 have be:iw.eval (.tmp 4)=sv ah (trimN u) ad:=be
 have gM:=gG.new_ gK
 refine gH _ _ <| wk fun kP gN=>?_
 refine wk fun kQ gO=>?_
 refine wA tr3 [] 53 [ve (sv ah (trimN u) ad),ve (iv ((trimN u).length:Int)),ve (.bool (decide (((trimN u).length:Int)=0)))] co ?_ ?_
 exact .M be<| .T (fun k=>v_lenR rfl elU (k.eq1 0 11 rfl))<| .b 1 (r_eql rfl) .nil
 refine aftI co gI gJ fun kR kS aN cq cr ct a4=>?_
 have⟨gv,gw⟩:=a4.f2 ix be
 have gx:=a4.g 2 13
 have⟨cv,cw⟩:=nw2 ct gM gL
 refine gO _ _ ?_
 rcases bc (decide (((trimN u).length:Int)=0)) with ab|ab
 have dO:=oT ab
 have gP:=hB gx ab
 refine wt gP<| wk fun kT gQ=>?_
 refine wA [true,false,false] [(1,false),(2,true)] 53 [ve (nv (Nm.mk 0 0)),vt,vt] aN ?_ ?_
 exact .Z<| .off<| .off .nil
 refine aftI aN cq cr fun gy kU cx gR gS gT cy=>?_
 have gz:=cy.f1 gv
 have gA:=cy.g 0 14
 have gU:=cv.new_ gT
 refine sS2 gz gA gU fun kV gV gW jq=>?_
 have gY:=gS.tR gW
 refine sP (v:=.bool true) rfl cx gR fun iy jr gZ az iA=>?_
 have⟨iz,kX⟩:=az.q2 gz gA
 refine gQ _ _<| wp_ret (ret_k gZ (v:=.tuple #[nv (Nm.mk 0 0),.bool true]) (res_ct rfl iz iA (l_two isAgg23 sizeOf23 gV)) ?_)
 refine ⟨?_,gY⟩
 show Ending.returned (.tuple #[nv (Nm.mk 0 0),.bool true])=Ending.returned (.tuple #[nv ((numR u).1),.bool ((numR u).2)])
 first|rfl|(simp only [numR,bodyR,ab,bsm] <;> rfl)|(exfalso; omega)
 have dO:=oF ab
 have g0:=hB gx ab
 refine wf g0<| ws<| gN _ _<| wk fun kY g1=>?_
 refine wp_g0 [true,true,true,true,true] [] 53
  [ve (sv ah (trimN u) ad),
  (EP (.int .u16 (((trimN u).getD 0 0:Nat):Int))),ve (.int .u16 (((trimN u).getD 0 0:Nat):Int)),ve (.bool (decide ((((trimN u).getD 0 0:Nat):Int)=45))),ve (.bool (decide ((((trimN u).getD 0 0:Nat):Int)=45)))] aN (.eq (.cons (fun _ _ _ n ⟨_,_,e,h⟩=>⟨_,_,e,h.new_ n⟩) (.eq (.eq (.eq .nil))))) ?_ ?_
 refine .M gw ?_
 refine .o1 (tk rfl rfl fun _ w hn k=>(by
  exact x_eaddr (k:=.u16) rfl elU (k.eq1 0 15 rfl) rfl (cw.new_ hn) (by omega) fun iD iE hme=>⟨iD,iE,rfl,hme⟩)) ?_
 refine .o1 (tk rfl rfl fun _ w hn k=>(by
  obtain⟨kZ,k0,iF,g2⟩:=k.G 1 16
  exact⟨_,v_load rfl iF (l_one isAgg79 g2.1),rfl⟩)) ?_
 exact .b 2 (r_eql rfl)<| .B 3 .nil
 refine aftI aN cq cr fun k1 k2 cz g3 g4 cA a5=>?_
 have⟨iG,gB⟩:=a5.f2 gv gw
 have iH:=a5.g 4 5
 have⟨g5,g6⟩:=nw2 cA cv cw
 refine g1 _ _ <| wk fun k3 g7=>?_
 refine wA tr2 [] 53 [ve (sv ah (trimN u) ad),ve (sv ah (trimN u) ad)] cz ?_ ?_
 exact .M gB<| .B 0 .nil
 refine aftI cz g3 g4 fun k4 k5 aO cB cC cD aP=>?_
 have⟨gC,cE,gD⟩:=aP.f3 iG gB iH
 have gE:=aP.g 1 6
 have⟨cF,a6⟩:=nw2 cD g5 g6
 refine g7 _ _ ?_
 refine wp_seq_j (fun (aa:Act) (ww:World)=>∃ (ng:Bool),∃ (dd:List Nat),∃ (A5:Option Addr),∃ (c5:Nat),aa.tmps.size=53∧aa.defers=[]∧New w ww∧aa.eval (.tmp 5)=.bool ng∧aa.eval (.tmp 6)=sv A5 dd c5∧aa.eval (.tmp 2)=pv cn∧aa.eval (.tmp 4)=sv ah (trimN u) ad∧Blk ww cn 23 [iv 0,iv 0]∧SRow ww .u16 A5 dd c5∧SRow ww .u16 ah (trimN u) ad∧(numR u=bodyR (trimN u) dd ng)∧(U16s dd)) ?_ ?_
 rintro k6 g8 ⟨ng,dd,A5,c5,bf,dQ,bg,g9,ha,hc,hd,bh,dR,dS,hbody,hdd⟩
 refine wk fun js dT=>?_
 refine wB [true,true,false] [] [(2,false)] 53 [ve (nv (Nm.mk 2 0)),IsNew g8 23 [iv 0,iv 0],vt] [1] bf ?_ heN ?_
 exact .o1 (ck rfl rfl rfl (fun _ w hn k=>⟨#[],rfl,fun _=>by kernel_rfl,rNaN_c  _ ⟩) fun _=>rfl)<| .Y<| .off .nil
 refine aftI bf dQ bg fun jt ju bi dU dV aQ ak=>?_
 have⟨hf,cG,hg,hh⟩:=ak.f4 g9 ha hc hd
 have hi:=ak.g 0 29
 obtain⟨hj,cH,bj,aR⟩:=ak.G 1 7
 have dW:=bh.new_ aQ
 have hne128:cn ≠ hj:=by have h1:=bh.lt; have h2:=bj; omega
 have jc:=Nat.le_trans bg.size bj
 have⟨dX,dY⟩:=nw2 aQ dR dS
 refine sS2 cH hi aR fun cI dZ aS d0=>?_
 have bk:=dX.fr aR aS
 have d2:=dY.fr aR aS
 have d3:=d0 hne128 dW
 have d4:=dV.tR aS
 refine dT _ _ <| wk fun jw bl=>?_
 refine wb<| wk fun jx d5=>?_
 refine wp_g0 [true,true,true,true] [] 53
  [ve (sv A5 dd c5),
  (OP cI.heap.size 79 .u16 (asc ⟨#[73,110,102,105,110,105,116,121]⟩)),ve (.bool (decide (dd=(asc ⟨#[73,110,102,105,110,105,116,121]⟩)))),ve (.bool (decide (dd=(asc ⟨#[73,110,102,105,110,105,116,121]⟩))))] bi (.eq (.cons (fun _ _ _ n ⟨_,_,e,h⟩=>⟨_,_,e,h.new_ n⟩) (.eq (.eq .nil)))) ?_ ?_
 refine .M cG ?_
 refine .o1 (tkC rfl (noG rfl) rfl fun _ w hn k=>(by
  refine ⟨#[.string ⟨#[73,110,102,105,110,105,116,121]⟩],_,args1 rfl,fun w=>by kernel_rfl,rascii_c ⟨#[73,110,102,105,110,105,116,121]⟩ _ (by first|omega|(show (_:Nat)≤_; decide)),?_⟩
  rintro e w' ⟨iK,iL,rfl,hmo0,hm⟩
  exact⟨_,rfl,hm,⟨iK,iL,rfl,(hmo0.more hn.size)⟩⟩)) ?_
 refine .o1 (tkC rfl (noG rfl) rfl fun _ w hn k=>(by
  obtain⟨iM,iN,iO,hl⟩:=k.G 1 36
  refine ⟨#[sv A5 dd c5,sv iM (asc ⟨#[73,110,102,105,110,105,116,121]⟩) iN],_,args2 (k.eq1 0 35 rfl) iO,fun w=>by kernel_rfl,rlist16_c _ dd _ _ (asc ⟨#[73,110,102,105,110,105,116,121]⟩) _ _ (bk.new_ hn) hl.row,?_⟩
  rintro e w' ⟨rfl,hm⟩
  exact⟨_,rfl,hm,rfl⟩)) ?_
 exact .B 2 .nil
 refine aftI bi dU d4 fun jy jz aA bm bn aB al=>?_
 have⟨cK,cL,cM,ho⟩:=al.f4 hf cG hg hh
 have cN:=al.f1 cH
 have cO:=al.g 3 34
 have⟨bo,bp,bq,d6⟩:=nw4 aB d3 dZ bk d2
 refine d5 _ _ ?_
 rcases bc (decide (dd=(asc ⟨#[73,110,102,105,110,105,116,121]⟩))) with ac|ac
 have cP:=oT ac
 have d7:=hB cO ac
 refine wt d7<| wp_g0 [true,false] [(1,false)] 53
  [ve (nv (Nm.mk 3 0)),vt] aA (.eq (.tt .nil)) ?_ ?_
 exact .T (fun k=>v_build (ps:=[(0,iv 3)]) rfl (parts1 rfl) (by kernel_rfl))<| .off .nil
 refine aftI aA bm bn fun jA jB br d8 d9 bs aC=>?_
 have⟨hr,hs,cQ⟩:=aC.f3 cK cM cN
 have ht:=aC.g 0 38
 have⟨ea,eb⟩:=nw2 bs bo bp
 refine sS2 cQ ht eb fun jC ec ed ee=>?_
 have eg:=ee hne128 ea
 have eh:=d9.tR ed
 refine bl _ _ <| wk fun jE bt=>?_
 refine wk fun jF ei=>?_
 refine wA tr1 [] 53 [ve (.bool ng)] br ?_ ?_
 exact .M hr .nil
 refine aftI br d8 eh fun jG jH aD bu bv bw aT=>?_
 have⟨cS,a7⟩:=aT.f2 hs cQ
 have cT:=aT.g 0 49
 have⟨bx,aU⟩:=nw2 bw eg ec
 refine ei _ _ ?_
 rcases bc (ng) with au|au
 have ej:=hB cT au
 refine wt ej<| wp_g0 [true,true,false] [(2,false)] 53
  [ve (nv (Nm.mk 3 0)),ve (nv (negM (Nm.mk 3 0))),vt] aD (.eq (.eq (.tt .nil))) ?_ ?_
 exact .L2 a7 aU<| .C 0 (fun p=>rneg_c (Nm.mk 3 0) _)<| .off .nil
 refine aftI aD bu bv fun jI jJ bz ek el bA aV=>?_
 have⟨hv,cU⟩:=aV.f2 cS a7
 have hw:=aV.g 1 51
 have⟨em,en⟩:=nw2 bA bx aU
 refine sS2 cU hw en fun jK eo ep er=>?_
 have et:=er hne128 em
 have eu:=el.tR ep
 refine bt _ _ <| wk fun jM ev=>?_
 refine wA [true,false,false] [(1,false),(2,true)] 53 [ve (nv (negM (Nm.mk 3 0))),vt,vt] bz ?_ ?_
 exact .L2 cU eo<| .off<| .off .nil
 refine aftI bz ek eu fun cW jN bB ew ex ey bC=>?_
 have cX:=bC.f1 hv
 have cY:=bC.g 0 52
 have ez:=et.new_ ey
 refine sS2 cX cY ez fun jO eA eB jd=>?_
 have eD:=ex.tR eB
 refine sP (v:=.bool true) rfl bB ew fun hx je eE am hz=>?_
 have⟨hy,jQ⟩:=am.q2 cX cY
 refine ev _ _<| wp_ret (ret_k eE (v:=.tuple #[nv (negM (Nm.mk 3 0)),.bool true]) (res_ct rfl hy hz (l_two isAgg23 sizeOf23 eA)) ?_)
 refine ⟨?_,eD⟩
 show Ending.returned (.tuple #[nv (negM (Nm.mk 3 0)),.bool true])=Ending.returned (.tuple #[nv ((numR u).1),.bool ((numR u).2)])
 first|rfl|(simp only [hbody,bodyR,ab,ac,au,bsm] <;> rfl)|(exfalso; omega)
 have eF:=hB cT au
 refine wf eF<| ws<| bt _ _<| wk fun jR eG=>?_
 refine wA [true,false,false] [(1,false),(2,true)] 53 [ve (nv (Nm.mk 3 0)),vt,vt] aD ?_ ?_
 exact .L2 a7 aU<| .off<| .off .nil
 refine aftI aD bu bv fun c0 jS bD eH eI eJ bE=>?_
 have c1:=bE.f1 cS
 have c3:=bE.g 0 52
 have eK:=bx.new_ eJ
 refine sS2 c1 c3 eK fun jT eL eM jf=>?_
 have eO:=eI.tR eM
 refine sP (v:=.bool true) rfl bD eH fun hA jg eP an hD=>?_
 have⟨hC,jV⟩:=an.q2 c1 c3
 refine eG _ _<| wp_ret (ret_k eP (v:=.tuple #[nv (Nm.mk 3 0),.bool true]) (res_ct rfl hC hD (l_two isAgg23 sizeOf23 eL)) ?_)
 refine ⟨?_,eO⟩
 show Ending.returned (.tuple #[nv (Nm.mk 3 0),.bool true])=Ending.returned (.tuple #[nv ((numR u).1),.bool ((numR u).2)])
 first|rfl|(simp only [hbody,bodyR,ab,ac,au,bsm] <;> rfl)|(exfalso; omega)
 have cP:=oF ac
 have eQ:=hB cO ac
 refine wf eQ<| wk fun jW eR=>?_
 refine wA tr3 [] 53 [ve (sv A5 dd c5),ve (.bool (digitsT dd)),ve (.bool (digitsT dd))] aA ?_ ?_
 exact .M cL<| .C 0 (fun p=>rdigits_c _ dd _ _ (bq.new_ p) hdd)<| .B 1 .nil
 refine aftI aA bm bn fun jX jY aE bF bG aF ao=>?_
 have⟨hE,hF,c9,hG⟩:=ao.f4 cK cL cM ho
 have da:=ao.f1 cN
 have db:=ao.g 2 39
 have⟨bH,bI,eS,eT⟩:=nw4 aF bo bp bq d6
 refine eR _ _ ?_
 rcases bc (digitsT dd) with ae|ae
 have eU:=hB db ae
 refine wt eU<| wk fun jZ eV=>?_
 refine wA tr3 [] 53 [ve (sv A5 dd c5),ve (iv (wholeR dd 0)),ve (iv (wholeR dd 0))] aE ?_ ?_
 exact .M hF<| .C 0 (fun p=>rwhole3_c _ dd _ _ (eS.new_ p) hdd (digs_of2 ae))<| .B 1 .nil
 refine aftI aE bF bG fun j0 j1 bJ eW eX bK aG=>?_
 have⟨hH,hI,hJ⟩:=aG.f3 hE c9 da
 have dc:=aG.g 2 8
 have⟨eY,eZ⟩:=nw2 bK bH bI
 refine eV _ _ <| wk fun j2 e0=>?_
 refine wk fun j3 e1=>?_
 refine wA tr2 [] 53 [ve (iv (wholeR dd 0)),ve (.bool (decide ((wholeR dd 0) < 0)))] bJ ?_ ?_
 exact .M dc<| .b 0 (r_lssK rfl) .nil
 refine aftI bJ eW eX fun j4 j5 aH bL bM bN av=>?_
 have⟨hK,de,df,hL⟩:=av.f4 hH hI hJ dc
 have dg:=av.g 1 45
 have⟨bO,bP⟩:=nw2 bN eY eZ
 refine e1 _ _ ?_
 rcases bc (decide ((wholeR dd 0) < 0)) with af|af
 have dh:=oT af
 have e2:=hB dg af
 refine wt e2<| wk fun j6 e3=>?_
 refine wA [true,false,false] [(1,false),(2,true)] 53 [ve (nv (Nm.mk 2 0)),vt,vt] aH ?_ ?_
 exact .L2 df bP<| .off<| .off .nil
 refine aftI aH bL bM fun di j7 bQ e4 e5 e6 bR=>?_
 have dj:=bR.f1 de
 have dk:=bR.g 0 46
 have e8:=bO.new_ e6
 refine sS2 dj dk e8 fun j8 e9 fa jh=>?_
 have fc:=e5.tR fa
 refine sP (v:=.bool false) rfl bQ e4 fun hM ji fd ap hO=>?_
 have⟨hN,ka⟩:=ap.q2 dj dk
 refine e3 _ _<| wp_ret (ret_k fd (v:=.tuple #[nv (Nm.mk 2 0),.bool false]) (res_ct rfl hN hO (l_two isAgg23 sizeOf23 e9)) ?_)
 refine ⟨?_,fc⟩
 show Ending.returned (.tuple #[nv (Nm.mk 2 0),.bool false])=Ending.returned (.tuple #[nv ((numR u).1),.bool ((numR u).2)])
 first|rfl|(simp only [hbody,bodyR,ab,ac,ae,af,bsm] <;> rfl)|(exfalso; omega)
 have dh:=oF af
 have fe:=hB dg af
 refine wf fe<| ws<| e0 _ _<| wA [true,true,false] [(2,false)] 53 [ve (iv (wholeR dd 0)),ve (nv (Nm.mk 0 (wholeR dd 0))),vt] aH ?_ ?_
 exact .M hL<| .T (fun k=>v_build (ps:=[(1,iv (wholeR dd 0))]) rfl (parts1 (k.eq1 0 47 rfl)) (by kernel_rfl))<| .off .nil
 refine aftI aH bL bM fun kb kc bS ff fg bT aI=>?_
 have⟨hP,hQ,dm⟩:=aI.f3 hK de df
 have hR:=aI.g 1 48
 have⟨fh,fi⟩:=nw2 bT bO bP
 refine sS2 dm hR fi fun kd fj fk fl=>?_
 have fn:=fl hne128 fh
 have fo:=fg.tR fk
 refine bl _ _ <| wk fun kf bU=>?_
 refine wk fun kg fp=>?_
 refine wA tr1 [] 53 [ve (.bool ng)] bS ?_ ?_
 exact .M hP .nil
 refine aftI bS ff fo fun kh ki aJ bV bW bX aW=>?_
 have⟨dp,a8⟩:=aW.f2 hQ dm
 have dq:=aW.g 0 49
 have⟨bY,aX⟩:=nw2 bX fn fj
 refine fp _ _ ?_
 rcases bc (ng) with aw|aw
 have fq:=hB dq aw
 refine wt fq<| wp_g0 [true,true,false] [(2,false)] 53
  [ve (nv (Nm.mk 0 (wholeR dd 0))),ve (nv (negM (Nm.mk 0 (wholeR dd 0)))),vt] aJ (.eq (.eq (.tt .nil))) ?_ ?_
 exact .L2 a8 aX<| .C 0 (fun p=>rneg_c (Nm.mk 0 (wholeR dd 0)) _)<| .off .nil
 refine aftI aJ bV bW fun kj kk bZ fs ft b0 aY=>?_
 have⟨hS,dr⟩:=aY.f2 dp a8
 have hT:=aY.g 1 51
 have⟨fu,fv⟩:=nw2 b0 bY aX
 refine sS2 dr hT fv fun kl fw fy fz=>?_
 have fB:=fz hne128 fu
 have fC:=ft.tR fy
 refine bU _ _ <| wk fun kn fD=>?_
 refine wA [true,false,false] [(1,false),(2,true)] 53 [ve (nv (negM (Nm.mk 0 (wholeR dd 0)))),vt,vt] bZ ?_ ?_
 exact .L2 dr fw<| .off<| .off .nil
 refine aftI bZ fs fC fun dt ko b1 fE fF fG b2=>?_
 have du:=b2.f1 hS
 have dv:=b2.g 0 52
 have fH:=fB.new_ fG
 refine sS2 du dv fH fun kp fI fJ jj=>?_
 have fL:=fF.tR fJ
 refine sP (v:=.bool true) rfl b1 fE fun hU jk fM aq hW=>?_
 have⟨hV,kr⟩:=aq.q2 du dv
 refine fD _ _<| wp_ret (ret_k fM (v:=.tuple #[nv (negM (Nm.mk 0 (wholeR dd 0))),.bool true]) (res_ct rfl hV hW (l_two isAgg23 sizeOf23 fI)) ?_)
 refine ⟨?_,fL⟩
 show Ending.returned (.tuple #[nv (negM (Nm.mk 0 (wholeR dd 0))),.bool true])=Ending.returned (.tuple #[nv ((numR u).1),.bool ((numR u).2)])
 first|rfl|(simp only [hbody,bodyR,ab,ac,ae,af,aw,bsm] <;> rfl)|(exfalso; omega)
 have fN:=hB dq aw
 refine wf fN<| ws<| bU _ _<| wk fun ks fO=>?_
 refine wA [true,false,false] [(1,false),(2,true)] 53 [ve (nv (Nm.mk 0 (wholeR dd 0))),vt,vt] aJ ?_ ?_
 exact .L2 a8 aX<| .off<| .off .nil
 refine aftI aJ bV bW fun dx kt b3 fP fQ fR b4=>?_
 have dy:=b4.f1 dp
 have dz:=b4.g 0 52
 have fS:=bY.new_ fR
 refine sS2 dy dz fS fun ku fT fU jl=>?_
 have fW:=fQ.tR fU
 refine sP (v:=.bool true) rfl b3 fP fun hX jm fX ar hZ=>?_
 have⟨hY,kw⟩:=ar.q2 dy dz
 refine fO _ _<| wp_ret (ret_k fX (v:=.tuple #[nv (Nm.mk 0 (wholeR dd 0)),.bool true]) (res_ct rfl hY hZ (l_two isAgg23 sizeOf23 fT)) ?_)
 refine ⟨?_,fW⟩
 show Ending.returned (.tuple #[nv (Nm.mk 0 (wholeR dd 0)),.bool true])=Ending.returned (.tuple #[nv ((numR u).1),.bool ((numR u).2)])
 first|rfl|(simp only [hbody,bodyR,ab,ac,ae,af,aw,bsm] <;> rfl)|(exfalso; omega)
 have fY:=hB db ae
 refine wf fY<| wk fun kx fZ=>?_
 refine wB [true,true,true,true,false,false] [3] [(4,false),(5,true)] 53 [ve (nv (Nm.mk 2 0)),ve (sv ah (trimN u) ad),ve (.bool (numericN ⟨#[120,88,111,79,46,43,45,95]⟩ (trimN u))),ve (.bool (!(numericN ⟨#[120,88,111,79,46,43,45,95]⟩ (trimN u)))),vt,vt] [] aE ?_ ?_ ?_
 refine .L2 da bI<| .M hG<| .D (fun k=>args2 (k.eq1 1 31 rfl) rfl) (fun p=>rnumeric_c _ (trimN u) _ ⟨#[120,88,111,79,46,43,45,95]⟩ _ (eT.new_ p) hut (by first|omega|(show (_:Nat)≤_; decide))) ?_
 refine .o3 ?_
 exact .off<| .off .nil
 refine eg1 ?_
 exact eager_take rfl rfl fun _ w hn k=>⟨.bool (!(numericN ⟨#[120,88,111,79,46,43,45,95]⟩ (trimN u))),fun w=>v_not rfl (k.eq1 2 32 rfl),rfl⟩
 refine aftI aE bF bG fun dB ky b5 f0 f1 f2 aZ=>?_
 have dC:=aZ.f1 c9
 have dD:=aZ.g 0 30
 have dE:=aZ.g 3 33
 have f3:=bH.new_ f2
 refine sS2 dC dD f3 fun kz f4 f5 jn=>?_
 have f7:=f1.tR f5
 refine sP dE b5 f0 fun h3 jo f8 ai h5=>?_
 have⟨h4,kB,kC⟩:=ai.q3 dC dD dE
 refine fZ _ _<| wp_ret (ret_k f8 (v:=.tuple #[nv (Nm.mk 2 0),.bool (!(numericN ⟨#[120,88,111,79,46,43,45,95]⟩ (trimN u)))]) (res_ct rfl h4 h5 (l_two isAgg23 sizeOf23 f4)) ?_)
 refine ⟨?_,f7⟩
 show Ending.returned (.tuple #[nv (Nm.mk 2 0),.bool (!(numericN ⟨#[120,88,111,79,46,43,45,95]⟩ (trimN u)))])=Ending.returned (.tuple #[nv ((numR u).1),.bool ((numR u).2)])
 first|rfl|(simp only [hbody,bodyR,ab,ac,ae,bsm] <;> rfl)|(exfalso; omega)
 intro kD a1
 refine wk fun kE b6=>?_
 rcases bc (decide ((((trimN u).getD 0 0:Nat):Int)=45)) with ag|ag
 have dG:=oT ag
 have b7:=hB gD ag
 refine wA tr7 [] 53 [vT,vT,vU,vU,vU,vU,vT] aO ?_ ?_
 exact .M b7<| .N 0<| .S<| .S<| .S<| .S<| .T (fun k=>v_pickT rfl (k.eq1 1 21 rfl) rfl) .nil
 refine aftI aO cB cC fun kF kG b8 f9 ga b9 ax=>?_
 have⟨h6,dH,h7,kH⟩:=ax.f4 gC cE b7 gE
 have ia:=ax.g 6 26
 have⟨gb,ca⟩:=nw2 b9 cF a6
 refine b6 _ _<| wt ia<| wp_g0 [true,true,true] [] 53
  [ve (sv ah (trimN u) ad),
  (RP .u16 ((trimN u).drop 1)),
  (RP .u16 ((trimN u).drop 1))] b8 (.eq (.cons (fun _ _ _ n ⟨_,_,e,h⟩=>⟨_,_,e,h.new_ n⟩) (.cons (fun _ _ _ n ⟨_,_,e,h⟩=>⟨_,_,e,h.new_ n⟩) .nil))) ?_ ?_
 refine .M dH ?_
 refine .o1 (tk rfl rfl fun _ w hn k=>(by
  exact x_cutL (k:=.u16) rfl elU (k.eq1 0 27 rfl) rfl (ca.new_ hn) (by omega) fun iT iU hmr=>⟨iT,iU,rfl,hmr⟩)) ?_
 refine .o1 (tk rfl rfl fun _ w hn k=>(by
  obtain⟨iV,iW,iX,ib⟩:=k.G 1 28
  exact⟨_,v_assign rfl iX,⟨iV,iW,rfl,ib⟩⟩)) ?_
 exact .nil
 refine aftI b8 f9 ga fun ic kI gc gd gf cb aK=>?_
 have⟨id,ie,ig⟩:=aK.f3 h6 dH h7
 obtain⟨dI,cc,a9,gg⟩:=aK.G 2 6
 have a9:ic.eval (.tmp 6)=sv dI ((trimN u).drop 1) cc:=a9
 have⟨gh,gi⟩:=nw2 cb gb ca
 refine st_nil ?_
 exact a1 _ _ ⟨true,((trimN u).drop 1),dI,cc,gc,gd,gf,ig,a9,id,ie,gh,gg,gi,(by unfold numR; simp only [ab,ag,bsm]),(hut.drop 1)⟩
 have dG:=oF ag
 have cd:=hB gD ag
 refine wp_g0 [true,true,true,true,true,true,true] [] 53
  [vF,vF,ve (sv ah (trimN u) ad),
  (EP (.int .u16 (((trimN u).getD 0 0:Nat):Int))),ve (.int .u16 (((trimN u).getD 0 0:Nat):Int)),ve (.bool (decide ((((trimN u).getD 0 0:Nat):Int)=43))),ve (.bool (decide ((((trimN u).getD 0 0:Nat):Int)=43)))] aO (.eq (.eq (.eq (.cons (fun _ _ _ n ⟨_,_,e,h⟩=>⟨_,_,e,h.new_ n⟩) (.eq (.eq (.eq .nil))))))) ?_ ?_
 refine .M cd<| .N 0<| .gm (fun k=>k.eq1 1 21 rfl) (fun k=>k.fx 4 cE) ?_
 refine .o1 (tg rfl rfl rfl (fun _ _ k=>k.eq1 1 21 rfl) fun _ w hn k=>(by
  exact x_eaddr (k:=.u16) rfl elU (k.eq1 2 22 rfl) rfl (a6.new_ hn) (by omega) fun i0 i1 hme=>⟨i0,i1,rfl,hme⟩)) ?_
 refine .o1 (tg rfl rfl rfl (fun _ _ k=>k.eq1 1 21 rfl) fun _ w hn k=>(by
  obtain⟨k7,k8,i2,ih⟩:=k.G 3 23
  exact⟨_,v_load rfl i2 (l_one isAgg79 ih.1),rfl⟩)) ?_
 exact .V (fun p k=>v_bin rfl (k.eq1 4 24 rfl) rfl (fun _=>rfl) (r_eql rfl))<| .T (fun k=>v_pickF rfl (k.eq1 1 21 rfl) (k.eq1 5 25 rfl)) .nil
 refine aftI aO cB cC fun kJ kK a3 ce cf ch ay=>?_
 have⟨dJ,ba,dK,ii⟩:=ay.f4 gC cE cd gE
 have dL:=ay.g 6 26
 have⟨ci,aL⟩:=nw2 ch cF a6
 refine b6 _ _ ?_
 rcases bc (decide ((((trimN u).getD 0 0:Nat):Int)=43)) with aj|aj
 have dM:=oT aj
 have gj:=hB dL aj
 refine wt gj<| wp_g0 [true,true,true] [] 53
  [ve (sv ah (trimN u) ad),
  (RP .u16 ((trimN u).drop 1)),
  (RP .u16 ((trimN u).drop 1))] a3 (.eq (.cons (fun _ _ _ n ⟨_,_,e,h⟩=>⟨_,_,e,h.new_ n⟩) (.cons (fun _ _ _ n ⟨_,_,e,h⟩=>⟨_,_,e,h.new_ n⟩) .nil))) ?_ ?_
 refine .M ba ?_
 refine .o1 (tk rfl rfl fun _ w hn k=>(by
  exact x_cutL (k:=.u16) rfl elU (k.eq1 0 27 rfl) rfl (aL.new_ hn) (by omega) fun i7 i8 hmr=>⟨i7,i8,rfl,hmr⟩)) ?_
 refine .o1 (tk rfl rfl fun _ w hn k=>(by
  obtain⟨i9,ja,jb,ij⟩:=k.G 1 28
  exact⟨_,v_assign rfl jb,⟨i9,ja,rfl,ij⟩⟩)) ?_
 exact .nil
 refine aftI a3 ce cf fun ik kL gk gl gn cj aM=>?_
 have⟨il,im,io⟩:=aM.f3 dJ ba dK
 obtain⟨dN,cl,bb,go⟩:=aM.G 2 6
 have bb:ik.eval (.tmp 6)=sv dN ((trimN u).drop 1) cl:=bb
 have⟨gp,gq⟩:=nw2 cj ci aL
 refine st_nil ?_
 exact a1 _ _ ⟨false,((trimN u).drop 1),dN,cl,gk,gl,gn,io,bb,il,im,gp,go,gq,(by unfold numR; simp only [ab,ag,aj,bsm]),(hut.drop 1)⟩
 have dM:=oF aj
 have gr:=hB dL aj
 refine wf gr<| ws<| a1 _ _ ⟨false,(trimN u),ah,ad,a3,ce,cf,dK,ii,dJ,ba,ci,aL,aL,(by unfold numR; simp only [ab,ag,aj,bsm]),hut⟩
theorem rnumber3_c (Au:Option Addr) (u:List Nat) (cu:Nat) (w:World) (hru:SRow w .u16 Au u cu) (hu:U16s u):Calls Tryz.prog 36 #[sv Au u cu] w (IsRet (.tuple #[nv ((numT u).1),.bool ((numT u).2)]) w):=by
  have h:=rnumber3_c0 Au u cu w hru hu
  rw [numR_eq] at h
  exact h

theorem qnumber_c0 (v:Vl) (Av:Option Addr) (cv:Nat) (Bv:Option Addr) (dv:Nat) (w:World) (hmv:SRow w .u32 Av v.mag cv) (hsv:SRow w .u16 Bv v.s dv) (hvv:VOk v):Calls prog 9 #[vv v Av cv Bv dv] w (IsRet (.tuple #[nv ((numberR v).1),iv ((numberR v).2)]) w):=by
 refine enter_abs func9 rfl fun a0 aZ gj hp=>?_
 have aZ:a0.tmps.size=40:=aZ
 have bE:New w w:=Upd.refl _ _
 have hp0:a0.eval (.tmp 0)=vv v Av cv Bv dv:=hp 0 _ rfl
 refine wk fun K1 gk=>?_
 refine wB tr3 [] [] 40 [IsNew w 32 (c7 v Av cv Bv dv),IsNew w 23 [iv 0,iv 0],ve (iv 0)] [0,1] aZ ?_ heN ?_
 exact .X hp0<| .Y<| .c .nil
 refine aftI aZ gj bE fun a2 w3 e0 gl aK hT bF=>?_
 obtain⟨q9,h8,e9,fa⟩:=bF.G 0 1
 obtain⟨bG,e1,fb,bH⟩:=bF.G 1 2
 have hne16:=bF.ne 0 1 1 2 h8 e1
 have gK:=Nat.le_trans bE.size e9
 have gL:=Nat.le_trans bE.size fb
 refine gk _ _ <| wk fun hU fc=>?_
 refine wp_g [true,true,true,false] [] [(3,false)] 40
  [ve (vv v Av cv Bv dv),
  (VP (cleanV v)),IsNew w3 32 z7,vt]
  [2] (newsCons (fun v w h=>IsNew.old h) newsNil) e0 (.eq (.cons (fun _ _ _ n ⟨_,_,_,_,e,h,i⟩=>⟨_,_,_,_,e,h.new_ n,i.new_ n⟩) (.nw (.tt .nil)))) ?_ (fun i h=>by cases h) ?_
 refine .L8 h8 fa ?_
 refine .o1 (tkC rfl (noG rfl) rfl fun _ w hn k=>(by
  refine ⟨#[vv v Av cv Bv dv],_,args1 (k.eq1 0 7 rfl),fun w=>by kernel_rfl,qgood_c v _ _ _ _ _ (hmv.new_ (aK.transNew hn)) (hsv.new_ (aK.transNew hn)),?_⟩
  rintro e w' ⟨A1,c2,A3,c4,rfl,hmo0,hmo1,hm⟩
  exact⟨_,rfl,hm,⟨A1,c2,A3,c4,rfl,hmo0,hmo1⟩⟩)) ?_
 exact .Y<| .off .nil
 refine aftI e0 gl aK fun gm hV bI fd fe ff aU=>?_
 have gn:=aU.f1 e1
 obtain⟨bJ,aV,aT,aI,bK,fg,fh⟩:=aU.G 1 8
 have bK:gm.eval (.tmp 8)=vv (cleanV v) bJ aV aT aI:=bK
 obtain⟨aJ,bL,bM,aW⟩:=aU.G 2 4
 have fi:=bH.new_ ff
 have hne40:bG ≠ aJ:=by have h1:=bH.lt; have h2:=bM; omega
 have gM:=Nat.le_trans aK.size bM
 refine sS8 bL bK aW fun go bN aX fj=>?_
 have fl:=fg.fr aW aX
 have fm:=fh.fr aW aX
 have fn:=fj hne40 fi
 have fo:=fe.tR aX
 refine fc _ _ <| wk fun hX bO=>?_
 refine wk fun hY fp=>?_
 refine wA tr2 [] 40 [ve (pv aJ),ve (iv ((cleanV v).k))] bI ?_ ?_
 exact .F bL<| .J 0 isAgg3 bN .nil
 refine aftI bI fd fo fun hZ h3 bP fq fs aL aY=>?_
 have⟨gp,gq⟩:=aY.f2 gn bL
 have e2:=aY.g 1 10
 have⟨ft,fu,fv,fw⟩:=nw4 aL fn bN fl fm
 refine fp _ _<| wb<| wk fun h4 fy=>?_
 refine wA tr2 [] 40 [ve (.bool (decide (((cleanV v).k)=0))),ve (.bool (decide (((cleanV v).k)=0)))] bP ?_ ?_
 exact .H e2 (r_eql rfl)<| .B 0 .nil
 refine aftI bP fq fs fun h5 h6 aM bQ bR aN aO=>?_
 have⟨e3,gr,e4⟩:=aO.f3 gp gq e2
 have e5:=aO.g 1 11
 have⟨bS,fz,fA,fB⟩:=nw4 aN ft fu fv fw
 refine fy _ _ ?_
 rcases bc (decide (((cleanV v).k)=0)) with ac|ac
 have cV:=oT ac
 have fC:=hB e5 ac
 refine wt fC<| wk fun h7 fD=>?_
 refine wA [true,false,false] [(1,false),(2,true)] 40 [ve (nv (Nm.mk 2 0)),vt,vt] aM ?_ ?_
 exact .o1 (ck rfl rfl rfl (fun _ w hn k=>⟨#[],rfl,fun _=>by kernel_rfl,rNaN_c  _ ⟩) fun _=>rfl)<| .off<| .off .nil
 refine aftI aM bQ bR fun e6 h9 bT fE fF fG bU=>?_
 have e7:=bU.f1 e3
 have e8:=bU.g 0 13
 have fH:=bS.new_ fG
 refine sS2 e7 e8 fH fun ia cW cX gs=>?_
 have cZ:=fF.tR cX
 refine sP (v:=iv 0) rfl bT fE fun fI gt c0 ah fK=>?_
 have⟨fJ,gO⟩:=ah.q2 e7 e8
 refine fD _ _<| wp_ret (ret_k c0 (v:=.tuple #[nv (Nm.mk 2 0),iv 0]) (res_ct rfl fJ fK (l_two isAgg23 sizeOf23 cW)) ?_)
 refine ⟨?_,cZ⟩
 show Ending.returned (.tuple #[nv (Nm.mk 2 0),iv 0])=Ending.returned (.tuple #[nv ((numberR v).1),iv ((numberR v).2)])
 first|rfl|(simp only [numberR,ac,bsm] <;> rfl)|(exfalso; omega)
 have cV:=oF ac
 have c1:=hB e5 ac
 refine wf c1<| wk fun gP c3=>?_
 refine wA tr2 [] 40 [ve (.bool (decide (((cleanV v).k)=1))),ve (.bool (decide (((cleanV v).k)=1)))] aM ?_ ?_
 exact .H e4 (r_eql rfl)<| .B 0 .nil
 refine aftI aM bQ bR fun gQ gR aq a1 a3 ar au=>?_
 have⟨bW,fL,bX⟩:=au.f3 e3 gr e4
 have bY:=au.g 1 14
 have⟨a4,c5,c9,da⟩:=nw4 ar bS fz fA fB
 refine c3 _ _ ?_
 rcases bc (decide (((cleanV v).k)=1)) with aa|aa
 have bZ:=oT aa
 have db:=hB bY aa
 refine wt db<| wk fun gS dc=>?_
 refine wA [true,false,false] [(1,false),(2,true)] 40 [ve (nv (Nm.mk 0 0)),vt,vt] aq ?_ ?_
 exact .Z<| .off<| .off .nil
 refine aftI aq a1 a3 fun b0 gT a5 dd de df a6=>?_
 have b1:=a6.f1 bW
 have b2:=a6.g 0 16
 have dg:=a4.new_ df
 refine sS2 b1 b2 dg fun gU dh di gu=>?_
 have dk:=de.tR di
 refine sP (v:=iv 0) rfl a5 dd fun fM gv dl ai fO=>?_
 have⟨fN,gW⟩:=ai.q2 b1 b2
 refine dc _ _<| wp_ret (ret_k dl (v:=.tuple #[nv (Nm.mk 0 0),iv 0]) (res_ct rfl fN fO (l_two isAgg23 sizeOf23 dh)) ?_)
 refine ⟨?_,dk⟩
 show Ending.returned (.tuple #[nv (Nm.mk 0 0),iv 0])=Ending.returned (.tuple #[nv ((numberR v).1),iv ((numberR v).2)])
 first|rfl|(simp only [numberR,ac,aa,bsm] <;> rfl)|(exfalso; omega)
 have bZ:=oF aa
 have dm:=hB bY aa
 refine wf dm<| wk fun gX dn=>?_
 refine wA tr2 [] 40 [ve (.bool (decide (((cleanV v).k)=2))),ve (.bool (decide (((cleanV v).k)=2)))] aq ?_ ?_
 exact .H bX (r_eql rfl)<| .B 0 .nil
 refine aftI aq a1 a3 fun gY gZ av a7 a8 aw ax=>?_
 have⟨b4,b5,b6⟩:=ax.f3 bW fL bX
 have b7:=ax.g 1 17
 have⟨a9,ba,dp,dq⟩:=nw4 aw a4 c5 c9 da
 refine dn _ _ ?_
 rcases bc (decide (((cleanV v).k)=2)) with ab|ab
 have b8:=oT ab
 have dr:=hB b7 ab
 refine wt dr<| wk fun g0 ds=>?_
 refine wA [true,true,true,false,false] [(3,false),(4,true)] 40 [ve (.pointer (some ⟨aJ,6,none⟩)),ve (iv ((cleanV v).ref)),ve (nv (Nm.mk 0 ((cleanV v).ref))),vt,vt] av ?_ ?_
 exact .F b5<| .J 0 isAgg3 ba<| .T (fun k=>v_build (ps:=[(1,iv ((cleanV v).ref))]) rfl (parts1 (k.eq1 1 20 rfl)) (by kernel_rfl))<| .off<| .off .nil
 refine aftI av a7 a8 fun b9 g1 bb dt du dw bd=>?_
 have ca:=bd.f1 b4
 have cb:=bd.g 2 21
 have dx:=a9.new_ dw
 refine sS2 ca cb dx fun g2 dy dz gw=>?_
 have dB:=du.tR dz
 refine sP (v:=iv 0) rfl bb dt fun fP gx dC aj fR=>?_
 have⟨fQ,g4⟩:=aj.q2 ca cb
 refine ds _ _<| wp_ret (ret_k dC (v:=.tuple #[nv (Nm.mk 0 ((cleanV v).ref)),iv 0]) (res_ct rfl fQ fR (l_two isAgg23 sizeOf23 dy)) ?_)
 refine ⟨?_,dB⟩
 show Ending.returned (.tuple #[nv (Nm.mk 0 ((cleanV v).ref)),iv 0])=Ending.returned (.tuple #[nv ((numberR v).1),iv ((numberR v).2)])
 first|rfl|(simp only [numberR,ac,aa,ab,bsm] <;> rfl)|(exfalso; omega)
 have b8:=oF ab
 have dD:=hB b7 ab
 refine wf dD<| wk fun g5 dE=>?_
 refine wA tr2 [] 40 [ve (.bool (decide (((cleanV v).k)=3))),ve (.bool (decide (((cleanV v).k)=3)))] av ?_ ?_
 exact .H b6 (r_eql rfl)<| .B 0 .nil
 refine aftI av a7 a8 fun g6 g7 ay be bf az aA=>?_
 have⟨cd,ce,cf⟩:=aA.f3 b4 b5 b6
 have ch:=aA.g 1 22
 have⟨bg,bh,dF,dG⟩:=nw4 az a9 ba dp dq
 refine dE _ _ ?_
 rcases bc (decide (((cleanV v).k)=3)) with ad|ad
 have ci:=oT ad
 have dH:=hB ch ad
 refine wt dH<| wk fun g8 dI=>?_
 refine wA [true,true,false,false] [(2,false),(3,true)] 40 [ve (.pointer (some ⟨aJ,1,none⟩)),ve (nv (Nm.mk ((cleanV v).nk) ((cleanV v).nn))),vt,vt] ay ?_ ?_
 exact .F ce<| .K2 0 bh<| .off<| .off .nil
 refine aftI ay be bf fun cj g9 bi dJ dK dL bj=>?_
 have cl:=bj.f1 cd
 have cm:=bj.g 1 25
 have dM:=bg.new_ dL
 refine sS2 cl cm dM fun ha dN dO gy=>?_
 have dQ:=dK.tR dO
 refine sP (v:=iv 0) rfl bi dJ fun fS gz dR ak fU=>?_
 have⟨fT,hd⟩:=ak.q2 cl cm
 refine dI _ _<| wp_ret (ret_k dR (v:=.tuple #[nv (Nm.mk ((cleanV v).nk) ((cleanV v).nn)),iv 0]) (res_ct rfl fT fU (l_two isAgg23 sizeOf23 dN)) ?_)
 refine ⟨?_,dQ⟩
 show Ending.returned (.tuple #[nv (Nm.mk ((cleanV v).nk) ((cleanV v).nn)),iv 0])=Ending.returned (.tuple #[nv ((numberR v).1),iv ((numberR v).2)])
 first|rfl|(simp only [numberR,ac,aa,ab,ad,bsm] <;> rfl)|(exfalso; omega)
 have ci:=oF ad
 have dS:=hB ch ad
 refine wf dS<| wk fun hf dT=>?_
 refine wA tr2 [] 40 [ve (.bool (decide (((cleanV v).k)=4))),ve (.bool (decide (((cleanV v).k)=4)))] ay ?_ ?_
 exact .H cf (r_eql rfl)<| .B 0 .nil
 refine aftI ay be bf fun hg hh aB bk bl aC aD=>?_
 have⟨co,fV,fW⟩:=aD.f3 cd ce cf
 have cp:=aD.g 1 26
 have⟨bm,dU,dV,dW⟩:=nw4 aC bg bh dF dG
 refine dT _ _ ?_
 rcases bc (decide (((cleanV v).k)=4)) with ae|ae
 have cq:=oT ae
 have dX:=hB cp ae
 refine wt dX<| wk fun hi dY=>?_
 refine wA [true,false,false] [(1,false),(2,true)] 40 [ve (nv (Nm.mk 0 0)),vt,vt] aB ?_ ?_
 exact .Z<| .off<| .off .nil
 refine aftI aB bk bl fun cr hj bn dZ d0 d1 bo=>?_
 have ct:=bo.f1 co
 have cu:=bo.g 0 28
 have d2:=bm.new_ d1
 refine sS2 ct cu d2 fun hl d3 d4 gA=>?_
 have d6:=d0.tR d4
 refine sP (v:=iv 1) rfl bn dZ fun fX gB d7 al fZ=>?_
 have⟨fY,hr⟩:=al.q2 ct cu
 refine dY _ _<| wp_ret (ret_k d7 (v:=.tuple #[nv (Nm.mk 0 0),iv 1]) (res_ct rfl fY fZ (l_two isAgg23 sizeOf23 d3)) ?_)
 refine ⟨?_,d6⟩
 show Ending.returned (.tuple #[nv (Nm.mk 0 0),iv 1])=Ending.returned (.tuple #[nv ((numberR v).1),iv ((numberR v).2)])
 first|rfl|(simp only [numberR,ac,aa,ab,ad,ae,bsm] <;> rfl)|(exfalso; omega)
 have cq:=oF ae
 have d8:=hB cp ae
 refine wf d8<| wk fun hs d9=>?_
 refine wA tr2 [] 40 [ve (.bool (decide (((cleanV v).k)=5))),ve (.bool (decide (((cleanV v).k)=5)))] aB ?_ ?_
 exact .H fW (r_eql rfl)<| .B 0 .nil
 refine aftI aB bk bl fun ht f0 aE bp aP aF aQ=>?_
 have⟨cx,f1⟩:=aQ.f2 co fV
 have cy:=aQ.g 1 29
 have⟨aR,ea,gC,eb⟩:=nw4 aF bm dU dV dW
 refine d9 _ _ ?_
 rcases bc (decide (((cleanV v).k)=5)) with af|af
 have cz:=oT af
 have ec:=hB cy af
 refine wt ec<| wk fun hu ed=>?_
 refine wB [true,true,true,true,true,true,true,false,false] [5] [(7,false),(8,true)] 40 [ve (.pointer (some ⟨aJ,5,none⟩)),ve (sv aT ((cleanV v).s) aI),ve (.tuple #[nv ((numT ((cleanV v).s)).1),.bool ((numT ((cleanV v).s)).2)]),ve (.tuple #[nv ((numT ((cleanV v).s)).1),.bool ((numT ((cleanV v).s)).2)]),ve (nv ((numT ((cleanV v).s)).1)),ve (.bool ((numT ((cleanV v).s)).2)),IsNew f0 23 [iv 0,iv 0],vt,vt] [6] aE ?_ ?_ ?_
 refine .F f1<| .J 0 isAgg27 ea<| .C 1 (fun p=>rnumber3_c _ ((cleanV v).s) _ _ (eb.new_ p) hvv.clean.units)<| .N 2<| .E 3 ?_
 refine .o3 ?_
 exact .Y<| .off<| .off .nil
 refine eg1 ?_
 exact eager_take rfl rfl fun _ w hn k=>⟨.bool ((numT ((cleanV v).s)).2),fun w=>v_extract rfl (k.eq1 3 31 rfl) rfl,rfl⟩
 refine aftI aE bp aP fun cA hv bq ee ef eg aG=>?_
 have f2:=aG.f1 cx
 have cB:=aG.g 4 35
 have cC:=aG.g 5 36
 obtain⟨f3,cD,br,eh⟩:=aG.G 6 5
 have ei:=aR.new_ eg
 have hne327:bG ≠ f3:=by have h1:=aR.lt; have h2:=br; omega
 have gD:=Nat.le_trans aP.size br
 refine sS2 cD cB eh fun hw ej ek el=>?_
 have en:=el hne327 ei
 have eo:=ef.tR ek
 refine sP cC bq ee fun f4 bs ep ag f7=>?_
 have⟨f5,hy,hz⟩:=ag.q3 f2 cB cC
 have f6:=ag.q cD
 refine ed _ _ <| wk fun hA er=>?_
 refine wA tr1 [] 40 [ve (.bool ((numT ((cleanV v).s)).2))] bs ?_ ?_
 exact .M f7 .nil
 refine aftI bs ep eo fun hC hD aH bt bu bv aS=>?_
 have⟨cF,f8⟩:=aS.f2 f5 f6
 have cG:=aS.g 0 37
 have⟨bw,es⟩:=nw2 bv en ej
 refine er _ _ ?_
 rcases bc ((numT ((cleanV v).s)).2) with ap|ap
 have et:=hB cG ap
 refine wt et<| wk fun hE eu=>?_
 refine wA [true,false,false] [(1,false),(2,true)] 40 [ve (nv ((numT ((cleanV v).s)).1)),vt,vt] aH ?_ ?_
 exact .L2 f8 es<| .off<| .off .nil
 refine aftI aH bt bu fun cH hF bx ev ew ex bz=>?_
 have cI:=bz.f1 cF
 have cJ:=bz.g 0 38
 have ey:=bw.new_ ex
 refine sS2 cI cJ ey fun hG ez eA gE=>?_
 have eC:=ew.tR eA
 refine sP (v:=iv 0) rfl bx ev fun f9 gF eD am gb=>?_
 have⟨ga,hI⟩:=am.q2 cI cJ
 refine eu _ _<| wp_ret (ret_k eD (v:=.tuple #[nv ((numT ((cleanV v).s)).1),iv 0]) (res_ct rfl ga gb (l_two isAgg23 sizeOf23 ez)) ?_)
 refine ⟨?_,eC⟩
 show Ending.returned (.tuple #[nv ((numT ((cleanV v).s)).1),iv 0])=Ending.returned (.tuple #[nv ((numberR v).1),iv ((numberR v).2)])
 first|rfl|(simp only [numberR,ac,aa,ab,ad,ae,af,ap,bsm] <;> rfl)|(exfalso; omega)
 have eE:=hB cG ap
 refine wf eE<| ws<| bO _ _<| wk fun hJ eF=>?_
 refine wA [true,false,false] [(1,false),(2,true)] 40 [ve (nv (Nm.mk 0 0)),vt,vt] aH ?_ ?_
 exact .Z<| .off<| .off .nil
 refine aftI aH bt bu fun cL hK bA eG eH eI bB=>?_
 have cM:=bB.f1 cF
 have cN:=bB.g 0 39
 have eJ:=bw.new_ eI
 refine sS2 cM cN eJ fun hL eK eL gG=>?_
 have eN:=eH.tR eL
 refine sP (v:=iv 3) rfl bA eG fun gc gH eO an gf=>?_
 have⟨gd,hN⟩:=an.q2 cM cN
 refine eF _ _<| wp_ret (ret_k eO (v:=.tuple #[nv (Nm.mk 0 0),iv 3]) (res_ct rfl gd gf (l_two isAgg23 sizeOf23 eK)) ?_)
 refine ⟨?_,eN⟩
 show Ending.returned (.tuple #[nv (Nm.mk 0 0),iv 3])=Ending.returned (.tuple #[nv ((numberR v).1),iv ((numberR v).2)])
 first|rfl|(simp only [numberR,ac,aa,ab,ad,ae,af,ap,bsm] <;> rfl)|(exfalso; omega)
 have cz:=oF af
 have eP:=hB cy af
 refine wf eP<| ws<| bO _ _<| wk fun hO eQ=>?_
 refine wA [true,false,false] [(1,false),(2,true)] 40 [ve (nv (Nm.mk 0 0)),vt,vt] aE ?_ ?_
 exact .Z<| .off<| .off .nil
 refine aftI aE bp aP fun cP hP bC eR eS eT bD=>?_
 have cQ:=bD.f1 cx
 have cR:=bD.g 0 39
 have eU:=aR.new_ eT
 refine sS2 cQ cR eU fun hQ eV eW gI=>?_
 have eY:=eS.tR eW
 refine sP (v:=iv 3) rfl bC eR fun gg gJ eZ ao gi=>?_
 have⟨gh,hS⟩:=ao.q2 cQ cR
 refine eQ _ _<| wp_ret (ret_k eZ (v:=.tuple #[nv (Nm.mk 0 0),iv 3]) (res_ct rfl gh gi (l_two isAgg23 sizeOf23 eV)) ?_)
 refine ⟨?_,eY⟩
 show Ending.returned (.tuple #[nv (Nm.mk 0 0),iv 3])=Ending.returned (.tuple #[nv ((numberR v).1),iv ((numberR v).2)])
 first|rfl|(simp only [numberR,ac,aa,ab,ad,ae,af,bsm] <;> rfl)|(exfalso; omega)
theorem qnumber_c (v:Vl) (Av:Option Addr) (cv:Nat) (Bv:Option Addr) (dv:Nat) (w:World) (hmv:SRow w .u32 Av v.mag cv) (hsv:SRow w .u16 Bv v.s dv) (hvv:VOk v):Calls Tryz.prog 9 #[vv v Av cv Bv dv] w (IsRet (.tuple #[nv ((numberV v).1),iv ((numberV v).2)]) w):=by
  have h:=qnumber_c0 v Av cv Bv dv w hmv hsv hvv
  rw [numberR_eq] at h
  exact h
def lstr_c_P (s:ByteArray) (w:World) (en:Ending) (w':World):Prop:=∃ (Ar0:Option Addr) (cr0:Nat),en=.returned (vv (Vl.mk 5 0 0 false [] (asc s) 0) none 0 Ar0 cr0)∧SRow w' .u16 Ar0 (asc s) cr0∧New w w'
theorem lstr_c (s:ByteArray) (w:World) (hs:s.size≤1000000):Calls prog 25 #[.string s] w (lstr_c_P s w):=by
 refine enter_abs func25 rfl fun a0 ad aD hp=>?_
 have ad:a0.tmps.size=6:=ad
 have al:New w w:=Upd.refl _ _
 have hp0:a0.eval (.tmp 0)=.string s:=hp 0 _ rfl
 refine wk fun K1 aE=>?_
 refine wB tr1 [] [] 6 [IsNew w 29 z7] [0] ad ?_ heN ?_
 exact .Y .nil
 refine aftI ad aD al fun a2 w3 am aF ae aN an=>?_
 have h8:=an.f1 hp0
 obtain⟨aG,h9,ap,aq⟩:=an.G 0 2
 have aK:=Nat.le_trans al.size ap
 refine aE _ _ <| wk fun aO ar=>?_
 refine wp_g0 [true,true,true,false] [(3,false)] 6
  [ve (.string s),
  (OP w3.heap.size 79 .u16 (asc s)),(fun (v_:Value) (W:World)=>∃ (A9:Option Addr) (aa:Nat),v_=vv (Vl.mk 5 0 0 false [] (asc s) 0) none 0 A9 aa∧SOwn W w3.heap.size 79 .u16 A9 (asc s) aa),vt] am (.eq (.cons (fun _ _ _ n ⟨_,_,e,h⟩=>⟨_,_,e,h.new_ n⟩) (.cons (fun _ _ _ n ⟨_,_,e,h⟩=>⟨_,_,e,h.new_ n⟩) (.tt .nil)))) ?_ ?_
 refine .M h8 ?_
 refine .o1 (tkC rfl (noG rfl) rfl fun _ w hn k=>(by
  refine ⟨#[.string s],_,args1 (k.eq1 0 3 rfl),fun w=>by kernel_rfl,rascii_c s _ (by first|omega|(show (_:Nat)≤_; decide)),?_⟩
  rintro e w' ⟨A1,c2,rfl,hmo0,hm⟩
  exact⟨_,rfl,hm,⟨A1,c2,rfl,(hmo0.more hn.size)⟩⟩)) ?_
 refine .o1 (tk rfl rfl fun _ w hn k=>(by
  obtain⟨A5,c6,e7,aH⟩:=k.G 1 4
  exact⟨_,v_build (ps:=[(0,iv 5),(3,sv A5 (asc s) c6)]) rfl (parts2 rfl e7) (by kernel_rfl),⟨A5,c6,rfl,aH⟩⟩)) ?_
 exact .off .nil
 refine aftI am aF ae fun aI aP aL au av aw af=>?_
 have ao:=af.f1 h9
 obtain⟨ac,ab,ag,ax⟩:=af.G 2 5
 have ag:aI.eval (.tmp 5)=vv (Vl.mk 5 0 0 false [] (asc s) 0) none 0 ac ab:=ag
 have ah:=aq.new_ aw
 have ay:=ax.more ae.size
 refine sS9 ao ag ah fun aJ az ai aM=>?_
 have aB:=ay.far ah ai (by decide)
 have aC:=av.tR ai
 refine ar _ _<| wp_ret (ret_k au (v:=vv (Vl.mk 5 0 0 false [] (asc s) 0) none 0 ac ab) (res_c rfl ao (l_agg isAgg29 sizeOf29 az rfl)) ?_)
 exact⟨ac,ab,rfl,aB.row,aC⟩
theorem lwhole_c (n:Int) (w:World):Calls prog 29 #[iv n] w (IsRet (vv (Vl.mk 3 0 n false [] [] 0) none 0 none 0) w):=by
 refine enter_abs func29 rfl fun a0 aa aw hp=>?_
 have aa:a0.tmps.size=6:=aa
 have ae:New w w:=Upd.refl _ _
 have hp0:a0.eval (.tmp 0)=iv n:=hp 0 _ rfl
 refine wk fun K1 ax=>?_
 refine wB tr1 [] [] 6 [IsNew w 29 z7] [0] aa ?_ heN ?_
 exact .Y .nil
 refine aftI aa aw ae fun a2 w3 af ay ai aF ag=>?_
 have h8:=ag.f1 hp0
 obtain⟨az,h9,aj,ak⟩:=ag.G 0 2
 have aC:=Nat.le_trans ae.size aj
 refine ax _ _ <| wk fun aG al=>?_
 refine wA [true,true,true,false] [(3,false)] 6 [ve (iv n),ve (nv (Nm.mk 0 n)),ve (vv (Vl.mk 3 0 n false [] [] 0) none 0 none 0),vt] af ?_ ?_
 exact .M h8<| .T (fun k=>v_build (ps:=[(1,iv n)]) rfl (parts1 (k.eq1 0 3 rfl)) (by kernel_rfl))<| .T (fun k=>v_build (ps:=[(0,iv 3),(1,nv (Nm.mk 0 n))]) rfl (parts2 rfl (k.eq1 1 4 rfl)) (by kernel_rfl))<| .off .nil
 refine aftI af ay ai fun aH aI aD am an ao ab=>?_
 have ah:=ab.f1 h9
 have aA:=ab.g 2 5
 have ap:=ak.new_ ao
 refine sS9 ah aA ap fun aB ar aq aE=>?_
 have av:=an.tR aq
 refine al _ _<| wp_ret (ret_k am (v:=vv (Vl.mk 3 0 n false [] [] 0) none 0 none 0) (res_c rfl ah (l_agg isAgg29 sizeOf29 ar rfl)) ?_)
 exact⟨rfl,av⟩
def lbig_c_P (x:Nat) (w:World) (en:Ending) (w':World):Prop:=∃ (Ar0:Option Addr) (cr0:Nat),en=.returned (vv (Vl.mk 4 0 0 false [x] [] 0) Ar0 cr0 none 0)∧SRow w' .u32 Ar0 ([x]) cr0∧New w w'
theorem lbig_c (x:Nat) (w:World) (hx:x < 4294967296):Calls prog 26 #[.int .u32 (x:Int)] w (lbig_c_P x w):=by
 refine enter_abs func26 rfl fun a0 af aI hp=>?_
 have af:a0.tmps.size=7:=af
 have an:New w w:=Upd.refl _ _
 have hp0:a0.eval (.tmp 0)=.int .u32 (x:Int):=hp 0 _ rfl
 refine wk fun K1 aJ=>?_
 refine wB tr1 [] [] 7 [IsNew w 29 z7] [0] af ?_ heN ?_
 exact .Y .nil
 refine aftI af aI an fun a2 w3 ao aK ag aT ap=>?_
 have h8:=ap.f1 hp0
 obtain⟨aL,h9,av,aw⟩:=ap.G 0 2
 have aQ:=Nat.le_trans an.size av
 refine aJ _ _ <| wk fun aU ax=>?_
 refine wp_g0 [true,true,true,true,false] [(4,false)] 7
  [ve (.int .u32 (x:Int)),
  (OP w3.heap.size 59 .u32 ([x])),(fun (v_:Value) (W:World)=>∃ (A9:Option Addr) (aa:Nat),v_=.agg #[.bool false,sv A9 ([x]) aa]∧SOwn W w3.heap.size 59 .u32 A9 ([x]) aa),(fun (v_:Value) (W:World)=>∃ (ab:Option Addr) (ac:Nat),v_=vv (Vl.mk 4 0 0 false [x] [] 0) ab ac none 0∧SOwn W w3.heap.size 59 .u32 ab ([x]) ac),vt] ao (.eq (.cons (fun _ _ _ n ⟨_,_,e,h⟩=>⟨_,_,e,h.new_ n⟩) (.cons (fun _ _ _ n ⟨_,_,e,h⟩=>⟨_,_,e,h.new_ n⟩) (.cons (fun _ _ _ n ⟨_,_,e,h⟩=>⟨_,_,e,h.new_ n⟩) (.tt .nil))))) ?_ ?_
 refine .M h8 ?_
 refine .o1 (tkA rfl (noG rfl) fun _ w hn k=>(by
  exact x_bslice (k:=.u32) (ps:=[(0,.int .u32 (x:Int))]) [x] rfl (parts1 (k.eq1 0 3 rfl)) elW rfl (by omega) (by omega) (by first|kernel_rfl|(simp only [enc,List.map_cons,List.map_nil,Int.toNat_natCast,Int.toNat_of_nonneg (by omega:(0:Int)≤_)]; kernel_rfl)) fun A1 c2 W' hmo=>⟨A1,c2,rfl,(hmo.more hn.size)⟩)) ?_
 refine .o1 (tk rfl rfl fun _ w hn k=>(by
  obtain⟨A5,c6,e7,aM⟩:=k.G 1 4
  exact⟨_,v_build (ps:=[(1,sv A5 ([x]) c6)]) rfl (parts1 e7) (by kernel_rfl),⟨A5,c6,rfl,aM⟩⟩)) ?_
 refine .o1 (tk rfl rfl fun _ w hn k=>(by
  obtain⟨aq,ar,aN,ay⟩:=k.G 2 5
  exact⟨_,v_build (ps:=[(0,iv 4),(2,.agg #[.bool false,sv aq ([x]) ar])]) rfl (parts2 rfl aN) (by kernel_rfl),⟨aq,ar,rfl,ay⟩⟩)) ?_
 exact .off .nil
 refine aftI ao aK ag fun aO aV aR az aA aB ah=>?_
 have au:=ah.f1 h9
 obtain⟨ae,ad,ai,aC⟩:=ah.G 3 6
 have ai:aO.eval (.tmp 6)=vv (Vl.mk 4 0 0 false [x] [] 0) ae ad none 0:=ai
 have aj:=aw.new_ aB
 have aD:=aC.more ag.size
 refine sS9 au ai aj fun aP aE ak aS=>?_
 have aG:=aD.far aj ak (by decide)
 have aH:=aA.tR ak
 refine ax _ _<| wp_ret (ret_k az (v:=vv (Vl.mk 4 0 0 false [x] [] 0) ae ad none 0) (res_c rfl au (l_agg isAgg29 sizeOf29 aE rfl)) ?_)
 exact⟨ae,ad,rfl,aG.row,aH⟩
theorem as_ofN {a:Nm} (h:nmayB a=true):asM a=a:=by unfold asM; rw [if_pos h]
def noughtN (a:Nm):Bool:=(decide (a.k=2) || decide (a.k=1)) || (decide (a.k=0) && decide (a.n=0))
theorem noughtN_eq {a:Nm} (h:nmayB a=true):(!noughtN a)=(!decide (a.k=2) && !equalM a ⟨0,0⟩):=by
  have e:asM ⟨0,0⟩=⟨0,0⟩:=rfl
  unfold equalM
  rw [as_ofN h,e]
  rcases as_cases a with ⟨n,e,h1,h2⟩|e|e|e|e <;> (rw [as_ofN h] at e; rw [e]; simp [noughtN,equalA,rankM])
def boolR (v:Vl):Bool :=
  if decide ((cleanV v).k=2) then decide ((cleanV v).ref=1)
  else if decide ((cleanV v).k=3) then !noughtN (cleanV v).num
  else if decide ((cleanV v).k=4) then !decide (((cleanV v).mag.length:Int)≤0)
  else if decide ((cleanV v).k=5) then !decide (((cleanV v).s.length:Int)≤0)
  else decide ((cleanV v).k=6)
theorem boolR_eq (v:Vl):boolR v=boolV v:=by
  unfold boolR boolV
  by_cases h3:(cleanV v).k=3
  · have hm:=(may_num (may_clean v) h3).1
    rw [noughtN_eq hm]
  · simp [h3]
def numericR (v:Vl):Vl × Int :=
  if decide ((cleanV v).k=4) then (cleanV v,0)
  else if decide ((numberV (cleanV v)).2=0) then (⟨3,(numberV (cleanV v)).1.k,(numberV (cleanV v)).1.n,false,[],[],0⟩,0)
  else (Vl.z,(numberV (cleanV v)).2)
theorem numericR_eq (v:Vl):numericR v=numericV v:=by
  unfold numericR numericV
  split
  · rename_i h
    rw [← (may_big (may_clean v) (of_decide_eq_true h)).2]
  · rfl

def cbigs_c_P (a:Bool) (Aa:Option Addr) (ma:List Nat) (ca:Nat) (w:World) (en:Ending) (w':World):Prop:=∃ (Ar0:Option Addr) (cr0:Nat),en=.returned (.agg #[.bool a,sv Ar0 ma cr0])∧SRow w' .u32 Ar0 ma cr0∧New w w'
theorem cbigs_c (a:Bool) (Aa:Option Addr) (ma:List Nat) (ca:Nat) (w:World) (hra:SRow w .u32 Aa ma ca) (hs:ma.length≤1000000):Calls prog 31 #[.agg #[.bool a,sv Aa ma ca]] w (cbigs_c_P a Aa ma ca w):=by
 refine enter_abs func31 rfl fun a0 aj aX hp=>?_
 have aj:a0.tmps.size=10:=aj
 have ak:New w w:=Upd.refl _ _
 have hp0:a0.eval (.tmp 0)=.agg #[.bool a,sv Aa ma ca]:=hp 0 _ rfl
 refine wk fun K1 aY=>?_
 refine wB tr2 [] [] 10 [IsNew w 26 [.bool a,sv Aa ma ca],IsNew w 26 [.bool false,sv none ([]) 0]] [0,1] aj ?_ heN ?_
 exact .X hp0<| .Y .nil
 refine aftI aj aX ak fun a2 w3 aA aZ al bf am=>?_
 obtain⟨q9,h8,aG,ag⟩:=am.G 0 1
 obtain⟨a1,aB,aH,aI⟩:=am.G 1 2
 have hne16:=am.ne 0 1 1 2 h8 aB
 have ba:=Nat.le_trans ak.size aG
 have bb:=Nat.le_trans ak.size aH
 refine aY _ _ <| wk fun bg aJ=>?_
 refine wp_gS (fun W=>Blk W q9 26 [.bool a,sv Aa ma ca]∧True) (fun W W' hn h=>⟨Blk.new_ h.1 hn,trivial⟩) ⟨ag,trivial⟩ [true,true,true,true,true,false,false,false] [0,1] [(5,false),(6,true),(7,false)] 10
  [ve (pv q9),ve (.bool a),
  (OP w3.heap.size 59 .u32 ([])),ve (.pointer (some ⟨q9,1,none⟩)),ve (sv Aa ma ca),vt,vt,vt]
  [] newsNil aA (.eq (.eq (.cons (fun _ _ _ n ⟨_,_,e,h⟩=>⟨_,_,e,h.new_ n⟩) (.eq (.eq (.tt (.tt (.tt .nil)))))))) ?_ ?_ ?_
 refine .o3 ?_
 refine .o3 ?_
 refine .o1 (tkA rfl (noG rfl) fun _ w hn k=>(by
  exact x_bslice0 .u32 rfl parts0 elW fun A1 c2 W' hmo=>⟨A1,c2,rfl,(hmo.more hn.size)⟩)) ?_
 exact .F h8<| .J 3 isAgg24 ag<| .off<| .off<| .off .nil
 refine eg2 ?_ ?_
 exact eager_takeG rfl (noG rfl) fun _ w hn k=>(by
  exact⟨_,fun w hS=>v_field rfl (k.fx 1 h8) (fun w=>rfl),rfl⟩)
 exact eager_takeG rfl (noG rfl) fun _ w hn k=>(by
  exact⟨_,fun w hS=>v_load rfl (k.eq1 0 3 rfl) (l_one isAgg4 (hS.1.cell 0)),rfl⟩)
 intro an bh _ ah ae
 obtain⟨ao,aK,ai⟩:=aft ae aA aZ al ah
 have a3:=ae.f1 aB
 have a4:=ae.g 1 4
 obtain⟨a5,aL,ap,aM⟩:=ae.G 2 5
 have ap:an.eval (.tmp 5)=sv a5 ([]) aL:=ap
 have aC:=ae.g 4 7
 have⟨aq,aN⟩:=nw2 ah ag aI
 have af:=aM.more al.size
 have hw46:=ai.size
 refine st_act rfl rfl fun bi aO=>a_append (k:=.u32) (b:=w.heap.size) rfl elW ap af aC (hra.new_ ai) (by first|omega|(simp only [List.length_nil,List.length_cons,List.length_append,List.length_take,List.length_drop,List.length_replicate,List.length_set]; omega)) (by first|omega|(simp only [List.length_nil,List.length_cons,List.length_append,List.length_take,List.length_drop,List.length_replicate,List.length_set]; omega)) hw46 fun ab aa bj aP hg42=>aO _ _ ⟨(aq.ownGrown af (by decide) hg42),trivial⟩ ?_
 have aQ:=ai.ownGrown af hg42
 have ar:=aq.ownGrown af (by decide) hg42
 have au:=aN.ownGrown af (by decide) hg42
 obtain⟨av,ad⟩:∃ a',a'=an.put (some 8) (sv ab ([] ++ ma) aa):=⟨_,rfl⟩
 have⟨aw,aR⟩:=pz2 ad ao aK
 have⟨a6,aD,a7⟩:=pN3 ad a3 a4 aC
 have aE:=s7 ad ao
 show stepsTo _ _ _ _ _ (an.put (some 8) (sv ab ([] ++ ma) aa)) _
 rw [← ad]
 refine st_take rfl rfl (fun w _=>v_build (w:=w) (cells:=#[.bool a,sv ab ([] ++ ma) aa]) (ps:=[(0,.bool a),(1,sv ab ([] ++ ma) aa)]) rfl (parts2 aD aE) (by kernel_rfl)) rfl ?_
 obtain⟨a8,ac⟩:∃ a',a'=av.put (some 9) (.agg #[.bool a,sv ab ([] ++ ma) aa]):=⟨_,rfl⟩
 have⟨bd,aS⟩:=pz2 ac aw aR
 have⟨aF,bk,bl⟩:=pN3 ac a6 aD a7
 have bm:=pN ac aE
 have a9:=s7 ac aw
 show stepsTo _ _ _ _ _ (av.put (some 9) (.agg #[.bool a,sv ab ([] ++ ma) aa])) _
 rw [← ac]
 obtain⟨bn,-,az,aT,ax,ay⟩:=s_two (v0:=.bool a) (v1:=sv ab ([] ++ ma) aa) sizeOf26 rfl rfl rfl au
 refine st_act rfl rfl fun bo aU=>a_store' rfl aF a9 az (aU _ _ ⟨(ay _ _ _ (hne16) ar),trivial⟩ ?_)
 have aV:=aP.far au ax (by decide)
 have be:=ay _ _ _ (hne16) ar
 have aW:=aQ.tR ax
 refine aJ _ _<| wp_ret (ret_k aS (v:=.agg #[.bool a,sv ab ([] ++ ma) aa]) (res_c rfl aF (l_two isAgg26 sizeOf26 aT)) ?_)
 have hsp:([] ++ ma)=ma:=by simp
 exact⟨ab,aa,congrArg (fun l=>Ending.returned (Value.agg #[.bool a,sv ab l aa])) hsp,Eq.mp (congrArg (fun l=>SRow _ _ ab l aa) hsp) aV.row,aW⟩
def qcopied_c_P (v:Vl) (Av:Option Addr) (cv:Nat) (Bv:Option Addr) (dv:Nat) (w:World) (en:Ending) (w':World):Prop:=∃ (Ar0:Option Addr) (cr0:Nat) (Ar1:Option Addr) (cr1:Nat),en=.returned (vv v Ar0 cr0 Ar1 cr1)∧SRow w' .u32 Ar0 v.mag cr0∧SRow w' .u16 Ar1 v.s cr1∧New w w'
theorem qcopied_c (v:Vl) (Av:Option Addr) (cv:Nat) (Bv:Option Addr) (dv:Nat) (w:World) (hmv:SRow w .u32 Av v.mag cv) (hsv:SRow w .u16 Bv v.s dv) (hml:v.mag.length≤1000000) (hsl:v.s.length≤1000000):Calls prog 7 #[vv v Av cv Bv dv] w (qcopied_c_P v Av cv Bv dv w):=by
 refine enter_abs func7 rfl fun a0 ap bs hp=>?_
 have ap:a0.tmps.size=12:=ap
 have aq:New w w:=Upd.refl _ _
 have hp0:a0.eval (.tmp 0)=vv v Av cv Bv dv:=hp 0 _ rfl
 refine wk fun K1 bt=>?_
 refine wB tr2 [] [] 12 [IsNew w 32 (c7 v Av cv Bv dv),IsNew w 32 z7] [0,1] ap ?_ heN ?_
 exact .X hp0<| .Y .nil
 refine aftI ap bs aq fun a2 w3 aL bu ai bL ar=>?_
 obtain⟨q9,h8,aP,au⟩:=ar.G 0 1
 obtain⟨aM,aN,aQ,aR⟩:=ar.G 1 2
 have hne16:=ar.ne 0 1 1 2 h8 aN
 have bH:=Nat.le_trans aq.size aP
 have bI:=Nat.le_trans aq.size aQ
 refine bt _ _ <| wk fun bM aS=>?_
 refine wp_g0 [true,true,true,true,false] [(4,false)] 12
  [ve (.pointer (some ⟨q9,5,none⟩)),ve (sv Bv v.s dv),(fun (v_:Value) (W:World)=>∃ (A3:Option Addr) (c4:Nat),v_=sv A3 v.s c4∧SOwn W w3.heap.size 79 .u16 A3 v.s c4),ve (.pointer (some ⟨q9,5,none⟩)),vt] aL (.eq (.eq (.cons (fun _ _ _ n ⟨_,_,e,h⟩=>⟨_,_,e,h.new_ n⟩) (.eq (.tt .nil))))) ?_ ?_
 refine .F h8<| .J 0 isAgg27 au ?_
 refine .o1 (tkC rfl (noG rfl) rfl fun _ w hn k=>(by
  refine ⟨#[sv Bv v.s dv],_,args1 (k.eq1 1 4 rfl),fun w=>by kernel_rfl,cunits_c _ v.s _ _ (hsv.new_ (ai.transNew hn)) (by first|omega|(simp only [List.length_nil,List.length_take,List.length_drop]; omega)|(simp only [List.length_cons,List.length_nil]; omega)),?_⟩
  rintro e w' ⟨A1,c2,rfl,hmo0,hm⟩
  exact⟨_,rfl,hm,⟨A1,c2,rfl,(hmo0.more hn.size)⟩⟩)) ?_
 exact .F h8<| .off .nil
 refine aftI aL bu ai fun bv bN av aT aU aw ag=>?_
 have⟨ax,bw⟩:=ag.f2 h8 aN
 obtain⟨ac,aa,ay,aV⟩:=ag.G 2 5
 have ay:bv.eval (.tmp 5)=sv ac v.s aa:=ay
 have bx:=ag.g 3 6
 have⟨az,aW⟩:=nw2 aw au aR
 have aX:=aV.more ai.size
 obtain⟨bO,-,aG,aA,aB,aY⟩:=s_one (v:=sv ac v.s aa) (i:=5) sizeOf27 rfl rfl az lb
 refine st_act rfl rfl fun bP aZ=>a_store' rfl bx ay aG (aZ _ _ trivial ?_)
 have a1:=aX.far az aB (by decide)
 have a3:=aY _ _ _ (fun h=>hne16 h.symm) aW
 have aC:=aU.tR aB
 refine aS _ _ <| wk fun bQ a4=>?_
 refine wp_g0 [true,true,true,true,false] [(4,false)] 12
  [ve (.pointer (some ⟨q9,3,none⟩)),ve (.agg #[.bool v.neg,sv Av v.mag cv]),(fun (v_:Value) (W:World)=>∃ (ae:Option Addr) (af:Nat),v_=.agg #[.bool v.neg,sv ae v.mag af]∧SRow W .u32 ae v.mag af),ve (.pointer (some ⟨q9,3,none⟩)),vt] av (.eq (.eq (.cons (fun _ _ _ n ⟨_,_,e,h⟩=>⟨_,_,e,h.new_ n⟩) (.eq (.tt .nil))))) ?_ ?_
 refine .F ax<| .K6 0 aA ?_
 refine .o1 (tkC rfl (noG rfl) rfl fun _ w hn k=>(by
  refine ⟨#[.agg #[.bool v.neg,sv Av v.mag cv]],_,args1 (k.eq1 1 8 rfl),fun w=>by kernel_rfl,cbigs_c v.neg _ v.mag _ _ (hmv.new_ (aC.transNew hn)) (by first|omega|(simp only [List.length_nil,List.length_take,List.length_drop]; omega)|(simp only [List.length_cons,List.length_nil]; omega)),?_⟩
  rintro e w' ⟨A9,bz,rfl,hmo0,hm⟩
  exact⟨_,rfl,hm,⟨A9,bz,rfl,hmo0⟩⟩)) ?_
 exact .F ax<| .off .nil
 refine aftI av aT aC fun bA bR aD a5 a6 aj ah=>?_
 have⟨bB,bC⟩:=ah.f2 ax bw
 obtain⟨ad,ab,aE,a7⟩:=ah.G 2 9
 have aE:bA.eval (.tmp 9)=.agg #[.bool v.neg,sv ad v.mag ab]:=aE
 have bD:=ah.g 3 10
 have⟨ak,a8,a9⟩:=nw3 aj aA a3 a1
 obtain⟨bE,aH,aI,al,ba⟩:=s_many (P:=prog) (t:=26) (i:=3) [.bool v.neg,sv ad v.mag ab] sizeOf26 rfl rfl rfl ak lb
 have bb:Blk bE q9 32 (c7 v ad ab ac aa):=aI
 refine st_act rfl rfl fun bS bd=>a_store' rfl bD aE aH (bd _ _ trivial ?_)
 have be:=a9.far ak al (by decide)
 have bf:=a7.fr ak al
 have bg:=ba _ _ _ (fun h=>hne16 h.symm) a8
 have bh:=a6.tR al
 refine a4 _ _ <| wk fun bT bi=>?_
 refine wA [true,false] [(1,false)] 12 [ve (vv v ad ab ac aa),vt] aD ?_ ?_
 exact .L8 bB bb<| .off .nil
 refine aftI aD a5 bh fun bU bV bJ bj bk am aF=>?_
 have aO:=aF.f1 bC
 have bF:=aF.g 0 11
 have⟨an,bl,bm⟩:=nw3 am bg be bf
 refine sS8 aO bF an fun bG bn ao bK=>?_
 have bp:=bl.far an ao (by decide)
 have bq:=bm.fr an ao
 have br:=bk.tR ao
 refine bi _ _<| wp_ret (ret_k bj (v:=vv v ad ab ac aa) (res_c rfl aO (l_agg isAgg32 sizeOf32 bn rfl)) ?_)
 exact⟨ad,ab,ac,aa,rfl,bq,bp.row,br⟩
theorem qnought_c (a:Nm) (w:World):Calls prog 57 #[nv a] w (IsRet (.bool (noughtN a)) w):=by
 refine enter_abs func57 rfl fun a0 ab al hp=>?_
 have ab:a0.tmps.size=21:=ab
 have ac:New w w:=Upd.refl _ _
 have hp0:a0.eval (.tmp 0)=nv a:=hp 0 _ rfl
 refine wk fun K1 am=>?_
 refine wB tr2 [] [] 21 [IsNew w 23 [iv a.k,iv a.n],vF] [0] ab ?_ heN ?_
 exact .X hp0<| .c .nil
 refine aftI ab al ac fun a2 w3 ad an ae av ao=>?_
 obtain⟨q9,h8,af,aa⟩:=ao.G 0 1
 have aq:=Nat.le_trans ac.size af
 refine am _ _ <| wk fun aw ag=>?_
 refine wA tr19 [] 21 [ve (pv q9),ve (iv a.k),ve (.bool (decide (a.k=2))),ve (.bool (decide (a.k=2))),ve (gq (!(decide (a.k=2))) (pv q9)),ve (gq (!(decide (a.k=2))) (iv a.k)),ve (gq (!(decide (a.k=2))) (.bool (decide (a.k=1)))),ve (.bool ((decide (a.k=2)) || (decide (a.k=1)))),ve (.bool ((decide (a.k=2)) || (decide (a.k=1)))),ve (gq (!((decide (a.k=2)) || (decide (a.k=1)))) (pv q9)),ve (gq (!((decide (a.k=2)) || (decide (a.k=1)))) (iv a.k)),ve (gq (!((decide (a.k=2)) || (decide (a.k=1)))) (.bool (decide (a.k=0)))),ve (gq (!((decide (a.k=2)) || (decide (a.k=1)))) (.bool (decide (a.k=0)))),ve (gq ((!((decide (a.k=2)) || (decide (a.k=1)))) && (decide (a.k=0))) (.pointer (some ⟨q9,1,none⟩))),ve (gq ((!((decide (a.k=2)) || (decide (a.k=1)))) && (decide (a.k=0))) (iv a.n)),ve (gq ((!((decide (a.k=2)) || (decide (a.k=1)))) && (decide (a.k=0))) (.bool (decide (a.n=0)))),ve (gq (!((decide (a.k=2)) || (decide (a.k=1)))) (.bool ((decide (a.k=0)) && (decide (a.n=0))))),ve (.bool (((decide (a.k=2)) || (decide (a.k=1))) || ((decide (a.k=0)) && (decide (a.n=0))))),ve (.bool (((decide (a.k=2)) || (decide (a.k=1))) || ((decide (a.k=0)) && (decide (a.n=0)))))] ad ?_ ?_
 exact .F h8<| .J 0 isAgg3 aa<| .b 1 (r_eql rfl)<| .N 2<| .Q (fun k=>g0' (k.eq1 3 6 rfl)) (fun hG p k=>v_field rfl (k.fx 1 h8) (fun w=>rfl))<| .Q (fun k=>g0' (k.eq1 3 6 rfl)) (fun hG p k=>v_load rfl (cT hG (k.eq1 4 7 rfl)) (l_one isAgg3 ((aa.new_ p).cell 0)))<| .Q (fun k=>g0' (k.eq1 3 6 rfl)) (fun hG p k=>v_bin rfl (cT hG (k.eq1 5 8 rfl)) rfl (fun _=>rfl) (r_eql rfl))<| .W 3 6<| .N 7<| .Q (fun k=>g0' (k.eq1 8 11 rfl)) (fun hG p k=>v_field rfl (k.fx 1 h8) (fun w=>rfl))<| .Q (fun k=>g0' (k.eq1 8 11 rfl)) (fun hG p k=>v_load rfl (cT hG (k.eq1 9 12 rfl)) (l_one isAgg3 ((aa.new_ p).cell 0)))<| .Q (fun k=>g0' (k.eq1 8 11 rfl)) (fun hG p k=>v_bin rfl (cT hG (k.eq1 10 13 rfl)) rfl (fun _=>rfl) (r_eql rfl))<| .Q (fun k=>g0' (k.eq1 8 11 rfl)) (fun hG p k=>v_move rfl (cT hG (k.eq1 11 14 rfl)))<| .Q (fun k=>g1 (k.eq1 12 15 rfl)) (fun hG p k=>v_field rfl (k.fx 1 h8) (fun w=>rfl))<| .Q (fun k=>g1 (k.eq1 12 15 rfl)) (fun hG p k=>v_load rfl (cT hG (k.eq1 13 16 rfl)) (l_one isAgg3 ((aa.new_ p).cell 1)))<| .Q (fun k=>g1 (k.eq1 12 15 rfl)) (fun hG p k=>v_bin rfl (cT hG (k.eq1 14 17 rfl)) rfl (fun _=>rfl) (r_eql rfl))<| .Q (fun k=>g0' (k.eq1 8 11 rfl)) (fun hG p k=>v_and rfl (cT hG (k.eq1 12 15 rfl)) (fun hg=>(cT (aj hG hg) (k.eq1 15 18 rfl))) rfl)<| .W 8 16<| .B 17 .nil
 refine aftI ad an ae fun ax ay ar ah ai au ak=>?_
 have ap:=ak.g 18 2
 refine ag _ _<| wp_ret (ret_k ah (v:=.bool (((decide (a.k=2)) || (decide (a.k=1))) || ((decide (a.k=0)) && (decide (a.n=0))))) (res_t rfl ap _) ?_)
 refine ⟨?_,ai⟩
 show Ending.returned (.bool (((decide (a.k=2)) || (decide (a.k=1))) || ((decide (a.k=0)) && (decide (a.n=0)))))=Ending.returned (.bool (noughtN a))
 first|rfl|(simp only [noughtN,bsm] <;> rfl)|(exfalso; omega)
theorem qbool_c0 (v:Vl) (Av:Option Addr) (cv:Nat) (Bv:Option Addr) (dv:Nat) (w:World) (hmv:SRow w .u32 Av v.mag cv) (hsv:SRow w .u16 Bv v.s dv):Calls prog 23 #[vv v Av cv Bv dv] w (IsRet (.bool (boolR v)) w):=by
 refine enter_abs func23 rfl fun a0 aK cy hp=>?_
 have aK:a0.tmps.size=35:=aK
 have bI:New w w:=Upd.refl _ _
 have hp0:a0.eval (.tmp 0)=vv v Av cv Bv dv:=hp 0 _ rfl
 refine wk fun K1 cz=>?_
 refine wB tr2 [] [] 35 [IsNew w 32 (c7 v Av cv Bv dv),vF] [0] aK ?_ heN ?_
 exact .X hp0<| .c .nil
 refine aftI aK cy bI fun a2 w3 bJ cA al ds cB=>?_
 obtain⟨q9,h8,bR,bS⟩:=cB.G 0 1
 have cU:=Nat.le_trans bI.size bR
 refine cz _ _ <| wk fun dt bT=>?_
 refine wp_g [true,true,true,false] [] [(3,false)] 35
  [ve (vv v Av cv Bv dv),
  (VP (cleanV v)),IsNew w3 32 z7,vt]
  [2] (newsCons (fun v w h=>IsNew.old h) newsNil) bJ (.eq (.cons (fun _ _ _ n ⟨_,_,_,_,e,h,i⟩=>⟨_,_,_,_,e,h.new_ n,i.new_ n⟩) (.nw (.tt .nil)))) ?_ (fun i h=>by cases h) ?_
 refine .L8 h8 bS ?_
 refine .o1 (tkC rfl (noG rfl) rfl fun _ w hn k=>(by
  refine ⟨#[vv v Av cv Bv dv],_,args1 (k.eq1 0 4 rfl),fun w=>by kernel_rfl,qgood_c v _ _ _ _ _ (hmv.new_ (al.transNew hn)) (hsv.new_ (al.transNew hn)),?_⟩
  rintro e w' ⟨A1,c2,A3,c4,rfl,hmo0,hmo1,hm⟩
  exact⟨_,rfl,hm,⟨A1,c2,A3,c4,rfl,hmo0,hmo1⟩⟩)) ?_
 exact .Y<| .off .nil
 refine aftI bJ cA al fun cC du aO bU bV cV aP=>?_
 obtain⟨az,aj,aA,ak,aQ,bW,bX⟩:=aP.G 1 5
 have aQ:cC.eval (.tmp 5)=vv (cleanV v) az aj aA ak:=aQ
 obtain⟨ag,aR,bY,aB⟩:=aP.G 2 3
 have cW:=Nat.le_trans al.size bY
 refine sS8 aR aQ aB fun cD aS aC cX=>?_
 have b0:=bW.fr aB aC
 have b1:=bX.fr aB aC
 have b2:=bV.tR aC
 refine bT _ _ <| wk fun dx b3=>?_
 refine wk fun dy b4=>?_
 refine wA tr2 [] 35 [ve (pv ag),ve (iv ((cleanV v).k))] aO ?_ ?_
 exact .F aR<| .J 0 isAgg3 aS .nil
 refine aftI aO bU b2 fun dz dA aT b5 b6 aD aU=>?_
 have cE:=aU.f1 aR
 have bK:=aU.g 1 7
 have⟨b7,b8,b9⟩:=nw3 aD aS b0 b1
 refine b4 _ _<| wb<| wk fun dB ca=>?_
 refine wA tr2 [] 35 [ve (.bool (decide (((cleanV v).k)=2))),ve (.bool (decide (((cleanV v).k)=2)))] aT ?_ ?_
 exact .H bK (r_eql rfl)<| .B 0 .nil
 refine aftI aT b5 b6 fun dC dD am aV aW aE aF=>?_
 have⟨bL,bM⟩:=aF.f2 cE bK
 have bN:=aF.g 1 8
 have⟨aX,cb,cc⟩:=nw3 aE b7 b8 b9
 refine ca _ _ ?_
 rcases bc (decide (((cleanV v).k)=2)) with ab|ab
 have bb:=oT ab
 have cd:=hB bN ab
 refine wt cd<| wk fun dE ce=>?_
 refine wA tr4 [] 35 [ve (.pointer (some ⟨ag,6,none⟩)),ve (iv ((cleanV v).ref)),ve (.bool (decide (((cleanV v).ref)=1))),ve (.bool (decide (((cleanV v).ref)=1)))] am ?_ ?_
 exact .F bL<| .J 0 isAgg3 aX<| .b 1 (r_eql rfl)<| .B 2 .nil
 refine aftI am aV aW fun dF dG cY cf ch cZ ci=>?_
 have cF:=ci.g 3 2
 refine ce _ _<| wp_ret (ret_k cf (v:=.bool (decide (((cleanV v).ref)=1))) (res_t rfl cF _) ?_)
 refine ⟨?_,ch⟩
 show Ending.returned (.bool (decide (((cleanV v).ref)=1)))=Ending.returned (.bool (boolR v))
 first|rfl|(simp only [boolR,ab,bsm] <;> rfl)|(exfalso; omega)
 have bb:=oF ab
 have cj:=hB bN ab
 refine wf cj<| wk fun dH cl=>?_
 refine wA tr2 [] 35 [ve (.bool (decide (((cleanV v).k)=3))),ve (.bool (decide (((cleanV v).k)=3)))] am ?_ ?_
 exact .H bM (r_eql rfl)<| .B 0 .nil
 refine aftI am aV aW fun dI dJ an aY aZ aG aH=>?_
 have⟨bO,bP⟩:=aH.f2 bL bM
 have bQ:=aH.g 1 13
 have⟨a1,cm,cn⟩:=nw3 aG aX cb cc
 refine cl _ _ ?_
 rcases bc (decide (((cleanV v).k)=3)) with ac|ac
 have bd:=oT ac
 have co:=hB bQ ac
 refine wt co<| wk fun c0 be=>?_
 refine wA tr5 [] 35 [ve (.pointer (some ⟨ag,1,none⟩)),ve (nv (Nm.mk ((cleanV v).nk) ((cleanV v).nn))),ve (.bool (noughtN (Nm.mk ((cleanV v).nk) ((cleanV v).nn)))),ve (.bool (!(noughtN (Nm.mk ((cleanV v).nk) ((cleanV v).nn))))),ve (.bool (!(noughtN (Nm.mk ((cleanV v).nk) ((cleanV v).nn)))))] an ?_ ?_
 exact .F bO<| .K2 0 a1<| .C 1 (fun m=>qnought_c (Nm.mk ((cleanV v).nk) ((cleanV v).nn)) _)<| .T (fun k=>v_not rfl (k.eq1 2 17 rfl))<| .B 3 .nil
 refine aftI an aY aZ fun c1 c3 cG bf bg cH bh=>?_
 have cp:=bh.g 4 2
 refine be _ _<| wp_ret (ret_k bf (v:=.bool (!(noughtN (Nm.mk ((cleanV v).nk) ((cleanV v).nn))))) (res_t rfl cp _) ?_)
 refine ⟨?_,bg⟩
 show Ending.returned (.bool (!(noughtN (Nm.mk ((cleanV v).nk) ((cleanV v).nn)))))=Ending.returned (.bool (boolR v))
 first|rfl|(simp only [boolR,ab,ac,bsm] <;> rfl)|(exfalso; omega)
 have bd:=oF ac
 have bi:=hB bQ ac
 refine wf bi<| wk fun c5 bj=>?_
 refine wA tr2 [] 35 [ve (.bool (decide (((cleanV v).k)=4))),ve (.bool (decide (((cleanV v).k)=4)))] an ?_ ?_
 exact .H bP (r_eql rfl)<| .B 0 .nil
 refine aftI an aY aZ fun c9 da ah ao ap aq ar=>?_
 have⟨aI,cq⟩:=ar.f2 bO bP
 have a3:=ar.g 1 19
 have⟨au,bk,bl⟩:=nw3 aq a1 cm cn
 refine bj _ _ ?_
 rcases bc (decide (((cleanV v).k)=4)) with aa|aa
 have a4:=oT aa
 have bm:=hB a3 aa
 refine wt bm<| wk fun db aL=>?_
 rcases bc (decide ((((cleanV v).mag).length:Int)≤0)) with ae|ae
 have a5:=oT ae
 refine wA tr6 [] 35 [ve (.pointer (some ⟨ag,3,none⟩)),ve (.pointer (some ⟨ag,4,none⟩)),ve (sv az ((cleanV v).mag) aj),ve (iv (((cleanV v).mag).length:Int)),vF,vF] ah ?_ ?_
 exact .F aI<| .f (fun k=>k.eq1 0 21 rfl)<| .J 1 isAgg24 au<| .T (fun k=>v_lenR rfl elW (k.eq1 2 23 rfl))<| .b 3 (r_gtrK ae)<| .B 4 .nil
 refine aftI ah ao ap fun dc dd cI bn bo cJ bp=>?_
 have cr:=bp.g 5 2
 refine aL _ _<| wp_ret (ret_k bn (v:=.bool false) (res_t rfl cr _) ?_)
 refine ⟨?_,bo⟩
 show Ending.returned (.bool false)=Ending.returned (.bool (boolR v))
 first|rfl|(simp only [boolR,ab,ac,aa,ae,bsm] <;> rfl)|(exfalso; omega)
 have a5:=oF ae
 refine wA tr6 [] 35 [ve (.pointer (some ⟨ag,3,none⟩)),ve (.pointer (some ⟨ag,4,none⟩)),ve (sv az ((cleanV v).mag) aj),ve (iv (((cleanV v).mag).length:Int)),vT,vT] ah ?_ ?_
 exact .F aI<| .f (fun k=>k.eq1 0 21 rfl)<| .J 1 isAgg24 au<| .T (fun k=>v_lenR rfl elW (k.eq1 2 23 rfl))<| .b 3 (r_gtrK ae)<| .B 4 .nil
 refine aftI ah ao ap fun de df cK bq br cL bs=>?_
 have ct:=bs.g 5 2
 refine aL _ _<| wp_ret (ret_k bq (v:=.bool true) (res_t rfl ct _) ?_)
 refine ⟨?_,br⟩
 show Ending.returned (.bool true)=Ending.returned (.bool (boolR v))
 first|rfl|(simp only [boolR,ab,ac,aa,ae,bsm] <;> rfl)|(exfalso; omega)
 have a4:=oF aa
 have bt:=hB a3 aa
 refine wf bt<| wk fun dg bu=>?_
 refine wA tr2 [] 35 [ve (.bool (decide (((cleanV v).k)=5))),ve (.bool (decide (((cleanV v).k)=5)))] ah ?_ ?_
 exact .H cq (r_eql rfl)<| .B 0 .nil
 refine aftI ah ao ap fun dh di ai av aw ax aM=>?_
 have aJ:=aM.f1 aI
 have a6:=aM.g 1 26
 have⟨ay,cM,cN⟩:=nw3 ax au bk bl
 refine bu _ _ ?_
 rcases bc (decide (((cleanV v).k)=5)) with ad|ad
 have a7:=oT ad
 have bv:=hB a6 ad
 refine wt bv<| wk fun dj aN=>?_
 rcases bc (decide ((((cleanV v).s).length:Int)≤0)) with af|af
 have a8:=oT af
 refine wA tr5 [] 35 [ve (.pointer (some ⟨ag,5,none⟩)),ve (sv aA ((cleanV v).s) ak),ve (iv (((cleanV v).s).length:Int)),vF,vF] ai ?_ ?_
 exact .F aJ<| .J 0 isAgg27 ay<| .T (fun k=>v_lenR rfl elU (k.eq1 1 29 rfl))<| .b 2 (r_gtrK af)<| .B 3 .nil
 refine aftI ai av aw fun dk dl cO bw bx cP bz=>?_
 have cu:=bz.g 4 2
 refine aN _ _<| wp_ret (ret_k bw (v:=.bool false) (res_t rfl cu _) ?_)
 refine ⟨?_,bx⟩
 show Ending.returned (.bool false)=Ending.returned (.bool (boolR v))
 first|rfl|(simp only [boolR,ab,ac,aa,ad,af,bsm] <;> rfl)|(exfalso; omega)
 have a8:=oF af
 refine wA tr5 [] 35 [ve (.pointer (some ⟨ag,5,none⟩)),ve (sv aA ((cleanV v).s) ak),ve (iv (((cleanV v).s).length:Int)),vT,vT] ai ?_ ?_
 exact .F aJ<| .J 0 isAgg27 ay<| .T (fun k=>v_lenR rfl elU (k.eq1 1 29 rfl))<| .b 2 (r_gtrK af)<| .B 3 .nil
 refine aftI ai av aw fun dm dn cQ bA bB cR bC=>?_
 have cw:=bC.g 4 2
 refine aN _ _<| wp_ret (ret_k bA (v:=.bool true) (res_t rfl cw _) ?_)
 refine ⟨?_,bB⟩
 show Ending.returned (.bool true)=Ending.returned (.bool (boolR v))
 first|rfl|(simp only [boolR,ab,ac,aa,ad,af,bsm] <;> rfl)|(exfalso; omega)
 have a7:=oF ad
 have bD:=hB a6 ad
 refine wf bD<| ws<| b3 _ _<| wk fun dp bE=>?_
 refine wA tr4 [] 35 [ve (pv ag),ve (iv ((cleanV v).k)),ve (.bool (decide (((cleanV v).k)=6))),ve (.bool (decide (((cleanV v).k)=6)))] ai ?_ ?_
 exact .F aJ<| .J 0 isAgg3 ay<| .b 1 (r_eql rfl)<| .B 2 .nil
 refine aftI ai av aw fun dq dr cS bF bG cT bH=>?_
 have cx:=bH.g 3 2
 refine bE _ _<| wp_ret (ret_k bF (v:=.bool (decide (((cleanV v).k)=6))) (res_t rfl cx _) ?_)
 refine ⟨?_,bG⟩
 show Ending.returned (.bool (decide (((cleanV v).k)=6)))=Ending.returned (.bool (boolR v))
 first|rfl|(simp only [boolR,ab,ac,aa,ad,bsm] <;> rfl)|(exfalso; omega)
theorem qbool_c (v:Vl) (Av:Option Addr) (cv:Nat) (Bv:Option Addr) (dv:Nat) (w:World) (hmv:SRow w .u32 Av v.mag cv) (hsv:SRow w .u16 Bv v.s dv):Calls Tryz.prog 23 #[vv v Av cv Bv dv] w (IsRet (.bool (boolV v)) w):=by
  have h:=qbool_c0 v Av cv Bv dv w hmv hsv
  rw [boolR_eq] at h
  exact h
def qnumeric_c0_P (v:Vl) (Av:Option Addr) (cv:Nat) (Bv:Option Addr) (dv:Nat) (w:World) (en:Ending) (w':World):Prop:=∃ (Ar0:Option Addr) (cr0:Nat) (Ar1:Option Addr) (cr1:Nat),en=.returned (.tuple #[vv (numericR v).1 Ar0 cr0 Ar1 cr1,iv ((numericR v).2)])∧SRow w' .u32 Ar0 ((numericR v).1.mag) cr0∧SRow w' .u16 Ar1 ((numericR v).1.s) cr1∧New w w'
theorem qnumeric_c0 (v:Vl) (Av:Option Addr) (cv:Nat) (Bv:Option Addr) (dv:Nat) (w:World) (hmv:SRow w .u32 Av v.mag cv) (hsv:SRow w .u16 Bv v.s dv) (hvv:VOk v):Calls prog 11 #[vv v Av cv Bv dv] w (qnumeric_c0_P v Av cv Bv dv w):=by
 refine enter_abs func11 rfl fun a0 aK dn hp=>?_
 have aK:a0.tmps.size=25:=aK
 have a1:New w w:=Upd.refl _ _
 have hp0:a0.eval (.tmp 0)=vv v Av cv Bv dv:=hp 0 _ rfl
 refine wk fun K1 dp=>?_
 refine wB tr3 [] [] 25 [IsNew w 32 (c7 v Av cv Bv dv),IsNew w 32 z7,ve (iv 0)] [0,1] aK ?_ heN ?_
 exact .X hp0<| .Y<| .c .nil
 refine aftI aK dn a1 fun a2 w3 cn dq ax ef a3=>?_
 obtain⟨q9,h8,cu,cw⟩:=a3.G 0 1
 obtain⟨aw,co,cx,a4⟩:=a3.G 1 2
 have hne16:=a3.ne 0 1 1 2 h8 co
 have dN:=Nat.le_trans a1.size cu
 have dO:=Nat.le_trans a1.size cx
 refine dp _ _ <| wk fun eg cy=>?_
 refine wp_g [true,true,true,false] [] [(3,false)] 25
  [ve (vv v Av cv Bv dv),
  (VP (cleanV v)),IsNew w3 32 z7,vt]
  [2] (newsCons (fun v w h=>IsNew.old h) newsNil) cn (.eq (.cons (fun _ _ _ n ⟨_,_,_,_,e,h,i⟩=>⟨_,_,_,_,e,h.new_ n,i.new_ n⟩) (.nw (.tt .nil)))) ?_ (fun i h=>by cases h) ?_
 refine .L8 h8 cw ?_
 refine .o1 (tkC rfl (noG rfl) rfl fun _ w hn k=>(by
  refine ⟨#[vv v Av cv Bv dv],_,args1 (k.eq1 0 7 rfl),fun w=>by kernel_rfl,qgood_c v _ _ _ _ _ (hmv.new_ (ax.transNew hn)) (hsv.new_ (ax.transNew hn)),?_⟩
  rintro e w' ⟨A1,c2,A3,c4,rfl,hmo0,hmo1,hm⟩
  exact⟨_,rfl,hm,⟨A1,c2,A3,c4,rfl,hmo0,hmo1⟩⟩)) ?_
 exact .Y<| .off .nil
 refine aftI cn dq ax fun dr eh a5 cz cA cB aC=>?_
 have ds:=aC.f1 co
 obtain⟨aq,ag,ar,ah,a6,cC,cD⟩:=aC.G 1 8
 have a6:dr.eval (.tmp 8)=vv (cleanV v) aq ag ar ah:=a6
 obtain⟨a7,a8,a9,aD⟩:=aC.G 2 4
 have cE:=a4.new_ cB
 have hne40:aw ≠ a7:=by have h1:=a4.lt; have h2:=a9; omega
 have dP:=Nat.le_trans ax.size a9
 refine sS8 a8 a6 aD fun dt ba aE cF=>?_
 have cH:=cC.fr aD aE
 have cI:=cD.fr aD aE
 have cJ:=cF hne40 cE
 have cK:=cA.tR aE
 refine cy _ _ <| wk fun ej cL=>?_
 refine wk fun ek cM=>?_
 refine wA tr3 [] 25 [ve (pv a7),ve (iv ((cleanV v).k)),ve (.bool (decide (((cleanV v).k)=4)))] a5 ?_ ?_
 exact .F a8<| .J 0 isAgg3 ba<| .b 1 (r_eql rfl) .nil
 refine aftI a5 cz cK fun el du ay bb aF az aG=>?_
 have⟨cp,cq⟩:=aG.f2 ds a8
 have cr:=aG.g 2 11
 have⟨aH,bd,be,bf⟩:=nw4 az cJ ba cH cI
 refine cM _ _ ?_
 rcases bc (decide (((cleanV v).k)=4)) with aa|aa
 have bF:=oT aa
 have cN:=hB cr aa
 refine wt cN<| wk fun em cO=>?_
 refine wp_g0 [true,true,false,false] [(2,false),(3,true)] 25
  [ve (vv (cleanV v) aq ag ar ah),
  (VP (cleanV v)),vt,vt] ay (.eq (.cons (fun _ _ _ n ⟨_,_,_,_,e,h,i⟩=>⟨_,_,_,_,e,h.new_ n,i.new_ n⟩) (.tt (.tt .nil)))) ?_ ?_
 refine .L8 cq bd ?_
 refine .o1 (tkC rfl (noG rfl) rfl fun _ w hn k=>(by
  refine ⟨#[vv (cleanV v) aq ag ar ah],_,args1 (k.eq1 0 12 rfl),fun w=>by kernel_rfl,qcopied_c (cleanV v) _ _ _ _ _ (be.new_ hn) (bf.new_ hn) (Nat.le_trans hvv.clean.mlen (by decide)) (Nat.le_trans hvv.clean.slen (by decide)),?_⟩
  rintro e w' ⟨dA,dB,dC,dD,rfl,hmo0,hmo1,hm⟩
  exact⟨_,rfl,hm,⟨dA,dB,dC,dD,rfl,hmo0,hmo1⟩⟩)) ?_
 exact .off<| .off .nil
 refine aftI ay bb aF fun bg en bh cP cQ cR bi=>?_
 have ct:=bi.f1 cp
 obtain⟨au,ai,av,aj,aL,cS,cT⟩:=bi.G 1 13
 have aL:bg.eval (.tmp 13)=vv (cleanV v) au ai av aj:=aL
 have aI:=aH.new_ cR
 refine sS8 ct aL aI fun dE cU aJ dQ=>?_
 have cW:=cS.fr aI aJ
 have cX:=cT.fr aI aJ
 have cY:=cQ.tR aJ
 refine sP (v:=iv 0) rfl bh cP fun dF dG bI ae c0=>?_
 have⟨cZ,dR⟩:=ae.q2 ct aL
 refine cO _ _<| wp_ret (ret_k bI (v:=.tuple #[vv (cleanV v) au ai av aj,iv 0]) (res_ct rfl cZ c0 (l_agg isAgg32 sizeOf32 cU rfl)) ?_)
 have ak:(numericR v).1.mag=(cleanV v).mag:=by first|rfl|(simp only [numericR,Vl.z,aa,bsm] <;> rfl)|(exfalso; omega)
 have al:(numericR v).1.s=(cleanV v).s:=by first|rfl|(simp only [numericR,Vl.z,aa,bsm] <;> rfl)|(exfalso; omega)
 exact⟨au,ai,av,aj,(by show Ending.returned (.tuple #[vv (cleanV v) au ai av aj,iv 0])=Ending.returned (.tuple #[vv (numericR v).1 au ai av aj,iv ((numericR v).2)]); (first|rfl|(simp only [numericR,Vl.z,aa,ak,al,bsm] <;> rfl)|(exfalso; omega))),(by rw [ak]; exact cW),(by rw [al]; exact cX),cY⟩
 have bF:=oF aa
 have bJ:=hB cr aa
 refine wf bJ<| ws<| cL _ _<| wk fun dS bK=>?_
 refine wB [true,true,true,true,true,true,false,false] [4] [(6,false),(7,true)] 25 [ve (vv (cleanV v) aq ag ar ah),ve (.tuple #[nv ((numberV (cleanV v)).1),iv ((numberV (cleanV v)).2)]),ve (.tuple #[nv ((numberV (cleanV v)).1),iv ((numberV (cleanV v)).2)]),ve (nv ((numberV (cleanV v)).1)),ve (iv ((numberV (cleanV v)).2)),IsNew du 23 [iv 0,iv 0],vt,vt] [5] ay ?_ ?_ ?_
 refine .L8 cq bd<| .C 0 (fun p=>qnumber_c (cleanV v) _ _ _ _ _ (be.new_ p) (bf.new_ p) hvv.clean)<| .N 1<| .E 2 ?_
 refine .o3 ?_
 exact .Y<| .off<| .off .nil
 refine eg1 ?_
 exact eager_take rfl rfl fun _ w hn k=>⟨iv ((numberV (cleanV v)).2),fun w=>v_extract rfl (k.eq1 2 14 rfl) rfl,rfl⟩
 refine aftI ay bb aF fun bj dT aM bL bM bN am=>?_
 have c1:=am.f1 cp
 have bk:=am.g 3 17
 have bl:=am.g 4 18
 obtain⟨c3,bm,aN,bO⟩:=am.G 5 5
 have bP:=aH.new_ bN
 have hne122:aw ≠ c3:=by have h1:=aH.lt; have h2:=aN; omega
 have dH:=Nat.le_trans aF.size aN
 refine sS2 bm bk bO fun dU aO bQ bR=>?_
 have aP:=bR hne122 bP
 have aQ:=bM.tR bQ
 refine sP bl aM bL fun c5 an aR ac aA=>?_
 have⟨bo,dW,dX⟩:=ac.q3 c1 bk bl
 have bp:=ac.q bm
 refine bK _ _ <| wk fun dY bT=>?_
 refine wk fun dZ aS=>?_
 rcases bc (decide (((numberV (cleanV v)).2)=0)) with ab|ab
 have bq:=oT ab
 refine wA tr2 [] 25 [ve (iv ((numberV (cleanV v)).2)),vF] an ?_ ?_
 exact .M aA<| .b 0 (r_neq ab) .nil
 refine aftI an aR aQ fun d0 d1 aT bU bV aU ao=>?_
 have⟨c9,da,d2⟩:=ao.f3 bo bp aA
 have db:=ao.g 1 20
 have⟨bW,bX⟩:=nw2 aU aP aO
 refine aS _ _<| wf db<| ws ?_
 refine bT _ _<| wk fun d3 bY=>?_
 refine wA [true,true,false,false] [(2,false),(3,true)] 25 [ve (nv ((numberV (cleanV v)).1)),ve (vv (Vl.mk 3 ((numberV (cleanV v)).1).k ((numberV (cleanV v)).1).n false [] [] 0) none 0 none 0),vt,vt] aT ?_ ?_
 exact .L2 da bX<| .C 0 (fun p=>qnum_c ((numberV (cleanV v)).1) _)<| .off<| .off .nil
 refine aftI aT bU bV fun br d4 aV bZ b0 b1 aW=>?_
 have bs:=aW.f1 c9
 have bt:=aW.g 1 24
 have b2:=bW.new_ b1
 refine sS8 bs bt b2 fun dc b4 b3 dI=>?_
 have b6:=b0.tR b3
 refine sP (v:=iv 0) rfl aV bZ fun dd dJ b7 af df=>?_
 have⟨de,d6⟩:=af.q2 bs bt
 refine bY _ _<| wp_ret (ret_k b7 (res8 de df b4) ?_)
 exact rV (by first|rfl|(simp only [numericR,Vl.z,aa,ab,bsm] <;> rfl)|(exfalso; omega)) b6
 have bq:=oF ab
 refine wA tr2 [] 25 [ve (iv ((numberV (cleanV v)).2)),vT] an ?_ ?_
 exact .M aA<| .b 0 (r_neq ab) .nil
 refine aftI an aR aQ fun d7 d8 aX b8 b9 aY ap=>?_
 have⟨dg,d9,dh⟩:=ap.f3 bo bp aA
 have di:=ap.g 1 20
 have⟨ca,dK⟩:=nw2 aY aP aO
 refine aS _ _<| wt di<| wk fun ea cb=>?_
 refine wB [true,true,false,false] [1] [(2,false),(3,true)] 25 [ve (vv (Vl.mk 0 0 0 false [] [] 0) none 0 none 0),ve (iv ((numberV (cleanV v)).2)),vt,vt] [] aX ?_ ?_ ?_
 refine .Z ?_
 refine .o3 ?_
 exact .off<| .off .nil
 refine eg1 ?_
 exact eager_take rfl rfl fun _ w hn k=>⟨iv ((numberV (cleanV v)).2),fun w=>v_move rfl (k.fx 6 dh),rfl⟩
 refine aftI aX b8 b9 fun bw eb aZ cc cd ce aB=>?_
 have bx:=aB.f1 dg
 have bz:=aB.g 0 21
 have bA:=aB.g 1 22
 have cf:=ca.new_ ce
 refine sS8 bx bz cf fun dj ci ch dL=>?_
 have cl:=cd.tR ch
 refine sP bA aZ cc fun dk dM cm ad dm=>?_
 have⟨dl,ed,ee⟩:=ad.q3 bx bz bA
 refine cb _ _<| wp_ret (ret_k cm (res8 dl dm ci) ?_)
 exact rV (by first|rfl|(simp only [numericR,Vl.z,aa,ab,bsm] <;> rfl)|(exfalso; omega)) cl
def qnumeric_c_P (v:Vl) (Av:Option Addr) (cv:Nat) (Bv:Option Addr) (dv:Nat) (w:World) (en:Ending) (w':World):Prop:=∃ (Ar0:Option Addr) (cr0:Nat) (Ar1:Option Addr) (cr1:Nat),en=.returned (.tuple #[vv (numericV v).1 Ar0 cr0 Ar1 cr1,iv ((numericV v).2)])∧SRow w' .u32 Ar0 ((numericV v).1.mag) cr0∧SRow w' .u16 Ar1 ((numericV v).1.s) cr1∧New w w'
theorem qnumeric_c (v:Vl) (Av:Option Addr) (cv:Nat) (Bv:Option Addr) (dv:Nat) (w:World) (hmv:SRow w .u32 Av v.mag cv) (hsv:SRow w .u16 Bv v.s dv) (hvv:VOk v):Calls Tryz.prog 11 #[vv v Av cv Bv dv] w (qnumeric_c_P v Av cv Bv dv w):=by
  have h:=qnumeric_c0 v Av cv Bv dv w hmv hsv hvv
  unfold qnumeric_c0_P at h
  rw [numericR_eq] at h
  exact h

def IsTextD (xs:List Int) (w:World) (e:Ending) (w':World):Prop:=e=.returned (.string (strOfNums xs))∧New w w'
theorem strOf_app (a b:List Int):strOfNums a ++ strOfNums b=strOfNums (a ++ b):=by
  apply ByteArray.ext
  simp [strOfNums]
theorem textI_small {n:Int} (h0:0≤n) (h:n < 10):textI n=[48 + n]:=by
  unfold textI
  by_cases hz:n=0
  · subst hz; rfl
  · rw [if_neg hz,if_neg (by omega),digs_one (by omega) (by omega)]
    simp [letter]; omega
theorem textI_big {n:Int} (h:10≤n):textI n=textI (n.tdiv 10) ++ [48 + n.tmod 10]:=by
  have hd:n.tdiv 10=n / 10:=Int.tdiv_eq_ediv_of_nonneg (by omega)
  have hm:n.tmod 10=n % 10:=Int.tmod_eq_emod_of_nonneg (by omega)
  rw [hd,hm]
  unfold textI
  rw [if_neg (by omega),if_neg (by omega),if_neg (by omega),if_neg (by omega),digs_pos (n:=n.natAbs) (by omega),show (n / 10).natAbs=n.natAbs / 10 by omega]
  simp [letter]; omega
theorem td_neg (m:Nat):(-(m:Int)).tdiv 10 = -((m / 10:Nat):Int):=by rw [Int.neg_tdiv]; rfl
theorem tm_neg (m:Nat):(-(m:Int)).tmod 10 = -((m % 10:Nat):Int):=by rw [Int.neg_tmod]; rfl
theorem textI_neg1 {n:Int} (h0:n < 0) (h:n.tdiv 10=0):textI n=[45] ++ [48 - n.tmod 10]:=by
  obtain⟨m,rfl⟩:∃ m:Nat,n = -(m:Int):=⟨n.natAbs,by omega⟩
  rw [td_neg] at h
  unfold textI
  rw [if_neg (by omega),if_pos h0,digs_one (by omega) (by omega),tm_neg]
  simp [letter]; omega
theorem textI_neg2 {n:Int} (h0:n < 0) (h:n.tdiv 10 ≠ 0):textI n=[45] ++ textI (-(n.tdiv 10)) ++ [48 - n.tmod 10]:=by
  obtain⟨m,rfl⟩:∃ m:Nat,n = -(m:Int):=⟨n.natAbs,by omega⟩
  rw [td_neg] at h ⊢
  rw [tm_neg,Int.neg_neg]
  unfold textI
  rw [if_neg (by omega),if_pos h0,if_neg (by omega),if_neg (by omega),digs_pos (n:=(-(m:Int)).natAbs) (by omega),show (-(m:Int)).natAbs=m by omega,show (((m / 10:Nat):Int)).natAbs=m / 10 by omega]
  simp [letter]
theorem tmod_nn {n:Int} (h:0≤n):0≤n.tmod 10∧n.tmod 10 < 10:=by rw [Int.tmod_eq_emod_of_nonneg h]; omega
theorem tmod_np {n:Int} (h:n≤0):-10 < n.tmod 10∧n.tmod 10≤0:=by
  obtain⟨m,rfl⟩:∃ m:Nat,n = -(m:Int):=⟨n.natAbs,by omega⟩
  rw [tm_neg]; omega
theorem tdiv_nn {n:Int} (h:0≤n):n.tdiv 10=n / 10:=Int.tdiv_eq_ediv_of_nonneg h
theorem r_quo {t:TypeId} {x y r:Int} (h:x.tdiv y=r) (hy:y ≠ 0) (hr:-9223372036854775808≤r∧r≤9223372036854775807):∀ w,(binOp .quo t (.int .i64 x) (.int .i64 y)).run Tryz.prog w=.ok (.int .i64 r) w:=by
  intro w; simp [binOp,Op.intDiv,h,hy,IntWalk.i64_in r hr]
theorem r_rem {t:TypeId} {x y r:Int} (h:x.tmod y=r) (hy:y ≠ 0) (hr:-9223372036854775808≤r∧r≤9223372036854775807):∀ w,(binOp .rem t (.int .i64 x) (.int .i64 y)).run Tryz.prog w=.ok (.int .i64 r) w:=by
  intro w; simp [binOp,Op.intDiv,h,hy,IntWalk.i64_in r hr]
section
variable {P:Program} {ops:Array Oper} {Q:Exit→Act→World→Prop} {S:World→Prop} {o:Oper} {a:Act}
theorem y_conv {s d:TypeId} {x:Operand} {u v:Value} (ho:o.op=.convert s d x) (hx:a.eval x=u) {w:World} (h:(convert s d u).run P w=.ok v w):(execOp a.eval o).run P w=.ok (.value v) w:=by
  simp [execOp,ho,hx,h]
theorem y_adds {t t':TypeId} {x y:Operand} {s s':ByteArray} (ho:o.op=.binOp .add t x y t') (hx:a.eval x=.string s) (hy:a.eval y=.string s') (hl:s.size + s'.size≤9223372036854775807) {w:World}:(execOp a.eval o).run P w=.ok (.value (.string (s ++ s'))) w:=by
  simp [execOp,ho,hx,hy,binOp,eqGuard,Op.stringOp]; omega
theorem y_build {t e:TypeId} {parts:Array (Nat × Operand)} {len:Nat} {vs:List Value} {w:World} (ho:o.op=.buildSlice t len parts) (h:(Instr.buildSlice t len (parts.map fun (i,x)=>(i,a.eval x))).run P w=.ok (.slice (some ⟨w.heap.size,0,none⟩) len len) (w.alloc (.cells vs.toArray e))) :
    (execOp a.eval o).run P w=.ok (.value (.slice (some ⟨w.heap.size,0,none⟩) len len)) (w.alloc (.cells vs.toArray e)):=by
  simp [execOp,ho,h]
theorem y_negi {t:TypeId} {x:Operand} {m:Int} (ho:o.op=.unOp .neg t x) (hx:a.eval x=.int .i64 m) (hr:-9223372036854775808≤-m∧-m≤9223372036854775807) {w:World}:(execOp a.eval o).run P w=.ok (.value (.int .i64 (-m))) w:=by
  simp [execOp,ho,hx,Op.unary,Op.intArith,IntWalk.i64_in (-m) hr]
theorem step_new {T:Nat→Value→World→Prop} {F:Array Bool} {a0:Act} {w0:World} {i:Nat} {o:Oper} (hi:ops.toList[i]?=some o) (hg:o.guard=none)
    (h:∀ a w,New w0 w→Known ops F T a0 i a w→∃ v ob,(execOp a.eval o).run P w=.ok (.value v) (w.alloc ob)∧T i v (w.alloc ob)):StepOk P ops Q F T a0 w0 i:=by
  refine ⟨o,hi,fun a w hw hk=>?_⟩
  obtain⟨v,ob,hrun,hT⟩:=h a w hw hk
  have hi':ops[i]?=some o:=by rw [← Array.getElem?_toList]; exact hi
  have hwt:Region.wanted o (yielded ops a.tmps)=true:=by simp [Region.wanted,hg]
  unfold wpOp
  simp only [hi',hwt,if_true,Oper.wp,hrun,Oper.upon]
  exact .inl ⟨_,rfl,(Upd.refl _ _).alloc _,hT⟩
end
set_option maxRecDepth 100000 in
theorem run_build1 (v:Int) (w:World):(Instr.buildSlice 106 1 #[(0,.int .u8 v)]).run Tryz.prog w=.ok (.slice (some ⟨w.heap.size,0,none⟩) 1 1) (w.alloc (.cells #[.int .u8 v] 5)) :=
  run_buildSlice w 106 5 1 _ _ _ (.int .u8 0) Tryz.underlying106 rfl (by kernel_rfl) (by decide +kernel) (by decide +kernel) (by kernel_rfl)
theorem run_str1 (v:Int) (q:Nat) (w:World) (h:Blk w q 5 [.int .u8 v]):(convert 106 9 (.slice (some ⟨q,0,none⟩) 1 1)).run Tryz.prog w=.ok (.string (strOfNums [v])) w :=
  run_convert_bytes_arg w 106 5 Tryz.underlying106 Tryz.underlying5 q 0 1 1 [v] rfl (fun i hi=>by
    obtain rfl:i=0:=by omega
    exact h.cell 0) 9 Tryz.underlying9
theorem run_byte (v:Int) (h:0≤v∧v < 256) (w:World):(convert 3 5 (.int .i64 v)).run Tryz.prog w=.ok (.int .u8 v) w:=by
  rw [run_convert_int (src:=3) (dst:=5) (k:=.i64) (n:=v) (hs:=by rw [Tryz.underlying3]; rfl) (hd:=by rw [Tryz.underlying5]; kernel_rfl)]
  have e:Tryz.prog.intKind 5=.u8:=by kernel_rfl
  rw [e,IntWalk.u8_in v (by omega)]
theorem textI_len {n:Int} (h1:-9223372036854775808≤n) (h2:n≤9223372036854775807):(strOfNums (textI n)).size≤100:=by
  rw [strOfNums_size]
  have h:=digs_len (n:=n.natAbs) (k:=19) (by omega)
  unfold textI
  split
  · simp
  · split <;> simp <;> omega
def IsByte (v:Value) (c:Int) (w:World):Prop:=∃ q,v=.slice (some ⟨q,0,none⟩) 1 1∧Blk w q 5 [.int .u8 c]
theorem IsByte.new_ {v:Value} {c:Int} {w w':World} (h:IsByte v c w) (hn:New w w'):IsByte v c w':=by
  obtain⟨q,he,hb⟩:=h; exact⟨q,he,hb.new_ hn⟩
def TDec (vs:List Value) (k:Nat) (c:Int) (i:Nat) (v:Value) (w:World):Prop:=if i=k then IsByte v c w else v=vs.getD i undef
theorem TDec.new_ {vs:List Value} {k:Nat} {c:Int} (i:Nat) (v:Value) (w w':World) (hn:New w w') (h:TDec vs k c i v w):TDec vs k c i v w':=by
  unfold TDec at *
  split
  · rename_i hik; rw [if_pos hik] at h; exact h.new_ hn
  · rename_i hik; rw [if_neg hik] at h; exact h
theorem TDec.eq {vs:List Value} {k:Nat} {c:Int} {i:Nat} {v:Value} {w:World} (h:TDec vs k c i v w) (hik:(i == k)=false):v=vs.getD i undef:=by
  unfold TDec at h
  rw [if_neg (by simpa using hik)] at h
  exact h
theorem TDec.byte {vs:List Value} {k:Nat} {c:Int} {v:Value} {w:World} (h:TDec vs k c k v w):IsByte v c w:=by
  unfold TDec at h
  rw [if_pos rfl] at h
  exact h
theorem TDec.mk {vs:List Value} {k:Nat} {c:Int} {i:Nat} {w:World} (hik:(i == k)=false):TDec vs k c i (vs.getD i undef) w:=by
  unfold TDec
  rw [if_neg (by simpa using hik)]
set_option maxHeartbeats 1600000 in
set_option maxRecDepth 100000 in
theorem dec_step (n:Int) (w:World) (h1:-9223372036854775808≤n) (h2:n≤9223372036854775807)
    (ih:∀ (k:Int) (w:World),k.natAbs < n.natAbs→-9223372036854775808≤k→k≤9223372036854775807→Calls Tryz.prog 97 #[.int .i64 k] w (IsTextD (textI k) w)) :
    Calls Tryz.prog 97 #[.int .i64 n] w (IsTextD (textI n) w):=by
  have IH:=hide ih
  clear ih
  have HT:=hide (textI_len h1 h2)
  by_cases hneg:n < 0
  · by_cases hs:n.tdiv 10=0
    · rw [textI_neg1 hneg hs]
      have hm:=tmod_np (n:=n) (by omega)
      have hq:=hide hs
      have hq0:(n.tdiv 10 == 0)=true:=by simpa using hs
      have hw1:wrap64 (48 - n.tmod 10)=48 - n.tmod 10:=by unfold wrap64; omega
      have hw2:(48 - n.tmod 10) % 256=48 - n.tmod 10:=by omega
      have hconv:=run_str1 (48 - n.tmod 10) w.heap.size (w.alloc (.cells #[.int .u8 (48 - n.tmod 10)] 5)) (Blk.new w _ [_])
      have hsz:(strOfNums [48 - n.tmod 10]).size=1:=rfl
      have hadd:=hide (strOf_app [45] [48 - n.tmod 10])
      clear hm hs HT
      go_enter Tryz.func97,Tryz.ntmps97
      go_wp2
      go_ret
      exact⟨congrArg (fun s=>Ending.returned (.string s)) hadd.out,(Upd.refl _ _).alloc _⟩
    · have ht:=hide (textI_neg2 hneg hs)
      have hm:=tmod_np (n:=n) (by omega)
      obtain⟨d,hde⟩:∃ d,d=n.tdiv 10:=⟨_,rfl⟩
      have hq0:(n.tdiv 10 == 0)=false:=by simpa using hs
      have hd1:(-d).natAbs < n.natAbs∧-9223372036854775808≤-d∧-d≤9223372036854775807∧-9223372036854775808≤d∧d≤9223372036854775807:=by
        obtain⟨m,rfl⟩:∃ m:Nat,n = -(m:Int):=⟨n.natAbs,by omega⟩
        rw [td_neg] at hde
        omega
      have Hd:=hide hde
      have hlen:=hide (textI_len hd1.2.1 hd1.2.2.1)
      clear hde hs
      go_enter Tryz.func97,Tryz.ntmps97
      go_wp2_with fail
      refine wp_region_inv [true,true,true,true,true,true,true,true,true,true,true,true,false] [] [(12,true)] 44
        (TDec [.int .i64 n,.int .i64 d,.int .i64 (-d),.string (strOfNums (textI (-d))),.string (strOfNums ([45] ++ textI (-d))),.int .i64 n,.int .i64 (n.tmod 10),.int .i64 (48 - n.tmod 10),.int .u8 (48 - n.tmod 10),undef,.string (strOfNums [48 - n.tmod 10]),.string (strOfNums (textI n))] 9 (48 - n.tmod 10))
        (by kernel_rfl) (by kernel_rfl) rfl (fun _ _ d _ _ h=>by cases d <;> exact h) TDec.new_ ?_ (fun i h=>by simp at h) ?_
      · intro i hF _
        match i with
        | 0=>exact step_take rfl rfl fun ac w hw hk=>⟨_,y_move (S:=fun _=>True) rfl ((hk.fix 0 (by kernel_rfl)).trans rfl) w trivial,.mk rfl⟩
        | 1=>exact step_take rfl rfl fun ac w hw hk=>⟨_,y_bin (S:=fun _=>True) rfl ((hk.dep 0 15 (by kernel_rfl) (by kernel_rfl)).eq rfl) rfl (r_quo Hd.out.symm (by omega) (by omega)) w trivial,.mk rfl⟩
        | 2=>exact step_take rfl rfl fun ac w hw hk=>⟨_,y_negi rfl ((hk.dep 1 16 (by kernel_rfl) (by kernel_rfl)).eq rfl) (by omega),.mk rfl⟩
        | 3 =>
          refine step_call rfl rfl rfl fun ac w hw hk=>?_
          have h1:=(hk.dep 2 17 (by kernel_rfl) (by kernel_rfl)).eq rfl
          refine ⟨#[.int .i64 (-d)],_,?_,fun w=>by kernel_rfl,IH.out (-d) w hd1.1 hd1.2.1 hd1.2.2.1,?_⟩
          · show [ac.eval (.tmp 17)]=_; rw [h1]; rfl
          · rintro e w' ⟨rfl,hn⟩; exact⟨_,rfl,hn,.mk rfl⟩
        | 4 =>
          refine step_take rfl rfl fun ac w hw hk=>?_
          have h1:ac.eval (.tmp 18)=.string (strOfNums (textI (-d))):=(hk.dep 3 18 (by kernel_rfl) (by kernel_rfl)).eq rfl
          refine ⟨.string (strOfNums ([45] ++ textI (-d))),?_,.mk rfl⟩
          rw [← strOf_app]
          exact y_adds rfl rfl h1 (by have:=hlen.out; have:(strOfNums [45]).size=1:=rfl; omega)
        | 5=>exact step_take rfl rfl fun ac w hw hk=>⟨_,y_move (S:=fun _=>True) rfl ((hk.fix 0 (by kernel_rfl)).trans rfl) w trivial,.mk rfl⟩
        | 6=>exact step_take rfl rfl fun ac w hw hk=>⟨_,y_bin (S:=fun _=>True) rfl ((hk.dep 5 20 (by kernel_rfl) (by kernel_rfl)).eq rfl) rfl (r_rem rfl (by omega) (by omega)) w trivial,.mk rfl⟩
        | 7=>exact step_take rfl rfl fun ac w hw hk=>⟨_,y_bin (S:=fun _=>True) rfl rfl ((hk.dep 6 21 (by kernel_rfl) (by kernel_rfl)).eq rfl) (r_sub rfl (by omega)) w trivial,.mk rfl⟩
        | 8=>exact step_take rfl rfl fun ac w hw hk=>⟨_,y_conv rfl ((hk.dep 7 22 (by kernel_rfl) (by kernel_rfl)).eq rfl) (run_byte _ (by omega) w),.mk rfl⟩
        | 9 =>
          refine step_new rfl rfl fun ac w hw hk=>?_
          have h1:ac.eval (.tmp 23)=.int .u8 (48 - n.tmod 10):=(hk.dep 8 23 (by kernel_rfl) (by kernel_rfl)).eq rfl
          refine ⟨_,_,y_build (vs:=[.int .u8 (48 - n.tmod 10)]) rfl ?_,⟨_,rfl,Blk.new w _ _⟩⟩
          simp only [List.map_toArray,List.map_cons,List.map_nil,h1]
          exact run_build1 _ w
        | 10 =>
          refine step_take rfl rfl fun ac w hw hk=>?_
          obtain⟨q,h1,hb⟩:=(hk.dep 9 24 (by kernel_rfl) (by kernel_rfl)).byte
          exact⟨_,y_conv rfl h1 (run_str1 _ q w hb),.mk rfl⟩
        | 11 =>
          refine step_take rfl rfl fun ac w hw hk=>?_
          have h1:ac.eval (.tmp 19)=.string (strOfNums ([45] ++ textI (-d))):=(hk.dep 4 19 (by kernel_rfl) (by kernel_rfl)).eq rfl
          have h2:ac.eval (.tmp 25)=.string (strOfNums [48 - n.tmod 10]):=(hk.dep 10 25 (by kernel_rfl) (by kernel_rfl)).eq rfl
          have h3:strOfNums (textI n)=strOfNums ([45] ++ textI (-d)) ++ strOfNums [48 - n.tmod 10]:=by rw [strOf_app,Hd.out,← ht.out]
          refine ⟨.string (strOfNums (textI n)),?_,.mk rfl⟩
          rw [h3]
          exact y_adds rfl h1 h2 (by have:=hlen.out; have:(strOfNums [48 - n.tmod 10]).size=1:=rfl; simp only [strOfNums_size] at *; simp; omega)
        | 12=>cases hF
        | _ + 13=>cases hF
      · intro vals w1 hn hTl
        have hv0:vals 0=.int .i64 n:=(hTl 0 rfl).eq rfl
        have hv1:vals 1=.int .i64 d:=(hTl 1 rfl).eq rfl
        have hv2:vals 2=.int .i64 (-d):=(hTl 2 rfl).eq rfl
        have hv3:vals 3=.string (strOfNums (textI (-d))):=(hTl 3 rfl).eq rfl
        have hv4:vals 4=.string (strOfNums ([45] ++ textI (-d))):=(hTl 4 rfl).eq rfl
        have hv5:vals 5=.int .i64 n:=(hTl 5 rfl).eq rfl
        have hv6:vals 6=.int .i64 (n.tmod 10):=(hTl 6 rfl).eq rfl
        have hv7:vals 7=.int .i64 (48 - n.tmod 10):=(hTl 7 rfl).eq rfl
        have hv8:vals 8=.int .u8 (48 - n.tmod 10):=(hTl 8 rfl).eq rfl
        obtain⟨q,hv9,-⟩:=(hTl 9 rfl).byte
        have hv10:vals 10=.string (strOfNums [48 - n.tmod 10]):=(hTl 10 rfl).eq rfl
        have hv11:vals 11=.string (strOfNums (textI n)):=(hTl 11 rfl).eq rfl
        clear hTl
        simp only [putL,Act.put,List.setIfInBounds_toArray,List.set_cons_zero,List.set_cons_succ,hv0,hv1,hv2,hv3,hv4,hv5,hv6,hv7,hv8,hv9,hv10,hv11]
        clear hv0 hv1 hv2 hv3 hv4 hv5 hv6 hv7 hv8 hv9 hv10 hv11 hm hd1
        refine st_take (a':=?_) rfl rfl (y_assign (v:=.string (strOfNums (textI n))) rfl rfl) ?_ ?_
        rotate_left; (simp only [Act.put,List.setIfInBounds_toArray,List.set_cons_zero,List.set_cons_succ]; rfl)
        refine st_nil ?_
        go_wp2
        go_ret
        exact⟨rfl,hn⟩
  · by_cases hs:n < 10
    · rw [textI_small (by omega) hs]
      have hconv:=run_str1 (48 + n) w.heap.size (w.alloc (.cells #[.int .u8 (48 + n)] 5)) (Blk.new w _ [_])
      have hl:0≤n:=by omega
      clear HT
      go_enter Tryz.func97,Tryz.ntmps97
      go_wp2
      go_ret
      exact⟨rfl,(Upd.refl _ _).alloc _⟩
    · have ht:=hide (textI_big (n:=n) (by omega))
      have hm:=tmod_nn (n:=n) (by omega)
      have hd:=tdiv_nn (n:=n) (by omega)
      obtain⟨d,hde⟩:∃ d,d=n.tdiv 10:=⟨_,rfl⟩
      rw [← hde] at hd
      have Hd:=hide hde
      have hd1:d.natAbs < n.natAbs∧-9223372036854775808≤d∧d≤9223372036854775807:=by omega
      have hlen:=hide (textI_len hd1.2.1 hd1.2.2)
      have hl:10≤n:=by omega
      clear hd hde
      go_enter Tryz.func97,Tryz.ntmps97
      go_wp2_with fail
      refine wp_region_inv [true,true,true,true,true,true,true,true,true,true,false] [] [(10,true)] 44
        (TDec [.int .i64 n,.int .i64 d,.string (strOfNums (textI d)),.int .i64 n,.int .i64 (n.tmod 10),.int .i64 (48 + n.tmod 10),.int .u8 (48 + n.tmod 10),undef,.string (strOfNums [48 + n.tmod 10]),.string (strOfNums (textI n))] 7 (48 + n.tmod 10))
        (by kernel_rfl) (by kernel_rfl) rfl (fun _ _ d _ _ h=>by cases d <;> exact h) TDec.new_ ?_ (fun i h=>by simp at h) ?_
      · intro i hF _
        match i with
        | 0=>exact step_take rfl rfl fun ac w hw hk=>⟨_,y_move (S:=fun _=>True) rfl ((hk.fix 0 (by kernel_rfl)).trans rfl) w trivial,.mk rfl⟩
        | 1=>exact step_take rfl rfl fun ac w hw hk=>⟨_,y_bin (S:=fun _=>True) rfl ((hk.dep 0 34 (by kernel_rfl) (by kernel_rfl)).eq rfl) rfl (r_quo Hd.out.symm (by omega) (by omega)) w trivial,.mk rfl⟩
        | 2 =>
          refine step_call rfl rfl rfl fun ac w hw hk=>?_
          have h1:=(hk.dep 1 35 (by kernel_rfl) (by kernel_rfl)).eq rfl
          refine ⟨#[.int .i64 d],_,?_,fun w=>by kernel_rfl,IH.out d w hd1.1 hd1.2.1 hd1.2.2,?_⟩
          · show [ac.eval (.tmp 35)]=_; rw [h1]; rfl
          · rintro e w' ⟨rfl,hn⟩; exact⟨_,rfl,hn,.mk rfl⟩
        | 3=>exact step_take rfl rfl fun ac w hw hk=>⟨_,y_move (S:=fun _=>True) rfl ((hk.fix 0 (by kernel_rfl)).trans rfl) w trivial,.mk rfl⟩
        | 4=>exact step_take rfl rfl fun ac w hw hk=>⟨_,y_bin (S:=fun _=>True) rfl ((hk.dep 3 37 (by kernel_rfl) (by kernel_rfl)).eq rfl) rfl (r_rem rfl (by omega) (by omega)) w trivial,.mk rfl⟩
        | 5=>exact step_take rfl rfl fun ac w hw hk=>⟨_,y_bin (S:=fun _=>True) rfl rfl ((hk.dep 4 38 (by kernel_rfl) (by kernel_rfl)).eq rfl) (r_add rfl (by omega)) w trivial,.mk rfl⟩
        | 6=>exact step_take rfl rfl fun ac w hw hk=>⟨_,y_conv rfl ((hk.dep 5 39 (by kernel_rfl) (by kernel_rfl)).eq rfl) (run_byte _ (by omega) w),.mk rfl⟩
        | 7 =>
          refine step_new rfl rfl fun ac w hw hk=>?_
          have h1:ac.eval (.tmp 40)=.int .u8 (48 + n.tmod 10):=(hk.dep 6 40 (by kernel_rfl) (by kernel_rfl)).eq rfl
          refine ⟨_,_,y_build (vs:=[.int .u8 (48 + n.tmod 10)]) rfl ?_,⟨_,rfl,Blk.new w _ _⟩⟩
          simp only [List.map_toArray,List.map_cons,List.map_nil,h1]
          exact run_build1 _ w
        | 8 =>
          refine step_take rfl rfl fun ac w hw hk=>?_
          obtain⟨q,h1,hb⟩:=(hk.dep 7 41 (by kernel_rfl) (by kernel_rfl)).byte
          exact⟨_,y_conv rfl h1 (run_str1 _ q w hb),.mk rfl⟩
        | 9 =>
          refine step_take rfl rfl fun ac w hw hk=>?_
          have h1:ac.eval (.tmp 36)=.string (strOfNums (textI d)):=(hk.dep 2 36 (by kernel_rfl) (by kernel_rfl)).eq rfl
          have h2:ac.eval (.tmp 42)=.string (strOfNums [48 + n.tmod 10]):=(hk.dep 8 42 (by kernel_rfl) (by kernel_rfl)).eq rfl
          have h3:strOfNums (textI n)=strOfNums (textI d) ++ strOfNums [48 + n.tmod 10]:=by rw [strOf_app,Hd.out,← ht.out]
          refine ⟨.string (strOfNums (textI n)),?_,.mk rfl⟩
          rw [h3]
          exact y_adds rfl h1 h2 (by have:=hlen.out; have:(strOfNums [48 + n.tmod 10]).size=1:=rfl; omega)
        | 10=>cases hF
        | _ + 11=>cases hF
      · intro vals w1 hn hTl
        have hv0:vals 0=.int .i64 n:=(hTl 0 rfl).eq rfl
        have hv1:vals 1=.int .i64 d:=(hTl 1 rfl).eq rfl
        have hv2:vals 2=.string (strOfNums (textI d)):=(hTl 2 rfl).eq rfl
        have hv3:vals 3=.int .i64 n:=(hTl 3 rfl).eq rfl
        have hv4:vals 4=.int .i64 (n.tmod 10):=(hTl 4 rfl).eq rfl
        have hv5:vals 5=.int .i64 (48 + n.tmod 10):=(hTl 5 rfl).eq rfl
        have hv6:vals 6=.int .u8 (48 + n.tmod 10):=(hTl 6 rfl).eq rfl
        obtain⟨q,hv7,-⟩:=(hTl 7 rfl).byte
        have hv8:vals 8=.string (strOfNums [48 + n.tmod 10]):=(hTl 8 rfl).eq rfl
        have hv9:vals 9=.string (strOfNums (textI n)):=(hTl 9 rfl).eq rfl
        clear hTl
        simp only [putL,Act.put,List.setIfInBounds_toArray,List.set_cons_zero,List.set_cons_succ,hv0,hv1,hv2,hv3,hv4,hv5,hv6,hv7,hv8,hv9]
        clear hv0 hv1 hv2 hv3 hv4 hv5 hv6 hv7 hv8 hv9 hm hd1 hl
        refine st_take (a':=?_) rfl rfl (y_assign (v:=.string (strOfNums (textI n))) rfl rfl) ?_ ?_
        rotate_left; (simp only [Act.put,List.setIfInBounds_toArray,List.set_cons_zero,List.set_cons_succ]; rfl)
        refine st_nil ?_
        go_wp2
        go_ret
        exact⟨rfl,hn⟩
theorem dec_any (n:Int) (w:World) (h1:-9223372036854775808≤n) (h2:n≤9223372036854775807):Calls Tryz.prog 97 #[.int .i64 n] w (IsTextD (textI n) w):=by
  obtain⟨m,hm⟩:∃ m,m=n.natAbs:=⟨_,rfl⟩
  induction m using Nat.strongRecOn generalizing n w with
  | ind m ih=>exact dec_step n w h1 h2 fun k w' hk g1 g2=>ih k.natAbs (by omega) k w' g1 g2 rfl

theorem plainT_lt (u:List Nat):plainT u=if u.all (fun y:Nat=>decide ((y:Int) < 128)) then (strN u,true) else (⟨#[]⟩,false):=by
  have e:(fun y:Nat=>decide ((y:Int)≤127))=fun y:Nat=>decide ((y:Int) < 128):=by
    funext y
    exact decide_eq_decide.2 (by omega)
  unfold plainT
  rw [e]
def digitsR (t:List Nat):Int × Int :=
  if decide ((t.length:Int)=0) then (0,0)
  else if decide (((t.getD 0 0:Nat):Int)=45) then parsedB t (t.drop 1) true
  else if decide (((t.getD 0 0:Nat):Int)=43) then parsedB t (t.drop 1) false
  else parsedB t t false
theorem digitsR_eq (u:List Nat):digitsR (trimN u)=parsedZ u:=rfl
theorem strip_up {l:List Nat} {i:Nat} (h:i + 1 < l.length) (h1:decide (((l.getD i 0:Nat):Int)=48)=true) (hs:stripN (l.drop i)=stripN l):stripN (l.drop (i + 1))=stripN l:=by
  have e:((l.drop i).getD 0 0)=l.getD i 0:=by simp [List.getD]
  have h2:=strip_step (l:=l.drop i) (by rw [List.length_drop]; omega) (by rw [e]; exact h1)
  rw [List.drop_drop] at h2
  rw [← hs,← h2]
theorem strip_at {l:List Nat} {i:Nat} (h:l.length≤i + 1 ∨ decide (((l.getD i 0:Nat):Int)=48)=false) (hs:stripN (l.drop i)=stripN l):l.drop i=stripN l:=by
  have e:((l.drop i).getD 0 0)=l.getD i 0:=by simp [List.getD]
  rw [← hs,strip_end]
  rcases h with h|h
  · exact .inl (by rw [List.length_drop]; omega)
  · exact .inr (by rw [e]; exact h)
def tfN:List ByteArray:=[⟨#[102,97,108,115,101]⟩,⟨#[116,114,117,101]⟩]
theorem tfN_len:tfN.length=2:=rfl
theorem textV_truth {v:Vl} (hk:decide ((cleanV v).k=2)=true) (hr:(cleanV v).ref=0 ∨ (cleanV v).ref=1):textV v=(asc (tfN.getD (cleanV v).ref.toNat ⟨#[]⟩),0):=by
  unfold textV
  rw [of_decide_eq_true hk]
  rcases hr with h|h <;> rw [h] <;> rfl
theorem truth_size {r:Int} (h:r=0 ∨ r=1):(tfN.getD r.toNat (⟨#[]⟩:ByteArray)).size≤1000000:=by
  rcases h with rfl|rfl <;> decide

theorem rdec_c (n:Int) (w:World) (h1:-9223372036854775808≤n) (h2:n≤9223372036854775807):Calls Tryz.prog 97 #[iv n] w (IsRet (.string (itoaS n)) w):=by
  refine (dec_any n w h1 h2).mono fun e w' h=>?_
  obtain⟨rfl,hn⟩:=h
  exact⟨by rw [textI_itoa],hn⟩
theorem rntext_c (a:Nm) (w:World):Calls prog 52 #[nv a] w (IsRet (.string (textM a)) w):=by
 refine enter_abs func52 rfl fun a0 ai bC hp=>?_
 have ai:a0.tmps.size=17:=ai
 have aP:New w w:=Upd.refl _ _
 have hp0:a0.eval (.tmp 0)=nv a:=hp 0 _ rfl
 refine wk fun K1 bD=>?_
 refine wB tr2 [] [] 17 [IsNew w 23 [iv a.k,iv a.n],ve (.string ⟨#[]⟩)] [0] ai ?_ heN ?_
 exact .X hp0<| .c .nil
 refine aftI ai bC aP fun a2 w3 aQ bE al b5 bF=>?_
 obtain⟨q9,h8,aW,aX⟩:=bF.G 0 1
 have bR:=Nat.le_trans aP.size aW
 refine bD _ _ <| wk fun b6 aY=>?_
 refine wB [true,true,true,false] [] [(3,false)] 17 [ve (nv a),ve (nv (asM a)),IsNew w3 23 [iv 0,iv 0],vt] [2] aQ ?_ heN ?_
 exact .L2 h8 aX<| .C 0 (fun m=>rgood_c a _)<| .Y<| .off .nil
 refine aftI aQ bE al fun b7 b8 am aZ a1 bS an=>?_
 have bG:=an.g 1 5
 obtain⟨aR,ao,a3,a4⟩:=an.G 2 3
 have bT:=Nat.le_trans al.size a3
 have hbd_a:=as_bd a
 refine sS2 ao bG a4 fun b9 ap a5 bU=>?_
 have a7:=a1.tR a5
 refine aY _ _ <| wk fun cb a8=>?_
 refine wA tr2 [] 17 [ve (pv aR),ve (iv ((asM a).k))] am ?_ ?_
 exact .F ao<| .J 0 isAgg3 ap .nil
 refine aftI am aZ a7 fun cc cd aq a9 ba bb ar=>?_
 have bH:=ar.f1 ao
 have aS:=ar.g 1 7
 have bd:=ap.new_ bb
 refine a8 _ _<| wb<| wk fun ce be=>?_
 refine wA tr2 [] 17 [ve (.bool (decide (((asM a).k)=2))),ve (.bool (decide (((asM a).k)=2)))] aq ?_ ?_
 exact .H aS (r_eql rfl)<| .B 0 .nil
 refine aftI aq a9 ba fun cf ch ae au av bf ag=>?_
 have⟨bI,aT⟩:=ag.f2 bH aS
 have aU:=ag.g 1 11
 have bg:=bd.new_ bf
 refine be _ _ ?_
 rcases bc (decide (((asM a).k)=2)) with aa|aa
 have aC:=oT aa
 have bh:=hB aU aa
 refine wt bh<| wk fun ci bi=>?_
 refine wA tr1 [] 17 [ve (.string ⟨#[78,97,78]⟩)] ae ?_ ?_
 exact .c .nil
 refine aftI ae au av fun cj cl bV bj bk bW bl=>?_
 have bJ:=bl.g 0 2
 refine bi _ _<| wp_ret (ret_k bj (v:=.string ⟨#[78,97,78]⟩) (res_t rfl bJ _) ?_)
 refine ⟨?_,bk⟩
 show Ending.returned (.string ⟨#[78,97,78]⟩)=Ending.returned (.string (textM a))
 first|rfl|(simp only [textM,aa,bsm] <;> rfl)|(exfalso; omega)
 have aC:=oF aa
 have bm:=hB aU aa
 refine wf bm<| wk fun cm bn=>?_
 refine wA tr2 [] 17 [ve (.bool (decide (((asM a).k)=3))),ve (.bool (decide (((asM a).k)=3)))] ae ?_ ?_
 exact .H aT (r_eql rfl)<| .B 0 .nil
 refine aftI ae au av fun cn co af aw ax bo ah=>?_
 have⟨bK,bL⟩:=ah.f2 bI aT
 have aV:=ah.g 1 13
 have bp:=bg.new_ bo
 refine bn _ _ ?_
 rcases bc (decide (((asM a).k)=3)) with ac|ac
 have aD:=oT ac
 have bq:=hB aV ac
 refine wt bq<| wk fun cp br=>?_
 refine wA tr1 [] 17 [ve (.string ⟨#[73,110,102,105,110,105,116,121]⟩)] af ?_ ?_
 exact .c .nil
 refine aftI af aw ax fun cq cr bX bs bt bY bu=>?_
 have bM:=bu.g 0 2
 refine br _ _<| wp_ret (ret_k bs (v:=.string ⟨#[73,110,102,105,110,105,116,121]⟩) (res_t rfl bM _) ?_)
 refine ⟨?_,bt⟩
 show Ending.returned (.string ⟨#[73,110,102,105,110,105,116,121]⟩)=Ending.returned (.string (textM a))
 first|rfl|(simp only [textM,aa,ac,bsm] <;> rfl)|(exfalso; omega)
 have aD:=oF ac
 have bv:=hB aV ac
 refine wf bv<| wk fun ct bw=>?_
 refine wA tr2 [] 17 [ve (.bool (decide (((asM a).k)=4))),ve (.bool (decide (((asM a).k)=4)))] af ?_ ?_
 exact .H bL (r_eql rfl)<| .B 0 .nil
 refine aftI af aw ax fun cu cv ad aj ak bx ay=>?_
 have bz:=ay.f1 bK
 have az:=ay.g 1 15
 have aE:=bp.new_ bx
 refine bw _ _ ?_
 rcases bc (decide (((asM a).k)=4)) with ab|ab
 have aA:=oT ab
 have aF:=hB az ab
 refine wt aF<| wk fun bZ aG=>?_
 refine wA tr1 [] 17 [ve (.string ⟨#[45,73,110,102,105,110,105,116,121]⟩)] ad ?_ ?_
 exact .c .nil
 refine aftI ad aj ak fun b0 b1 bN aH aI bO aJ=>?_
 have bA:=aJ.g 0 2
 refine aG _ _<| wp_ret (ret_k aH (v:=.string ⟨#[45,73,110,102,105,110,105,116,121]⟩) (res_t rfl bA _) ?_)
 refine ⟨?_,aI⟩
 show Ending.returned (.string ⟨#[45,73,110,102,105,110,105,116,121]⟩)=Ending.returned (.string (textM a))
 first|rfl|(simp only [textM,aa,ac,ab,bsm] <;> rfl)|(exfalso; omega)
 have aA:=oF ab
 have aK:=hB az ab
 refine wf aK<| wk fun b2 aL=>?_
 refine wA tr4 [] 17 [ve (.pointer (some ⟨aR,1,none⟩)),ve (iv ((asM a).n)),ve (.string (itoaS ((asM a).n))),ve (.string (itoaS ((asM a).n)))] ad ?_ ?_
 exact .F bz<| .J 0 isAgg3 aE<| .C 1 (fun m=>rdec_c ((asM a).n) _ (by omega) (by omega))<| .B 2 .nil
 refine aftI ad aj ak fun b3 b4 bP aM aN bQ aO=>?_
 have bB:=aO.g 3 2
 refine aL _ _<| wp_ret (ret_k aM (v:=.string (itoaS ((asM a).n))) (res_t rfl bB _) ?_)
 refine ⟨?_,aN⟩
 show Ending.returned (.string (itoaS ((asM a).n)))=Ending.returned (.string (textM a))
 first|rfl|(simp only [textM,aa,ac,ab,bsm] <;> rfl)|(exfalso; omega)
theorem rplain_c (Au:Option Addr) (u:List Nat) (cu:Nat) (w:World) (hru:SRow w .u16 Au u cu) (hu:U16s u) (hs:u.length≤100000):Calls prog 86 #[sv Au u cu] w (IsRet (.tuple #[.string ((plainT u).1),.bool ((plainT u).2)]) w):=by
 refine enter_abs func86 rfl fun a0 av cc hp=>?_
 have av:a0.tmps.size=27:=av
 have cd:New w w:=Upd.refl _ _
 have hp0:a0.eval (.tmp 0)=sv Au u cu:=hp 0 _ rfl
 have hmx:=hru.max
 refine wk fun K1 ce=>?_
 refine wA tr2 [] 27 [ve (.string ⟨#[]⟩),vF] av ?_ ?_
 exact .c<| .c .nil
 refine aftI av cc cd fun a2 w3 bj cf ch dc ci=>?_
 have h8:=ci.f1 hp0
 refine ce _ _ <| wk fun dd br=>?_
 refine wA tr1 [] 27 [ve (sv none ([]) 0)] bj ?_ ?_
 exact .c .nil
 refine aftI bj cf ch fun de df aE bs bt cT aF=>?_
 have cj:=aF.f1 h8
 have cl:=aF.g 0 4
 refine br _ _ <| wk fun dg bu=>?_
 refine wk fun dh bv=>?_
 refine wA tr1 [] 27 [ve (iv 0)] aE ?_ ?_
 exact .c .nil
 refine aftI aE bs bt fun di dj bw bx bz cU ap=>?_
 have⟨cm,cn⟩:=ap.f2 cj cl
 have co:=ap.g 0 5
 refine bv _ _<| wb<| wp_loopX (fun (mm:Nat) (aa:Act) (ww:World)=>∃ (i:Nat) (A1:Option Addr) (c1:Nat),mm=u.length - i∧aa.tmps.size=27∧aa.defers=[]∧New w ww∧aa.eval (.tmp 4)=sv A1 (u.take i) c1∧aa.eval (.tmp 5)=iv (i:Int)∧aa.eval (.tmp 0)=sv Au u cu∧SOwn ww w.heap.size 5 .u8 A1 (u.take i) c1∧(i≤u.length)∧((u.take i).all (fun y:Nat=>decide ((y:Int) < 128))=true)) (fun mm=>mm) ⟨_,⟨0,none,0,rfl,bw,bx,bz,(cn.trans rfl),co,cm,(SOwn.nil _ _ _ _),(Nat.zero_le _),rfl⟩⟩ ?_
 rintro mm dk dl ⟨i,A1,c1,hmm,aG,bA,bB,cp,bk,bl,bC,hi,hall⟩
 refine wk fun dm bD=>wk fun dn bE=>?_
 refine wA tr4 [] 27 [ve (iv (i:Int)),ve (sv Au u cu),ve (iv (u.length:Int)),ve (.bool (decide ((i:Int) < (u.length:Int))))] aG ?_ ?_
 exact .M bk<| .M bl<| .T (fun k=>v_lenR rfl elU (k.eq1 1 7 rfl))<| .T (fun k=>v_bin rfl (k.eq1 0 6 rfl) (k.eq1 2 8 rfl) (fun _=>rfl) (r_lssK rfl)) .nil
 refine aftI aG bA bB fun dp dq ag aq ak bF an=>?_
 have⟨aH,aw,ax⟩:=an.f3 cp bk bl
 have bm:=an.g 3 9
 have ar:=bC.new_ bF
 refine bE _ _ ?_
 rcases bc (decide ((i:Int) < (u.length:Int))) with al|al
 have aW:=oT al
 have bG:=hB bm al
 refine wt bG<| ws<| bD _ _<| wk fun dr bH=>wb ?_
 refine wk fun ds bI=>wk fun dt aI=>?_
 rcases bc (decide (((u.getD i 0:Nat):Int) < 128)) with af|af
 have aX:=oT af
 have hb:=hu.at16 i
 refine wp_g0 [true,true,true,true,true] [] 27
  [ve (sv Au u cu),ve (iv (i:Int)),
  (EP (.int .u16 ((u.getD i 0:Nat):Int))),ve (.int .u16 ((u.getD i 0:Nat):Int)),vF] ag (.eq (.eq (.cons (fun _ _ _ n ⟨_,_,e,h⟩=>⟨_,_,e,h.new_ n⟩) (.eq (.eq .nil))))) ?_ ?_
 refine .M ax<| .M aw ?_
 refine .o1 (tk rfl rfl fun _ w hn k=>(by
  exact x_eaddr (k:=.u16) rfl elU (k.eq1 0 12 rfl) (k.eq1 1 13 rfl) (hru.new_ (ak.transNew hn)) (by omega) fun b9 cs hme=>⟨b9,cs,rfl,hme⟩)) ?_
 refine .o1 (tk rfl rfl fun _ w hn k=>(by
  obtain⟨du,dv,ct,bJ⟩:=k.G 2 14
  exact⟨_,v_load rfl ct (l_one isAgg79 bJ.1),rfl⟩)) ?_
 exact .b 3 (r_geqK af) .nil
 refine aftI ag aq ak fun dw bn aJ bK au bL ao=>?_
 have⟨bo,bp,bq⟩:=ao.f3 aH aw ax
 have cv:=ao.g 4 16
 have bM:=ar.new_ bL
 refine aI _ _<| wf cv<| ws ?_
 refine bI _ _ ?_
 have hb:=hu.at16 i
 have htl:(u.take i).length=i:=by rw [List.length_take]; omega
 refine wp_g0 [true,true,true,true,true,true,true,false,false] [(7,false),(8,true)] 27
  [ve (sv A1 (u.take i) c1),ve (sv Au u cu),ve (iv (i:Int)),
  (EP (.int .u16 ((u.getD i 0:Nat):Int))),ve (.int .u16 ((u.getD i 0:Nat):Int)),ve (.int .u8 (((u.getD i 0) % 256:Nat):Int)),
  (OP bn.heap.size 5 .u8 ([((u.getD i 0) % 256)])),vt,vt] aJ (.eq (.eq (.eq (.cons (fun _ _ _ n ⟨_,_,e,h⟩=>⟨_,_,e,h.new_ n⟩) (.eq (.eq (.cons (fun _ _ _ n ⟨_,_,e,h⟩=>⟨_,_,e,h.new_ n⟩) (.tt (.tt .nil))))))))) ?_ ?_
 refine .M bo<| .M bq<| .M bp ?_
 refine .o1 (tk rfl rfl fun _ w hn k=>(by
  exact x_eaddr (k:=.u16) rfl elU (k.eq1 1 18 rfl) (k.eq1 2 19 rfl) (hru.new_ (au.transNew hn)) (by omega) fun cA cB hme=>⟨cA,cB,rfl,hme⟩)) ?_
 refine .o1 (tk rfl rfl fun _ w hn k=>(by
  obtain⟨dx,dy,cC,bN⟩:=k.G 3 20
  exact⟨_,v_load rfl cC (l_one isAgg79 bN.1),rfl⟩)) ?_
 refine .T (fun k=>v_conv rfl (k.eq1 4 21 rfl) (n_conv (by kernel_rfl) (by kernel_rfl) (by kernel_rfl) (n_wrap8 _))) ?_
 refine .o1 (tkA rfl (noG rfl) fun _ w hn k=>(by
  exact x_bslice (k:=.u8) (ps:=[(0,.int .u8 (((u.getD i 0) % 256:Nat):Int))]) [((u.getD i 0) % 256)] rfl (parts1 (k.eq1 5 22 rfl)) elB rfl (by omega) (by omega) (by first|kernel_rfl|(simp only [enc,List.map_cons,List.map_nil,Int.toNat_natCast,Int.toNat_of_nonneg (by omega:(0:Int)≤_)]; kernel_rfl)) fun cD cE W' hmo=>⟨cD,cE,rfl,(hmo.more hn.size)⟩)) ?_
 exact .off<| .off .nil
 refine aftI aJ bK au fun aK dz aL bO aM bP am=>?_
 have⟨dA,cF,cG⟩:=am.f3 bo bp bq
 have cH:=am.g 0 17
 obtain⟨cI,bQ,aN,bR⟩:=am.G 6 23
 have aN:aK.eval (.tmp 23)=sv cI ([((u.getD i 0) % 256)]) bQ:=aN
 have aO:=bM.new_ bP
 have bS:=bR.more au.size
 have hw98:=aM.size
 refine st_act rfl rfl fun dB bT=>a_append (k:=.u8) (b:=w.heap.size) rfl elB cH aO aN bS.row (by first|omega|(simp only [List.length_nil,List.length_cons,List.length_append,List.length_take,List.length_drop,List.length_replicate,List.length_set]; omega)) (by first|omega|(simp only [List.length_nil,List.length_cons,List.length_append,List.length_take,List.length_drop,List.length_replicate,List.length_set]; omega)) hw98 fun ah ad dC aP hg94=>bT _ _ trivial ?_
 have bU:=aM.ownGrown aO hg94
 obtain⟨aQ,ae⟩:∃ a',a'=aK.put (some 24) (sv ah ((u.take i) ++ [((u.getD i 0) % 256)]) ad):=⟨_,rfl⟩
 have⟨ay,aY⟩:=pz2 ae aL bO
 have⟨bV,bW⟩:=pN2 ae cF cG
 have aR:=s7 ae aL
 show stepsTo _ _ _ _ _ (aK.put (some 24) (sv ah ((u.take i) ++ [((u.getD i 0) % 256)]) ad)) _
 rw [← ae]
 refine sP aR ay aY fun bX az aZ ab aT=>?_
 have⟨aS,bY,cV⟩:=ab.q3 bV bW aR
 refine st_nil ?_
 have he114:((u.take i) ++ [((u.getD i 0) % 256)])=(u.take (i + 1)):=by rw [take_up (by omega),show u.getD i 0 % 256=u.getD i 0 by omega]
 rw [he114] at aT
 rw [he114] at aP
 refine bH _ _<| wA [true,true,false] [(2,true)] 27 [ve (iv (i:Int)),ve (iv ((i + 1:Nat):Int)),vt] az ?_ ?_
 exact .M aS<| .R (fun k=>v_bin rfl (k.eq1 0 10 rfl) rfl (fun _=>rfl) (n_add (by omega) (IntWalk.i64_in _ (by omega)))) (fun _=>rfl)<| .off .nil
 refine aftI az aZ bU fun aU cW aA a1 a3 a4 ai=>?_
 have⟨cX,bZ,b0⟩:=ai.f3 aS bY aT
 have aV:=ai.g 1 11
 have a5:=aP.new_ a4
 refine sP aV aA a1 fun b1 a6 a7 ac b4=>?_
 have⟨b2,b3,cY⟩:=ac.q3 bZ b0 aV
 refine st_nil ?_
 refine then_n ?_
 exact⟨_,⟨i + 1,ah,ad,rfl,a6,a7,a3,b3,(b4.trans (congrArg (Value.int .i64) (by omega))),b2,a5,(by omega),(all_up (p:=(fun y:Nat=>decide ((y:Int) < 128))) (by omega) hall af)⟩,(by omega)⟩
 have aX:=oF af
 have hb:=hu.at16 i
 refine wp_g0 [true,true,true,true,true] [] 27
  [ve (sv Au u cu),ve (iv (i:Int)),
  (EP (.int .u16 ((u.getD i 0:Nat):Int))),ve (.int .u16 ((u.getD i 0:Nat):Int)),vT] ag (.eq (.eq (.cons (fun _ _ _ n ⟨_,_,e,h⟩=>⟨_,_,e,h.new_ n⟩) (.eq (.eq .nil))))) ?_ ?_
 refine .M ax<| .M aw ?_
 refine .o1 (tk rfl rfl fun _ w hn k=>(by
  exact x_eaddr (k:=.u16) rfl elU (k.eq1 0 12 rfl) (k.eq1 1 13 rfl) (hru.new_ (ak.transNew hn)) (by omega) fun cL cM hme=>⟨cL,cM,rfl,hme⟩)) ?_
 refine .o1 (tk rfl rfl fun _ w hn k=>(by
  obtain⟨dD,dE,cN,b5⟩:=k.G 2 14
  exact⟨_,v_load rfl cN (l_one isAgg79 b5.1),rfl⟩)) ?_
 exact .b 3 (r_geqK af) .nil
 refine aftI ag aq ak fun cZ c0 aB a8 a9 ba aj=>?_
 have⟨c2,c3,c4⟩:=aj.f3 aH aw ax
 have b6:=aj.g 4 16
 have cO:=ar.new_ ba
 refine aI _ _<| wt b6<| wk fun c5 bb=>?_
 refine wA tr2 [] 27 [ve (.string ⟨#[]⟩),vF] aB ?_ ?_
 exact .c<| .c .nil
 refine aftI aB a8 a9 fun c6 c8 cP bd be cQ aC=>?_
 have b7:=aC.g 0 2
 have b8:=aC.g 1 3
 refine bb _ _<| wp_ret (ret_k bd (v:=.tuple #[.string ⟨#[]⟩,.bool false]) (res_tt rfl b7 b8 _) ?_)
 have hp:plainT u=(⟨#[]⟩,false):=by rw [plainT_lt,all_bad (p:=(fun y:Nat=>decide ((y:Int) < 128))) (i:=i) (by omega) af]; rfl
 exact⟨by rw [hp],be⟩
 have aW:=oF al
 have bf:=hB bm al
 refine wf bf<| wp_exit ?_
 refine bu _ _<| wk fun c9 bg=>?_
 refine wA tr4 [] 27 [ve (sv A1 (u.take i) c1),ve (.string (strN (u.take i))),ve (.string (strN (u.take i))),vT] ag ?_ ?_
 exact .M aH<| .U (fun q k=>v_strB (e:=5) rfl (k.eq1 0 25 rfl) (ar.new_ q).row (by kernel_rfl) (by kernel_rfl) (by kernel_rfl))<| .B 1<| .c .nil
 refine aftI ag aq ak fun da db cR bh bi cS aD=>?_
 have ca:=aD.g 2 2
 have cb:=aD.g 3 3
 refine bg _ _<| wp_ret (ret_k bh (v:=.tuple #[.string (strN (u.take i)),.bool true]) (res_tt rfl ca cb _) ?_)
 have hp:plainT u=(strN (u.take i),true):=by rw [plainT_lt]; rw [List.take_of_length_le (by omega)] at hall; rw [hall,List.take_of_length_le (by omega)]; rfl
 exact⟨by rw [hp],bi⟩
theorem limbs_10:Limbs [10]:=Limbs.cons (by omega) Limbs.nil
theorem ten_pos:0 < val [10]:=by decide
def lettersN (n:Nat):List Nat:=((digs n).map fun d=>48 + d).reverse
theorem lettersN_pos {n:Nat} (h:0 < n):lettersN n=lettersN (n / 10) ++ [48 + n % 10]:=by
  unfold lettersN
  rw [digs_pos h]; simp
theorem lettersN_zero:lettersN 0=[]:=by simp [lettersN,digs_zero]
theorem txt_step {n:Nat} {N t:List Nat} (h:0 < n) (ht:N=lettersN n ++ t):N=lettersN (n / 10) ++ ((48 + n % 10) :: t):=by
  rw [ht,lettersN_pos h]; simp
theorem txt_len {n:Nat} {t:List Nat} (h:0 < n) (hl:t.length + (digs n).length≤78):((48 + n % 10) :: t).length + (digs (n / 10)).length≤78:=by
  rw [digs_pos h,List.length_cons] at hl
  rw [List.length_cons]; omega
theorem canon_small {d:Nat} (h:d < 4294967296):(canon d).getD 0 0=d:=by
  rcases Nat.eq_zero_or_pos d with rfl|h0
  · rw [canon_zero]; rfl
  · rw [canon_pos h0]; show d % 4294967296=d; omega
theorem canon_pos_of {n:Nat} (h:decide (((canon n).length:Int)≤0)=false):0 < n:=by
  have h1:=of_decide_eq_false h
  rcases Nat.eq_zero_or_pos n with rfl|h2
  · rw [canon_zero] at h1; simp at h1
  · exact h2
theorem canon_zero_of {n:Nat} (h:decide (((canon n).length:Int)≤0)=true):n=0:=by
  have h1:=of_decide_eq_true h
  exact canon_nil.1 (List.eq_nil_of_length_eq_zero (by omega))
theorem textI_N (z:Int):strOfNums (textI z)=if z=0 then strN [48] else strN ((if z < 0 then [45] else []) ++ lettersN z.natAbs):=by
  unfold textI
  split
  · rfl
  · rw [← strN_nums]
    congr 1
    unfold lettersN letter
    split <;> simp
theorem txt_zero {z:Int} {n:Nat} {t:List Nat} (hn:decide (((canon n).length:Int)≤0)=true) (h:strEq (strN t) ⟨#[]⟩=true) (ht:lettersN z.natAbs=lettersN n ++ t):⟨#[48]⟩=strOfNums (textI z):=by
  rw [strN_nil] at h
  have h1:=of_decide_eq_true h
  rw [canon_zero_of hn,lettersN_zero,h1] at ht
  have hz:z=0:=by
    rcases Nat.eq_zero_or_pos z.natAbs with h2|h2
    · omega
    · rw [lettersN_pos h2] at ht; simp at ht
  rw [hz]; rfl
theorem txt_nz {z:Int} {n:Nat} {t:List Nat} (hn:decide (((canon n).length:Int)≤0)=true) (h:strEq (strN t) ⟨#[]⟩=false) (ht:lettersN z.natAbs=lettersN n ++ t):z ≠ 0∧lettersN z.natAbs=t:=by
  rw [strN_nil] at h
  have h1:=of_decide_eq_false h
  rw [canon_zero_of hn,lettersN_zero,List.nil_append] at ht
  refine ⟨fun hz=>?_,ht⟩
  rw [hz] at ht
  exact h1 (ht.symm.trans lettersN_zero)
theorem txt_neg {z:Int} {n:Nat} {t:List Nat} (hn:decide (((canon n).length:Int)≤0)=true) (h:strEq (strN t) ⟨#[]⟩=false) (hs:decide (z < 0)=true) (ht:lettersN z.natAbs=lettersN n ++ t):⟨#[45]⟩ ++ strN t=strOfNums (textI z):=by
  obtain⟨h1,h2⟩:=txt_nz hn h ht
  rw [textI_N,if_neg h1,if_pos (of_decide_eq_true hs),h2,← strN_app]; rfl
theorem txt_pos {z:Int} {n:Nat} {t:List Nat} (hn:decide (((canon n).length:Int)≤0)=true) (h:strEq (strN t) ⟨#[]⟩=false) (hs:decide (z < 0)=false) (ht:lettersN z.natAbs=lettersN n ++ t):strN t=strOfNums (textI z):=by
  obtain⟨h1,h2⟩:=txt_nz hn h ht
  rw [textI_N,if_neg h1,if_neg (of_decide_eq_false hs),h2]; rfl
def PRel (s:ByteArray) (neg:Bool) (D:ByteArray):Prop:=if neg then s.data.toList.head?=some 45∧D.data.toList=s.data.toList.tail else s.data.toList.head? ≠ some 45∧D.data.toList=s.data.toList
theorem head_bAt {s:ByteArray} (h:0 < s.size):∃ c l,s.data.toList=c :: l∧c.toNat=bAt s 0:=by
  have h1:=s_len s
  cases hl:s.data.toList with
  | nil=>rw [hl] at h1; simp at h1; omega
  | cons c l=>exact⟨c,l,rfl,by unfold bAt; rw [hl]; rfl⟩
theorem prel_neg {s:ByteArray} (h1:decide ((s.size:Int)≤0)=false) (h2:decide (((bAt s 0:Nat):Int)=45)=true):PRel s true (s.extract 1 s.size):=by
  have h3:=of_decide_eq_false h1
  have h4:=of_decide_eq_true h2
  obtain⟨c,l,hl,hc⟩:=head_bAt (s:=s) (by omega)
  refine ⟨?_,ext_tail s⟩
  rw [hl]
  show some c=some 45
  congr 1
  exact UInt8.toNat_inj.1 (by rw [hc]; show bAt s 0=45; omega)
theorem prel_pos {s:ByteArray} (h:decide ((s.size:Int)≤0)=true ∨ decide (((bAt s 0:Nat):Int)=45)=false):PRel s false s:=by
  refine ⟨fun hh=>?_,rfl⟩
  have h1:=s_len s
  rcases h with h|h
  · have h2:=of_decide_eq_true h
    rw [List.eq_nil_of_length_eq_zero (l:=s.data.toList) (by omega)] at hh
    cases hh
  · have h2:=of_decide_eq_false h
    cases hl:s.data.toList with
    | nil=>rw [hl] at hh; cases hh
    | cons c l =>
      rw [hl] at hh
      have hc:c=45:=by simpa using hh
      refine h2 ?_
      unfold bAt
      rw [hl,hc]; rfl
theorem pz_bad {s D:ByteArray} {neg:Bool} (hr:PRel s neg D) (h:digB D.data.toList=false ∨ (neg=true∧D.data.toList=[48])):parseZ s.data.toList=(0,2):=by
  unfold parseZ
  cases neg with
  | true =>
    obtain⟨h1,h2⟩:=hr
    rw [if_pos h1]
    rcases h with h|⟨_,h⟩
    · split
      · rfl
      · unfold parseD; rw [← h2,h]; rfl
    · rw [h2] at h
      rw [if_pos]
      cases hl:s.data.toList with
      | nil=>rw [hl] at h1; cases h1
      | cons c l =>
        rw [hl] at h h1
        simp at h h1
        rw [h,h1]
  | false =>
    obtain⟨h1,h2⟩:=hr
    rw [if_neg h1]
    rcases h with h|⟨h,_⟩
    · unfold parseD; rw [← h2,h]; rfl
    · cases h
theorem pz_D {s D:ByteArray} {neg:Bool} (hr:PRel s neg D) (hn:neg=true→D.data.toList ≠ [48]):parseZ s.data.toList=parseD neg D.data.toList:=by
  unfold parseZ
  cases neg with
  | true =>
    obtain⟨h1,h2⟩:=hr
    rw [if_pos h1,if_neg,h2]
    intro h
    refine hn rfl ?_
    rw [h2,h]; rfl
  | false =>
    obtain⟨h1,h2⟩:=hr
    rw [if_neg h1,h2]
theorem pz_long {s D:ByteArray} {neg:Bool} (hr:PRel s neg D) (hd:digB D.data.toList=true) (hn:neg=true→D.data.toList ≠ [48]) (h:2 ^ 256≤decV D.data.toList):parseZ s.data.toList=(0,3):=by
  rw [pz_D hr hn,parseD,if_pos hd,if_pos h]
theorem pz_ok {s D:ByteArray} {neg:Bool} (hr:PRel s neg D) (hd:digB D.data.toList=true) (hn:neg=true→D.data.toList ≠ [48]) (h:¬ 2 ^ 256≤decV D.data.toList):parseZ s.data.toList=(sgn neg (decV D.data.toList),0):=by
  rw [pz_D hr hn,parseD,if_pos hd,if_neg h]
theorem size_pos {s:ByteArray} (h:strEq s ⟨#[]⟩=false):0 < s.size:=by
  rw [str_size0] at h
  have:=of_decide_eq_false h
  omega
theorem digB_empty {s:ByteArray} (h:strEq s ⟨#[]⟩=true):digB s.data.toList=false:=by
  rw [strEq_iff.1 h]; rfl
theorem isDig_iff {s:ByteArray} {i:Nat} (hi:i < s.size):∃ c,s.data.toList[i]?=some c∧c.toNat=bAt s i:=by
  have h1:=s_len s
  exact⟨s.data.toList[i]'(by omega),List.getElem?_eq_getElem (by omega),by unfold bAt; rw [List.getD_eq_getElem?_getD,List.getElem?_eq_getElem (by omega)]; rfl⟩
theorem pdigB_bad {s:ByteArray} {i:Nat} (hi:i < s.size) (h:decide (((bAt s i:Nat):Int) < 48)=true ∨ decide (((bAt s i:Nat):Int)≤57)=false):digB s.data.toList=false:=by
  obtain⟨c,hc,hb⟩:=isDig_iff hi
  have h1:isDig c=false:=by
    unfold isDig
    rcases h with h|h
    · have:=of_decide_eq_true h
      rw [decide_eq_false (by omega)]; rfl
    · have:=of_decide_eq_false h
      rw [decide_eq_false (p:=c.toNat≤57) (by omega),Bool.and_false]
  have h2:s.data.toList.all isDig=false:=by
    cases h3:s.data.toList.all isDig with
    | false=>rfl
    | true=>rw [List.all_eq_true.1 h3 c (List.mem_of_getElem? hc)] at h1; cases h1
  unfold digB
  rw [h2]; rfl
theorem digB_lead {s:ByteArray} (h:decide (((bAt s 0:Nat):Int)=48)=true) (hl:decide ((s.size:Int)≤1)=false):digB s.data.toList=false:=by
  have h1:=of_decide_eq_true h
  have h2:=of_decide_eq_false hl
  obtain⟨c,l,hcl,hc⟩:=head_bAt (s:=s) (by omega)
  have hc48:c=48:=UInt8.toNat_inj.1 (by rw [hc]; show bAt s 0=48; omega)
  have h3:=s_len s
  unfold digB
  rw [hcl,hc48] at h3 ⊢
  cases l with
  | nil=>simp at h3; omega
  | cons d l=>simp
theorem one_zero {s:ByteArray} (h0:0 < s.size) (h:decide (((bAt s 0:Nat):Int)=48)=true) (hl:decide ((s.size:Int)≤1)=true):true=true∧s.data.toList=[48]:=by
  have h1:=of_decide_eq_true h
  have h2:=of_decide_eq_true hl
  obtain⟨c,l,hcl,hc⟩:=head_bAt h0
  have hc48:c=48:=UInt8.toNat_inj.1 (by rw [hc]; show bAt s 0=48; omega)
  have h3:=s_len s
  rw [hcl] at h3
  simp at h3
  rw [hcl,hc48,List.eq_nil_of_length_eq_zero (l:=l) (by omega)]
  exact⟨rfl,rfl⟩
theorem not_zero {s:ByteArray} (h:bAt s 0 ≠ 48):s.data.toList ≠ [48]:=fun e=>h (by unfold bAt; rw [e]; rfl)
theorem pdig_up {s:ByteArray} {i:Nat} (h:∀ j,j < i→48≤bAt s j∧bAt s j≤57) (h1:decide (((bAt s i:Nat):Int) < 48)=false) (h2:decide (((bAt s i:Nat):Int)≤57)=true):∀ j,j < i + 1→48≤bAt s j∧bAt s j≤57:=by
  intro j hj
  have h3:=of_decide_eq_false h1
  have h4:=of_decide_eq_true h2
  rcases Nat.lt_or_ge j i with h5|h5
  · exact h j h5
  · obtain rfl:j=i:=by omega
    omega
theorem digB_yes {s:ByteArray} (h0:0 < s.size) (h:∀ j,j < s.size→48≤bAt s j∧bAt s j≤57) (hl:bAt s 0 ≠ 48 ∨ s.size=1):digB s.data.toList=true:=by
  have hlen:=s_len s
  have h1:s.data.toList.all isDig=true:=by
    refine List.all_eq_true.2 fun c hc=>?_
    obtain⟨i,hi,rfl⟩:=List.getElem_of_mem hc
    have h2:=h i (by omega)
    have h3:bAt s i=(s.data.toList[i]).toNat:=by unfold bAt; rw [List.getD_eq_getElem?_getD,List.getElem?_eq_getElem hi]; rfl
    unfold isDig
    rw [decide_eq_true (by omega),decide_eq_true (by omega)]; rfl
  obtain⟨c,l,hcl,hc⟩:=head_bAt h0
  unfold digB
  rw [h1,hcl]
  rw [hcl] at hlen
  rcases hl with hl|hl
  · have:c ≠ 48:=fun e=>hl (by rw [← hc,e]; rfl)
    simp [this]
  · simp at hlen
    have hln:l=[]:=List.eq_nil_of_length_eq_zero (by omega)
    subst hln
    by_cases hc48:c=48 <;> simp [hc48]
theorem decV_step {s:ByteArray} {i:Nat} (hi:i < s.size):decV (s.data.toList.take (i + 1))=10 * decV (s.data.toList.take i) + (bAt s i - 48):=by
  have h1:=s_len s
  have h2:s.data.toList.take (i + 1)=s.data.toList.take i ++ [s.data.toList[i]'(by omega)]:=List.take_succ_eq_append_getElem (by omega)
  rw [h2,decV_snoc]
  unfold bAt
  rw [List.getD_eq_getElem?_getD,List.getElem?_eq_getElem (by omega)]; rfl
theorem limbs_d {x:Nat} (h:x < 256):Limbs [x - 48]:=Limbs.cons (by omega) Limbs.nil
theorem ten_len {v:Nat} (h:(canon v).length≤8):(canon (val (canon v) * val [10])).length≤9:=by
  rw [val_canon,val_one]
  have h1:=canon_len_gt h
  refine canon_len_le ?_
  have h2:4294967296 ^ 9=4294967296 ^ 8 * 4294967296:=by rw [← Nat.pow_succ]
  rw [h2]
  have h3:0 < 4294967296 ^ 8:=Nat.pow_pos (by omega)
  generalize 4294967296 ^ 8=p at *
  omega
theorem one_len {x:Nat} (h:x < 256):(canon (val [x])).length≤1:=by
  rw [val_one]
  exact canon_len_le (by omega)
theorem dec_long {s:ByteArray} {i:Nat} (h:decide (((canon (decV (s.data.toList.take i))).length:Int)≤8)=false):2 ^ 256≤decV s.data.toList:=by
  have h1:=of_decide_eq_false h
  have h2:=decV_mono s.data.toList i
  rcases Nat.lt_or_ge (decV (s.data.toList.take i)) (2 ^ 256) with h3|h3
  · have:=(canon_len8 _).2 h3; omega
  · omega
theorem dec_all {s:ByteArray} {i:Nat} (h:s.size≤i):decV (s.data.toList.take i)=decV s.data.toList:=by rw [List.take_of_length_le (by rw [s_len]; exact h)]
theorem dec_ok {s:ByteArray} {i:Nat} (h:s.size≤i) (h8:(canon (decV (s.data.toList.take i))).length≤8):¬ 2 ^ 256≤decV s.data.toList:=by
  rw [dec_all h] at h8
  have:=(canon_len8 _).1 h8
  omega
theorem strEq_nil0 {s:ByteArray} (h:s.size=0):strEq s ⟨#[]⟩=true:=by
  cases h1:strEq s ⟨#[]⟩ with
  | true=>rfl
  | false=>have:=size_pos h1; omega
theorem canon_ne {n:Nat} (h:0 < n):0 < (canon n).length:=by
  rcases Nat.eq_zero_or_pos (canon n).length with h1|h1
  · exact absurd (canon_nil.1 (List.eq_nil_of_length_eq_zero h1)) (by omega)
  · exact h1
theorem neg_sgn {z:Int} {d:Bool} (h:decide (z < 0)=d):sgn (!d) (val (canon z.natAbs)) = -z:=by
  rw [val_canon]
  cases d
  · have:=of_decide_eq_false h
    show -((z.natAbs:Nat):Int) = -z
    omega
  · have:=of_decide_eq_true h
    show ((z.natAbs:Nat):Int) = -z
    omega

theorem plus_end {a b ds:List Nat} {i c:Nat} (ha:Limbs a) (hb:Limbs b) (hd:Limbs ds) (hl:ds.length=i) (hc:c≤1) (hi:max a.length b.length + 1≤i) (h:val ds + 4294967296 ^ i * c=val (a.take i) + val (b.take i)):val ds=val a + val b:=by
  rw [List.take_of_length_le (by omega),List.take_of_length_le (by omega)] at h
  obtain⟨n,rfl⟩:∃ n,i=n + 1:=⟨i - 1,by omega⟩
  have h1:=val_lt ha
  have h2:=val_lt hb
  have h3:4294967296 ^ a.length≤4294967296 ^ n:=Nat.pow_le_pow_right (by omega) (by omega)
  have h4:4294967296 ^ b.length≤4294967296 ^ n:=Nat.pow_le_pow_right (by omega) (by omega)
  rw [Nat.pow_succ] at h
  generalize 4294967296 ^ n=p at *
  generalize 4294967296 ^ a.length=p1 at *
  generalize 4294967296 ^ b.length=p2 at *
  rcases Nat.eq_zero_or_pos c with h0|h0
  · rw [h0,Nat.mul_zero] at h; omega
  · have e:c=1:=by omega
    rw [e,Nat.mul_one] at h
    omega
theorem minus_step {a b ds:List Nat} {i c:Nat} (ha:Limbs a) (hb:Limbs b) (hd:Limbs ds) (hl:ds.length=i) (hc:c≤1) (h:val ds + val (b.take i)=val (a.take i) + 4294967296 ^ i * c) :
    Limbs (ds ++ [(a.getD i 0 + 4294967296 - b.getD i 0 - c) % 4294967296])∧val (ds ++ [(a.getD i 0 + 4294967296 - b.getD i 0 - c) % 4294967296]) + val (b.take (i + 1))=val (a.take (i + 1)) + 4294967296 ^ (i + 1) * (1 - (a.getD i 0 + 4294967296 - b.getD i 0 - c) / 4294967296):=by
  have h1:=ha.at i
  have h2:=hb.at i
  exact less_step hd hl (by omega) (by omega) h
theorem minus_end {a b ds:List Nat} {i c:Nat} (ha:Limbs a) (hb:Limbs b) (hd:Limbs ds) (hi:ds.length=i∧i=a.length) (hle:val b≤val a) (h:val ds + val (b.take i)=val (a.take i) + 4294967296 ^ i * c):val ds=val a - val b:=by
  obtain⟨hl,rfl⟩:=hi
  rw [List.take_of_length_le (Nat.le_refl a.length)] at h
  have h1:=val_lt hd
  rw [hl] at h1
  have h2:val (b.take a.length)≤val b:=by
    have:=val_app (b.take a.length) (b.drop a.length)
    rw [List.take_append_drop] at this
    omega
  have h3:val (b.take a.length)=val b:=by
    have h5:=val_app (b.take a.length) (b.drop a.length)
    rw [List.take_append_drop] at h5
    rcases Nat.eq_zero_or_pos (val (b.drop a.length)) with h6|h6
    · rw [h6] at h5; omega
    · have h7:=val_lt ha
      rcases Nat.lt_or_ge b.length a.length with h8|h8
      · rw [List.take_of_length_le (by omega)]
      · have h9:(b.take a.length).length=a.length:=by simp; omega
        rw [h9] at h5
        have:4294967296 ^ a.length≤4294967296 ^ a.length * val (b.drop a.length):=Nat.le_mul_of_pos_right _ h6
        omega
  rw [h3] at h
  rcases Nat.eq_zero_or_pos c with rfl|hc
  · omega
  · have:4294967296 ^ a.length≤4294967296 ^ a.length * c:=Nat.le_mul_of_pos_right _ hc
    omega
def cmpN (a b:Nat):Int:=if a < b then -1 else if b < a then 1 else 0
theorem rword_c (A:Option Addr) (m:List Nat) (c:Nat) (i:Int) (w:World) (hr:SRow w .u32 A m c) (hl:Limbs m) (hi:0≤i):Calls Tryz.prog 100 #[sv A m c,iv i] w (IsRet (.int .u64 ((m.getD i.toNat 0:Nat):Int)) w):=sword_c A m c i w hr hl hi
theorem rtrimL_c (A:Option Addr) (m:List Nat) (c:Nat) (w:World) (hr:SRow w .u32 A m c) (hl:Limbs m) (hs:m.length≤1000000):Calls Tryz.prog 127 #[sv A m c] w (RetS 59 .u32 (canon (val m)) w):=strim_c A m c w hr hl hs
end Go.Proofs.YtecgdgjlmlpcnaaGreatDoor
