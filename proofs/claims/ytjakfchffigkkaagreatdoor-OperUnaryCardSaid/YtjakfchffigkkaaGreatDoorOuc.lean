import Derived.Test.YtjakfchffigkkaaGreatDoorOub
namespace Go.Proofs.YtjakfchffigkkaaGreatDoor
open Go.RowKit
open Tryz
set_option linter.unusedSimpArgs false
set_option linter.unusedVariables false
set_option maxHeartbeats 16000000
set_option maxRecDepth 100000
theorem cbool_c (v:Vl) (Av:Option Addr) (cv:Nat) (Bv:Option Addr) (dv:Nat) (w:World) (hmv:SRow w .u32 Av v.mag cv) (hsv:SRow w .u16 Bv v.s dv):Calls prog 41 #[vv v Av cv Bv dv] w (IsRet (.bool (boolV v)) w):=by
 refine enter_abs func41 rfl fun a0 ay ci hp=>?_
 have ay:a0.tmps.size=41:=ay
 have bx:New w w:=Upd.refl _ _
 have hp0:a0.eval (.tmp 0)=vv v Av cv Bv dv:=hp 0 _ rfl
 refine wk fun K1 cj=>?_
 refine wB tr2 [] [] 41 [IsNew w 29 (c7 v Av cv Bv dv),vF] [0] ay ?_ heN ?_
 exact .X hp0<| .c .nil
 refine aftI ay ci bx fun a2 w3 bz cl an cX cm=>?_
 obtain⟨q9,h8,bG,aI⟩:=cm.G 0 1
 have cD:=Nat.le_trans bx.size bG
 refine cj _ _ <| wk fun cY bH=>?_
 refine wp_g0 [true,true,false] [(2,false)] 41
  [ve (vv v Av cv Bv dv),
  (VP (cleanV v)),vt] bz (.eq (.cons (fun _ _ _ n ⟨_,_,_,_,e,h,i⟩=>⟨_,_,_,_,e,h.new_ n,i.new_ n⟩) (.tt .nil))) ?_ ?_
 refine .L9 h8 aI ?_
 refine .o1 (tkC rfl (noG rfl) rfl fun _ w hn k=>(by
  refine ⟨#[vv v Av cv Bv dv],_,args1 (k.eq1 0 3 rfl),fun w=>by kernel_rfl,clean_c v _ _ _ _ _ (hmv.new_ (an.transNew hn)) (hsv.new_ (an.transNew hn)),?_⟩
  rintro e w' ⟨A1,c2,A3,c4,rfl,hmo0,hmo1,hm⟩
  exact⟨_,rfl,hm,⟨A1,c2,A3,c4,rfl,hmo0,hmo1⟩⟩)) ?_
 exact .off .nil
 refine aftI bz cl an fun cn cZ aJ bI bJ bK aK=>?_
 have aL:=aK.f1 h8
 obtain⟨az,ag,aA,ah,aM,bL,bM⟩:=aK.G 1 4
 have aM:cn.eval (.tmp 4)=vv (cleanV v) az ag aA ah:=aM
 have ao:=aI.new_ bK
 refine sS9 aL aM ao fun co aN ap cE=>?_
 have bO:=bL.fr ao ap
 have bP:=bM.fr ao ap
 have bQ:=bJ.tR ap
 refine bH _ _ <| wk fun c1 bR=>?_
 refine wk fun c3 bS=>?_
 refine wA tr2 [] 41 [ve (pv q9),ve (iv ((cleanV v).k))] aJ ?_ ?_
 exact .F aL<| .J 0 isAgg3 aN .nil
 refine aftI aJ bI bQ fun c5 c9 aO bT bU aq aP=>?_
 have cp:=aP.f1 aL
 have bA:=aP.g 1 6
 have⟨bV,bW,bX⟩:=nw3 aq aN bO bP
 refine bS _ _<| wb<| wk fun da bY=>?_
 refine wA tr2 [] 41 [ve (.bool (decide (((cleanV v).k)=2))),ve (.bool (decide (((cleanV v).k)=2)))] aO ?_ ?_
 exact .H bA (r_eql rfl)<| .B 0 .nil
 refine aftI aO bT bU fun db dc ai aQ aR ar au=>?_
 have⟨bB,bC⟩:=au.f2 cp bA
 have bD:=au.g 1 7
 have⟨aS,bZ,b0⟩:=nw3 ar bV bW bX
 refine bY _ _ ?_
 rcases bc (decide (((cleanV v).k)=2)) with ab|ab
 have a6:=oT ab
 have b1:=hB bD ab
 refine wt b1<| wk fun dd b2=>?_
 refine wA tr4 [] 41 [ve (.pointer (some ⟨q9,6,none⟩)),ve (iv ((cleanV v).ref)),ve (.bool (decide (((cleanV v).ref)=1))),ve (.bool (decide (((cleanV v).ref)=1)))] ai ?_ ?_
 exact .F bB<| .J 0 isAgg3 aS<| .b 1 (r_eql rfl)<| .B 2 .nil
 refine aftI ai aQ aR fun de df cF b3 b4 cG b5=>?_
 have cq:=b5.g 3 2
 refine b2 _ _<| wp_ret (ret_k b3 (v:=.bool (decide (((cleanV v).ref)=1))) (res_t rfl cq _) ?_)
 refine ⟨?_,b4⟩
 show Ending.returned (.bool (decide (((cleanV v).ref)=1)))=Ending.returned (.bool (boolV v))
 first|rfl|(simp only [boolV,ab,bsm] <;> rfl)|(exfalso; omega)
 have a6:=oF ab
 have b6:=hB bD ab
 refine wf b6<| wk fun dg b7=>?_
 refine wA tr2 [] 41 [ve (.bool (decide (((cleanV v).k)=3))),ve (.bool (decide (((cleanV v).k)=3)))] ai ?_ ?_
 exact .H bC (r_eql rfl)<| .B 0 .nil
 refine aftI ai aQ aR fun dh di aj aT aU av aw=>?_
 have⟨aV,bE⟩:=aw.f2 bB bC
 have bF:=aw.g 1 12
 have⟨ax,b8,b9⟩:=nw3 av aS bZ b0
 refine b7 _ _ ?_
 rcases bc (decide (((cleanV v).k)=3)) with ac|ac
 have a7:=oT ac
 have ca:=hB bF ac
 refine wt ca<| wk fun dj cb=>?_
 refine wA tr12 [] 41 [ve (.pointer (some ⟨q9,1,none⟩)),ve (.pointer (some ⟨q9,1,none⟩)),ve (iv ((cleanV v).nk)),ve (.bool (!decide (((cleanV v).nk)=2))),ve (.bool (!decide (((cleanV v).nk)=2))),ve (gq (!decide (((cleanV v).nk)=2)) (.pointer (some ⟨q9,1,none⟩))),ve (gq (!decide (((cleanV v).nk)=2)) (nv (Nm.mk ((cleanV v).nk) ((cleanV v).nn)))),ve (gq (!decide (((cleanV v).nk)=2)) (nv (Nm.mk 0 0))),ve (gq (!decide (((cleanV v).nk)=2)) (.bool (equalM (Nm.mk ((cleanV v).nk) ((cleanV v).nn)) (Nm.mk 0 0)))),ve (gq (!decide (((cleanV v).nk)=2)) (.bool (!(equalM (Nm.mk ((cleanV v).nk) ((cleanV v).nn)) (Nm.mk 0 0))))),ve (.bool ((!decide (((cleanV v).nk)=2)) && (!(equalM (Nm.mk ((cleanV v).nk) ((cleanV v).nn)) (Nm.mk 0 0))))),ve (.bool ((!decide (((cleanV v).nk)=2)) && (!(equalM (Nm.mk ((cleanV v).nk) ((cleanV v).nn)) (Nm.mk 0 0)))))] aj ?_ ?_
 exact .F aV<| .f (fun k=>k.eq1 0 14 rfl)<| .J 1 isAgg3 ax<| .b 2 (r_neq rfl)<| .N 3<| .Q (fun k=>g0 (k.eq1 4 18 rfl)) (fun hG p k=>v_field rfl (k.fx 1 aV) (fun w=>rfl))<| .Q (fun k=>g0 (k.eq1 4 18 rfl)) (fun hG p k=>v_load rfl (cT hG (k.eq1 5 19 rfl)) (l_part isAgg23 sizeOf23 (ax.new_ p) lb))<| .Q (fun k=>g0 (k.eq1 4 18 rfl)) (fun hG p k=>v_build (ps:=[]) rfl parts0 (by kernel_rfl))<| .o1 (scC (G:=(!decide (((cleanV v).nk)=2))) rfl rfl rfl (fun _ _ k=>g0 (k.eq1 4 18 rfl)) rfl (fun hG _ w hn k=>⟨#[nv (Nm.mk ((cleanV v).nk) ((cleanV v).nn)),nv (Nm.mk 0 0)],args2 (cT hG (k.eq1 6 20 rfl)) (cT hG (k.eq1 7 21 rfl)),fun _=>by kernel_rfl,equal_c (Nm.mk ((cleanV v).nk) ((cleanV v).nn)) (Nm.mk 0 0) _ ⟩))<| .Q (fun k=>g0 (k.eq1 4 18 rfl)) (fun hG p k=>v_not rfl (cT hG (k.eq1 8 22 rfl)))<| .O 4 9<| .B 10 .nil
 refine aftI aj aT aU fun dk dl cr a8 a9 ct ba=>?_
 have cc:=ba.g 11 2
 refine cb _ _<| wp_ret (ret_k a8 (v:=.bool ((!decide (((cleanV v).nk)=2)) && (!(equalM (Nm.mk ((cleanV v).nk) ((cleanV v).nn)) (Nm.mk 0 0))))) (res_t rfl cc _) ?_)
 refine ⟨?_,a9⟩
 show Ending.returned (.bool ((!decide (((cleanV v).nk)=2)) && (!(equalM (Nm.mk ((cleanV v).nk) ((cleanV v).nn)) (Nm.mk 0 0)))))=Ending.returned (.bool (boolV v))
 first|rfl|(simp only [boolV,ab,ac,bsm] <;> rfl)|(exfalso; omega)
 have a7:=oF ac
 have bb:=hB bF ac
 refine wf bb<| wk fun cH bd=>?_
 refine wA tr2 [] 41 [ve (.bool (decide (((cleanV v).k)=4))),ve (.bool (decide (((cleanV v).k)=4)))] aj ?_ ?_
 exact .H bE (r_eql rfl)<| .B 0 .nil
 refine aftI aj aT aU fun cI cJ ae aB aC ak al=>?_
 have⟨aW,cd⟩:=al.f2 aV bE
 have aX:=al.g 1 25
 have⟨aD,be,bf⟩:=nw3 ak ax b8 b9
 refine bd _ _ ?_
 rcases bc (decide (((cleanV v).k)=4)) with aa|aa
 have aY:=oT aa
 have bg:=hB aX aa
 refine wt bg<| wk fun cK bh=>?_
 refine wA tr6 [] 41 [ve (.pointer (some ⟨q9,3,none⟩)),ve (.pointer (some ⟨q9,4,none⟩)),ve (sv az ((cleanV v).mag) ag),ve (iv (((cleanV v).mag).length:Int)),ve (.bool (!decide ((((cleanV v).mag).length:Int)≤0))),ve (.bool (!decide ((((cleanV v).mag).length:Int)≤0)))] ae ?_ ?_
 exact .F aW<| .f (fun k=>k.eq1 0 27 rfl)<| .J 1 isAgg24 aD<| .T (fun k=>v_lenR rfl elW (k.eq1 2 29 rfl))<| .b 3 (r_gtrK rfl)<| .B 4 .nil
 refine aftI ae aB aC fun cL cM cu bi bj cw bk=>?_
 have ce:=bk.g 5 2
 refine bh _ _<| wp_ret (ret_k bi (v:=.bool (!decide ((((cleanV v).mag).length:Int)≤0))) (res_t rfl ce _) ?_)
 refine ⟨?_,bj⟩
 show Ending.returned (.bool (!decide ((((cleanV v).mag).length:Int)≤0)))=Ending.returned (.bool (boolV v))
 first|rfl|(simp only [boolV,ab,ac,aa,bsm] <;> rfl)|(exfalso; omega)
 have aY:=oF aa
 have bl:=hB aX aa
 refine wf bl<| wk fun cN bm=>?_
 refine wA tr2 [] 41 [ve (.bool (decide (((cleanV v).k)=5))),ve (.bool (decide (((cleanV v).k)=5)))] ae ?_ ?_
 exact .H cd (r_eql rfl)<| .B 0 .nil
 refine aftI ae aB aC fun cO cP af aE aF am aG=>?_
 have aZ:=aG.f1 aW
 have a1:=aG.g 1 32
 have⟨aH,cx,cy⟩:=nw3 am aD be bf
 refine bm _ _ ?_
 rcases bc (decide (((cleanV v).k)=5)) with ad|ad
 have a3:=oT ad
 have bn:=hB a1 ad
 refine wt bn<| wk fun cQ bo=>?_
 refine wA tr5 [] 41 [ve (.pointer (some ⟨q9,5,none⟩)),ve (sv aA ((cleanV v).s) ah),ve (iv (((cleanV v).s).length:Int)),ve (.bool (!decide ((((cleanV v).s).length:Int)≤0))),ve (.bool (!decide ((((cleanV v).s).length:Int)≤0)))] af ?_ ?_
 exact .F aZ<| .J 0 isAgg27 aH<| .T (fun k=>v_lenR rfl elU (k.eq1 1 35 rfl))<| .b 2 (r_gtrK rfl)<| .B 3 .nil
 refine aftI af aE aF fun cR cS cz bp bq cA br=>?_
 have cf:=br.g 4 2
 refine bo _ _<| wp_ret (ret_k bp (v:=.bool (!decide ((((cleanV v).s).length:Int)≤0))) (res_t rfl cf _) ?_)
 refine ⟨?_,bq⟩
 show Ending.returned (.bool (!decide ((((cleanV v).s).length:Int)≤0)))=Ending.returned (.bool (boolV v))
 first|rfl|(simp only [boolV,ab,ac,aa,ad,bsm] <;> rfl)|(exfalso; omega)
 have a3:=oF ad
 have bs:=hB a1 ad
 refine wf bs<| ws<| bR _ _<| wk fun cU bt=>?_
 refine wA tr4 [] 41 [ve (pv q9),ve (iv ((cleanV v).k)),ve (.bool (decide (((cleanV v).k)=6))),ve (.bool (decide (((cleanV v).k)=6)))] af ?_ ?_
 exact .F aZ<| .J 0 isAgg3 aH<| .b 1 (r_eql rfl)<| .B 2 .nil
 refine aftI af aE aF fun cV cW cB bu bv cC bw=>?_
 have ch:=bw.g 3 2
 refine bt _ _<| wp_ret (ret_k bu (v:=.bool (decide (((cleanV v).k)=6))) (res_t rfl ch _) ?_)
 refine ⟨?_,bv⟩
 show Ending.returned (.bool (decide (((cleanV v).k)=6)))=Ending.returned (.bool (boolV v))
 first|rfl|(simp only [boolV,ab,ac,aa,ad,bsm] <;> rfl)|(exfalso; omega)
def cstr_c_P (Au:Option Addr) (u:List Nat) (cu:Nat) (w:World) (en:Ending) (w':World):Prop:=∃ (Ar0:Option Addr) (cr0:Nat) (Ar1:Option Addr) (cr1:Nat),en=.returned (vv (strV u) Ar0 cr0 Ar1 cr1)∧SRow w' .u32 Ar0 ((strV u).mag) cr0∧SRow w' .u16 Ar1 ((strV u).s) cr1∧New w w'
theorem cstr_c (Au:Option Addr) (u:List Nat) (cu:Nat) (w:World) (hru:SRow w .u16 Au u cu) (hs:u.length≤20000):Calls prog 16 #[sv Au u cu] w (cstr_c_P Au u cu w):=by
 refine enter_abs func16 rfl fun a0 af aJ hp=>?_
 have af:a0.tmps.size=10:=af
 have am:New w w:=Upd.refl _ _
 have hp0:a0.eval (.tmp 0)=sv Au u cu:=hp 0 _ rfl
 refine wk fun K1 aK=>?_
 refine wB tr1 [] [] 10 [IsNew w 29 z7] [0] af ?_ heN ?_
 exact .Y .nil
 refine aftI af aJ am fun a2 w3 an aL ae aX ao=>?_
 have h8:=ao.f1 hp0
 obtain⟨aM,h9,aw,ax⟩:=ao.G 0 2
 have aU:=Nat.le_trans am.size aw
 refine aK _ _ <| wk fun aY ay=>?_
 refine wp_g0 [true,true,true,true,true,true,true,false] [(7,false)] 10
  [ve (sv Au u cu),ve (sv Au u cu),ve (iv (u.length:Int)),ve (iv (min (u.length:Int) 4096)),
  (RP .u16 (u.take ((min (u.length:Int) 4096:Int).toNat))),
  (OP w3.heap.size 74 .u16 (u.take ((min (u.length:Int) 4096:Int).toNat))),(fun (v_:Value) (W:World)=>∃ (ab:Option Addr) (ac:Nat),v_=vv (Vl.mk 5 0 0 false [] (u.take ((min (u.length:Int) 4096:Int).toNat)) 0) none 0 ab ac∧SOwn W w3.heap.size 74 .u16 ab (u.take ((min (u.length:Int) 4096:Int).toNat)) ac),vt] an (.eq (.eq (.eq (.eq (.cons (fun _ _ _ n ⟨_,_,e,h⟩=>⟨_,_,e,h.new_ n⟩) (.cons (fun _ _ _ n ⟨_,_,e,h⟩=>⟨_,_,e,h.new_ n⟩) (.cons (fun _ _ _ n ⟨_,_,e,h⟩=>⟨_,_,e,h.new_ n⟩) (.tt .nil)))))))) ?_ ?_
 refine .M h8<| .M h8<| .T (fun k=>v_lenR rfl elU (k.eq1 1 4 rfl))<| .T (fun k=>v_min rfl (k.eq1 2 5 rfl) rfl) ?_
 refine .o1 (tk rfl rfl fun _ w hn k=>(by
  exact x_cutH (k:=.u16) rfl elU (k.eq1 0 3 rfl) (k.eq1 3 6 rfl) (hru.new_ (ae.transNew hn)) (by omega) fun A1 c2 hmr=>⟨A1,c2,rfl,hmr⟩)) ?_
 refine .o1 (tkC rfl (noG rfl) rfl fun _ w hn k=>(by
  obtain⟨A5,c6,e7,aP⟩:=k.G 4 7
  refine ⟨#[sv A5 (u.take ((min (u.length:Int) 4096:Int).toNat)) c6],_,args1 e7,fun w=>by kernel_rfl,clone16_c _ (u.take ((min (u.length:Int) 4096:Int).toNat)) _ _ aP (by first|omega|(simp only [List.length_nil,List.length_take,List.length_drop]; omega)|(simp only [List.length_cons,List.length_nil]; omega)),?_⟩
  rintro e w' ⟨A9,aQ,rfl,hmo0,hm⟩
  exact⟨_,rfl,hm,⟨A9,aQ,rfl,(hmo0.more hn.size)⟩⟩)) ?_
 refine .o1 (tk rfl rfl fun _ w hn k=>(by
  obtain⟨ap,aq,aR,az⟩:=k.G 5 8
  exact⟨_,v_build (ps:=[(0,iv 5),(3,sv ap (u.take ((min (u.length:Int) 4096:Int).toNat)) aq)]) rfl (parts2 rfl aR) (by kernel_rfl),⟨ap,aq,rfl,az⟩⟩)) ?_
 exact .off .nil
 refine aftI an aL ae fun aS aZ aV aA aB aC ag=>?_
 have ar:=ag.f1 h9
 obtain⟨ad,aa,ah,aD⟩:=ag.G 6 9
 have ah:aS.eval (.tmp 9)=vv (Vl.mk 5 0 0 false [] (u.take ((min (u.length:Int) 4096:Int).toNat)) 0) none 0 ad aa:=ah
 have ai:=ax.new_ aC
 have aE:=aD.more ae.size
 refine sS9 ar ah ai fun aT aF aj aW=>?_
 have aH:=aE.far ai aj (by decide)
 have aI:=aB.tR aj
 refine ay _ _<| wp_ret (ret_k aA (v:=vv (Vl.mk 5 0 0 false [] (u.take ((min (u.length:Int) 4096:Int).toNat)) 0) none 0 ad aa) (res_c rfl ar (l_agg isAgg29 sizeOf29 aF rfl)) ?_)
 have au:(strV u).mag=[]:=by first|rfl|(simp only [strV,tk_min,bsm] <;> rfl)|(exfalso; omega)
 have av:(strV u).s=(u.take ((min (u.length:Int) 4096:Int).toNat)):=by first|rfl|(simp only [strV,tk_min,bsm] <;> rfl)|(exfalso; omega)
 exact⟨none,0,ad,aa,(by show Ending.returned (vv (Vl.mk 5 0 0 false [] (u.take ((min (u.length:Int) 4096:Int).toNat)) 0) none 0 ad aa)=Ending.returned (vv (strV u) none 0 ad aa); (first|rfl|(simp only [strV,au,av,tk_min,bsm] <;> rfl)|(exfalso; omega))),(by rw [au]; exact (SRow.nil _ _)),(by rw [av]; exact aH.row),aI⟩
def cown_c_P (a:Bool) (Aa:Option Addr) (ma:List Nat) (ca:Nat) (w:World) (en:Ending) (w':World):Prop:=∃ (Ar0:Option Addr) (cr0:Nat),en=.returned (.agg #[.bool a,sv Ar0 ma cr0])∧SRow w' .u32 Ar0 ma cr0∧New w w'
theorem cown_c (a:Bool) (Aa:Option Addr) (ma:List Nat) (ca:Nat) (w:World) (hra:SRow w .u32 Aa ma ca) (hs:ma.length≤1000000):Calls prog 72 #[.agg #[.bool a,sv Aa ma ca]] w (cown_c_P a Aa ma ca w):=by
 refine enter_abs func72 rfl fun a0 ad aF hp=>?_
 have ad:a0.tmps.size=9:=ad
 have af:New w w:=Upd.refl _ _
 have hp0:a0.eval (.tmp 0)=.agg #[.bool a,sv Aa ma ca]:=hp 0 _ rfl
 refine wk fun K1 aG=>?_
 refine wB tr2 [] [] 9 [IsNew w 26 [.bool a,sv Aa ma ca],IsNew w 26 [.bool false,sv none ([]) 0]] [0,1] ad ?_ heN ?_
 exact .X hp0<| .Y .nil
 refine aftI ad aF af fun a2 w3 an aH ac aP ag=>?_
 obtain⟨q9,h8,aq,ah⟩:=ag.G 0 1
 obtain⟨aI,ao,ar,au⟩:=ag.G 1 2
 have hne16:=ag.ne 0 1 1 2 h8 ao
 have aL:=Nat.le_trans af.size aq
 have aM:=Nat.le_trans af.size ar
 refine aG _ _ <| wk fun aQ av=>?_
 refine wp_g0 [true,true,true,true,true,true,false] [(6,false)] 9
  [ve (pv q9),ve (.bool a),ve (.pointer (some ⟨q9,1,none⟩)),ve (sv Aa ma ca),
  (OP w3.heap.size 56 .u32 ma),(fun (v_:Value) (W:World)=>∃ (A9:Option Addr) (aa:Nat),v_=.agg #[.bool a,sv A9 ma aa]∧SOwn W w3.heap.size 56 .u32 A9 ma aa),vt] an (.eq (.eq (.eq (.eq (.cons (fun _ _ _ n ⟨_,_,e,h⟩=>⟨_,_,e,h.new_ n⟩) (.cons (fun _ _ _ n ⟨_,_,e,h⟩=>⟨_,_,e,h.new_ n⟩) (.tt .nil))))))) ?_ ?_
 refine .F h8<| .J 0 isAgg4 ah<| .F h8<| .J 2 isAgg24 ah ?_
 refine .o1 (tkC rfl (noG rfl) rfl fun _ w hn k=>(by
  refine ⟨#[sv Aa ma ca],_,args1 (k.eq1 3 6 rfl),fun w=>by kernel_rfl,clone32_c _ ma _ _ (hra.new_ (ac.transNew hn)) (by first|omega|(simp only [List.length_nil,List.length_take,List.length_drop]; omega)|(simp only [List.length_cons,List.length_nil]; omega)),?_⟩
  rintro e w' ⟨A1,c2,rfl,hmo0,hm⟩
  exact⟨_,rfl,hm,⟨A1,c2,rfl,(hmo0.more hn.size)⟩⟩)) ?_
 refine .o1 (tk rfl rfl fun _ w hn k=>(by
  obtain⟨A5,c6,e7,aJ⟩:=k.G 4 7
  exact⟨_,v_build (ps:=[(0,.bool a),(1,sv A5 ma c6)]) rfl (parts2 (k.eq1 1 4 rfl) e7) (by kernel_rfl),⟨A5,c6,rfl,aJ⟩⟩)) ?_
 exact .off .nil
 refine aftI an aH ac fun aK aR aN aw ax ay ai=>?_
 have ap:=ai.f1 ao
 obtain⟨ae,ab,aj,az⟩:=ai.G 5 8
 have aj:aK.eval (.tmp 8)=.agg #[.bool a,sv ae ma ab]:=aj
 have ak:=au.new_ ay
 have aA:=az.more ac.size
 refine sS6 ap aj ak fun aS aB al aO=>?_
 have aD:=aA.far ak al (by decide)
 have aE:=ax.tR al
 refine av _ _<| wp_ret (ret_k aw (v:=.agg #[.bool a,sv ae ma ab]) (res_c rfl ap (l_two isAgg26 sizeOf26 aB)) ?_)
 exact⟨ae,ab,rfl,aD.row,aE⟩
def cbig_c_P (a:Bool) (Aa:Option Addr) (ma:List Nat) (ca:Nat) (w:World) (en:Ending) (w':World):Prop:=∃ (Ar0:Option Addr) (cr0:Nat),en=.returned (vv (Vl.mk 4 0 0 a ma [] 0) Ar0 cr0 none 0)∧SRow w' .u32 Ar0 ma cr0∧New w w'
theorem cbig_c (a:Bool) (Aa:Option Addr) (ma:List Nat) (ca:Nat) (w:World) (hra:SRow w .u32 Aa ma ca):Calls prog 42 #[.agg #[.bool a,sv Aa ma ca]] w (cbig_c_P a Aa ma ca w):=by
 refine enter_abs func42 rfl fun a0 aa aA hp=>?_
 have aa:a0.tmps.size=5:=aa
 have ab:New w w:=Upd.refl _ _
 have hp0:a0.eval (.tmp 0)=.agg #[.bool a,sv Aa ma ca]:=hp 0 _ rfl
 refine wk fun K1 aB=>?_
 refine wB tr2 [] [] 5 [IsNew w 26 [.bool a,sv Aa ma ca],IsNew w 29 z7] [0,1] aa ?_ heN ?_
 exact .X hp0<| .Y .nil
 refine aftI aa aA ab fun a2 w3 ah aC al aJ ac=>?_
 obtain⟨q9,h8,am,an⟩:=ac.G 0 1
 obtain⟨ai,aj,ao,ap⟩:=ac.G 1 2
 have hne16:=ac.ne 0 1 1 2 h8 aj
 have aF:=Nat.le_trans ab.size am
 have aG:=Nat.le_trans ab.size ao
 refine aB _ _ <| wk fun aK aq=>?_
 refine wA [true,true,false] [(2,false)] 5 [ve (.agg #[.bool a,sv Aa ma ca]),ve (vv (Vl.mk 4 0 0 a ma [] 0) Aa ca none 0),vt] ah ?_ ?_
 exact .L6 h8 an<| .T (fun k=>v_build (ps:=[(0,iv 4),(2,.agg #[.bool a,sv Aa ma ca])]) rfl (parts2 rfl (k.eq1 0 3 rfl)) (by kernel_rfl))<| .off .nil
 refine aftI ah aC al fun aL aM aH ar au av ad=>?_
 have ak:=ad.f1 aj
 have aD:=ad.g 1 4
 have aw:=ap.new_ av
 refine sS9 ak aD aw fun aE ay ax aI=>?_
 have ae:=au.tR ax
 refine aq _ _<| wp_ret (ret_k ar (v:=vv (Vl.mk 4 0 0 a ma [] 0) Aa ca none 0) (res_c rfl ak (l_agg isAgg29 sizeOf29 ay rfl)) ?_)
 exact⟨Aa,ca,rfl,(hra.new_ ae),ae⟩
def cnumeric_c_P (v:Vl) (Av:Option Addr) (cv:Nat) (Bv:Option Addr) (dv:Nat) (w:World) (en:Ending) (w':World):Prop:=∃ (Ar0:Option Addr) (cr0:Nat) (Ar1:Option Addr) (cr1:Nat),en=.returned (.tuple #[vv (numericV v).1 Ar0 cr0 Ar1 cr1,iv ((numericV v).2)])∧SRow w' .u32 Ar0 ((numericV v).1.mag) cr0∧SRow w' .u16 Ar1 ((numericV v).1.s) cr1∧New w w'
theorem cnumeric_c (v:Vl) (Av:Option Addr) (cv:Nat) (Bv:Option Addr) (dv:Nat) (w:World) (hmv:SRow w .u32 Av v.mag cv) (hsv:SRow w .u16 Bv v.s dv) (hvv:VOk v):Calls prog 29 #[vv v Av cv Bv dv] w (cnumeric_c_P v Av cv Bv dv w):=by
 refine enter_abs func29 rfl fun a0 aK df hp=>?_
 have aK:a0.tmps.size=26:=aK
 have aW:New w w:=Upd.refl _ _
 have hp0:a0.eval (.tmp 0)=vv v Av cv Bv dv:=hp 0 _ rfl
 have hm:=hvv.clean.mlen
 refine wk fun K1 dg=>?_
 refine wB tr3 [] [] 26 [IsNew w 29 (c7 v Av cv Bv dv),IsNew w 29 z7,ve (iv 0)] [0,1] aK ?_ heN ?_
 exact .X hp0<| .Y<| .c .nil
 refine aftI aK df aW fun a2 w3 cf dh aD d2 aX=>?_
 obtain⟨q9,h8,cn,aY⟩:=aX.G 0 1
 obtain⟨aB,ch,co,cp⟩:=aX.G 1 2
 have hne16:=aX.ne 0 1 1 2 h8 ch
 have dG:=Nat.le_trans aW.size cn
 have dH:=Nat.le_trans aW.size co
 refine dg _ _ <| wk fun d3 cq=>?_
 refine wp_g0 [true,true,false] [(2,false)] 26
  [ve (vv v Av cv Bv dv),
  (VP (cleanV v)),vt] cf (.eq (.cons (fun _ _ _ n ⟨_,_,_,_,e,h,i⟩=>⟨_,_,_,_,e,h.new_ n,i.new_ n⟩) (.tt .nil))) ?_ ?_
 refine .L9 h8 aY ?_
 refine .o1 (tkC rfl (noG rfl) rfl fun _ w hn k=>(by
  refine ⟨#[vv v Av cv Bv dv],_,args1 (k.eq1 0 6 rfl),fun w=>by kernel_rfl,clean_c v _ _ _ _ _ (hmv.new_ (aD.transNew hn)) (hsv.new_ (aD.transNew hn)),?_⟩
  rintro e w' ⟨A1,c2,A3,c4,rfl,hmo0,hmo1,hm⟩
  exact⟨_,rfl,hm,⟨A1,c2,A3,c4,rfl,hmo0,hmo1⟩⟩)) ?_
 exact .off .nil
 refine aftI cf dh aD fun di d4 aZ cr ct a1 aE=>?_
 have⟨a3,dj⟩:=aE.f2 h8 ch
 obtain⟨ap,ah,aC,aq,a4,cu,cw⟩:=aE.G 1 7
 have a4:di.eval (.tmp 7)=vv (cleanV v) ap ah aC aq:=a4
 have⟨aF,cx⟩:=nw2 a1 aY cp
 refine sS9 a3 a4 aF fun dk a5 aG cy=>?_
 have cA:=cu.fr aF aG
 have cB:=cw.fr aF aG
 have cC:=cy hne16.symm cx
 have cD:=ct.tR aG
 refine cq _ _ <| wk fun d6 cE=>?_
 refine wk fun d7 cF=>?_
 refine wA tr3 [] 26 [ve (pv q9),ve (iv ((cleanV v).k)),ve (.bool (decide (((cleanV v).k)=4)))] aZ ?_ ?_
 exact .F a3<| .J 0 isAgg3 a5<| .b 1 (r_eql rfl) .nil
 refine aftI aZ cr cD fun d8 dl ay a6 aH az aI=>?_
 have⟨ci,cj⟩:=aI.f2 a3 dj
 have cl:=aI.g 2 10
 have⟨a7,aJ,a8,cG⟩:=nw4 az a5 cC cA cB
 refine cF _ _ ?_
 rcases bc (decide (((cleanV v).k)=4)) with aa|aa
 have bB:=oT aa
 have cH:=hB cl aa
 refine wt cH<| wk fun d9 cI=>?_
 refine wp_g0 [true,true,true,true,false,false] [(4,false),(5,true)] 26
  [ve (.pointer (some ⟨q9,3,none⟩)),ve (.agg #[.bool ((cleanV v).neg),sv ap ((cleanV v).mag) ah]),(fun (v_:Value) (W:World)=>∃ (ar:Option Addr) (au:Nat),v_=.agg #[.bool ((cleanV v).neg),sv ar ((cleanV v).mag) au]∧SRow W .u32 ar ((cleanV v).mag) au),(fun (v_:Value) (W:World)=>∃ (av:Option Addr) (aw:Nat),v_=vv (Vl.mk 4 0 0 (cleanV v).neg (cleanV v).mag [] 0) av aw none 0∧SRow W .u32 av ((cleanV v).mag) aw),vt,vt] ay (.eq (.eq (.cons (fun _ _ _ n ⟨_,_,e,h⟩=>⟨_,_,e,h.new_ n⟩) (.cons (fun _ _ _ n ⟨_,_,e,h⟩=>⟨_,_,e,h.new_ n⟩) (.tt (.tt .nil)))))) ?_ ?_
 refine .F ci<| .K6 0 a7 ?_
 refine .o1 (tkC rfl (noG rfl) rfl fun _ w hn k=>(by
  refine ⟨#[.agg #[.bool ((cleanV v).neg),sv ap ((cleanV v).mag) ah]],_,args1 (k.eq1 1 12 rfl),fun w=>by kernel_rfl,cown_c ((cleanV v).neg) _ ((cleanV v).mag) _ _ (a8.new_ hn) (by first|omega|(simp only [List.length_nil,List.length_take,List.length_drop]; omega)|(simp only [List.length_cons,List.length_nil]; omega)),?_⟩
  rintro e w' ⟨dm,dn,rfl,hmo0,hm⟩
  exact⟨_,rfl,hm,⟨dm,dn,rfl,hmo0⟩⟩)) ?_
 refine .o1 (tkC rfl (noG rfl) rfl fun _ w hn k=>(by
  obtain⟨dp,dq,dr,cJ⟩:=k.G 2 13
  refine ⟨#[.agg #[.bool ((cleanV v).neg),sv dp ((cleanV v).mag) dq]],_,args1 dr,fun w=>by kernel_rfl,cbig_c ((cleanV v).neg) _ ((cleanV v).mag) _ _ cJ,?_⟩
  rintro e w' ⟨ds,dt,rfl,hmo0,hm⟩
  exact⟨_,rfl,hm,⟨ds,dt,rfl,hmo0⟩⟩)) ?_
 exact .off<| .off .nil
 refine aftI ay a6 aH fun a9 ea ba cK cL cM bb=>?_
 have cm:=bb.f1 cj
 obtain⟨ax,ai,aL,cN⟩:=bb.G 3 14
 have aL:a9.eval (.tmp 14)=vv (Vl.mk 4 0 0 (cleanV v).neg (cleanV v).mag [] 0) ax ai none 0:=aL
 have bd:=aJ.new_ cM
 refine sS9 cm aL bd fun du cO be dI=>?_
 have cQ:=cN.fr bd be
 have cR:=cL.tR be
 refine sP (v:=iv 0) rfl ba cK fun dw dJ cS aj dy=>?_
 have⟨dx,ec⟩:=aj.q2 cm aL
 refine cI _ _<| wp_ret (ret_k cS (v:=.tuple #[vv (Vl.mk 4 0 0 (cleanV v).neg (cleanV v).mag [] 0) ax ai none 0,iv 0]) (res_ct rfl dx dy (l_agg isAgg29 sizeOf29 cO rfl)) ?_)
 have ak:(numericV v).1.mag=((cleanV v).mag):=by first|rfl|(simp only [numericV,Vl.z,aa,bsm] <;> rfl)|(exfalso; omega)
 have al:(numericV v).1.s=[]:=by first|rfl|(simp only [numericV,Vl.z,aa,bsm] <;> rfl)|(exfalso; omega)
 exact⟨ax,ai,none,0,(by show Ending.returned (.tuple #[vv (Vl.mk 4 0 0 (cleanV v).neg (cleanV v).mag [] 0) ax ai none 0,iv 0])=Ending.returned (.tuple #[vv (numericV v).1 ax ai none 0,iv ((numericV v).2)]); (first|rfl|(simp only [numericV,Vl.z,aa,ak,al,bsm] <;> rfl)|(exfalso; omega))),(by rw [ak]; exact cQ),(by rw [al]; exact (SRow.nil _ _)),cR⟩
 have bB:=oF aa
 have cT:=hB cl aa
 refine wf cT<| ws<| cE _ _<| wk fun ed cU=>?_
 refine wB [true,true,true,true,true,true,false,false] [4] [(6,false),(7,true)] 26 [ve (vv (cleanV v) ap ah aC aq),ve (.tuple #[nv ((numberV (cleanV v)).1),iv ((numberV (cleanV v)).2)]),ve (.tuple #[nv ((numberV (cleanV v)).1),iv ((numberV (cleanV v)).2)]),ve (nv ((numberV (cleanV v)).1)),ve (iv ((numberV (cleanV v)).2)),IsNew dl 23 [iv 0,iv 0],vt,vt] [5] ay ?_ ?_ ?_
 refine .L9 ci a7<| .C 0 (fun p=>cnumber_c (cleanV v) _ _ _ _ _ (a8.new_ p) (cG.new_ p) hvv.clean)<| .N 1<| .E 2 ?_
 refine .o3 ?_
 exact .Y<| .off<| .off .nil
 refine eg1 ?_
 exact eager_take rfl rfl fun _ w hn k=>⟨iv ((numberV (cleanV v)).2),fun w=>v_extract rfl (k.eq1 2 15 rfl) rfl,rfl⟩
 refine aftI ay a6 aH fun bf dK aM bE bF bG am=>?_
 have cV:=am.f1 cj
 have bg:=am.g 3 18
 have bh:=am.g 4 19
 obtain⟨cW,bi,aN,bH⟩:=am.G 5 4
 have bI:=aJ.new_ bG
 have hne114:aB ≠ cW:=by have h1:=aJ.lt; have h2:=aN; omega
 have dB:=Nat.le_trans aH.size aN
 refine sS2 bi bg bH fun dL bJ bK bL=>?_
 have bN:=bL hne114 bI
 have bO:=bF.tR bK
 refine sP bh aM bE fun cX aO bP ac bk=>?_
 have⟨cY,dN,dO⟩:=ac.q3 cV bg bh
 have cZ:=ac.q bi
 refine cU _ _ <| wk fun dP bQ=>?_
 refine wk fun dQ bR=>?_
 refine wA tr2 [] 26 [ve (iv ((numberV (cleanV v)).2)),ve (.bool (!decide (((numberV (cleanV v)).2)=0)))] aO ?_ ?_
 exact .M bk<| .b 0 (r_neq rfl) .nil
 refine aftI aO bP bO fun dR dS an aP aQ aR ao=>?_
 have⟨bl,c0,c1⟩:=ao.f3 cY cZ bk
 have bm:=ao.g 1 21
 have⟨aS,bS⟩:=nw2 aR bN bJ
 refine bR _ _ ?_
 rcases bc ((!decide (((numberV (cleanV v)).2)=0))) with ab|ab
 have bT:=hB bm ab
 have ad:(decide (((numberV (cleanV v)).2)=0))=false:=nF ab
 have dz:=oF ad
 refine wt bT<| wk fun dT bU=>?_
 refine wB [true,true,false,false] [1] [(2,false),(3,true)] 26 [ve (vv (Vl.mk 0 0 0 false [] [] 0) none 0 none 0),ve (iv ((numberV (cleanV v)).2)),vt,vt] [] an ?_ ?_ ?_
 refine .Z ?_
 refine .o3 ?_
 exact .off<| .off .nil
 refine eg1 ?_
 exact eager_take rfl rfl fun _ w hn k=>⟨iv ((numberV (cleanV v)).2),fun w=>v_move rfl (k.fx 5 c1),rfl⟩
 refine aftI an aP aQ fun bn dU aT bV bW bX aA=>?_
 have bo:=aA.f1 bl
 have bp:=aA.g 0 22
 have bq:=aA.g 1 23
 have bY:=aS.new_ bX
 refine sS9 bo bp bY fun c3 b0 bZ dC=>?_
 have b2:=bW.tR bZ
 refine sP bq aT bV fun c5 dD b3 ae da=>?_
 have⟨c9,dW,dX⟩:=ae.q3 bo bp bq
 refine bU _ _<| wp_ret (ret_k b3 (res9 c9 da b0) ?_)
 exact rV (by first|rfl|(simp only [numericV,Vl.z,aa,ab,ad,bsm] <;> rfl)|(exfalso; omega)) b2
 have b4:=hB bm ab
 have af:(decide (((numberV (cleanV v)).2)=0))=true:=nT ab
 have dA:=oT af
 refine wf b4<| ws<| bQ _ _<| wk fun dY b5=>?_
 refine wA [true,true,false,false] [(2,false),(3,true)] 26 [ve (nv ((numberV (cleanV v)).1)),ve (vv (Vl.mk 3 ((numberV (cleanV v)).1).k ((numberV (cleanV v)).1).n false [] [] 0) none 0 none 0),vt,vt] an ?_ ?_
 exact .L2 c0 bS<| .C 0 (fun p=>cnum_c ((numberV (cleanV v)).1) _)<| .off<| .off .nil
 refine aftI an aP aQ fun bt dZ aU b6 b7 b8 aV=>?_
 have bu:=aV.f1 bl
 have bv:=aV.g 1 25
 have b9:=aS.new_ b8
 refine sS9 bu bv b9 fun db cb ca dE=>?_
 have cd:=b7.tR ca
 refine sP (v:=iv 0) rfl aU b6 fun dc dF ce ag de=>?_
 have⟨dd,d1⟩:=ag.q2 bu bv
 refine b5 _ _<| wp_ret (ret_k ce (res9 dd de cb) ?_)
 exact rV (by first|rfl|(simp only [numericV,Vl.z,aa,ab,af,bsm] <;> rfl)|(exfalso; omega)) cd
def ItoaOk (w0:World):Prop:=∀ n:Int,-9223372036854775808≤n→n≤9223372036854775807→∀ w',New w0 w'→Calls Tryz.prog 179 #[.int .i64 n] w' (IsRet (.string (itoaS n)) w')
theorem ItoaOk.up {w0 w:World} (h:ItoaOk w0) (hn:New w0 w):ItoaOk w:=fun n h1 h2 w' h3=>h n h1 h2 w' (hn.transNew h3)
theorem ntext_c (a:Nm) (w:World) (HT:ItoaOk w):Calls prog 140 #[nv a] w (IsRet (.string (textM a)) w):=by
 refine enter_abs func140 rfl fun a0 aj bC hp=>?_
 have aj:a0.tmps.size=16:=aj
 have aP:New w w:=Upd.refl _ _
 have hp0:a0.eval (.tmp 0)=nv a:=hp 0 _ rfl
 refine wk fun K1 bD=>?_
 refine wB tr2 [] [] 16 [IsNew w 23 [iv a.k,iv a.n],ve (.string ⟨#[]⟩)] [0] aj ?_ heN ?_
 exact .X hp0<| .c .nil
 refine aftI aj bC aP fun a2 w3 aQ bE aV b3 bF=>?_
 obtain⟨q9,h8,aW,ak⟩:=bF.G 0 1
 have bR:=Nat.le_trans aP.size aW
 refine bD _ _ <| wk fun b4 aX=>?_
 refine wk fun b5 aY=>?_
 refine wA [true,true,false] [(2,false)] 16 [ve (nv a),ve (nv (asM a)),vt] aQ ?_ ?_
 exact .L2 h8 ak<| .C 0 (fun m=>as_c a _)<| .off .nil
 refine aftI aQ bE aV fun b6 b7 al aZ a1 a3 am=>?_
 have an:=am.f1 h8
 have bG:=am.g 1 4
 have a4:=ak.new_ a3
 have hbd_a:=as_bd a
 refine sS2 an bG a4 fun b8 ao a5 bS=>?_
 have a7:=a1.tR a5
 refine aY _ _ <| wk fun ca a8=>?_
 refine wA tr2 [] 16 [ve (pv q9),ve (iv ((asM a).k))] al ?_ ?_
 exact .F an<| .J 0 isAgg3 ao .nil
 refine aftI al aZ a7 fun cb cc ap a9 ba bb aq=>?_
 have bH:=aq.f1 an
 have aR:=aq.g 1 6
 have bd:=ao.new_ bb
 refine a8 _ _<| wb<| wk fun cd be=>?_
 refine wA tr2 [] 16 [ve (.bool (decide (((asM a).k)=2))),ve (.bool (decide (((asM a).k)=2)))] ap ?_ ?_
 exact .H aR (r_eql rfl)<| .B 0 .nil
 refine aftI ap a9 ba fun ce cf ad ar au bf ah=>?_
 have⟨bI,aS⟩:=ah.f2 bH aR
 have aT:=ah.g 1 7
 have bg:=bd.new_ bf
 refine be _ _ ?_
 rcases bc (decide (((asM a).k)=2)) with aa|aa
 have aC:=oT aa
 have bh:=hB aT aa
 refine wt bh<| wk fun ch bi=>?_
 refine wA tr1 [] 16 [ve (.string ⟨#[78,97,78]⟩)] ad ?_ ?_
 exact .c .nil
 refine aftI ad ar au fun ci cj bT bj bk bU bl=>?_
 have bJ:=bl.g 0 2
 refine bi _ _<| wp_ret (ret_k bj (v:=.string ⟨#[78,97,78]⟩) (res_t rfl bJ _) ?_)
 refine ⟨?_,bk⟩
 show Ending.returned (.string ⟨#[78,97,78]⟩)=Ending.returned (.string (textM a))
 first|rfl|(simp only [textM,aa,bsm] <;> rfl)|(exfalso; omega)
 have aC:=oF aa
 have bm:=hB aT aa
 refine wf bm<| wk fun cl bn=>?_
 refine wA tr2 [] 16 [ve (.bool (decide (((asM a).k)=3))),ve (.bool (decide (((asM a).k)=3)))] ad ?_ ?_
 exact .H aS (r_eql rfl)<| .B 0 .nil
 refine aftI ad ar au fun cm cn ae av aw bo ai=>?_
 have⟨bK,bL⟩:=ai.f2 bI aS
 have aU:=ai.g 1 9
 have bp:=bg.new_ bo
 refine bn _ _ ?_
 rcases bc (decide (((asM a).k)=3)) with ac|ac
 have aD:=oT ac
 have bq:=hB aU ac
 refine wt bq<| wk fun co br=>?_
 refine wA tr1 [] 16 [ve (.string ⟨#[73,110,102,105,110,105,116,121]⟩)] ae ?_ ?_
 exact .c .nil
 refine aftI ae av aw fun cp cq bV bs bt bW bu=>?_
 have bM:=bu.g 0 2
 refine br _ _<| wp_ret (ret_k bs (v:=.string ⟨#[73,110,102,105,110,105,116,121]⟩) (res_t rfl bM _) ?_)
 refine ⟨?_,bt⟩
 show Ending.returned (.string ⟨#[73,110,102,105,110,105,116,121]⟩)=Ending.returned (.string (textM a))
 first|rfl|(simp only [textM,aa,ac,bsm] <;> rfl)|(exfalso; omega)
 have aD:=oF ac
 have bv:=hB aU ac
 refine wf bv<| wk fun cr bw=>?_
 refine wA tr2 [] 16 [ve (.bool (decide (((asM a).k)=4))),ve (.bool (decide (((asM a).k)=4)))] ae ?_ ?_
 exact .H bL (r_eql rfl)<| .B 0 .nil
 refine aftI ae av aw fun ct cu af ax ag bx ay=>?_
 have bz:=ay.f1 bK
 have az:=ay.g 1 11
 have aE:=bp.new_ bx
 refine bw _ _ ?_
 rcases bc (decide (((asM a).k)=4)) with ab|ab
 have aA:=oT ab
 have aF:=hB az ab
 refine wt aF<| wk fun bX aG=>?_
 refine wA tr1 [] 16 [ve (.string ⟨#[45,73,110,102,105,110,105,116,121]⟩)] af ?_ ?_
 exact .c .nil
 refine aftI af ax ag fun bY bZ bN aH aI bO aJ=>?_
 have bA:=aJ.g 0 2
 refine aG _ _<| wp_ret (ret_k aH (v:=.string ⟨#[45,73,110,102,105,110,105,116,121]⟩) (res_t rfl bA _) ?_)
 refine ⟨?_,aI⟩
 show Ending.returned (.string ⟨#[45,73,110,102,105,110,105,116,121]⟩)=Ending.returned (.string (textM a))
 first|rfl|(simp only [textM,aa,ac,ab,bsm] <;> rfl)|(exfalso; omega)
 have aA:=oF ab
 have aK:=hB az ab
 refine wf aK<| ws<| aX _ _<| wk fun b0 aL=>?_
 refine wA tr4 [] 16 [ve (.pointer (some ⟨q9,1,none⟩)),ve (iv ((asM a).n)),ve (.string (itoaS ((asM a).n))),ve (.string (itoaS ((asM a).n)))] af ?_ ?_
 exact .F bz<| .J 0 isAgg3 aE<| .C 1 (fun m=>HT ((asM a).n) (by omega) (by omega) _ (ag.transNew m))<| .B 2 .nil
 refine aftI af ax ag fun b1 b2 bP aM aN bQ aO=>?_
 have bB:=aO.g 3 2
 refine aL _ _<| wp_ret (ret_k aM (v:=.string (itoaS ((asM a).n))) (res_t rfl bB _) ?_)
 refine ⟨?_,aN⟩
 show Ending.returned (.string (itoaS ((asM a).n)))=Ending.returned (.string (textM a))
 first|rfl|(simp only [textM,aa,ac,ab,bsm] <;> rfl)|(exfalso; omega)
theorem isInf_c (a:Nm) (w:World):Calls prog 123 #[nv a] w (IsRet (.bool (infB a.k)) w):=by
 refine enter_abs func123 rfl fun a0 aa ak hp=>?_
 have aa:a0.tmps.size=11:=aa
 have ac:New w w:=Upd.refl _ _
 have hp0:a0.eval (.tmp 0)=nv a:=hp 0 _ rfl
 refine wk fun K1 al=>?_
 refine wB tr2 [] [] 11 [IsNew w 23 [iv a.k,iv a.n],vF] [0] aa ?_ heN ?_
 exact .X hp0<| .c .nil
 refine aftI aa ak ac fun a2 w3 ad am ae au an=>?_
 obtain⟨q9,h8,af,ab⟩:=an.G 0 1
 have ap:=Nat.le_trans ac.size af
 refine al _ _ <| wk fun av ag=>?_
 refine wA tr9 [] 11 [ve (pv q9),ve (iv a.k),ve (.bool (decide (a.k=3))),ve (.bool (decide (a.k=3))),ve (gq (!(decide (a.k=3))) (pv q9)),ve (gq (!(decide (a.k=3))) (iv a.k)),ve (gq (!(decide (a.k=3))) (.bool (decide (a.k=4)))),ve (.bool ((decide (a.k=3)) || (decide (a.k=4)))),ve (.bool ((decide (a.k=3)) || (decide (a.k=4))))] ad ?_ ?_
 exact .F h8<| .J 0 isAgg3 ab<| .b 1 (r_eql rfl)<| .N 2<| .Q (fun k=>g0' (k.eq1 3 6 rfl)) (fun hG p k=>v_field rfl (k.fx 1 h8) (fun w=>rfl))<| .Q (fun k=>g0' (k.eq1 3 6 rfl)) (fun hG p k=>v_load rfl (cT hG (k.eq1 4 7 rfl)) (l_one isAgg3 ((ab.new_ p).cell 0)))<| .Q (fun k=>g0' (k.eq1 3 6 rfl)) (fun hG p k=>v_bin rfl (cT hG (k.eq1 5 8 rfl)) rfl (fun _=>rfl) (r_eql rfl))<| .W 3 6<| .B 7 .nil
 refine aftI ad am ae fun aw ax aq ah ai ar aj=>?_
 have ao:=aj.g 8 2
 refine ag _ _<| wp_ret (ret_k ah (v:=.bool ((decide (a.k=3)) || (decide (a.k=4)))) (res_t rfl ao _) ?_)
 refine ⟨?_,ai⟩
 show Ending.returned (.bool ((decide (a.k=3)) || (decide (a.k=4))))=Ending.returned (.bool (infB a.k))
 first|rfl|(simp only [infB,bsm] <;> rfl)|(exfalso; omega)
theorem isNought_c (a:Nm) (w:World):Calls prog 147 #[nv a] w (IsRet (.bool (noughtB a)) w):=by
 refine enter_abs func147 rfl fun a0 ab al hp=>?_
 have ab:a0.tmps.size=16:=ab
 have ac:New w w:=Upd.refl _ _
 have hp0:a0.eval (.tmp 0)=nv a:=hp 0 _ rfl
 refine wk fun K1 am=>?_
 refine wB tr2 [] [] 16 [IsNew w 23 [iv a.k,iv a.n],vF] [0] ab ?_ heN ?_
 exact .X hp0<| .c .nil
 refine aftI ab al ac fun a2 w3 ad an ae av ao=>?_
 obtain⟨q9,h8,af,aa⟩:=ao.G 0 1
 have aq:=Nat.le_trans ac.size af
 refine am _ _ <| wk fun aw ag=>?_
 refine wA tr14 [] 16 [ve (pv q9),ve (iv a.k),ve (.bool (decide (a.k=1))),ve (.bool (decide (a.k=1))),ve (gq (!(decide (a.k=1))) (pv q9)),ve (gq (!(decide (a.k=1))) (iv a.k)),ve (gq (!(decide (a.k=1))) (.bool (decide (a.k=0)))),ve (gq (!(decide (a.k=1))) (.bool (decide (a.k=0)))),ve (gq ((!(decide (a.k=1))) && (decide (a.k=0))) (.pointer (some ⟨q9,1,none⟩))),ve (gq ((!(decide (a.k=1))) && (decide (a.k=0))) (iv a.n)),ve (gq ((!(decide (a.k=1))) && (decide (a.k=0))) (.bool (decide (a.n=0)))),ve (gq (!(decide (a.k=1))) (.bool ((decide (a.k=0)) && (decide (a.n=0))))),ve (.bool ((decide (a.k=1)) || ((decide (a.k=0)) && (decide (a.n=0))))),ve (.bool ((decide (a.k=1)) || ((decide (a.k=0)) && (decide (a.n=0)))))] ad ?_ ?_
 exact .F h8<| .J 0 isAgg3 aa<| .b 1 (r_eql rfl)<| .N 2<| .Q (fun k=>g0' (k.eq1 3 6 rfl)) (fun hG p k=>v_field rfl (k.fx 1 h8) (fun w=>rfl))<| .Q (fun k=>g0' (k.eq1 3 6 rfl)) (fun hG p k=>v_load rfl (cT hG (k.eq1 4 7 rfl)) (l_one isAgg3 ((aa.new_ p).cell 0)))<| .Q (fun k=>g0' (k.eq1 3 6 rfl)) (fun hG p k=>v_bin rfl (cT hG (k.eq1 5 8 rfl)) rfl (fun _=>rfl) (r_eql rfl))<| .Q (fun k=>g0' (k.eq1 3 6 rfl)) (fun hG p k=>v_move rfl (cT hG (k.eq1 6 9 rfl)))<| .Q (fun k=>g1 (k.eq1 7 10 rfl)) (fun hG p k=>v_field rfl (k.fx 1 h8) (fun w=>rfl))<| .Q (fun k=>g1 (k.eq1 7 10 rfl)) (fun hG p k=>v_load rfl (cT hG (k.eq1 8 11 rfl)) (l_one isAgg3 ((aa.new_ p).cell 1)))<| .Q (fun k=>g1 (k.eq1 7 10 rfl)) (fun hG p k=>v_bin rfl (cT hG (k.eq1 9 12 rfl)) rfl (fun _=>rfl) (r_eql rfl))<| .Q (fun k=>g0' (k.eq1 3 6 rfl)) (fun hG p k=>v_and rfl (cT hG (k.eq1 7 10 rfl)) (fun hg=>(cT (aj hG hg) (k.eq1 10 13 rfl))) rfl)<| .W 3 11<| .B 12 .nil
 refine aftI ad an ae fun ax ay ar ah ai au ak=>?_
 have ap:=ak.g 13 2
 refine ag _ _<| wp_ret (ret_k ah (v:=.bool ((decide (a.k=1)) || ((decide (a.k=0)) && (decide (a.n=0))))) (res_t rfl ap _) ?_)
 refine ⟨?_,ai⟩
 show Ending.returned (.bool ((decide (a.k=1)) || ((decide (a.k=0)) && (decide (a.n=0)))))=Ending.returned (.bool (noughtB a))
 first|rfl|(simp only [noughtB,bsm] <;> rfl)|(exfalso; omega)
theorem below_c (a:Nm) (w:World):Calls prog 146 #[nv a] w (IsRet (.bool (belowB a)) w):=by
 refine enter_abs func146 rfl fun a0 ab al hp=>?_
 have ab:a0.tmps.size=21:=ab
 have ac:New w w:=Upd.refl _ _
 have hp0:a0.eval (.tmp 0)=nv a:=hp 0 _ rfl
 refine wk fun K1 am=>?_
 refine wB tr2 [] [] 21 [IsNew w 23 [iv a.k,iv a.n],vF] [0] ab ?_ heN ?_
 exact .X hp0<| .c .nil
 refine aftI ab al ac fun a2 w3 ad an ae av ao=>?_
 obtain⟨q9,h8,af,aa⟩:=ao.G 0 1
 have aq:=Nat.le_trans ac.size af
 refine am _ _ <| wk fun aw ag=>?_
 refine wA tr19 [] 21 [ve (pv q9),ve (iv a.k),ve (.bool (decide (a.k=1))),ve (.bool (decide (a.k=1))),ve (gq (!(decide (a.k=1))) (pv q9)),ve (gq (!(decide (a.k=1))) (iv a.k)),ve (gq (!(decide (a.k=1))) (.bool (decide (a.k=4)))),ve (.bool ((decide (a.k=1)) || (decide (a.k=4)))),ve (.bool ((decide (a.k=1)) || (decide (a.k=4)))),ve (gq (!((decide (a.k=1)) || (decide (a.k=4)))) (pv q9)),ve (gq (!((decide (a.k=1)) || (decide (a.k=4)))) (iv a.k)),ve (gq (!((decide (a.k=1)) || (decide (a.k=4)))) (.bool (decide (a.k=0)))),ve (gq (!((decide (a.k=1)) || (decide (a.k=4)))) (.bool (decide (a.k=0)))),ve (gq ((!((decide (a.k=1)) || (decide (a.k=4)))) && (decide (a.k=0))) (.pointer (some ⟨q9,1,none⟩))),ve (gq ((!((decide (a.k=1)) || (decide (a.k=4)))) && (decide (a.k=0))) (iv a.n)),ve (gq ((!((decide (a.k=1)) || (decide (a.k=4)))) && (decide (a.k=0))) (.bool (decide (a.n < 0)))),ve (gq (!((decide (a.k=1)) || (decide (a.k=4)))) (.bool ((decide (a.k=0)) && (decide (a.n < 0))))),ve (.bool (((decide (a.k=1)) || (decide (a.k=4))) || ((decide (a.k=0)) && (decide (a.n < 0))))),ve (.bool (((decide (a.k=1)) || (decide (a.k=4))) || ((decide (a.k=0)) && (decide (a.n < 0)))))] ad ?_ ?_
 exact .F h8<| .J 0 isAgg3 aa<| .b 1 (r_eql rfl)<| .N 2<| .Q (fun k=>g0' (k.eq1 3 6 rfl)) (fun hG p k=>v_field rfl (k.fx 1 h8) (fun w=>rfl))<| .Q (fun k=>g0' (k.eq1 3 6 rfl)) (fun hG p k=>v_load rfl (cT hG (k.eq1 4 7 rfl)) (l_one isAgg3 ((aa.new_ p).cell 0)))<| .Q (fun k=>g0' (k.eq1 3 6 rfl)) (fun hG p k=>v_bin rfl (cT hG (k.eq1 5 8 rfl)) rfl (fun _=>rfl) (r_eql rfl))<| .W 3 6<| .N 7<| .Q (fun k=>g0' (k.eq1 8 11 rfl)) (fun hG p k=>v_field rfl (k.fx 1 h8) (fun w=>rfl))<| .Q (fun k=>g0' (k.eq1 8 11 rfl)) (fun hG p k=>v_load rfl (cT hG (k.eq1 9 12 rfl)) (l_one isAgg3 ((aa.new_ p).cell 0)))<| .Q (fun k=>g0' (k.eq1 8 11 rfl)) (fun hG p k=>v_bin rfl (cT hG (k.eq1 10 13 rfl)) rfl (fun _=>rfl) (r_eql rfl))<| .Q (fun k=>g0' (k.eq1 8 11 rfl)) (fun hG p k=>v_move rfl (cT hG (k.eq1 11 14 rfl)))<| .Q (fun k=>g1 (k.eq1 12 15 rfl)) (fun hG p k=>v_field rfl (k.fx 1 h8) (fun w=>rfl))<| .Q (fun k=>g1 (k.eq1 12 15 rfl)) (fun hG p k=>v_load rfl (cT hG (k.eq1 13 16 rfl)) (l_one isAgg3 ((aa.new_ p).cell 1)))<| .Q (fun k=>g1 (k.eq1 12 15 rfl)) (fun hG p k=>v_bin rfl (cT hG (k.eq1 14 17 rfl)) rfl (fun _=>rfl) (r_lssK rfl))<| .Q (fun k=>g0' (k.eq1 8 11 rfl)) (fun hG p k=>v_and rfl (cT hG (k.eq1 12 15 rfl)) (fun hg=>(cT (aj hG hg) (k.eq1 15 18 rfl))) rfl)<| .W 8 16<| .B 17 .nil
 refine aftI ad an ae fun ax ay ar ah ai au ak=>?_
 have ap:=ak.g 18 2
 refine ag _ _<| wp_ret (ret_k ah (v:=.bool (((decide (a.k=1)) || (decide (a.k=4))) || ((decide (a.k=0)) && (decide (a.n < 0))))) (res_t rfl ap _) ?_)
 refine ⟨?_,ai⟩
 show Ending.returned (.bool (((decide (a.k=1)) || (decide (a.k=4))) || ((decide (a.k=0)) && (decide (a.n < 0)))))=Ending.returned (.bool (belowB a))
 first|rfl|(simp only [belowB,bsm] <;> rfl)|(exfalso; omega)
theorem nof_c (n:Int) (w:World):Calls prog 124 #[iv n] w (IsRet (.tuple #[nv ((ofM n).1),.bool ((ofM n).2)]) w):=by
 refine enter_abs func124 rfl fun a0 ai a9 hp=>?_
 have ai:a0.tmps.size=13:=ai
 have au:New w w:=Upd.refl _ _
 have hp0:a0.eval (.tmp 0)=iv n:=hp 0 _ rfl
 refine wk fun K1 ba=>?_
 refine wB tr2 [] [] 13 [IsNew w 23 [iv 0,iv 0],vF] [0] ai ?_ heN ?_
 exact .Y<| .c .nil
 refine aftI ai a9 au fun a2 w3 av bb aF br aw=>?_
 have h8:=aw.f1 hp0
 obtain⟨bs,h9,aG,aH⟩:=aw.G 0 2
 have bm:=Nat.le_trans au.size aG
 refine ba _ _ <| wk fun bt aI=>?_
 refine wk fun bu aJ=>?_
 refine wA tr6 [] 13 [ve (iv n),ve (.bool (decide (n < -9007199254740991))),ve (.bool (decide (n < -9007199254740991))),ve (gq (!(decide (n < -9007199254740991))) (iv n)),ve (gq (!(decide (n < -9007199254740991))) (.bool (!decide (n≤9007199254740991)))),ve (.bool ((decide (n < -9007199254740991)) || (!decide (n≤9007199254740991))))] av ?_ ?_
 exact .M h8<| .b 0 (r_lssK rfl)<| .N 1<| .Q (fun k=>g0' (k.eq1 2 6 rfl)) (fun hG p k=>v_move rfl (k.fx 0 h8))<| .Q (fun k=>g0' (k.eq1 2 6 rfl)) (fun hG p k=>v_bin rfl (cT hG (k.eq1 3 7 rfl)) rfl (fun _=>rfl) (r_gtrK rfl))<| .W 2 4 .nil
 refine aftI av bb aF fun bv bw ad aj ak aK ae=>?_
 have⟨bd,ax⟩:=ae.f2 h8 h9
 have ay:=ae.g 5 9
 have al:=aH.new_ aK
 refine aJ _ _ ?_
 rcases bc (((decide (n < -9007199254740991)) || (!decide (n≤9007199254740991)))) with aa|aa
 have aL:=hB ay aa
 refine wt aL<| wk fun bx aM=>?_
 refine wA [true,false,false] [(1,false),(2,true)] 13 [ve (nv (Nm.mk 2 0)),vt,vt] ad ?_ ?_
 exact .o1 (ck rfl rfl rfl (fun _ w hn k=>⟨#[],rfl,fun _=>by kernel_rfl,nan_c  _ ⟩) fun _=>rfl)<| .off<| .off .nil
 refine aftI ad aj ak fun az bz am aN aO aP an=>?_
 have aA:=an.f1 ax
 have aB:=an.g 0 10
 have aQ:=al.new_ aP
 refine sS2 aA aB aQ fun bA aR aS bn=>?_
 have aU:=aO.tR aS
 refine sP (v:=.bool false) rfl am aN fun be bo aV ab bg=>?_
 have⟨bf,bC⟩:=ab.q2 aA aB
 refine aM _ _<| wp_ret (ret_k aV (v:=.tuple #[nv (Nm.mk 2 0),.bool false]) (res_ct rfl bf bg (l_two isAgg23 sizeOf23 aR)) ?_)
 refine ⟨?_,aU⟩
 show Ending.returned (.tuple #[nv (Nm.mk 2 0),.bool false])=Ending.returned (.tuple #[nv ((ofM n).1),.bool ((ofM n).2)])
 first|rfl|(simp only [ofM,aa,bsm] <;> rfl)|(exfalso; omega)
 have aW:=hB ay aa
 have af:(decide (n < -9007199254740991))=false:=ol aa
 have bk:=oF af
 have ag:(!decide (n≤9007199254740991))=false:=or_ aa
 have ah:(decide (n≤9007199254740991))=true:=nT ag
 have bl:=oT ah
 refine wf aW<| ws<| aI _ _<| wk fun bD aX=>?_
 refine wA [true,true,false,false] [(2,false),(3,true)] 13 [ve (iv n),ve (nv (Nm.mk 0 n)),vt,vt] ad ?_ ?_
 exact .M bd<| .C 0 (fun p=>whole_c n _)<| .off<| .off .nil
 refine aftI ad aj ak fun aC bE ao aY aZ a1 ap=>?_
 have aD:=ap.f1 ax
 have aE:=ap.g 1 12
 have a3:=al.new_ a1
 refine sS2 aD aE a3 fun bF a4 a5 bp=>?_
 have a7:=aZ.tR a5
 refine sP (v:=.bool true) rfl ao aY fun bh bq a8 ac bj=>?_
 have⟨bi,bH⟩:=ac.q2 aD aE
 refine aX _ _<| wp_ret (ret_k a8 (v:=.tuple #[nv (Nm.mk 0 n),.bool true]) (res_ct rfl bi bj (l_two isAgg23 sizeOf23 a4)) ?_)
 refine ⟨?_,a7⟩
 show Ending.returned (.tuple #[nv (Nm.mk 0 n),.bool true])=Ending.returned (.tuple #[nv ((ofM n).1),.bool ((ofM n).2)])
 first|rfl|(simp only [ofM,aa,af,af,ag,ag,ah,ah,bsm] <;> rfl)|(exfalso; omega)
theorem nadd_c (a:Nm) (b:Nm) (w:World):Calls prog 66 #[nv a,nv b] w (IsRet (.tuple #[nv ((addM a b).1),.bool ((addM a b).2)]) w):=by
 refine enter_abs func66 rfl fun a0 aP dQ hp=>?_
 have aP:a0.tmps.size=59:=aP
 have aQ:New w w:=Upd.refl _ _
 have hp0:a0.eval (.tmp 0)=nv a:=hp 0 _ rfl
 have hp1:a0.eval (.tmp 1)=nv b:=hp 1 _ rfl
 refine wk fun K1 dR=>?_
 refine wB tr4 [] [] 59 [IsNew w 23 [iv a.k,iv a.n],IsNew w 23 [iv b.k,iv b.n],IsNew w 23 [iv 0,iv 0],vF] [0,1,2] aP ?_ heN ?_
 exact .X hp0<| .X hp1<| .Y<| .c .nil
 refine aftI aP dQ aQ fun a2 w3 cR dS c0 eK az=>?_
 obtain⟨q9,h8,c1,bh⟩:=az.G 0 2
 obtain⟨aJ,aR,c2,bi⟩:=az.G 1 3
 obtain⟨cS,bj,c3,c4⟩:=az.G 2 4
 have hne20:=az.ne 0 1 2 3 h8 aR
 have hne21:=az.ne 0 2 2 4 h8 bj
 have hne22:=az.ne 1 2 3 4 aR bj
 have ea:=Nat.le_trans aQ.size c1
 have eb:=Nat.le_trans aQ.size c2
 have ec:=Nat.le_trans aQ.size c3
 refine dR _ _ <| wk fun eL c5=>?_
 refine wA [true,true,true,true,false,false] [(4,false),(5,false)] 59 [ve (nv a),ve (nv (asM a)),ve (nv b),ve (nv (asM b)),vt,vt] cR ?_ ?_
 exact .L2 h8 bh<| .C 0 (fun p=>as_c a _)<| .L2 aR bi<| .C 2 (fun p=>as_c b _)<| .off<| .off .nil
 refine aftI cR dS c0 fun eM eN bk c6 c8 aM ay=>?_
 have⟨aK,aL,dT⟩:=ay.f3 h8 aR bj
 have dU:=ay.g 1 7
 have dV:=ay.g 3 9
 have⟨c9,da,db⟩:=nw3 aM bh bi c4
 have hbd_a:=as_bd a
 have hbd_b:=as_bd b
 refine sS2 aK dU c9 fun eO dc dd bl=>?_
 have df:=bl hne20.symm da
 have dg:=bl hne21.symm db
 have dh:=c8.tR dd
 refine sS2 aL dV df fun eQ aA di bm=>?_
 have aB:=bm hne20 dc
 have dk:=bm hne22.symm dg
 have dl:=dh.tR di
 refine c5 _ _ <| wk fun eS dm=>?_
 refine wb<| wk fun eT dn=>?_
 refine wA tr22 [] 59 [ve (nv (asM a)),ve (.bool (decide ((asM a).k=2))),ve (.bool (decide ((asM a).k=2))),ve (gq (!(decide ((asM a).k=2))) (nv (asM b))),ve (gq (!(decide ((asM a).k=2))) (.bool (decide ((asM b).k=2)))),ve (.bool ((decide ((asM a).k=2)) || (decide ((asM b).k=2)))),ve (.bool ((decide ((asM a).k=2)) || (decide ((asM b).k=2)))),ve (gq (!((decide ((asM a).k=2)) || (decide ((asM b).k=2)))) (nv (asM a))),ve (gq (!((decide ((asM a).k=2)) || (decide ((asM b).k=2)))) (.bool (infB (asM a).k))),ve (gq (!((decide ((asM a).k=2)) || (decide ((asM b).k=2)))) (.bool (infB (asM a).k))),ve (gq ((!((decide ((asM a).k=2)) || (decide ((asM b).k=2)))) && (infB (asM a).k)) (nv (asM b))),ve (gq ((!((decide ((asM a).k=2)) || (decide ((asM b).k=2)))) && (infB (asM a).k)) (.bool (infB (asM b).k))),ve (gq (!((decide ((asM a).k=2)) || (decide ((asM b).k=2)))) (.bool ((infB (asM a).k) && (infB (asM b).k)))),ve (gq (!((decide ((asM a).k=2)) || (decide ((asM b).k=2)))) (.bool ((infB (asM a).k) && (infB (asM b).k)))),ve (gq ((!((decide ((asM a).k=2)) || (decide ((asM b).k=2)))) && ((infB (asM a).k) && (infB (asM b).k))) (pv q9)),ve (gq ((!((decide ((asM a).k=2)) || (decide ((asM b).k=2)))) && ((infB (asM a).k) && (infB (asM b).k))) (iv ((asM a).k))),ve (gq ((!((decide ((asM a).k=2)) || (decide ((asM b).k=2)))) && ((infB (asM a).k) && (infB (asM b).k))) (pv aJ)),ve (gq ((!((decide ((asM a).k=2)) || (decide ((asM b).k=2)))) && ((infB (asM a).k) && (infB (asM b).k))) (iv ((asM b).k))),ve (gq ((!((decide ((asM a).k=2)) || (decide ((asM b).k=2)))) && ((infB (asM a).k) && (infB (asM b).k))) (.bool (!decide (((asM a).k)=((asM b).k))))),ve (gq (!((decide ((asM a).k=2)) || (decide ((asM b).k=2)))) (.bool (((infB (asM a).k) && (infB (asM b).k)) && (!decide (((asM a).k)=((asM b).k)))))),ve (.bool (((decide ((asM a).k=2)) || (decide ((asM b).k=2))) || (((infB (asM a).k) && (infB (asM b).k)) && (!decide (((asM a).k)=((asM b).k)))))),ve (.bool (((decide ((asM a).k=2)) || (decide ((asM b).k=2))) || (((infB (asM a).k) && (infB (asM b).k)) && (!decide (((asM a).k)=((asM b).k))))))] bk ?_ ?_
 exact .L2 aK aB<| .C 0 (fun p=>isNaN_c (asM a) _)<| .N 1<| .Q (fun k=>g0' (k.eq1 2 13 rfl)) (fun hG p k=>v_load rfl (k.fx 3 aL) (l_two isAgg23 sizeOf23 (aA.new_ p)))<| .o1 (scC (G:=(!(decide ((asM a).k=2)))) rfl rfl rfl (fun _ _ k=>g0' (k.eq1 2 13 rfl)) rfl (fun hG _ w hn k=>⟨#[nv (asM b)],args1 (cT hG (k.eq1 3 14 rfl)),fun _=>by kernel_rfl,isNaN_c (asM b) _ ⟩))<| .W 2 4<| .N 5<| .Q (fun k=>g0' (k.eq1 6 17 rfl)) (fun hG p k=>v_load rfl (k.fx 2 aK) (l_two isAgg23 sizeOf23 (aB.new_ p)))<| .o1 (scC (G:=(!((decide ((asM a).k=2)) || (decide ((asM b).k=2))))) rfl rfl rfl (fun _ _ k=>g0' (k.eq1 6 17 rfl)) rfl (fun hG _ w hn k=>⟨#[nv (asM a)],args1 (cT hG (k.eq1 7 18 rfl)),fun _=>by kernel_rfl,isInf_c (asM a) _ ⟩))<| .Q (fun k=>g0' (k.eq1 6 17 rfl)) (fun hG p k=>v_move rfl (cT hG (k.eq1 8 19 rfl)))<| .Q (fun k=>g1 (k.eq1 9 20 rfl)) (fun hG p k=>v_load rfl (k.fx 3 aL) (l_two isAgg23 sizeOf23 (aA.new_ p)))<| .o1 (scC (G:=((!((decide ((asM a).k=2)) || (decide ((asM b).k=2)))) && (infB (asM a).k))) rfl rfl rfl (fun _ _ k=>g1 (k.eq1 9 20 rfl)) rfl (fun hG _ w hn k=>⟨#[nv (asM b)],args1 (cT hG (k.eq1 10 21 rfl)),fun _=>by kernel_rfl,isInf_c (asM b) _ ⟩))<| .Q (fun k=>g0' (k.eq1 6 17 rfl)) (fun hG p k=>v_and rfl (cT hG (k.eq1 9 20 rfl)) (fun hg=>(cT (aj hG hg) (k.eq1 11 22 rfl))) rfl)<| .Q (fun k=>g0' (k.eq1 6 17 rfl)) (fun hG p k=>v_move rfl (cT hG (k.eq1 12 23 rfl)))<| .Q (fun k=>g1 (k.eq1 13 24 rfl)) (fun hG p k=>v_field rfl (k.fx 2 aK) (fun w=>rfl))<| .Q (fun k=>g1 (k.eq1 13 24 rfl)) (fun hG p k=>v_load rfl (cT hG (k.eq1 14 25 rfl)) (l_one isAgg3 ((aB.new_ p).cell 0)))<| .Q (fun k=>g1 (k.eq1 13 24 rfl)) (fun hG p k=>v_field rfl (k.fx 3 aL) (fun w=>rfl))<| .Q (fun k=>g1 (k.eq1 13 24 rfl)) (fun hG p k=>v_load rfl (cT hG (k.eq1 16 27 rfl)) (l_one isAgg3 ((aA.new_ p).cell 0)))<| .Q (fun k=>g1 (k.eq1 13 24 rfl)) (fun hG p k=>v_bin rfl (cT hG (k.eq1 15 26 rfl)) (cT hG (k.eq1 17 28 rfl)) (fun _=>rfl) (r_neq rfl))<| .Q (fun k=>g0' (k.eq1 6 17 rfl)) (fun hG p k=>v_and rfl (cT hG (k.eq1 13 24 rfl)) (fun hg=>(cT (aj hG hg) (k.eq1 18 29 rfl))) rfl)<| .W 6 19<| .B 20 .nil
 refine aftI bk c6 dl fun eU eV aC bn bo aN aD=>?_
 have⟨cU,dW,cV⟩:=aD.f3 aK aL dT
 have cW:=aD.g 21 10
 have⟨bp,dp,bq⟩:=nw3 aN aB aA dk
 refine dn _ _ ?_
 rcases bc ((((decide ((asM a).k=2)) || (decide ((asM b).k=2))) || (((infB (asM a).k) && (infB (asM b).k)) && (!decide (((asM a).k)=((asM b).k)))))) with aa|aa
 have dq:=hB cW aa
 refine wt dq<| wk fun eW dr=>?_
 refine wA [true,false,false] [(1,false),(2,true)] 59 [ve (nv (Nm.mk 2 0)),vt,vt] aC ?_ ?_
 exact .o1 (ck rfl rfl rfl (fun _ w hn k=>⟨#[],rfl,fun _=>by kernel_rfl,nan_c  _ ⟩) fun _=>rfl)<| .off<| .off .nil
 refine aftI aC bn bo fun cX eX br ds dt du bs=>?_
 have cY:=bs.f1 cV
 have cZ:=bs.g 0 32
 have dv:=bq.new_ du
 refine sS2 cY cZ dv fun eY dw dx ed=>?_
 have dz:=dt.tR dx
 refine sP (v:=.bool true) rfl br ds fun dA d1 bY ag dC=>?_
 have⟨dB,ee⟩:=ag.q2 cY cZ
 refine dr _ _<| wp_ret (ret_k bY (v:=.tuple #[nv (Nm.mk 2 0),.bool true]) (res_ct rfl dB dC (l_two isAgg23 sizeOf23 dw)) ?_)
 refine ⟨?_,dz⟩
 show Ending.returned (.tuple #[nv (Nm.mk 2 0),.bool true])=Ending.returned (.tuple #[nv ((addM a b).1),.bool ((addM a b).2)])
 first|rfl|(simp only [addM,addA,aa,bsm] <;> first|rfl|(simp only [addM,addA,aa,bsm] <;> rfl))|(exfalso; omega)
 have bZ:=hB cW aa
 have ab:((decide ((asM a).k=2)) || (decide ((asM b).k=2)))=false:=ol aa
 have an:(decide ((asM a).k=2))=false:=ol ab
 have dX:=oF an
 have ao:(decide ((asM b).k=2))=false:=or_ ab
 have dY:=oF ao
 have ad:(((infB (asM a).k) && (infB (asM b).k)) && (!decide (((asM a).k)=((asM b).k))))=false:=or_ aa
 refine wf bZ<| wk fun ef b0=>?_
 refine wA tr3 [] 59 [ve (nv (asM a)),ve (.bool (infB (asM a).k)),ve (.bool (infB (asM a).k))] aC ?_ ?_
 exact .L2 cU bp<| .C 0 (fun p=>isInf_c (asM a) _)<| .B 1 .nil
 refine aftI aC bn bo fun eg eh ap aS aT aE aq=>?_
 have⟨bt,bu,bv⟩:=aq.f3 cU dW cV
 have bw:=aq.g 2 33
 have⟨aU,aV,aW⟩:=nw3 aE bp dp bq
 refine b0 _ _ ?_
 rcases bc (infB (asM a).k) with ae|ae
 have b1:=hB bw ae
 refine wt b1<| wk fun ei b2=>?_
 refine wA [true,false,false] [(1,false),(2,true)] 59 [ve (nv (asM a)),vt,vt] ap ?_ ?_
 exact .L2 bt aU<| .off<| .off .nil
 refine aftI ap aS aT fun bx ej aX b3 b4 b5 aY=>?_
 have bz:=aY.f1 bv
 have bA:=aY.g 0 36
 have b6:=aW.new_ b5
 refine sS2 bz bA b6 fun ek b7 b8 d2=>?_
 have ca:=b4.tR b8
 refine sP (v:=.bool true) rfl aX b3 fun dD d3 cb ah dF=>?_
 have⟨dE,em⟩:=ah.q2 bz bA
 refine b2 _ _<| wp_ret (ret_k cb (v:=.tuple #[nv (asM a),.bool true]) (res_ct rfl dE dF (l_two isAgg23 sizeOf23 b7)) ?_)
 refine ⟨?_,ca⟩
 show Ending.returned (.tuple #[nv (asM a),.bool true])=Ending.returned (.tuple #[nv ((addM a b).1),.bool ((addM a b).2)])
 first|rfl|(simp only [addM,addA,aa,ab,ad,bsm] <;> first|rfl|(simp only [addM,addA,aa,ab,an,ao,ad,ae,bsm] <;> rfl))|(exfalso; omega)
 have cc:=hB bw ae
 refine wf cc<| wk fun en cd=>?_
 refine wA tr3 [] 59 [ve (nv (asM b)),ve (.bool (infB (asM b).k)),ve (.bool (infB (asM b).k))] ap ?_ ?_
 exact .L2 bu aV<| .C 0 (fun p=>isInf_c (asM b) _)<| .B 1 .nil
 refine aftI ap aS aT fun eo ep au aZ a1 aF av=>?_
 have⟨bC,aO,bD⟩:=av.f3 bt bu bv
 have bE:=av.g 2 37
 have⟨a3,aG,a4⟩:=nw3 aF aU aV aW
 refine cd _ _ ?_
 rcases bc (infB (asM b).k) with ai|ai
 have ce:=hB bE ai
 refine wt ce<| wk fun er cf=>?_
 refine wA [true,false,false] [(1,false),(2,true)] 59 [ve (nv (asM b)),vt,vt] au ?_ ?_
 exact .L2 aO aG<| .off<| .off .nil
 refine aftI au aZ a1 fun bF es a5 ch ci cj a6=>?_
 have bG:=a6.f1 bD
 have bH:=a6.g 0 40
 have cl:=a4.new_ cj
 refine sS2 bG bH cl fun et cm cn d4=>?_
 have cp:=ci.tR cn
 refine sP (v:=.bool true) rfl a5 ch fun dG d5 cq ak dI=>?_
 have⟨dH,ev⟩:=ak.q2 bG bH
 refine cf _ _<| wp_ret (ret_k cq (v:=.tuple #[nv (asM b),.bool true]) (res_ct rfl dH dI (l_two isAgg23 sizeOf23 cm)) ?_)
 refine ⟨?_,cp⟩
 show Ending.returned (.tuple #[nv (asM b),.bool true])=Ending.returned (.tuple #[nv ((addM a b).1),.bool ((addM a b).2)])
 first|rfl|(simp only [addM,addA,aa,ab,ad,bsm] <;> first|rfl|(simp only [addM,addA,aa,ab,an,ao,ad,ae,ai,bsm] <;> rfl))|(exfalso; omega)
 have cr:=hB bE ai
 refine wf cr<| wk fun ew ct=>?_
 refine wA tr9 [] 59 [ve (pv q9),ve (iv ((asM a).k)),ve (.bool (decide (((asM a).k)=1))),ve (.bool (decide (((asM a).k)=1))),ve (gq (decide (((asM a).k)=1)) (pv aJ)),ve (gq (decide (((asM a).k)=1)) (iv ((asM b).k))),ve (gq (decide (((asM a).k)=1)) (.bool (decide (((asM b).k)=1)))),ve (.bool ((decide (((asM a).k)=1)) && (decide (((asM b).k)=1)))),ve (.bool ((decide (((asM a).k)=1)) && (decide (((asM b).k)=1))))] au ?_ ?_
 exact .F bC<| .J 0 isAgg3 a3<| .b 1 (r_eql rfl)<| .N 2<| .Q (fun k=>g0 (k.eq1 3 45 rfl)) (fun hG p k=>v_field rfl (k.fx 3 aO) (fun w=>rfl))<| .Q (fun k=>g0 (k.eq1 3 45 rfl)) (fun hG p k=>v_load rfl (cT hG (k.eq1 4 46 rfl)) (l_one isAgg3 ((aG.new_ p).cell 0)))<| .Q (fun k=>g0 (k.eq1 3 45 rfl)) (fun hG p k=>v_bin rfl (cT hG (k.eq1 5 47 rfl)) rfl (fun _=>rfl) (r_eql rfl))<| .O 3 6<| .B 7 .nil
 refine aftI au aZ a1 fun ex ey aw a7 a8 aH ax=>?_
 have⟨bJ,dJ,bK⟩:=ax.f3 bC aO bD
 have bL:=ax.g 8 41
 have⟨a9,cu,ba⟩:=nw3 aH a3 aG a4
 refine ct _ _ ?_
 rcases bc (((decide (((asM a).k)=1)) && (decide (((asM b).k)=1)))) with ac|ac
 have cv:=hB bL ac
 have bb:(decide (((asM a).k)=1))=true:=al ac
 have dZ:=oT bb
 have bd:(decide (((asM b).k)=1))=true:=ar ac
 have d0:=oT bd
 refine wt cv<| wk fun ez cw=>?_
 refine wA [true,false,false] [(1,false),(2,true)] 59 [ve (nv (asM a)),vt,vt] aw ?_ ?_
 exact .L2 bJ a9<| .off<| .off .nil
 refine aftI aw a7 a8 fun bM eA be cx cy cz bf=>?_
 have bN:=bf.f1 bK
 have bO:=bf.g 0 50
 have cA:=ba.new_ cz
 refine sS2 bN bO cA fun eB cB cC d6=>?_
 have cE:=cy.tR cC
 refine sP (v:=.bool true) rfl be cx fun dK d7 cF am dM=>?_
 have⟨dL,eD⟩:=am.q2 bN bO
 refine cw _ _<| wp_ret (ret_k cF (v:=.tuple #[nv (asM a),.bool true]) (res_ct rfl dL dM (l_two isAgg23 sizeOf23 cB)) ?_)
 refine ⟨?_,cE⟩
 show Ending.returned (.tuple #[nv (asM a),.bool true])=Ending.returned (.tuple #[nv ((addM a b).1),.bool ((addM a b).2)])
 first|rfl|(simp only [addM,addA,aa,ab,ad,ac,bsm] <;> first|rfl|(simp only [addM,addA,aa,ab,an,ao,ad,ae,ai,ac,bb,bd,bsm] <;> rfl))|(exfalso; omega)
 have cG:=hB bL ac
 refine wf cG<| ws<| dm _ _<| wk fun eE cH=>?_
 refine wA [true,true,true,true,true,true,true,true,false,false] [(8,false),(9,true)] 59 [ve (.pointer (some ⟨q9,1,none⟩)),ve (iv ((asM a).n)),ve (.pointer (some ⟨aJ,1,none⟩)),ve (iv ((asM b).n)),ve (iv (((asM a).n) + ((asM b).n))),ve (.tuple #[nv ((ofM (((asM a).n) + ((asM b).n))).1),.bool ((ofM (((asM a).n) + ((asM b).n))).2)]),ve (nv ((ofM (((asM a).n) + ((asM b).n))).1)),ve (.bool ((ofM (((asM a).n) + ((asM b).n))).2)),vt,vt] aw ?_ ?_
 exact .F bJ<| .J 0 isAgg3 a9<| .F dJ<| .J 2 isAgg3 cu<| .R (fun k=>v_bin rfl (k.eq1 1 52 rfl) (k.eq1 3 54 rfl) (fun _=>rfl) (r_add rfl (by omega))) (fun _=>rfl)<| .C 4 (fun p=>nof_c (((asM a).n) + ((asM b).n)) _)<| .E 5<| .E 5<| .off<| .off .nil
 refine aftI aw a7 a8 fun bQ eF bg cI cJ cK aI=>?_
 have bR:=aI.f1 bK
 have bS:=aI.g 6 57
 have bT:=aI.g 7 58
 have cL:=ba.new_ cK
 refine sS2 bR bS cL fun eG cM cN d8=>?_
 have cP:=cJ.tR cN
 refine sP bT bg cI fun dN d9 cQ af dP=>?_
 have⟨dO,eI,eJ⟩:=af.q3 bR bS bT
 refine cH _ _<| wp_ret (ret_k cQ (v:=.tuple #[nv ((ofM (((asM a).n) + ((asM b).n))).1),.bool ((ofM (((asM a).n) + ((asM b).n))).2)]) (res_ct rfl dO dP (l_two isAgg23 sizeOf23 cM)) ?_)
 refine ⟨?_,cP⟩
 show Ending.returned (.tuple #[nv ((ofM (((asM a).n) + ((asM b).n))).1),.bool ((ofM (((asM a).n) + ((asM b).n))).2)])=Ending.returned (.tuple #[nv ((addM a b).1),.bool ((addM a b).2)])
 first|rfl|(simp only [addM,addA,aa,ab,ad,ac,bsm] <;> first|rfl|(simp only [addM,addA,aa,ab,an,ao,ad,ae,ai,ac,bsm] <;> rfl))|(exfalso; omega)
theorem size_c (n:Int) (w:World) (h:-9007199254740991≤n∧n≤9007199254740991):Calls prog 149 #[iv n] w (IsRet (.int .u64 (sizeI n)) w):=by
 refine enter_abs func149 rfl fun a0 aa ag hp=>?_
 have aa:a0.tmps.size=8:=aa
 have ah:New w w:=Upd.refl _ _
 have hp0:a0.eval (.tmp 0)=iv n:=hp 0 _ rfl
 refine wk fun K1 ai=>?_
 refine wA tr1 [] 8 [ve (.int .u64 0)] aa ?_ ?_
 exact .c .nil
 refine aftI aa ag ah fun a2 w3 ab aj ak ap al=>?_
 have h8:=al.f1 hp0
 refine ai _ _ <| wk fun aq ac=>?_
 refine wA tr6 [] 8 [ve (iv n),ve (iv n),ve (iv (-n)),ve (iv (max n (-n))),ve (.int .u64 (max n (-n))),ve (.int .u64 (max n (-n)))] ab ?_ ?_
 exact .M h8<| .M h8<| .R (fun k=>v_neg rfl (k.eq1 1 4 rfl) (by omega)) (fun _=>rfl)<| .T (fun k=>v_max rfl (k.eq1 0 3 rfl) (k.eq1 2 5 rfl))<| .R (fun k=>v_conv rfl (k.eq1 3 6 rfl) (run_conv (by kernel_rfl) (by kernel_rfl) (by kernel_rfl) (IntWalk.u64_in _ (by omega)))) (fun _=>rfl)<| .B 4 .nil
 refine aftI ab aj ak fun ar au an ad ae ao af=>?_
 have am:=af.g 5 2
 refine ac _ _<| wp_ret (ret_k ad (v:=.int .u64 (max n (-n))) (res_t rfl am _) ?_)
 refine ⟨?_,ae⟩
 show Ending.returned (.int .u64 (max n (-n)))=Ending.returned (.int .u64 (sizeI n))
 first|rfl|(simp only [bsm] <;> rfl)|(simp []; done)|(exfalso; omega)
theorem ndiv0_c   (w:World):Calls prog 78 #[nv (Nm.mk 0 1),nv (Nm.mk 0 2)] w (IsRet (.tuple #[nv (Nm.mk 2 0),.bool false]) w):=by
 refine enter_abs func78 rfl fun a0 ap cn hp=>?_
 have ap:a0.tmps.size=77:=ap
 have aq:New w w:=Upd.refl _ _
 have hp0:a0.eval (.tmp 0)=nv (Nm.mk 0 1):=hp 0 _ rfl
 have hp1:a0.eval (.tmp 1)=nv (Nm.mk 0 2):=hp 1 _ rfl
 have co:sizeI (asM (Nm.mk 0 2)).n=2:=by decide +kernel
 have cp:sizeI (asM (Nm.mk 0 1)).n=1:=by decide +kernel
 have c2:-9007199254740991≤(asM (Nm.mk 0 2)).n∧(asM (Nm.mk 0 2)).n≤9007199254740991:=as_bd _
 have c3:-9007199254740991≤(asM (Nm.mk 0 1)).n∧(asM (Nm.mk 0 1)).n≤9007199254740991:=as_bd _
 refine wk fun K1 cq=>?_
 refine wB tr4 [] [] 77 [IsNew w 23 [iv 0,iv 1],IsNew w 23 [iv 0,iv 2],IsNew w 23 [iv 0,iv 0],vF] [0,1,2] ap ?_ heN ?_
 exact .X hp0<| .X hp1<| .Y<| .c .nil
 refine aftI ap cn aq fun a2 w3 bB cr bG c4 ag=>?_
 obtain⟨q9,h8,bH,aF⟩:=ag.G 0 2
 obtain⟨aG,ar,bI,aH⟩:=ag.G 1 3
 obtain⟨bC,aI,bJ,bK⟩:=ag.G 2 4
 have hne20:=ag.ne 0 1 2 3 h8 ar
 have hne21:=ag.ne 0 2 2 4 h8 aI
 have hne22:=ag.ne 1 2 3 4 ar aI
 have cI:=Nat.le_trans aq.size bH
 have cJ:=Nat.le_trans aq.size bI
 have cK:=Nat.le_trans aq.size bJ
 refine cq _ _ <| wk fun c5 bL=>?_
 refine wA [true,true,true,true,false,false] [(4,false),(5,false)] 77 [ve (nv (Nm.mk 0 1)),ve (nv (asM (Nm.mk 0 1))),ve (nv (Nm.mk 0 2)),ve (nv (asM (Nm.mk 0 2))),vt,vt] bB ?_ ?_
 exact .L2 h8 aF<| .C 0 (fun p=>as_c (Nm.mk 0 1) _)<| .L2 ar aH<| .C 2 (fun p=>as_c (Nm.mk 0 2) _)<| .off<| .off .nil
 refine aftI bB cr bG fun c6 c8 aJ bM bN am ae=>?_
 have⟨aK,aL,ct⟩:=ae.f3 h8 ar aI
 have cu:=ae.g 1 8
 have cv:=ae.g 3 10
 have⟨bO,bP,bQ⟩:=nw3 am aF aH bK
 have hbd_Nmmk01:=as_bd (Nm.mk 0 1)
 have hbd_Nmmk02:=as_bd (Nm.mk 0 2)
 refine sS2 aK cu bO fun c9 bR bS aM=>?_
 have bU:=aM hne20.symm bP
 have bV:=aM hne21.symm bQ
 have bW:=bN.tR bS
 refine sS2 aL cv bU fun db aN bX aO=>?_
 have aP:=aO hne20 bR
 have bZ:=aO hne22.symm bV
 have b0:=bW.tR bX
 refine bL _ _ <| wk fun dd b1=>?_
 refine wA tr6 [] 77 [ve (nv (asM (Nm.mk 0 1))),ve (.bool (belowB (asM (Nm.mk 0 1)))),ve (nv (asM (Nm.mk 0 2))),ve (.bool (belowB (asM (Nm.mk 0 2)))),ve (.bool ((belowB (asM (Nm.mk 0 1))) != (belowB (asM (Nm.mk 0 2))))),ve (.bool ((belowB (asM (Nm.mk 0 1))) != (belowB (asM (Nm.mk 0 2)))))] aJ ?_ ?_
 exact .L2 aK aP<| .C 0 (fun p=>below_c (asM (Nm.mk 0 1)) _)<| .L2 aL aN<| .C 2 (fun p=>below_c (asM (Nm.mk 0 2)) _)<| .T (fun k=>v_bin rfl (k.eq1 1 12 rfl) (k.eq1 3 14 rfl) (fun _=>rfl) (r_neqB _ _))<| .B 4 .nil
 refine aftI aJ bM b0 fun de df aQ b2 b3 an ah=>?_
 have⟨au,bD,cw⟩:=ah.f3 aK aL ct
 have cx:=ah.g 5 6
 have⟨ai,aR,b4⟩:=nw3 an aP aN bZ
 refine b1 _ _ <| wk fun dg cL=>?_
 refine wb<| wk fun dh b5=>?_
 have aS:(decide ((asM (Nm.mk 0 1)).k=2))=false:=by decide +kernel
 have cC:=oF aS
 have aT:(decide ((asM (Nm.mk 0 2)).k=2))=false:=by decide +kernel
 have cD:=oF aT
 have aU:(infB (asM (Nm.mk 0 1)).k)=false:=by decide +kernel
 have aV:(noughtB (asM (Nm.mk 0 1)))=false:=by decide +kernel
 refine wA tr23 [] 77 [ve (nv (asM (Nm.mk 0 1))),vF,vF,ve (nv (asM (Nm.mk 0 2))),vF,vF,vF,ve (nv (asM (Nm.mk 0 1))),vF,vF,vU,vU,vF,vF,vF,ve (nv (asM (Nm.mk 0 1))),vF,vF,vU,vU,vF,vF,vF] aQ ?_ ?_
 exact .L2 au ai<| .o1 (ck rfl rfl rfl (fun _ w hn k=>⟨#[nv (asM (Nm.mk 0 1))],args1 (k.eq1 0 17 rfl),fun _=>by kernel_rfl,isNaN_c (asM (Nm.mk 0 1)) _ ⟩) fun _=>congrArg Value.bool aS)<| .N 1<| .V (fun p k=>v_load rfl (k.fx 3 bD) (l_two isAgg23 sizeOf23 (aR.new_ p)))<| .o1 (cg rfl rfl rfl (fun _ _ k=>k.eq1 2 19 rfl) rfl (fun _ w hn k=>⟨#[nv (asM (Nm.mk 0 2))],args1 (k.eq1 3 20 rfl),fun _=>by kernel_rfl,isNaN_c (asM (Nm.mk 0 2)) _ ⟩) fun _=>congrArg Value.bool aT)<| .T (fun k=>v_pickF rfl (k.eq1 2 19 rfl) (k.eq1 4 21 rfl))<| .N 5<| .V (fun p k=>v_load rfl (k.fx 2 au) (l_two isAgg23 sizeOf23 (ai.new_ p)))<| .o1 (cg rfl rfl rfl (fun _ _ k=>k.eq1 6 23 rfl) rfl (fun _ w hn k=>⟨#[nv (asM (Nm.mk 0 1))],args1 (k.eq1 7 24 rfl),fun _=>by kernel_rfl,isInf_c (asM (Nm.mk 0 1)) _ ⟩) fun _=>congrArg Value.bool aU)<| .gm (fun k=>k.eq1 6 23 rfl) (fun k=>k.eq1 8 25 rfl)<| .S<| .S<| .V (fun p k=>v_pickF rfl (k.eq1 9 26 rfl) rfl)<| .T (fun k=>v_pickF rfl (k.eq1 6 23 rfl) (k.eq1 12 29 rfl))<| .N 13<| .V (fun p k=>v_load rfl (k.fx 2 au) (l_two isAgg23 sizeOf23 (ai.new_ p)))<| .o1 (cg rfl rfl rfl (fun _ _ k=>k.eq1 14 31 rfl) rfl (fun _ w hn k=>⟨#[nv (asM (Nm.mk 0 1))],args1 (k.eq1 15 32 rfl),fun _=>by kernel_rfl,isNought_c (asM (Nm.mk 0 1)) _ ⟩) fun _=>congrArg Value.bool aV)<| .gm (fun k=>k.eq1 14 31 rfl) (fun k=>k.eq1 16 33 rfl)<| .S<| .S<| .V (fun p k=>v_pickF rfl (k.eq1 17 34 rfl) rfl)<| .T (fun k=>v_pickF rfl (k.eq1 14 31 rfl) (k.eq1 20 37 rfl))<| .B 21 .nil
 refine aftI aQ b2 b3 fun di dj aW b6 b7 ao af=>?_
 have⟨bE,bF,cy,cz⟩:=af.f4 au bD cw cx
 have cA:=af.g 22 16
 have⟨aX,aY,b8⟩:=nw3 ao ai aR b4
 refine b5 _ _<| wf cA<| wk fun dk b9=>?_
 refine wA tr7 [] 77 [ve (nv (asM (Nm.mk 0 1))),vF,vF,ve (nv (asM (Nm.mk 0 2))),ve (.bool (noughtB (asM (Nm.mk 0 2)))),ve (.bool (noughtB (asM (Nm.mk 0 2)))),ve (.bool (noughtB (asM (Nm.mk 0 2))))] aW ?_ ?_
 exact .L2 bE aX<| .o1 (ck rfl rfl rfl (fun _ w hn k=>⟨#[nv (asM (Nm.mk 0 1))],args1 (k.eq1 0 41 rfl),fun _=>by kernel_rfl,isInf_c (asM (Nm.mk 0 1)) _ ⟩) fun _=>congrArg Value.bool aU)<| .N 1<| .V (fun p k=>v_load rfl (k.fx 3 bF) (l_two isAgg23 sizeOf23 (aY.new_ p)))<| .o1 (cg rfl rfl rfl (fun _ _ k=>k.eq1 2 43 rfl) rfl (fun _ w hn k=>⟨#[nv (asM (Nm.mk 0 2))],args1 (k.eq1 3 44 rfl),fun _=>by kernel_rfl,isNought_c (asM (Nm.mk 0 2)) _ ⟩) fun _=>rfl)<| .T (fun k=>v_pickF rfl (k.eq1 2 43 rfl) (k.eq1 4 45 rfl))<| .B 5 .nil
 refine aftI aW b6 b7 fun cM cN av bb bd aj ab=>?_
 have⟨aZ,a1,ca,cb⟩:=ab.f4 bE bF cy cz
 have cc:=ab.g 6 40
 have⟨aw,ax,be⟩:=nw3 aj aX aY b8
 refine b9 _ _ ?_
 have bf:(noughtB (asM (Nm.mk 0 2)))=false:=by decide +kernel
 have bg:=hB cc bf
 refine wf bg<| wk fun cO bh=>?_
 have bi:(infB (asM (Nm.mk 0 2)).k)=false:=by decide +kernel
 refine wA tr7 [] 77 [ve (nv (asM (Nm.mk 0 2))),vF,vF,ve (nv (asM (Nm.mk 0 1))),vF,vF,vF] av ?_ ?_
 exact .L2 a1 ax<| .o1 (ck rfl rfl rfl (fun _ w hn k=>⟨#[nv (asM (Nm.mk 0 2))],args1 (k.eq1 0 50 rfl),fun _=>by kernel_rfl,isInf_c (asM (Nm.mk 0 2)) _ ⟩) fun _=>congrArg Value.bool bi)<| .N 1<| .V (fun p k=>v_load rfl (k.fx 2 aZ) (l_two isAgg23 sizeOf23 (aw.new_ p)))<| .o1 (cg rfl rfl rfl (fun _ _ k=>k.eq1 2 52 rfl) rfl (fun _ w hn k=>⟨#[nv (asM (Nm.mk 0 1))],args1 (k.eq1 3 53 rfl),fun _=>by kernel_rfl,isNought_c (asM (Nm.mk 0 1)) _ ⟩) fun _=>congrArg Value.bool aV)<| .T (fun k=>v_pickF rfl (k.eq1 2 52 rfl) (k.eq1 4 54 rfl))<| .B 5 .nil
 refine aftI av bb bd fun cP cQ ay bj bk ak ac=>?_
 have⟨a3,a4,cd,ce⟩:=ac.f4 aZ a1 ca cb
 have cf:=ac.g 6 49
 have⟨az,aA,bl⟩:=nw3 ak aw ax be
 refine bh _ _<| wf cf<| wk fun cR bm=>?_
 have aB:(decide (((sizeI ((asM (Nm.mk 0 1)).n)).tmod (sizeI ((asM (Nm.mk 0 2)).n)))=0))=false:=by decide +kernel
 have cB:=oF aB
 have co:sizeI (asM (Nm.mk 0 2)).n=2:=by decide +kernel
 have cp:sizeI (asM (Nm.mk 0 1)).n=1:=by decide +kernel
 refine wA tr9 [] 77 [ve (.pointer (some ⟨q9,1,none⟩)),ve (iv ((asM (Nm.mk 0 1)).n)),ve (.int .u64 (sizeI ((asM (Nm.mk 0 1)).n))),ve (.pointer (some ⟨aG,1,none⟩)),ve (iv ((asM (Nm.mk 0 2)).n)),ve (.int .u64 (sizeI ((asM (Nm.mk 0 2)).n))),ve (.int .u64 ((sizeI ((asM (Nm.mk 0 1)).n)).tmod (sizeI ((asM (Nm.mk 0 2)).n)))),vT,vT] ay ?_ ?_
 exact .F a3<| .J 0 isAgg3 az<| .C 1 (fun p=>size_c ((asM (Nm.mk 0 1)).n) _ (by omega))<| .F a4<| .J 3 isAgg3 aA<| .C 4 (fun p=>size_c ((asM (Nm.mk 0 2)).n) _ (by omega))<| .R (fun k=>v_bin rfl (k.eq1 2 61 rfl) (k.eq1 5 64 rfl) (fun _=>rfl) (r_remU rfl (by omega))) (fun _=>rfl)<| .b 6 (r_neq aB)<| .B 7 .nil
 refine aftI ay bj bk fun cS cT aC bn bo al ad=>?_
 have⟨cU,cV,ch,cW⟩:=ad.f4 a3 a4 cd ce
 have ci:=ad.g 8 58
 have⟨cE,cF,bp⟩:=nw3 al az aA bl
 refine bm _ _<| wt ci<| wk fun cX bq=>?_
 refine wA [true,false,false] [(1,false),(2,true)] 77 [ve (nv (Nm.mk 2 0)),vt,vt] aC ?_ ?_
 exact .o1 (ck rfl rfl rfl (fun _ w hn k=>⟨#[],rfl,fun _=>by kernel_rfl,nan_c  _ ⟩) fun _=>rfl)<| .off<| .off .nil
 refine aftI aC bn bo fun a5 cY aD br bs bt aE=>?_
 have a6:=aE.f1 ch
 have a7:=aE.g 0 67
 have bu:=bp.new_ bt
 refine sS2 a6 a7 bu fun cZ bv bw cG=>?_
 have bz:=bs.tR bw
 refine sP (v:=.bool false) rfl aD br fun cj cH bA aa cm=>?_
 have⟨cl,c1⟩:=aa.q2 a6 a7
 refine bq _ _<| wp_ret (ret_k bA (v:=.tuple #[nv (Nm.mk 2 0),.bool false]) (res_ct rfl cl cm (l_two isAgg23 sizeOf23 bv)) ?_)
 exact⟨rfl,bz⟩
theorem ndivS_c (a b:Nm) (w:World) (ha:a=⟨0,1⟩) (hb:b=⟨0,2⟩):Calls Tryz.prog 78 #[nv a,nv b] w (IsRet (.tuple #[nv (Nm.mk 2 0),.bool false]) w):=by
  subst ha hb
  exact ndiv0_c w
theorem u32_c (a:Nm) (w:World):Calls prog 93 #[nv a] w (IsRet (iv (u32M a)) w):=by
 refine enter_abs func93 rfl fun a0 ae aS hp=>?_
 have ae:a0.tmps.size=12:=ae
 have aq:New w w:=Upd.refl _ _
 have hp0:a0.eval (.tmp 0)=nv a:=hp 0 _ rfl
 refine wk fun K1 aT=>?_
 refine wB tr2 [] [] 12 [IsNew w 23 [iv a.k,iv a.n],ve (iv 0)] [0] ae ?_ heN ?_
 exact .X hp0<| .c .nil
 refine aftI ae aS aq fun a2 w3 ar aU au bb aV=>?_
 obtain⟨q9,h8,av,af⟩:=aV.G 0 1
 have a4:=Nat.le_trans aq.size av
 refine aT _ _ <| wk fun bd aw=>?_
 refine wk fun be ax=>?_
 refine wA [true,true,false] [(2,false)] 12 [ve (nv a),ve (nv (asM a)),vt] ar ?_ ?_
 exact .L2 h8 af<| .C 0 (fun m=>as_c a _)<| .off .nil
 refine aftI ar aU au fun bf bg ab ag ay az ah=>?_
 have ad:=ah.f1 h8
 have aW:=ah.g 1 4
 have aA:=af.new_ az
 have hbd_a:=as_bd a
 refine sS2 ad aW aA fun bh ac aB a5=>?_
 have ai:=ay.tR aB
 refine ax _ _ <| wk fun bj aj=>?_
 rcases bc (decide (((asM a).k)=0)) with aa|aa
 have ap:=oT aa
 refine wA tr3 [] 12 [ve (pv q9),ve (iv ((asM a).k)),vF] ab ?_ ?_
 exact .F ad<| .J 0 isAgg3 ac<| .b 1 (r_neq aa) .nil
 refine aftI ab ag ai fun bk bl ak aD aE aF al=>?_
 have aX:=al.f1 ad
 have aY:=al.g 2 7
 have aG:=ac.new_ aF
 refine aj _ _<| wf aY<| ws ?_
 refine aw _ _<| wk fun bm aH=>?_
 refine wA tr5 [] 12 [ve (.pointer (some ⟨q9,1,none⟩)),ve (iv ((asM a).n)),ve (.int .u32 (((asM a).n) % 4294967296)),ve (iv (((asM a).n) % 4294967296)),ve (iv (((asM a).n) % 4294967296))] ak ?_ ?_
 exact .F aX<| .J 0 isAgg3 aG<| .T (fun k=>v_conv rfl (k.eq1 1 9 rfl) (run_conv (by kernel_rfl) (by kernel_rfl) (by kernel_rfl) (wrap_u32m _)))<| .R (fun k=>v_conv rfl (k.eq1 2 10 rfl) (run_conv (by kernel_rfl) (by kernel_rfl) (by kernel_rfl) (IntWalk.i64_in _ (by omega)))) (fun _=>rfl)<| .B 3 .nil
 refine aftI ak aD aE fun bn bo a6 aI aJ a7 aK=>?_
 have aZ:=aK.g 4 2
 refine aH _ _<| wp_ret (ret_k aI (v:=iv (((asM a).n) % 4294967296)) (res_t rfl aZ _) ?_)
 refine ⟨?_,aJ⟩
 show Ending.returned (iv (((asM a).n) % 4294967296))=Ending.returned (iv (u32M a))
 first|rfl|(simp only [u32M,aa,bsm] <;> rfl)|(simp [u32M,aa]; done)|(exfalso; omega)
 have ap:=oF aa
 refine wA tr3 [] 12 [ve (pv q9),ve (iv ((asM a).k)),vT] ab ?_ ?_
 exact .F ad<| .J 0 isAgg3 ac<| .b 1 (r_neq aa) .nil
 refine aftI ab ag ai fun bp bq am aL aM aN an=>?_
 have br:=an.f1 ad
 have a1:=an.g 2 7
 have a8:=ac.new_ aN
 refine aj _ _<| wt a1<| wk fun bs aO=>?_
 refine wA tr1 [] 12 [ve (iv 0)] am ?_ ?_
 exact .c .nil
 refine aftI am aL aM fun bt bu a9 aP aQ ba aR=>?_
 have a3:=aR.g 0 2
 refine aO _ _<| wp_ret (ret_k aP (v:=iv 0) (res_t rfl a3 _) ?_)
 refine ⟨?_,aQ⟩
 show Ending.returned (iv 0)=Ending.returned (iv (u32M a))
 first|rfl|(simp only [u32M,aa,bsm] <;> rfl)|(simp [u32M,aa]; done)|(exfalso; omega)
theorem i32_c (a:Nm) (w:World):Calls prog 92 #[nv a] w (IsRet (iv (i32M a)) w):=by
 refine enter_abs func92 rfl fun a0 aa ak hp=>?_
 have aa:a0.tmps.size=8:=aa
 have ab:New w w:=Upd.refl _ _
 have hp0:a0.eval (.tmp 0)=nv a:=hp 0 _ rfl
 have hu:=u32_bd a
 have hi:=i32of_bd (u32M a % 4294967296)
 refine wk fun K1 al=>?_
 refine wB tr2 [] [] 8 [IsNew w 23 [iv a.k,iv a.n],ve (iv 0)] [0] aa ?_ heN ?_
 exact .X hp0<| .c .nil
 refine aftI aa ak ab fun a2 w3 ac am ad au an=>?_
 obtain⟨q9,h8,ae,af⟩:=an.G 0 1
 have ap:=Nat.le_trans ab.size ae
 refine al _ _ <| wk fun av ag=>?_
 refine wA tr6 [] 8 [ve (nv a),ve (iv (u32M a)),ve (.int .u32 ((u32M a) % 4294967296)),ve (.int .i32 (i32of ((u32M a) % 4294967296))),ve (iv (i32of ((u32M a) % 4294967296))),ve (iv (i32of ((u32M a) % 4294967296)))] ac ?_ ?_
 exact .L2 h8 af<| .C 0 (fun m=>u32_c a _)<| .T (fun k=>v_conv rfl (k.eq1 1 4 rfl) (run_conv (by kernel_rfl) (by kernel_rfl) (by kernel_rfl) (wrap_u32m _)))<| .T (fun k=>v_conv rfl (k.eq1 2 5 rfl) (run_conv (by kernel_rfl) (by kernel_rfl) (by kernel_rfl) (wrap_i32m _)))<| .R (fun k=>v_conv rfl (k.eq1 3 6 rfl) (run_conv (by kernel_rfl) (by kernel_rfl) (by kernel_rfl) (IntWalk.i64_in _ (by omega)))) (fun _=>rfl)<| .B 4 .nil
 refine aftI ac am ad fun aw ax aq ah ai ar aj=>?_
 have ao:=aj.g 5 2
 have hu32_a:=u32_bd a
 refine ag _ _<| wp_ret (ret_k ah (v:=iv (i32of ((u32M a) % 4294967296))) (res_t rfl ao _) ?_)
 refine ⟨?_,ai⟩
 show Ending.returned (iv (i32of ((u32M a) % 4294967296)))=Ending.returned (iv (i32M a))
 first|rfl|(simp only [i32M,i32of,bsm] <;> rfl)|(simp [i32M,i32of]; done)|(exfalso; omega)
theorem bit_c (op:Int) (a:Nm) (b:Nm) (w:World):Calls prog 45 #[iv op,nv a,nv b] w (IsRet (nv (bitM op a b)) w):=by
 refine enter_abs func45 rfl fun a0 ax d2 hp=>?_
 have ax:a0.tmps.size=59:=ax
 have ay:New w w:=Upd.refl _ _
 have hp0:a0.eval (.tmp 0)=iv op:=hp 0 _ rfl
 have hp1:a0.eval (.tmp 1)=nv a:=hp 1 _ rfl
 have hp2:a0.eval (.tmp 2)=nv b:=hp 2 _ rfl
 have hub:=u32_bd b
 have hua:=u32_bd a
 have hsh:=sh_bd b hub
 have hii:=i32of_bd (i32M a % 4294967296 * 2 ^ ((u32M b).tmod 32).toNat % 4294967296)
 refine wk fun K1 d3=>?_
 refine wB tr3 [] [] 59 [IsNew w 23 [iv a.k,iv a.n],IsNew w 23 [iv b.k,iv b.n],IsNew w 23 [iv 0,iv 0]] [0,1,2] ax ?_ heN ?_
 exact .X hp1<| .X hp2<| .Y .nil
 refine aftI ax d2 ay fun a2 w3 c6 d4 dg fl av=>?_
 have h8:=av.f1 hp0
 obtain⟨d5,h9,dh,aZ⟩:=av.G 0 4
 obtain⟨d6,a1,di,a3⟩:=av.G 1 5
 obtain⟨c8,a4,dj,dk⟩:=av.G 2 6
 have hne21:=av.ne 0 2 4 6 h9 a4
 have hne22:=av.ne 1 2 5 6 a1 a4
 have ey:=Nat.le_trans ay.size dh
 have ez:=Nat.le_trans ay.size di
 have eA:=Nat.le_trans ay.size dj
 refine d3 _ _ <| wk fun fm dl=>?_
 refine wA tr10 [] 59 [ve (nv a),ve (iv (i32M a)),ve (nv b),ve (iv (i32M b)),ve (nv b),ve (iv (u32M b)),ve (iv ((u32M b).tmod 32)),ve (iv (i32M a)),ve (iv (i32M b)),ve (iv ((u32M b).tmod 32))] c6 ?_ ?_
 exact .L2 h9 aZ<| .C 0 (fun p=>i32_c a _)<| .L2 a1 a3<| .C 2 (fun p=>i32_c b _)<| .L2 a1 a3<| .C 4 (fun p=>u32_c b _)<| .R (fun k=>v_bin rfl (k.eq1 5 15 rfl) rfl (fun _=>rfl) (r_remI rfl (by omega))) (fun _=>rfl)<| .B 1<| .B 3<| .B 6 .nil
 refine aftI c6 d4 dg fun fn fo a5 dm dn a6 al=>?_
 have⟨d7,d8,d9⟩:=al.f3 h8 h9 a4
 have ea:=al.g 7 7
 have eb:=al.g 8 8
 have ec:=al.g 9 9
 have⟨dp,dq⟩:=nw2 a6 aZ dk
 have hi32_a:=i32M_in a
 have hi32_b:=i32M_in b
 have hu32_b:=u32_bd b
 refine dl _ _ <| wk fun fp dr=>?_
 refine wk fun fq ds=>?_
 refine wA tr1 [] 59 [ve (iv op)] a5 ?_ ?_
 exact .M d7 .nil
 refine aftI a5 dm dn fun fs ft a7 dt du a8 am=>?_
 have⟨ed,ee,ef,eg⟩:=am.f4 d8 d9 ea eb
 have eh:=am.f1 ec
 have c9:=am.g 0 17
 have⟨dv,dw⟩:=nw2 a8 dp dq
 refine ds _ _<| wb<| wk fun fu dx=>?_
 refine wA tr2 [] 59 [ve (.bool (decide (op=1))),ve (.bool (decide (op=1)))] a7 ?_ ?_
 exact .H c9 (r_eql rfl)<| .B 0 .nil
 refine aftI a7 dt du fun fv fw aw a9 ba bb ak=>?_
 have⟨ei,da,db,dc⟩:=ak.f4 ed ee ef eg
 have⟨ej,dd⟩:=ak.f2 eh c9
 have de:=ak.g 1 18
 have⟨dy,bd⟩:=nw2 bb dv dw
 refine dx _ _ ?_
 rcases bc (decide (op=1)) with ab|ab
 have bQ:=oT ab
 have dz:=hB de ab
 refine wt dz<| wk fun fy dA=>?_
 refine wA [true,true,true,true,false] [(4,false)] 59 [ve (iv (i32M a)),ve (iv (i32M b)),ve (iv (bandM (i32M a) (i32M b))),ve (nv (Nm.mk 0 (bandM (i32M a) (i32M b)))),vt] aw ?_ ?_
 exact .M db<| .M dc<| .T (fun k=>v_bin rfl (k.eq1 0 20 rfl) (k.eq1 1 21 rfl) (fun _=>rfl) (r_andI _ _))<| .C 2 (fun p=>whole_c (bandM (i32M a) (i32M b)) _)<| .off .nil
 refine aftI aw a9 ba fun fz fA eB dB dC dD be=>?_
 have df:=be.f1 da
 have ek:=be.g 3 23
 have dE:=bd.new_ dD
 refine sS2 df ek dE fun fB dF dG eC=>?_
 have dI:=dC.tR dG
 refine dA _ _<| wp_ret (ret_k dB (v:=nv (Nm.mk 0 (bandM (i32M a) (i32M b)))) (res_c rfl df (l_two isAgg23 sizeOf23 dF)) ?_)
 refine ⟨?_,dI⟩
 show Ending.returned (nv (Nm.mk 0 (bandM (i32M a) (i32M b))))=Ending.returned (nv (bitM op a b))
 first|rfl|(simp only [bitM,shM,ab,bsm] <;> rfl)|(simp [bitM,shM,ab]; done)|(exfalso; omega)
 have bQ:=oF ab
 have dJ:=hB de ab
 refine wf dJ<| wk fun fD dK=>?_
 refine wA tr2 [] 59 [ve (.bool (decide (op=2))),ve (.bool (decide (op=2)))] aw ?_ ?_
 exact .H dd (r_eql rfl)<| .B 0 .nil
 refine aftI aw a9 ba fun eD eE an az aA aB ag=>?_
 have⟨dL,bf,bg,bh⟩:=ag.f4 ei da db dc
 have⟨dM,bi⟩:=ag.f2 ej dd
 have bj:=ag.g 1 24
 have⟨bS,aC⟩:=nw2 aB dy bd
 refine dK _ _ ?_
 rcases bc (decide (op=2)) with aa|aa
 have bk:=oT aa
 have bT:=hB bj aa
 refine wt bT<| wk fun eF bU=>?_
 refine wA [true,true,true,true,false] [(4,false)] 59 [ve (iv (i32M a)),ve (iv (i32M b)),ve (iv (borM (i32M a) (i32M b))),ve (nv (Nm.mk 0 (borM (i32M a) (i32M b)))),vt] an ?_ ?_
 exact .M bg<| .M bh<| .T (fun k=>v_bin rfl (k.eq1 0 26 rfl) (k.eq1 1 27 rfl) (fun _=>rfl) (r_orI _ _))<| .C 2 (fun p=>whole_c (borM (i32M a) (i32M b)) _)<| .off .nil
 refine aftI an az aA fun eG eH el bV bW bX aD=>?_
 have bl:=aD.f1 bf
 have dN:=aD.g 3 29
 have bY:=aC.new_ bX
 refine sS2 bl dN bY fun eI bZ b0 em=>?_
 have b2:=bW.tR b0
 refine bU _ _<| wp_ret (ret_k bV (v:=nv (Nm.mk 0 (borM (i32M a) (i32M b)))) (res_c rfl bl (l_two isAgg23 sizeOf23 bZ)) ?_)
 refine ⟨?_,b2⟩
 show Ending.returned (nv (Nm.mk 0 (borM (i32M a) (i32M b))))=Ending.returned (nv (bitM op a b))
 first|rfl|(simp only [bitM,shM,ab,aa,bsm] <;> rfl)|(simp [bitM,shM,ab,aa]; done)|(exfalso; omega)
 have bk:=oF aa
 have b3:=hB bj aa
 refine wf b3<| wk fun eK b4=>?_
 refine wA tr2 [] 59 [ve (.bool (decide (op=3))),ve (.bool (decide (op=3)))] an ?_ ?_
 exact .H bi (r_eql rfl)<| .B 0 .nil
 refine aftI an az aA fun eL eM ao aE aF aG ah=>?_
 have⟨dO,bn,bo,dP⟩:=ah.f4 dL bf bg bh
 have⟨dQ,bp⟩:=ah.f2 dM bi
 have bq:=ah.g 1 30
 have⟨b5,aH⟩:=nw2 aG bS aC
 refine b4 _ _ ?_
 rcases bc (decide (op=3)) with ac|ac
 have br:=oT ac
 have b6:=hB bq ac
 refine wt b6<| wk fun eN b7=>?_
 refine wA [true,true,true,true,false] [(4,false)] 59 [ve (iv (i32M a)),ve (iv (i32M b)),ve (iv (bxorM (i32M a) (i32M b))),ve (nv (Nm.mk 0 (bxorM (i32M a) (i32M b)))),vt] ao ?_ ?_
 exact .M bo<| .M dP<| .T (fun k=>v_bin rfl (k.eq1 0 32 rfl) (k.eq1 1 33 rfl) (fun _=>rfl) (r_xorI _ _))<| .C 2 (fun p=>whole_c (bxorM (i32M a) (i32M b)) _)<| .off .nil
 refine aftI ao aE aF fun eO eP en b8 b9 ca aI=>?_
 have bs:=aI.f1 bn
 have dR:=aI.g 3 35
 have cb:=aH.new_ ca
 refine sS2 bs dR cb fun eQ cc cd eo=>?_
 have cf:=b9.tR cd
 refine b7 _ _<| wp_ret (ret_k b8 (v:=nv (Nm.mk 0 (bxorM (i32M a) (i32M b)))) (res_c rfl bs (l_two isAgg23 sizeOf23 cc)) ?_)
 refine ⟨?_,cf⟩
 show Ending.returned (nv (Nm.mk 0 (bxorM (i32M a) (i32M b))))=Ending.returned (nv (bitM op a b))
 first|rfl|(simp only [bitM,shM,ab,aa,ac,bsm] <;> rfl)|(simp [bitM,shM,ab,aa,ac]; done)|(exfalso; omega)
 have br:=oF ac
 have ch:=hB bq ac
 refine wf ch<| wk fun eS ci=>?_
 refine wA tr2 [] 59 [ve (.bool (decide (op=4))),ve (.bool (decide (op=4)))] ao ?_ ?_
 exact .H bp (r_eql rfl)<| .B 0 .nil
 refine aftI ao aE aF fun eT eU ap aJ aK aL ai=>?_
 have⟨dS,bu,bv,bw⟩:=ai.f4 dO bn bo dQ
 have bx:=ai.f1 bp
 have bz:=ai.g 1 36
 have⟨cj,aM⟩:=nw2 aL b5 aH
 refine ci _ _ ?_
 rcases bc (decide (op=4)) with ad|ad
 have bA:=oT ad
 have cl:=hB bz ad
 refine wt cl<| wk fun eV cm=>?_
 refine wA [true,true,true,true,true,true,true,false] [(7,false)] 59 [ve (iv (i32M a)),ve (.int .u32 ((i32M a) % 4294967296)),ve (iv ((u32M b).tmod 32)),ve (.int .u32 (((i32M a) % 4294967296) * 2 ^ ((u32M b).tmod 32).toNat % 4294967296)),ve (.int .i32 (i32of (((i32M a) % 4294967296) * 2 ^ ((u32M b).tmod 32).toNat % 4294967296))),ve (iv (i32of (((i32M a) % 4294967296) * 2 ^ ((u32M b).tmod 32).toNat % 4294967296))),ve (nv (Nm.mk 0 (i32of (((i32M a) % 4294967296) * 2 ^ ((u32M b).tmod 32).toNat % 4294967296)))),vt] ap ?_ ?_
 exact .M bv<| .T (fun k=>v_conv rfl (k.eq1 0 38 rfl) (run_conv (by kernel_rfl) (by kernel_rfl) (by kernel_rfl) (wrap_u32m _)))<| .M bw<| .R (fun k=>v_bin rfl (k.eq1 1 39 rfl) (k.eq1 2 40 rfl) (fun _=>rfl) (r_shlU32 (by omega))) (fun _=>rfl)<| .T (fun k=>v_conv rfl (k.eq1 3 41 rfl) (run_conv (by kernel_rfl) (by kernel_rfl) (by kernel_rfl) (wrap_i32m _)))<| .R (fun k=>v_conv rfl (k.eq1 4 42 rfl) (run_conv (by kernel_rfl) (by kernel_rfl) (by kernel_rfl) (IntWalk.i64_in _ (by omega)))) (fun _=>rfl)<| .C 5 (fun p=>whole_c (i32of (((i32M a) % 4294967296) * 2 ^ ((u32M b).tmod 32).toNat % 4294967296)) _)<| .off .nil
 refine aftI ap aJ aK fun eW eX ep cn co cp aN=>?_
 have bB:=aN.f1 bu
 have dT:=aN.g 6 44
 have cq:=aM.new_ cp
 refine sS2 bB dT cq fun eY cr ct er=>?_
 have cv:=co.tR ct
 refine cm _ _<| wp_ret (ret_k cn (v:=nv (Nm.mk 0 (i32of (((i32M a) % 4294967296) * 2 ^ ((u32M b).tmod 32).toNat % 4294967296)))) (res_c rfl bB (l_two isAgg23 sizeOf23 cr)) ?_)
 refine ⟨?_,cv⟩
 show Ending.returned (nv (Nm.mk 0 (i32of (((i32M a) % 4294967296) * 2 ^ ((u32M b).tmod 32).toNat % 4294967296))))=Ending.returned (nv (bitM op a b))
 first|rfl|(simp only [bitM,shM,ab,aa,ac,ad,bsm] <;> rfl)|(simp [bitM,shM,ab,aa,ac,ad]; done)|(exfalso; omega)
 have bA:=oF ad
 have cw:=hB bz ad
 refine wf cw<| wk fun e0 cx=>?_
 refine wA tr2 [] 59 [ve (.bool (decide (op=5))),ve (.bool (decide (op=5)))] ap ?_ ?_
 exact .H bx (r_eql rfl)<| .B 0 .nil
 refine aftI ap aJ aK fun e1 e2 aq aO aP aQ aj=>?_
 have⟨dU,bD,dV,bE⟩:=aj.f4 dS bu bv bw
 have dW:=aj.f1 bx
 have bF:=aj.g 1 45
 have⟨cy,aR⟩:=nw2 aQ cj aM
 refine cx _ _ ?_
 rcases bc (decide (op=5)) with ae|ae
 have bG:=oT ae
 have cz:=hB bF ae
 refine wt cz<| wk fun e3 cA=>?_
 refine wA [true,true,true,true,false] [(4,false)] 59 [ve (iv (i32M a)),ve (iv ((u32M b).tmod 32)),ve (iv ((i32M a) / 2 ^ ((u32M b).tmod 32).toNat)),ve (nv (Nm.mk 0 ((i32M a) / 2 ^ ((u32M b).tmod 32).toNat))),vt] aq ?_ ?_
 exact .M dV<| .M bE<| .R (fun k=>v_bin rfl (k.eq1 0 47 rfl) (k.eq1 1 48 rfl) (fun _=>rfl) (r_shrI (by omega))) (fun _=>rfl)<| .C 2 (fun p=>whole_c ((i32M a) / 2 ^ ((u32M b).tmod 32).toNat) _)<| .off .nil
 refine aftI aq aO aP fun e4 e5 es cB cC cD aS=>?_
 have bH:=aS.f1 bD
 have dX:=aS.g 3 50
 have cE:=aR.new_ cD
 refine sS2 bH dX cE fun e6 cF cG et=>?_
 have cI:=cC.tR cG
 refine cA _ _<| wp_ret (ret_k cB (v:=nv (Nm.mk 0 ((i32M a) / 2 ^ ((u32M b).tmod 32).toNat))) (res_c rfl bH (l_two isAgg23 sizeOf23 cF)) ?_)
 refine ⟨?_,cI⟩
 show Ending.returned (nv (Nm.mk 0 ((i32M a) / 2 ^ ((u32M b).tmod 32).toNat)))=Ending.returned (nv (bitM op a b))
 first|rfl|(simp only [bitM,shM,ab,aa,ac,ad,ae,bsm] <;> rfl)|(simp [bitM,shM,ab,aa,ac,ad,ae]; done)|(exfalso; omega)
 have bG:=oF ae
 have cJ:=hB bF ae
 refine wf cJ<| wk fun e8 cK=>?_
 refine wA tr2 [] 59 [ve (.bool (decide (op=6))),ve (.bool (decide (op=6)))] aq ?_ ?_
 exact .H dW (r_eql rfl)<| .B 0 .nil
 refine aftI aq aO aP fun e9 fa ar aT aU aV au=>?_
 have⟨dY,bJ,dZ⟩:=au.f3 dU bD bE
 have bK:=au.g 1 51
 have⟨cL,aW⟩:=nw2 aV cy aR
 refine cK _ _ ?_
 rcases bc (decide (op=6)) with af|af
 have bL:=oT af
 have cM:=hB bK af
 refine wt cM<| wk fun fb cN=>?_
 refine wA [true,true,true,true,true,false] [(5,false)] 59 [ve (nv a),ve (iv (u32M a)),ve (iv ((u32M b).tmod 32)),ve (iv ((u32M a) / 2 ^ ((u32M b).tmod 32).toNat)),ve (nv (Nm.mk 0 ((u32M a) / 2 ^ ((u32M b).tmod 32).toNat))),vt] ar ?_ ?_
 exact .L2 dY cL<| .C 0 (fun p=>u32_c a _)<| .M dZ<| .R (fun k=>v_bin rfl (k.eq1 1 54 rfl) (k.eq1 2 55 rfl) (fun _=>rfl) (r_shrI (by omega))) (fun _=>rfl)<| .C 3 (fun p=>whole_c ((u32M a) / 2 ^ ((u32M b).tmod 32).toNat) _)<| .off .nil
 refine aftI ar aT aU fun fc fd eu cO cP cQ aX=>?_
 have bM:=aX.f1 bJ
 have d0:=aX.g 4 57
 have cR:=aW.new_ cQ
 have hu32_a:=u32_bd a
 refine sS2 bM d0 cR fun fe cS cT ev=>?_
 have cV:=cP.tR cT
 refine cN _ _<| wp_ret (ret_k cO (v:=nv (Nm.mk 0 ((u32M a) / 2 ^ ((u32M b).tmod 32).toNat))) (res_c rfl bM (l_two isAgg23 sizeOf23 cS)) ?_)
 refine ⟨?_,cV⟩
 show Ending.returned (nv (Nm.mk 0 ((u32M a) / 2 ^ ((u32M b).tmod 32).toNat)))=Ending.returned (nv (bitM op a b))
 first|rfl|(simp only [bitM,shM,ab,aa,ac,ad,ae,af,bsm] <;> rfl)|(simp [bitM,shM,ab,aa,ac,ad,ae,af]; done)|(exfalso; omega)
 have bL:=oF af
 have cW:=hB bK af
 refine wf cW<| ws<| dr _ _<| wk fun fg cX=>?_
 refine wA [true,false] [(1,false)] 59 [ve (nv (Nm.mk 2 0)),vt] ar ?_ ?_
 exact .o1 (ck rfl rfl rfl (fun _ w hn k=>⟨#[],rfl,fun _=>by kernel_rfl,nan_c  _ ⟩) fun _=>rfl)<| .off .nil
 refine aftI ar aT aU fun fh fi ew cY cZ c0 aY=>?_
 have bO:=aY.f1 bJ
 have d1:=aY.g 0 58
 have c1:=aW.new_ c0
 refine sS2 bO d1 c1 fun fj c2 c3 ex=>?_
 have c5:=cZ.tR c3
 refine cX _ _<| wp_ret (ret_k cY (v:=nv (Nm.mk 2 0)) (res_c rfl bO (l_two isAgg23 sizeOf23 c2)) ?_)
 refine ⟨?_,c5⟩
 show Ending.returned (nv (Nm.mk 2 0))=Ending.returned (nv (bitM op a b))
 first|rfl|(simp only [bitM,shM,ab,aa,ac,ad,ae,af,bsm] <;> rfl)|(simp [bitM,shM,ab,aa,ac,ad,ae,af]; done)|(exfalso; omega)
def numberedV (a:Nm) (b:Bool):Int × Nm × Int:=if b then (3,a,0) else (0,⟨0,0⟩,3)
theorem VOk.numeric {v:Vl} (h:VOk v):VOk (numericV v).1:=by
  have h1:=number_may (cleanV v)
  unfold numericV
  split
  · exact⟨h.clean.limbs,U16s.nil,h.clean.mlen,Nat.zero_le _,(by decide:(-9223372036854775808:Int)≤0),(by decide:(0:Int)≤9223372036854775807),(by decide:(-9223372036854775808:Int)≤0),(by decide:(0:Int)≤9223372036854775807)⟩
  · split
    · rename_i h2
      have h3:=h1 (of_decide_eq_true h2)
      have h4:=as_bd (numberV (cleanV v)).1
      unfold asM at h4
      rw [if_pos h3] at h4
      exact⟨Limbs.nil,U16s.nil,Nat.zero_le _,Nat.zero_le _,(show -9223372036854775808≤(numberV (cleanV v)).1.n by omega),(show (numberV (cleanV v)).1.n≤9223372036854775807 by omega),(by decide:(-9223372036854775808:Int)≤0),(by decide:(0:Int)≤9223372036854775807)⟩
    · exact VOk.z
theorem VOk.numerics1 {v u:Vl} (h:VOk v) (h2:VOk u):VOk (numericsV v u).1:=by
  unfold numericsV
  repeat' split
  all_goals first|exact h.numeric|exact VOk.z
theorem VOk.numerics2 {v u:Vl} (h:VOk v) (h2:VOk u):VOk (numericsV v u).2.1:=by
  unfold numericsV
  repeat' split
  all_goals first|exact h2.numeric|exact VOk.z
theorem numbered_c (a:Nm) (b:Bool) (w:World):Calls prog 65 #[nv a,.bool b] w (IsRet (.tuple #[vv (Vl.mk (numberedV a b).1 (numberedV a b).2.1.k (numberedV a b).2.1.n false [] [] 0) none 0 none 0,iv ((numberedV a b).2.2)]) w):=by
 refine enter_abs func65 rfl fun a0 af bf hp=>?_
 have af:a0.tmps.size=11:=af
 have ah:New w w:=Upd.refl _ _
 have hp0:a0.eval (.tmp 0)=nv a:=hp 0 _ rfl
 have hp1:a0.eval (.tmp 1)=.bool b:=hp 1 _ rfl
 refine wk fun K1 bg=>?_
 refine wB tr3 [] [] 11 [IsNew w 23 [iv a.k,iv a.n],IsNew w 29 z7,ve (iv 0)] [0,1] af ?_ heN ?_
 exact .X hp0<| .Y<| .c .nil
 refine aftI af bf ah fun a2 w3 ax bh aI bz ag=>?_
 have h8:=ag.f1 hp1
 obtain⟨bi,h9,aJ,aK⟩:=ag.G 0 2
 obtain⟨ai,ay,aL,aM⟩:=ag.G 1 4
 have hne17:=ag.ne 0 1 2 4 h9 ay
 have bs:=Nat.le_trans ah.size aJ
 have bt:=Nat.le_trans ah.size aL
 refine bg _ _ <| wk fun bA aN=>?_
 refine wk fun bB aO=>?_
 refine wA tr2 [] 11 [ve (.bool b),ve (.bool (!b))] ax ?_ ?_
 exact .M h8<| .T (fun k=>v_not rfl (k.eq1 0 6 rfl)) .nil
 refine aftI ax bh aI fun az bC ad aj ak al ae=>?_
 have⟨bj,aA⟩:=ae.f2 h9 ay
 have aB:=ae.g 1 7
 have⟨aP,am⟩:=nw2 al aK aM
 refine aO _ _ ?_
 rcases bc (b) with ac|ac
 have aQ:az.eval (.tmp 7)=.bool false:=aB.trans (congrArg Value.bool (by rw [ac]; rfl))
 refine wf aQ<| ws<| aN _ _<| wk fun bD aR=>?_
 refine wA [true,true,false,false] [(2,false),(3,true)] 11 [ve (nv a),ve (vv (Vl.mk 3 a.k a.n false [] [] 0) none 0 none 0),vt,vt] ad ?_ ?_
 exact .L2 bj aP<| .C 0 (fun p=>cnum_c a _)<| .off<| .off .nil
 refine aftI ad aj ak fun aC bE an aS aT aU ao=>?_
 have aD:=ao.f1 aA
 have aE:=ao.g 1 10
 have aV:=am.new_ aU
 refine sS9 aD aE aV fun bk aX aW bu=>?_
 have aZ:=aT.tR aW
 refine sP (v:=iv 0) rfl an aS fun bl bv a1 aa bn=>?_
 have⟨bm,bG⟩:=aa.q2 aD aE
 refine aR _ _<| wp_ret (ret_k a1 (v:=.tuple #[vv (Vl.mk 3 a.k a.n false [] [] 0) none 0 none 0,iv 0]) (res_ct rfl bm bn (l_agg isAgg29 sizeOf29 aX rfl)) ?_)
 refine ⟨?_,aZ⟩
 show Ending.returned (.tuple #[vv (Vl.mk 3 a.k a.n false [] [] 0) none 0 none 0,iv 0])=Ending.returned (.tuple #[vv (Vl.mk (numberedV a b).1 (numberedV a b).2.1.k (numberedV a b).2.1.n false [] [] 0) none 0 none 0,iv ((numberedV a b).2.2)])
 first|rfl|(simp only [numberedV,ac,bsm] <;> rfl)|(exfalso; omega)
 have a3:az.eval (.tmp 7)=.bool true:=aB.trans (congrArg Value.bool (by rw [ac]; rfl))
 refine wt a3<| wk fun bH a4=>?_
 refine wA [true,false,false] [(1,false),(2,true)] 11 [ve (vv (Vl.mk 0 0 0 false [] [] 0) none 0 none 0),vt,vt] ad ?_ ?_
 exact .Z<| .off<| .off .nil
 refine aftI ad aj ak fun aF bI ap a5 a6 a7 aq=>?_
 have aG:=aq.f1 aA
 have aH:=aq.g 0 8
 have a8:=am.new_ a7
 refine sS9 aG aH a8 fun bo ba a9 bw=>?_
 have bd:=a6.tR a9
 refine sP (v:=iv 3) rfl ap a5 fun bp bx be ab br=>?_
 have⟨bq,bK⟩:=ab.q2 aG aH
 refine a4 _ _<| wp_ret (ret_k be (v:=.tuple #[vv (Vl.mk 0 0 0 false [] [] 0) none 0 none 0,iv 3]) (res_ct rfl bq br (l_agg isAgg29 sizeOf29 ba rfl)) ?_)
 refine ⟨?_,bd⟩
 show Ending.returned (.tuple #[vv (Vl.mk 0 0 0 false [] [] 0) none 0 none 0,iv 3])=Ending.returned (.tuple #[vv (Vl.mk (numberedV a b).1 (numberedV a b).2.1.k (numberedV a b).2.1.n false [] [] 0) none 0 none 0,iv ((numberedV a b).2.2)])
 first|rfl|(simp only [numberedV,ac,bsm] <;> rfl)|(exfalso; omega)
def numerics_c_P (v:Vl) (Av:Option Addr) (cv:Nat) (Bv:Option Addr) (dv:Nat) (u:Vl) (Au:Option Addr) (cu:Nat) (Bu:Option Addr) (du:Nat) (w:World) (en:Ending) (w':World):Prop:=∃ (Ar0:Option Addr) (cr0:Nat) (Ar1:Option Addr) (cr1:Nat) (Ar2:Option Addr) (cr2:Nat) (Ar3:Option Addr) (cr3:Nat),en=.returned (.tuple #[vv (numericsV v u).1 Ar0 cr0 Ar1 cr1,vv (numericsV v u).2.1 Ar2 cr2 Ar3 cr3,iv ((numericsV v u).2.2)])∧SRow w' .u32 Ar0 ((numericsV v u).1.mag) cr0∧SRow w' .u16 Ar1 ((numericsV v u).1.s) cr1∧SRow w' .u32 Ar2 ((numericsV v u).2.1.mag) cr2∧SRow w' .u16 Ar3 ((numericsV v u).2.1.s) cr3∧New w w'
theorem numerics_c (v:Vl) (Av:Option Addr) (cv:Nat) (Bv:Option Addr) (dv:Nat) (u:Vl) (Au:Option Addr) (cu:Nat) (Bu:Option Addr) (du:Nat) (w:World) (hmv:SRow w .u32 Av v.mag cv) (hsv:SRow w .u16 Bv v.s dv) (hmu:SRow w .u32 Au u.mag cu) (hsu:SRow w .u16 Bu u.s du) (hvv:VOk v) (hvu:VOk u):Calls prog 74 #[vv v Av cv Bv dv,vv u Au cu Bu du] w (numerics_c_P v Av cv Bv dv u Au cu Bu du w):=by
 refine enter_abs func74 rfl fun a0 bM g0 hp=>?_
 have bM:a0.tmps.size=41:=bM
 have bH:New w w:=Upd.refl _ _
 have hp0:a0.eval (.tmp 0)=vv v Av cv Bv dv:=hp 0 _ rfl
 have hp1:a0.eval (.tmp 1)=vv u Au cu Bu du:=hp 1 _ rfl
 refine wk fun K1 g1=>?_
 refine wB tr5 [] [] 41 [IsNew w 29 (c7 v Av cv Bv dv),IsNew w 29 (c7 u Au cu Bu du),IsNew w 29 z7,IsNew w 29 z7,ve (iv 0)] [0,1,2,3] bM ?_ heN ?_
 exact .X hp0<| .X hp1<| .Y<| .Y<| .c .nil
 refine aftI bM g0 bH fun a2 w3 fH g2 bv jc aS=>?_
 obtain⟨q9,h8,fO,fP⟩:=aS.G 0 2
 obtain⟨cy,cz,fQ,cA⟩:=aS.G 1 3
 obtain⟨aT,bN,fR,cB⟩:=aS.G 2 4
 obtain⟨aU,bO,fS,cC⟩:=aS.G 3 5
 have hne24:=aS.ne 0 2 2 4 h8 bN
 have hne25:=aS.ne 0 3 2 5 h8 bO
 have hne26:=aS.ne 1 2 3 4 cz bN
 have hne27:=aS.ne 1 3 3 5 cz bO
 have hne28:=aS.ne 2 3 4 5 bN bO
 have h9:=Nat.le_trans bH.size fO
 have ia:=Nat.le_trans bH.size fQ
 have ib:=Nat.le_trans bH.size fR
 have ic:=Nat.le_trans bH.size fS
 refine g1 _ _ <| wk fun jd fT=>?_
 refine wp_gS (fun W=>True) (fun W W' hn h=>trivial) trivial [true,true,true,true,true,true,false,false] [4] [(6,false),(7,true)] 41
  [ve (vv v Av cv Bv dv),(TP (numericV v).1 ((numericV v).2)),(TP (numericV v).1 ((numericV v).2)),(fun (v_:Value) (W:World)=>∃ (bi:Option Addr) (bj:Nat) (bk:Option Addr) (bl:Nat),v_=vv (numericV v).1 bi bj bk bl∧SRow W .u32 bi ((numericV v).1.mag) bj∧SRow W .u16 bk ((numericV v).1.s) bl),ve (iv ((numericV v).2)),IsNew w3 29 z7,vt,vt]
  [5] (newsCons (fun v w h=>IsNew.old h) newsNil) fH (.eq (.cons (fun _ _ _ n ⟨_,_,_,_,e,h,i⟩=>⟨_,_,_,_,e,h.new_ n,i.new_ n⟩) (.cons (fun _ _ _ n ⟨_,_,_,_,e,h,i⟩=>⟨_,_,_,_,e,h.new_ n,i.new_ n⟩) (.cons (fun _ _ _ n ⟨_,_,_,_,e,h,i⟩=>⟨_,_,_,_,e,h.new_ n,i.new_ n⟩) (.eq (.nw (.tt (.tt .nil)))))))) ?_ ?_ ?_
 refine .L9 h8 fP ?_
 refine .o1 (tkC rfl (noG rfl) rfl fun _ w hn k=>(by
  refine ⟨#[vv v Av cv Bv dv],_,args1 (k.eq1 0 11 rfl),fun w=>by kernel_rfl,cnumeric_c v _ _ _ _ _ (hmv.new_ (bv.transNew hn)) (hsv.new_ (bv.transNew hn)) hvv,?_⟩
  rintro e w' ⟨A1,c2,A3,c4,rfl,hmo0,hmo1,hm⟩
  exact⟨_,rfl,hm,⟨A1,c2,A3,c4,rfl,hmo0,hmo1⟩⟩)) ?_
 refine .o1 (tk rfl rfl fun _ w hn k=>(by
  obtain⟨A9,g3,g4,g5,g6,fU,fV⟩:=k.G 1 12
  exact⟨_,v_move rfl g6,⟨A9,g3,g4,g5,rfl,fU,fV⟩⟩)) ?_
 refine .o1 (tk rfl rfl fun _ w hn k=>(by
  obtain⟨g7,g8,g9,ha,hc,fW,fX⟩:=k.G 2 10
  exact⟨_,v_extract rfl hc rfl,⟨g7,g8,g9,ha,rfl,fW,fX⟩⟩)) ?_
 refine .o3 ?_
 exact .Y<| .off<| .off .nil
 refine eg1 ?_
 exact eager_takeG rfl (noG rfl) fun _ w hn k=>(by
  obtain⟨je,jf,jg,jh,hd,id,ie⟩:=k.G 2 10
  exact⟨_,fun w hS=>v_extract rfl hd rfl,rfl⟩)
 intro cD ji _ bw aQ
 obtain⟨cE,fY,fZ⟩:=aft aQ fH g2 bv bw
 have⟨hf,hg,hh⟩:=aQ.f3 cz bN bO
 obtain⟨ax,au,aL,av,bP,f0,f1⟩:=aQ.G 3 13
 have bP:cD.eval (.tmp 13)=vv (numericV v).1 ax au aL av:=bP
 have fI:=aQ.g 4 14
 obtain⟨bm,fJ,bx,bI⟩:=aQ.G 5 7
 have⟨f2,f3,f4⟩:=nw3 bw cA cB cC
 have hne59:cy ≠ bm:=by have h1:=cA.lt; have h2:=bx; omega
 have hne60:aT ≠ bm:=by have h1:=cB.lt; have h2:=bx; omega
 have hne61:aU ≠ bm:=by have h1:=cC.lt; have h2:=bx; omega
 have ig:=Nat.le_trans bv.size bx
 refine sS9 fJ bP bI fun hi cF bJ bK=>?_
 have cG:=f0.fr bI bJ
 have cH:=f1.fr bI bJ
 have cI:=bK hne59 f2
 have cJ:=bK hne60 f3
 have cK:=bK hne61 f4
 have cL:=fZ.tR bJ
 refine sP fI cE fY fun hj bz cM aw bQ=>?_
 have⟨fK,fL,fM⟩:=aw.q3 hf hg hh
 have⟨jk,jl,fN⟩:=aw.q3 bP fI fJ
 refine fT _ _ <| wk fun jm f6=>?_
 refine wk fun jn cN=>?_
 rcases bc (decide (((numericV v).2)=0)) with ab|ab
 have dN:=oT ab
 refine wA tr2 [] 41 [ve (iv ((numericV v).2)),vF] bz ?_ ?_
 exact .M bQ<| .b 0 (r_neq ab) .nil
 refine aftI bz cM cL fun jo hl cO f7 ba a8 a9=>?_
 have⟨ho,hr,hs,f8⟩:=a9.f4 fK fL fM fN
 have f9:=a9.f1 bQ
 have ga:=a9.g 1 16
 have⟨dO,bR,bS,bT⟩:=nw4 a8 cI cJ cK cF
 have⟨dP,dQ⟩:=nw2 a8 cG cH
 refine cN _ _<| wf ga<| ws ?_
 refine f6 _ _<| wk fun ih dR=>?_
 refine wp_gS (fun W=>True) (fun W W' hn h=>trivial) trivial [true,true,true,true,true,true,false,false] [4] [(6,false),(7,true)] 41
  [ve (vv u Au cu Bu du),(TP (numericV u).1 ((numericV u).2)),(TP (numericV u).1 ((numericV u).2)),(fun (v_:Value) (W:World)=>∃ (br:Option Addr) (bs:Nat) (bt:Option Addr) (bu:Nat),v_=vv (numericV u).1 br bs bt bu∧SRow W .u32 br ((numericV u).1.mag) bs∧SRow W .u16 bt ((numericV u).1.s) bu),ve (iv ((numericV u).2)),IsNew hl 29 z7,vt,vt]
  [5] (newsCons (fun v w h=>IsNew.old h) newsNil) cO (.eq (.cons (fun _ _ _ n ⟨_,_,_,_,e,h,i⟩=>⟨_,_,_,_,e,h.new_ n,i.new_ n⟩) (.cons (fun _ _ _ n ⟨_,_,_,_,e,h,i⟩=>⟨_,_,_,_,e,h.new_ n,i.new_ n⟩) (.cons (fun _ _ _ n ⟨_,_,_,_,e,h,i⟩=>⟨_,_,_,_,e,h.new_ n,i.new_ n⟩) (.eq (.nw (.tt (.tt .nil)))))))) ?_ ?_ ?_
 refine .L9 ho dO ?_
 refine .o1 (tkC rfl (noG rfl) rfl fun _ w hn k=>(by
  refine ⟨#[vv u Au cu Bu du],_,args1 (k.eq1 0 21 rfl),fun w=>by kernel_rfl,cnumeric_c u _ _ _ _ _ (hmu.new_ (ba.transNew hn)) (hsu.new_ (ba.transNew hn)) hvu,?_⟩
  rintro e w' ⟨ax,ht,hu,hv,rfl,hmo0,hmo1,hm⟩
  exact⟨_,rfl,hm,⟨ax,ht,hu,hv,rfl,hmo0,hmo1⟩⟩)) ?_
 refine .o1 (tk rfl rfl fun _ w hn k=>(by
  obtain⟨hw,hx,hy,hz,hA,gb,gc⟩:=k.G 1 22
  exact⟨_,v_move rfl hA,⟨hw,hx,hy,hz,rfl,gb,gc⟩⟩)) ?_
 refine .o1 (tk rfl rfl fun _ w hn k=>(by
  obtain⟨hC,hD,hE,hF,hG,gd,gf⟩:=k.G 2 20
  exact⟨_,v_extract rfl hG rfl,⟨hC,hD,hE,hF,rfl,gd,gf⟩⟩)) ?_
 refine .o3 ?_
 exact .Y<| .off<| .off .nil
 refine eg1 ?_
 exact eager_takeG rfl (noG rfl) fun _ w hn k=>(by
  obtain⟨jp,jq,jr,js,hH,ii,ij⟩:=k.G 2 20
  exact⟨_,fun w hS=>v_extract rfl hH rfl,rfl⟩)
 intro bL ik _ aC ak
 obtain⟨bU,dS,dT⟩:=aft ak cO f7 ba aC
 have⟨gg,gh,gi,il⟩:=ak.f4 hr hs f8 f9
 obtain⟨ai,ad,aj,ae,bA,dU,dV⟩:=ak.G 3 23
 have bA:bL.eval (.tmp 23)=vv (numericV u).1 ai ad aj ae:=bA
 have cP:=ak.g 4 24
 obtain⟨aR,cQ,bb,aV⟩:=ak.G 5 9
 have⟨dW,dX,dY⟩:=nw3 aC bR bS bT
 have hne136:aT ≠ aR:=by have h1:=bR.lt; have h2:=bb; omega
 have hne137:aU ≠ aR:=by have h1:=bS.lt; have h2:=bb; omega
 have hne138:bm ≠ aR:=by have h1:=bT.lt; have h2:=bb; omega
 have hI:=Nat.le_trans ba.size bb
 have⟨dZ,d0⟩:=nw2 aC dP dQ
 refine sS9 cQ bA aV fun gj bV aW bB=>?_
 have bW:=dZ.fr aV aW
 have bX:=d0.fr aV aW
 have bY:=dU.fr aV aW
 have bZ:=dV.fr aV aW
 have b0:=bB hne136 dW
 have b1:=bB hne137 dX
 have b2:=bB hne138 dY
 have b3:=dT.tR aW
 refine sP cP bU dS fun gk bd b4 af bC=>?_
 have⟨cT,cU,cV⟩:=af.q3 gg gh gi
 have⟨io,ip,cW⟩:=af.q3 bA cP cQ
 refine dR _ _ <| wk fun iq d2=>?_
 refine wb<| wk fun ir b5=>?_
 rcases bc (decide (((numericV u).2)=0)) with aa|aa
 have cX:=oT aa
 refine wA tr3 [] 41 [ve (iv ((numericV u).2)),vF,vF] bd ?_ ?_
 exact .M bC<| .b 0 (r_neq aa)<| .B 1 .nil
 refine aftI bd b4 b3 fun it iu be b6 b7 al aD=>?_
 have⟨cY,cZ,bD,bE⟩:=aD.f4 cT cU cV cW
 have iw:=aD.f1 bC
 have gl:=aD.g 2 25
 have⟨b8,b9,bf,bg⟩:=nw4 al b0 b1 b2 bV
 have⟨ca,cb,cc,cd⟩:=nw4 al bW bX bY bZ
 refine b5 _ _<| wf gl<| wk fun ix ce=>?_
 rcases bc (decide (((numericV v).1.k)=((numericV u).1.k))) with ac|ac
 have c0:=oT ac
 refine wA tr6 [] 41 [ve (pv bm),ve (iv ((numericV v).1.k)),ve (pv aR),ve (iv ((numericV u).1.k)),vF,vF] be ?_ ?_
 exact .F bD<| .J 0 isAgg3 bf<| .F bE<| .J 2 isAgg3 bg<| .T (fun k=>v_bin rfl (k.eq1 1 33 rfl) (k.eq1 3 35 rfl) (fun _=>rfl) (r_neq ac))<| .B 4 .nil
 refine aftI be b6 b7 fun iy iz cf d3 d4 am aX=>?_
 have⟨gm,gn,go,gp⟩:=aX.f4 cY cZ bD bE
 have gq:=aX.g 5 31
 have⟨d5,d6,d7,ch⟩:=nw4 am b8 b9 bf bg
 have⟨d8,d9,ea,eb⟩:=nw4 am ca cb cc cd
 refine ce _ _<| wf gq<| ws ?_
 refine d2 _ _<| wk fun iA ec=>?_
 refine wp_gS (fun W=>Blk W aR 29 (c7 (numericV u).1 ai ad aj ae)∧True) (fun W W' hn h=>⟨Blk.new_ h.1 hn,trivial⟩) ⟨ch,trivial⟩ [true,true,false,false,false] [1] [(2,false),(3,false),(4,true)] 41
  [ve (vv (numericV v).1 ax au aL av),ve (vv (numericV u).1 ai ad aj ae),vt,vt,vt]
  [] newsNil cf (.eq (.eq (.tt (.tt (.tt .nil))))) ?_ ?_ ?_
 refine .L9 go d7 ?_
 refine .o3 ?_
 exact .off<| .off<| .off .nil
 refine eg1 ?_
 exact eager_takeG rfl (noG rfl) fun _ w hn k=>(by
  exact⟨_,fun w hS=>v_load rfl (k.fx 9 gp) (l_agg isAgg29 sizeOf29 hS.1 rfl),rfl⟩)
 intro c1 iB _ an aY
 obtain⟨ci,ed,ee⟩:=aft aY cf d3 d4 an
 have⟨c3,c5⟩:=aY.f2 gm gn
 have c9:=aY.g 0 39
 have da:=aY.g 1 40
 have⟨aZ,ef,cj,eg⟩:=nw4 an d5 d6 ch d8
 have⟨eh,ei,ej⟩:=nw3 an d9 ea eb
 obtain⟨gr,db,dc,a1,bF⟩:=s_many (P:=prog) (t:=29) (i:=0) (c7 (numericV v).1 ax au aL av) sizeOf29 rfl rfl rfl aZ lb
 have ek:Blk gr aT 29 (c7 (numericV v).1 ax au aL av):=dc
 refine st_act rfl rfl fun iC el=>a_store' rfl c3 c9 db (el _ _ ⟨(bF _ _ _ (fun h=>hne136 h.symm) cj),trivial⟩ ?_)
 have em:=eg.fr aZ a1
 have en:=eh.fr aZ a1
 have eo:=ei.fr aZ a1
 have ep:=ej.fr aZ a1
 have a3:=bF _ _ _ (fun h=>hne28 h.symm) ef
 have cl:=bF _ _ _ (fun h=>hne136 h.symm) cj
 have er:=ee.tR a1
 obtain⟨gs,dd,de,a4,bG⟩:=s_many (P:=prog) (t:=29) (i:=0) (c7 (numericV u).1 ai ad aj ae) sizeOf29 rfl rfl rfl a3 lb
 have es:Blk gs aU 29 (c7 (numericV u).1 ai ad aj ae):=de
 refine st_act rfl rfl fun iD et=>a_store' rfl c5 da dd (et _ _ ⟨(bG _ _ _ (fun h=>hne137 h.symm) cl),trivial⟩ ?_)
 have eu:=em.fr a3 a4
 have ev:=en.fr a3 a4
 have ew:=eo.fr a3 a4
 have ex:=ep.fr a3 a4
 have ey:=bG _ _ _ (hne28) ek
 have hJ:=bG _ _ _ (fun h=>hne137 h.symm) cl
 have ez:=er.tR a4
 refine sP (v:=iv 0) rfl ci ed fun gt hK eA ao gw=>?_
 have⟨gu,gv,iE⟩:=ao.q3 c3 c5 c9
 have iF:=ao.q da
 refine ec _ _<| wp_ret (ret_k eA (v:=.tuple #[vv (numericV v).1 ax au aL av,vv (numericV u).1 ai ad aj ae,iv 0]) (res_cct rfl gu gv gw (l_agg isAgg29 sizeOf29 ey rfl) (l_agg isAgg29 sizeOf29 es rfl)) ?_)
 have ay:(numericsV v u).1.mag=(numericV v).1.mag:=by first|rfl|(simp only [numericsV,Vl.z,ab,aa,ac,bsm] <;> rfl)|(exfalso; omega)
 have az:(numericsV v u).1.s=(numericV v).1.s:=by first|rfl|(simp only [numericsV,Vl.z,ab,aa,ac,bsm] <;> rfl)|(exfalso; omega)
 have aA:(numericsV v u).2.1.mag=(numericV u).1.mag:=by first|rfl|(simp only [numericsV,Vl.z,ab,aa,ac,bsm] <;> rfl)|(exfalso; omega)
 have aB:(numericsV v u).2.1.s=(numericV u).1.s:=by first|rfl|(simp only [numericsV,Vl.z,ab,aa,ac,bsm] <;> rfl)|(exfalso; omega)
 exact⟨ax,au,aL,av,ai,ad,aj,ae,(by show Ending.returned (.tuple #[vv (numericV v).1 ax au aL av,vv (numericV u).1 ai ad aj ae,iv 0])=Ending.returned (.tuple #[vv (numericsV v u).1 ax au aL av,vv (numericsV v u).2.1 ai ad aj ae,iv ((numericsV v u).2.2)]); (first|rfl|(simp only [numericsV,Vl.z,ab,aa,ac,ay,az,aA,aB,bsm] <;> rfl)|(exfalso; omega))),(by rw [ay]; exact eu),(by rw [az]; exact ev),(by rw [aA]; exact ew),(by rw [aB]; exact ex),ez⟩
 have c0:=oF ac
 refine wA tr6 [] 41 [ve (pv bm),ve (iv ((numericV v).1.k)),ve (pv aR),ve (iv ((numericV u).1.k)),vT,vT] be ?_ ?_
 exact .F bD<| .J 0 isAgg3 bf<| .F bE<| .J 2 isAgg3 bg<| .T (fun k=>v_bin rfl (k.eq1 1 33 rfl) (k.eq1 3 35 rfl) (fun _=>rfl) (r_neq ac))<| .B 4 .nil
 refine aftI be b6 b7 fun iG iH cm eB eC ap a5=>?_
 have⟨gx,gy,iI,iJ⟩:=a5.f4 cY cZ bD bE
 have gz:=a5.g 5 31
 have⟨eD,eE,hL,hM⟩:=nw4 ap b8 b9 bf bg
 have⟨hN,hO,hP,hQ⟩:=nw4 ap ca cb cc cd
 refine ce _ _<| wt gz<| wk fun iK eF=>?_
 refine wB [true,true,false,false,false] [1] [(2,false),(3,false),(4,true)] 41 [ve (vv (Vl.mk 0 0 0 false [] [] 0) none 0 none 0),ve (vv (Vl.mk 0 0 0 false [] [] 0) none 0 none 0),vt,vt,vt] [] cm ?_ ?_ ?_
 refine .Z ?_
 refine .o3 ?_
 exact .off<| .off<| .off .nil
 refine eg1 ?_
 exact eager_take rfl rfl fun _ w hn k=>⟨vv (Vl.mk 0 0 0 false [] [] 0) none 0 none 0,fun w=>v_build (ps:=[]) rfl parts0 (by kernel_rfl),rfl⟩
 refine aftI cm eB eC fun df iL cn eG eH co bh=>?_
 have⟨dg,dh⟩:=bh.f2 gx gy
 have di:=bh.g 0 37
 have dj:=bh.g 1 38
 have⟨eI,eJ⟩:=nw2 co eD eE
 refine sS9 dg di eI fun gA eM eK eL=>?_
 have eO:=eL hne28.symm eJ
 have eP:=eH.tR eK
 refine sS9 dh dj eO fun gB eS eQ eR=>?_
 have eU:=eR hne28 eM
 have eV:=eP.tR eQ
 refine sP (v:=iv 1) rfl cn eG fun gC hR eW aq gF=>?_
 have⟨gD,gE,iO⟩:=aq.q3 dg dh di
 have iP:=aq.q dj
 refine eF _ _<| wp_ret (ret_k eW (v:=.tuple #[vv (Vl.mk 0 0 0 false [] [] 0) none 0 none 0,vv (Vl.mk 0 0 0 false [] [] 0) none 0 none 0,iv 1]) (res_cct rfl gD gE gF (l_agg isAgg29 sizeOf29 eU rfl) (l_agg isAgg29 sizeOf29 eS rfl)) ?_)
 have ay:(numericsV v u).1.mag=[]:=by first|rfl|(simp only [numericsV,Vl.z,ab,aa,ac,bsm] <;> rfl)|(exfalso; omega)
 have az:(numericsV v u).1.s=[]:=by first|rfl|(simp only [numericsV,Vl.z,ab,aa,ac,bsm] <;> rfl)|(exfalso; omega)
 have aA:(numericsV v u).2.1.mag=[]:=by first|rfl|(simp only [numericsV,Vl.z,ab,aa,ac,bsm] <;> rfl)|(exfalso; omega)
 have aB:(numericsV v u).2.1.s=[]:=by first|rfl|(simp only [numericsV,Vl.z,ab,aa,ac,bsm] <;> rfl)|(exfalso; omega)
 exact⟨none,0,none,0,none,0,none,0,(by show Ending.returned (.tuple #[vv (Vl.mk 0 0 0 false [] [] 0) none 0 none 0,vv (Vl.mk 0 0 0 false [] [] 0) none 0 none 0,iv 1])=Ending.returned (.tuple #[vv (numericsV v u).1 none 0 none 0,vv (numericsV v u).2.1 none 0 none 0,iv ((numericsV v u).2.2)]); (first|rfl|(simp only [numericsV,Vl.z,ab,aa,ac,ay,az,aA,aB,bsm] <;> rfl)|(exfalso; omega))),(by rw [ay]; exact (SRow.nil _ _)),(by rw [az]; exact (SRow.nil _ _)),(by rw [aA]; exact (SRow.nil _ _)),(by rw [aB]; exact (SRow.nil _ _)),eV⟩
 have cX:=oF aa
 refine wA tr3 [] 41 [ve (iv ((numericV u).2)),vT,vT] bd ?_ ?_
 exact .M bC<| .b 0 (r_neq aa)<| .B 1 .nil
 refine aftI bd b4 b3 fun iQ iR cp eX eY ar aE=>?_
 have⟨gG,gH,iS,iT⟩:=aE.f4 cT cU cV cW
 have gI:=aE.f1 bC
 have gJ:=aE.g 2 25
 have⟨eZ,e0,hT,hU⟩:=nw4 ar b0 b1 b2 bV
 have⟨hV,hW,hX,hY⟩:=nw4 ar bW bX bY bZ
 refine b5 _ _<| wt gJ<| wk fun iU e1=>?_
 refine wB [true,true,true,false,false,false] [1,2] [(3,false),(4,false),(5,true)] 41 [ve (vv (Vl.mk 0 0 0 false [] [] 0) none 0 none 0),ve (vv (Vl.mk 0 0 0 false [] [] 0) none 0 none 0),ve (iv ((numericV u).2)),vt,vt,vt] [] cp ?_ ?_ ?_
 refine .Z ?_
 refine .o3 ?_
 refine .o3 ?_
 exact .off<| .off<| .off .nil
 refine eg2 ?_ ?_
 exact eager_take rfl rfl fun _ w hn k=>⟨vv (Vl.mk 0 0 0 false [] [] 0) none 0 none 0,fun w=>v_build (ps:=[]) rfl parts0 (by kernel_rfl),rfl⟩
 exact eager_take rfl rfl fun _ w hn k=>⟨iv ((numericV u).2),fun w=>v_move rfl (k.fx 8 gI),rfl⟩
 refine aftI cp eX eY fun dp iV cq e2 e3 cr a6=>?_
 have⟨dq,dr⟩:=a6.f2 gG gH
 have ds:=a6.g 0 28
 have dt:=a6.g 1 29
 have dw:=a6.g 2 30
 have⟨e4,e5⟩:=nw2 cr eZ e0
 refine sS9 dq ds e4 fun gK e8 e6 e7=>?_
 have fa:=e7 hne28.symm e5
 have fb:=e3.tR e6
 refine sS9 dr dt fa fun gL fe fc fd=>?_
 have fg:=fd hne28 e8
 have fh:=fb.tR fc
 refine sP dw cq e2 fun gM hZ fi ag gP=>?_
 have⟨gN,gO,iY⟩:=ag.q3 dq dr ds
 have⟨iZ,i0⟩:=ag.q2 dt dw
 refine e1 _ _<| wp_ret (ret_k fi (v:=.tuple #[vv (Vl.mk 0 0 0 false [] [] 0) none 0 none 0,vv (Vl.mk 0 0 0 false [] [] 0) none 0 none 0,iv ((numericV u).2)]) (res_cct rfl gN gO gP (l_agg isAgg29 sizeOf29 fg rfl) (l_agg isAgg29 sizeOf29 fe rfl)) ?_)
 have ay:(numericsV v u).1.mag=[]:=by first|rfl|(simp only [numericsV,Vl.z,ab,aa,bsm] <;> rfl)|(exfalso; omega)
 have az:(numericsV v u).1.s=[]:=by first|rfl|(simp only [numericsV,Vl.z,ab,aa,bsm] <;> rfl)|(exfalso; omega)
 have aA:(numericsV v u).2.1.mag=[]:=by first|rfl|(simp only [numericsV,Vl.z,ab,aa,bsm] <;> rfl)|(exfalso; omega)
 have aB:(numericsV v u).2.1.s=[]:=by first|rfl|(simp only [numericsV,Vl.z,ab,aa,bsm] <;> rfl)|(exfalso; omega)
 exact⟨none,0,none,0,none,0,none,0,(by show Ending.returned (.tuple #[vv (Vl.mk 0 0 0 false [] [] 0) none 0 none 0,vv (Vl.mk 0 0 0 false [] [] 0) none 0 none 0,iv ((numericV u).2)])=Ending.returned (.tuple #[vv (numericsV v u).1 none 0 none 0,vv (numericsV v u).2.1 none 0 none 0,iv ((numericsV v u).2.2)]); (first|rfl|(simp only [numericsV,Vl.z,ab,aa,ay,az,aA,aB,bsm] <;> rfl)|(exfalso; omega))),(by rw [ay]; exact (SRow.nil _ _)),(by rw [az]; exact (SRow.nil _ _)),(by rw [aA]; exact (SRow.nil _ _)),(by rw [aB]; exact (SRow.nil _ _)),fh⟩
 have dN:=oF ab
 refine wA tr2 [] 41 [ve (iv ((numericV v).2)),vT] bz ?_ ?_
 exact .M bQ<| .b 0 (r_neq ab) .nil
 refine aftI bz cM cL fun i1 i2 ct fj fk aF aG=>?_
 have⟨i3,gQ,gR,i4⟩:=aG.f4 fK fL fM fN
 have gS:=aG.f1 bQ
 have gT:=aG.g 1 16
 have⟨h3,fl,fm,h4⟩:=nw4 aF cI cJ cK cF
 have⟨h5,h6⟩:=nw2 aF cG cH
 refine cN _ _<| wt gT<| wk fun i5 fn=>?_
 refine wB [true,true,true,false,false,false] [1,2] [(3,false),(4,false),(5,true)] 41 [ve (vv (Vl.mk 0 0 0 false [] [] 0) none 0 none 0),ve (vv (Vl.mk 0 0 0 false [] [] 0) none 0 none 0),ve (iv ((numericV v).2)),vt,vt,vt] [] ct ?_ ?_ ?_
 refine .Z ?_
 refine .o3 ?_
 refine .o3 ?_
 exact .off<| .off<| .off .nil
 refine eg2 ?_ ?_
 exact eager_take rfl rfl fun _ w hn k=>⟨vv (Vl.mk 0 0 0 false [] [] 0) none 0 none 0,fun w=>v_build (ps:=[]) rfl parts0 (by kernel_rfl),rfl⟩
 exact eager_take rfl rfl fun _ w hn k=>⟨iv ((numericV v).2),fun w=>v_move rfl (k.fx 8 gS),rfl⟩
 refine aftI ct fj fk fun dB i6 cw fo fp cx a7=>?_
 have⟨dC,dD⟩:=a7.f2 gQ gR
 have dE:=a7.g 0 17
 have dF:=a7.g 1 18
 have dG:=a7.g 2 19
 have⟨fq,fs⟩:=nw2 cx fl fm
 refine sS9 dC dE fq fun gU fv ft fu=>?_
 have fy:=fu hne28.symm fs
 have fz:=fp.tR ft
 refine sS9 dD dF fy fun gV fC fA fB=>?_
 have fE:=fB hne28 fv
 have fF:=fz.tR fA
 refine sP dG cw fo fun gW h7 fG ah gZ=>?_
 have⟨gX,gY,i9⟩:=ah.q3 dC dD dE
 have⟨ja,jb⟩:=ah.q2 dF dG
 refine fn _ _<| wp_ret (ret_k fG (v:=.tuple #[vv (Vl.mk 0 0 0 false [] [] 0) none 0 none 0,vv (Vl.mk 0 0 0 false [] [] 0) none 0 none 0,iv ((numericV v).2)]) (res_cct rfl gX gY gZ (l_agg isAgg29 sizeOf29 fE rfl) (l_agg isAgg29 sizeOf29 fC rfl)) ?_)
 have ay:(numericsV v u).1.mag=[]:=by first|rfl|(simp only [numericsV,Vl.z,ab,bsm] <;> rfl)|(exfalso; omega)
 have az:(numericsV v u).1.s=[]:=by first|rfl|(simp only [numericsV,Vl.z,ab,bsm] <;> rfl)|(exfalso; omega)
 have aA:(numericsV v u).2.1.mag=[]:=by first|rfl|(simp only [numericsV,Vl.z,ab,bsm] <;> rfl)|(exfalso; omega)
 have aB:(numericsV v u).2.1.s=[]:=by first|rfl|(simp only [numericsV,Vl.z,ab,bsm] <;> rfl)|(exfalso; omega)
 exact⟨none,0,none,0,none,0,none,0,(by show Ending.returned (.tuple #[vv (Vl.mk 0 0 0 false [] [] 0) none 0 none 0,vv (Vl.mk 0 0 0 false [] [] 0) none 0 none 0,iv ((numericV v).2)])=Ending.returned (.tuple #[vv (numericsV v u).1 none 0 none 0,vv (numericsV v u).2.1 none 0 none 0,iv ((numericsV v u).2.2)]); (first|rfl|(simp only [numericsV,Vl.z,ab,ay,az,aA,aB,bsm] <;> rfl)|(exfalso; omega))),(by rw [ay]; exact (SRow.nil _ _)),(by rw [az]; exact (SRow.nil _ _)),(by rw [aA]; exact (SRow.nil _ _)),(by rw [aB]; exact (SRow.nil _ _)),fF⟩
theorem big_in {w:World} {b:Bool} {A:Option Addr} {m:List Nat} {c:Nat} (hr:SRow w .u32 A m c) (hl:Limbs m):BigAt w (.agg #[.bool b,sv A m c]) (goodI b m):=⟨b,_,m,rfl,hr,hl,rfl⟩
theorem text_len {v:Vl} (h:VOk v):(textV v).1.length≤20000:=by
  have h1:=textM_size (cleanV v).num
  have h2:=textI_size (b:=(cleanV v).neg) h.clean.limbs
  have h3:=h.clean.slen
  unfold textV
  repeat' split
  all_goals first|exact h3|exact Nat.zero_le _|(show (asc _).length≤20000; rw [asc_len]; first|(show (_:Nat)≤_; decide)|(show (_:Nat)≤_; omega))
theorem bText_c (a:Bool) (Aa:Option Addr) (ma:List Nat) (ca:Nat) (w:World) (hra:SRow w .u32 Aa ma ca) (ha:Limbs ma):Calls Tryz.prog 141 #[.agg #[.bool a,sv Aa ma ca]] w (IsRet (.string (strOfNums (textI (goodI a ma)))) w):=text_any _ _ w (big_in hra ha)
def ctext_c_P (v:Vl) (Av:Option Addr) (cv:Nat) (Bv:Option Addr) (dv:Nat) (w:World) (en:Ending) (w':World):Prop:=∃ (Ar0:Option Addr) (cr0:Nat),en=.returned (.tuple #[sv Ar0 ((textV v).1) cr0,iv ((textV v).2)])∧SOwn w' w.heap.size 74 .u16 Ar0 ((textV v).1) cr0∧New w w'
theorem ctext_c (v:Vl) (Av:Option Addr) (cv:Nat) (Bv:Option Addr) (dv:Nat) (w:World) (hmv:SRow w .u32 Av v.mag cv) (hsv:SRow w .u16 Bv v.s dv) (hvv:VOk v) (HT:ItoaOk w):Calls prog 73 #[vv v Av cv Bv dv] w (ctext_c_P v Av cv Bv dv w):=by
 refine enter_abs func73 rfl fun a0 bh eh hp=>?_
 have bh:a0.tmps.size=38:=bh
 have de:New w w:=Upd.refl _ _
 have hp0:a0.eval (.tmp 0)=vv v Av cv Bv dv:=hp 0 _ rfl
 have hm:=hvv.clean.mlen
 have hsl:=hvv.clean.slen
 have hz1:(textM (Nm.mk (cleanV v).nk (cleanV v).nn)).size≤21:=textM_size (cleanV v).num
 have hz2:=textI_size (b:=(cleanV v).neg) hvv.clean.limbs
 refine wk fun K1 ei=>?_
 refine wB tr3 [] [] 38 [IsNew w 29 (c7 v Av cv Bv dv),ve (sv none ([]) 0),ve (iv 0)] [0] bh ?_ heN ?_
 exact .X hp0<| .c<| .c .nil
 refine aftI bh eh de fun a2 w3 df ej aY gh ek=>?_
 obtain⟨q9,h8,dl,bD⟩:=ek.G 0 1
 have fL:=Nat.le_trans de.size dl
 refine ei _ _ <| wk fun gi dm=>?_
 refine wp_g0 [true,true,false] [(2,false)] 38
  [ve (vv v Av cv Bv dv),
  (VP (cleanV v)),vt] df (.eq (.cons (fun _ _ _ n ⟨_,_,_,_,e,h,i⟩=>⟨_,_,_,_,e,h.new_ n,i.new_ n⟩) (.tt .nil))) ?_ ?_
 refine .L9 h8 bD ?_
 refine .o1 (tkC rfl (noG rfl) rfl fun _ w hn k=>(by
  refine ⟨#[vv v Av cv Bv dv],_,args1 (k.eq1 0 4 rfl),fun w=>by kernel_rfl,clean_c v _ _ _ _ _ (hmv.new_ (aY.transNew hn)) (hsv.new_ (aY.transNew hn)),?_⟩
  rintro e w' ⟨A1,c2,A3,c4,rfl,hmo0,hmo1,hm⟩
  exact⟨_,rfl,hm,⟨A1,c2,A3,c4,rfl,hmo0,hmo1⟩⟩)) ?_
 exact .off .nil
 refine aftI df ej aY fun el gj bE dn dp dq bF=>?_
 have bG:=bF.f1 h8
 obtain⟨aW,ay,az,aA,bH,dr,ds⟩:=bF.G 1 5
 have bH:el.eval (.tmp 5)=vv (cleanV v) aW ay az aA:=bH
 have aZ:=bD.new_ dq
 refine sS9 bG bH aZ fun em bI a1 fM=>?_
 have du:=dr.fr aZ a1
 have dw:=ds.fr aZ a1
 have dx:=dp.tR a1
 refine dm _ _ <| wk fun gl dy=>?_
 refine wk fun gm dz=>?_
 refine wA tr2 [] 38 [ve (pv q9),ve (iv ((cleanV v).k))] bE ?_ ?_
 exact .F bG<| .J 0 isAgg3 bI .nil
 refine aftI bE dn dx fun gn go bJ dA dB a3 bK=>?_
 have en:=bK.f1 bG
 have dg:=bK.g 1 7
 have⟨dC,dD,dE⟩:=nw3 a3 bI du dw
 refine dz _ _<| wb<| wk fun gp dF=>?_
 refine wA tr2 [] 38 [ve (.bool (decide (((cleanV v).k)=0))),ve (.bool (decide (((cleanV v).k)=0)))] bJ ?_ ?_
 exact .H dg (r_eql rfl)<| .B 0 .nil
 refine aftI bJ dA dB fun gq bi aI bL a4 a5 a6=>?_
 have⟨eo,dh⟩:=a6.f2 en dg
 have di:=a6.g 1 8
 have⟨dG,dH,dI⟩:=nw3 a5 dC dD dE
 refine dF _ _ ?_
 rcases bc (decide (((cleanV v).k)=0)) with ac|ac
 have b7:=oT ac
 have dJ:=hB di ac
 refine wt dJ<| wk fun gr dK=>?_
 refine wp_g0 [true,true,true] [] 38
  [(OP bi.heap.size 74 .u16 (asc ⟨#[117,110,100,101,102,105,110,101,100]⟩)),
  (OP bi.heap.size 74 .u16 (asc ⟨#[117,110,100,101,102,105,110,101,100]⟩)),ve (iv 0)] aI (.cons (fun _ _ _ n ⟨_,_,e,h⟩=>⟨_,_,e,h.new_ n⟩) (.cons (fun _ _ _ n ⟨_,_,e,h⟩=>⟨_,_,e,h.new_ n⟩) (.eq .nil))) ?_ ?_
 refine .o1 (tkC rfl (noG rfl) rfl fun _ w hn k=>(by
  refine ⟨#[.string ⟨#[117,110,100,101,102,105,110,101,100]⟩],_,args1 rfl,fun w=>by kernel_rfl,ascii_c ⟨#[117,110,100,101,102,105,110,101,100]⟩ _ (by first|omega|(show (_:Nat)≤_; decide)),?_⟩
  rintro e w' ⟨eu,ev,rfl,hmo0,hm⟩
  exact⟨_,rfl,hm,⟨eu,ev,rfl,(hmo0.more hn.size)⟩⟩)) ?_
 refine .o1 (tk rfl rfl fun _ w hn k=>(by
  obtain⟨ew,ex,ey,dL⟩:=k.G 0 10
  exact⟨_,v_assign rfl ey,⟨ew,ex,rfl,dL⟩⟩)) ?_
 exact .c .nil
 refine aftI aI bL a4 fun ez gs fN dM dN fO bM=>?_
 obtain⟨aX,aB,bN,dO⟩:=bM.G 1 2
 have bN:ez.eval (.tmp 2)=sv aX (asc ⟨#[117,110,100,101,102,105,110,101,100]⟩) aB:=bN
 have eA:=bM.g 2 3
 have dP:=dO.more a4.size
 refine dK _ _<| wp_ret (ret_k dM (v:=.tuple #[sv aX (asc ⟨#[117,110,100,101,102,105,110,101,100]⟩) aB,iv 0]) (res_tt rfl bN eA _) ?_)
 have ad:(textV v).1=(asc ⟨#[117,110,100,101,102,105,110,101,100]⟩):=by first|rfl|(simp only [textV,ac,bsm] <;> rfl)|(exfalso; omega)
 exact⟨aX,aB,(by show Ending.returned (.tuple #[sv aX (asc ⟨#[117,110,100,101,102,105,110,101,100]⟩) aB,iv 0])=Ending.returned (.tuple #[sv aX ((textV v).1) aB,iv ((textV v).2)]); (first|rfl|(simp only [textV,ac,ad,bsm] <;> rfl)|(exfalso; omega))),(by rw [ad]; exact dP),dN⟩
 have b7:=oF ac
 have dQ:=hB di ac
 refine wf dQ<| wk fun gt dR=>?_
 refine wA tr2 [] 38 [ve (.bool (decide (((cleanV v).k)=1))),ve (.bool (decide (((cleanV v).k)=1)))] aI ?_ ?_
 exact .H dh (r_eql rfl)<| .B 0 .nil
 refine aftI aI bL a4 fun gu bj aJ bO a7 a8 a9=>?_
 have⟨eB,dj⟩:=a9.f2 eo dh
 have dk:=a9.g 1 11
 have⟨dS,dT,dU⟩:=nw3 a8 dG dH dI
 refine dR _ _ ?_
 rcases bc (decide (((cleanV v).k)=1)) with aa|aa
 have bP:=oT aa
 have b8:=hB dk aa
 refine wt b8<| wk fun fP b9=>?_
 refine wp_g0 [true,true,true] [] 38
  [(OP bj.heap.size 74 .u16 (asc ⟨#[110,117,108,108]⟩)),
  (OP bj.heap.size 74 .u16 (asc ⟨#[110,117,108,108]⟩)),ve (iv 0)] aJ (.cons (fun _ _ _ n ⟨_,_,e,h⟩=>⟨_,_,e,h.new_ n⟩) (.cons (fun _ _ _ n ⟨_,_,e,h⟩=>⟨_,_,e,h.new_ n⟩) (.eq .nil))) ?_ ?_
 refine .o1 (tkC rfl (noG rfl) rfl fun _ w hn k=>(by
  refine ⟨#[.string ⟨#[110,117,108,108]⟩],_,args1 rfl,fun w=>by kernel_rfl,ascii_c ⟨#[110,117,108,108]⟩ _ (by first|omega|(show (_:Nat)≤_; decide)),?_⟩
  rintro e w' ⟨az,eG,rfl,hmo0,hm⟩
  exact⟨_,rfl,hm,⟨az,eG,rfl,(hmo0.more hn.size)⟩⟩)) ?_
 refine .o1 (tk rfl rfl fun _ w hn k=>(by
  obtain⟨eH,eI,eJ,dV⟩:=k.G 0 13
  exact⟨_,v_assign rfl eJ,⟨eH,eI,rfl,dV⟩⟩)) ?_
 exact .c .nil
 refine aftI aJ bO a7 fun dW fQ fu ca cb fv bk=>?_
 obtain⟨aC,aj,ba,cc⟩:=bk.G 1 2
 have ba:dW.eval (.tmp 2)=sv aC (asc ⟨#[110,117,108,108]⟩) aj:=ba
 have dX:=bk.g 2 3
 have cd:=cc.more a7.size
 refine b9 _ _<| wp_ret (ret_k ca (v:=.tuple #[sv aC (asc ⟨#[110,117,108,108]⟩) aj,iv 0]) (res_tt rfl ba dX _) ?_)
 have ad:(textV v).1=(asc ⟨#[110,117,108,108]⟩):=by first|rfl|(simp only [textV,ac,aa,bsm] <;> rfl)|(exfalso; omega)
 exact⟨aC,aj,(by show Ending.returned (.tuple #[sv aC (asc ⟨#[110,117,108,108]⟩) aj,iv 0])=Ending.returned (.tuple #[sv aC ((textV v).1) aj,iv ((textV v).2)]); (first|rfl|(simp only [textV,ac,aa,ad,bsm] <;> rfl)|(exfalso; omega))),(by rw [ad]; exact cd),cb⟩
 have bP:=oF aa
 have ce:=hB dk aa
 refine wf ce<| wk fun fR cf=>?_
 refine wA tr2 [] 38 [ve (.bool (decide (((cleanV v).k)=2))),ve (.bool (decide (((cleanV v).k)=2)))] aJ ?_ ?_
 exact .H dj (r_eql rfl)<| .B 0 .nil
 refine aftI aJ bO a7 fun fS fT ap bl bm aK aL=>?_
 have⟨bQ,bR⟩:=aL.f2 eB dj
 have bS:=aL.g 1 14
 have⟨bn,ch,ci⟩:=nw3 aK dS dT dU
 refine cf _ _ ?_
 rcases bc (decide (((cleanV v).k)=2)) with ab|ab
 have bT:=oT ab
 have cj:=hB bS ab
 refine wt cj<| wk fun fU cl=>wk fun fV cm=>?_
 refine wA tr3 [] 38 [ve (.pointer (some ⟨q9,6,none⟩)),ve (iv ((cleanV v).ref)),ve (.bool (decide (((cleanV v).ref)=1)))] ap ?_ ?_
 exact .F bQ<| .J 0 isAgg3 bn<| .b 1 (r_eql rfl) .nil
 refine aftI ap bl bm fun fW ai aq bo ar fw cn=>?_
 have bU:=cn.g 2 18
 refine cm _ _ ?_
 rcases bc (decide (((cleanV v).ref)=1)) with ag|ag
 have bV:=oT ag
 have co:=hB bU ag
 refine wt co<| wk fun fX cp=>?_
 refine wp_g0 [true,true,true] [] 38
  [(OP ai.heap.size 74 .u16 (asc ⟨#[116,114,117,101]⟩)),
  (OP ai.heap.size 74 .u16 (asc ⟨#[116,114,117,101]⟩)),ve (iv 0)] aq (.cons (fun _ _ _ n ⟨_,_,e,h⟩=>⟨_,_,e,h.new_ n⟩) (.cons (fun _ _ _ n ⟨_,_,e,h⟩=>⟨_,_,e,h.new_ n⟩) (.eq .nil))) ?_ ?_
 refine .o1 (tkC rfl (noG rfl) rfl fun _ w hn k=>(by
  refine ⟨#[.string ⟨#[116,114,117,101]⟩],_,args1 rfl,fun w=>by kernel_rfl,ascii_c ⟨#[116,114,117,101]⟩ _ (by first|omega|(show (_:Nat)≤_; decide)),?_⟩
  rintro e w' ⟨eO,eP,rfl,hmo0,hm⟩
  exact⟨_,rfl,hm,⟨eO,eP,rfl,(hmo0.more hn.size)⟩⟩)) ?_
 refine .o1 (tk rfl rfl fun _ w hn k=>(by
  obtain⟨eQ,eR,eS,dY⟩:=k.G 0 19
  exact⟨_,v_assign rfl eS,⟨eQ,eR,rfl,dY⟩⟩)) ?_
 exact .c .nil
 refine aftI aq bo ar fun dZ fY fy cq cr fz bp=>?_
 obtain⟨aD,ak,bb,ct⟩:=bp.G 1 2
 have bb:dZ.eval (.tmp 2)=sv aD (asc ⟨#[116,114,117,101]⟩) ak:=bb
 have d0:=bp.g 2 3
 have cu:=ct.more ar.size
 refine cp _ _<| wp_ret (ret_k cq (v:=.tuple #[sv aD (asc ⟨#[116,114,117,101]⟩) ak,iv 0]) (res_tt rfl bb d0 _) ?_)
 have ad:(textV v).1=(asc ⟨#[116,114,117,101]⟩):=by first|rfl|(simp only [textV,ac,aa,ab,ag,bsm] <;> rfl)|(exfalso; omega)
 exact⟨aD,ak,(by show Ending.returned (.tuple #[sv aD (asc ⟨#[116,114,117,101]⟩) ak,iv 0])=Ending.returned (.tuple #[sv aD ((textV v).1) ak,iv ((textV v).2)]); (first|rfl|(simp only [textV,ac,aa,ab,ag,ad,bsm] <;> rfl)|(exfalso; omega))),(by rw [ad]; exact cu),cr⟩
 have bV:=oF ag
 have cw:=hB bU ag
 refine wf cw<| ws<| cl _ _<| wk fun fZ cx=>?_
 refine wp_g0 [true,true,true] [] 38
  [(OP ai.heap.size 74 .u16 (asc ⟨#[102,97,108,115,101]⟩)),
  (OP ai.heap.size 74 .u16 (asc ⟨#[102,97,108,115,101]⟩)),ve (iv 0)] aq (.cons (fun _ _ _ n ⟨_,_,e,h⟩=>⟨_,_,e,h.new_ n⟩) (.cons (fun _ _ _ n ⟨_,_,e,h⟩=>⟨_,_,e,h.new_ n⟩) (.eq .nil))) ?_ ?_
 refine .o1 (tkC rfl (noG rfl) rfl fun _ w hn k=>(by
  refine ⟨#[.string ⟨#[102,97,108,115,101]⟩],_,args1 rfl,fun w=>by kernel_rfl,ascii_c ⟨#[102,97,108,115,101]⟩ _ (by first|omega|(show (_:Nat)≤_; decide)),?_⟩
  rintro e w' ⟨eX,eY,rfl,hmo0,hm⟩
  exact⟨_,rfl,hm,⟨eX,eY,rfl,(hmo0.more hn.size)⟩⟩)) ?_
 refine .o1 (tk rfl rfl fun _ w hn k=>(by
  obtain⟨eZ,e0,e1,d1⟩:=k.G 0 20
  exact⟨_,v_assign rfl e1,⟨eZ,e0,rfl,d1⟩⟩)) ?_
 exact .c .nil
 refine aftI aq bo ar fun d2 f0 fA cy cz fB bq=>?_
 obtain⟨aE,al,bd,cA⟩:=bq.G 1 2
 have bd:d2.eval (.tmp 2)=sv aE (asc ⟨#[102,97,108,115,101]⟩) al:=bd
 have d3:=bq.g 2 3
 have cB:=cA.more ar.size
 refine cx _ _<| wp_ret (ret_k cy (v:=.tuple #[sv aE (asc ⟨#[102,97,108,115,101]⟩) al,iv 0]) (res_tt rfl bd d3 _) ?_)
 have ad:(textV v).1=(asc ⟨#[102,97,108,115,101]⟩):=by first|rfl|(simp only [textV,ac,aa,ab,ag,bsm] <;> rfl)|(exfalso; omega)
 exact⟨aE,al,(by show Ending.returned (.tuple #[sv aE (asc ⟨#[102,97,108,115,101]⟩) al,iv 0])=Ending.returned (.tuple #[sv aE ((textV v).1) al,iv ((textV v).2)]); (first|rfl|(simp only [textV,ac,aa,ab,ag,ad,bsm] <;> rfl)|(exfalso; omega))),(by rw [ad]; exact cB),cz⟩
 have bT:=oF ab
 have cC:=hB bS ab
 refine wf cC<| wk fun f1 cD=>?_
 refine wA tr2 [] 38 [ve (.bool (decide (((cleanV v).k)=3))),ve (.bool (decide (((cleanV v).k)=3)))] ap ?_ ?_
 exact .H bR (r_eql rfl)<| .B 0 .nil
 refine aftI ap bl bm fun f2 aM au br av aN aO=>?_
 have⟨bW,bX⟩:=aO.f2 bQ bR
 have bY:=aO.g 1 21
 have⟨bs,cE,cF⟩:=nw3 aN bn ch ci
 refine cD _ _ ?_
 rcases bc (decide (((cleanV v).k)=3)) with ae|ae
 have bZ:=oT ae
 have cG:=hB bY ae
 refine wt cG<| wk fun f3 cH=>?_
 refine wp_g0 [true,true,true,true,true,true] [] 38
  [ve (.pointer (some ⟨q9,1,none⟩)),ve (nv (Nm.mk ((cleanV v).nk) ((cleanV v).nn))),ve (.string (textM (Nm.mk ((cleanV v).nk) ((cleanV v).nn)))),
  (OP aM.heap.size 74 .u16 (asc (textM (Nm.mk ((cleanV v).nk) ((cleanV v).nn))))),
  (OP aM.heap.size 74 .u16 (asc (textM (Nm.mk ((cleanV v).nk) ((cleanV v).nn))))),ve (iv 0)] au (.eq (.eq (.eq (.cons (fun _ _ _ n ⟨_,_,e,h⟩=>⟨_,_,e,h.new_ n⟩) (.cons (fun _ _ _ n ⟨_,_,e,h⟩=>⟨_,_,e,h.new_ n⟩) (.eq .nil)))))) ?_ ?_
 refine .F bW<| .K2 0 bs<| .C 1 (fun m=>ntext_c (Nm.mk ((cleanV v).nk) ((cleanV v).nn)) _ (HT.up (av.transNew m))) ?_
 refine .o1 (tkC rfl (noG rfl) rfl fun _ w hn k=>(by
  refine ⟨#[.string (textM (Nm.mk ((cleanV v).nk) ((cleanV v).nn)))],_,args1 (k.eq1 2 25 rfl),fun w=>by kernel_rfl,ascii_c (textM (Nm.mk ((cleanV v).nk) ((cleanV v).nn))) _ (by first|omega|(show (_:Nat)≤_; decide)),?_⟩
  rintro e w' ⟨e6,e7,rfl,hmo0,hm⟩
  exact⟨_,rfl,hm,⟨e6,e7,rfl,(hmo0.more hn.size)⟩⟩)) ?_
 refine .o1 (tk rfl rfl fun _ w hn k=>(by
  obtain⟨e8,e9,fa,d4⟩:=k.G 3 26
  exact⟨_,v_assign rfl fa,⟨e8,e9,rfl,d4⟩⟩)) ?_
 exact .c .nil
 refine aftI au br av fun d5 f4 fC cI cJ fD bt=>?_
 obtain⟨aF,am,be,cK⟩:=bt.G 4 2
 have be:d5.eval (.tmp 2)=sv aF (asc (textM (Nm.mk ((cleanV v).nk) ((cleanV v).nn)))) am:=be
 have d6:=bt.g 5 3
 have cL:=cK.more av.size
 refine cH _ _<| wp_ret (ret_k cI (v:=.tuple #[sv aF (asc (textM (Nm.mk ((cleanV v).nk) ((cleanV v).nn)))) am,iv 0]) (res_tt rfl be d6 _) ?_)
 have ad:(textV v).1=(asc (textM (Nm.mk ((cleanV v).nk) ((cleanV v).nn)))):=by first|rfl|(simp only [textV,ac,aa,ab,ae,bsm] <;> rfl)|(exfalso; omega)
 exact⟨aF,am,(by show Ending.returned (.tuple #[sv aF (asc (textM (Nm.mk ((cleanV v).nk) ((cleanV v).nn)))) am,iv 0])=Ending.returned (.tuple #[sv aF ((textV v).1) am,iv ((textV v).2)]); (first|rfl|(simp only [textV,ac,aa,ab,ae,ad,bsm] <;> rfl)|(exfalso; omega))),(by rw [ad]; exact cL),cJ⟩
 have bZ:=oF ae
 have cM:=hB bY ae
 refine wf cM<| wk fun f5 cN=>?_
 refine wA tr2 [] 38 [ve (.bool (decide (((cleanV v).k)=4))),ve (.bool (decide (((cleanV v).k)=4)))] au ?_ ?_
 exact .H bX (r_eql rfl)<| .B 0 .nil
 refine aftI au br av fun f6 aP aw bu aQ aR aS=>?_
 have⟨b0,d7⟩:=aS.f2 bW bX
 have b1:=aS.g 1 27
 have⟨bv,bw,cO⟩:=nw3 aR bs cE cF
 refine cN _ _ ?_
 rcases bc (decide (((cleanV v).k)=4)) with af|af
 have b2:=oT af
 have cP:=hB b1 af
 refine wt cP<| wk fun f7 cQ=>?_
 refine wp_g0 [true,true,true,true,true,true] [] 38
  [ve (.pointer (some ⟨q9,3,none⟩)),ve (.agg #[.bool ((cleanV v).neg),sv aW ((cleanV v).mag) ay]),ve (.string (strOfNums (textI (goodI ((cleanV v).neg) ((cleanV v).mag))))),
  (OP aP.heap.size 74 .u16 (asc (strOfNums (textI (goodI ((cleanV v).neg) ((cleanV v).mag)))))),
  (OP aP.heap.size 74 .u16 (asc (strOfNums (textI (goodI ((cleanV v).neg) ((cleanV v).mag)))))),ve (iv 0)] aw (.eq (.eq (.eq (.cons (fun _ _ _ n ⟨_,_,e,h⟩=>⟨_,_,e,h.new_ n⟩) (.cons (fun _ _ _ n ⟨_,_,e,h⟩=>⟨_,_,e,h.new_ n⟩) (.eq .nil)))))) ?_ ?_
 refine .F b0<| .K6 0 bv<| .C 1 (fun m=>bText_c ((cleanV v).neg) _ ((cleanV v).mag) _ _ (bw.new_ m) hvv.clean.limbs) ?_
 refine .o1 (tkC rfl (noG rfl) rfl fun _ w hn k=>(by
  refine ⟨#[.string (strOfNums (textI (goodI ((cleanV v).neg) ((cleanV v).mag))))],_,args1 (k.eq1 2 31 rfl),fun w=>by kernel_rfl,ascii_c (strOfNums (textI (goodI ((cleanV v).neg) ((cleanV v).mag)))) _ (by first|omega|(show (_:Nat)≤_; decide)),?_⟩
  rintro e w' ⟨ff,fg,rfl,hmo0,hm⟩
  exact⟨_,rfl,hm,⟨ff,fg,rfl,(hmo0.more hn.size)⟩⟩)) ?_
 refine .o1 (tk rfl rfl fun _ w hn k=>(by
  obtain⟨fh,fi,fj,d8⟩:=k.G 3 32
  exact⟨_,v_assign rfl fj,⟨fh,fi,rfl,d8⟩⟩)) ?_
 exact .c .nil
 refine aftI aw bu aQ fun d9 f8 fE cR cS fF bx=>?_
 obtain⟨aG,an,bf,cT⟩:=bx.G 4 2
 have bf:d9.eval (.tmp 2)=sv aG (asc (strOfNums (textI (goodI ((cleanV v).neg) ((cleanV v).mag))))) an:=bf
 have ea:=bx.g 5 3
 have cU:=cT.more aQ.size
 refine cQ _ _<| wp_ret (ret_k cR (v:=.tuple #[sv aG (asc (strOfNums (textI (goodI ((cleanV v).neg) ((cleanV v).mag))))) an,iv 0]) (res_tt rfl bf ea _) ?_)
 have ad:(textV v).1=(asc (strOfNums (textI (goodI ((cleanV v).neg) ((cleanV v).mag))))):=by first|rfl|(simp only [textV,ac,aa,ab,ae,af,bsm] <;> rfl)|(exfalso; omega)
 exact⟨aG,an,(by show Ending.returned (.tuple #[sv aG (asc (strOfNums (textI (goodI ((cleanV v).neg) ((cleanV v).mag))))) an,iv 0])=Ending.returned (.tuple #[sv aG ((textV v).1) an,iv ((textV v).2)]); (first|rfl|(simp only [textV,ac,aa,ab,ae,af,ad,bsm] <;> rfl)|(exfalso; omega))),(by rw [ad]; exact cU),cS⟩
 have b2:=oF af
 have cV:=hB b1 af
 refine wf cV<| wk fun f9 cW=>?_
 refine wA tr2 [] 38 [ve (.bool (decide (((cleanV v).k)=5))),ve (.bool (decide (((cleanV v).k)=5)))] aw ?_ ?_
 exact .H d7 (r_eql rfl)<| .B 0 .nil
 refine aftI aw bu aQ fun ga aT ax bz aU aV bA=>?_
 have eb:=bA.f1 b0
 have b3:=bA.g 1 33
 have⟨cX,fG,cY⟩:=nw3 aV bv bw cO
 refine cW _ _ ?_
 rcases bc (decide (((cleanV v).k)=5)) with ah|ah
 have b4:=oT ah
 have cZ:=hB b3 ah
 refine wt cZ<| wk fun gb c0=>?_
 refine wp_g0 [true,true,true,true,true] [] 38
  [ve (.pointer (some ⟨q9,5,none⟩)),ve (sv az ((cleanV v).s) aA),
  (OP aT.heap.size 74 .u16 ((cleanV v).s)),
  (OP aT.heap.size 74 .u16 ((cleanV v).s)),ve (iv 0)] ax (.eq (.eq (.cons (fun _ _ _ n ⟨_,_,e,h⟩=>⟨_,_,e,h.new_ n⟩) (.cons (fun _ _ _ n ⟨_,_,e,h⟩=>⟨_,_,e,h.new_ n⟩) (.eq .nil))))) ?_ ?_
 refine .F eb<| .J 0 isAgg27 cX ?_
 refine .o1 (tkC rfl (noG rfl) rfl fun _ w hn k=>(by
  refine ⟨#[sv az ((cleanV v).s) aA],_,args1 (k.eq1 1 36 rfl),fun w=>by kernel_rfl,clone16_c _ ((cleanV v).s) _ _ (cY.new_ hn) (by first|omega|(simp only [List.length_nil,List.length_take,List.length_drop]; omega)|(simp only [List.length_cons,List.length_nil]; omega)),?_⟩
  rintro e w' ⟨fo,fp,rfl,hmo0,hm⟩
  exact⟨_,rfl,hm,⟨fo,fp,rfl,(hmo0.more hn.size)⟩⟩)) ?_
 refine .o1 (tk rfl rfl fun _ w hn k=>(by
  obtain⟨fq,fs,ft,ec⟩:=k.G 2 37
  exact⟨_,v_assign rfl ft,⟨fq,fs,rfl,ec⟩⟩)) ?_
 exact .c .nil
 refine aftI ax bz aU fun ed gc fH c1 c3 fI bB=>?_
 obtain⟨aH,ao,bg,c5⟩:=bB.G 3 2
 have bg:ed.eval (.tmp 2)=sv aH ((cleanV v).s) ao:=bg
 have ee:=bB.g 4 3
 have c9:=c5.more aU.size
 refine c0 _ _<| wp_ret (ret_k c1 (v:=.tuple #[sv aH ((cleanV v).s) ao,iv 0]) (res_tt rfl bg ee _) ?_)
 have ad:(textV v).1=((cleanV v).s):=by first|rfl|(simp only [textV,ac,aa,ab,ae,af,ah,bsm] <;> rfl)|(exfalso; omega)
 exact⟨aH,ao,(by show Ending.returned (.tuple #[sv aH ((cleanV v).s) ao,iv 0])=Ending.returned (.tuple #[sv aH ((textV v).1) ao,iv ((textV v).2)]); (first|rfl|(simp only [textV,ac,aa,ab,ae,af,ah,ad,bsm] <;> rfl)|(exfalso; omega))),(by rw [ad]; exact c9),c3⟩
 have b4:=oF ah
 have da:=hB b3 ah
 refine wf da<| ws<| dy _ _<| wk fun gd db=>?_
 refine wA tr2 [] 38 [ve (sv none ([]) 0),ve (iv 3)] ax ?_ ?_
 exact .c<| .c .nil
 refine aftI ax bz aU fun gf gg fJ dc dd fK bC=>?_
 have ef:=bC.g 0 2
 have eg:=bC.g 1 3
 refine db _ _<| wp_ret (ret_k dc (v:=.tuple #[sv none ([]) 0,iv 3]) (res_tt rfl ef eg _) ?_)
 have ad:(textV v).1=[]:=by first|rfl|(simp only [textV,ac,aa,ab,ae,af,ah,bsm] <;> rfl)|(exfalso; omega)
 exact⟨none,0,(by show Ending.returned (.tuple #[sv none ([]) 0,iv 3])=Ending.returned (.tuple #[sv none ((textV v).1) 0,iv ((textV v).2)]); (first|rfl|(simp only [textV,ac,aa,ab,ae,af,ah,ad,bsm] <;> rfl)|(exfalso; omega))),(by rw [ad]; exact (SOwn.nil _ _ _ _)),dd⟩
def join_c_P (v:Vl) (Av:Option Addr) (cv:Nat) (Bv:Option Addr) (dv:Nat) (u:Vl) (Au:Option Addr) (cu:Nat) (Bu:Option Addr) (du:Nat) (w:World) (en:Ending) (w':World):Prop:=∃ (Ar0:Option Addr) (cr0:Nat) (Ar1:Option Addr) (cr1:Nat),en=.returned (.tuple #[vv (joinV v u).1 Ar0 cr0 Ar1 cr1,iv ((joinV v u).2)])∧SRow w' .u32 Ar0 ((joinV v u).1.mag) cr0∧SRow w' .u16 Ar1 ((joinV v u).1.s) cr1∧New w w'
theorem join_c (v:Vl) (Av:Option Addr) (cv:Nat) (Bv:Option Addr) (dv:Nat) (u:Vl) (Au:Option Addr) (cu:Nat) (Bu:Option Addr) (du:Nat) (w:World) (hmv:SRow w .u32 Av v.mag cv) (hsv:SRow w .u16 Bv v.s dv) (hmu:SRow w .u32 Au u.mag cu) (hsu:SRow w .u16 Bu u.s du) (hvv:VOk v) (hvu:VOk u) (HT:ItoaOk w):Calls prog 35 #[vv v Av cv Bv dv,vv u Au cu Bu du] w (join_c_P v Av cv Bv dv u Au cu Bu du w):=by
 refine enter_abs func35 rfl fun a0 a8 ex hp=>?_
 have a8:a0.tmps.size=40:=a8
 have a9:New w w:=Upd.refl _ _
 have hp0:a0.eval (.tmp 0)=vv v Av cv Bv dv:=hp 0 _ rfl
 have hp1:a0.eval (.tmp 1)=vv u Au cu Bu du:=hp 1 _ rfl
 have htl1:=text_len hvv
 have htl2:=text_len hvu
 refine wk fun K1 ey=>?_
 refine wB tr4 [] [] 40 [IsNew w 29 (c7 v Av cv Bv dv),IsNew w 29 (c7 u Au cu Bu du),IsNew w 29 z7,ve (iv 0)] [0,1,2] a8 ?_ heN ?_
 exact .X hp0<| .X hp1<| .Y<| .c .nil
 refine aftI a8 ex a9 fun a2 w3 dx ez aC f9 a3=>?_
 obtain⟨q9,h8,dE,dF⟩:=a3.G 0 2
 obtain⟨eA,dy,dG,dH⟩:=a3.G 1 3
 obtain⟨aI,bw,dI,dJ⟩:=a3.G 2 4
 have hne20:=a3.ne 0 2 2 4 h8 bw
 have hne21:=a3.ne 1 2 3 4 dy bw
 have fq:=Nat.le_trans a9.size dE
 have fs:=Nat.le_trans a9.size dG
 have ft:=Nat.le_trans a9.size dI
 refine ey _ _ <| wk fun ga dK=>?_
 refine wp_g0 [true,true,true,true,true,true,true] [] 40
  [ve (vv v Av cv Bv dv),(fun (v_:Value) (W:World)=>∃ (A3:Option Addr) (c4:Nat),v_=.tuple #[sv A3 ((textV v).1) c4,iv ((textV v).2)]∧SOwn W w3.heap.size 74 .u16 A3 ((textV v).1) c4),(fun (v_:Value) (W:World)=>∃ (A9:Option Addr) (ao:Nat),v_=.tuple #[sv A9 ((textV v).1) ao,iv ((textV v).2)]∧SOwn W w3.heap.size 74 .u16 A9 ((textV v).1) ao),
  (OP w3.heap.size 74 .u16 ((textV v).1)),ve (iv ((textV v).2)),
  (OP w3.heap.size 74 .u16 ((textV v).1)),ve (iv ((textV v).2))] dx (.eq (.cons (fun _ _ _ n ⟨_,_,e,h⟩=>⟨_,_,e,h.new_ n⟩) (.cons (fun _ _ _ n ⟨_,_,e,h⟩=>⟨_,_,e,h.new_ n⟩) (.cons (fun _ _ _ n ⟨_,_,e,h⟩=>⟨_,_,e,h.new_ n⟩) (.eq (.cons (fun _ _ _ n ⟨_,_,e,h⟩=>⟨_,_,e,h.new_ n⟩) (.eq .nil))))))) ?_ ?_
 refine .L9 h8 dF ?_
 refine .o1 (tkC rfl (noG rfl) rfl fun _ w hn k=>(by
  refine ⟨#[vv v Av cv Bv dv],_,args1 (k.eq1 0 10 rfl),fun w=>by kernel_rfl,ctext_c v _ _ _ _ _ (hmv.new_ (aC.transNew hn)) (hsv.new_ (aC.transNew hn)) hvv (HT.up (aC.transNew hn)),?_⟩
  rintro e w' ⟨A1,c2,rfl,hmo0,hm⟩
  exact⟨_,rfl,hm,⟨A1,c2,rfl,(hmo0.more hn.size)⟩⟩)) ?_
 refine .o1 (tk rfl rfl fun _ w hn k=>(by
  obtain⟨A5,c6,e7,eF⟩:=k.G 1 11
  exact⟨_,v_move rfl e7,⟨A5,c6,rfl,eF⟩⟩)) ?_
 refine .o1 (tk rfl rfl fun _ w hn k=>(by
  obtain⟨eG,eH,eI,dL⟩:=k.G 2 9
  exact⟨_,v_extract rfl eI rfl,⟨eG,eH,rfl,dL⟩⟩)) ?_
 refine .o1 (tk rfl rfl fun _ w hn k=>(by
  obtain⟨gb,gc,eJ,fu⟩:=k.G 2 9
  exact⟨_,v_extract rfl eJ rfl,rfl⟩)) ?_
 refine .o1 (tk rfl rfl fun _ w hn k=>(by
  obtain⟨eK,eL,eM,dM⟩:=k.G 3 12
  exact⟨_,v_assign rfl eM,⟨eK,eL,rfl,dM⟩⟩)) ?_
 exact .B 4 .nil
 refine aftI dx ez aC fun eN gd aJ bx bz bA aK=>?_
 have⟨dz,dA⟩:=aK.f2 dy bw
 obtain⟨ba,aL,bb,dN⟩:=aK.G 5 6
 have bb:eN.eval (.tmp 6)=sv ba ((textV v).1) aL:=bb
 have bd:=aK.g 6 7
 have⟨bB,bC⟩:=nw2 bA dH dJ
 have bD:=dN.more aC.size
 refine dK _ _ <| wk fun gf dO=>?_
 refine wk fun gg bE=>?_
 rcases bc (decide (((textV v).2)=0)) with aa|aa
 have ch:=oT aa
 refine wA tr2 [] 40 [ve (iv ((textV v).2)),vF] aJ ?_ ?_
 exact .M bd<| .b 0 (r_neq aa) .nil
 refine aftI aJ bx bz fun gh ar bF dP aD a4 aE=>?_
 have⟨eO,eP,eQ,gi⟩:=aE.f4 dz dA bb bd
 have eR:=aE.g 1 15
 have⟨dQ,dR,dS⟩:=nw3 a4 bB bC bD
 refine bE _ _<| wf eR<| ws ?_
 refine dO _ _<| wk fun gj dT=>?_
 refine wp_g0 [true,true,true,true,true,true,true] [] 40
  [ve (vv u Au cu Bu du),(fun (v_:Value) (W:World)=>∃ (aF:Option Addr) (aG:Nat),v_=.tuple #[sv aF ((textV u).1) aG,iv ((textV u).2)]∧SOwn W ar.heap.size 74 .u16 aF ((textV u).1) aG),(fun (v_:Value) (W:World)=>∃ (ap:Option Addr) (aq:Nat),v_=.tuple #[sv ap ((textV u).1) aq,iv ((textV u).2)]∧SOwn W ar.heap.size 74 .u16 ap ((textV u).1) aq),
  (OP ar.heap.size 74 .u16 ((textV u).1)),ve (iv ((textV u).2)),
  (OP ar.heap.size 74 .u16 ((textV u).1)),ve (iv ((textV u).2))] bF (.eq (.cons (fun _ _ _ n ⟨_,_,e,h⟩=>⟨_,_,e,h.new_ n⟩) (.cons (fun _ _ _ n ⟨_,_,e,h⟩=>⟨_,_,e,h.new_ n⟩) (.cons (fun _ _ _ n ⟨_,_,e,h⟩=>⟨_,_,e,h.new_ n⟩) (.eq (.cons (fun _ _ _ n ⟨_,_,e,h⟩=>⟨_,_,e,h.new_ n⟩) (.eq .nil))))))) ?_ ?_
 refine .L9 eO dQ ?_
 refine .o1 (tkC rfl (noG rfl) rfl fun _ w hn k=>(by
  refine ⟨#[vv u Au cu Bu du],_,args1 (k.eq1 0 19 rfl),fun w=>by kernel_rfl,ctext_c u _ _ _ _ _ (hmu.new_ (aD.transNew hn)) (hsu.new_ (aD.transNew hn)) hvu (HT.up (aD.transNew hn)),?_⟩
  rintro e w' ⟨eW,eX,rfl,hmo0,hm⟩
  exact⟨_,rfl,hm,⟨eW,eX,rfl,(hmo0.more hn.size)⟩⟩)) ?_
 refine .o1 (tk rfl rfl fun _ w hn k=>(by
  obtain⟨eY,eZ,e0,dU⟩:=k.G 1 20
  exact⟨_,v_move rfl e0,⟨eY,eZ,rfl,dU⟩⟩)) ?_
 refine .o1 (tk rfl rfl fun _ w hn k=>(by
  obtain⟨e1,e2,e3,dV⟩:=k.G 2 18
  exact⟨_,v_extract rfl e3 rfl,⟨e1,e2,rfl,dV⟩⟩)) ?_
 refine .o1 (tk rfl rfl fun _ w hn k=>(by
  obtain⟨gk,gl,e4,fv⟩:=k.G 2 18
  exact⟨_,v_extract rfl e4 rfl,rfl⟩)) ?_
 refine .o1 (tk rfl rfl fun _ w hn k=>(by
  obtain⟨e5,e6,e8,dW⟩:=k.G 3 21
  exact⟨_,v_assign rfl e8,⟨e5,e6,rfl,dW⟩⟩)) ?_
 exact .B 4 .nil
 refine aftI bF dP aD fun e9 gm aM bG bH bI aN=>?_
 have⟨dB,dC⟩:=aN.f2 eP eQ
 obtain⟨be,aO,bf,dX⟩:=aN.G 5 8
 have bf:e9.eval (.tmp 8)=sv be ((textV u).1) aO:=bf
 have bg:=aN.g 6 7
 have⟨bJ,bK⟩:=nw2 bI dR dS
 have bL:=dX.more aD.size
 refine dT _ _ <| wk fun gn dY=>?_
 refine wb<| wk fun go bM=>?_
 rcases bc (decide (((textV u).2)=0)) with ab|ab
 have ci:=oT ab
 refine wA tr3 [] 40 [ve (iv ((textV u).2)),vF,vF] aM ?_ ?_
 exact .M bg<| .b 0 (r_neq ab)<| .B 1 .nil
 refine aftI aM bG bH fun gp gq aP bN bO a5 aH=>?_
 have⟨dD,bh,bi,gr⟩:=aH.f4 dB dC bf bg
 have fa:=aH.g 2 23
 have⟨bP,bQ,bR⟩:=nw3 a5 bJ bK bL
 refine bM _ _<| wf fa<| wk fun gs bS=>?_
 rcases bc (decide ((((((textV v).1).length) + (((textV u).1).length):Nat):Int)≤4096)) with ae|ae
 have cj:=oT ae
 refine wA tr7 [] 40 [ve (sv ba ((textV v).1) aL),ve (iv (((textV v).1).length:Int)),ve (sv be ((textV u).1) aO),ve (iv (((textV u).1).length:Int)),ve (iv (((((textV v).1).length) + (((textV u).1).length):Nat):Int)),vF,vF] aP ?_ ?_
 exact .M bh<| .T (fun k=>v_lenR rfl elU (k.eq1 0 29 rfl))<| .M bi<| .T (fun k=>v_lenR rfl elU (k.eq1 2 31 rfl))<| .R (fun k=>v_bin rfl (k.eq1 1 30 rfl) (k.eq1 3 32 rfl) (fun _=>rfl) (n_add (by omega) (IntWalk.i64_in _ (by omega)))) (fun _=>rfl)<| .b 4 (r_gtrK ae)<| .B 5 .nil
 refine aftI aP bN bO fun fw fy bj cl cm aQ ax=>?_
 have⟨dZ,d0,d1⟩:=ax.f3 dD bh bi
 have d2:=ax.g 6 28
 have⟨cn,co,cp⟩:=nw3 aQ bP bQ bR
 refine bS _ _<| wf d2<| ws ?_
 refine dY _ _<| wk fun fz cq=>?_
 have hjl:((textV v).1 ++ (textV u).1).length≤4096:=by rw [List.length_append]; omega
 refine wA [true,true,false,false,false,false] [(2,false),(3,false),(4,false),(5,true)] 40 [ve (sv ba ((textV v).1) aL),ve (sv be ((textV u).1) aO),vt,vt,vt,vt] bj ?_ ?_
 exact .M d0<| .M d1<| .off<| .off<| .off<| .off .nil
 refine aftI bj cl cm fun bT fA bk cr bl aR aS=>?_
 have d3:=aS.f1 dZ
 have d4:=aS.g 0 36
 have d5:=aS.g 1 37
 have⟨ct,aT,cw⟩:=nw3 aR cn co cp
 have hw136:=bl.size
 refine st_act rfl rfl fun fB cx=>a_append (k:=.u16) (b:=w.heap.size) rfl elU d4 aT d5 cw.row (by first|omega|(simp only [List.length_nil,List.length_cons,List.length_append,List.length_take,List.length_drop,List.length_replicate,List.length_set]; omega)) (by first|omega|(simp only [List.length_nil,List.length_cons,List.length_append,List.length_take,List.length_drop,List.length_replicate,List.length_set]; omega)) hw136 fun aU ay fC bm hg132=>cx _ _ trivial ?_
 have cy:=bl.ownGrown aT hg132
 have cz:=ct.ownGrown aT (by decide) hg132
 obtain⟨a6,au⟩:∃ a',a'=bT.put (some 38) (sv aU ((textV v).1 ++ (textV u).1) ay):=⟨_,rfl⟩
 have⟨bn,cA⟩:=pz2 au bk cr
 have d6:=pN au d3
 have bU:=s7 au bk
 show stepsTo _ _ _ _ _ (bT.put (some 38) (sv aU ((textV v).1 ++ (textV u).1) ay)) _
 rw [← au]
 refine st_act rfl rfl fun fD cB=>?_
 refine a_call (args:=#[sv aU ((textV v).1 ++ (textV u).1) ay]) rfl (args1 bU) (fun w=>by kernel_rfl) (cstr_c _ ((textV v).1 ++ (textV u).1) _ _ bm.row (by first|omega|(simp only [List.length_nil,List.length_take,List.length_drop]; omega)|(simp only [List.length_cons,List.length_nil]; omega))) ?_
 rintro fE fF ⟨af,ac,ag,ad,rfl,cC,cD,aV⟩
 refine ⟨_,rfl,cB _ _ trivial ?_⟩
 have⟨az,cE⟩:=nw2 aV cz bm
 have cF:=cy.transNew aV
 obtain⟨a7,am⟩:∃ a',a'=a6.put (some 39) (vv (strV ((textV v).1 ++ (textV u).1)) af ac ag ad):=⟨_,rfl⟩
 have⟨bo,cG⟩:=pz2 am bn cA
 have⟨bV,d7⟩:=pN2 am d6 bU
 have bW:=s7 am bn
 show stepsTo _ _ _ _ _ (a6.put (some 39) (vv (strV ((textV v).1 ++ (textV u).1)) af ac ag ad)) _
 rw [← am]
 refine sS9 bV bW az fun d8 cH aA fb=>?_
 have fc:=cE.far az aA (by decide)
 have cJ:=cC.fr az aA
 have cK:=cD.fr az aA
 have cL:=cF.tR aA
 refine sP (v:=iv 0) rfl bo cG fun d9 fd cM ah eb=>?_
 have⟨ea,fH,fI⟩:=ah.q3 bV d7 bW
 refine cq _ _<| wp_ret (ret_k cM (v:=.tuple #[vv (strV ((textV v).1 ++ (textV u).1)) af ac ag ad,iv 0]) (res_ct rfl ea eb (l_agg isAgg29 sizeOf29 cH rfl)) ?_)
 have ak:(joinV v u).1.mag=(strV ((textV v).1 ++ (textV u).1)).mag:=by first|rfl|(simp only [joinV,Vl.z,aa,ab,ae,bsm] <;> rfl)|(exfalso; omega)
 have al:(joinV v u).1.s=(strV ((textV v).1 ++ (textV u).1)).s:=by first|rfl|(simp only [joinV,Vl.z,aa,ab,ae,bsm] <;> rfl)|(exfalso; omega)
 exact⟨af,ac,ag,ad,(by show Ending.returned (.tuple #[vv (strV ((textV v).1 ++ (textV u).1)) af ac ag ad,iv 0])=Ending.returned (.tuple #[vv (joinV v u).1 af ac ag ad,iv ((joinV v u).2)]); (first|rfl|(simp only [joinV,Vl.z,aa,ab,ae,ak,al,bsm] <;> rfl)|(exfalso; omega))),(by rw [ak]; exact cJ),(by rw [al]; exact cK),cL⟩
 have cj:=oF ae
 refine wA tr7 [] 40 [ve (sv ba ((textV v).1) aL),ve (iv (((textV v).1).length:Int)),ve (sv be ((textV u).1) aO),ve (iv (((textV u).1).length:Int)),ve (iv (((((textV v).1).length) + (((textV u).1).length):Nat):Int)),vT,vT] aP ?_ ?_
 exact .M bh<| .T (fun k=>v_lenR rfl elU (k.eq1 0 29 rfl))<| .M bi<| .T (fun k=>v_lenR rfl elU (k.eq1 2 31 rfl))<| .R (fun k=>v_bin rfl (k.eq1 1 30 rfl) (k.eq1 3 32 rfl) (fun _=>rfl) (n_add (by omega) (IntWalk.i64_in _ (by omega)))) (fun _=>rfl)<| .b 4 (r_gtrK ae)<| .B 5 .nil
 refine aftI aP bN bO fun fJ fK bp cN cO aW aB=>?_
 have⟨ec,fL,fM⟩:=aB.f3 dD bh bi
 have ed:=aB.g 6 28
 have⟨cP,fe,ff⟩:=nw3 aW bP bQ bR
 refine bS _ _<| wt ed<| wk fun fN cQ=>?_
 refine wA [true,false,false] [(1,false),(2,true)] 40 [ve (vv (Vl.mk 0 0 0 false [] [] 0) none 0 none 0),vt,vt] bp ?_ ?_
 exact .Z<| .off<| .off .nil
 refine aftI bp cN cO fun bZ fO bq cR cS cT br=>?_
 have b0:=br.f1 ec
 have b1:=br.g 0 35
 have cU:=cP.new_ cT
 refine sS9 b0 b1 cU fun ee cW cV fg=>?_
 have cY:=cS.tR cV
 refine sP (v:=iv 3) rfl bq cR fun ef fh cZ an eh=>?_
 have⟨eg,fQ⟩:=an.q2 b0 b1
 refine cQ _ _<| wp_ret (ret_k cZ (res9 eg eh cW) ?_)
 exact rV (by first|rfl|(simp only [joinV,Vl.z,aa,ab,ae,bsm] <;> rfl)|(exfalso; omega)) cY
 have ci:=oF ab
 refine wA tr3 [] 40 [ve (iv ((textV u).2)),vT,vT] aM ?_ ?_
 exact .M bg<| .b 0 (r_neq ab)<| .B 1 .nil
 refine aftI aM bG bH fun fR fS bs c0 c1 aX av=>?_
 have⟨ei,fT,fU,ej⟩:=av.f4 dB dC bf bg
 have ek:=av.g 2 23
 have⟨c3,fi,fj⟩:=nw3 aX bJ bK bL
 refine bM _ _<| wt ek<| wk fun fV c5=>?_
 refine wB [true,true,false,false] [1] [(2,false),(3,true)] 40 [ve (vv (Vl.mk 0 0 0 false [] [] 0) none 0 none 0),ve (iv ((textV u).2)),vt,vt] [] bs ?_ ?_ ?_
 refine .Z ?_
 refine .o3 ?_
 exact .off<| .off .nil
 refine eg1 ?_
 exact eager_take rfl rfl fun _ w hn k=>⟨iv ((textV u).2),fun w=>v_move rfl (k.fx 7 ej),rfl⟩
 refine aftI bs c0 c1 fun b4 fW bt c8 c9 da aY=>?_
 have b5:=aY.f1 ei
 have b6:=aY.g 0 26
 have b7:=aY.g 1 27
 have db:=c3.new_ da
 refine sS9 b5 b6 db fun el dd dc fk=>?_
 have df:=c9.tR dc
 refine sP b7 bt c8 fun em fl dg ai eo=>?_
 have⟨en,fY,fZ⟩:=ai.q3 b5 b6 b7
 refine c5 _ _<| wp_ret (ret_k dg (res9 en eo dd) ?_)
 exact rV (by first|rfl|(simp only [joinV,Vl.z,aa,ab,bsm] <;> rfl)|(exfalso; omega)) df
 have ch:=oF aa
 refine wA tr2 [] 40 [ve (iv ((textV v).2)),vT] aJ ?_ ?_
 exact .M bd<| .b 0 (r_neq aa) .nil
 refine aftI aJ bx bz fun f0 f1 bu dh di aZ aw=>?_
 have⟨f2,ep,f3,er⟩:=aw.f4 dz dA bb bd
 have es:=aw.g 1 15
 have⟨fm,dj,fn⟩:=nw3 aZ bB bC bD
 refine bE _ _<| wt es<| wk fun f4 dk=>?_
 refine wB [true,true,false,false] [1] [(2,false),(3,true)] 40 [ve (vv (Vl.mk 0 0 0 false [] [] 0) none 0 none 0),ve (iv ((textV v).2)),vt,vt] [] bu ?_ ?_ ?_
 refine .Z ?_
 refine .o3 ?_
 exact .off<| .off .nil
 refine eg1 ?_
 exact eager_take rfl rfl fun _ w hn k=>⟨iv ((textV v).2),fun w=>v_move rfl (k.fx 7 er),rfl⟩
 refine aftI bu dh di fun ca f5 bv dl dm dn a1=>?_
 have cb:=a1.f1 ep
 have cc:=a1.g 0 16
 have cd:=a1.g 1 17
 have dp:=dj.new_ dn
 refine sS9 cb cc dp fun et dr dq fo=>?_
 have dt:=dm.tR dq
 refine sP cd bv dl fun eu fp dw aj ew=>?_
 have⟨ev,f7,f8⟩:=aj.q3 cb cc cd
 refine dk _ _<| wp_ret (ret_k dw (res9 ev ew dr) ?_)
 exact rV (by first|rfl|(simp only [joinV,Vl.z,aa,bsm] <;> rfl)|(exfalso; omega)) dt
def binT_c_P  (v:Vl) (Av:Option Addr) (cv:Nat) (Bv:Option Addr) (dv:Nat) (u:Vl) (Au:Option Addr) (cu:Nat) (Bu:Option Addr) (du:Nat) (w:World) (en:Ending) (w':World):Prop:=∃ (Ar0:Option Addr) (cr0:Nat) (Ar1:Option Addr) (cr1:Nat),en=.returned (.tuple #[vv (joinV (cleanV v) (cleanV u)).1 Ar0 cr0 Ar1 cr1,iv ((joinV (cleanV v) (cleanV u)).2)])∧SRow w' .u32 Ar0 ((joinV (cleanV v) (cleanV u)).1.mag) cr0∧SRow w' .u16 Ar1 ((joinV (cleanV v) (cleanV u)).1.s) cr1∧New w w'
theorem binT_c  (v:Vl) (Av:Option Addr) (cv:Nat) (Bv:Option Addr) (dv:Nat) (u:Vl) (Au:Option Addr) (cu:Nat) (Bu:Option Addr) (du:Nat) (w:World) (hmv:SRow w .u32 Av v.mag cv) (hsv:SRow w .u16 Bv v.s dv) (hmu:SRow w .u32 Au u.mag cu) (hsu:SRow w .u16 Bu u.s du) (hvv:VOk v) (hvu:VOk u) (hk5:(cleanV v).k=5) (HT:ItoaOk w):Calls prog 12 #[.string ⟨#[43]⟩,vv v Av cv Bv dv,vv u Au cu Bu du] w (binT_c_P v Av cv Bv dv u Au cu Bu du w):=by
 refine enter_abs func12 rfl fun a0 aQ cX hp=>?_
 have aQ:a0.tmps.size=120:=aQ
 have aR:New w w:=Upd.refl _ _
 have hp0:a0.eval (.tmp 0)=.string ⟨#[43]⟩:=hp 0 _ rfl
 have hp1:a0.eval (.tmp 1)=vv v Av cv Bv dv:=hp 1 _ rfl
 have hp2:a0.eval (.tmp 2)=vv u Au cu Bu du:=hp 2 _ rfl
 refine wk fun K1 cY=>?_
 refine wB tr4 [] [] 120 [IsNew w 29 (c7 v Av cv Bv dv),IsNew w 29 (c7 u Au cu Bu du),IsNew w 29 z7,ve (iv 0)] [0,1,2] aQ ?_ heN ?_
 exact .X hp1<| .X hp2<| .Y<| .c .nil
 refine aftI aQ cX aR fun a2 w3 b0 cZ an dT ao=>?_
 have h8:=ao.f1 hp0
 obtain⟨aS,h9,b6,a3⟩:=ao.G 0 4
 obtain⟨aT,aU,b7,a4⟩:=ao.G 1 5
 obtain⟨a5,a6,b8,b9⟩:=ao.G 2 6
 have hne21:=ao.ne 0 1 4 5 h9 aU
 have hne22:=ao.ne 0 2 4 6 h9 a6
 have hne23:=ao.ne 1 2 5 6 aU a6
 have dz:=Nat.le_trans aR.size b6
 have dA:=Nat.le_trans aR.size b7
 have dB:=Nat.le_trans aR.size b8
 refine cY _ _ <| wk fun dU ca=>?_
 refine wp_g0 [true,true,true,true,false,false] [(4,false),(5,false)] 120
  [ve (vv v Av cv Bv dv),
  (VP (cleanV v)),ve (vv u Au cu Bu du),
  (VP (cleanV u)),vt,vt] b0 (.eq (.cons (fun _ _ _ n ⟨_,_,_,_,e,h,i⟩=>⟨_,_,_,_,e,h.new_ n,i.new_ n⟩) (.eq (.cons (fun _ _ _ n ⟨_,_,_,_,e,h,i⟩=>⟨_,_,_,_,e,h.new_ n,i.new_ n⟩) (.tt (.tt .nil)))))) ?_ ?_
 refine .L9 h9 a3 ?_
 refine .o1 (tkC rfl (noG rfl) rfl fun _ w hn k=>(by
  refine ⟨#[vv v Av cv Bv dv],_,args1 (k.eq1 0 10 rfl),fun w=>by kernel_rfl,clean_c v _ _ _ _ _ (hmv.new_ (an.transNew hn)) (hsv.new_ (an.transNew hn)),?_⟩
  rintro e w' ⟨A1,c2,A3,c4,rfl,hmo0,hmo1,hm⟩
  exact⟨_,rfl,hm,⟨A1,c2,A3,c4,rfl,hmo0,hmo1⟩⟩)) ?_
 refine .L9 aU a4 ?_
 refine .o1 (tkC rfl (noG rfl) rfl fun _ w hn k=>(by
  refine ⟨#[vv u Au cu Bu du],_,args1 (k.eq1 2 12 rfl),fun w=>by kernel_rfl,clean_c u _ _ _ _ _ (hmu.new_ (an.transNew hn)) (hsu.new_ (an.transNew hn)),?_⟩
  rintro e w' ⟨A9,c9,da,db,rfl,hmo0,hmo1,hm⟩
  exact⟨_,rfl,hm,⟨A9,c9,da,db,rfl,hmo0,hmo1⟩⟩)) ?_
 exact .off<| .off .nil
 refine aftI b0 cZ an fun b1 dV a7 cb cc aO am=>?_
 have⟨b2,b3,b4,dc⟩:=am.f4 h8 h9 aU a6
 obtain⟨aL,ap,aM,aq,a8,cd,ce⟩:=am.G 1 11
 have a8:b1.eval (.tmp 11)=vv (cleanV v) aL ap aM aq:=a8
 obtain⟨aN,ar,aG,au,a9,cf,ch⟩:=am.G 3 13
 have a9:b1.eval (.tmp 13)=vv (cleanV u) aN ar aG au:=a9
 have⟨av,ci,cj⟩:=nw3 aO a3 a4 b9
 refine sS9 b3 a8 av fun dd cl aw ba=>?_
 have cn:=cd.fr av aw
 have co:=ce.fr av aw
 have cp:=cf.fr av aw
 have cq:=ch.fr av aw
 have ax:=ba hne21.symm ci
 have cr:=ba hne22.symm cj
 have ct:=cc.tR aw
 refine sS9 b4 a9 ax fun de cw ay bb=>?_
 have cy:=cn.fr ax ay
 have cz:=co.fr ax ay
 have cA:=cp.fr ax ay
 have cB:=cq.fr ax ay
 have cC:=bb hne21 cl
 have cD:=bb hne23.symm cr
 have cE:=ct.tR ay
 refine ca _ _ <| wk fun dY dC=>?_
 refine wk fun dZ cF=>?_
 refine wA tr1 [] 120 [ve (.string ⟨#[43]⟩)] a7 ?_ ?_
 exact .M b2 .nil
 refine aftI a7 cb cE fun d0 d1 bd cG bo ai az=>?_
 have⟨df,dg,dh,di⟩:=az.f4 b2 b3 b4 dc
 have b5:=az.g 0 14
 have⟨cH,cI,bp,bq⟩:=nw4 ai cC cw cD cy
 have⟨br,bs,bt⟩:=nw3 ai cz cA cB
 refine cF _ _<| wb<| wk fun dD bu=>?_
 refine wA tr2 [] 120 [vT,vT] bd ?_ ?_
 exact .T (fun k=>v_bin rfl (k.fx 14 b5) rfl (fun _=>rfl) (r_eqlS (r:=true) (by kernel_rfl)))<| .B 0 .nil
 refine aftI bd cG bo fun dE dF aV bv bw aa ad=>?_
 have⟨cJ,be,bf,cK⟩:=ad.f4 df dg dh di
 have dG:=ad.f1 b5
 have cL:=ad.g 1 15
 have⟨aW,aX,bx,bz⟩:=nw4 aa cH cI bp bq
 have⟨bA,bB,bC⟩:=nw3 aa br bs bt
 refine bu _ _<| wt cL<| wk fun dH dw=>wk fun dI bD=>?_
 refine wA tr8 [] 120 [ve (pv aS),ve (iv ((cleanV v).k)),ve (.bool (decide (((cleanV v).k)=5))),ve (.bool (decide (((cleanV v).k)=5))),ve (gq (!(decide (((cleanV v).k)=5))) (pv aT)),ve (gq (!(decide (((cleanV v).k)=5))) (iv ((cleanV u).k))),ve (gq (!(decide (((cleanV v).k)=5))) (.bool (decide (((cleanV u).k)=5)))),ve (.bool ((decide (((cleanV v).k)=5)) || (decide (((cleanV u).k)=5))))] aV ?_ ?_
 exact .F be<| .J 0 isAgg3 aW<| .b 1 (r_eql rfl)<| .N 2<| .Q (fun k=>g0' (k.eq1 3 20 rfl)) (fun hG p k=>v_field rfl (k.fx 5 bf) (fun w=>rfl))<| .Q (fun k=>g0' (k.eq1 3 20 rfl)) (fun hG p k=>v_load rfl (cT hG (k.eq1 4 21 rfl)) (l_one isAgg3 ((aX.new_ p).cell 0)))<| .Q (fun k=>g0' (k.eq1 3 20 rfl)) (fun hG p k=>v_bin rfl (cT hG (k.eq1 5 22 rfl)) rfl (fun _=>rfl) (r_eql rfl))<| .W 3 6 .nil
 refine aftI aV bv bw fun dJ dK aY bE aZ ab aj=>?_
 have⟨dL,cM,cN,cO⟩:=aj.f4 cJ be bf cK
 have cP:=aj.g 7 24
 have⟨bF,bG,bH,bI⟩:=nw4 ab aW aX bx bz
 have⟨bJ,bK,bL⟩:=nw3 ab bA bB bC
 refine bD _ _ ?_
 have bM:(((decide (((cleanV v).k)=5)) || (decide (((cleanV u).k)=5))))=true:=(by rw [show ((decide (((cleanV v).k)=5)))=true from decide_eq_true (hk5)]; rfl)
 have bN:=hB cP bM
 refine wt bN<| wk fun dM bO=>?_
 refine wp_g0 [true,true,true,true,true,false,false] [(5,false),(6,true)] 120
  [ve (vv (cleanV v) aL ap aM aq),ve (vv (cleanV u) aN ar aG au),(TP (joinV (cleanV v) (cleanV u)).1 ((joinV (cleanV v) (cleanV u)).2)),(fun (v_:Value) (W:World)=>∃ (aA:Option Addr) (aB:Nat) (aC:Option Addr) (aD:Nat),v_=vv (joinV (cleanV v) (cleanV u)).1 aA aB aC aD∧SRow W .u32 aA ((joinV (cleanV v) (cleanV u)).1.mag) aB∧SRow W .u16 aC ((joinV (cleanV v) (cleanV u)).1.s) aD),ve (iv ((joinV (cleanV v) (cleanV u)).2)),vt,vt] aY (.eq (.eq (.cons (fun _ _ _ n ⟨_,_,_,_,e,h,i⟩=>⟨_,_,_,_,e,h.new_ n,i.new_ n⟩) (.cons (fun _ _ _ n ⟨_,_,_,_,e,h,i⟩=>⟨_,_,_,_,e,h.new_ n,i.new_ n⟩) (.eq (.tt (.tt .nil))))))) ?_ ?_
 refine .L9 cM bF<| .L9 cN bG ?_
 refine .o1 (tkC rfl (noG rfl) rfl fun _ w hn k=>(by
  refine ⟨#[vv (cleanV v) aL ap aM aq,vv (cleanV u) aN ar aG au],_,args2 (k.eq1 0 25 rfl) (k.eq1 1 26 rfl),fun w=>by kernel_rfl,join_c (cleanV v) _ _ _ _ (cleanV u) _ _ _ _ _ (bI.new_ hn) (bJ.new_ hn) (bK.new_ hn) (bL.new_ hn) hvv.clean hvu.clean (HT.up (aZ.transNew hn)),?_⟩
  rintro e w' ⟨dj,dk,dl,dm,rfl,hmo0,hmo1,hm⟩
  exact⟨_,rfl,hm,⟨dj,dk,dl,dm,rfl,hmo0,hmo1⟩⟩)) ?_
 refine .o1 (tk rfl rfl fun _ w hn k=>(by
  obtain⟨dn,dp,dq,dr,ds,cQ,cR⟩:=k.G 2 27
  exact⟨_,v_extract rfl ds rfl,⟨dn,dp,dq,dr,rfl,cQ,cR⟩⟩)) ?_
 refine .o1 (tk rfl rfl fun _ w hn k=>(by
  obtain⟨aG,d2,d3,d4,dt,dN,dO⟩:=k.G 2 27
  exact⟨_,v_extract rfl dt rfl,rfl⟩)) ?_
 exact .off<| .off .nil
 refine aftI aY bE aZ fun aP dP a1 bP bQ bR aH=>?_
 have bg:=aH.f1 cO
 obtain⟨aE,ak,aF,al,aI,bS,bT⟩:=aH.G 3 28
 have aI:aP.eval (.tmp 28)=vv (joinV (cleanV v) (cleanV u)).1 aE ak aF al:=aI
 have bh:=aH.g 4 29
 have aJ:=bH.new_ bR
 refine sS9 bg aI aJ fun cS bU aK dx=>?_
 have bW:=bS.fr aJ aK
 have bX:=bT.fr aJ aK
 have bY:=bQ.tR aK
 refine sP bh a1 bP fun cU dy bZ ac cW=>?_
 have⟨cV,dR,dS⟩:=ac.q3 bg aI bh
 refine bO _ _<| wp_ret (ret_k bZ (v:=.tuple #[vv (joinV (cleanV v) (cleanV u)).1 aE ak aF al,iv ((joinV (cleanV v) (cleanV u)).2)]) (res_ct rfl cV cW (l_agg isAgg29 sizeOf29 bU rfl)) ?_)
 exact⟨aE,ak,aF,al,rfl,bW,bX,bY⟩
def truthR (t:Bool):Int:=if t then 1 else 0
def besideO (b:Bool) (m:List Nat) (a:Nm):Int × Bool:=if decide (a.k=2) then (0,false) else if decide (a.k=3) then (-1,true) else if decide (a.k=4) then (1,true) else (cmpZ (goodI b m) a.n,true)
theorem sumsM_c  (v:Vl) (Av:Option Addr) (cv:Nat) (Bv:Option Addr) (dv:Nat) (u:Vl) (Au:Option Addr) (cu:Nat) (Bu:Option Addr) (du:Nat) (w:World) (hmv:SRow w .u32 Av v.mag cv) (hsv:SRow w .u16 Bv v.s dv) (hmu:SRow w .u32 Au u.mag cu) (hsu:SRow w .u16 Bu u.s du) (hvv:VOk v) (hvu:VOk u) (hns:(numericsV v u).2.2 ≠ 0):Calls prog 36 #[.string ⟨#[43]⟩,vv v Av cv Bv dv,vv u Au cu Bu du] w (IsRet (.tuple #[vv (Vl.mk 0 0 0 false [] [] 0) none 0 none 0,iv ((numericsV v u).2.2)]) w):=by
 refine enter_abs func36 rfl fun a0 aS cF hp=>?_
 have aS:a0.tmps.size=92:=aS
 have aT:New w w:=Upd.refl _ _
 have hp0:a0.eval (.tmp 0)=.string ⟨#[43]⟩:=hp 0 _ rfl
 have hp1:a0.eval (.tmp 1)=vv v Av cv Bv dv:=hp 1 _ rfl
 have hp2:a0.eval (.tmp 2)=vv u Au cu Bu du:=hp 2 _ rfl
 refine wk fun K1 cG=>?_
 refine wB tr4 [] [] 92 [IsNew w 29 (c7 v Av cv Bv dv),IsNew w 29 (c7 u Au cu Bu du),IsNew w 29 z7,ve (iv 0)] [0,1,2] aS ?_ heN ?_
 exact .X hp1<| .X hp2<| .Y<| .c .nil
 refine aftI aS cF aT fun a2 w3 bK cH an dU aJ=>?_
 have h8:=aJ.f1 hp0
 obtain⟨cI,h9,bN,bO⟩:=aJ.G 0 4
 obtain⟨cJ,bL,bP,bQ⟩:=aJ.G 1 5
 obtain⟨aL,a3,bR,aN⟩:=aJ.G 2 6
 have hne21:=aJ.ne 0 2 4 6 h9 a3
 have hne22:=aJ.ne 1 2 5 6 bL a3
 have dq:=Nat.le_trans aT.size bN
 have dr:=Nat.le_trans aT.size bP
 have ds:=Nat.le_trans aT.size bR
 refine cG _ _ <| wk fun dV bS=>?_
 refine wp_gS (fun W=>True) (fun W W' hn h=>trivial) trivial [true,true,true,true,true,true,true,true,true,false,false,false] [5,6] [(9,false),(10,false),(11,true)] 92
  [ve (vv v Av cv Bv dv),ve (vv u Au cu Bu du),(TQ (numericsV v u).1 (numericsV v u).2.1 ((numericsV v u).2.2)),(TQ (numericsV v u).1 (numericsV v u).2.1 ((numericsV v u).2.2)),(fun (v_:Value) (W:World)=>∃ (ax:Option Addr) (ay:Nat) (az:Option Addr) (aA:Nat),v_=vv (numericsV v u).1 ax ay az aA∧SRow W .u32 ax ((numericsV v u).1.mag) ay∧SRow W .u16 az ((numericsV v u).1.s) aA),(fun (v_:Value) (W:World)=>∃ (aB:Option Addr) (aC:Nat) (aD:Option Addr) (aE:Nat),v_=vv (numericsV v u).2.1 aB aC aD aE∧SRow W .u32 aB ((numericsV v u).2.1.mag) aC∧SRow W .u16 aD ((numericsV v u).2.1.s) aE),ve (iv ((numericsV v u).2.2)),IsNew w3 29 z7,IsNew w3 29 z7,vt,vt,vt]
  [7,8] (newsCons (fun v w h=>IsNew.old h) (newsCons (fun v w h=>IsNew.old h) newsNil)) bK (.eq (.eq (.cons (fun _ _ _ n ⟨_,_,_,_,_,_,_,_,e,h,i,j,l⟩=>⟨_,_,_,_,_,_,_,_,e,h.new_ n,i.new_ n,j.new_ n,l.new_ n⟩) (.cons (fun _ _ _ n ⟨_,_,_,_,_,_,_,_,e,h,i,j,l⟩=>⟨_,_,_,_,_,_,_,_,e,h.new_ n,i.new_ n,j.new_ n,l.new_ n⟩) (.cons (fun _ _ _ n ⟨_,_,_,_,e,h,i⟩=>⟨_,_,_,_,e,h.new_ n,i.new_ n⟩) (.cons (fun _ _ _ n ⟨_,_,_,_,e,h,i⟩=>⟨_,_,_,_,e,h.new_ n,i.new_ n⟩) (.eq (.nw (.nw (.tt (.tt (.tt .nil)))))))))))) ?_ ?_ ?_
 refine .L9 h9 bO<| .L9 bL bQ ?_
 refine .o1 (tkC rfl (noG rfl) rfl fun _ w hn k=>(by
  refine ⟨#[vv v Av cv Bv dv,vv u Au cu Bu du],_,args2 (k.eq1 0 12 rfl) (k.eq1 1 13 rfl),fun w=>by kernel_rfl,numerics_c v _ _ _ _ u _ _ _ _ _ (hmv.new_ (an.transNew hn)) (hsv.new_ (an.transNew hn)) (hmu.new_ (an.transNew hn)) (hsu.new_ (an.transNew hn)) hvv hvu,?_⟩
  rintro e w' ⟨A1,c2,A3,c4,A5,c6,A7,c8,rfl,hmo0,hmo1,hmo2,hmo3,hm⟩
  exact⟨_,rfl,hm,⟨A1,c2,A3,c4,A5,c6,A7,c8,rfl,hmo0,hmo1,hmo2,hmo3⟩⟩)) ?_
 refine .o1 (tk rfl rfl fun _ w hn k=>(by
  obtain⟨cK,cL,cM,cN,cO,cP,cQ,cR,cS,bT,bU,bV,bW⟩:=k.G 2 14
  exact⟨_,v_move rfl cS,⟨cK,cL,cM,cN,cO,cP,cQ,cR,rfl,bT,bU,bV,bW⟩⟩)) ?_
 refine .o1 (tk rfl rfl fun _ w hn k=>(by
  obtain⟨cT,cU,aM,cV,dW,dX,aU,dY,cW,bX,bY,dt,dw⟩:=k.G 3 11
  exact⟨_,v_extract rfl cW rfl,⟨cT,cU,aM,cV,rfl,bX,bY⟩⟩)) ?_
 refine .o3 ?_
 refine .o3 ?_
 exact .Y<| .Y<| .off<| .off<| .off .nil
 refine eg2 ?_ ?_
 exact eager_takeG rfl (noG rfl) fun _ w hn k=>(by
  obtain⟨dZ,d0,d1,d2,cX,cY,cZ,c0,c1,dx,dy,bZ,b0⟩:=k.G 3 11
  exact⟨_,fun w hS=>v_extract rfl c1 rfl,⟨cX,cY,cZ,c0,rfl,bZ,b0⟩⟩)
 exact eager_takeG rfl (noG rfl) fun _ w hn k=>(by
  obtain⟨d3,d4,d5,d6,d7,d8,d9,ea,c3,dz,dA,dB,dC⟩:=k.G 3 11
  exact⟨_,fun w hS=>v_extract rfl c3 rfl,rfl⟩)
 intro aV eb _ a4 aj
 obtain⟨a5,b1,b2⟩:=aft aj bK cH an a4
 have⟨c5,c9⟩:=aj.f2 h8 a3
 obtain⟨a6,aO,aM,aP,aW,b3,b4⟩:=aj.G 4 15
 have aW:aV.eval (.tmp 15)=vv (numericsV v u).1 a6 aO aM aP:=aW
 obtain⟨aU,aQ,a7,aR,aX,b5,b6⟩:=aj.G 5 16
 have aX:aV.eval (.tmp 16)=vv (numericsV v u).2.1 aU aQ a7 aR:=aX
 have bM:=aj.g 6 17
 obtain⟨a8,a9,ba,aF⟩:=aj.G 7 8
 obtain⟨bb,bd,be,b7⟩:=aj.G 8 9
 have b8:=aN.new_ a4
 have hne60:=aj.ne 7 8 8 9 a9 bd
 have hne61:aL ≠ a8:=by have h1:=aN.lt; have h2:=ba; omega
 have hne62:aL ≠ bb:=by have h1:=aN.lt; have h2:=be; omega
 have dD:=Nat.le_trans an.size ba
 have dE:=Nat.le_trans an.size be
 refine sS9 a9 aW aF fun da b9 aG bf=>?_
 have cb:=b3.fr aF aG
 have cc:=b4.fr aF aG
 have cd:=b5.fr aF aG
 have ce:=b6.fr aF aG
 have cf:=bf hne61 b8
 have aH:=bf hne60.symm b7
 have ch:=b2.tR aG
 refine sS9 bd aX aH fun db ci aI bg=>?_
 have cl:=cb.fr aH aI
 have cm:=cc.fr aH aI
 have cn:=cd.fr aH aI
 have co:=ce.fr aH aI
 have cp:=bg hne62 cf
 have cq:=bg hne60 b9
 have cr:=ch.tR aI
 refine sP bM a5 b1 fun dc bh ct aa bi=>?_
 have⟨dd,de,dF⟩:=aa.q3 c5 c9 aW
 have⟨dG,dH,cw⟩:=aa.q3 aX bM a9
 have cx:=aa.q bd
 refine bS _ _ <| wk fun dI dg=>?_
 refine wb<| wk fun dJ bt=>?_
 refine wA tr3 [] 92 [ve (iv ((numericsV v u).2.2)),ve (.bool (!decide (((numericsV v u).2.2)=0))),ve (.bool (!decide (((numericsV v u).2.2)=0)))] bh ?_ ?_
 exact .M bi<| .b 0 (r_neq rfl)<| .B 1 .nil
 refine aftI bh ct cr fun dK dL aY bu bv ak am=>?_
 have⟨dM,cy,dN,dO⟩:=am.f4 dd de cw cx
 have cz:=am.f1 bi
 have cA:=am.g 2 18
 have⟨bw,dh,di,dj⟩:=nw4 ak cp cq ci cl
 have⟨dk,dl,dm⟩:=nw3 ak cm cn co
 refine bt _ _ ?_
 have aZ:((!decide (((numericsV v u).2.2)=0)))=true:=(nt (decide_eq_false (hns)))
 have bx:=hB cA aZ
 have bz:(decide (((numericsV v u).2.2)=0))=false:=nF aZ
 have df:=oF bz
 refine wt bx<| wk fun dP bA=>?_
 refine wB [true,true,false,false] [1] [(2,false),(3,true)] 92 [ve (vv (Vl.mk 0 0 0 false [] [] 0) none 0 none 0),ve (iv ((numericsV v u).2.2)),vt,vt] [] aY ?_ ?_ ?_
 refine .Z ?_
 refine .o3 ?_
 exact .off<| .off .nil
 refine eg1 ?_
 exact eager_take rfl rfl fun _ w hn k=>⟨iv ((numericsV v u).2.2),fun w=>v_move rfl (k.fx 10 cz),rfl⟩
 refine aftI aY bu bv fun bj dQ a1 bB bC bD aK=>?_
 have bk:=aK.f1 cy
 have bl:=aK.g 0 21
 have bm:=aK.g 1 22
 have bE:=bw.new_ bD
 refine sS9 bk bl bE fun cB bG bF dn=>?_
 have bI:=bC.tR bF
 refine sP bm a1 bB fun cC dp bJ al cE=>?_
 have⟨cD,dS,dT⟩:=al.q3 bk bl bm
 refine bA _ _<| wp_ret (ret_k bJ (v:=.tuple #[vv (Vl.mk 0 0 0 false [] [] 0) none 0 none 0,iv ((numericsV v u).2.2)]) (res_ct rfl cD cE (l_agg isAgg29 sizeOf29 bG rfl)) ?_)
 exact⟨rfl,bI⟩
theorem binM_c  (v:Vl) (Av:Option Addr) (cv:Nat) (Bv:Option Addr) (dv:Nat) (u:Vl) (Au:Option Addr) (cu:Nat) (Bu:Option Addr) (du:Nat) (w:World) (hmv:SRow w .u32 Av v.mag cv) (hsv:SRow w .u16 Bv v.s dv) (hmu:SRow w .u32 Au u.mag cu) (hsu:SRow w .u16 Bu u.s du) (hvv:VOk v) (hvu:VOk u) (hk1:(cleanV v).k ≠ 5) (hk2:(cleanV u).k ≠ 5) (hns:(numericsV (cleanV v) (cleanV u)).2.2 ≠ 0):Calls prog 12 #[.string ⟨#[43]⟩,vv v Av cv Bv dv,vv u Au cu Bu du] w (IsRet (.tuple #[vv (Vl.mk 0 0 0 false [] [] 0) none 0 none 0,iv ((numericsV (cleanV v) (cleanV u)).2.2)]) w):=by
 refine enter_abs func12 rfl fun a0 aB cI hp=>?_
 have aB:a0.tmps.size=120:=aB
 have aC:New w w:=Upd.refl _ _
 have hp0:a0.eval (.tmp 0)=.string ⟨#[43]⟩:=hp 0 _ rfl
 have hp1:a0.eval (.tmp 1)=vv v Av cv Bv dv:=hp 1 _ rfl
 have hp2:a0.eval (.tmp 2)=vv u Au cu Bu du:=hp 2 _ rfl
 refine wk fun K1 cJ=>?_
 refine wB tr4 [] [] 120 [IsNew w 29 (c7 v Av cv Bv dv),IsNew w 29 (c7 u Au cu Bu du),IsNew w 29 z7,ve (iv 0)] [0,1,2] aB ?_ heN ?_
 exact .X hp1<| .X hp2<| .Y<| .c .nil
 refine aftI aB cI aC fun a2 w3 bN cK ah dr ai=>?_
 have h8:=ai.f1 hp0
 obtain⟨aD,h9,bT,aL⟩:=ai.G 0 4
 obtain⟨aE,aF,bU,aM⟩:=ai.G 1 5
 obtain⟨aN,aO,bV,bW⟩:=ai.G 2 6
 have hne21:=ai.ne 0 1 4 5 h9 aF
 have hne22:=ai.ne 0 2 4 6 h9 aO
 have hne23:=ai.ne 1 2 5 6 aF aO
 have c9:=Nat.le_trans aC.size bT
 have da:=Nat.le_trans aC.size bU
 have db:=Nat.le_trans aC.size bV
 refine cJ _ _ <| wk fun ds bX=>?_
 refine wp_g0 [true,true,true,true,false,false] [(4,false),(5,false)] 120
  [ve (vv v Av cv Bv dv),
  (VP (cleanV v)),ve (vv u Au cu Bu du),
  (VP (cleanV u)),vt,vt] bN (.eq (.cons (fun _ _ _ n ⟨_,_,_,_,e,h,i⟩=>⟨_,_,_,_,e,h.new_ n,i.new_ n⟩) (.eq (.cons (fun _ _ _ n ⟨_,_,_,_,e,h,i⟩=>⟨_,_,_,_,e,h.new_ n,i.new_ n⟩) (.tt (.tt .nil)))))) ?_ ?_
 refine .L9 h9 aL ?_
 refine .o1 (tkC rfl (noG rfl) rfl fun _ w hn k=>(by
  refine ⟨#[vv v Av cv Bv dv],_,args1 (k.eq1 0 10 rfl),fun w=>by kernel_rfl,clean_c v _ _ _ _ _ (hmv.new_ (ah.transNew hn)) (hsv.new_ (ah.transNew hn)),?_⟩
  rintro e w' ⟨A1,c2,A3,c4,rfl,hmo0,hmo1,hm⟩
  exact⟨_,rfl,hm,⟨A1,c2,A3,c4,rfl,hmo0,hmo1⟩⟩)) ?_
 refine .L9 aF aM ?_
 refine .o1 (tkC rfl (noG rfl) rfl fun _ w hn k=>(by
  refine ⟨#[vv u Au cu Bu du],_,args1 (k.eq1 2 12 rfl),fun w=>by kernel_rfl,clean_c u _ _ _ _ _ (hmu.new_ (ah.transNew hn)) (hsu.new_ (ah.transNew hn)),?_⟩
  rintro e w' ⟨A9,cP,cQ,cR,rfl,hmo0,hmo1,hm⟩
  exact⟨_,rfl,hm,⟨A9,cP,cQ,cR,rfl,hmo0,hmo1⟩⟩)) ?_
 exact .off<| .off .nil
 refine aftI bN cK ah fun bO dt aP bY bZ aA ag=>?_
 have⟨bP,bQ,bR,cS⟩:=ag.f4 h8 h9 aF aO
 obtain⟨aw,aj,ax,ak,aQ,b0,b1⟩:=ag.G 1 11
 have aQ:bO.eval (.tmp 11)=vv (cleanV v) aw aj ax ak:=aQ
 obtain⟨ay,al,az,am,aR,b2,b3⟩:=ag.G 3 13
 have aR:bO.eval (.tmp 13)=vv (cleanV u) ay al az am:=aR
 have⟨an,b4,b5⟩:=nw3 aA aL aM bW
 refine sS9 bQ aQ an fun cU b6 ao aS=>?_
 have b8:=b0.fr an ao
 have b9:=b1.fr an ao
 have ca:=b2.fr an ao
 have cb:=b3.fr an ao
 have ap:=aS hne21.symm b4
 have cc:=aS hne22.symm b5
 have cd:=bZ.tR ao
 refine sS9 bR aR ap fun cV ce aq aT=>?_
 have ch:=b8.fr ap aq
 have ci:=b9.fr ap aq
 have cj:=ca.fr ap aq
 have cl:=cb.fr ap aq
 have cm:=aT hne21 b6
 have cn:=aT hne23.symm cc
 have co:=cd.tR aq
 refine bX _ _ <| wk fun dy dc=>?_
 refine wk fun dz cp=>?_
 refine wA tr1 [] 120 [ve (.string ⟨#[43]⟩)] aP ?_ ?_
 exact .M bP .nil
 refine aftI aP bY co fun dA dB aU cq a9 ae ar=>?_
 have⟨cW,cX,cY,cZ⟩:=ar.f4 bP bQ bR cS
 have bS:=ar.g 0 14
 have⟨cr,ct,ba,bb⟩:=nw4 ae cm ce cn ch
 have⟨bd,be,bf⟩:=nw3 ae ci cj cl
 refine cp _ _<| wb<| wk fun dd bg=>?_
 refine wA tr2 [] 120 [vT,vT] aU ?_ ?_
 exact .T (fun k=>v_bin rfl (k.fx 14 bS) rfl (fun _=>rfl) (r_eqlS (r:=true) (by kernel_rfl)))<| .B 0 .nil
 refine aftI aU cq a9 fun de df aG bh bi aa ad=>?_
 have⟨cw,aV,aW,cx⟩:=ad.f4 cW cX cY cZ
 have dg:=ad.f1 bS
 have cy:=ad.g 1 15
 have⟨aH,aI,bj,bk⟩:=nw4 aa cr ct ba bb
 have⟨bl,bm,bn⟩:=nw3 aa bd be bf
 refine bg _ _<| wt cy<| wk fun dh bo=>wk fun di bp=>?_
 refine wA tr8 [] 120 [ve (pv aD),ve (iv ((cleanV v).k)),ve (.bool (decide (((cleanV v).k)=5))),ve (.bool (decide (((cleanV v).k)=5))),ve (gq (!(decide (((cleanV v).k)=5))) (pv aE)),ve (gq (!(decide (((cleanV v).k)=5))) (iv ((cleanV u).k))),ve (gq (!(decide (((cleanV v).k)=5))) (.bool (decide (((cleanV u).k)=5)))),ve (.bool ((decide (((cleanV v).k)=5)) || (decide (((cleanV u).k)=5))))] aG ?_ ?_
 exact .F aV<| .J 0 isAgg3 aH<| .b 1 (r_eql rfl)<| .N 2<| .Q (fun k=>g0' (k.eq1 3 20 rfl)) (fun hG p k=>v_field rfl (k.fx 5 aW) (fun w=>rfl))<| .Q (fun k=>g0' (k.eq1 3 20 rfl)) (fun hG p k=>v_load rfl (cT hG (k.eq1 4 21 rfl)) (l_one isAgg3 ((aI.new_ p).cell 0)))<| .Q (fun k=>g0' (k.eq1 3 20 rfl)) (fun hG p k=>v_bin rfl (cT hG (k.eq1 5 22 rfl)) rfl (fun _=>rfl) (r_eql rfl))<| .W 3 6 .nil
 refine aftI aG bh bi fun dj dk aJ bq br ab af=>?_
 have⟨cz,cA,cB,cC⟩:=af.f4 cw aV aW cx
 have cD:=af.g 7 24
 have⟨bs,bt,bu,bv⟩:=nw4 ab aH aI bj bk
 have⟨bw,bx,bz⟩:=nw3 ab bl bm bn
 refine bp _ _ ?_
 have au:(((decide (((cleanV v).k)=5)) || (decide (((cleanV u).k)=5))))=false:=(by rw [show ((decide (((cleanV v).k)=5)))=false from decide_eq_false (hk1),show ((decide (((cleanV u).k)=5)))=false from decide_eq_false (hk2)]; rfl)
 have bA:=hB cD au
 have bB:(decide (((cleanV v).k)=5))=false:=ol au
 have c0:=oF bB
 have bC:(decide (((cleanV u).k)=5))=false:=or_ au
 have c1:=oF bC
 refine wf bA<| ws<| bo _ _<| wk fun dl bD=>?_
 refine wA [true,true,true,true,true,true,false,false] [(6,false),(7,true)] 120 [ve (.string ⟨#[43]⟩),ve (vv (cleanV v) aw aj ax ak),ve (vv (cleanV u) ay al az am),ve (.tuple #[vv (Vl.mk 0 0 0 false [] [] 0) none 0 none 0,iv ((numericsV (cleanV v) (cleanV u)).2.2)]),ve (vv (Vl.mk 0 0 0 false [] [] 0) none 0 none 0),ve (iv ((numericsV (cleanV v) (cleanV u)).2.2)),vt,vt] aJ ?_ ?_
 exact .M cz<| .L9 cA bs<| .L9 cB bt<| .D (fun k=>args3 (k.eq1 0 30 rfl) (k.eq1 1 31 rfl) (k.eq1 2 32 rfl)) (fun p=>sumsM_c (cleanV v) _ _ _ _ (cleanV u) _ _ _ _ _ (bv.new_ p) (bw.new_ p) (bx.new_ p) (bz.new_ p) hvv.clean hvu.clean hns)<| .E 3<| .E 3<| .off<| .off .nil
 refine aftI aJ bq br fun aX dm aK bE bF bG av=>?_
 have aY:=av.f1 cC
 have aZ:=av.g 4 34
 have a1:=av.g 5 35
 have bH:=bu.new_ bG
 refine sS9 aY aZ bH fun cE bJ bI c3=>?_
 have bL:=bF.tR bI
 refine sP a1 aK bE fun cF c5 bM ac cH=>?_
 have⟨cG,dp,dq⟩:=ac.q3 aY aZ a1
 refine bD _ _<| wp_ret (ret_k bM (v:=.tuple #[vv (Vl.mk 0 0 0 false [] [] 0) none 0 none 0,iv ((numericsV (cleanV v) (cleanV u)).2.2)]) (res_ct rfl cG cH (l_agg isAgg29 sizeOf29 bJ rfl)) ?_)
 exact⟨rfl,bL⟩
theorem sumsD_c  (v:Vl) (Av:Option Addr) (cv:Nat) (Bv:Option Addr) (dv:Nat) (u:Vl) (Au:Option Addr) (cu:Nat) (Bu:Option Addr) (du:Nat) (w:World) (hmv:SRow w .u32 Av v.mag cv) (hsv:SRow w .u16 Bv v.s dv) (hmu:SRow w .u32 Au u.mag cu) (hsu:SRow w .u16 Bu u.s du) (hvv:VOk v) (hvu:VOk u) (hns:(numericsV v u).2.2=0) (hk:(numericsV v u).1.k=3) (hX:(Nm.mk (numericsV v u).1.nk (numericsV v u).1.nn)=⟨0,1⟩) (hY:(Nm.mk (numericsV v u).2.1.nk (numericsV v u).2.1.nn)=⟨0,2⟩):Calls prog 36 #[.string ⟨#[47]⟩,vv v Av cv Bv dv,vv u Au cu Bu du] w (IsRet (.tuple #[vv (Vl.mk 0 0 0 false [] [] 0) none 0 none 0,iv 3]) w):=by
 refine enter_abs func36 rfl fun a0 ba eD hp=>?_
 have ba:a0.tmps.size=92:=ba
 have bb:New w w:=Upd.refl _ _
 have hp0:a0.eval (.tmp 0)=.string ⟨#[47]⟩:=hp 0 _ rfl
 have hp1:a0.eval (.tmp 1)=vv v Av cv Bv dv:=hp 1 _ rfl
 have hp2:a0.eval (.tmp 2)=vv u Au cu Bu du:=hp 2 _ rfl
 refine wk fun K1 eE=>?_
 refine wB tr4 [] [] 92 [IsNew w 29 (c7 v Av cv Bv dv),IsNew w 29 (c7 u Au cu Bu du),IsNew w 29 z7,ve (iv 0)] [0,1,2] ba ?_ heN ?_
 exact .X hp1<| .X hp2<| .Y<| .c .nil
 refine aftI ba eD bb fun a2 w3 dj eF av f2 aV=>?_
 have h8:=aV.f1 hp0
 obtain⟨eG,h9,dm,dn⟩:=aV.G 0 4
 obtain⟨eH,dk,dp,dq⟩:=aV.G 1 5
 obtain⟨a1,br,dr,a5⟩:=aV.G 2 6
 have hne21:=aV.ne 0 2 4 6 h9 br
 have hne22:=aV.ne 1 2 5 6 dk br
 have fh:=Nat.le_trans bb.size dm
 have fi:=Nat.le_trans bb.size dp
 have fj:=Nat.le_trans bb.size dr
 refine eE _ _ <| wk fun f3 ds=>?_
 refine wp_gS (fun W=>True) (fun W W' hn h=>trivial) trivial [true,true,true,true,true,true,true,true,true,false,false,false] [5,6] [(9,false),(10,false),(11,true)] 92
  [ve (vv v Av cv Bv dv),ve (vv u Au cu Bu du),(TQ (numericsV v u).1 (numericsV v u).2.1 ((numericsV v u).2.2)),(TQ (numericsV v u).1 (numericsV v u).2.1 ((numericsV v u).2.2)),(fun (v_:Value) (W:World)=>∃ (aJ:Option Addr) (aK:Nat) (aL:Option Addr) (aM:Nat),v_=vv (numericsV v u).1 aJ aK aL aM∧SRow W .u32 aJ ((numericsV v u).1.mag) aK∧SRow W .u16 aL ((numericsV v u).1.s) aM),(fun (v_:Value) (W:World)=>∃ (aN:Option Addr) (aO:Nat) (aP:Option Addr) (aQ:Nat),v_=vv (numericsV v u).2.1 aN aO aP aQ∧SRow W .u32 aN ((numericsV v u).2.1.mag) aO∧SRow W .u16 aP ((numericsV v u).2.1.s) aQ),ve (iv ((numericsV v u).2.2)),IsNew w3 29 z7,IsNew w3 29 z7,vt,vt,vt]
  [7,8] (newsCons (fun v w h=>IsNew.old h) (newsCons (fun v w h=>IsNew.old h) newsNil)) dj (.eq (.eq (.cons (fun _ _ _ n ⟨_,_,_,_,_,_,_,_,e,h,i,j,l⟩=>⟨_,_,_,_,_,_,_,_,e,h.new_ n,i.new_ n,j.new_ n,l.new_ n⟩) (.cons (fun _ _ _ n ⟨_,_,_,_,_,_,_,_,e,h,i,j,l⟩=>⟨_,_,_,_,_,_,_,_,e,h.new_ n,i.new_ n,j.new_ n,l.new_ n⟩) (.cons (fun _ _ _ n ⟨_,_,_,_,e,h,i⟩=>⟨_,_,_,_,e,h.new_ n,i.new_ n⟩) (.cons (fun _ _ _ n ⟨_,_,_,_,e,h,i⟩=>⟨_,_,_,_,e,h.new_ n,i.new_ n⟩) (.eq (.nw (.nw (.tt (.tt (.tt .nil)))))))))))) ?_ ?_ ?_
 refine .L9 h9 dn<| .L9 dk dq ?_
 refine .o1 (tkC rfl (noG rfl) rfl fun _ w hn k=>(by
  refine ⟨#[vv v Av cv Bv dv,vv u Au cu Bu du],_,args2 (k.eq1 0 12 rfl) (k.eq1 1 13 rfl),fun w=>by kernel_rfl,numerics_c v _ _ _ _ u _ _ _ _ _ (hmv.new_ (av.transNew hn)) (hsv.new_ (av.transNew hn)) (hmu.new_ (av.transNew hn)) (hsu.new_ (av.transNew hn)) hvv hvu,?_⟩
  rintro e w' ⟨A1,c2,A3,c4,A5,c6,A7,c8,rfl,hmo0,hmo1,hmo2,hmo3,hm⟩
  exact⟨_,rfl,hm,⟨A1,c2,A3,c4,A5,c6,A7,c8,rfl,hmo0,hmo1,hmo2,hmo3⟩⟩)) ?_
 refine .o1 (tk rfl rfl fun _ w hn k=>(by
  obtain⟨eI,eJ,eK,eL,eM,eN,eO,eP,eQ,dt,dw,dx,dy⟩:=k.G 2 14
  exact⟨_,v_move rfl eQ,⟨eI,eJ,eK,eL,eM,eN,eO,eP,rfl,dt,dw,dx,dy⟩⟩)) ?_
 refine .o1 (tk rfl rfl fun _ w hn k=>(by
  obtain⟨eR,eS,a3,eT,f4,f5,bd,f6,eU,dz,dA,fk,fl⟩:=k.G 3 11
  exact⟨_,v_extract rfl eU rfl,⟨eR,eS,a3,eT,rfl,dz,dA⟩⟩)) ?_
 refine .o3 ?_
 refine .o3 ?_
 exact .Y<| .Y<| .off<| .off<| .off .nil
 refine eg2 ?_ ?_
 exact eager_takeG rfl (noG rfl) fun _ w hn k=>(by
  obtain⟨f7,f8,f9,ga,eV,eW,eX,eY,eZ,fm,fn,dB,dC⟩:=k.G 3 11
  exact⟨_,fun w hS=>v_extract rfl eZ rfl,⟨eV,eW,eX,eY,rfl,dB,dC⟩⟩)
 exact eager_takeG rfl (noG rfl) fun _ w hn k=>(by
  obtain⟨gb,gc,gd,gf,gg,gh,gi,gj,e0,fo,fp,fq,fs⟩:=k.G 3 11
  exact⟨_,fun w hS=>v_extract rfl e0 rfl,rfl⟩)
 intro be gk _ bs aj
 obtain⟨bt,dD,dE⟩:=aft aj dj eF av bs
 have⟨e1,e2⟩:=aj.f2 h8 br
 obtain⟨bu,a6,a3,a7,bf,dF,dG⟩:=aj.G 4 15
 have bf:be.eval (.tmp 15)=vv (numericsV v u).1 bu a6 a3 a7:=bf
 obtain⟨bd,a8,bv,a9,bg,dH,dI⟩:=aj.G 5 16
 have bg:be.eval (.tmp 16)=vv (numericsV v u).2.1 bd a8 bv a9:=bg
 have dl:=aj.g 6 17
 obtain⟨a4,bw,bx,aR⟩:=aj.G 7 8
 obtain⟨bh,bz,bA,dJ⟩:=aj.G 8 9
 have dK:=a5.new_ bs
 have hne60:=aj.ne 7 8 8 9 bw bz
 have hne61:a1 ≠ a4:=by have h1:=a5.lt; have h2:=bx; omega
 have hne62:a1 ≠ bh:=by have h1:=a5.lt; have h2:=bA; omega
 have ft:=Nat.le_trans av.size bx
 have fu:=Nat.le_trans av.size bA
 refine sS9 bw bf aR fun e3 dL aS bB=>?_
 have dN:=dF.fr aR aS
 have dO:=dG.fr aR aS
 have dP:=dH.fr aR aS
 have dQ:=dI.fr aR aS
 have dR:=bB hne61 dK
 have aT:=bB hne60.symm dJ
 have dS:=dE.tR aS
 refine sS9 bz bg aT fun e4 dT aU bC=>?_
 have dV:=dN.fr aT aU
 have dW:=dO.fr aT aU
 have dX:=dP.fr aT aU
 have dY:=dQ.fr aT aU
 have dZ:=bC hne62 dR
 have d0:=bC hne60 dL
 have d1:=dS.tR aU
 refine sP dl bt dD fun e5 bD d2 aa bE=>?_
 have⟨e6,e7,fv⟩:=aa.q3 e1 e2 bf
 have⟨fw,fy,d3⟩:=aa.q3 bg dl bw
 have d4:=aa.q bz
 refine ds _ _ <| wk fun fz bT=>?_
 refine wb<| wk fun fA bU=>?_
 refine wA tr3 [] 92 [ve (iv ((numericsV v u).2.2)),ve (.bool (!decide (((numericsV v u).2.2)=0))),ve (.bool (!decide (((numericsV v u).2.2)=0)))] bD ?_ ?_
 exact .M bE<| .b 0 (r_neq rfl)<| .B 1 .nil
 refine aftI bD d2 d1 fun fB fC bi bV bW ak au=>?_
 have⟨d5,d6,bF,d7⟩:=au.f4 e6 e7 d3 d4
 have fD:=au.f1 bE
 have d8:=au.g 2 18
 have⟨bX,bj,bY,bZ⟩:=nw4 ak dZ d0 dT dV
 have⟨b0,b1,b2⟩:=nw3 ak dW dX dY
 refine bU _ _ ?_
 have aW:((!decide (((numericsV v u).2.2)=0)))=false:=(nf (decide_eq_true (hns)))
 have b3:=hB d8 aW
 have aX:(decide (((numericsV v u).2.2)=0))=true:=nT aW
 have e8:=oT aX
 refine wf b3<| wk fun fE b4=>?_
 refine wA tr4 [] 92 [ve (pv a4),ve (iv ((numericsV v u).1.k)),ve (.bool (decide (((numericsV v u).1.k)=4))),ve (.bool (decide (((numericsV v u).1.k)=4)))] bi ?_ ?_
 exact .F bF<| .J 0 isAgg3 bj<| .b 1 (r_eql rfl)<| .B 2 .nil
 refine aftI bi bV bW fun fF fG bk b5 b6 al aw=>?_
 have⟨d9,ea,eb,ec⟩:=aw.f4 d5 d6 bF d7
 have ed:=aw.g 3 23
 have⟨b7,b8,b9,ca⟩:=nw4 al bX bj bY bZ
 have⟨cb,cc,cd⟩:=nw3 al b0 b1 b2
 refine b4 _ _ ?_
 have aY:(decide (((numericsV v u).1.k)=4))=false:=decide_eq_false (by omega)
 have e9:=oF aY
 have ce:=hB ed aY
 refine wf ce<| ws<| bT _ _<| wk fun fH fa=>wk fun fI cf=>?_
 refine wA tr1 [] 92 [ve (.string ⟨#[47]⟩)] bk ?_ ?_
 exact .M d9 .nil
 refine aftI bk b5 b6 fun fJ fK bl ch ci am aA=>?_
 have⟨ee,ef,eg⟩:=aA.f3 ea eb ec
 have bG:=aA.g 0 35
 have⟨cj,cl,cm,cn⟩:=nw4 am b7 b8 b9 ca
 have⟨co,cp,cq⟩:=nw3 am cb cc cd
 refine cf _ _<| wb<| wk fun fL cr=>?_
 refine wA tr2 [] 92 [vF,vF] bl ?_ ?_
 exact .T (fun k=>v_bin rfl (k.fx 35 bG) rfl (fun _=>rfl) (r_eqlS (r:=false) (by kernel_rfl)))<| .B 0 .nil
 refine aftI bl ch ci fun fM fN bm ct cw an ax=>?_
 have⟨eh,ei,ej,bH⟩:=ax.f4 ee ef eg bG
 have ek:=ax.g 1 36
 have⟨cx,cy,cz,cA⟩:=nw4 an cj cl cm cn
 have⟨cB,cC,cD⟩:=nw3 an co cp cq
 refine cr _ _<| wf ek<| wk fun fO cE=>?_
 refine wA tr2 [] 92 [vF,vF] bm ?_ ?_
 exact .T (fun k=>v_bin rfl (k.fx 35 bH) rfl (fun _=>rfl) (r_eqlS (r:=false) (by kernel_rfl)))<| .B 0 .nil
 refine aftI bm ct cw fun fP fQ bn cF cG ao ay=>?_
 have⟨el,em,en,bI⟩:=ay.f4 eh ei ej bH
 have eo:=ay.g 1 48
 have⟨cH,cI,cJ,cK⟩:=nw4 ao cx cy cz cA
 have⟨cL,cM,cN⟩:=nw3 ao cB cC cD
 refine cE _ _<| wf eo<| wk fun fR cO=>?_
 refine wA tr2 [] 92 [vF,vF] bn ?_ ?_
 exact .T (fun k=>v_bin rfl (k.fx 35 bI) rfl (fun _=>rfl) (r_eqlS (r:=false) (by kernel_rfl)))<| .B 0 .nil
 refine aftI bn cF cG fun fS fT bo cP cQ ap az=>?_
 have⟨ep,er,es,et⟩:=az.f4 el em en bI
 have eu:=az.g 1 60
 have⟨cR,cS,cT,cU⟩:=nw4 ap cH cI cJ cK
 have⟨cV,cW,cX⟩:=nw3 ap cL cM cN
 refine cO _ _<| wf eu<| wk fun fU cY=>?_
 refine wA tr2 [] 92 [vT,vT] bo ?_ ?_
 exact .T (fun k=>v_bin rfl (k.fx 35 et) rfl (fun _=>rfl) (r_eqlS (r:=true) (by kernel_rfl)))<| .B 0 .nil
 refine aftI bo cP cQ fun fV fW bp cZ c0 aq aB=>?_
 have⟨ev,ew,ex⟩:=aB.f3 ep er es
 have ey:=aB.g 1 72
 have⟨c1,c3,c5,fb⟩:=nw4 aq cR cS cT cU
 have⟨fc,fd,fe⟩:=nw3 aq cV cW cX
 refine cY _ _<| wt ey<| wk fun fX c9=>?_
 refine wA [true,true,true,true,true,true,true,true,true,true,false,false] [(10,false),(11,true)] 92 [ve (.pointer (some ⟨a4,1,none⟩)),ve (nv (Nm.mk ((numericsV v u).1.nk) ((numericsV v u).1.nn))),ve (.pointer (some ⟨bh,1,none⟩)),ve (nv (Nm.mk ((numericsV v u).2.1.nk) ((numericsV v u).2.1.nn))),ve (.tuple #[nv (Nm.mk 2 0),.bool false]),ve (nv (Nm.mk 2 0)),vF,ve (.tuple #[vv (Vl.mk (numberedV (Nm.mk 2 0) false).1 (numberedV (Nm.mk 2 0) false).2.1.k (numberedV (Nm.mk 2 0) false).2.1.n false [] [] 0) none 0 none 0,iv ((numberedV (Nm.mk 2 0) false).2.2)]),ve (vv (Vl.mk (numberedV (Nm.mk 2 0) false).1 (numberedV (Nm.mk 2 0) false).2.1.k (numberedV (Nm.mk 2 0) false).2.1.n false [] [] 0) none 0 none 0),ve (iv ((numberedV (Nm.mk 2 0) false).2.2)),vt,vt] bp ?_ ?_
 exact .F ew<| .K2 0 c3<| .F ex<| .K2 2 c5<| .C2 1 3 (fun p=>ndivS_c (Nm.mk ((numericsV v u).1.nk) ((numericsV v u).1.nn)) (Nm.mk ((numericsV v u).2.1.nk) ((numericsV v u).2.1.nn)) _ hX hY)<| .E 4<| .E 4<| .C2 5 6 (fun p=>numbered_c (Nm.mk 2 0) false _)<| .E 7<| .E 7<| .off<| .off .nil
 refine aftI bp cZ c0 fun bJ fY bq da db dc aZ=>?_
 have bK:=aZ.f1 ev
 have bL:=aZ.g 8 82
 have bM:=aZ.g 9 83
 have dd:=c1.new_ dc
 refine sS9 bK bL dd fun ez df de ff=>?_
 have dh:=db.tR de
 refine sP bM bq da fun eA fg di ar eC=>?_
 have⟨eB,f0,f1⟩:=ar.q3 bK bL bM
 refine c9 _ _<| wp_ret (ret_k di (v:=.tuple #[vv (Vl.mk (numberedV (Nm.mk 2 0) false).1 (numberedV (Nm.mk 2 0) false).2.1.k (numberedV (Nm.mk 2 0) false).2.1.n false [] [] 0) none 0 none 0,iv ((numberedV (Nm.mk 2 0) false).2.2)]) (res_ct rfl eB eC (l_agg isAgg29 sizeOf29 df rfl)) ?_)
 refine ⟨?_,dh⟩
 show Ending.returned (.tuple #[vv (Vl.mk (numberedV (Nm.mk 2 0) false).1 (numberedV (Nm.mk 2 0) false).2.1.k (numberedV (Nm.mk 2 0) false).2.1.n false [] [] 0) none 0 none 0,iv ((numberedV (Nm.mk 2 0) false).2.2)])=Ending.returned (.tuple #[vv (Vl.mk 0 0 0 false [] [] 0) none 0 none 0,iv 3])
 first|rfl|(simp only [aW,aX,aX,aY,bsm] <;> rfl)|(exfalso; omega)
theorem bDiv0_c (a:Bool) (Aa:Option Addr) (ma:List Nat) (ca:Nat) (b:Bool) (Ab:Option Addr) (mb:List Nat) (cb:Nat) (w:World) (hra:SRow w .u32 Aa ma ca) (hrb:SRow w .u32 Ab mb cb) (ha:Limbs ma) (hb:Limbs mb) (hsa:ma.length≤1000000) (hsb:mb.length≤1000000) (aQ:goodI b mb=0):Calls prog 144 #[.agg #[.bool a,sv Aa ma ca],.agg #[.bool b,sv Ab mb cb]] w (IsRet (.tuple #[.agg #[.bool false,sv none ([]) 0],iv 4]) w):=by
 refine enter_abs func144 rfl fun a0 ae aR hp=>?_
 have ae:a0.tmps.size=28:=ae
 have af:New w w:=Upd.refl _ _
 have hp0:a0.eval (.tmp 0)=.agg #[.bool a,sv Aa ma ca]:=hp 0 _ rfl
 have hp1:a0.eval (.tmp 1)=.agg #[.bool b,sv Ab mb cb]:=hp 1 _ rfl
 refine wk fun K1 aS=>?_
 refine wB tr4 [] [] 28 [IsNew w 26 [.bool a,sv Aa ma ca],IsNew w 26 [.bool b,sv Ab mb cb],IsNew w 26 [.bool false,sv none ([]) 0],ve (iv 0)] [0,1,2] ae ?_ heN ?_
 exact .X hp0<| .X hp1<| .Y<| .c .nil
 refine aftI ae aR af fun a2 w3 ap aT ag bb ac=>?_
 obtain⟨q9,h8,aw,ax⟩:=ac.G 0 2
 obtain⟨aU,ah,ay,ai⟩:=ac.G 1 3
 obtain⟨aq,aj,az,aA⟩:=ac.G 2 4
 have hne20:=ac.ne 0 2 2 4 h8 aj
 have hne21:=ac.ne 1 2 3 4 ah aj
 have a3:=Nat.le_trans af.size aw
 have a4:=Nat.le_trans af.size ay
 have a5:=Nat.le_trans af.size az
 refine aS _ _ <| wk fun bd a6=>?_
 refine wk fun be aB=>?_
 refine wp_g0 [true,true,true,true] [] 28
  [ve (.agg #[.bool b,sv Ab mb cb]),
  (OP w3.heap.size 56 .u32 (canon (goodI b mb).natAbs)),ve (iv ((canon (goodI b mb).natAbs).length:Int)),ve (.bool (decide (((canon (goodI b mb).natAbs).length:Int)=0)))] ap (.eq (.cons (fun _ _ _ n ⟨_,_,e,h⟩=>⟨_,_,e,h.new_ n⟩) (.eq (.eq .nil)))) ?_ ?_
 refine .L6 ah ai ?_
 refine .o1 (tkC rfl (noG rfl) rfl fun _ w hn k=>(by
  refine ⟨#[.agg #[.bool b,sv Ab mb cb]],_,args1 (k.eq1 0 8 rfl),fun w=>by kernel_rfl,bmag_c b _ mb _ _ (hrb.new_ (ag.transNew hn)) hb (by first|omega|(simp only [List.length_nil,List.length_take,List.length_drop]; omega)|(simp only [List.length_cons,List.length_nil]; omega)),?_⟩
  rintro e w' ⟨A1,c2,rfl,hmo0,hm⟩
  exact⟨_,rfl,hm,⟨A1,c2,rfl,(hmo0.more hn.size)⟩⟩)) ?_
 refine .o1 (tk rfl rfl fun _ w hn k=>(by
  obtain⟨A5,c6,e7,bf⟩:=k.G 1 9
  exact⟨_,v_lenR rfl elW e7,rfl⟩)) ?_
 exact .b 2 (r_eql rfl) .nil
 refine aftI ap aT ag fun bg bh ak aC aD ad ab=>?_
 have⟨bi,bj,aV⟩:=ab.f3 h8 ah aj
 have aW:=ab.g 3 11
 have⟨a7,a8,aE⟩:=nw3 ad ax ai aA
 refine aB _ _ ?_
 have al:(decide (((canon (goodI b mb).natAbs).length:Int)=0))=true:=decide_eq_true (by rw [aQ,Int.natAbs_zero,canon_zero]; rfl)
 have a1:=oT al
 have aF:=hB aW al
 refine wt aF<| wk fun bk aG=>?_
 refine wA [true,false,false] [(1,false),(2,true)] 28 [ve (.agg #[.bool false,sv none ([]) 0]),vt,vt] ak ?_ ?_
 exact .Z<| .off<| .off .nil
 refine aftI ak aC aD fun ar bl am aH aI aJ an=>?_
 have au:=an.f1 aV
 have av:=an.g 0 12
 have aK:=aE.new_ aJ
 refine sS6 au av aK fun bm aL aM a9=>?_
 have aO:=aI.tR aM
 refine sP (v:=iv 4) rfl am aH fun aX ba aP aa aZ=>?_
 have⟨aY,bo⟩:=aa.q2 au av
 refine aG _ _<| wp_ret (ret_k aP (v:=.tuple #[.agg #[.bool false,sv none ([]) 0],iv 4]) (res_ct rfl aY aZ (l_two isAgg26 sizeOf26 aL)) ?_)
 exact⟨rfl,aO⟩
theorem bigsD0_c  (a:Bool) (Aa:Option Addr) (ma:List Nat) (ca:Nat) (b:Bool) (Ab:Option Addr) (mb:List Nat) (cb:Nat) (w:World) (hra:SRow w .u32 Aa ma ca) (hrb:SRow w .u32 Ab mb cb) (ha:Limbs ma) (hb:Limbs mb) (hsa:ma.length≤1000000) (hsb:mb.length≤1000000) (cB:goodI b mb=0):Calls prog 75 #[.string ⟨#[47]⟩,.agg #[.bool a,sv Aa ma ca],.agg #[.bool b,sv Ab mb cb]] w (IsRet (.tuple #[vv (Vl.mk 0 0 0 false [] [] 0) none 0 none 0,iv 2]) w):=by
 refine enter_abs func75 rfl fun a0 ay cC hp=>?_
 have ay:a0.tmps.size=60:=ay
 have az:New w w:=Upd.refl _ _
 have hp0:a0.eval (.tmp 0)=.string ⟨#[47]⟩:=hp 0 _ rfl
 have hp1:a0.eval (.tmp 1)=.agg #[.bool a,sv Aa ma ca]:=hp 1 _ rfl
 have hp2:a0.eval (.tmp 2)=.agg #[.bool b,sv Ab mb cb]:=hp 2 _ rfl
 refine wk fun K1 cD=>?_
 refine wB tr4 [] [] 60 [IsNew w 26 [.bool a,sv Aa ma ca],IsNew w 26 [.bool b,sv Ab mb cb],IsNew w 29 z7,ve (iv 0)] [0,1,2] ay ?_ heN ?_
 exact .X hp1<| .X hp2<| .Y<| .c .nil
 refine aftI ay cC az fun a2 w3 bz cE bI dt ak=>?_
 have h8:=ak.f1 hp0
 obtain⟨bA,h9,bJ,bK⟩:=ak.G 0 4
 obtain⟨bB,bC,bL,bM⟩:=ak.G 1 5
 obtain⟨aA,aH,bN,bO⟩:=ak.G 2 6
 have hne21:=ak.ne 0 2 4 6 h9 aH
 have hne22:=ak.ne 1 2 5 6 bC aH
 have c5:=Nat.le_trans az.size bJ
 have c6:=Nat.le_trans az.size bL
 have c8:=Nat.le_trans az.size bN
 refine cD _ _ <| wk fun du bP=>?_
 refine wk fun dv bQ=>?_
 refine wA tr1 [] 60 [ve (.string ⟨#[47]⟩)] bz ?_ ?_
 exact .M h8 .nil
 refine aftI bz cE bI fun dw dx aI bR bS ao ai=>?_
 have⟨cF,cG,cH,cI⟩:=ai.f4 h8 h9 bC aH
 have bD:=ai.g 0 10
 have⟨bT,bU,bV⟩:=nw3 ao bK bM bO
 refine bQ _ _<| wb<| wk fun dy bW=>?_
 refine wA tr2 [] 60 [vF,vF] aI ?_ ?_
 exact .T (fun k=>v_bin rfl (k.fx 10 bD) rfl (fun _=>rfl) (r_eqlS (r:=false) (by kernel_rfl)))<| .B 0 .nil
 refine aftI aI bR bS fun dz dA aJ bX bY ap ae=>?_
 have⟨cJ,cK,cL,cM⟩:=ae.f4 cF cG cH cI
 have bE:=ae.f1 bD
 have cN:=ae.g 1 11
 have⟨bZ,b0,b1⟩:=nw3 ap bT bU bV
 refine bW _ _<| wf cN<| wk fun dB b2=>?_
 refine wA tr2 [] 60 [vF,vF] aJ ?_ ?_
 exact .T (fun k=>v_bin rfl (k.fx 10 bE) rfl (fun _=>rfl) (r_eqlS (r:=false) (by kernel_rfl)))<| .B 0 .nil
 refine aftI aJ bX bY fun dC dD aK b3 b4 aq af=>?_
 have⟨cO,cP,cQ,cR⟩:=af.f4 cJ cK cL cM
 have cS:=af.f1 bE
 have cT:=af.g 1 21
 have⟨b5,b6,b7⟩:=nw3 aq bZ b0 b1
 refine b2 _ _<| wf cT<| wk fun dE b8=>?_
 refine wA tr2 [] 60 [vF,vF] aK ?_ ?_
 exact .T (fun k=>v_bin rfl (k.fx 10 cS) rfl (fun _=>rfl) (r_eqlS (r:=false) (by kernel_rfl)))<| .B 0 .nil
 refine aftI aK b3 b4 fun dF cU aL b9 al ar aj=>?_
 have⟨cV,bF,bG,cW⟩:=aj.f4 cO cP cQ cR
 have cX:=aj.g 1 31
 have⟨au,av,aM⟩:=nw3 ar b5 b6 b7
 refine b8 _ _<| wf cX<| ws ?_
 refine bP _ _<| wk fun dG cc=>?_
 refine wB [true,true,true,true,true,true,true,false,false] [5] [(7,false),(8,true)] 60 [ve (.agg #[.bool a,sv Aa ma ca]),ve (.agg #[.bool b,sv Ab mb cb]),ve (.tuple #[.agg #[.bool false,sv none ([]) 0],iv 4]),ve (.tuple #[.agg #[.bool false,sv none ([]) 0],iv 4]),ve (.agg #[.bool false,sv none ([]) 0]),ve (iv 4),IsNew cU 26 [.bool false,sv none ([]) 0],vt,vt] [6] aL ?_ ?_ ?_
 refine .L6 bF au<| .L6 bG av<| .C2 0 1 (fun n=>bDiv0_c a _ ma _ b _ mb _ _ (hra.new_ (al.transNew n)) (hrb.new_ (al.transNew n)) ha hb (by first|omega|(simp only [List.length_nil,List.length_take,List.length_drop]; omega)|(simp only [List.length_cons,List.length_nil]; omega)) (by first|omega|(simp only [List.length_nil,List.length_take,List.length_drop]; omega)|(simp only [List.length_cons,List.length_nil]; omega)) cB)<| .N 2<| .E 3 ?_
 refine .o3 ?_
 exact .Y<| .off<| .off .nil
 refine eg1 ?_
 exact eager_take rfl rfl fun _ w hn k=>⟨iv 4,fun w=>v_extract rfl (k.eq1 3 41 rfl) rfl,rfl⟩
 refine aftI aL b9 al fun bH dH aN aX aY aw ad=>?_
 have⟨cd,ce,cf,ch⟩:=ad.f4 cV bF bG cW
 have aO:=ad.g 4 45
 have aP:=ad.g 5 46
 obtain⟨ax,aQ,ag,aZ⟩:=ad.G 6 8
 have⟨a1,a3,a4⟩:=nw3 aw au av aM
 have hne114:bA ≠ ax:=by have h1:=au.lt; have h2:=ag; omega
 have hne115:bB ≠ ax:=by have h1:=av.lt; have h2:=ag; omega
 have hne116:aA ≠ ax:=by have h1:=aM.lt; have h2:=ag; omega
 have cY:=Nat.le_trans al.size ag
 refine sS6 aQ aO aZ fun c9 a5 a6 am=>?_
 have a8:=am hne114 a1
 have a9:=am hne115 a3
 have ba:=am hne116 a4
 have bb:=aY.tR a6
 refine sP aP aN aX fun ci aB bd aa cp=>?_
 have⟨cj,cl,cm⟩:=aa.q3 cd ce cf
 have⟨cn,db,dc⟩:=aa.q3 ch aO aP
 have co:=aa.q aQ
 refine cc _ _ <| wk fun dd be=>?_
 refine wk fun de bf=>?_
 refine wA tr2 [] 60 [ve (.string ⟨#[47]⟩),vF] aB ?_ ?_
 exact .M cj<| .T (fun k=>v_bin rfl (k.eq1 0 47 rfl) rfl (fun _=>rfl) (r_eqlS (r:=false) (by kernel_rfl))) .nil
 refine aftI aB bd bb fun df dg aC bg bh ah ab=>?_
 have⟨dh,di,cq,cr⟩:=ab.f4 cl cm cn co
 have ct:=ab.f1 cp
 have cu:=ab.g 1 48
 have⟨cZ,c0,bi,bj⟩:=nw4 ah a8 a9 ba a5
 refine bf _ _<| wf cu<| ws ?_
 refine be _ _<| wk fun dj c1=>wk fun dk bk=>?_
 refine wA tr2 [] 60 [ve (iv 4),vT] aC ?_ ?_
 exact .M ct<| .T (fun k=>v_bin rfl (k.eq1 0 55 rfl) rfl (fun _=>rfl) (fun w=>by kernel_rfl)) .nil
 refine aftI aC bg bh fun dl dm aD bl bm aE an=>?_
 have⟨cv,dn⟩:=an.f2 cq cr
 have cw:=an.g 1 56
 have⟨bn,c2⟩:=nw2 aE bi bj
 refine bk _ _<| wt cw<| wk fun dp bo=>?_
 refine wA [true,false,false] [(1,false),(2,true)] 60 [ve (vv (Vl.mk 0 0 0 false [] [] 0) none 0 none 0),vt,vt] aD ?_ ?_
 exact .Z<| .off<| .off .nil
 refine aftI aD bl bm fun aS dq aF bp bq br aG=>?_
 have aT:=aG.f1 cv
 have aU:=aG.g 0 57
 have bs:=bn.new_ br
 refine sS9 aT aU bs fun cx bu bt c3=>?_
 have bw:=bq.tR bt
 refine sP (v:=iv 2) rfl aF bp fun cy c4 bx ac cA=>?_
 have⟨cz,ds⟩:=ac.q2 aT aU
 refine bo _ _<| wp_ret (ret_k bx (v:=.tuple #[vv (Vl.mk 0 0 0 false [] [] 0) none 0 none 0,iv 2]) (res_ct rfl cz cA (l_agg isAgg29 sizeOf29 bu rfl)) ?_)
 exact⟨rfl,bw⟩
theorem sumsB_c  (v:Vl) (Av:Option Addr) (cv:Nat) (Bv:Option Addr) (dv:Nat) (u:Vl) (Au:Option Addr) (cu:Nat) (Bu:Option Addr) (du:Nat) (w:World) (hmv:SRow w .u32 Av v.mag cv) (hsv:SRow w .u16 Bv v.s dv) (hmu:SRow w .u32 Au u.mag cu) (hsu:SRow w .u16 Bu u.s du) (hvv:VOk v) (hvu:VOk u) (hns:(numericsV v u).2.2=0) (hk:(numericsV v u).1.k=4) (da:goodI (numericsV v u).2.1.neg (numericsV v u).2.1.mag=0):Calls prog 36 #[.string ⟨#[47]⟩,vv v Av cv Bv dv,vv u Au cu Bu du] w (IsRet (.tuple #[vv (Vl.mk 0 0 0 false [] [] 0) none 0 none 0,iv 2]) w):=by
 refine enter_abs func36 rfl fun a0 aX db hp=>?_
 have aX:a0.tmps.size=92:=aX
 have aY:New w w:=Upd.refl _ _
 have hp0:a0.eval (.tmp 0)=.string ⟨#[47]⟩:=hp 0 _ rfl
 have hp1:a0.eval (.tmp 1)=vv v Av cv Bv dv:=hp 1 _ rfl
 have hp2:a0.eval (.tmp 2)=vv u Au cu Bu du:=hp 2 _ rfl
 have ej:=(VOk.numerics1 hvv hvu).mlen
 have ek:=(VOk.numerics2 hvv hvu).mlen
 refine wk fun K1 dc=>?_
 refine wB tr4 [] [] 92 [IsNew w 29 (c7 v Av cv Bv dv),IsNew w 29 (c7 u Au cu Bu du),IsNew w 29 z7,ve (iv 0)] [0,1,2] aX ?_ heN ?_
 exact .X hp1<| .X hp2<| .Y<| .c .nil
 refine aftI aX db aY fun a2 w3 b4 dd ao el aN=>?_
 have h8:=aN.f1 hp0
 obtain⟨de,h9,b7,b8⟩:=aN.G 0 4
 obtain⟨df,b5,b9,ca⟩:=aN.G 1 5
 obtain⟨aQ,bb,cb,aU⟩:=aN.G 2 6
 have hne21:=aN.ne 0 2 4 6 h9 bb
 have hne22:=aN.ne 1 2 5 6 b5 bb
 have dQ:=Nat.le_trans aY.size b7
 have dR:=Nat.le_trans aY.size b9
 have dS:=Nat.le_trans aY.size cb
 refine dc _ _ <| wk fun em cc=>?_
 refine wp_gS (fun W=>True) (fun W W' hn h=>trivial) trivial [true,true,true,true,true,true,true,true,true,false,false,false] [5,6] [(9,false),(10,false),(11,true)] 92
  [ve (vv v Av cv Bv dv),ve (vv u Au cu Bu du),(TQ (numericsV v u).1 (numericsV v u).2.1 ((numericsV v u).2.2)),(TQ (numericsV v u).1 (numericsV v u).2.1 ((numericsV v u).2.2)),(fun (v_:Value) (W:World)=>∃ (az:Option Addr) (aA:Nat) (aB:Option Addr) (aC:Nat),v_=vv (numericsV v u).1 az aA aB aC∧SRow W .u32 az ((numericsV v u).1.mag) aA∧SRow W .u16 aB ((numericsV v u).1.s) aC),(fun (v_:Value) (W:World)=>∃ (aD:Option Addr) (aE:Nat) (aF:Option Addr) (aG:Nat),v_=vv (numericsV v u).2.1 aD aE aF aG∧SRow W .u32 aD ((numericsV v u).2.1.mag) aE∧SRow W .u16 aF ((numericsV v u).2.1.s) aG),ve (iv ((numericsV v u).2.2)),IsNew w3 29 z7,IsNew w3 29 z7,vt,vt,vt]
  [7,8] (newsCons (fun v w h=>IsNew.old h) (newsCons (fun v w h=>IsNew.old h) newsNil)) b4 (.eq (.eq (.cons (fun _ _ _ n ⟨_,_,_,_,_,_,_,_,e,h,i,j,l⟩=>⟨_,_,_,_,_,_,_,_,e,h.new_ n,i.new_ n,j.new_ n,l.new_ n⟩) (.cons (fun _ _ _ n ⟨_,_,_,_,_,_,_,_,e,h,i,j,l⟩=>⟨_,_,_,_,_,_,_,_,e,h.new_ n,i.new_ n,j.new_ n,l.new_ n⟩) (.cons (fun _ _ _ n ⟨_,_,_,_,e,h,i⟩=>⟨_,_,_,_,e,h.new_ n,i.new_ n⟩) (.cons (fun _ _ _ n ⟨_,_,_,_,e,h,i⟩=>⟨_,_,_,_,e,h.new_ n,i.new_ n⟩) (.eq (.nw (.nw (.tt (.tt (.tt .nil)))))))))))) ?_ ?_ ?_
 refine .L9 h9 b8<| .L9 b5 ca ?_
 refine .o1 (tkC rfl (noG rfl) rfl fun _ w hn k=>(by
  refine ⟨#[vv v Av cv Bv dv,vv u Au cu Bu du],_,args2 (k.eq1 0 12 rfl) (k.eq1 1 13 rfl),fun w=>by kernel_rfl,numerics_c v _ _ _ _ u _ _ _ _ _ (hmv.new_ (ao.transNew hn)) (hsv.new_ (ao.transNew hn)) (hmu.new_ (ao.transNew hn)) (hsu.new_ (ao.transNew hn)) hvv hvu,?_⟩
  rintro e w' ⟨A1,c2,A3,c4,A5,c6,A7,c8,rfl,hmo0,hmo1,hmo2,hmo3,hm⟩
  exact⟨_,rfl,hm,⟨A1,c2,A3,c4,A5,c6,A7,c8,rfl,hmo0,hmo1,hmo2,hmo3⟩⟩)) ?_
 refine .o1 (tk rfl rfl fun _ w hn k=>(by
  obtain⟨dg,dh,di,dj,dk,dl,dm,dn,dp,cd,ce,cf,ch⟩:=k.G 2 14
  exact⟨_,v_move rfl dp,⟨dg,dh,di,dj,dk,dl,dm,dn,rfl,cd,ce,cf,ch⟩⟩)) ?_
 refine .o1 (tk rfl rfl fun _ w hn k=>(by
  obtain⟨dq,dr,aR,ds,en,eo,aO,ep,dt,ci,cj,dT,dU⟩:=k.G 3 11
  exact⟨_,v_extract rfl dt rfl,⟨dq,dr,aR,ds,rfl,ci,cj⟩⟩)) ?_
 refine .o3 ?_
 refine .o3 ?_
 exact .Y<| .Y<| .off<| .off<| .off .nil
 refine eg2 ?_ ?_
 exact eager_takeG rfl (noG rfl) fun _ w hn k=>(by
  obtain⟨er,es,et,eu,dw,dx,dy,dz,dA,dV,dW,cl,cm⟩:=k.G 3 11
  exact⟨_,fun w hS=>v_extract rfl dA rfl,⟨dw,dx,dy,dz,rfl,cl,cm⟩⟩)
 exact eager_takeG rfl (noG rfl) fun _ w hn k=>(by
  obtain⟨ev,ew,ex,ey,ez,eA,eB,eC,dB,dX,dY,dZ,d0⟩:=k.G 3 11
  exact⟨_,fun w hS=>v_extract rfl dB rfl,rfl⟩)
 intro aZ eD _ bd aj
 obtain⟨be,cn,co⟩:=aft aj b4 dd ao bd
 have⟨dC,dD⟩:=aj.f2 h8 bb
 obtain⟨aS,aH,aR,aV,a1,cp,cq⟩:=aj.G 4 15
 have a1:aZ.eval (.tmp 15)=vv (numericsV v u).1 aS aH aR aV:=a1
 obtain⟨aO,aI,bf,aW,a3,cr,ct⟩:=aj.G 5 16
 have a3:aZ.eval (.tmp 16)=vv (numericsV v u).2.1 aO aI bf aW:=a3
 have b6:=aj.g 6 17
 obtain⟨aT,bg,bh,aJ⟩:=aj.G 7 8
 obtain⟨a4,bi,bj,cw⟩:=aj.G 8 9
 have cx:=aU.new_ bd
 have hne60:=aj.ne 7 8 8 9 bg bi
 have hne61:aQ ≠ aT:=by have h1:=aU.lt; have h2:=bh; omega
 have hne62:aQ ≠ a4:=by have h1:=aU.lt; have h2:=bj; omega
 have d1:=Nat.le_trans ao.size bh
 have d2:=Nat.le_trans ao.size bj
 refine sS9 bg a1 aJ fun dE cy aK bk=>?_
 have cA:=cp.fr aJ aK
 have cB:=cq.fr aJ aK
 have cC:=cr.fr aJ aK
 have cD:=ct.fr aJ aK
 have cE:=bk hne61 cx
 have aL:=bk hne60.symm cw
 have cF:=co.tR aK
 refine sS9 bi a3 aL fun dF cG aM bl=>?_
 have cI:=cA.fr aL aM
 have cJ:=cB.fr aL aM
 have cK:=cC.fr aL aM
 have cL:=cD.fr aL aM
 have cM:=bl hne62 cE
 have cN:=bl hne60 cy
 have cO:=cF.tR aM
 refine sP b6 be cn fun dG bm cP aa bn=>?_
 have⟨dH,dI,d3⟩:=aa.q3 dC dD a1
 have⟨d4,d5,cQ⟩:=aa.q3 a3 b6 bg
 have cR:=aa.q bi
 refine cc _ _ <| wk fun d6 dL=>?_
 refine wb<| wk fun d7 bA=>?_
 refine wA tr3 [] 92 [ve (iv ((numericsV v u).2.2)),ve (.bool (!decide (((numericsV v u).2.2)=0))),ve (.bool (!decide (((numericsV v u).2.2)=0)))] bm ?_ ?_
 exact .M bn<| .b 0 (r_neq rfl)<| .B 1 .nil
 refine aftI bm cP cO fun d8 d9 a5 bB bC ak an=>?_
 have⟨cS,cT,bo,cU⟩:=an.f4 dH dI cQ cR
 have ea:=an.f1 bn
 have cV:=an.g 2 18
 have⟨bD,a6,bE,bF⟩:=nw4 ak cM cN cG cI
 have⟨bG,bH,bI⟩:=nw3 ak cJ cK cL
 refine bA _ _ ?_
 have a7:((!decide (((numericsV v u).2.2)=0)))=false:=(nf (decide_eq_true (hns)))
 have bJ:=hB cV a7
 have bK:(decide (((numericsV v u).2.2)=0))=true:=nT a7
 have dJ:=oT bK
 refine wf bJ<| wk fun eb bL=>?_
 refine wA tr4 [] 92 [ve (pv aT),ve (iv ((numericsV v u).1.k)),ve (.bool (decide (((numericsV v u).1.k)=4))),ve (.bool (decide (((numericsV v u).1.k)=4)))] a5 ?_ ?_
 exact .F bo<| .J 0 isAgg3 a6<| .b 1 (r_eql rfl)<| .B 2 .nil
 refine aftI a5 bB bC fun ec ed a8 bM bN al ap=>?_
 have⟨cW,cX,cY,cZ⟩:=ap.f4 cS cT bo cU
 have c0:=ap.g 3 23
 have⟨bO,bP,bQ,bR⟩:=nw4 al bD a6 bE bF
 have⟨dM,bS,dN⟩:=nw3 al bG bH bI
 refine bL _ _ ?_
 have a9:(decide (((numericsV v u).1.k)=4))=true:=decide_eq_true (hk)
 have dK:=oT a9
 have bT:=hB c0 a9
 refine wt bT<| wk fun ee bU=>?_
 refine wA [true,true,true,true,true,true,true,true,false,false] [(8,false),(9,true)] 92 [ve (.string ⟨#[47]⟩),ve (.pointer (some ⟨aT,3,none⟩)),ve (.agg #[.bool ((numericsV v u).1.neg),sv aS ((numericsV v u).1.mag) aH]),ve (.pointer (some ⟨a4,3,none⟩)),ve (.agg #[.bool ((numericsV v u).2.1.neg),sv aO ((numericsV v u).2.1.mag) aI]),ve (.tuple #[vv (Vl.mk 0 0 0 false [] [] 0) none 0 none 0,iv 2]),ve (vv (Vl.mk 0 0 0 false [] [] 0) none 0 none 0),ve (iv 2),vt,vt] a8 ?_ ?_
 exact .M cW<| .F cY<| .K6 1 bP<| .F cZ<| .K6 3 bQ<| .D (fun k=>args3 (k.eq1 0 27 rfl) (k.eq1 2 29 rfl) (k.eq1 4 31 rfl)) (fun p=>bigsD0_c ((numericsV v u).1.neg) _ ((numericsV v u).1.mag) _ ((numericsV v u).2.1.neg) _ ((numericsV v u).2.1.mag) _ _ (bR.new_ p) (bS.new_ p) (VOk.numerics1 hvv hvu).limbs (VOk.numerics2 hvv hvu).limbs (by first|omega|(simp only [List.length_nil,List.length_take,List.length_drop]; omega)|(simp only [List.length_cons,List.length_nil]; omega)) (by first|omega|(simp only [List.length_nil,List.length_take,List.length_drop]; omega)|(simp only [List.length_cons,List.length_nil]; omega)) da)<| .E 5<| .E 5<| .off<| .off .nil
 refine aftI a8 bM bN fun bp ef ba bV bW bX aP=>?_
 have bq:=aP.f1 cX
 have br:=aP.g 6 33
 have bs:=aP.g 7 34
 have bY:=bO.new_ bX
 refine sS9 bq br bY fun c1 b0 bZ dO=>?_
 have b2:=bW.tR bZ
 refine sP bs ba bV fun c3 dP b3 am c9=>?_
 have⟨c5,eh,ei⟩:=am.q3 bq br bs
 refine bU _ _<| wp_ret (ret_k b3 (v:=.tuple #[vv (Vl.mk 0 0 0 false [] [] 0) none 0 none 0,iv 2]) (res_ct rfl c5 c9 (l_agg isAgg29 sizeOf29 b0 rfl)) ?_)
 exact⟨rfl,b2⟩
theorem binD_c  (v:Vl) (Av:Option Addr) (cv:Nat) (Bv:Option Addr) (dv:Nat) (u:Vl) (Au:Option Addr) (cu:Nat) (Bu:Option Addr) (du:Nat) (w:World) (hmv:SRow w .u32 Av v.mag cv) (hsv:SRow w .u16 Bv v.s dv) (hmu:SRow w .u32 Au u.mag cu) (hsu:SRow w .u16 Bu u.s du) (hvv:VOk v) (hvu:VOk u) (hns:(numericsV (cleanV v) (cleanV u)).2.2=0) (hk:(numericsV (cleanV v) (cleanV u)).1.k=3) (hX:(Nm.mk (numericsV (cleanV v) (cleanV u)).1.nk (numericsV (cleanV v) (cleanV u)).1.nn)=⟨0,1⟩) (hY:(Nm.mk (numericsV (cleanV v) (cleanV u)).2.1.nk (numericsV (cleanV v) (cleanV u)).2.1.nn)=⟨0,2⟩):Calls prog 12 #[.string ⟨#[47]⟩,vv v Av cv Bv dv,vv u Au cu Bu du] w (IsRet (.tuple #[vv (Vl.mk 0 0 0 false [] [] 0) none 0 none 0,iv 3]) w):=by
 refine enter_abs func12 rfl fun a0 aE dm hp=>?_
 have aE:a0.tmps.size=120:=aE
 have aF:New w w:=Upd.refl _ _
 have hp0:a0.eval (.tmp 0)=.string ⟨#[47]⟩:=hp 0 _ rfl
 have hp1:a0.eval (.tmp 1)=vv v Av cv Bv dv:=hp 1 _ rfl
 have hp2:a0.eval (.tmp 2)=vv u Au cu Bu du:=hp 2 _ rfl
 refine wk fun K1 dn=>?_
 refine wB tr4 [] [] 120 [IsNew w 29 (c7 v Av cv Bv dv),IsNew w 29 (c7 u Au cu Bu du),IsNew w 29 z7,ve (iv 0)] [0,1,2] aE ?_ heN ?_
 exact .X hp1<| .X hp2<| .Y<| .c .nil
 refine aftI aE dm aF fun a2 w3 cb dp al d5 am=>?_
 have h8:=am.f1 hp0
 obtain⟨aM,h9,ci,aN⟩:=am.G 0 4
 obtain⟨aO,aG,cj,aP⟩:=am.G 1 5
 obtain⟨aQ,aR,cl,cm⟩:=am.G 2 6
 have hne21:=am.ne 0 1 4 5 h9 aG
 have hne22:=am.ne 0 2 4 6 h9 aR
 have hne23:=am.ne 1 2 5 6 aG aR
 have dI:=Nat.le_trans aF.size ci
 have dJ:=Nat.le_trans aF.size cj
 have dK:=Nat.le_trans aF.size cl
 refine dn _ _ <| wk fun d6 cn=>?_
 refine wp_g0 [true,true,true,true,false,false] [(4,false),(5,false)] 120
  [ve (vv v Av cv Bv dv),
  (VP (cleanV v)),ve (vv u Au cu Bu du),
  (VP (cleanV u)),vt,vt] cb (.eq (.cons (fun _ _ _ n ⟨_,_,_,_,e,h,i⟩=>⟨_,_,_,_,e,h.new_ n,i.new_ n⟩) (.eq (.cons (fun _ _ _ n ⟨_,_,_,_,e,h,i⟩=>⟨_,_,_,_,e,h.new_ n,i.new_ n⟩) (.tt (.tt .nil)))))) ?_ ?_
 refine .L9 h9 aN ?_
 refine .o1 (tkC rfl (noG rfl) rfl fun _ w hn k=>(by
  refine ⟨#[vv v Av cv Bv dv],_,args1 (k.eq1 0 10 rfl),fun w=>by kernel_rfl,clean_c v _ _ _ _ _ (hmv.new_ (al.transNew hn)) (hsv.new_ (al.transNew hn)),?_⟩
  rintro e w' ⟨A1,c2,A3,c4,rfl,hmo0,hmo1,hm⟩
  exact⟨_,rfl,hm,⟨A1,c2,A3,c4,rfl,hmo0,hmo1⟩⟩)) ?_
 refine .L9 aG aP ?_
 refine .o1 (tkC rfl (noG rfl) rfl fun _ w hn k=>(by
  refine ⟨#[vv u Au cu Bu du],_,args1 (k.eq1 2 12 rfl),fun w=>by kernel_rfl,clean_c u _ _ _ _ _ (hmu.new_ (al.transNew hn)) (hsu.new_ (al.transNew hn)),?_⟩
  rintro e w' ⟨A9,dw,dx,dy,rfl,hmo0,hmo1,hm⟩
  exact⟨_,rfl,hm,⟨A9,dw,dx,dy,rfl,hmo0,hmo1⟩⟩)) ?_
 exact .off<| .off .nil
 refine aftI cb dp al fun cc d7 aS co cp aD ak=>?_
 have⟨cd,ce,cf,dz⟩:=ak.f4 h8 h9 aG aR
 obtain⟨az,an,aA,ao,aT,cq,cr⟩:=ak.G 1 11
 have aT:cc.eval (.tmp 11)=vv (cleanV v) az an aA ao:=aT
 obtain⟨aB,ap,aC,aq,aU,ct,cw⟩:=ak.G 3 13
 have aU:cc.eval (.tmp 13)=vv (cleanV u) aB ap aC aq:=aU
 have⟨ar,cx,cy⟩:=nw3 aD aN aP cm
 refine sS9 ce aT ar fun dA cz au aV=>?_
 have cB:=cq.fr ar au
 have cC:=cr.fr ar au
 have cD:=ct.fr ar au
 have cE:=cw.fr ar au
 have av:=aV hne21.symm cx
 have cF:=aV hne22.symm cy
 have cG:=cp.tR au
 refine sS9 cf aU av fun dB cH aw aW=>?_
 have cJ:=cB.fr av aw
 have cK:=cC.fr av aw
 have cL:=cD.fr av aw
 have cM:=cE.fr av aw
 have cN:=aW hne21 cz
 have cO:=aW hne23.symm cF
 have cP:=cG.tR aw
 refine cn _ _ <| wk fun ea dL=>?_
 refine wk fun eb cQ=>?_
 refine wA tr1 [] 120 [ve (.string ⟨#[47]⟩)] aS ?_ ?_
 exact .M cd .nil
 refine aftI aS co cP fun ec ed aX cR bf aj ax=>?_
 have⟨dC,dD,dE,dF⟩:=ax.f4 cd ce cf dz
 have ch:=ax.g 0 14
 have⟨cS,cT,bg,bh⟩:=nw4 aj cN cH cO cJ
 have⟨bi,bj,bk⟩:=nw3 aj cK cL cM
 refine cQ _ _<| wb<| wk fun dM bl=>?_
 refine wA tr2 [] 120 [vF,vF] aX ?_ ?_
 exact .T (fun k=>v_bin rfl (k.fx 14 ch) rfl (fun _=>rfl) (r_eqlS (r:=false) (by kernel_rfl)))<| .B 0 .nil
 refine aftI aX cR bf fun dN dO aH bm bn aa af=>?_
 have⟨cU,cV,cW,cX⟩:=af.f4 dC dD dE dF
 have aY:=af.f1 ch
 have cY:=af.g 1 15
 have⟨bo,bp,bq,br⟩:=nw4 aa cS cT bg bh
 have⟨bs,bt,bu⟩:=nw3 aa bi bj bk
 refine bl _ _<| wf cY<| wk fun dP bv=>wk fun dQ bw=>?_
 refine wA tr2 [] 120 [vF,vF] aH ?_ ?_
 exact .T (fun k=>v_bin rfl (k.fx 14 aY) rfl (fun _=>rfl) (r_eqlS (r:=false) (by kernel_rfl)))<| .B 0 .nil
 refine aftI aH bm bn fun dR dS aI bx bz ab ag=>?_
 have⟨cZ,c0,c1,c3⟩:=ag.f4 cU cV cW cX
 have aZ:=ag.f1 aY
 have c5:=ag.g 1 36
 have⟨bA,bB,bC,bD⟩:=nw4 ab bo bp bq br
 have⟨bE,bF,bG⟩:=nw3 ab bs bt bu
 refine bw _ _<| wf c5<| wk fun dT bH=>?_
 refine wA tr2 [] 120 [vF,vF] aI ?_ ?_
 exact .T (fun k=>v_bin rfl (k.fx 14 aZ) rfl (fun _=>rfl) (r_eqlS (r:=false) (by kernel_rfl)))<| .B 0 .nil
 refine aftI aI bx bz fun dU dV aJ bI bJ ac ah=>?_
 have⟨c9,da,db,dc⟩:=ah.f4 cZ c0 c1 c3
 have a1:=ah.f1 aZ
 have dd:=ah.g 1 36
 have⟨bK,bL,bM,bN⟩:=nw4 ac bA bB bC bD
 have⟨bO,bP,bQ⟩:=nw3 ac bE bF bG
 refine bH _ _<| wf dd<| wk fun dW bR=>?_
 refine wA tr2 [] 120 [vT,vT] aJ ?_ ?_
 exact .T (fun k=>v_bin rfl (k.fx 14 a1) rfl (fun _=>rfl) (r_eqlS (r:=true) (by kernel_rfl)))<| .B 0 .nil
 refine aftI aJ bI bJ fun dX dY aK bS bT ad ai=>?_
 have⟨de,df,dg,dh⟩:=ai.f4 c9 da db dc
 have dZ:=ai.f1 a1
 have a3:=ai.g 1 36
 have⟨bU,bV,bW,bX⟩:=nw4 ad bK bL bM bN
 have⟨bY,bZ,b0⟩:=nw3 ad bO bP bQ
 refine bR _ _<| wt a3<| ws ?_
 refine bv _ _<| wt a3<| wk fun d0 b1=>?_
 refine wA [true,true,true,true,true,true,false,false] [(6,false),(7,true)] 120 [ve (.string ⟨#[47]⟩),ve (vv (cleanV v) az an aA ao),ve (vv (cleanV u) aB ap aC aq),ve (.tuple #[vv (Vl.mk 0 0 0 false [] [] 0) none 0 none 0,iv 3]),ve (vv (Vl.mk 0 0 0 false [] [] 0) none 0 none 0),ve (iv 3),vt,vt] aK ?_ ?_
 exact .M de<| .L9 df bU<| .L9 dg bV<| .D (fun k=>args3 (k.eq1 0 41 rfl) (k.eq1 1 42 rfl) (k.eq1 2 43 rfl)) (fun p=>sumsD_c (cleanV v) _ _ _ _ (cleanV u) _ _ _ _ _ (bX.new_ p) (bY.new_ p) (bZ.new_ p) (b0.new_ p) hvv.clean hvu.clean hns hk hX hY)<| .E 3<| .E 3<| .off<| .off .nil
 refine aftI aK bS bT fun a4 d1 aL b2 b3 b4 ay=>?_
 have a5:=ay.f1 dh
 have a6:=ay.g 4 45
 have a7:=ay.g 5 46
 have b5:=bW.new_ b4
 refine sS9 a5 a6 b5 fun di b7 b6 dG=>?_
 have b9:=b3.tR b6
 refine sP a7 aL b2 fun dj dH ca ae dl=>?_
 have⟨dk,d3,d4⟩:=ae.q3 a5 a6 a7
 refine b1 _ _<| wp_ret (ret_k ca (v:=.tuple #[vv (Vl.mk 0 0 0 false [] [] 0) none 0 none 0,iv 3]) (res_ct rfl dk dl (l_agg isAgg29 sizeOf29 b7 rfl)) ?_)
 exact⟨rfl,b9⟩
theorem binB_c  (v:Vl) (Av:Option Addr) (cv:Nat) (Bv:Option Addr) (dv:Nat) (u:Vl) (Au:Option Addr) (cu:Nat) (Bu:Option Addr) (du:Nat) (w:World) (hmv:SRow w .u32 Av v.mag cv) (hsv:SRow w .u16 Bv v.s dv) (hmu:SRow w .u32 Au u.mag cu) (hsu:SRow w .u16 Bu u.s du) (hvv:VOk v) (hvu:VOk u) (hns:(numericsV (cleanV v) (cleanV u)).2.2=0) (hk:(numericsV (cleanV v) (cleanV u)).1.k=4) (dm:goodI (numericsV (cleanV v) (cleanV u)).2.1.neg (numericsV (cleanV v) (cleanV u)).2.1.mag=0):Calls prog 12 #[.string ⟨#[47]⟩,vv v Av cv Bv dv,vv u Au cu Bu du] w (IsRet (.tuple #[vv (Vl.mk 0 0 0 false [] [] 0) none 0 none 0,iv 2]) w):=by
 refine enter_abs func12 rfl fun a0 aE dn hp=>?_
 have aE:a0.tmps.size=120:=aE
 have aF:New w w:=Upd.refl _ _
 have hp0:a0.eval (.tmp 0)=.string ⟨#[47]⟩:=hp 0 _ rfl
 have hp1:a0.eval (.tmp 1)=vv v Av cv Bv dv:=hp 1 _ rfl
 have hp2:a0.eval (.tmp 2)=vv u Au cu Bu du:=hp 2 _ rfl
 refine wk fun K1 dp=>?_
 refine wB tr4 [] [] 120 [IsNew w 29 (c7 v Av cv Bv dv),IsNew w 29 (c7 u Au cu Bu du),IsNew w 29 z7,ve (iv 0)] [0,1,2] aE ?_ heN ?_
 exact .X hp1<| .X hp2<| .Y<| .c .nil
 refine aftI aE dn aF fun a2 w3 cb dq al d6 am=>?_
 have h8:=am.f1 hp0
 obtain⟨aM,h9,ci,aN⟩:=am.G 0 4
 obtain⟨aO,aG,cj,aP⟩:=am.G 1 5
 obtain⟨aQ,aR,cl,cm⟩:=am.G 2 6
 have hne21:=am.ne 0 1 4 5 h9 aG
 have hne22:=am.ne 0 2 4 6 h9 aR
 have hne23:=am.ne 1 2 5 6 aG aR
 have dJ:=Nat.le_trans aF.size ci
 have dK:=Nat.le_trans aF.size cj
 have dL:=Nat.le_trans aF.size cl
 refine dp _ _ <| wk fun d7 cn=>?_
 refine wp_g0 [true,true,true,true,false,false] [(4,false),(5,false)] 120
  [ve (vv v Av cv Bv dv),
  (VP (cleanV v)),ve (vv u Au cu Bu du),
  (VP (cleanV u)),vt,vt] cb (.eq (.cons (fun _ _ _ n ⟨_,_,_,_,e,h,i⟩=>⟨_,_,_,_,e,h.new_ n,i.new_ n⟩) (.eq (.cons (fun _ _ _ n ⟨_,_,_,_,e,h,i⟩=>⟨_,_,_,_,e,h.new_ n,i.new_ n⟩) (.tt (.tt .nil)))))) ?_ ?_
 refine .L9 h9 aN ?_
 refine .o1 (tkC rfl (noG rfl) rfl fun _ w hn k=>(by
  refine ⟨#[vv v Av cv Bv dv],_,args1 (k.eq1 0 10 rfl),fun w=>by kernel_rfl,clean_c v _ _ _ _ _ (hmv.new_ (al.transNew hn)) (hsv.new_ (al.transNew hn)),?_⟩
  rintro e w' ⟨A1,c2,A3,c4,rfl,hmo0,hmo1,hm⟩
  exact⟨_,rfl,hm,⟨A1,c2,A3,c4,rfl,hmo0,hmo1⟩⟩)) ?_
 refine .L9 aG aP ?_
 refine .o1 (tkC rfl (noG rfl) rfl fun _ w hn k=>(by
  refine ⟨#[vv u Au cu Bu du],_,args1 (k.eq1 2 12 rfl),fun w=>by kernel_rfl,clean_c u _ _ _ _ _ (hmu.new_ (al.transNew hn)) (hsu.new_ (al.transNew hn)),?_⟩
  rintro e w' ⟨A9,dx,dy,dz,rfl,hmo0,hmo1,hm⟩
  exact⟨_,rfl,hm,⟨A9,dx,dy,dz,rfl,hmo0,hmo1⟩⟩)) ?_
 exact .off<| .off .nil
 refine aftI cb dq al fun cc d8 aS co cp aD ak=>?_
 have⟨cd,ce,cf,dA⟩:=ak.f4 h8 h9 aG aR
 obtain⟨az,an,aA,ao,aT,cq,cr⟩:=ak.G 1 11
 have aT:cc.eval (.tmp 11)=vv (cleanV v) az an aA ao:=aT
 obtain⟨aB,ap,aC,aq,aU,ct,cw⟩:=ak.G 3 13
 have aU:cc.eval (.tmp 13)=vv (cleanV u) aB ap aC aq:=aU
 have⟨ar,cx,cy⟩:=nw3 aD aN aP cm
 refine sS9 ce aT ar fun dB cz au aV=>?_
 have cB:=cq.fr ar au
 have cC:=cr.fr ar au
 have cD:=ct.fr ar au
 have cE:=cw.fr ar au
 have av:=aV hne21.symm cx
 have cF:=aV hne22.symm cy
 have cG:=cp.tR au
 refine sS9 cf aU av fun dC cH aw aW=>?_
 have cJ:=cB.fr av aw
 have cK:=cC.fr av aw
 have cL:=cD.fr av aw
 have cM:=cE.fr av aw
 have cN:=aW hne21 cz
 have cO:=aW hne23.symm cF
 have cP:=cG.tR aw
 refine cn _ _ <| wk fun eb dM=>?_
 refine wk fun ec cQ=>?_
 refine wA tr1 [] 120 [ve (.string ⟨#[47]⟩)] aS ?_ ?_
 exact .M cd .nil
 refine aftI aS co cP fun ed ee aX cR bf aj ax=>?_
 have⟨dD,dE,dF,dG⟩:=ax.f4 cd ce cf dA
 have ch:=ax.g 0 14
 have⟨cS,cT,bg,bh⟩:=nw4 aj cN cH cO cJ
 have⟨bi,bj,bk⟩:=nw3 aj cK cL cM
 refine cQ _ _<| wb<| wk fun dN bl=>?_
 refine wA tr2 [] 120 [vF,vF] aX ?_ ?_
 exact .T (fun k=>v_bin rfl (k.fx 14 ch) rfl (fun _=>rfl) (r_eqlS (r:=false) (by kernel_rfl)))<| .B 0 .nil
 refine aftI aX cR bf fun dO dP aH bm bn aa af=>?_
 have⟨cU,cV,cW,cX⟩:=af.f4 dD dE dF dG
 have aY:=af.f1 ch
 have cY:=af.g 1 15
 have⟨bo,bp,bq,br⟩:=nw4 aa cS cT bg bh
 have⟨bs,bt,bu⟩:=nw3 aa bi bj bk
 refine bl _ _<| wf cY<| wk fun dQ bv=>wk fun dR bw=>?_
 refine wA tr2 [] 120 [vF,vF] aH ?_ ?_
 exact .T (fun k=>v_bin rfl (k.fx 14 aY) rfl (fun _=>rfl) (r_eqlS (r:=false) (by kernel_rfl)))<| .B 0 .nil
 refine aftI aH bm bn fun dS dT aI bx bz ab ag=>?_
 have⟨cZ,c0,c1,c3⟩:=ag.f4 cU cV cW cX
 have aZ:=ag.f1 aY
 have c5:=ag.g 1 36
 have⟨bA,bB,bC,bD⟩:=nw4 ab bo bp bq br
 have⟨bE,bF,bG⟩:=nw3 ab bs bt bu
 refine bw _ _<| wf c5<| wk fun dU bH=>?_
 refine wA tr2 [] 120 [vF,vF] aI ?_ ?_
 exact .T (fun k=>v_bin rfl (k.fx 14 aZ) rfl (fun _=>rfl) (r_eqlS (r:=false) (by kernel_rfl)))<| .B 0 .nil
 refine aftI aI bx bz fun dV dW aJ bI bJ ac ah=>?_
 have⟨c9,da,db,dc⟩:=ah.f4 cZ c0 c1 c3
 have a1:=ah.f1 aZ
 have dd:=ah.g 1 36
 have⟨bK,bL,bM,bN⟩:=nw4 ac bA bB bC bD
 have⟨bO,bP,bQ⟩:=nw3 ac bE bF bG
 refine bH _ _<| wf dd<| wk fun dX bR=>?_
 refine wA tr2 [] 120 [vT,vT] aJ ?_ ?_
 exact .T (fun k=>v_bin rfl (k.fx 14 a1) rfl (fun _=>rfl) (r_eqlS (r:=true) (by kernel_rfl)))<| .B 0 .nil
 refine aftI aJ bI bJ fun dY dZ aK bS bT ad ai=>?_
 have⟨de,df,dg,dh⟩:=ai.f4 c9 da db dc
 have d0:=ai.f1 a1
 have a3:=ai.g 1 36
 have⟨bU,bV,bW,bX⟩:=nw4 ad bK bL bM bN
 have⟨bY,bZ,b0⟩:=nw3 ad bO bP bQ
 refine bR _ _<| wt a3<| ws ?_
 refine bv _ _<| wt a3<| wk fun d1 b1=>?_
 refine wA [true,true,true,true,true,true,false,false] [(6,false),(7,true)] 120 [ve (.string ⟨#[47]⟩),ve (vv (cleanV v) az an aA ao),ve (vv (cleanV u) aB ap aC aq),ve (.tuple #[vv (Vl.mk 0 0 0 false [] [] 0) none 0 none 0,iv 2]),ve (vv (Vl.mk 0 0 0 false [] [] 0) none 0 none 0),ve (iv 2),vt,vt] aK ?_ ?_
 exact .M de<| .L9 df bU<| .L9 dg bV<| .D (fun k=>args3 (k.eq1 0 41 rfl) (k.eq1 1 42 rfl) (k.eq1 2 43 rfl)) (fun p=>sumsB_c (cleanV v) _ _ _ _ (cleanV u) _ _ _ _ _ (bX.new_ p) (bY.new_ p) (bZ.new_ p) (b0.new_ p) hvv.clean hvu.clean hns hk dm)<| .E 3<| .E 3<| .off<| .off .nil
 refine aftI aK bS bT fun a4 d2 aL b2 b3 b4 ay=>?_
 have a5:=ay.f1 dh
 have a6:=ay.g 4 45
 have a7:=ay.g 5 46
 have b5:=bW.new_ b4
 refine sS9 a5 a6 b5 fun di b7 b6 dH=>?_
 have b9:=b3.tR b6
 refine sP a7 aL b2 fun dj dI ca ae dl=>?_
 have⟨dk,d4,d5⟩:=ae.q3 a5 a6 a7
 refine b1 _ _<| wp_ret (ret_k ca (v:=.tuple #[vv (Vl.mk 0 0 0 false [] [] 0) none 0 none 0,iv 2]) (res_ct rfl dk dl (l_agg isAgg29 sizeOf29 b7 rfl)) ?_)
 exact⟨rfl,b9⟩
theorem beside_c (a:Bool) (Aa:Option Addr) (ma:List Nat) (ca:Nat) (x:Nm) (w:World) (hra:SRow w .u32 Aa ma ca) (ha:Limbs ma) (hs:ma.length≤1000000) (hlo:-9223372036854775808≤x.n) (hhi:x.n≤9223372036854775807):Calls prog 153 #[.agg #[.bool a,sv Aa ma ca],nv x] w (IsRet (.tuple #[iv ((besideO a ma x).1),.bool ((besideO a ma x).2)]) w):=by
 refine enter_abs func153 rfl fun a0 al bz hp=>?_
 have al:a0.tmps.size=19:=al
 have ao:New w w:=Upd.refl _ _
 have hp0:a0.eval (.tmp 0)=.agg #[.bool a,sv Aa ma ca]:=hp 0 _ rfl
 have hp1:a0.eval (.tmp 1)=nv x:=hp 1 _ rfl
 have hnl:(canon x.n.natAbs).length≤8:=(canon_len8 _).2 (by omega)
 refine wk fun K1 bA=>?_
 refine wB tr4 [] [] 19 [IsNew w 26 [.bool a,sv Aa ma ca],IsNew w 23 [iv x.k,iv x.n],ve (iv 0),vF] [0,1] al ?_ heN ?_
 exact .X hp0<| .X hp1<| .c<| .c .nil
 refine aftI al bz ao fun a2 w3 aP bB aY b6 aQ=>?_
 obtain⟨q9,h8,aZ,a1⟩:=aQ.G 0 2
 obtain⟨aR,aS,a3,ap⟩:=aQ.G 1 3
 have bU:=Nat.le_trans ao.size aZ
 have bV:=Nat.le_trans ao.size a3
 refine bA _ _ <| wk fun b7 a4=>?_
 refine wk fun b8 a5=>?_
 refine wA tr2 [] 19 [ve (pv aR),ve (iv x.k)] aP ?_ ?_
 exact .F aS<| .J 0 isAgg3 ap .nil
 refine aftI aP bB aY fun b9 cb aq a6 a7 ar ai=>?_
 have⟨bC,bD⟩:=ai.f2 h8 aS
 have aT:=ai.g 1 7
 have⟨a8,a9⟩:=nw2 ar a1 ap
 refine a5 _ _<| wb<| wk fun cc ba=>?_
 refine wA tr2 [] 19 [ve (.bool (decide (x.k=2))),ve (.bool (decide (x.k=2)))] aq ?_ ?_
 exact .H aT (r_eql rfl)<| .B 0 .nil
 refine aftI aq a6 a7 fun cd ce ad au av aw ae=>?_
 have⟨bE,bF,aU⟩:=ae.f3 bC bD aT
 have aV:=ae.g 1 8
 have⟨bb,bd⟩:=nw2 aw a8 a9
 refine ba _ _ ?_
 rcases bc (decide (x.k=2)) with aa|aa
 have aF:=oT aa
 have be:=hB aV aa
 refine wt be<| wk fun cf bf=>?_
 refine wA tr2 [] 19 [ve (iv 0),vF] ad ?_ ?_
 exact .c<| .c .nil
 refine aftI ad au av fun ch ci bW bg bh bX ax=>?_
 have bG:=ax.g 0 4
 have bH:=ax.g 1 5
 refine bf _ _<| wp_ret (ret_k bg (v:=.tuple #[iv 0,.bool false]) (res_tt rfl bG bH _) ?_)
 refine ⟨?_,bh⟩
 show Ending.returned (.tuple #[iv 0,.bool false])=Ending.returned (.tuple #[iv ((besideO a ma x).1),.bool ((besideO a ma x).2)])
 first|rfl|(simp only [besideO,aa,good_canon (z:=x.n) (by omega),bsm] <;> rfl)|(exfalso; omega)
 have aF:=oF aa
 have bi:=hB aV aa
 refine wf bi<| wk fun cj bj=>?_
 refine wA tr2 [] 19 [ve (.bool (decide (x.k=3))),ve (.bool (decide (x.k=3)))] ad ?_ ?_
 exact .H aU (r_eql rfl)<| .B 0 .nil
 refine aftI ad au av fun cl cm af ay az aA ag=>?_
 have⟨bI,bJ,bK⟩:=ag.f3 bE bF aU
 have aW:=ag.g 1 10
 have⟨bk,bl⟩:=nw2 aA bb bd
 refine bj _ _ ?_
 rcases bc (decide (x.k=3)) with ac|ac
 have aG:=oT ac
 have bm:=hB aW ac
 refine wt bm<| wk fun cn bn=>?_
 refine wA tr2 [] 19 [ve (iv (-1)),vT] af ?_ ?_
 exact .c<| .c .nil
 refine aftI af ay az fun co cp bY bo bp bZ aB=>?_
 have bL:=aB.g 0 4
 have bM:=aB.g 1 5
 refine bn _ _<| wp_ret (ret_k bo (v:=.tuple #[iv (-1),.bool true]) (res_tt rfl bL bM _) ?_)
 refine ⟨?_,bp⟩
 show Ending.returned (.tuple #[iv (-1),.bool true])=Ending.returned (.tuple #[iv ((besideO a ma x).1),.bool ((besideO a ma x).2)])
 first|rfl|(simp only [besideO,aa,ac,good_canon (z:=x.n) (by omega),bsm] <;> rfl)|(exfalso; omega)
 have aG:=oF ac
 have bq:=hB aW ac
 refine wf bq<| wk fun cq br=>?_
 refine wA tr2 [] 19 [ve (.bool (decide (x.k=4))),ve (.bool (decide (x.k=4)))] af ?_ ?_
 exact .H bK (r_eql rfl)<| .B 0 .nil
 refine aftI af ay az fun cr ct ah aC aj aD ak=>?_
 have⟨bN,bO⟩:=ak.f2 bI bJ
 have aX:=ak.g 1 12
 have⟨bs,bt⟩:=nw2 aD bk bl
 refine br _ _ ?_
 rcases bc (decide (x.k=4)) with ab|ab
 have aE:=oT ab
 have aH:=hB aX ab
 refine wt aH<| wk fun b0 aI=>?_
 refine wA tr2 [] 19 [ve (iv 1),vT] ah ?_ ?_
 exact .c<| .c .nil
 refine aftI ah aC aj fun b1 b2 bQ aJ aK bR am=>?_
 have bu:=am.g 0 4
 have bv:=am.g 1 5
 refine aI _ _<| wp_ret (ret_k aJ (v:=.tuple #[iv 1,.bool true]) (res_tt rfl bu bv _) ?_)
 refine ⟨?_,aK⟩
 show Ending.returned (.tuple #[iv 1,.bool true])=Ending.returned (.tuple #[iv ((besideO a ma x).1),.bool ((besideO a ma x).2)])
 first|rfl|(simp only [besideO,aa,ac,ab,good_canon (z:=x.n) (by omega),bsm] <;> rfl)|(exfalso; omega)
 have aE:=oF ab
 have aL:=hB aX ab
 refine wf aL<| ws<| a4 _ _<| wk fun b3 aM=>?_
 refine wp_g0 [true,true,true,true,true,true,true] [] 19
  [ve (.agg #[.bool a,sv Aa ma ca]),ve (.pointer (some ⟨aR,1,none⟩)),ve (iv x.n),(fun (v_:Value) (W:World)=>∃ (A3:Option Addr) (c4:Nat),v_=.agg #[.bool (decide (x.n < 0)),sv A3 (canon (x.n).natAbs) c4]∧SRow W .u32 A3 (canon (x.n).natAbs) c4),ve (iv (cmpZ (goodI a ma) (goodI (decide (x.n < 0)) (canon (x.n).natAbs)))),ve (iv (cmpZ (goodI a ma) (goodI (decide (x.n < 0)) (canon (x.n).natAbs)))),vT] ah (.eq (.eq (.eq (.cons (fun _ _ _ n ⟨_,_,e,h⟩=>⟨_,_,e,h.new_ n⟩) (.eq (.eq (.eq .nil))))))) ?_ ?_
 refine .L6 bN bs<| .F bO<| .J 1 isAgg3 bt ?_
 refine .o1 (tkC rfl (noG rfl) rfl fun _ w hn k=>(by
  refine ⟨#[iv x.n],_,args1 (k.eq1 2 16 rfl),fun w=>by kernel_rfl,bOf_c x.n _ (by omega) (by omega),?_⟩
  rintro e w' ⟨A1,c2,rfl,hmo0,hm⟩
  exact⟨_,rfl,hm,⟨A1,c2,rfl,hmo0⟩⟩)) ?_
 refine .o1 (tkC rfl (noG rfl) rfl fun _ w hn k=>(by
  obtain⟨A5,c6,e7,bP⟩:=k.G 3 17
  refine ⟨#[.agg #[.bool a,sv Aa ma ca],.agg #[.bool (decide (x.n < 0)),sv A5 (canon (x.n).natAbs) c6]],_,args2 (k.eq1 0 14 rfl) e7,fun w=>by kernel_rfl,bCmp_c a _ ma _ (decide (x.n < 0)) _ (canon (x.n).natAbs) _ _ (hra.new_ (aj.transNew hn)) bP ha (limbs_canon _) (by first|omega|(simp only [List.length_nil,List.length_take,List.length_drop]; omega)|(simp only [List.length_cons,List.length_nil]; omega)) (by first|omega|(simp only [List.length_nil,List.length_take,List.length_drop]; omega)|(simp only [List.length_cons,List.length_nil]; omega)),?_⟩
  rintro e w' ⟨rfl,hm⟩
  exact⟨_,rfl,hm,rfl⟩)) ?_
 exact .B 4<| .c .nil
 refine aftI ah aC aj fun b4 b5 bS aN aO bT an=>?_
 have bw:=an.g 5 4
 have bx:=an.g 6 5
 refine aM _ _<| wp_ret (ret_k aN (v:=.tuple #[iv (cmpZ (goodI a ma) (goodI (decide (x.n < 0)) (canon (x.n).natAbs))),.bool true]) (res_tt rfl bw bx _) ?_)
 refine ⟨?_,aO⟩
 show Ending.returned (.tuple #[iv (cmpZ (goodI a ma) (goodI (decide (x.n < 0)) (canon (x.n).natAbs))),.bool true])=Ending.returned (.tuple #[iv ((besideO a ma x).1),.bool ((besideO a ma x).2)])
 first|rfl|(simp only [besideO,aa,ac,ab,good_canon (z:=x.n) (by omega),bsm] <;> rfl)|(exfalso; omega)
theorem orderB_c (v:Vl) (Av:Option Addr) (cv:Nat) (Bv:Option Addr) (dv:Nat) (u:Vl) (Au:Option Addr) (cu:Nat) (Bu:Option Addr) (du:Nat) (w:World) (hmv:SRow w .u32 Av v.mag cv) (hsv:SRow w .u16 Bv v.s dv) (hmu:SRow w .u32 Au u.mag cu) (hsu:SRow w .u16 Bu u.s du) (hvv:VOk v) (hvu:VOk u) (hk1:v.k=4) (hk2:u.k=3):Calls prog 81 #[vv v Av cv Bv dv,vv u Au cu Bu du] w (IsRet (.tuple #[iv ((besideO v.neg v.mag (Nm.mk u.nk u.nn)).1),.bool ((besideO v.neg v.mag (Nm.mk u.nk u.nn)).2)]) w):=by
 refine enter_abs func81 rfl fun a0 ad aN hp=>?_
 have ad:a0.tmps.size=65:=ad
 have ae:New w w:=Upd.refl _ _
 have hp0:a0.eval (.tmp 0)=vv v Av cv Bv dv:=hp 0 _ rfl
 have hp1:a0.eval (.tmp 1)=vv u Au cu Bu du:=hp 1 _ rfl
 have a6:=hvv.mlen
 have a7:=hvu.nlo
 have a8:=hvu.nhi
 refine wk fun K1 aO=>?_
 refine wB tr4 [] [] 65 [IsNew w 29 (c7 v Av cv Bv dv),IsNew w 29 (c7 u Au cu Bu du),ve (iv 0),vF] [0,1] ad ?_ heN ?_
 exact .X hp0<| .X hp1<| .c<| .c .nil
 refine aftI ad aN ae fun a2 w3 ap aP aw a9 aq=>?_
 obtain⟨q9,h8,ax,af⟩:=aq.G 0 2
 obtain⟨ar,au,ay,ag⟩:=aq.G 1 3
 have aZ:=Nat.le_trans ae.size ax
 have a1:=Nat.le_trans ae.size ay
 refine aO _ _ <| wk fun ba a3=>?_
 refine wb<| wk fun bb az=>?_
 refine wA tr9 [] 65 [ve (pv q9),ve (iv v.k),ve (.bool (decide (v.k=4))),ve (.bool (decide (v.k=4))),ve (gq (decide (v.k=4)) (pv ar)),ve (gq (decide (v.k=4)) (iv u.k)),ve (gq (decide (v.k=4)) (.bool (decide (u.k=4)))),ve (.bool ((decide (v.k=4)) && (decide (u.k=4)))),ve (.bool ((decide (v.k=4)) && (decide (u.k=4))))] ap ?_ ?_
 exact .F h8<| .J 0 isAgg3 af<| .b 1 (r_eql rfl)<| .N 2<| .Q (fun k=>g0 (k.eq1 3 12 rfl)) (fun hG n k=>v_field rfl (k.fx 3 au) (fun w=>rfl))<| .Q (fun k=>g0 (k.eq1 3 12 rfl)) (fun hG n k=>v_load rfl (cT hG (k.eq1 4 13 rfl)) (l_one isAgg3 ((ag.new_ n).cell 0)))<| .Q (fun k=>g0 (k.eq1 3 12 rfl)) (fun hG n k=>v_bin rfl (cT hG (k.eq1 5 14 rfl)) rfl (fun _=>rfl) (r_eql rfl))<| .O 3 6<| .B 7 .nil
 refine aftI ap aP aw fun bd be ah aA aB ai aa=>?_
 have⟨av,aQ⟩:=aa.f2 h8 au
 have aR:=aa.g 8 8
 have⟨aj,aC⟩:=nw2 ai af ag
 refine az _ _ ?_
 have ak:(((decide (v.k=4)) && (decide (u.k=4))))=false:=(by rw [show ((decide (v.k=4)))=true from decide_eq_true (hk1),show ((decide (u.k=4)))=false from decide_eq_false (by omega)]; rfl)
 have aD:=hB aR ak
 refine wf aD<| wk fun bf aE=>?_
 refine wA tr4 [] 65 [ve (pv q9),ve (iv v.k),ve (.bool (decide (v.k=4))),ve (.bool (decide (v.k=4)))] ah ?_ ?_
 exact .F av<| .J 0 isAgg3 aj<| .b 1 (r_eql rfl)<| .B 2 .nil
 refine aftI ah aA aB fun bg bh al aF am an ab=>?_
 have⟨aS,aT⟩:=ab.f2 av aQ
 have aU:=ab.g 3 22
 have⟨aG,aH⟩:=nw2 an aj aC
 refine aE _ _ ?_
 have ac:(decide (v.k=4))=true:=decide_eq_true (hk1)
 have aX:=oT ac
 have aI:=hB aU ac
 have aJ:(decide (u.k=4))=false:=ax1 ak ac
 have aY:=oF aJ
 refine wt aI<| wk fun bi aK=>?_
 refine wA tr9 [] 65 [ve (.pointer (some ⟨q9,3,none⟩)),ve (.agg #[.bool v.neg,sv Av v.mag cv]),ve (.pointer (some ⟨ar,1,none⟩)),ve (nv (Nm.mk u.nk u.nn)),ve (.tuple #[iv ((besideO v.neg v.mag (Nm.mk u.nk u.nn)).1),.bool ((besideO v.neg v.mag (Nm.mk u.nk u.nn)).2)]),ve (iv ((besideO v.neg v.mag (Nm.mk u.nk u.nn)).1)),ve (.bool ((besideO v.neg v.mag (Nm.mk u.nk u.nn)).2)),ve (iv ((besideO v.neg v.mag (Nm.mk u.nk u.nn)).1)),ve (.bool ((besideO v.neg v.mag (Nm.mk u.nk u.nn)).2))] al ?_ ?_
 exact .F aS<| .K6 0 aG<| .F aT<| .K2 2 aH<| .C2 1 3 (fun n=>beside_c v.neg _ v.mag _ (Nm.mk u.nk u.nn) _ (hmv.new_ (am.transNew n)) hvv.limbs (by first|omega|(simp only [List.length_nil,List.length_take,List.length_drop]; omega)|(simp only [List.length_cons,List.length_nil]; omega)) (by omega) (by omega))<| .E 4<| .E 4<| .B 5<| .B 6 .nil
 refine aftI al aF am fun bj bk a4 aL aM a5 ao=>?_
 have aV:=ao.g 7 4
 have aW:=ao.g 8 5
 refine aK _ _<| wp_ret (ret_k aL (v:=.tuple #[iv ((besideO v.neg v.mag (Nm.mk u.nk u.nn)).1),.bool ((besideO v.neg v.mag (Nm.mk u.nk u.nn)).2)]) (res_tt rfl aV aW _) ?_)
 exact⟨rfl,aM⟩
theorem truthN_c (t:Bool) (w:World):Calls prog 39 #[.bool t] w (IsRet (vv (Vl.mk 2 0 0 false [] [] (truthR t)) none 0 none 0) w):=by
 refine enter_abs func39 rfl fun a0 ac aX hp=>?_
 have ac:a0.tmps.size=6:=ac
 have an:New w w:=Upd.refl _ _
 have hp0:a0.eval (.tmp 0)=.bool t:=hp 0 _ rfl
 refine wk fun K1 aY=>?_
 refine wB tr1 [] [] 6 [IsNew w 29 z7] [0] ac ?_ heN ?_
 exact .Y .nil
 refine aftI ac aX an fun a2 w3 ao aZ ax bb ap=>?_
 have h8:=ap.f1 hp0
 obtain⟨aq,h9,ay,az⟩:=ap.G 0 2
 have a6:=Nat.le_trans an.size ay
 refine aY _ _ <| wk fun bd aA=>?_
 refine wk fun be aB=>?_
 refine wA tr1 [] 6 [ve (.bool t)] ao ?_ ?_
 exact .M h8 .nil
 refine aftI ao aZ ax fun bf bg ab ad ae aC af=>?_
 have ar:=af.f1 h9
 have au:=af.g 0 3
 have ag:=az.new_ aC
 refine aB _ _ ?_
 rcases bc (t) with aa|aa
 have aD:=hB au aa
 refine wt aD<| wk fun bh aE=>?_
 refine wA [true,false] [(1,false)] 6 [ve (vv (Vl.mk 2 0 0 false [] [] 1) none 0 none 0),vt] ab ?_ ?_
 exact .T (fun k=>v_build (ps:=[(0,iv 2),(4,iv 1)]) rfl (parts2 rfl rfl) (by kernel_rfl))<| .off .nil
 refine aftI ab ad ae fun bi bj a7 aF aG aH ah=>?_
 have av:=ah.f1 ar
 have a1:=ah.g 0 4
 have aI:=ag.new_ aH
 refine sS9 av a1 aI fun a3 aK aJ a8=>?_
 have aM:=aG.tR aJ
 refine aE _ _<| wp_ret (ret_k aF (v:=vv (Vl.mk 2 0 0 false [] [] 1) none 0 none 0) (res_c rfl av (l_agg isAgg29 sizeOf29 aK rfl)) ?_)
 refine ⟨?_,aM⟩
 show Ending.returned (vv (Vl.mk 2 0 0 false [] [] 1) none 0 none 0)=Ending.returned (vv (Vl.mk 2 0 0 false [] [] (truthR t)) none 0 none 0)
 first|rfl|(simp only [truthR,aa,bsm] <;> rfl)|(exfalso; omega)
 have aN:=hB au aa
 refine wf aN<| ws<| aA _ _<| wk fun bl aO=>?_
 refine wA [true,false] [(1,false)] 6 [ve (vv (Vl.mk 2 0 0 false [] [] 0) none 0 none 0),vt] ab ?_ ?_
 exact .T (fun k=>v_build (ps:=[(0,iv 2)]) rfl (parts1 rfl) (by kernel_rfl))<| .off .nil
 refine aftI ab ad ae fun bm bn a9 aP aQ aR ai=>?_
 have aw:=ai.f1 ar
 have a4:=ai.g 0 5
 have aS:=ag.new_ aR
 refine sS9 aw a4 aS fun a5 aU aT ba=>?_
 have aW:=aQ.tR aT
 refine aO _ _<| wp_ret (ret_k aP (v:=vv (Vl.mk 2 0 0 false [] [] 0) none 0 none 0) (res_c rfl aw (l_agg isAgg29 sizeOf29 aU rfl)) ?_)
 refine ⟨?_,aW⟩
 show Ending.returned (vv (Vl.mk 2 0 0 false [] [] 0) none 0 none 0)=Ending.returned (vv (Vl.mk 2 0 0 false [] [] (truthR t)) none 0 none 0)
 first|rfl|(simp only [truthR,aa,bsm] <;> rfl)|(exfalso; omega)
theorem lessB_c (v:Vl) (Av:Option Addr) (cv:Nat) (Bv:Option Addr) (dv:Nat) (u:Vl) (Au:Option Addr) (cu:Nat) (Bu:Option Addr) (du:Nat)   (w:World) (hmv:SRow w .u32 Av v.mag cv) (hsv:SRow w .u16 Bv v.s dv) (hmu:SRow w .u32 Au u.mag cu) (hsu:SRow w .u16 Bu u.s du) (hvv:VOk v) (hvu:VOk u) (hk1:v.k=4) (hk2:u.k=3) (e3:(numericV v).2=0) (e4:(numericV u).2=0) (hj1:(numericV v).1.k=4) (hj2:(numericV u).1.k=3):Calls prog 38 #[vv v Av cv Bv dv,vv u Au cu Bu du,.bool false,.bool false] w (IsRet (.tuple #[vv (Vl.mk 2 0 0 false [] [] (truthR ((besideO (numericV v).1.neg (numericV v).1.mag (Nm.mk (numericV u).1.nk (numericV u).1.nn)).2 && (decide ((besideO (numericV v).1.neg (numericV v).1.mag (Nm.mk (numericV u).1.nk (numericV u).1.nn)).1 < 0) != false)))) none 0 none 0,iv 0]) w):=by
 refine enter_abs func38 rfl fun a0 bt e5 hp=>?_
 have bt:a0.tmps.size=100:=bt
 have bu:New w w:=Upd.refl _ _
 have hp0:a0.eval (.tmp 0)=vv v Av cv Bv dv:=hp 0 _ rfl
 have hp1:a0.eval (.tmp 1)=vv u Au cu Bu du:=hp 1 _ rfl
 have hp2:a0.eval (.tmp 2)=.bool false:=hp 2 _ rfl
 have hp3:a0.eval (.tmp 3)=.bool false:=hp 3 _ rfl
 refine wk fun K1 e6=>?_
 refine wB tr4 [] [] 100 [IsNew w 29 (c7 v Av cv Bv dv),IsNew w 29 (c7 u Au cu Bu du),IsNew w 29 z7,ve (iv 0)] [0,1,2] bt ?_ heN ?_
 exact .X hp0<| .X hp1<| .Y<| .c .nil
 refine aftI bt e5 bu fun a2 w3 dK e7 dN gz aG=>?_
 have⟨h8,h9⟩:=aG.f2 hp2 hp3
 obtain⟨a1,bv,dO,bL⟩:=aG.G 0 4
 obtain⟨aJ,bw,dP,bM⟩:=aG.G 1 5
 obtain⟨bi,bN,dQ,dR⟩:=aG.G 2 8
 have hne22:=aG.ne 0 1 4 5 bv bw
 have hne23:=aG.ne 0 2 4 8 bv bN
 have hne24:=aG.ne 1 2 5 8 bw bN
 have fY:=Nat.le_trans bu.size dO
 have fZ:=Nat.le_trans bu.size dP
 have f0:=Nat.le_trans bu.size dQ
 refine e6 _ _ <| wk fun gA dS=>?_
 refine wb<| wk fun gB dT=>?_
 refine wA tr9 [] 100 [ve (pv a1),ve (iv v.k),ve (.bool (decide (v.k=6))),ve (.bool (decide (v.k=6))),ve (gq (!(decide (v.k=6))) (pv aJ)),ve (gq (!(decide (v.k=6))) (iv u.k)),ve (gq (!(decide (v.k=6))) (.bool (decide (u.k=6)))),ve (.bool ((decide (v.k=6)) || (decide (u.k=6)))),ve (.bool ((decide (v.k=6)) || (decide (u.k=6))))] dK ?_ ?_
 exact .F bv<| .J 0 isAgg3 bL<| .b 1 (r_eql rfl)<| .N 2<| .Q (fun k=>g0' (k.eq1 3 19 rfl)) (fun hG p k=>v_field rfl (k.fx 5 bw) (fun w=>rfl))<| .Q (fun k=>g0' (k.eq1 3 19 rfl)) (fun hG p k=>v_load rfl (cT hG (k.eq1 4 20 rfl)) (l_one isAgg3 ((bM.new_ p).cell 0)))<| .Q (fun k=>g0' (k.eq1 3 19 rfl)) (fun hG p k=>v_bin rfl (cT hG (k.eq1 5 21 rfl)) rfl (fun _=>rfl) (r_eql rfl))<| .W 3 6<| .B 7 .nil
 refine aftI dK e7 dN fun gC gD bO dU dV bj aD=>?_
 have⟨e8,e9,dL,dM⟩:=aD.f4 h8 h9 bv bw
 have fa:=aD.f1 bN
 have fb:=aD.g 8 15
 have⟨bP,bQ,dW⟩:=nw3 bj bL bM dR
 refine dT _ _ ?_
 have a3:(((decide (v.k=6)) || (decide (u.k=6))))=false:=(by rw [show ((decide (v.k=6)))=false from decide_eq_false (by omega),show ((decide (u.k=6)))=false from decide_eq_false (by omega)]; rfl)
 have dX:=hB fb a3
 have bk:(decide (v.k=6))=false:=ol a3
 have fS:=oF bk
 have bl:(decide (u.k=6))=false:=or_ a3
 have fT:=oF bl
 refine wf dX<| wk fun gE dY=>?_
 refine wA tr9 [] 100 [ve (pv a1),ve (iv v.k),ve (.bool (decide (v.k=5))),ve (.bool (decide (v.k=5))),ve (gq (decide (v.k=5)) (pv aJ)),ve (gq (decide (v.k=5)) (iv u.k)),ve (gq (decide (v.k=5)) (.bool (decide (u.k=5)))),ve (.bool ((decide (v.k=5)) && (decide (u.k=5)))),ve (.bool ((decide (v.k=5)) && (decide (u.k=5))))] bO ?_ ?_
 exact .F dL<| .J 0 isAgg3 bP<| .b 1 (r_eql rfl)<| .N 2<| .Q (fun k=>g0 (k.eq1 3 29 rfl)) (fun hG p k=>v_field rfl (k.fx 5 dM) (fun w=>rfl))<| .Q (fun k=>g0 (k.eq1 3 29 rfl)) (fun hG p k=>v_load rfl (cT hG (k.eq1 4 30 rfl)) (l_one isAgg3 ((bQ.new_ p).cell 0)))<| .Q (fun k=>g0 (k.eq1 3 29 rfl)) (fun hG p k=>v_bin rfl (cT hG (k.eq1 5 31 rfl)) rfl (fun _=>rfl) (r_eql rfl))<| .O 3 6<| .B 7 .nil
 refine aftI bO dU dV fun gF gG bR dZ d0 bm aE=>?_
 have⟨fc,fd,bS,bT⟩:=aE.f4 e8 e9 dL dM
 have fe:=aE.f1 fa
 have ff:=aE.g 8 25
 have⟨bn,bo,d1⟩:=nw3 bm bP bQ dW
 refine dY _ _ ?_
 have bU:(((decide (v.k=5)) && (decide (u.k=5))))=false:=(by rw [show ((decide (v.k=5)))=false from decide_eq_false (by omega),show ((decide (u.k=5)))=false from decide_eq_false (by omega)]; rfl)
 have d2:=hB ff bU
 refine wf d2<| wk fun gH d3=>?_
 refine wA tr19 [] 100 [ve (pv a1),ve (iv v.k),ve (.bool (decide (v.k=5))),ve (.bool (decide (v.k=5))),ve (gq (decide (v.k=5)) (pv aJ)),ve (gq (decide (v.k=5)) (iv u.k)),ve (gq (decide (v.k=5)) (.bool (decide (u.k=4)))),ve (.bool ((decide (v.k=5)) && (decide (u.k=4)))),ve (.bool ((decide (v.k=5)) && (decide (u.k=4)))),ve (gq (!((decide (v.k=5)) && (decide (u.k=4)))) (pv a1)),ve (gq (!((decide (v.k=5)) && (decide (u.k=4)))) (iv v.k)),ve (gq (!((decide (v.k=5)) && (decide (u.k=4)))) (.bool (decide (v.k=4)))),ve (gq (!((decide (v.k=5)) && (decide (u.k=4)))) (.bool (decide (v.k=4)))),ve (gq ((!((decide (v.k=5)) && (decide (u.k=4)))) && (decide (v.k=4))) (pv aJ)),ve (gq ((!((decide (v.k=5)) && (decide (u.k=4)))) && (decide (v.k=4))) (iv u.k)),ve (gq ((!((decide (v.k=5)) && (decide (u.k=4)))) && (decide (v.k=4))) (.bool (decide (u.k=5)))),ve (gq (!((decide (v.k=5)) && (decide (u.k=4)))) (.bool ((decide (v.k=4)) && (decide (u.k=5))))),ve (.bool (((decide (v.k=5)) && (decide (u.k=4))) || ((decide (v.k=4)) && (decide (u.k=5))))),ve (.bool (((decide (v.k=5)) && (decide (u.k=4))) || ((decide (v.k=4)) && (decide (u.k=5)))))] bR ?_ ?_
 exact .F bS<| .J 0 isAgg3 bn<| .b 1 (r_eql rfl)<| .N 2<| .Q (fun k=>g0 (k.eq1 3 49 rfl)) (fun hG p k=>v_field rfl (k.fx 5 bT) (fun w=>rfl))<| .Q (fun k=>g0 (k.eq1 3 49 rfl)) (fun hG p k=>v_load rfl (cT hG (k.eq1 4 50 rfl)) (l_one isAgg3 ((bo.new_ p).cell 0)))<| .Q (fun k=>g0 (k.eq1 3 49 rfl)) (fun hG p k=>v_bin rfl (cT hG (k.eq1 5 51 rfl)) rfl (fun _=>rfl) (r_eql rfl))<| .O 3 6<| .N 7<| .Q (fun k=>g0' (k.eq1 8 54 rfl)) (fun hG p k=>v_field rfl (k.fx 4 bS) (fun w=>rfl))<| .Q (fun k=>g0' (k.eq1 8 54 rfl)) (fun hG p k=>v_load rfl (cT hG (k.eq1 9 55 rfl)) (l_one isAgg3 ((bn.new_ p).cell 0)))<| .Q (fun k=>g0' (k.eq1 8 54 rfl)) (fun hG p k=>v_bin rfl (cT hG (k.eq1 10 56 rfl)) rfl (fun _=>rfl) (r_eql rfl))<| .Q (fun k=>g0' (k.eq1 8 54 rfl)) (fun hG p k=>v_move rfl (cT hG (k.eq1 11 57 rfl)))<| .Q (fun k=>g1 (k.eq1 12 58 rfl)) (fun hG p k=>v_field rfl (k.fx 5 bT) (fun w=>rfl))<| .Q (fun k=>g1 (k.eq1 12 58 rfl)) (fun hG p k=>v_load rfl (cT hG (k.eq1 13 59 rfl)) (l_one isAgg3 ((bo.new_ p).cell 0)))<| .Q (fun k=>g1 (k.eq1 12 58 rfl)) (fun hG p k=>v_bin rfl (cT hG (k.eq1 14 60 rfl)) rfl (fun _=>rfl) (r_eql rfl))<| .Q (fun k=>g0' (k.eq1 8 54 rfl)) (fun hG p k=>v_and rfl (cT hG (k.eq1 12 58 rfl)) (fun hg=>(cT (aj hG hg) (k.eq1 15 61 rfl))) rfl)<| .W 8 16<| .B 17 .nil
 refine aftI bR dZ d0 fun gI fg bV d4 a4 bp aF=>?_
 have⟨fh,fi,fj,fk⟩:=aF.f4 fc fd bS bT
 have fl:=aF.f1 fe
 have fm:=aF.g 18 45
 have⟨d5,bW,bX⟩:=nw3 bp bn bo d1
 refine d3 _ _ ?_
 have a5:((((decide (v.k=5)) && (decide (u.k=4))) || ((decide (v.k=4)) && (decide (u.k=5)))))=false:=(by rw [show (((decide (v.k=5)) && (decide (u.k=4))))=false from (by rw [show ((decide (v.k=5)))=false from decide_eq_false (by omega),show ((decide (u.k=4)))=false from decide_eq_false (by omega)]; rfl),show (((decide (v.k=4)) && (decide (u.k=5))))=false from (by rw [show ((decide (v.k=4)))=true from decide_eq_true (by omega),show ((decide (u.k=5)))=false from decide_eq_false (by omega)]; rfl)]; rfl)
 have d6:=hB fm a5
 have bY:((decide (v.k=5)) && (decide (u.k=4)))=false:=ol a5
 have bZ:((decide (v.k=4)) && (decide (u.k=5)))=false:=or_ a5
 refine wf d6<| ws<| dS _ _<| wk fun gJ d7=>?_
 refine wp_gS (fun W=>True) (fun W W' hn h=>trivial) trivial [true,true,true,true,true,true,false,false] [4] [(6,false),(7,true)] 100
  [ve (vv v Av cv Bv dv),(TP (numericV v).1 ((numericV v).2)),(TP (numericV v).1 ((numericV v).2)),(fun (v_:Value) (W:World)=>∃ (aK:Option Addr) (aL:Nat) (aM:Option Addr) (aN:Nat),v_=vv (numericV v).1 aK aL aM aN∧SRow W .u32 aK ((numericV v).1.mag) aL∧SRow W .u16 aM ((numericV v).1.s) aN),ve (iv ((numericV v).2)),IsNew fg 29 z7,vt,vt]
  [5] (newsCons (fun v w h=>IsNew.old h) newsNil) bV (.eq (.cons (fun _ _ _ n ⟨_,_,_,_,e,h,i⟩=>⟨_,_,_,_,e,h.new_ n,i.new_ n⟩) (.cons (fun _ _ _ n ⟨_,_,_,_,e,h,i⟩=>⟨_,_,_,_,e,h.new_ n,i.new_ n⟩) (.cons (fun _ _ _ n ⟨_,_,_,_,e,h,i⟩=>⟨_,_,_,_,e,h.new_ n,i.new_ n⟩) (.eq (.nw (.tt (.tt .nil)))))))) ?_ ?_ ?_
 refine .L9 fj d5 ?_
 refine .o1 (tkC rfl (noG rfl) rfl fun _ w hn k=>(by
  refine ⟨#[vv v Av cv Bv dv],_,args1 (k.eq1 0 66 rfl),fun w=>by kernel_rfl,cnumeric_c v _ _ _ _ _ (hmv.new_ (a4.transNew hn)) (hsv.new_ (a4.transNew hn)) hvv,?_⟩
  rintro e w' ⟨A1,c2,A3,c4,rfl,hmo0,hmo1,hm⟩
  exact⟨_,rfl,hm,⟨A1,c2,A3,c4,rfl,hmo0,hmo1⟩⟩)) ?_
 refine .o1 (tk rfl rfl fun _ w hn k=>(by
  obtain⟨A9,fn,fo,fp,fq,d8,d9⟩:=k.G 1 67
  exact⟨_,v_move rfl fq,⟨A9,fn,fo,fp,rfl,d8,d9⟩⟩)) ?_
 refine .o1 (tk rfl rfl fun _ w hn k=>(by
  obtain⟨fs,ft,fu,fv,fw,ea,eb⟩:=k.G 2 65
  exact⟨_,v_extract rfl fw rfl,⟨fs,ft,fu,fv,rfl,ea,eb⟩⟩)) ?_
 refine .o3 ?_
 exact .Y<| .off<| .off .nil
 refine eg1 ?_
 exact eager_takeG rfl (noG rfl) fun _ w hn k=>(by
  obtain⟨gK,gL,gM,gN,fy,f1,f2⟩:=k.G 2 65
  exact⟨_,fun w hS=>v_extract rfl fy rfl,rfl⟩)
 intro b0 gO _ bq ah
 obtain⟨b1,ec,ci⟩:=aft ah bV d4 a4 bq
 have⟨fz,fA,ed,ee⟩:=ah.f4 fh fi fk fl
 obtain⟨aO,au,aP,av,a6,cj,cl⟩:=ah.G 3 68
 have a6:b0.eval (.tmp 68)=vv (numericV v).1 aO au aP av:=a6
 have b2:=ah.g 4 69
 obtain⟨a7,b3,a8,a9⟩:=ah.G 5 10
 have⟨cm,cn⟩:=nw2 bq bW bX
 have hne116:aJ ≠ a7:=by have h1:=bW.lt; have h2:=a8; omega
 have hne117:bi ≠ a7:=by have h1:=bX.lt; have h2:=a8; omega
 have fU:=Nat.le_trans a4.size a8
 refine sS9 b3 a6 a9 fun ef co ba bx=>?_
 have cq:=cj.fr a9 ba
 have cr:=cl.fr a9 ba
 have ct:=bx hne116 cm
 have cw:=bx hne117 cn
 have cx:=ci.tR ba
 refine sP b2 b1 ec fun eg bz cy aa b6=>?_
 have⟨eh,ei,ej⟩:=aa.q3 fz fA ed
 have⟨ek,f4,f5⟩:=aa.q3 ee a6 b2
 have el:=aa.q b3
 refine d7 _ _ <| wk fun f6 cz=>?_
 refine wk fun f7 cA=>?_
 refine wA tr2 [] 100 [ve (iv ((numericV v).2)),ve (.bool (!decide (((numericV v).2)=0)))] bz ?_ ?_
 exact .M b6<| .b 0 (r_neq rfl) .nil
 refine aftI bz cy cx fun f8 em bA cB aH aw ad=>?_
 have⟨en,eo,ep,er⟩:=ad.f4 eh ei ej ek
 have⟨es,et⟩:=ad.f2 el b6
 have eu:=ad.g 1 71
 have⟨cC,bB,bC,cD⟩:=nw4 aw ct cw co cq
 have cE:=cr.new_ aw
 refine cA _ _ ?_
 have bb:((!decide (((numericV v).2)=0)))=false:=(nf (decide_eq_true (e3)))
 have cF:=hB eu bb
 have bd:(decide (((numericV v).2)=0))=true:=nT bb
 have fB:=oT bd
 refine wf cF<| ws<| cz _ _<| wk fun f9 cG=>?_
 refine wp_gS (fun W=>True) (fun W W' hn h=>trivial) trivial [true,true,true,true,true,true,false,false] [4] [(6,false),(7,true)] 100
  [ve (vv u Au cu Bu du),(TP (numericV u).1 ((numericV u).2)),(TP (numericV u).1 ((numericV u).2)),(fun (v_:Value) (W:World)=>∃ (aU:Option Addr) (aV:Nat) (aW:Option Addr) (aX:Nat),v_=vv (numericV u).1 aU aV aW aX∧SRow W .u32 aU ((numericV u).1.mag) aV∧SRow W .u16 aW ((numericV u).1.s) aX),ve (iv ((numericV u).2)),IsNew em 29 z7,vt,vt]
  [5] (newsCons (fun v w h=>IsNew.old h) newsNil) bA (.eq (.cons (fun _ _ _ n ⟨_,_,_,_,e,h,i⟩=>⟨_,_,_,_,e,h.new_ n,i.new_ n⟩) (.cons (fun _ _ _ n ⟨_,_,_,_,e,h,i⟩=>⟨_,_,_,_,e,h.new_ n,i.new_ n⟩) (.cons (fun _ _ _ n ⟨_,_,_,_,e,h,i⟩=>⟨_,_,_,_,e,h.new_ n,i.new_ n⟩) (.eq (.nw (.tt (.tt .nil)))))))) ?_ ?_ ?_
 refine .L9 ep cC ?_
 refine .o1 (tkC rfl (noG rfl) rfl fun _ w hn k=>(by
  refine ⟨#[vv u Au cu Bu du],_,args1 (k.eq1 0 75 rfl),fun w=>by kernel_rfl,cnumeric_c u _ _ _ _ _ (hmu.new_ (aH.transNew hn)) (hsu.new_ (aH.transNew hn)) hvu,?_⟩
  rintro e w' ⟨fC,fD,fE,fF,rfl,hmo0,hmo1,hm⟩
  exact⟨_,rfl,hm,⟨fC,fD,fE,fF,rfl,hmo0,hmo1⟩⟩)) ?_
 refine .o1 (tk rfl rfl fun _ w hn k=>(by
  obtain⟨fG,fH,fI,fJ,fK,ev,ew⟩:=k.G 1 76
  exact⟨_,v_move rfl fK,⟨fG,fH,fI,fJ,rfl,ev,ew⟩⟩)) ?_
 refine .o1 (tk rfl rfl fun _ w hn k=>(by
  obtain⟨fL,fM,fN,fO,fP,ex,ey⟩:=k.G 2 74
  exact⟨_,v_extract rfl fP rfl,⟨fL,fM,fN,fO,rfl,ex,ey⟩⟩)) ?_
 refine .o3 ?_
 exact .Y<| .off<| .off .nil
 refine eg1 ?_
 exact eager_takeG rfl (noG rfl) fun _ w hn k=>(by
  obtain⟨gP,gQ,gR,gS,fQ,ga,gb⟩:=k.G 2 74
  exact⟨_,fun w hS=>v_extract rfl fQ rfl,rfl⟩)
 intro br gc _ ax ac
 obtain⟨bD,cH,cI⟩:=aft ac bA cB aH ax
 have⟨ez,eA,eB,eC⟩:=ac.f4 en eo er es
 have gd:=ac.f1 et
 obtain⟨aY,ay,aZ,az,be,cJ,cK⟩:=ac.G 3 77
 have be:br.eval (.tmp 77)=vv (numericV u).1 aY ay aZ az:=be
 have b7:=ac.g 4 78
 obtain⟨bs,b8,bf,aA⟩:=ac.G 5 12
 have⟨cL,cM⟩:=nw2 ax bB bC
 have hne194:bi ≠ bs:=by have h1:=bB.lt; have h2:=bf; omega
 have hne195:a7 ≠ bs:=by have h1:=bC.lt; have h2:=bf; omega
 have fV:=Nat.le_trans aH.size bf
 have⟨cN,cO⟩:=nw2 ax cD cE
 refine sS9 b8 be aA fun eD cP aB bE=>?_
 have cR:=cN.fr aA aB
 have cS:=cO.fr aA aB
 have cU:=cJ.fr aA aB
 have cV:=cK.fr aA aB
 have cW:=bE hne194 cL
 have cX:=bE hne195 cM
 have cY:=cI.tR aB
 refine sP b7 bD cH fun eE bF cZ ab cb=>?_
 have⟨eF,eG,eH⟩:=ab.q3 ez eA eB
 have⟨eI,gg,gh⟩:=ab.q3 eC be b7
 have eJ:=ab.q b8
 refine cG _ _ <| wk fun gi c0=>?_
 refine wk fun gj c1=>?_
 refine wA tr2 [] 100 [ve (iv ((numericV u).2)),ve (.bool (!decide (((numericV u).2)=0)))] bF ?_ ?_
 exact .M cb<| .b 0 (r_neq rfl) .nil
 refine aftI bF cZ cY fun gk gl bG c3 c5 ae af=>?_
 have⟨eK,eL,eM,eN⟩:=af.f4 eF eG eH eI
 have⟨eO,gm⟩:=af.f2 eJ cb
 have eP:=af.g 1 80
 have⟨c9,da,db,dc⟩:=nw4 ae cW cX cP cR
 have⟨dd,de,df⟩:=nw3 ae cS cU cV
 refine c1 _ _ ?_
 have bg:((!decide (((numericV u).2)=0)))=false:=(nf (decide_eq_true (e4)))
 have dg:=hB eP bg
 have bh:(decide (((numericV u).2)=0))=true:=nT bg
 have fR:=oT bh
 refine wf dg<| ws<| c0 _ _<| wk fun gn dh=>wk fun go di=>?_
 refine wA tr1 [] 100 [vF] bG ?_ ?_
 exact .M eK .nil
 refine aftI bG c3 c5 fun gp gr bH dj dk ag aC=>?_
 have⟨eQ,eR,eS,eT⟩:=aC.f4 eL eM eN eO
 have eU:=aC.g 0 83
 have⟨dl,dm,dn,dp⟩:=nw4 ag c9 da db dc
 have⟨dq,dr,ds⟩:=nw3 ag dd de df
 refine di _ _<| wf eU<| ws ?_
 refine dh _ _<| wk fun gs dt=>?_
 refine wA tr8 [] 100 [ve (vv (numericV v).1 aO au aP av),ve (vv (numericV u).1 aY ay aZ az),ve (.tuple #[iv ((besideO ((numericV v).1).neg ((numericV v).1).mag (Nm.mk ((numericV u).1).nk ((numericV u).1).nn)).1),.bool ((besideO ((numericV v).1).neg ((numericV v).1).mag (Nm.mk ((numericV u).1).nk ((numericV u).1).nn)).2)]),ve (.tuple #[iv ((besideO ((numericV v).1).neg ((numericV v).1).mag (Nm.mk ((numericV u).1).nk ((numericV u).1).nn)).1),.bool ((besideO ((numericV v).1).neg ((numericV v).1).mag (Nm.mk ((numericV u).1).nk ((numericV u).1).nn)).2)]),ve (iv ((besideO ((numericV v).1).neg ((numericV v).1).mag (Nm.mk ((numericV u).1).nk ((numericV u).1).nn)).1)),ve (.bool ((besideO ((numericV v).1).neg ((numericV v).1).mag (Nm.mk ((numericV u).1).nk ((numericV u).1).nn)).2)),ve (iv ((besideO ((numericV v).1).neg ((numericV v).1).mag (Nm.mk ((numericV u).1).nk ((numericV u).1).nn)).1)),ve (.bool ((besideO ((numericV v).1).neg ((numericV v).1).mag (Nm.mk ((numericV u).1).nk ((numericV u).1).nn)).2))] bH ?_ ?_
 exact .L9 eS dm<| .L9 eT dn<| .C2 0 1 (fun p=>orderB_c ((numericV v).1) _ _ _ _ ((numericV u).1) _ _ _ _ _ (dp.new_ p) (dq.new_ p) (dr.new_ p) (ds.new_ p) (VOk.numeric hvv) (VOk.numeric hvu) hj1 hj2)<| .N 2<| .E 3<| .E 3<| .B 4<| .B 5 .nil
 refine aftI bH dj dk fun gt gu bI dw dx dy aI=>?_
 have⟨eV,eW⟩:=aI.f2 eQ eR
 have eX:=aI.g 6 13
 have eY:=aI.g 7 14
 have dz:=dl.new_ dy
 refine dt _ _ <| wk fun gv dA=>?_
 refine wA [true,true,true,true,true,true,true,true,false,false] [(8,false),(9,true)] 100 [ve (.bool ((besideO ((numericV v).1).neg ((numericV v).1).mag (Nm.mk ((numericV u).1).nk ((numericV u).1).nn)).2)),ve (.bool ((besideO ((numericV v).1).neg ((numericV v).1).mag (Nm.mk ((numericV u).1).nk ((numericV u).1).nn)).2)),ve (gq ((besideO ((numericV v).1).neg ((numericV v).1).mag (Nm.mk ((numericV u).1).nk ((numericV u).1).nn)).2) (iv ((besideO ((numericV v).1).neg ((numericV v).1).mag (Nm.mk ((numericV u).1).nk ((numericV u).1).nn)).1))),ve (gq ((besideO ((numericV v).1).neg ((numericV v).1).mag (Nm.mk ((numericV u).1).nk ((numericV u).1).nn)).2) (.bool (decide (((besideO ((numericV v).1).neg ((numericV v).1).mag (Nm.mk ((numericV u).1).nk ((numericV u).1).nn)).1) < 0)))),ve (gq ((besideO ((numericV v).1).neg ((numericV v).1).mag (Nm.mk ((numericV u).1).nk ((numericV u).1).nn)).2) (.bool false)),ve (gq ((besideO ((numericV v).1).neg ((numericV v).1).mag (Nm.mk ((numericV u).1).nk ((numericV u).1).nn)).2) (.bool ((decide (((besideO ((numericV v).1).neg ((numericV v).1).mag (Nm.mk ((numericV u).1).nk ((numericV u).1).nn)).1) < 0)) != false))),ve (.bool (((besideO ((numericV v).1).neg ((numericV v).1).mag (Nm.mk ((numericV u).1).nk ((numericV u).1).nn)).2) && ((decide (((besideO ((numericV v).1).neg ((numericV v).1).mag (Nm.mk ((numericV u).1).nk ((numericV u).1).nn)).1) < 0)) != false))),ve (vv (Vl.mk 2 0 0 false [] [] (truthR (((besideO ((numericV v).1).neg ((numericV v).1).mag (Nm.mk ((numericV u).1).nk ((numericV u).1).nn)).2) && ((decide (((besideO ((numericV v).1).neg ((numericV v).1).mag (Nm.mk ((numericV u).1).nk ((numericV u).1).nn)).1) < 0)) != false)))) none 0 none 0),vt,vt] bI ?_ ?_
 exact .M eY<| .N 0<| .Q (fun k=>g0 (k.eq1 1 93 rfl)) (fun hG p k=>v_move rfl (k.fx 13 eX))<| .Q (fun k=>g0 (k.eq1 1 93 rfl)) (fun hG p k=>v_bin rfl (cT hG (k.eq1 2 94 rfl)) rfl (fun _=>rfl) (r_lssK rfl))<| .Q (fun k=>g0 (k.eq1 1 93 rfl)) (fun hG p k=>v_move rfl (k.fx 3 eV))<| .Q (fun k=>g0 (k.eq1 1 93 rfl)) (fun hG p k=>v_bin rfl (cT hG (k.eq1 3 95 rfl)) (cT hG (k.eq1 4 96 rfl)) (fun _=>rfl) (r_neqB _ _))<| .O 1 5<| .C 6 (fun p=>truthN_c (((besideO ((numericV v).1).neg ((numericV v).1).mag (Nm.mk ((numericV u).1).nk ((numericV u).1).nn)).2) && ((decide (((besideO ((numericV v).1).neg ((numericV v).1).mag (Nm.mk ((numericV u).1).nk ((numericV u).1).nn)).1) < 0)) != false)) _)<| .off<| .off .nil
 refine aftI bI dw dx fun cc gw bJ dB dC dD bK=>?_
 have cd:=bK.f1 eW
 have ce:=bK.g 7 99
 have dE:=dz.new_ dD
 refine sS9 cd ce dE fun eZ dG dF fW=>?_
 have dI:=dC.tR dF
 refine sP (v:=iv 0) rfl bJ dB fun e0 fX dJ ai e2=>?_
 have⟨e1,gy⟩:=ai.q2 cd ce
 refine dA _ _<| wp_ret (ret_k dJ (v:=.tuple #[vv (Vl.mk 2 0 0 false [] [] (truthR (((besideO ((numericV v).1).neg ((numericV v).1).mag (Nm.mk ((numericV u).1).nk ((numericV u).1).nn)).2) && ((decide (((besideO ((numericV v).1).neg ((numericV v).1).mag (Nm.mk ((numericV u).1).nk ((numericV u).1).nn)).1) < 0)) != false)))) none 0 none 0,iv 0]) (res_ct rfl e1 e2 (l_agg isAgg29 sizeOf29 dG rfl)) ?_)
 refine ⟨?_,dI⟩
 show Ending.returned (.tuple #[vv (Vl.mk 2 0 0 false [] [] (truthR (((besideO ((numericV v).1).neg ((numericV v).1).mag (Nm.mk ((numericV u).1).nk ((numericV u).1).nn)).2) && ((decide (((besideO ((numericV v).1).neg ((numericV v).1).mag (Nm.mk ((numericV u).1).nk ((numericV u).1).nn)).1) < 0)) != false)))) none 0 none 0,iv 0])=Ending.returned (.tuple #[vv (Vl.mk 2 0 0 false [] [] (truthR ((besideO (numericV v).1.neg (numericV v).1.mag (Nm.mk (numericV u).1.nk (numericV u).1.nn)).2 && (decide ((besideO (numericV v).1.neg (numericV v).1.mag (Nm.mk (numericV u).1.nk (numericV u).1.nn)).1 < 0) != false)))) none 0 none 0,iv 0])
 first|rfl|(simp only [a3,bk,bk,bl,bl,bU,a5,bY,bY,bZ,bZ,bb,bd,bd,bg,bh,bh,bsm] <;> rfl)|(exfalso; omega)
theorem binL_c  (v:Vl) (Av:Option Addr) (cv:Nat) (Bv:Option Addr) (dv:Nat) (u:Vl) (Au:Option Addr) (cu:Nat) (Bu:Option Addr) (du:Nat) (w:World) (hmv:SRow w .u32 Av v.mag cv) (hsv:SRow w .u16 Bv v.s dv) (hmu:SRow w .u32 Au u.mag cu) (hsu:SRow w .u16 Bu u.s du) (hvv:VOk v) (hvu:VOk u) (hk1:(cleanV v).k=4) (hk2:(cleanV u).k=3) (fS:(numericV (cleanV v)).2=0) (fT:(numericV (cleanV u)).2=0) (hj1:(numericV (cleanV v)).1.k=4) (hj2:(numericV (cleanV u)).1.k=3):Calls prog 12 #[.string ⟨#[60]⟩,vv v Av cv Bv dv,vv u Au cu Bu du] w (IsRet (.tuple #[vv (Vl.mk 2 0 0 false [] [] (truthR ((besideO (numericV (cleanV v)).1.neg (numericV (cleanV v)).1.mag (Nm.mk (numericV (cleanV u)).1.nk (numericV (cleanV u)).1.nn)).2 && (decide ((besideO (numericV (cleanV v)).1.neg (numericV (cleanV v)).1.mag (Nm.mk (numericV (cleanV u)).1.nk (numericV (cleanV u)).1.nn)).1 < 0) != false)))) none 0 none 0,iv 0]) w):=by
 refine enter_abs func12 rfl fun a0 aU fU hp=>?_
 have aU:a0.tmps.size=120:=aU
 have aV:New w w:=Upd.refl _ _
 have hp0:a0.eval (.tmp 0)=.string ⟨#[60]⟩:=hp 0 _ rfl
 have hp1:a0.eval (.tmp 1)=vv v Av cv Bv dv:=hp 1 _ rfl
 have hp2:a0.eval (.tmp 2)=vv u Au cu Bu du:=hp 2 _ rfl
 refine wk fun K1 fV=>?_
 refine wB tr4 [] [] 120 [IsNew w 29 (c7 v Av cv Bv dv),IsNew w 29 (c7 u Au cu Bu du),IsNew w 29 z7,ve (iv 0)] [0,1,2] aU ?_ heN ?_
 exact .X hp1<| .X hp2<| .Y<| .c .nil
 refine aftI aU fU aV fun a2 w3 ea fW aD gZ aE=>?_
 have h8:=aE.f1 hp0
 obtain⟨bd,h9,eg,be⟩:=aE.G 0 4
 obtain⟨bf,aW,eh,bg⟩:=aE.G 1 5
 obtain⟨bh,bi,ei,ej⟩:=aE.G 2 6
 have hne21:=aE.ne 0 1 4 5 h9 aW
 have hne22:=aE.ne 0 2 4 6 h9 bi
 have hne23:=aE.ne 1 2 5 6 aW bi
 have gd:=Nat.le_trans aV.size eg
 have gf:=Nat.le_trans aV.size eh
 have gg:=Nat.le_trans aV.size ei
 refine fV _ _ <| wk fun g0 ek=>?_
 refine wp_g0 [true,true,true,true,false,false] [(4,false),(5,false)] 120
  [ve (vv v Av cv Bv dv),
  (VP (cleanV v)),ve (vv u Au cu Bu du),
  (VP (cleanV u)),vt,vt] ea (.eq (.cons (fun _ _ _ n ⟨_,_,_,_,e,h,i⟩=>⟨_,_,_,_,e,h.new_ n,i.new_ n⟩) (.eq (.cons (fun _ _ _ n ⟨_,_,_,_,e,h,i⟩=>⟨_,_,_,_,e,h.new_ n,i.new_ n⟩) (.tt (.tt .nil)))))) ?_ ?_
 refine .L9 h9 be ?_
 refine .o1 (tkC rfl (noG rfl) rfl fun _ w hn k=>(by
  refine ⟨#[vv v Av cv Bv dv],_,args1 (k.eq1 0 10 rfl),fun w=>by kernel_rfl,clean_c v _ _ _ _ _ (hmv.new_ (aD.transNew hn)) (hsv.new_ (aD.transNew hn)),?_⟩
  rintro e w' ⟨A1,c2,A3,c4,rfl,hmo0,hmo1,hm⟩
  exact⟨_,rfl,hm,⟨A1,c2,A3,c4,rfl,hmo0,hmo1⟩⟩)) ?_
 refine .L9 aW bg ?_
 refine .o1 (tkC rfl (noG rfl) rfl fun _ w hn k=>(by
  refine ⟨#[vv u Au cu Bu du],_,args1 (k.eq1 2 12 rfl),fun w=>by kernel_rfl,clean_c u _ _ _ _ _ (hmu.new_ (aD.transNew hn)) (hsu.new_ (aD.transNew hn)),?_⟩
  rintro e w' ⟨A9,f1,f2,f3,rfl,hmo0,hmo1,hm⟩
  exact⟨_,rfl,hm,⟨A9,f1,f2,f3,rfl,hmo0,hmo1⟩⟩)) ?_
 exact .off<| .off .nil
 refine aftI ea fW aD fun eb g1 bj el em aT aC=>?_
 have⟨ec,ed,ee,f4⟩:=aC.f4 h8 h9 aW bi
 obtain⟨aP,aF,aQ,aG,bk,en,eo⟩:=aC.G 1 11
 have bk:eb.eval (.tmp 11)=vv (cleanV v) aP aF aQ aG:=bk
 obtain⟨aR,aH,aS,aI,bl,ep,er⟩:=aC.G 3 13
 have bl:eb.eval (.tmp 13)=vv (cleanV u) aR aH aS aI:=bl
 have⟨aJ,es,et⟩:=nw3 aT be bg ej
 refine sS9 ed bk aJ fun f5 eu aK bm=>?_
 have ew:=en.fr aJ aK
 have ex:=eo.fr aJ aK
 have ey:=ep.fr aJ aK
 have ez:=er.fr aJ aK
 have aL:=bm hne21.symm es
 have eA:=bm hne22.symm et
 have eB:=em.tR aK
 refine sS9 ee bl aL fun f6 eC aM bn=>?_
 have eE:=ew.fr aL aM
 have eF:=ex.fr aL aM
 have eG:=ey.fr aL aM
 have eH:=ez.fr aL aM
 have eI:=bn hne21 eu
 have eJ:=bn hne23.symm eA
 have eK:=eB.tR aM
 refine ek _ _ <| wk fun g4 gh=>?_
 refine wk fun g5 eL=>?_
 refine wA tr1 [] 120 [ve (.string ⟨#[60]⟩)] bj ?_ ?_
 exact .M ec .nil
 refine aftI bj el eK fun g6 g7 bo eM bL aB aN=>?_
 have⟨f7,f8,f9,ga⟩:=aN.f4 ec ed ee f4
 have ef:=aN.g 0 14
 have⟨eN,eO,bM,bN⟩:=nw4 aB eI eC eJ eE
 have⟨bO,bP,bQ⟩:=nw3 aB eF eG eH
 refine eL _ _<| wb<| wk fun gi bR=>?_
 refine wA tr2 [] 120 [vF,vF] bo ?_ ?_
 exact .T (fun k=>v_bin rfl (k.fx 14 ef) rfl (fun _=>rfl) (r_eqlS (r:=false) (by kernel_rfl)))<| .B 0 .nil
 refine aftI bo eM bL fun gj gk aX bS bT aa an=>?_
 have⟨eP,eQ,eR,eS⟩:=an.f4 f7 f8 f9 ga
 have bp:=an.f1 ef
 have eT:=an.g 1 15
 have⟨bU,bV,bW,bX⟩:=nw4 aa eN eO bM bN
 have⟨bY,bZ,b0⟩:=nw3 aa bO bP bQ
 refine bR _ _<| wf eT<| wk fun gl b1=>wk fun gm b2=>?_
 refine wA tr2 [] 120 [vF,vF] aX ?_ ?_
 exact .T (fun k=>v_bin rfl (k.fx 14 bp) rfl (fun _=>rfl) (r_eqlS (r:=false) (by kernel_rfl)))<| .B 0 .nil
 refine aftI aX bS bT fun gn go aY b3 b4 ab ao=>?_
 have⟨eU,eV,eW,eX⟩:=ao.f4 eP eQ eR eS
 have bq:=ao.f1 bp
 have eY:=ao.g 1 36
 have⟨b5,b6,b7,b8⟩:=nw4 ab bU bV bW bX
 have⟨b9,ca,cb⟩:=nw3 ab bY bZ b0
 refine b2 _ _<| wf eY<| wk fun gp cc=>?_
 refine wA tr2 [] 120 [vF,vF] aY ?_ ?_
 exact .T (fun k=>v_bin rfl (k.fx 14 bq) rfl (fun _=>rfl) (r_eqlS (r:=false) (by kernel_rfl)))<| .B 0 .nil
 refine aftI aY b3 b4 fun gq gr aZ cd ce ac ap=>?_
 have⟨eZ,e0,e1,e2⟩:=ap.f4 eU eV eW eX
 have br:=ap.f1 bq
 have e3:=ap.g 1 36
 have⟨cf,ch,ci,cj⟩:=nw4 ac b5 b6 b7 b8
 have⟨cl,cm,cn⟩:=nw3 ac b9 ca cb
 refine cc _ _<| wf e3<| wk fun gs co=>?_
 refine wA tr2 [] 120 [vF,vF] aZ ?_ ?_
 exact .T (fun k=>v_bin rfl (k.fx 14 br) rfl (fun _=>rfl) (r_eqlS (r:=false) (by kernel_rfl)))<| .B 0 .nil
 refine aftI aZ cd ce fun gt gu a1 cp cq ad aq=>?_
 have⟨e4,e5,e6,e7⟩:=aq.f4 eZ e0 e1 e2
 have bs:=aq.f1 br
 have e8:=aq.g 1 36
 have⟨cr,ct,cw,cx⟩:=nw4 ad cf ch ci cj
 have⟨cy,cz,cA⟩:=nw3 ad cl cm cn
 refine co _ _<| wf e8<| wp_g0 [true,true] [] 120
  [vF,vF] a1 (.eq (.eq .nil)) ?_ ?_
 exact .T (fun k=>v_bin rfl (k.fx 14 bs) rfl (fun _=>rfl) (r_eqlS (r:=false) (by kernel_rfl)))<| .B 0 .nil
 refine aftI a1 cp cq fun gv gw a3 cB cC ae ar=>?_
 have⟨e9,fa,fb,fc⟩:=ar.f4 e4 e5 e6 e7
 have bt:=ar.f1 bs
 have fd:=ar.g 1 36
 have⟨cD,cE,cF,cG⟩:=nw4 ae cr ct cw cx
 have⟨cH,cI,cJ⟩:=nw3 ae cy cz cA
 refine b1 _ _<| wf fd<| wk fun gx cK=>wk fun gy cL=>?_
 refine wA tr2 [] 120 [vF,vF] a3 ?_ ?_
 exact .T (fun k=>v_bin rfl (k.fx 14 bt) rfl (fun _=>rfl) (r_eqlS (r:=false) (by kernel_rfl)))<| .B 0 .nil
 refine aftI a3 cB cC fun gz gA a4 cM cN af au=>?_
 have⟨fe,ff,fg,fh⟩:=au.f4 e9 fa fb fc
 have bu:=au.f1 bt
 have fi:=au.g 1 47
 have⟨cO,cP,cQ,cR⟩:=nw4 af cD cE cF cG
 have⟨cS,cT,cU⟩:=nw3 af cH cI cJ
 refine cL _ _<| wf fi<| wk fun gB cV=>?_
 refine wA tr2 [] 120 [vF,vF] a4 ?_ ?_
 exact .T (fun k=>v_bin rfl (k.fx 14 bu) rfl (fun _=>rfl) (r_eqlS (r:=false) (by kernel_rfl)))<| .B 0 .nil
 refine aftI a4 cM cN fun gC gD a5 cW cX ag av=>?_
 have⟨fj,fk,fl,fm⟩:=av.f4 fe ff fg fh
 have bv:=av.f1 bu
 have fn:=av.g 1 47
 have⟨cY,cZ,c0,c1⟩:=nw4 ag cO cP cQ cR
 have⟨c3,c5,c9⟩:=nw3 ag cS cT cU
 refine cV _ _<| wf fn<| wk fun gE da=>?_
 refine wA tr2 [] 120 [vF,vF] a5 ?_ ?_
 exact .T (fun k=>v_bin rfl (k.fx 14 bv) rfl (fun _=>rfl) (r_eqlS (r:=false) (by kernel_rfl)))<| .B 0 .nil
 refine aftI a5 cW cX fun gF gG a6 db dc ah aw=>?_
 have⟨fo,fp,fq,fs⟩:=aw.f4 fj fk fl fm
 have bw:=aw.f1 bv
 have ft:=aw.g 1 47
 have⟨dd,de,df,dg⟩:=nw4 ah cY cZ c0 c1
 have⟨dh,di,dj⟩:=nw3 ah c3 c5 c9
 refine da _ _<| wf ft<| wk fun gH dk=>?_
 refine wA tr2 [] 120 [vF,vF] a6 ?_ ?_
 exact .T (fun k=>v_bin rfl (k.fx 14 bw) rfl (fun _=>rfl) (r_eqlS (r:=false) (by kernel_rfl)))<| .B 0 .nil
 refine aftI a6 db dc fun gI gJ a7 dl dm ai ax=>?_
 have⟨fu,fv,fw,fy⟩:=ax.f4 fo fp fq fs
 have bx:=ax.f1 bw
 have fz:=ax.g 1 47
 have⟨dn,dp,dq,dr⟩:=nw4 ai dd de df dg
 have⟨ds,dt,dw⟩:=nw3 ai dh di dj
 refine dk _ _<| wf fz<| wk fun gK dx=>?_
 refine wA tr2 [] 120 [vF,vF] a7 ?_ ?_
 exact .T (fun k=>v_bin rfl (k.fx 14 bx) rfl (fun _=>rfl) (r_eqlS (r:=false) (by kernel_rfl)))<| .B 0 .nil
 refine aftI a7 dl dm fun gL gM a8 dy dz aj ay=>?_
 have⟨fA,fB,fC,fD⟩:=ay.f4 fu fv fw fy
 have bz:=ay.f1 bx
 have fE:=ay.g 1 47
 have⟨dA,dB,dC,dD⟩:=nw4 aj dn dp dq dr
 have⟨dE,dF,dG⟩:=nw3 aj ds dt dw
 refine dx _ _<| wf fE<| wp_g0 [true,true] [] 120
  [vF,vF] a8 (.eq (.eq .nil)) ?_ ?_
 exact .T (fun k=>v_bin rfl (k.fx 14 bz) rfl (fun _=>rfl) (r_eqlS (r:=false) (by kernel_rfl)))<| .B 0 .nil
 refine aftI a8 dy dz fun gN gO a9 dH dI ak az=>?_
 have⟨fF,fG,fH,fI⟩:=az.f4 fA fB fC fD
 have bA:=az.f1 bz
 have fJ:=az.g 1 47
 have⟨dJ,dK,dL,dM⟩:=nw4 ak dA dB dC dD
 have⟨dN,dO,dP⟩:=nw3 ak dE dF dG
 refine cK _ _<| wf fJ<| wk fun gP dQ=>?_
 refine wA tr2 [] 120 [vT,vT] a9 ?_ ?_
 exact .T (fun k=>v_bin rfl (k.fx 14 bA) rfl (fun _=>rfl) (r_eqlS (r:=true) (by kernel_rfl)))<| .B 0 .nil
 refine aftI a9 dH dI fun gQ gR ba dR dS al aA=>?_
 have⟨gS,fK,fL,fM⟩:=aA.f4 fF fG fH fI
 have gT:=aA.f1 bA
 have fN:=aA.g 1 60
 have⟨dT,dU,dV,dW⟩:=nw4 al dJ dK dL dM
 have⟨dX,dY,dZ⟩:=nw3 al dN dO dP
 refine dQ _ _<| wt fN<| wk fun gU d0=>?_
 refine wA [true,true,true,true,true,false,false] [(5,false),(6,true)] 120 [ve (vv (cleanV v) aP aF aQ aG),ve (vv (cleanV u) aR aH aS aI),ve (.tuple #[vv (Vl.mk 2 0 0 false [] [] (truthR ((besideO (numericV (cleanV v)).1.neg (numericV (cleanV v)).1.mag (Nm.mk (numericV (cleanV u)).1.nk (numericV (cleanV u)).1.nn)).2 && (decide ((besideO (numericV (cleanV v)).1.neg (numericV (cleanV v)).1.mag (Nm.mk (numericV (cleanV u)).1.nk (numericV (cleanV u)).1.nn)).1 < 0) != false)))) none 0 none 0,iv 0]),ve (vv (Vl.mk 2 0 0 false [] [] (truthR ((besideO (numericV (cleanV v)).1.neg (numericV (cleanV v)).1.mag (Nm.mk (numericV (cleanV u)).1.nk (numericV (cleanV u)).1.nn)).2 && (decide ((besideO (numericV (cleanV v)).1.neg (numericV (cleanV v)).1.mag (Nm.mk (numericV (cleanV u)).1.nk (numericV (cleanV u)).1.nn)).1 < 0) != false)))) none 0 none 0),ve (iv 0),vt,vt] ba ?_ ?_
 exact .L9 fK dT<| .L9 fL dU<| .D (fun k=>args4 (k.eq1 0 62 rfl) (k.eq1 1 63 rfl) rfl rfl) (fun p=>lessB_c (cleanV v) _ _ _ _ (cleanV u) _ _ _ _ _ (dW.new_ p) (dX.new_ p) (dY.new_ p) (dZ.new_ p) hvv.clean hvu.clean hk1 hk2 fS fT hj1 hj2)<| .E 2<| .E 2<| .off<| .off .nil
 refine aftI ba dR dS fun bB gV bb d1 d2 d3 aO=>?_
 have bC:=aO.f1 fM
 have bD:=aO.g 3 65
 have bE:=aO.g 4 66
 have d4:=dV.new_ d3
 refine sS9 bC bD d4 fun fO d6 d5 gb=>?_
 have d8:=d2.tR d5
 refine sP bE bb d1 fun fP gc d9 am fR=>?_
 have⟨fQ,gX,gY⟩:=am.q3 bC bD bE
 refine d0 _ _<| wp_ret (ret_k d9 (v:=.tuple #[vv (Vl.mk 2 0 0 false [] [] (truthR ((besideO (numericV (cleanV v)).1.neg (numericV (cleanV v)).1.mag (Nm.mk (numericV (cleanV u)).1.nk (numericV (cleanV u)).1.nn)).2 && (decide ((besideO (numericV (cleanV v)).1.neg (numericV (cleanV v)).1.mag (Nm.mk (numericV (cleanV u)).1.nk (numericV (cleanV u)).1.nn)).1 < 0) != false)))) none 0 none 0,iv 0]) (res_ct rfl fQ fR (l_agg isAgg29 sizeOf29 d6 rfl)) ?_)
 exact⟨rfl,d8⟩
theorem minus_c  (v:Vl) (Av:Option Addr) (cv:Nat) (Bv:Option Addr) (dv:Nat) (w:World) (hmv:SRow w .u32 Av v.mag cv) (hsv:SRow w .u16 Bv v.s dv) (hvv:VOk v) (dg:(numericV v).2=0) (hj1:(numericV v).1.k=3):Calls prog 13 #[.string ⟨#[45]⟩,vv v Av cv Bv dv] w (IsRet (.tuple #[vv (Vl.mk 3 (negM (Nm.mk (numericV v).1.nk (numericV v).1.nn)).k (negM (Nm.mk (numericV v).1.nk (numericV v).1.nn)).n false [] [] 0) none 0 none 0,iv 0]) w):=by
 refine enter_abs func13 rfl fun a0 aK dh hp=>?_
 have aK:a0.tmps.size=76:=aK
 have aW:New w w:=Upd.refl _ _
 have hp0:a0.eval (.tmp 0)=.string ⟨#[45]⟩:=hp 0 _ rfl
 have hp1:a0.eval (.tmp 1)=vv v Av cv Bv dv:=hp 1 _ rfl
 refine wk fun K1 di=>?_
 refine wB tr3 [] [] 76 [IsNew w 29 (c7 v Av cv Bv dv),IsNew w 29 z7,ve (iv 0)] [0,1] aK ?_ heN ?_
 exact .X hp1<| .Y<| .c .nil
 refine aftI aK dh aW fun a2 w3 b7 dj ce ek aL=>?_
 have h8:=aL.f1 hp0
 obtain⟨dk,h9,cf,ch⟩:=aL.G 0 3
 obtain⟨aX,b8,ci,cj⟩:=aL.G 1 4
 have hne17:=aL.ne 0 1 3 4 h9 b8
 have dY:=Nat.le_trans aW.size cf
 have dZ:=Nat.le_trans aW.size ci
 refine di _ _ <| wk fun el cl=>?_
 refine wk fun em cm=>?_
 refine wA tr1 [] 76 [ve (.string ⟨#[45]⟩)] b7 ?_ ?_
 exact .M h8 .nil
 refine aftI b7 dj ce fun en eo aY cn co aZ aw=>?_
 have⟨dl,dm,dn⟩:=aw.f3 h8 h9 b8
 have b9:=aw.g 0 10
 have⟨cp,cq⟩:=nw2 aZ ch cj
 refine cm _ _<| wb<| wk fun ep cr=>?_
 refine wA tr2 [] 76 [vF,vF] aY ?_ ?_
 exact .T (fun k=>v_bin rfl (k.fx 10 b9) rfl (fun _=>rfl) (r_eqlS (r:=false) (by kernel_rfl)))<| .B 0 .nil
 refine aftI aY cn co fun er es a1 ct cu a3 am=>?_
 have⟨dp,dq,dr,ca⟩:=am.f4 dl dm dn b9
 have ds:=am.g 1 12
 have⟨cw,cx⟩:=nw2 a3 cp cq
 refine cr _ _<| wf ds<| wk fun et cy=>?_
 refine wA tr2 [] 76 [vF,vF] a1 ?_ ?_
 exact .T (fun k=>v_bin rfl (k.fx 10 ca) rfl (fun _=>rfl) (r_eqlS (r:=false) (by kernel_rfl)))<| .B 0 .nil
 refine aftI a1 ct cu fun eu ev a4 cz cA a5 an=>?_
 have⟨dt,du,dw,cb⟩:=an.f4 dp dq dr ca
 have dx:=an.g 1 18
 have⟨cB,cC⟩:=nw2 a5 cw cx
 refine cy _ _<| wf dx<| wk fun ew cD=>?_
 refine wA tr2 [] 76 [vF,vF] a4 ?_ ?_
 exact .T (fun k=>v_bin rfl (k.fx 10 cb) rfl (fun _=>rfl) (r_eqlS (r:=false) (by kernel_rfl)))<| .B 0 .nil
 refine aftI a4 cz cA fun ex ey a6 cE cF a7 ao=>?_
 have⟨dy,dz,dA,cc⟩:=ao.f4 dt du dw cb
 have dB:=ao.g 1 21
 have⟨cG,cH⟩:=nw2 a7 cB cC
 refine cD _ _<| wf dB<| wk fun ez cI=>wk fun eA cJ=>?_
 refine wA tr2 [] 76 [vT,vT] a6 ?_ ?_
 exact .T (fun k=>v_bin rfl (k.fx 10 cc) rfl (fun _=>rfl) (r_eqlS (r:=true) (by kernel_rfl)))<| .B 0 .nil
 refine aftI a6 cE cF fun eB dC a8 cK ax a9 ap=>?_
 have⟨dD,dE,dF,eC⟩:=ap.f4 dy dz dA cc
 have cd:=ap.g 1 34
 have⟨cL,ba⟩:=nw2 a9 cG cH
 refine cJ _ _<| wt cd<| ws ?_
 refine cI _ _<| wt cd<| ws ?_
 refine cl _ _<| wk fun eD cM=>?_
 refine wp_gS (fun W=>True) (fun W W' hn h=>trivial) trivial [true,true,true,true,true,true,false,false] [4] [(6,false),(7,true)] 76
  [ve (vv v Av cv Bv dv),(TP (numericV v).1 ((numericV v).2)),(TP (numericV v).1 ((numericV v).2)),(fun (v_:Value) (W:World)=>∃ (aq:Option Addr) (ar:Nat) (au:Option Addr) (av:Nat),v_=vv (numericV v).1 aq ar au av∧SRow W .u32 aq ((numericV v).1.mag) ar∧SRow W .u16 au ((numericV v).1.s) av),ve (iv ((numericV v).2)),IsNew dC 29 z7,vt,vt]
  [5] (newsCons (fun v w h=>IsNew.old h) newsNil) a8 (.eq (.cons (fun _ _ _ n ⟨_,_,_,_,e,h,i⟩=>⟨_,_,_,_,e,h.new_ n,i.new_ n⟩) (.cons (fun _ _ _ n ⟨_,_,_,_,e,h,i⟩=>⟨_,_,_,_,e,h.new_ n,i.new_ n⟩) (.cons (fun _ _ _ n ⟨_,_,_,_,e,h,i⟩=>⟨_,_,_,_,e,h.new_ n,i.new_ n⟩) (.eq (.nw (.tt (.tt .nil)))))))) ?_ ?_ ?_
 refine .L9 dE cL ?_
 refine .o1 (tkC rfl (noG rfl) rfl fun _ w hn k=>(by
  refine ⟨#[vv v Av cv Bv dv],_,args1 (k.eq1 0 38 rfl),fun w=>by kernel_rfl,cnumeric_c v _ _ _ _ _ (hmv.new_ (ax.transNew hn)) (hsv.new_ (ax.transNew hn)) hvv,?_⟩
  rintro e w' ⟨A1,c2,A3,c4,rfl,hmo0,hmo1,hm⟩
  exact⟨_,rfl,hm,⟨A1,c2,A3,c4,rfl,hmo0,hmo1⟩⟩)) ?_
 refine .o1 (tk rfl rfl fun _ w hn k=>(by
  obtain⟨A9,dG,dH,dI,dJ,cN,cO⟩:=k.G 1 39
  exact⟨_,v_move rfl dJ,⟨A9,dG,dH,dI,rfl,cN,cO⟩⟩)) ?_
 refine .o1 (tk rfl rfl fun _ w hn k=>(by
  obtain⟨dK,dL,dM,dN,dO,cP,cQ⟩:=k.G 2 37
  exact⟨_,v_extract rfl dO rfl,⟨dK,dL,dM,dN,rfl,cP,cQ⟩⟩)) ?_
 refine .o3 ?_
 exact .Y<| .off<| .off .nil
 refine eg1 ?_
 exact eager_takeG rfl (noG rfl) fun _ w hn k=>(by
  obtain⟨eE,eF,eG,eH,dP,d0,d1⟩:=k.G 2 37
  exact⟨_,fun w hS=>v_extract rfl dP rfl,rfl⟩)
 intro bb eI _ aM ab
 obtain⟨aN,bp,bq⟩:=aft ab a8 cK ax aM
 have⟨cR,cS⟩:=ab.f2 dD dF
 obtain⟨aI,ay,aJ,az,aA,br,bs⟩:=ab.G 3 40
 have aA:bb.eval (.tmp 40)=vv (numericV v).1 aI ay aJ az:=aA
 have bd:=ab.g 4 41
 obtain⟨aB,be,aO,aC⟩:=ab.G 5 8
 have bt:=ba.new_ aM
 have hne119:aX ≠ aB:=by have h1:=ba.lt; have h2:=aO; omega
 have dS:=Nat.le_trans ax.size aO
 refine sS9 be aA aC fun cT bv aD bu=>?_
 have bx:=br.fr aC aD
 have bz:=bs.fr aC aD
 have bA:=bu hne119 bt
 have bB:=bq.tR aD
 refine sP bd aN bp fun cU aP bC aa bh=>?_
 have⟨cV,cW,d3⟩:=aa.q3 cR cS aA
 have⟨d4,cX⟩:=aa.q2 bd be
 refine cM _ _ <| wk fun d5 dT=>?_
 refine wb<| wk fun d6 bD=>?_
 refine wA tr3 [] 76 [ve (iv ((numericV v).2)),ve (.bool (!decide (((numericV v).2)=0))),ve (.bool (!decide (((numericV v).2)=0)))] aP ?_ ?_
 exact .M bh<| .b 0 (r_neq rfl)<| .B 1 .nil
 refine aftI aP bC bB fun d7 d8 aQ bE bF ai ah=>?_
 have⟨bi,cY,bj,d9⟩:=ah.f4 cV cW cX bh
 have cZ:=ah.g 2 42
 have⟨bG,aR,bH,bI⟩:=nw4 ai bA bv bx bz
 refine bD _ _ ?_
 have aE:((!decide (((numericV v).2)=0)))=false:=(nf (decide_eq_true (dg)))
 have bJ:=hB cZ aE
 have aF:(decide (((numericV v).2)=0))=true:=nT aE
 have dQ:=oT aF
 refine wf bJ<| wk fun ea bK=>?_
 refine wA tr8 [] 76 [ve (.string ⟨#[45]⟩),vT,vT,ve (pv aB),ve (iv ((numericV v).1.k)),ve (.bool (decide (((numericV v).1.k)=4))),ve (.bool (decide (((numericV v).1.k)=4))),ve (.bool (decide (((numericV v).1.k)=4)))] aQ ?_ ?_
 exact .M bi<| .T (fun k=>v_bin rfl (k.eq1 0 48 rfl) rfl (fun _=>rfl) (r_eqlS (r:=true) (by kernel_rfl)))<| .N 1<| .gf (fun k=>k.eq1 2 50 rfl) (fun k=>k.fx 8 bj)<| .V (fun p k=>v_load rfl (k.eq1 3 51 rfl) (l_one isAgg3 ((aR.new_ p).cell 0)))<| .V (fun p k=>v_bin rfl (k.eq1 4 52 rfl) rfl (fun _=>rfl) (r_eql rfl))<| .T (fun k=>v_pickT rfl (k.eq1 2 50 rfl) (k.eq1 5 53 rfl))<| .B 6 .nil
 refine aftI aQ bE bF fun eb ec aS bL bM aj ak=>?_
 have⟨c0,c1,c3⟩:=ak.f3 bi cY bj
 have c5:=ak.g 7 47
 have⟨bN,bO,bP,bQ⟩:=nw4 aj bG aR bH bI
 refine bK _ _ ?_
 have aG:(decide (((numericV v).1.k)=4))=false:=decide_eq_false (by omega)
 have dR:=oF aG
 have bR:=hB c5 aG
 refine wf bR<| wk fun ed bS=>?_
 refine wA tr3 [] 76 [ve (.string ⟨#[45]⟩),vT,vT] aS ?_ ?_
 exact .M c0<| .T (fun k=>v_bin rfl (k.eq1 0 60 rfl) rfl (fun _=>rfl) (r_eqlS (r:=true) (by kernel_rfl)))<| .B 1 .nil
 refine aftI aS bL bM fun ee ef aT bT bU al aH=>?_
 have⟨c9,da⟩:=aH.f2 c1 c3
 have db:=aH.g 2 59
 have⟨bV,bW,dU,dV⟩:=nw4 al bN bO bP bQ
 refine bS _ _<| wt db<| wk fun eg bX=>?_
 refine wA [true,true,true,true,false,false] [(4,false),(5,true)] 76 [ve (.pointer (some ⟨aB,1,none⟩)),ve (nv (Nm.mk ((numericV v).1.nk) ((numericV v).1.nn))),ve (nv (negM (Nm.mk ((numericV v).1.nk) ((numericV v).1.nn)))),ve (vv (Vl.mk 3 (negM (Nm.mk ((numericV v).1.nk) ((numericV v).1.nn))).k (negM (Nm.mk ((numericV v).1.nk) ((numericV v).1.nn))).n false [] [] 0) none 0 none 0),vt,vt] aT ?_ ?_
 exact .F da<| .K2 0 bW<| .C 1 (fun p=>nneg_c (Nm.mk ((numericV v).1.nk) ((numericV v).1.nn)) _)<| .C 2 (fun p=>cnum_c (negM (Nm.mk ((numericV v).1.nk) ((numericV v).1.nn))) _)<| .off<| .off .nil
 refine aftI aT bT bU fun bk eh aU bY bZ b0 aV=>?_
 have bl:=aV.f1 c9
 have bm:=aV.g 3 65
 have b1:=bV.new_ b0
 refine sS9 bl bm b1 fun dc b3 b2 dW=>?_
 have b5:=bZ.tR b2
 refine sP (v:=iv 0) rfl aU bY fun dd dX b6 ac df=>?_
 have⟨de,ej⟩:=ac.q2 bl bm
 refine bX _ _<| wp_ret (ret_k b6 (v:=.tuple #[vv (Vl.mk 3 (negM (Nm.mk ((numericV v).1.nk) ((numericV v).1.nn))).k (negM (Nm.mk ((numericV v).1.nk) ((numericV v).1.nn))).n false [] [] 0) none 0 none 0,iv 0]) (res_ct rfl de df (l_agg isAgg29 sizeOf29 b3 rfl)) ?_)
 refine ⟨?_,b5⟩
 show Ending.returned (.tuple #[vv (Vl.mk 3 (negM (Nm.mk ((numericV v).1.nk) ((numericV v).1.nn))).k (negM (Nm.mk ((numericV v).1.nk) ((numericV v).1.nn))).n false [] [] 0) none 0 none 0,iv 0])=Ending.returned (.tuple #[vv (Vl.mk 3 (negM (Nm.mk (numericV v).1.nk (numericV v).1.nn)).k (negM (Nm.mk (numericV v).1.nk (numericV v).1.nn)).n false [] [] 0) none 0 none 0,iv 0])
 first|rfl|(simp only [aE,aF,aF,aG,bsm] <;> rfl)|(exfalso; omega)
def ops_c_P  (w:World) (en:Ending) (w':World):Prop:=∃ (Ar0:Option Addr) (cr0:Nat),en=.returned (svT Ar0 ([⟨#[43]⟩,⟨#[45]⟩,⟨#[42]⟩,⟨#[47]⟩,⟨#[37]⟩,⟨#[38]⟩,⟨#[124]⟩,⟨#[94]⟩,⟨#[60,60]⟩,⟨#[62,62]⟩,⟨#[62,62,62]⟩,⟨#[60]⟩,⟨#[62]⟩,⟨#[60,61]⟩,⟨#[62,61]⟩,⟨#[61,61]⟩,⟨#[33,61]⟩,⟨#[61,61,61]⟩,⟨#[33,61,61]⟩]) cr0)∧TRow w' Ar0 ([⟨#[43]⟩,⟨#[45]⟩,⟨#[42]⟩,⟨#[47]⟩,⟨#[37]⟩,⟨#[38]⟩,⟨#[124]⟩,⟨#[94]⟩,⟨#[60,60]⟩,⟨#[62,62]⟩,⟨#[62,62,62]⟩,⟨#[60]⟩,⟨#[62]⟩,⟨#[60,61]⟩,⟨#[62,61]⟩,⟨#[61,61]⟩,⟨#[33,61]⟩,⟨#[61,61,61]⟩,⟨#[33,61,61]⟩]) cr0∧New w w'
theorem ops_c  (w:World):Calls prog 32 #[] w (ops_c_P  w):=by
 refine enter_abs func32 rfl fun a0 ac ak hp=>?_
 have ac:a0.tmps.size=2:=ac
 have al:New w w:=Upd.refl _ _
 refine wk fun K1 am=>?_
 refine wA tr1 [] 2 [ve (sv none ([]) 0)] ac ?_ ?_
 exact .c .nil
 refine aftI ac ak al fun a2 w3 af an ao aw ax=>?_
 refine am _ _ <| wk fun K9 ap=>?_
 refine wp_g0 [true,true] [] 2
  [(fun (v_:Value) (W:World)=>∃ (A3:Option Addr) (c4:Nat),v_=svT A3 ([⟨#[43]⟩,⟨#[45]⟩,⟨#[42]⟩,⟨#[47]⟩,⟨#[37]⟩,⟨#[38]⟩,⟨#[124]⟩,⟨#[94]⟩,⟨#[60,60]⟩,⟨#[62,62]⟩,⟨#[62,62,62]⟩,⟨#[60]⟩,⟨#[62]⟩,⟨#[60,61]⟩,⟨#[62,61]⟩,⟨#[61,61]⟩,⟨#[33,61]⟩,⟨#[61,61,61]⟩,⟨#[33,61,61]⟩]) c4∧TRow W A3 ([⟨#[43]⟩,⟨#[45]⟩,⟨#[42]⟩,⟨#[47]⟩,⟨#[37]⟩,⟨#[38]⟩,⟨#[124]⟩,⟨#[94]⟩,⟨#[60,60]⟩,⟨#[62,62]⟩,⟨#[62,62,62]⟩,⟨#[60]⟩,⟨#[62]⟩,⟨#[60,61]⟩,⟨#[62,61]⟩,⟨#[61,61]⟩,⟨#[33,61]⟩,⟨#[61,61,61]⟩,⟨#[33,61,61]⟩]) c4),(fun (v_:Value) (W:World)=>∃ (A9:Option Addr) (aa:Nat),v_=svT A9 ([⟨#[43]⟩,⟨#[45]⟩,⟨#[42]⟩,⟨#[47]⟩,⟨#[37]⟩,⟨#[38]⟩,⟨#[124]⟩,⟨#[94]⟩,⟨#[60,60]⟩,⟨#[62,62]⟩,⟨#[62,62,62]⟩,⟨#[60]⟩,⟨#[62]⟩,⟨#[60,61]⟩,⟨#[62,61]⟩,⟨#[61,61]⟩,⟨#[33,61]⟩,⟨#[61,61,61]⟩,⟨#[33,61,61]⟩]) aa∧TRow W A9 ([⟨#[43]⟩,⟨#[45]⟩,⟨#[42]⟩,⟨#[47]⟩,⟨#[37]⟩,⟨#[38]⟩,⟨#[124]⟩,⟨#[94]⟩,⟨#[60,60]⟩,⟨#[62,62]⟩,⟨#[62,62,62]⟩,⟨#[60]⟩,⟨#[62]⟩,⟨#[60,61]⟩,⟨#[62,61]⟩,⟨#[61,61]⟩,⟨#[33,61]⟩,⟨#[61,61,61]⟩,⟨#[33,61,61]⟩]) aa)] af (.cons (fun _ _ _ n ⟨_,_,e,h⟩=>⟨_,_,e,h.new_ n⟩) (.cons (fun _ _ _ n ⟨_,_,e,h⟩=>⟨_,_,e,h.new_ n⟩) .nil)) ?_ ?_
 refine .o1 (tkA rfl (noG rfl) fun _ w hn k=>(by
  exact x_bsliceT (ps:=[(0,.string ⟨#[43]⟩),(1,.string ⟨#[45]⟩),(2,.string ⟨#[42]⟩),(3,.string ⟨#[47]⟩),(4,.string ⟨#[37]⟩),(5,.string ⟨#[38]⟩),(6,.string ⟨#[124]⟩),(7,.string ⟨#[94]⟩),(8,.string ⟨#[60,60]⟩),(9,.string ⟨#[62,62]⟩),(10,.string ⟨#[62,62,62]⟩),(11,.string ⟨#[60]⟩),(12,.string ⟨#[62]⟩),(13,.string ⟨#[60,61]⟩),(14,.string ⟨#[62,61]⟩),(15,.string ⟨#[61,61]⟩),(16,.string ⟨#[33,61]⟩),(17,.string ⟨#[61,61,61]⟩),(18,.string ⟨#[33,61,61]⟩)]) [⟨#[43]⟩,⟨#[45]⟩,⟨#[42]⟩,⟨#[47]⟩,⟨#[37]⟩,⟨#[38]⟩,⟨#[124]⟩,⟨#[94]⟩,⟨#[60,60]⟩,⟨#[62,62]⟩,⟨#[62,62,62]⟩,⟨#[60]⟩,⟨#[62]⟩,⟨#[60,61]⟩,⟨#[62,61]⟩,⟨#[61,61]⟩,⟨#[33,61]⟩,⟨#[61,61,61]⟩,⟨#[33,61,61]⟩] rfl (by simp [Act.eval]) elT rfl (by omega) (by omega) (by kernel_rfl) fun A1 c2 W' hmo=>⟨A1,c2,rfl,hmo⟩)) ?_
 refine .o1 (tk rfl rfl fun _ w hn k=>(by
  obtain⟨A5,c6,e7,aq⟩:=k.G 0 1
  exact⟨_,v_assign rfl e7,⟨A5,c6,rfl,aq⟩⟩)) ?_
 exact .nil
 refine aftI af an ao fun ar ay au ag ah av ai=>?_
 obtain⟨ad,ab,ae,aj⟩:=ai.G 1 0
 have ae:ar.eval (.tmp 0)=svT ad ([⟨#[43]⟩,⟨#[45]⟩,⟨#[42]⟩,⟨#[47]⟩,⟨#[37]⟩,⟨#[38]⟩,⟨#[124]⟩,⟨#[94]⟩,⟨#[60,60]⟩,⟨#[62,62]⟩,⟨#[62,62,62]⟩,⟨#[60]⟩,⟨#[62]⟩,⟨#[60,61]⟩,⟨#[62,61]⟩,⟨#[61,61]⟩,⟨#[33,61]⟩,⟨#[61,61,61]⟩,⟨#[33,61,61]⟩]) ab:=ae
 refine ap _ _<| wp_ret (ret_k ag (v:=svT ad ([⟨#[43]⟩,⟨#[45]⟩,⟨#[42]⟩,⟨#[47]⟩,⟨#[37]⟩,⟨#[38]⟩,⟨#[124]⟩,⟨#[94]⟩,⟨#[60,60]⟩,⟨#[62,62]⟩,⟨#[62,62,62]⟩,⟨#[60]⟩,⟨#[62]⟩,⟨#[60,61]⟩,⟨#[62,61]⟩,⟨#[61,61]⟩,⟨#[33,61]⟩,⟨#[61,61,61]⟩,⟨#[33,61,61]⟩]) ab) (res_t rfl ae _) ?_)
 exact⟨ad,ab,rfl,aj,ah⟩
def rops_c_P  (w:World) (en:Ending) (w':World):Prop:=∃ (Ar0:Option Addr) (cr0:Nat),en=.returned (svT Ar0 ([⟨#[43]⟩,⟨#[45]⟩,⟨#[42]⟩,⟨#[47]⟩,⟨#[37]⟩,⟨#[38]⟩,⟨#[124]⟩,⟨#[94]⟩,⟨#[60,60]⟩,⟨#[62,62]⟩,⟨#[62,62,62]⟩,⟨#[60]⟩,⟨#[62]⟩,⟨#[60,61]⟩,⟨#[62,61]⟩,⟨#[61,61]⟩,⟨#[33,61]⟩,⟨#[61,61,61]⟩,⟨#[33,61,61]⟩]) cr0)∧TRow w' Ar0 ([⟨#[43]⟩,⟨#[45]⟩,⟨#[42]⟩,⟨#[47]⟩,⟨#[37]⟩,⟨#[38]⟩,⟨#[124]⟩,⟨#[94]⟩,⟨#[60,60]⟩,⟨#[62,62]⟩,⟨#[62,62,62]⟩,⟨#[60]⟩,⟨#[62]⟩,⟨#[60,61]⟩,⟨#[62,61]⟩,⟨#[61,61]⟩,⟨#[33,61]⟩,⟨#[61,61,61]⟩,⟨#[33,61,61]⟩]) cr0∧New w w'
theorem rops_c  (w:World):Calls prog 33 #[] w (rops_c_P  w):=by
 refine enter_abs func33 rfl fun a0 ac ak hp=>?_
 have ac:a0.tmps.size=2:=ac
 have al:New w w:=Upd.refl _ _
 refine wk fun K1 am=>?_
 refine wA tr1 [] 2 [ve (sv none ([]) 0)] ac ?_ ?_
 exact .c .nil
 refine aftI ac ak al fun a2 w3 af an ao aw ax=>?_
 refine am _ _ <| wk fun K9 ap=>?_
 refine wp_g0 [true,true] [] 2
  [(fun (v_:Value) (W:World)=>∃ (A3:Option Addr) (c4:Nat),v_=svT A3 ([⟨#[43]⟩,⟨#[45]⟩,⟨#[42]⟩,⟨#[47]⟩,⟨#[37]⟩,⟨#[38]⟩,⟨#[124]⟩,⟨#[94]⟩,⟨#[60,60]⟩,⟨#[62,62]⟩,⟨#[62,62,62]⟩,⟨#[60]⟩,⟨#[62]⟩,⟨#[60,61]⟩,⟨#[62,61]⟩,⟨#[61,61]⟩,⟨#[33,61]⟩,⟨#[61,61,61]⟩,⟨#[33,61,61]⟩]) c4∧TRow W A3 ([⟨#[43]⟩,⟨#[45]⟩,⟨#[42]⟩,⟨#[47]⟩,⟨#[37]⟩,⟨#[38]⟩,⟨#[124]⟩,⟨#[94]⟩,⟨#[60,60]⟩,⟨#[62,62]⟩,⟨#[62,62,62]⟩,⟨#[60]⟩,⟨#[62]⟩,⟨#[60,61]⟩,⟨#[62,61]⟩,⟨#[61,61]⟩,⟨#[33,61]⟩,⟨#[61,61,61]⟩,⟨#[33,61,61]⟩]) c4),(fun (v_:Value) (W:World)=>∃ (A9:Option Addr) (aa:Nat),v_=svT A9 ([⟨#[43]⟩,⟨#[45]⟩,⟨#[42]⟩,⟨#[47]⟩,⟨#[37]⟩,⟨#[38]⟩,⟨#[124]⟩,⟨#[94]⟩,⟨#[60,60]⟩,⟨#[62,62]⟩,⟨#[62,62,62]⟩,⟨#[60]⟩,⟨#[62]⟩,⟨#[60,61]⟩,⟨#[62,61]⟩,⟨#[61,61]⟩,⟨#[33,61]⟩,⟨#[61,61,61]⟩,⟨#[33,61,61]⟩]) aa∧TRow W A9 ([⟨#[43]⟩,⟨#[45]⟩,⟨#[42]⟩,⟨#[47]⟩,⟨#[37]⟩,⟨#[38]⟩,⟨#[124]⟩,⟨#[94]⟩,⟨#[60,60]⟩,⟨#[62,62]⟩,⟨#[62,62,62]⟩,⟨#[60]⟩,⟨#[62]⟩,⟨#[60,61]⟩,⟨#[62,61]⟩,⟨#[61,61]⟩,⟨#[33,61]⟩,⟨#[61,61,61]⟩,⟨#[33,61,61]⟩]) aa)] af (.cons (fun _ _ _ n ⟨_,_,e,h⟩=>⟨_,_,e,h.new_ n⟩) (.cons (fun _ _ _ n ⟨_,_,e,h⟩=>⟨_,_,e,h.new_ n⟩) .nil)) ?_ ?_
 refine .o1 (tkA rfl (noG rfl) fun _ w hn k=>(by
  exact x_bsliceT (ps:=[(0,.string ⟨#[43]⟩),(1,.string ⟨#[45]⟩),(2,.string ⟨#[42]⟩),(3,.string ⟨#[47]⟩),(4,.string ⟨#[37]⟩),(5,.string ⟨#[38]⟩),(6,.string ⟨#[124]⟩),(7,.string ⟨#[94]⟩),(8,.string ⟨#[60,60]⟩),(9,.string ⟨#[62,62]⟩),(10,.string ⟨#[62,62,62]⟩),(11,.string ⟨#[60]⟩),(12,.string ⟨#[62]⟩),(13,.string ⟨#[60,61]⟩),(14,.string ⟨#[62,61]⟩),(15,.string ⟨#[61,61]⟩),(16,.string ⟨#[33,61]⟩),(17,.string ⟨#[61,61,61]⟩),(18,.string ⟨#[33,61,61]⟩)]) [⟨#[43]⟩,⟨#[45]⟩,⟨#[42]⟩,⟨#[47]⟩,⟨#[37]⟩,⟨#[38]⟩,⟨#[124]⟩,⟨#[94]⟩,⟨#[60,60]⟩,⟨#[62,62]⟩,⟨#[62,62,62]⟩,⟨#[60]⟩,⟨#[62]⟩,⟨#[60,61]⟩,⟨#[62,61]⟩,⟨#[61,61]⟩,⟨#[33,61]⟩,⟨#[61,61,61]⟩,⟨#[33,61,61]⟩] rfl (by simp [Act.eval]) elT rfl (by omega) (by omega) (by kernel_rfl) fun A1 c2 W' hmo=>⟨A1,c2,rfl,hmo⟩)) ?_
 refine .o1 (tk rfl rfl fun _ w hn k=>(by
  obtain⟨A5,c6,e7,aq⟩:=k.G 0 1
  exact⟨_,v_assign rfl e7,⟨A5,c6,rfl,aq⟩⟩)) ?_
 exact .nil
 refine aftI af an ao fun ar ay au ag ah av ai=>?_
 obtain⟨ad,ab,ae,aj⟩:=ai.G 1 0
 have ae:ar.eval (.tmp 0)=svT ad ([⟨#[43]⟩,⟨#[45]⟩,⟨#[42]⟩,⟨#[47]⟩,⟨#[37]⟩,⟨#[38]⟩,⟨#[124]⟩,⟨#[94]⟩,⟨#[60,60]⟩,⟨#[62,62]⟩,⟨#[62,62,62]⟩,⟨#[60]⟩,⟨#[62]⟩,⟨#[60,61]⟩,⟨#[62,61]⟩,⟨#[61,61]⟩,⟨#[33,61]⟩,⟨#[61,61,61]⟩,⟨#[33,61,61]⟩]) ab:=ae
 refine ap _ _<| wp_ret (ret_k ag (v:=svT ad ([⟨#[43]⟩,⟨#[45]⟩,⟨#[42]⟩,⟨#[47]⟩,⟨#[37]⟩,⟨#[38]⟩,⟨#[124]⟩,⟨#[94]⟩,⟨#[60,60]⟩,⟨#[62,62]⟩,⟨#[62,62,62]⟩,⟨#[60]⟩,⟨#[62]⟩,⟨#[60,61]⟩,⟨#[62,61]⟩,⟨#[61,61]⟩,⟨#[33,61]⟩,⟨#[61,61,61]⟩,⟨#[33,61,61]⟩]) ab) (res_t rfl ae _) ?_)
 exact⟨ad,ab,rfl,aj,ah⟩
theorem texts_c (Aa:Option Addr) (a:List ByteArray) (ca:Nat) (Ab:Option Addr) (b:List ByteArray) (cb:Nat) (w:World) (hra:TRow w Aa a ca) (hrb:TRow w Ab b cb) (hab:a=b):Calls prog 31 #[svT Aa a ca,svT Ab b cb] w (IsRet (.bool true) w):=by
 refine enter_abs func31 rfl fun a0 ak bg hp=>?_
 have ak:a0.tmps.size=26:=ak
 have bh:New w w:=Upd.refl _ _
 have hp0:a0.eval (.tmp 0)=svT Aa a ca:=hp 0 _ rfl
 have hp1:a0.eval (.tmp 1)=svT Ab b cb:=hp 1 _ rfl
 have hmx:=hra.max
 have hmy:=hrb.max
 have hlab:a.length=b.length:=by rw [hab]
 refine wk fun K1 bi=>?_
 refine wA tr1 [] 26 [vF] ak ?_ ?_
 exact .c .nil
 refine aftI ak bg bh fun a2 w3 az bj aJ bP aA=>?_
 have⟨h8,h9⟩:=aA.f2 hp0 hp1
 refine bi _ _ <| wk fun bQ aK=>?_
 refine wk fun bR aL=>?_
 refine wA tr5 [] 26 [ve (svT Aa a ca),ve (iv (a.length:Int)),ve (svT Ab b cb),ve (iv (b.length:Int)),ve (.bool (!decide ((a.length:Int)=(b.length:Int))))] az ?_ ?_
 exact .M h8<| .T (fun k=>v_lenT rfl elT (k.eq1 0 6 rfl))<| .M h9<| .T (fun k=>v_lenT rfl elT (k.eq1 2 8 rfl))<| .T (fun k=>v_bin rfl (k.eq1 1 7 rfl) (k.eq1 3 9 rfl) (fun _=>rfl) (r_neq rfl)) .nil
 refine aftI az bj aJ fun bS bT al aM aN bJ ai=>?_
 have⟨bk,bl⟩:=ai.f2 h8 h9
 have bm:=ai.g 4 10
 refine aL _ _ ?_
 have am:((!decide ((a.length:Int)=(b.length:Int))))=false:=(nf (decide_eq_true (by omega)))
 have aO:=hB bm am
 have aP:(decide ((a.length:Int)=(b.length:Int)))=true:=nT am
 have bG:=oT aP
 refine wf aO<| ws<| aK _ _<| wk fun bU aQ=>wk fun bV aR=>?_
 refine wA tr1 [] 26 [ve (iv 0)] al ?_ ?_
 exact .c .nil
 refine aftI al aM aN fun bW bX aS aT aU bK aj=>?_
 have⟨bn,bo⟩:=aj.f2 bk bl
 have bp:=aj.g 0 5
 refine aR _ _<| wb<| wp_loopX (fun (mm:Nat) (aa:Act) (ww:World)=>∃ (i:Nat),mm=a.length - i∧aa.tmps.size=26∧aa.defers=[]∧New w ww∧aa.eval (.tmp 5)=iv (i:Int)∧aa.eval (.tmp 0)=svT Aa a ca∧aa.eval (.tmp 1)=svT Ab b cb∧(i≤a.length)) (fun mm=>mm) ⟨_,⟨0,rfl,aS,aT,aU,bp,bn,bo,(Nat.zero_le _)⟩⟩ ?_
 rintro mm bY bZ ⟨i,hmm,an,aV,aW,aB,aC,bq,hi⟩
 refine wk fun b0 aX=>wk fun b2 aY=>?_
 refine wA tr4 [] 26 [ve (iv (i:Int)),ve (svT Aa a ca),ve (iv (a.length:Int)),ve (.bool (decide ((i:Int) < (a.length:Int))))] an ?_ ?_
 exact .M aB<| .M aC<| .T (fun k=>v_lenT rfl elT (k.eq1 1 12 rfl))<| .T (fun k=>v_bin rfl (k.eq1 0 11 rfl) (k.eq1 2 13 rfl) (fun _=>rfl) (r_lssK rfl)) .nil
 refine aftI an aV aW fun b4 b6 ad ao ae bL af=>?_
 have⟨ap,aD,aE⟩:=af.f3 aB aC bq
 have aF:=af.g 3 14
 refine aY _ _ ?_
 rcases bc (decide ((i:Int) < (a.length:Int))) with ac|ac
 have av:=oT ac
 have aZ:=hB aF ac
 refine wt aZ<| ws<| aX _ _<| wk fun b7 a1=>wb ?_
 refine wk fun b8 a3=>?_
 refine wp_g0 (.replicate 9 true) [] 26
  [ve (svT Aa a ca),ve (iv (i:Int)),
  (EP (.string (a.getD i ⟨#[]⟩))),ve (.string (a.getD i ⟨#[]⟩)),ve (svT Ab b cb),ve (iv (i:Int)),
  (EP (.string (b.getD i ⟨#[]⟩))),ve (.string (b.getD i ⟨#[]⟩)),ve (.bool (!strEq (a.getD i ⟨#[]⟩) (b.getD i ⟨#[]⟩)))] ad (.eq (.eq (.cons (fun _ _ _ n ⟨_,_,e,h⟩=>⟨_,_,e,h.new_ n⟩) (.eq (.eq (.eq (.cons (fun _ _ _ n ⟨_,_,e,h⟩=>⟨_,_,e,h.new_ n⟩) (.eq (.eq .nil))))))))) ?_ ?_
 refine .M aD<| .M ap ?_
 refine .o1 (tk rfl rfl fun _ w hn k=>(by
  exact x_eaddrT rfl elT (k.eq1 0 17 rfl) (k.eq1 1 18 rfl) (hra.new_ (ae.transNew hn)) (by omega) fun b1 o2 hme=>⟨b1,o2,rfl,hme⟩)) ?_
 refine .o1 (tk rfl rfl fun _ w hn k=>(by
  obtain⟨b5,o6,e7,bt⟩:=k.G 2 19
  exact⟨_,v_load rfl e7 (l_one isAgg9 bt.1),rfl⟩)) ?_
 refine .M aE<| .M ap ?_
 refine .o1 (tk rfl rfl fun _ w hn k=>(by
  exact x_eaddrT rfl elT (k.eq1 4 21 rfl) (k.eq1 5 22 rfl) (hrb.new_ (ae.transNew hn)) (by omega) fun b9 bu hme=>⟨b9,bu,rfl,hme⟩)) ?_
 refine .o1 (tk rfl rfl fun _ w hn k=>(by
  obtain⟨cc,cd,bv,a4⟩:=k.G 6 23
  exact⟨_,v_load rfl bv (l_one isAgg9 a4.1),rfl⟩)) ?_
 exact .T (fun k=>v_bin rfl (k.eq1 3 20 rfl) (k.eq1 7 24 rfl) (fun _=>rfl) (r_neqS rfl)) .nil
 refine aftI ad ao ae fun ce cf aq a5 a6 bM ag=>?_
 have⟨aG,bw,bx⟩:=ag.f3 ap aD aE
 have bz:=ag.g 8 25
 refine a3 _ _ ?_
 have ar:((!strEq (a.getD i ⟨#[]⟩) (b.getD i ⟨#[]⟩)))=false:=(nf (by rw [hab]; exact str_self _))
 have a7:=hB bz ar
 have bN:(strEq (a.getD i ⟨#[]⟩) (b.getD i ⟨#[]⟩))=true:=nT ar
 refine wf a7<| ws<| a1 _ _<| wA [true,true,false] [(2,true)] 26 [ve (iv (i:Int)),ve (iv ((i + 1:Nat):Int)),vt] aq ?_ ?_
 exact .M aG<| .R (fun k=>v_bin rfl (k.eq1 0 15 rfl) rfl (fun _=>rfl) (n_add (by omega) (IntWalk.i64_in _ (by omega)))) (fun _=>rfl)<| .off .nil
 refine aftI aq a5 a6 fun aH ch au a8 a9 bO ah=>?_
 have⟨ci,bA,bB⟩:=ah.f3 aG bw bx
 have aI:=ah.g 1 16
 refine sP aI au a8 fun bC ba bb ab bF=>?_
 have⟨bD,bE,cj⟩:=ab.q3 bA bB aI
 refine st_nil ?_
 refine then_n ?_
 exact⟨_,⟨i + 1,rfl,ba,bb,a9,(bF.trans (congrArg (Value.int .i64) (by omega))),bD,bE,(by omega)⟩,(by omega)⟩
 have av:=oF ac
 have bd:=hB aF ac
 refine wf bd<| wp_exit ?_
 refine aQ _ _<| wk fun cl be=>?_
 refine wA tr1 [] 26 [vT] ad ?_ ?_
 exact .c .nil
 refine aftI ad ao ae fun cm cn bH aw ax bI ay=>?_
 have bf:=ay.g 0 4
 refine be _ _<| wp_ret (ret_k aw (v:=.bool true) (res_t rfl bf _) ?_)
 exact⟨rfl,ax⟩
def obig_c_P (Am:Option Addr) (m:List Nat) (cm:Nat) (w:World) (en:Ending) (w':World):Prop:=∃ (Ar0:Option Addr) (cr0:Nat),en=.returned (vv (Vl.mk 4 0 0 false m [] 0) Ar0 cr0 none 0)∧SRow w' .u32 Ar0 m cr0∧New w w'
theorem obig_c (Am:Option Addr) (m:List Nat) (cm:Nat) (w:World) (hrm:SRow w .u32 Am m cm):Calls prog 30 #[sv Am m cm] w (obig_c_P Am m cm w):=by
 refine enter_abs func30 rfl fun a0 aa aw hp=>?_
 have aa:a0.tmps.size=6:=aa
 have af:New w w:=Upd.refl _ _
 have hp0:a0.eval (.tmp 0)=sv Am m cm:=hp 0 _ rfl
 refine wk fun K1 ax=>?_
 refine wB tr1 [] [] 6 [IsNew w 29 z7] [0] aa ?_ heN ?_
 exact .Y .nil
 refine aftI aa aw af fun a2 w3 ag ay aj aF ah=>?_
 have h8:=ah.f1 hp0
 obtain⟨az,h9,ak,al⟩:=ah.G 0 2
 have aC:=Nat.le_trans af.size ak
 refine ax _ _ <| wk fun aG am=>?_
 refine wA [true,true,true,false] [(3,false)] 6 [ve (sv Am m cm),ve (.agg #[.bool false,sv Am m cm]),ve (vv (Vl.mk 4 0 0 false m [] 0) Am cm none 0),vt] ag ?_ ?_
 exact .M h8<| .T (fun k=>v_build (ps:=[(1,sv Am m cm)]) rfl (parts1 (k.eq1 0 3 rfl)) (by kernel_rfl))<| .T (fun k=>v_build (ps:=[(0,iv 4),(2,.agg #[.bool false,sv Am m cm])]) rfl (parts2 rfl (k.eq1 1 4 rfl)) (by kernel_rfl))<| .off .nil
 refine aftI ag ay aj fun aH aI aD an ao ap ab=>?_
 have ai:=ab.f1 h9
 have aA:=ab.g 2 5
 have aq:=al.new_ ap
 refine sS9 ai aA aq fun aB au ar aE=>?_
 have ac:=ao.tR ar
 refine am _ _<| wp_ret (ret_k an (v:=vv (Vl.mk 4 0 0 false m [] 0) Am cm none 0) (res_c rfl ai (l_agg isAgg29 sizeOf29 au rfl)) ?_)
 exact⟨Am,cm,rfl,(hrm.new_ ac),ac⟩
def ostr_c_P (s:ByteArray) (w:World) (en:Ending) (w':World):Prop:=∃ (Ar0:Option Addr) (cr0:Nat),en=.returned (vv (Vl.mk 5 0 0 false [] (asc s) 0) none 0 Ar0 cr0)∧SRow w' .u16 Ar0 (asc s) cr0∧New w w'
theorem ostr_c (s:ByteArray) (w:World) (hs:s.size≤1000000):Calls prog 18 #[.string s] w (ostr_c_P s w):=by
 refine enter_abs func18 rfl fun a0 ad aD hp=>?_
 have ad:a0.tmps.size=6:=ad
 have al:New w w:=Upd.refl _ _
 have hp0:a0.eval (.tmp 0)=.string s:=hp 0 _ rfl
 refine wk fun K1 aE=>?_
 refine wB tr1 [] [] 6 [IsNew w 29 z7] [0] ad ?_ heN ?_
 exact .Y .nil
 refine aftI ad aD al fun a2 w3 am aF ae aN an=>?_
 have h8:=an.f1 hp0
 obtain⟨aG,h9,ap,aq⟩:=an.G 0 2
 have aK:=Nat.le_trans al.size ap
 refine aE _ _ <| wk fun aO ar=>?_
 refine wp_g0 [true,true,true,false] [(3,false)] 6
  [ve (.string s),
  (OP w3.heap.size 74 .u16 (asc s)),(fun (v_:Value) (W:World)=>∃ (A9:Option Addr) (aa:Nat),v_=vv (Vl.mk 5 0 0 false [] (asc s) 0) none 0 A9 aa∧SOwn W w3.heap.size 74 .u16 A9 (asc s) aa),vt] am (.eq (.cons (fun _ _ _ n ⟨_,_,e,h⟩=>⟨_,_,e,h.new_ n⟩) (.cons (fun _ _ _ n ⟨_,_,e,h⟩=>⟨_,_,e,h.new_ n⟩) (.tt .nil)))) ?_ ?_
 refine .M h8 ?_
 refine .o1 (tkC rfl (noG rfl) rfl fun _ w hn k=>(by
  refine ⟨#[.string s],_,args1 (k.eq1 0 3 rfl),fun w=>by kernel_rfl,rascii_c s _ (by first|omega|(show (_:Nat)≤_; decide)),?_⟩
  rintro e w' ⟨A1,c2,rfl,hmo0,hm⟩
  exact⟨_,rfl,hm,⟨A1,c2,rfl,(hmo0.more hn.size)⟩⟩)) ?_
 refine .o1 (tk rfl rfl fun _ w hn k=>(by
  obtain⟨A5,c6,e7,aH⟩:=k.G 1 4
  exact⟨_,v_build (ps:=[(0,iv 5),(3,sv A5 (asc s) c6)]) rfl (parts2 rfl e7) (by kernel_rfl),⟨A5,c6,rfl,aH⟩⟩)) ?_
 exact .off .nil
 refine aftI am aF ae fun aI aP aL au av aw af=>?_
 have ao:=af.f1 h9
 obtain⟨ac,ab,ag,ax⟩:=af.G 2 5
 have ag:aI.eval (.tmp 5)=vv (Vl.mk 5 0 0 false [] (asc s) 0) none 0 ac ab:=ag
 have ah:=aq.new_ aw
 have ay:=ax.more ae.size
 refine sS9 ao ag ah fun aJ az ai aM=>?_
 have aB:=ay.far ah ai (by decide)
 have aC:=av.tR ai
 refine ar _ _<| wp_ret (ret_k au (v:=vv (Vl.mk 5 0 0 false [] (asc s) 0) none 0 ac ab) (res_c rfl ao (l_agg isAgg29 sizeOf29 az rfl)) ?_)
 exact⟨ac,ab,rfl,aB.row,aC⟩
theorem owhole_c (n:Int) (w:World):Calls prog 17 #[iv n] w (IsRet (vv (Vl.mk 3 0 n false [] [] 0) none 0 none 0) w):=by
 refine enter_abs func17 rfl fun a0 aa aw hp=>?_
 have aa:a0.tmps.size=6:=aa
 have ae:New w w:=Upd.refl _ _
 have hp0:a0.eval (.tmp 0)=iv n:=hp 0 _ rfl
 refine wk fun K1 ax=>?_
 refine wB tr1 [] [] 6 [IsNew w 29 z7] [0] aa ?_ heN ?_
 exact .Y .nil
 refine aftI aa aw ae fun a2 w3 af ay ai aF ag=>?_
 have h8:=ag.f1 hp0
 obtain⟨az,h9,aj,ak⟩:=ag.G 0 2
 have aC:=Nat.le_trans ae.size aj
 refine ax _ _ <| wk fun aG al=>?_
 refine wA [true,true,true,false] [(3,false)] 6 [ve (iv n),ve (nv (Nm.mk 0 n)),ve (vv (Vl.mk 3 0 n false [] [] 0) none 0 none 0),vt] af ?_ ?_
 exact .M h8<| .T (fun k=>v_build (ps:=[(1,iv n)]) rfl (parts1 (k.eq1 0 3 rfl)) (by kernel_rfl))<| .T (fun k=>v_build (ps:=[(0,iv 3),(1,nv (Nm.mk 0 n))]) rfl (parts2 rfl (k.eq1 1 4 rfl)) (by kernel_rfl))<| .off .nil
 refine aftI af ay ai fun aH aI aD am an ao ab=>?_
 have ah:=ab.f1 h9
 have aA:=ab.g 2 5
 have ap:=ak.new_ ao
 refine sS9 ah aA ap fun aB ar aq aE=>?_
 have av:=an.tR aq
 refine al _ _<| wp_ret (ret_k am (v:=vv (Vl.mk 3 0 n false [] [] 0) none 0 none 0) (res_c rfl ah (l_agg isAgg29 sizeOf29 ar rfl)) ?_)
 exact⟨rfl,av⟩
theorem VOk.str (s:ByteArray) (h:s.size≤20000):VOk ⟨5,0,0,false,[],asc s,0⟩:=⟨Limbs.nil,U16s.asc s,Nat.zero_le _,by rw [asc_len]; exact h,(show (-9223372036854775808:Int)≤0 by decide),(show (0:Int)≤9223372036854775807 by decide),(show (-9223372036854775808:Int)≤0 by decide),(show (0:Int)≤9223372036854775807 by decide)⟩
theorem VOk.whole {n:Int} (h1:-9223372036854775808≤n) (h2:n≤9223372036854775807):VOk ⟨3,0,n,false,[],[],0⟩:=⟨Limbs.nil,U16s.nil,Nat.zero_le _,Nat.zero_le _,h1,h2,(show (-9223372036854775808:Int)≤0 by decide),(show (0:Int)≤9223372036854775807 by decide)⟩
theorem VOk.big {x:Nat} (h:x < 4294967296):VOk ⟨4,0,0,false,[x],[],0⟩:=⟨Limbs.cons h Limbs.nil,U16s.nil,(show (1:Nat)≤40 by decide),Nat.zero_le _,(show (-9223372036854775808:Int)≤0 by decide),(show (0:Int)≤9223372036854775807 by decide),(show (-9223372036854775808:Int)≤0 by decide),(show (0:Int)≤9223372036854775807 by decide)⟩
theorem sameV_self (v:Vl):sameV v v=true:=by simp [sameV]
theorem few_ok {v:Vl} (h:(decide ((v.s.length:Int)≤20000) && decide ((v.mag.length:Int)≤40))=true) (hl:Limbs v.mag) (hu:U16s v.s) (h1:-9223372036854775808≤v.nn) (h2:v.nn≤9223372036854775807) (h3:-9223372036854775808≤v.ref) (h4:v.ref≤9223372036854775807):VOk v:=by
  simp only [Bool.and_eq_true,decide_eq_true_eq] at h
  exact⟨hl,hu,by omega,by omega,h1,h2,h3,h4⟩
theorem VOk.big0:VOk ⟨4,0,0,false,[],[],0⟩:=⟨Limbs.nil,U16s.nil,by decide,by decide,by decide,by decide,by decide,by decide⟩
theorem join_a1:joinV (cleanV (Vl.mk 5 0 0 false [] (asc ⟨#[97]⟩) 0)) (cleanV (Vl.mk 3 0 1 false [] [] 0))=(strV [97,49],0):=by
  have h:=join_num (a:=[97]) (n:=⟨0,1⟩) (by decide) (by decide)
  rw [whole_text (by decide) (by decide)] at h
  have e:asc (strOfNums (textI 1))=[49]:=by
    have h1:textI 1=[49]:=by rw [textI,if_neg (by decide),if_neg (by decide),show (1:Int).natAbs=1 from rfl,digs_one (by omega) (by omega)]; rfl
    rw [h1]; rfl
  rw [e] at h
  exact h
theorem f_m (A0:Option Addr) (c0:Nat) (B0:Option Addr) (d0:Nat) (A1:Option Addr) (c1:Nat) (B1:Option Addr) (d1:Nat) (w:World) (hm0:SRow w .u32 A0 [1] c0) (hs0:SRow w .u16 B0 [] d0) (hm1:SRow w .u32 A1 [] c1) (hs1:SRow w .u16 B1 [] d1):Calls Tryz.prog 12 #[.string ⟨#[43]⟩,vv (Vl.mk 4 0 0 false [1] [] 0) A0 c0 B0 d0,vv (Vl.mk 3 0 1 false [] [] 0) A1 c1 B1 d1] w (IsRet (.tuple #[vv (Vl.mk 0 0 0 false [] [] 0) none 0 none 0,iv 1]) w):=by
  have h:=binM_c (Vl.mk 4 0 0 false [1] [] 0) A0 c0 B0 d0 (Vl.mk 3 0 1 false [] [] 0) A1 c1 B1 d1 w hm0 hs0 hm1 hs1 (VOk.big (by omega)) (VOk.whole (by omega) (by omega)) (by decide +kernel) (by decide +kernel) (by decide +kernel)
  rw [show (numericsV (cleanV (Vl.mk 4 0 0 false [1] [] 0)) (cleanV (Vl.mk 3 0 1 false [] [] 0))).2.2=1 from by decide +kernel] at h
  exact h
theorem f_d (A0:Option Addr) (c0:Nat) (B0:Option Addr) (d0:Nat) (A1:Option Addr) (c1:Nat) (B1:Option Addr) (d1:Nat) (w:World) (hm0:SRow w .u32 A0 [] c0) (hs0:SRow w .u16 B0 [] d0) (hm1:SRow w .u32 A1 [] c1) (hs1:SRow w .u16 B1 [] d1):Calls Tryz.prog 12 #[.string ⟨#[47]⟩,vv (Vl.mk 3 0 1 false [] [] 0) A0 c0 B0 d0,vv (Vl.mk 3 0 2 false [] [] 0) A1 c1 B1 d1] w (IsRet (.tuple #[vv (Vl.mk 0 0 0 false [] [] 0) none 0 none 0,iv 3]) w):=by
  have h:=binD_c (Vl.mk 3 0 1 false [] [] 0) A0 c0 B0 d0 (Vl.mk 3 0 2 false [] [] 0) A1 c1 B1 d1 w hm0 hs0 hm1 hs1 (VOk.whole (by omega) (by omega)) (VOk.whole (by omega) (by omega)) (by decide +kernel) (by decide +kernel) (by decide +kernel) (by decide +kernel)
  exact h
theorem f_b (A0:Option Addr) (c0:Nat) (B0:Option Addr) (d0:Nat) (A1:Option Addr) (c1:Nat) (B1:Option Addr) (d1:Nat) (w:World) (hm0:SRow w .u32 A0 [1] c0) (hs0:SRow w .u16 B0 [] d0) (hm1:SRow w .u32 A1 [] c1) (hs1:SRow w .u16 B1 [] d1):Calls Tryz.prog 12 #[.string ⟨#[47]⟩,vv (Vl.mk 4 0 0 false [1] [] 0) A0 c0 B0 d0,vv (Vl.mk 4 0 0 false [] [] 0) A1 c1 B1 d1] w (IsRet (.tuple #[vv (Vl.mk 0 0 0 false [] [] 0) none 0 none 0,iv 2]) w):=by
  have h:=binB_c (Vl.mk 4 0 0 false [1] [] 0) A0 c0 B0 d0 (Vl.mk 4 0 0 false [] [] 0) A1 c1 B1 d1 w hm0 hs0 hm1 hs1 (VOk.big (by omega)) VOk.big0 (by decide +kernel) (by decide +kernel) (by decide +kernel)
  exact h
theorem f_l (A0:Option Addr) (c0:Nat) (B0:Option Addr) (d0:Nat) (A1:Option Addr) (c1:Nat) (B1:Option Addr) (d1:Nat) (w:World) (hm0:SRow w .u32 A0 [1] c0) (hs0:SRow w .u16 B0 [] d0) (hm1:SRow w .u32 A1 [] c1) (hs1:SRow w .u16 B1 [] d1):Calls Tryz.prog 12 #[.string ⟨#[60]⟩,vv (Vl.mk 4 0 0 false [1] [] 0) A0 c0 B0 d0,vv (Vl.mk 3 0 2 false [] [] 0) A1 c1 B1 d1] w (IsRet (.tuple #[vv (Vl.mk 2 0 0 false [] [] 1) none 0 none 0,iv 0]) w):=by
  have h:=binL_c (Vl.mk 4 0 0 false [1] [] 0) A0 c0 B0 d0 (Vl.mk 3 0 2 false [] [] 0) A1 c1 B1 d1 w hm0 hs0 hm1 hs1 (VOk.big (by omega)) (VOk.whole (by omega) (by omega)) (by decide +kernel) (by decide +kernel) (by decide +kernel) (by decide +kernel) (by decide +kernel) (by decide +kernel)
  rw [show truthR ((besideO (numericV (cleanV (Vl.mk 4 0 0 false [1] [] 0))).1.neg (numericV (cleanV (Vl.mk 4 0 0 false [1] [] 0))).1.mag (Nm.mk (numericV (cleanV (Vl.mk 3 0 2 false [] [] 0))).1.nk (numericV (cleanV (Vl.mk 3 0 2 false [] [] 0))).1.nn)).2 && (decide ((besideO (numericV (cleanV (Vl.mk 4 0 0 false [1] [] 0))).1.neg (numericV (cleanV (Vl.mk 4 0 0 false [1] [] 0))).1.mag (Nm.mk (numericV (cleanV (Vl.mk 3 0 2 false [] [] 0))).1.nk (numericV (cleanV (Vl.mk 3 0 2 false [] [] 0))).1.nn)).1 < 0) != false))=1 from by decide +kernel] at h
  exact h
theorem f_n (A0:Option Addr) (c0:Nat) (B0:Option Addr) (d0:Nat) (w:World) (hm0:SRow w .u32 A0 [] c0) (hs0:SRow w .u16 B0 [] d0):Calls Tryz.prog 13 #[.string ⟨#[45]⟩,vv (Vl.mk 3 0 0 false [] [] 0) A0 c0 B0 d0] w (IsRet (.tuple #[vv (Vl.mk 3 1 0 false [] [] 0) none 0 none 0,iv 0]) w):=by
  have h:=minus_c (Vl.mk 3 0 0 false [] [] 0) A0 c0 B0 d0 w hm0 hs0 (VOk.whole (by omega) (by omega)) (by decide +kernel) (by decide +kernel)
  rw [show (negM (Nm.mk (numericV (Vl.mk 3 0 0 false [] [] 0)).1.nk (numericV (Vl.mk 3 0 0 false [] [] 0)).1.nn))=⟨1,0⟩ from by decide +kernel] at h
  exact h
theorem few_c (v:Vl) (Av:Option Addr) (cv:Nat) (Bv:Option Addr) (dv:Nat) (w:World) (hmv:SRow w .u32 Av v.mag cv) (hsv:SRow w .u16 Bv v.s dv):Calls prog 20 #[vv v Av cv Bv dv] w (IsRet (.bool (decide ((v.s.length:Int)≤20000) && decide ((v.mag.length:Int)≤40))) w):=by
 refine enter_abs func20 rfl fun a0 aa ak hp=>?_
 have aa:a0.tmps.size=14:=aa
 have ac:New w w:=Upd.refl _ _
 have hp0:a0.eval (.tmp 0)=vv v Av cv Bv dv:=hp 0 _ rfl
 refine wk fun K1 al=>?_
 refine wB tr2 [] [] 14 [IsNew w 29 (c7 v Av cv Bv dv),vF] [0] aa ?_ heN ?_
 exact .X hp0<| .c .nil
 refine aftI aa ak ac fun a2 w3 ad am ae au an=>?_
 obtain⟨q9,h8,af,ab⟩:=an.G 0 1
 have ap:=Nat.le_trans ac.size af
 refine al _ _ <| wk fun av ag=>?_
 refine wA tr12 [] 14 [ve (.pointer (some ⟨q9,5,none⟩)),ve (sv Bv v.s dv),ve (iv (v.s.length:Int)),ve (.bool (decide ((v.s.length:Int)≤20000))),ve (.bool (decide ((v.s.length:Int)≤20000))),ve (gq (decide ((v.s.length:Int)≤20000)) (.pointer (some ⟨q9,3,none⟩))),ve (gq (decide ((v.s.length:Int)≤20000)) (.pointer (some ⟨q9,4,none⟩))),ve (gq (decide ((v.s.length:Int)≤20000)) (sv Av v.mag cv)),ve (gq (decide ((v.s.length:Int)≤20000)) (iv (v.mag.length:Int))),ve (gq (decide ((v.s.length:Int)≤20000)) (.bool (decide ((v.mag.length:Int)≤40)))),ve (.bool ((decide ((v.s.length:Int)≤20000)) && (decide ((v.mag.length:Int)≤40)))),ve (.bool ((decide ((v.s.length:Int)≤20000)) && (decide ((v.mag.length:Int)≤40))))] ad ?_ ?_
 exact .F h8<| .J 0 isAgg27 ab<| .T (fun k=>v_lenR rfl elU (k.eq1 1 4 rfl))<| .b 2 (r_leqK rfl)<| .N 3<| .Q (fun k=>g0 (k.eq1 4 7 rfl)) (fun hG n k=>v_field rfl (k.fx 1 h8) (fun w=>rfl))<| .Q (fun k=>g0 (k.eq1 4 7 rfl)) (fun hG n k=>v_field rfl (cT hG (k.eq1 5 8 rfl)) (fun w=>rfl))<| .Q (fun k=>g0 (k.eq1 4 7 rfl)) (fun hG n k=>v_load rfl (cT hG (k.eq1 6 9 rfl)) (l_one isAgg24 ((ab.new_ n).cell 4)))<| .Q (fun k=>g0 (k.eq1 4 7 rfl)) (fun hG n k=>v_lenR rfl elW (cT hG (k.eq1 7 10 rfl)))<| .Q (fun k=>g0 (k.eq1 4 7 rfl)) (fun hG n k=>v_bin rfl (cT hG (k.eq1 8 11 rfl)) rfl (fun _=>rfl) (r_leqK rfl))<| .O 4 9<| .B 10 .nil
 refine aftI ad am ae fun aw ax aq ah ai ar aj=>?_
 have ao:=aj.g 11 2
 refine ag _ _<| wp_ret (ret_k ah (v:=.bool ((decide ((v.s.length:Int)≤20000)) && (decide ((v.mag.length:Int)≤40)))) (res_t rfl ao _) ?_)
 refine ⟨?_,ai⟩
 show Ending.returned (.bool ((decide ((v.s.length:Int)≤20000)) && (decide ((v.mag.length:Int)≤40))))=Ending.returned (.bool (decide ((v.s.length:Int)≤20000) && decide ((v.mag.length:Int)≤40)))
 first|rfl|(simp only [bsm] <;> rfl)|(exfalso; omega)
end Go.Proofs.YtjakfchffigkkaaGreatDoor
