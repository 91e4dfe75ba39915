import Derived.Test.YtjakfchffigkkaaGreatDoorOmc
namespace Go.Proofs.YtjakfchffigkkaaGreatDoor
open Go.RowKit
open Tryz
set_option linter.unusedSimpArgs false
set_option linter.unusedVariables false
set_option maxHeartbeats 16000000
set_option maxRecDepth 100000
theorem bNeg_c (a:Bool) (Aa:Option Addr) (ma:List Nat) (ca:Nat) (w:World) (hra:SRow w .u32 Aa ma ca) (ha:Limbs ma) (hs:ma.length≤1000000):Calls prog 43 #[.agg #[.bool a,sv Aa ma ca]] w (bNeg_c_P a Aa ma ca w):=by
 refine enter_abs func43 rfl fun a0 af aF hp=>?_
 have af:a0.tmps.size=9:=af
 have ag:New w w:=Upd.refl _ _
 have hp0:a0.eval (.tmp 0)=.agg #[.bool a,sv Aa ma ca]:=hp 0 _ rfl
 refine wk fun K1 aG=>?_
 refine wB tr2 [] [] 9 [IsNew w 26 [.bool a,sv Aa ma ca],IsNew w 26 [.bool false,sv none ([]) 0]] [0,1] af ?_ heN ?_
 exact .X hp0<| .Y .nil
 refine aftI af aF ag fun a2 w3 ao aH ae aQ ah=>?_
 obtain⟨q9,h8,ar,ai⟩:=ah.G 0 1
 obtain⟨aI,ap,au,av⟩:=ah.G 1 2
 have hne16:=ah.ne 0 1 1 2 h8 ap
 have aM:=Nat.le_trans ag.size ar
 have aN:=Nat.le_trans ag.size au
 refine aG _ _ <| wk fun aR aw=>?_
 refine wp_g0 [true,true,true,true,true,true,false] [(6,false)] 9
  [ve (.agg #[.bool a,sv Aa ma ca]),
  (OP w3.heap.size 56 .u32 (canon (goodI a ma).natAbs)),ve (.agg #[.bool a,sv Aa ma ca]),ve (.bool (mayB a ma && a)),ve (.bool (!(mayB a ma && a))),(fun (v_:Value) (W:World)=>∃ (ab:Option Addr) (ac:Nat),v_=.agg #[.bool (decide (sgn (!(mayB a ma && a)) (val (canon (goodI a ma).natAbs)) < 0)),sv ab (canon (sgn (!(mayB a ma && a)) (val (canon (goodI a ma).natAbs))).natAbs) ac]∧SRow W .u32 ab (canon (sgn (!(mayB a ma && a)) (val (canon (goodI a ma).natAbs))).natAbs) ac),vt] ao (.eq (.cons (fun _ _ _ n ⟨_,_,e,h⟩=>⟨_,_,e,h.new_ n⟩) (.eq (.eq (.eq (.cons (fun _ _ _ n ⟨_,_,e,h⟩=>⟨_,_,e,h.new_ n⟩) (.tt .nil))))))) ?_ ?_
 refine .L6 h8 ai ?_
 refine .o1 (tkC rfl (noG rfl) rfl fun _ w hn k=>(by
  refine ⟨#[.agg #[.bool a,sv Aa ma ca]],_,args1 (k.eq1 0 3 rfl),fun w=>by kernel_rfl,bmag_c a _ ma _ _ (hra.new_ (ae.transNew hn)) ha (by first|omega|(simp only [List.length_nil,List.length_take,List.length_drop]; omega)|(simp only [List.length_cons,List.length_nil]; omega)),?_⟩
  rintro e w' ⟨A1,c2,rfl,hmo0,hm⟩
  exact⟨_,rfl,hm,⟨A1,c2,rfl,(hmo0.more hn.size)⟩⟩)) ?_
 refine .L6 h8 ai<| .C 2 (fun m=>bneg_c a _ ma _ _ (hra.new_ (ae.transNew m)))<| .T (fun k=>v_not rfl (k.eq1 3 6 rfl)) ?_
 refine .o1 (tkC rfl (noG rfl) rfl fun _ w hn k=>(by
  obtain⟨A5,c6,e7,aJ⟩:=k.G 1 4
  refine ⟨#[sv A5 (canon (goodI a ma).natAbs) c6,.bool (!(mayB a ma && a))],_,args2 e7 (k.eq1 4 7 rfl),fun w=>by kernel_rfl,bmade_c _ (canon (goodI a ma).natAbs) _ (!(mayB a ma && a)) _ aJ.row (limbs_canon _),?_⟩
  rintro e w' ⟨A9,aK,rfl,hmo0,hm⟩
  exact⟨_,rfl,hm,⟨A9,aK,rfl,hmo0⟩⟩)) ?_
 exact .off .nil
 refine aftI ao aH ae fun aL aS aO ax ay az aj=>?_
 have aq:=aj.f1 ap
 obtain⟨ad,aa,ak,aA⟩:=aj.G 5 8
 have ak:aL.eval (.tmp 8)=.agg #[.bool (decide (sgn (!(mayB a ma && a)) (val (canon (goodI a ma).natAbs)) < 0)),sv ad (canon (sgn (!(mayB a ma && a)) (val (canon (goodI a ma).natAbs))).natAbs) aa]:=ak
 have al:=av.new_ az
 refine sS6 aq ak al fun aT aB am aP=>?_
 have aD:=aA.fr al am
 have aE:=ay.tR am
 refine aw _ _ ?_
 refine wp_ret (ret_k ax (v:=.agg #[.bool (decide (sgn (!(mayB a ma && a)) (val (canon (goodI a ma).natAbs)) < 0)),sv ad (canon (sgn (!(mayB a ma && a)) (val (canon (goodI a ma).natAbs))).natAbs) aa]) (res_c rfl aq (l_two isAgg26 sizeOf26 aB)) ?_)
 have hz1:sgn (!(mayB a ma && a)) (val (canon (goodI a ma).natAbs)) = -(goodI a ma):=neg_made ha
 exact⟨ad,aa,congrArg (fun z:Int=>Ending.returned (Value.agg #[.bool (decide (z < 0)),sv ad (canon z.natAbs) aa])) hz1,Eq.mp (congrArg (fun z:Int=>SRow _ .u32 ad (canon z.natAbs) aa) hz1) aD,aE⟩
def divE (z e:Int):Vl × Int:=if decide (e=0) then (⟨4,0,0,decide (z < 0),canon z.natAbs,[],0⟩,0) else (Vl.z,2)
def bigsG (o:ByteArray) (x y:Int):Vl × Int :=
  if strEq o ⟨#[43]⟩ then bigZ (x + y) else if strEq o ⟨#[45]⟩ then bigZ (x - y) else if strEq o ⟨#[42]⟩ then bigZ (x * y)
  else if strEq o ⟨#[37]⟩ then divE (remZ x y) (zeroE y) else divE (divZ x y) (zeroE y)
def numsG (o:ByteArray) (a b:Nm):Vl × Int :=
  if strEq o ⟨#[43]⟩ then numV (addM a b).1 (addM a b).2 else if strEq o ⟨#[45]⟩ then numV (addM a (negM b)).1 (addM a (negM b)).2 else if strEq o ⟨#[42]⟩ then numV (mulM a b).1 (mulM a b).2
  else if strEq o ⟨#[47]⟩ then numV (divM a b).1 (divM a b).2 else numV (remM a b) true
def sumsG (o:ByteArray) (v u:Vl):Vl × Int :=
  if decide ((numericsV v u).2.2=0) then
    (if decide ((numericsV v u).1.k=4) then bigsG o (goodI (numericsV v u).1.neg (numericsV v u).1.mag) (goodI (numericsV v u).2.1.neg (numericsV v u).2.1.mag)
     else numsG o (numericsV v u).1.num (numericsV v u).2.1.num)
  else (Vl.z,(numericsV v u).2.2)
def opN (o:ByteArray):Int:=if strEq o ⟨#[38]⟩ then 1 else if strEq o ⟨#[124]⟩ then 2 else if strEq o ⟨#[94]⟩ then 3 else if strEq o ⟨#[60,60]⟩ then 4 else if strEq o ⟨#[62,62]⟩ then 5 else if strEq o ⟨#[62,62,62]⟩ then 6 else 0
/-- kind,number,signal -/
def bitsG (o:ByteArray) (v u:Vl):Int × Nm × Int :=
  if decide ((numericsV v u).2.2=0) then
    (if decide ((numericsV v u).1.k=4) && strEq o ⟨#[62,62,62]⟩ then (0,⟨0,0⟩,1)
     else if decide ((numericsV v u).1.k=4) then (0,⟨0,0⟩,3)
     else (3,bitM (opN o) (numericsV v u).1.num (numericsV v u).2.1.num,0))
  else (0,⟨0,0⟩,(numericsV v u).2.2)
def ofT (t:Int × Int × Int):Vl × Int:=(⟨t.1,0,0,false,[],[],t.2.1⟩,t.2.2)
def ofN (t:Int × Nm × Int):Vl × Int:=(⟨t.1,t.2.1.k,t.2.1.n,false,[],[],0⟩,t.2.2)
def truthG (t:Bool):Vl × Int:=(⟨2,0,0,false,[],[],truthR t⟩,0)
def arT (o:ByteArray):Bool:=((strEq o ⟨#[45]⟩ || strEq o ⟨#[42]⟩) || strEq o ⟨#[47]⟩) || strEq o ⟨#[37]⟩
def biT (o:ByteArray):Bool:=((((strEq o ⟨#[38]⟩ || strEq o ⟨#[124]⟩) || strEq o ⟨#[94]⟩) || strEq o ⟨#[60,60]⟩) || strEq o ⟨#[62,62]⟩) || strEq o ⟨#[62,62,62]⟩
def eqT (o:ByteArray):Bool:=strEq o ⟨#[61,61]⟩ || strEq o ⟨#[33,61]⟩
/-- of two clean ones -/
def binG (o:ByteArray) (v u:Vl):Vl × Int :=
  if strEq o ⟨#[43]⟩ then (if decide (v.k=5) || decide (u.k=5) then joinV v u else sumsG o v u)
  else if arT o then sumsG o v u
  else if biT o then ofN (bitsG o v u)
  else if strEq o ⟨#[60]⟩ then ofT (lessT v u false false)
  else if strEq o ⟨#[62]⟩ then ofT (lessT v u true false)
  else if strEq o ⟨#[60,61]⟩ then ofT (lessT v u true true)
  else if strEq o ⟨#[62,61]⟩ then ofT (lessT v u false true)
  else if strEq o ⟨#[61,61,61]⟩ then truthG (strictV v u)
  else if strEq o ⟨#[33,61,61]⟩ then truthG (!strictV v u)
  else if eqT o then (if decide ((looseV v u).2=0) then truthG ((looseV v u).1 == strEq o ⟨#[61,61]⟩) else (Vl.z,(looseV v u).2))
  else (Vl.z,3)
def unN (o:ByteArray) (v:Vl):Vl × Int :=
  if decide ((numericV v).2=0) then
    (if strEq o ⟨#[45]⟩ && decide ((numericV v).1.k=4) then (⟨4,0,0,decide (-(goodI (numericV v).1.neg (numericV v).1.mag) < 0),canon (-(goodI (numericV v).1.neg (numericV v).1.mag)).natAbs,[],0⟩,0)
     else if strEq o ⟨#[45]⟩ then ofN (3,negM (numericV v).1.num,0)
     else if decide ((numericV v).1.k=4) then (Vl.z,3)
     else ofN (3,bitM 3 (numericV v).1.num ⟨0,-1⟩,0))
  else (Vl.z,(numericV v).2)
def unT (o:ByteArray):Bool:=strEq o ⟨#[45]⟩ || strEq o ⟨#[126]⟩
def unG (o:ByteArray) (v:Vl):Vl × Int :=
  if strEq o ⟨#[33]⟩ then truthG (!boolV v)
  else if strEq o ⟨#[118,111,105,100]⟩ then (Vl.z,0)
  else if strEq o ⟨#[43]⟩ then (if decide ((numberV v).2=0) then ofN (3,(numberV v).1,0) else (Vl.z,(numberV v).2))
  else if unT o then unN o v
  else (Vl.z,3)

theorem mul64_c (x y:Int) (w:World) (hx:0≤x∧x < 18446744073709551616) (hy:0≤y∧y < 18446744073709551616):Calls Tryz.prog 148 #[.int .u64 x,.int .u64 y] w (IsRet (.tuple #[.int .u64 (x * y / 18446744073709551616),.int .u64 (x * y % 18446744073709551616)]) w):=by
  obtain⟨a,rfl⟩:∃ a:Nat,x=a:=⟨x.toNat,by omega⟩
  obtain⟨b,rfl⟩:∃ b:Nat,y=b:=⟨y.toNat,by omega⟩
  refine (Any.bits_Mul64 Tryz.lays264 a b (by omega) (by omega) w).mono ?_
  rintro e w' ⟨rfl,rfl⟩
  refine ⟨?_,Upd.refl _ _⟩
  have h1:((a * b / 18446744073709551616:Nat):Int)=(a:Int) * b / 18446744073709551616:=by rw [← Int.natCast_mul]; rfl
  have h2:((a * b % 18446744073709551616:Nat):Int)=(a:Int) * b % 18446744073709551616:=by rw [← Int.natCast_mul]; rfl
  rw [h1,h2]

theorem nmul_c (a:Nm) (b:Nm) (w:World):Calls prog 77 #[nv a,nv b] w (IsRet (.tuple #[nv ((mulM a b).1),.bool ((mulM a b).2)]) w):=by
 refine enter_abs func77 rfl fun a0 aP ej hp=>?_
 have aP:a0.tmps.size=80:=aP
 have aQ:New w w:=Upd.refl _ _
 have hp0:a0.eval (.tmp 0)=nv a:=hp 0 _ rfl
 have hp1:a0.eval (.tmp 1)=nv b:=hp 1 _ rfl
 refine wk fun K1 ek=>?_
 refine wB tr4 [] [] 80 [IsNew w 23 [iv a.k,iv a.n],IsNew w 23 [iv b.k,iv b.n],IsNew w 23 [iv 0,iv 0],vF] [0,1,2] aP ?_ heN ?_
 exact .X hp0<| .X hp1<| .Y<| .c .nil
 refine aftI aP ej aQ fun a2 w3 dm el du fk aD=>?_
 obtain⟨q9,h8,dv,bn⟩:=aD.G 0 2
 obtain⟨bo,aR,dw,bp⟩:=aD.G 1 3
 obtain⟨dn,bq,dx,dy⟩:=aD.G 2 4
 have hne20:=aD.ne 0 1 2 3 h8 aR
 have hne21:=aD.ne 0 2 2 4 h8 bq
 have hne22:=aD.ne 1 2 3 4 aR bq
 have eH:=Nat.le_trans aQ.size dv
 have eI:=Nat.le_trans aQ.size dw
 have eJ:=Nat.le_trans aQ.size dx
 refine ek _ _ <| wk fun fl dz=>?_
 refine wA [true,true,true,true,false,false] [(4,false),(5,false)] 80 [ve (nv a),ve (nv (asM a)),ve (nv b),ve (nv (asM b)),vt,vt] dm ?_ ?_
 exact .L2 h8 bn<| .C 0 (fun p=>as_c a _)<| .L2 aR bp<| .C 2 (fun p=>as_c b _)<| .off<| .off .nil
 refine aftI dm el du fun fm fn br dA dB aM aB=>?_
 have⟨bs,bt,em⟩:=aB.f3 h8 aR bq
 have en:=aB.g 1 10
 have eo:=aB.g 3 12
 have⟨dC,dD,dE⟩:=nw3 aM bn bp dy
 have hbd_a:=as_bd a
 have hbd_b:=as_bd b
 refine sS2 bs en dC fun fo dF dG bu=>?_
 have dI:=bu hne20.symm dD
 have dJ:=bu hne21.symm dE
 have dK:=dB.tR dG
 refine sS2 bt eo dI fun fq bv dL bw=>?_
 have bx:=bw hne20 dF
 have dN:=bw hne22.symm dJ
 have dO:=dK.tR dL
 refine dz _ _ <| wk fun ft dP=>?_
 refine wA tr6 [] 80 [ve (nv (asM a)),ve (.bool (belowB (asM a))),ve (nv (asM b)),ve (.bool (belowB (asM b))),ve (.bool ((belowB (asM a)) != (belowB (asM b)))),ve (.bool ((belowB (asM a)) != (belowB (asM b))))] br ?_ ?_
 exact .L2 bs bx<| .C 0 (fun p=>below_c (asM a) _)<| .L2 bt bv<| .C 2 (fun p=>below_c (asM b) _)<| .T (fun k=>v_bin rfl (k.eq1 1 14 rfl) (k.eq1 3 16 rfl) (fun _=>rfl) (r_neqB _ _))<| .B 4 .nil
 refine aftI br dA dO fun fu fv bz dQ dR aN aE=>?_
 have⟨aS,aT,ep⟩:=aE.f3 bs bt em
 have er:=aE.g 5 6
 have⟨aF,aG,dS⟩:=nw3 aN bx bv dN
 refine dP _ _ <| wk fun fw dT=>?_
 refine wb<| wk fun fy dU=>?_
 refine wA tr23 [] 80 [ve (nv (asM a)),ve (.bool (decide ((asM a).k=2))),ve (.bool (decide ((asM a).k=2))),ve (gq (!(decide ((asM a).k=2))) (nv (asM b))),ve (gq (!(decide ((asM a).k=2))) (.bool (decide ((asM b).k=2)))),ve (.bool ((decide ((asM a).k=2)) || (decide ((asM b).k=2)))),ve (.bool ((decide ((asM a).k=2)) || (decide ((asM b).k=2)))),ve (gq (!((decide ((asM a).k=2)) || (decide ((asM b).k=2)))) (nv (asM a))),ve (gq (!((decide ((asM a).k=2)) || (decide ((asM b).k=2)))) (.bool (infB (asM a).k))),ve (gq (!((decide ((asM a).k=2)) || (decide ((asM b).k=2)))) (.bool (infB (asM a).k))),ve (gq ((!((decide ((asM a).k=2)) || (decide ((asM b).k=2)))) && (infB (asM a).k)) (nv (asM b))),ve (gq ((!((decide ((asM a).k=2)) || (decide ((asM b).k=2)))) && (infB (asM a).k)) (.bool (noughtB (asM b)))),ve (gq (!((decide ((asM a).k=2)) || (decide ((asM b).k=2)))) (.bool ((infB (asM a).k) && (noughtB (asM b))))),ve (.bool (((decide ((asM a).k=2)) || (decide ((asM b).k=2))) || ((infB (asM a).k) && (noughtB (asM b))))),ve (.bool (((decide ((asM a).k=2)) || (decide ((asM b).k=2))) || ((infB (asM a).k) && (noughtB (asM b))))),ve (gq (!(((decide ((asM a).k=2)) || (decide ((asM b).k=2))) || ((infB (asM a).k) && (noughtB (asM b))))) (nv (asM a))),ve (gq (!(((decide ((asM a).k=2)) || (decide ((asM b).k=2))) || ((infB (asM a).k) && (noughtB (asM b))))) (.bool (noughtB (asM a)))),ve (gq (!(((decide ((asM a).k=2)) || (decide ((asM b).k=2))) || ((infB (asM a).k) && (noughtB (asM b))))) (.bool (noughtB (asM a)))),ve (gq ((!(((decide ((asM a).k=2)) || (decide ((asM b).k=2))) || ((infB (asM a).k) && (noughtB (asM b))))) && (noughtB (asM a))) (nv (asM b))),ve (gq ((!(((decide ((asM a).k=2)) || (decide ((asM b).k=2))) || ((infB (asM a).k) && (noughtB (asM b))))) && (noughtB (asM a))) (.bool (infB (asM b).k))),ve (gq (!(((decide ((asM a).k=2)) || (decide ((asM b).k=2))) || ((infB (asM a).k) && (noughtB (asM b))))) (.bool ((noughtB (asM a)) && (infB (asM b).k)))),ve (.bool ((((decide ((asM a).k=2)) || (decide ((asM b).k=2))) || ((infB (asM a).k) && (noughtB (asM b)))) || ((noughtB (asM a)) && (infB (asM b).k)))),ve (.bool ((((decide ((asM a).k=2)) || (decide ((asM b).k=2))) || ((infB (asM a).k) && (noughtB (asM b)))) || ((noughtB (asM a)) && (infB (asM b).k))))] bz ?_ ?_
 exact .L2 aS aF<| .C 0 (fun p=>isNaN_c (asM a) _)<| .N 1<| .Q (fun k=>g0' (k.eq1 2 21 rfl)) (fun hG p k=>v_load rfl (k.fx 3 aT) (l_two isAgg23 sizeOf23 (aG.new_ p)))<| .o1 (scC (G:=(!(decide ((asM a).k=2)))) rfl rfl rfl (fun _ _ k=>g0' (k.eq1 2 21 rfl)) rfl (fun hG _ w hn k=>⟨#[nv (asM b)],args1 (cT hG (k.eq1 3 22 rfl)),fun _=>by kernel_rfl,isNaN_c (asM b) _ ⟩))<| .W 2 4<| .N 5<| .Q (fun k=>g0' (k.eq1 6 25 rfl)) (fun hG p k=>v_load rfl (k.fx 2 aS) (l_two isAgg23 sizeOf23 (aF.new_ p)))<| .o1 (scC (G:=(!((decide ((asM a).k=2)) || (decide ((asM b).k=2))))) rfl rfl rfl (fun _ _ k=>g0' (k.eq1 6 25 rfl)) rfl (fun hG _ w hn k=>⟨#[nv (asM a)],args1 (cT hG (k.eq1 7 26 rfl)),fun _=>by kernel_rfl,isInf_c (asM a) _ ⟩))<| .Q (fun k=>g0' (k.eq1 6 25 rfl)) (fun hG p k=>v_move rfl (cT hG (k.eq1 8 27 rfl)))<| .Q (fun k=>g1 (k.eq1 9 28 rfl)) (fun hG p k=>v_load rfl (k.fx 3 aT) (l_two isAgg23 sizeOf23 (aG.new_ p)))<| .o1 (scC (G:=((!((decide ((asM a).k=2)) || (decide ((asM b).k=2)))) && (infB (asM a).k))) rfl rfl rfl (fun _ _ k=>g1 (k.eq1 9 28 rfl)) rfl (fun hG _ w hn k=>⟨#[nv (asM b)],args1 (cT hG (k.eq1 10 29 rfl)),fun _=>by kernel_rfl,isNought_c (asM b) _ ⟩))<| .Q (fun k=>g0' (k.eq1 6 25 rfl)) (fun hG p k=>v_and rfl (cT hG (k.eq1 9 28 rfl)) (fun hg=>(cT (aj hG hg) (k.eq1 11 30 rfl))) rfl)<| .W 6 12<| .N 13<| .Q (fun k=>g0' (k.eq1 14 33 rfl)) (fun hG p k=>v_load rfl (k.fx 2 aS) (l_two isAgg23 sizeOf23 (aF.new_ p)))<| .o1 (scC (G:=(!(((decide ((asM a).k=2)) || (decide ((asM b).k=2))) || ((infB (asM a).k) && (noughtB (asM b)))))) rfl rfl rfl (fun _ _ k=>g0' (k.eq1 14 33 rfl)) rfl (fun hG _ w hn k=>⟨#[nv (asM a)],args1 (cT hG (k.eq1 15 34 rfl)),fun _=>by kernel_rfl,isNought_c (asM a) _ ⟩))<| .Q (fun k=>g0' (k.eq1 14 33 rfl)) (fun hG p k=>v_move rfl (cT hG (k.eq1 16 35 rfl)))<| .Q (fun k=>g1 (k.eq1 17 36 rfl)) (fun hG p k=>v_load rfl (k.fx 3 aT) (l_two isAgg23 sizeOf23 (aG.new_ p)))<| .o1 (scC (G:=((!(((decide ((asM a).k=2)) || (decide ((asM b).k=2))) || ((infB (asM a).k) && (noughtB (asM b))))) && (noughtB (asM a)))) rfl rfl rfl (fun _ _ k=>g1 (k.eq1 17 36 rfl)) rfl (fun hG _ w hn k=>⟨#[nv (asM b)],args1 (cT hG (k.eq1 18 37 rfl)),fun _=>by kernel_rfl,isInf_c (asM b) _ ⟩))<| .Q (fun k=>g0' (k.eq1 14 33 rfl)) (fun hG p k=>v_and rfl (cT hG (k.eq1 17 36 rfl)) (fun hg=>(cT (aj hG hg) (k.eq1 19 38 rfl))) rfl)<| .W 14 20<| .B 21 .nil
 refine aftI bz dQ dR fun fz fA aH bA bB aO aC=>?_
 have⟨dp,dq,dr,es⟩:=aC.f4 aS aT ep er
 have ds:=aC.g 22 18
 have⟨bC,bD,bE⟩:=nw3 aO aF aG dS
 refine dU _ _ ?_
 rcases bc (((((decide ((asM a).k=2)) || (decide ((asM b).k=2))) || ((infB (asM a).k) && (noughtB (asM b)))) || ((noughtB (asM a)) && (infB (asM b).k)))) with ab|ab
 have dV:=hB ds ab
 refine wt dV<| wk fun fB dW=>?_
 refine wA [true,false,false] [(1,false),(2,true)] 80 [ve (nv (Nm.mk 2 0)),vt,vt] aH ?_ ?_
 exact .o1 (ck rfl rfl rfl (fun _ w hn k=>⟨#[],rfl,fun _=>by kernel_rfl,nan_c  _ ⟩) fun _=>rfl)<| .off<| .off .nil
 refine aftI aH bA bB fun dt fC aU cb cc cd aV=>?_
 have bF:=aV.f1 dr
 have bG:=aV.g 0 41
 have ce:=bE.new_ cd
 refine sS2 bF bG ce fun eK cf ch ex=>?_
 have cj:=cc.tR ch
 refine sP (v:=.bool true) rfl aU cb fun dX ey cl ai dZ=>?_
 have⟨dY,eM⟩:=ai.q2 bF bG
 refine dW _ _ ?_
 refine wp_ret (ret_k cl (v:=.tuple #[nv (Nm.mk 2 0),.bool true]) (res_ct rfl dY dZ (l_two isAgg23 sizeOf23 cf)) ?_)
 refine ⟨?_,cj⟩
 show Ending.returned (.tuple #[nv (Nm.mk 2 0),.bool true])=Ending.returned (.tuple #[nv ((mulM a b).1),.bool ((mulM a b).2)])
 first|rfl|(simp only [mulM,mulA,ab,bsm] <;> first|rfl|(simp only [mulM,mulA,ab,bsm] <;> rfl))|(exfalso; omega)
 have cm:=hB ds ab
 have ad:(((decide ((asM a).k=2)) || (decide ((asM b).k=2))) || ((infB (asM a).k) && (noughtB (asM b))))=false:=ol ab
 have ae:((decide ((asM a).k=2)) || (decide ((asM b).k=2)))=false:=ol ad
 have ak:(decide ((asM a).k=2))=false:=ol ae
 have et:=oF ak
 have al:(decide ((asM b).k=2))=false:=or_ ae
 have eu:=oF al
 have ag:((infB (asM a).k) && (noughtB (asM b)))=false:=or_ ad
 have ah:((noughtB (asM a)) && (infB (asM b).k))=false:=or_ ab
 refine wf cm<| wk fun eN cn=>?_
 refine wA tr7 [] 80 [ve (nv (asM a)),ve (.bool (infB (asM a).k)),ve (.bool (infB (asM a).k)),ve (gq (!(infB (asM a).k)) (nv (asM b))),ve (gq (!(infB (asM a).k)) (.bool (infB (asM b).k))),ve (.bool ((infB (asM a).k) || (infB (asM b).k))),ve (.bool ((infB (asM a).k) || (infB (asM b).k)))] aH ?_ ?_
 exact .L2 dp bC<| .C 0 (fun p=>isInf_c (asM a) _)<| .N 1<| .Q (fun k=>g0' (k.eq1 2 45 rfl)) (fun hG p k=>v_load rfl (k.fx 3 dq) (l_two isAgg23 sizeOf23 (bD.new_ p)))<| .o1 (scC (G:=(!(infB (asM a).k))) rfl rfl rfl (fun _ _ k=>g0' (k.eq1 2 45 rfl)) rfl (fun hG _ w hn k=>⟨#[nv (asM b)],args1 (cT hG (k.eq1 3 46 rfl)),fun _=>by kernel_rfl,isInf_c (asM b) _ ⟩))<| .W 2 4<| .B 5 .nil
 refine aftI aH bA bB fun eO eP au aW aX aI aq=>?_
 have⟨bI,bJ,bK,bL⟩:=aq.f4 dp dq dr es
 have bM:=aq.g 6 42
 have⟨aY,aZ,a1⟩:=nw3 aI bC bD bE
 refine cn _ _ ?_
 rcases bc (((infB (asM a).k) || (infB (asM b).k))) with aa|aa
 have co:=hB bM aa
 refine wt co<| wk fun eQ cp=>?_
 refine wA [true,true,false,false] [(2,false),(3,true)] 80 [ve (.bool ((belowB (asM a)) != (belowB (asM b)))),ve (nv (infM ((belowB (asM a)) != (belowB (asM b))))),vt,vt] au ?_ ?_
 exact .M bL<| .C 0 (fun p=>inf_c ((belowB (asM a)) != (belowB (asM b))) _)<| .off<| .off .nil
 refine aftI au aW aX fun bN eR a3 cq cr ct a4=>?_
 have bO:=a4.f1 bK
 have bP:=a4.g 1 50
 have cu:=a1.new_ ct
 refine sS2 bO bP cu fun eS cv cw ez=>?_
 have cy:=cr.tR cw
 refine sP (v:=.bool true) rfl a3 cq fun d0 eA cz am d2=>?_
 have⟨d1,eU⟩:=am.q2 bO bP
 refine cp _ _ ?_
 refine wp_ret (ret_k cz (v:=.tuple #[nv (infM ((belowB (asM a)) != (belowB (asM b)))),.bool true]) (res_ct rfl d1 d2 (l_two isAgg23 sizeOf23 cv)) ?_)
 refine ⟨?_,cy⟩
 show Ending.returned (.tuple #[nv (infM ((belowB (asM a)) != (belowB (asM b)))),.bool true])=Ending.returned (.tuple #[nv ((mulM a b).1),.bool ((mulM a b).2)])
 first|rfl|(simp only [mulM,mulA,ab,ad,ae,ag,ah,aa,bsm] <;> first|rfl|(simp only [mulM,mulA,ab,ad,ae,ak,al,ag,ah,aa,bsm] <;> rfl))|(exfalso; omega)
 have cA:=hB bM aa
 have av:(infB (asM a).k)=false:=ol aa
 have aw:(infB (asM b).k)=false:=or_ aa
 refine wf cA<| wk fun eV cB=>?_
 refine wA tr7 [] 80 [ve (nv (asM a)),ve (.bool (noughtB (asM a))),ve (.bool (noughtB (asM a))),ve (gq (!(noughtB (asM a))) (nv (asM b))),ve (gq (!(noughtB (asM a))) (.bool (noughtB (asM b)))),ve (.bool ((noughtB (asM a)) || (noughtB (asM b)))),ve (.bool ((noughtB (asM a)) || (noughtB (asM b))))] au ?_ ?_
 exact .L2 bI aY<| .C 0 (fun p=>isNought_c (asM a) _)<| .N 1<| .Q (fun k=>g0' (k.eq1 2 54 rfl)) (fun hG p k=>v_load rfl (k.fx 3 bJ) (l_two isAgg23 sizeOf23 (aZ.new_ p)))<| .o1 (scC (G:=(!(noughtB (asM a)))) rfl rfl rfl (fun _ _ k=>g0' (k.eq1 2 54 rfl)) rfl (fun hG _ w hn k=>⟨#[nv (asM b)],args1 (cT hG (k.eq1 3 55 rfl)),fun _=>by kernel_rfl,isNought_c (asM b) _ ⟩))<| .W 2 4<| .B 5 .nil
 refine aftI au aW aX fun eW eX ax a5 a6 aJ ar=>?_
 have⟨d3,d4,bR,bS⟩:=ar.f4 bI bJ bK bL
 have bT:=ar.g 6 51
 have⟨cC,cD,a7⟩:=nw3 aJ aY aZ a1
 refine cB _ _ ?_
 rcases bc (((noughtB (asM a)) || (noughtB (asM b)))) with ac|ac
 have cE:=hB bT ac
 refine wt cE<| wk fun eY cF=>?_
 refine wA [true,true,false,false] [(2,false),(3,true)] 80 [ve (.bool ((belowB (asM a)) != (belowB (asM b)))),ve (nv (noughtM ((belowB (asM a)) != (belowB (asM b))))),vt,vt] ax ?_ ?_
 exact .M bS<| .C 0 (fun p=>nought_c ((belowB (asM a)) != (belowB (asM b))) _)<| .off<| .off .nil
 refine aftI ax a5 a6 fun bU eZ a8 cG cH cI a9=>?_
 have bV:=a9.f1 bR
 have bW:=a9.g 1 59
 have cJ:=a7.new_ cI
 refine sS2 bV bW cJ fun e0 cK cL eB=>?_
 have cN:=cH.tR cL
 refine sP (v:=.bool true) rfl a8 cG fun d5 eC cO an d7=>?_
 have⟨d6,e2⟩:=an.q2 bV bW
 refine cF _ _ ?_
 refine wp_ret (ret_k cO (v:=.tuple #[nv (noughtM ((belowB (asM a)) != (belowB (asM b)))),.bool true]) (res_ct rfl d6 d7 (l_two isAgg23 sizeOf23 cK)) ?_)
 refine ⟨?_,cN⟩
 show Ending.returned (.tuple #[nv (noughtM ((belowB (asM a)) != (belowB (asM b)))),.bool true])=Ending.returned (.tuple #[nv ((mulM a b).1),.bool ((mulM a b).2)])
 first|rfl|(simp only [mulM,mulA,ab,ad,ae,ag,ah,aa,ac,bsm] <;> first|rfl|(simp only [mulM,mulA,ab,ad,ae,ak,al,ag,ah,aa,av,aw,ac,bsm] <;> rfl))|(exfalso; omega)
 have cP:=hB bT ac
 have aK:(noughtB (asM a))=false:=ol ac
 have aL:(noughtB (asM b))=false:=or_ ac
 refine wf cP<| ws ?_
 refine dT _ _ ?_
 refine wk fun e3 cQ=>?_
 have hw_a:=whole_of (a:=a) ak av aK
 have hsz_a:=size_bd a
 have hnz_a:=size_nz hw_a.2
 have hw_b:=whole_of (a:=b) al aw aL
 have hsz_b:=size_bd b
 have hnz_b:=size_nz hw_b.2
 refine wA tr12 [] 80 [ve (.pointer (some ⟨q9,1,none⟩)),ve (iv ((asM a).n)),ve (.int .u64 (sizeI ((asM a).n))),ve (.pointer (some ⟨bo,1,none⟩)),ve (iv ((asM b).n)),ve (.int .u64 (sizeI ((asM b).n))),ve (.tuple #[.int .u64 ((sizeI ((asM a).n)) * (sizeI ((asM b).n)) / 18446744073709551616),.int .u64 ((sizeI ((asM a).n)) * (sizeI ((asM b).n)) % 18446744073709551616)]),ve (.tuple #[.int .u64 ((sizeI ((asM a).n)) * (sizeI ((asM b).n)) / 18446744073709551616),.int .u64 ((sizeI ((asM a).n)) * (sizeI ((asM b).n)) % 18446744073709551616)]),ve (.int .u64 ((sizeI ((asM a).n)) * (sizeI ((asM b).n)) / 18446744073709551616)),ve (.int .u64 ((sizeI ((asM a).n)) * (sizeI ((asM b).n)) % 18446744073709551616)),ve (.int .u64 ((sizeI ((asM a).n)) * (sizeI ((asM b).n)) / 18446744073709551616)),ve (.int .u64 ((sizeI ((asM a).n)) * (sizeI ((asM b).n)) % 18446744073709551616))] ax ?_ ?_
 exact .F d3<| .J 0 isAgg3 cC<| .C 1 (fun p=>size_c ((asM a).n) _ (by omega))<| .F d4<| .J 3 isAgg3 cD<| .C 4 (fun p=>size_c ((asM b).n) _ (by omega))<| .C2 2 5 (fun p=>mul64_c (sizeI ((asM a).n)) (sizeI ((asM b).n)) _ (by omega) (by omega))<| .N 6<| .E 7<| .E 7<| .B 8<| .B 9 .nil
 refine aftI ax a5 a6 fun e4 e5 ba cR cS cU ay=>?_
 have⟨d8,d9⟩:=ay.f2 bR bS
 have ea:=ay.g 10 7
 have bY:=ay.g 11 8
 have cV:=a7.new_ cU
 refine cQ _ _ <| wk fun e6 cW=>?_
 refine wk fun e7 cX=>?_
 have hlo:0≤sizeI (asM a).n * sizeI (asM b).n % 18446744073709551616:=by omega
 refine wA tr6 [] 80 [ve (.int .u64 ((sizeI ((asM a).n)) * (sizeI ((asM b).n)) / 18446744073709551616)),ve (.bool (!decide (((sizeI ((asM a).n)) * (sizeI ((asM b).n)) / 18446744073709551616)≤0))),ve (.bool (!decide (((sizeI ((asM a).n)) * (sizeI ((asM b).n)) / 18446744073709551616)≤0))),ve (gq (!(!decide (((sizeI ((asM a).n)) * (sizeI ((asM b).n)) / 18446744073709551616)≤0))) (.int .u64 ((sizeI ((asM a).n)) * (sizeI ((asM b).n)) % 18446744073709551616))),ve (gq (!(!decide (((sizeI ((asM a).n)) * (sizeI ((asM b).n)) / 18446744073709551616)≤0))) (.bool (!decide (((sizeI ((asM a).n)) * (sizeI ((asM b).n)) % 18446744073709551616)≤9007199254740991)))),ve (.bool ((!decide (((sizeI ((asM a).n)) * (sizeI ((asM b).n)) / 18446744073709551616)≤0)) || (!decide (((sizeI ((asM a).n)) * (sizeI ((asM b).n)) % 18446744073709551616)≤9007199254740991))))] ba ?_ ?_
 exact .M ea<| .b 0 (r_gtrK rfl)<| .N 1<| .Q (fun k=>g0' (k.eq1 2 72 rfl)) (fun hG p k=>v_move rfl (k.fx 8 bY))<| .Q (fun k=>g0' (k.eq1 2 72 rfl)) (fun hG p k=>v_bin rfl (cT hG (k.eq1 3 73 rfl)) rfl (fun _=>rfl) (r_gtrK rfl))<| .W 2 4 .nil
 refine aftI ba cR cS fun e8 e9 az bb bd cY aA=>?_
 have⟨bZ,eb,ec⟩:=aA.f3 d8 d9 bY
 have b0:=aA.g 5 75
 have be:=cV.new_ cY
 refine cX _ _ ?_
 rcases bc (((!decide (((sizeI ((asM a).n)) * (sizeI ((asM b).n)) / 18446744073709551616)≤0)) || (!decide (((sizeI ((asM a).n)) * (sizeI ((asM b).n)) % 18446744073709551616)≤9007199254740991)))) with af|af
 have cZ:=hB b0 af
 refine wt cZ<| wk fun fa c0=>?_
 refine wA [true,false,false] [(1,false),(2,true)] 80 [ve (nv (Nm.mk 2 0)),vt,vt] az ?_ ?_
 exact .o1 (ck rfl rfl rfl (fun _ w hn k=>⟨#[],rfl,fun _=>by kernel_rfl,nan_c  _ ⟩) fun _=>rfl)<| .off<| .off .nil
 refine aftI az bb bd fun b1 fb bf c1 c2 c3 bg=>?_
 have b2:=bg.f1 bZ
 have b3:=bg.g 0 76
 have c4:=be.new_ c3
 refine sS2 b2 b3 c4 fun fc c5 c6 eD=>?_
 have c9:=c2.tR c6
 refine sP (v:=.bool false) rfl bf c1 fun ed eE da ao ef=>?_
 have⟨ee,fe⟩:=ao.q2 b2 b3
 refine c0 _ _ ?_
 refine wp_ret (ret_k da (v:=.tuple #[nv (Nm.mk 2 0),.bool false]) (res_ct rfl ee ef (l_two isAgg23 sizeOf23 c5)) ?_)
 refine ⟨?_,c9⟩
 show Ending.returned (.tuple #[nv (Nm.mk 2 0),.bool false])=Ending.returned (.tuple #[nv ((mulM a b).1),.bool ((mulM a b).2)])
 first|rfl|(simp only [mulM,mulA,ab,ad,ae,ag,ah,aa,ac,af,bsm] <;> first|rfl|(simp only [mulM,mulA,ab,ad,ae,ak,al,ag,ah,aa,av,aw,ac,aK,aL,af,bsm] <;> rfl))|(exfalso; omega)
 have db:=hB b0 af
 have bh:(!decide (((sizeI ((asM a).n)) * (sizeI ((asM b).n)) / 18446744073709551616)≤0))=false:=ol af
 have bi:(decide (((sizeI ((asM a).n)) * (sizeI ((asM b).n)) / 18446744073709551616)≤0))=true:=nT bh
 have ev:=oT bi
 have bj:(!decide (((sizeI ((asM a).n)) * (sizeI ((asM b).n)) % 18446744073709551616)≤9007199254740991))=false:=or_ af
 have bk:(decide (((sizeI ((asM a).n)) * (sizeI ((asM b).n)) % 18446744073709551616)≤9007199254740991))=true:=nT bj
 have ew:=oT bk
 refine wf db<| ws ?_
 refine cW _ _ ?_
 refine wk fun ff dc=>?_
 refine wA [true,true,true,false,false] [(3,false),(4,true)] 80 [ve (.int .u64 ((sizeI ((asM a).n)) * (sizeI ((asM b).n)) % 18446744073709551616)),ve (.bool ((belowB (asM a)) != (belowB (asM b)))),ve (nv (signedM ((sizeI ((asM a).n)) * (sizeI ((asM b).n)) % 18446744073709551616) ((belowB (asM a)) != (belowB (asM b))))),vt,vt] az ?_ ?_
 exact .M ec<| .M eb<| .C2 0 1 (fun p=>signed_c ((sizeI ((asM a).n)) * (sizeI ((asM b).n)) % 18446744073709551616) ((belowB (asM a)) != (belowB (asM b))) _ (by omega))<| .off<| .off .nil
 refine aftI az bb bd fun b5 fg bl dd de df bm=>?_
 have b6:=bm.f1 bZ
 have b7:=bm.g 2 79
 have dg:=be.new_ df
 refine sS2 b6 b7 dg fun fh dh di eF=>?_
 have dk:=de.tR di
 refine sP (v:=.bool true) rfl bl dd fun eg eG dl ap ei=>?_
 have⟨eh,fj⟩:=ap.q2 b6 b7
 refine dc _ _ ?_
 refine wp_ret (ret_k dl (v:=.tuple #[nv (signedM ((sizeI ((asM a).n)) * (sizeI ((asM b).n)) % 18446744073709551616) ((belowB (asM a)) != (belowB (asM b)))),.bool true]) (res_ct rfl eh ei (l_two isAgg23 sizeOf23 dh)) ?_)
 refine ⟨?_,dk⟩
 show Ending.returned (.tuple #[nv (signedM ((sizeI ((asM a).n)) * (sizeI ((asM b).n)) % 18446744073709551616) ((belowB (asM a)) != (belowB (asM b)))),.bool true])=Ending.returned (.tuple #[nv ((mulM a b).1),.bool ((mulM a b).2)])
 first|rfl|(simp only [mulM,mulA,ab,ad,ae,ag,ah,aa,ac,af,bsm] <;> first|rfl|(simp only [mulM,mulA,ab,ad,ae,ak,al,ag,ah,aa,av,aw,ac,aK,aL,af,bh,bi,bj,bk,bsm] <;> rfl))|(exfalso; omega)
theorem ndiv_c (a:Nm) (b:Nm) (w:World):Calls prog 78 #[nv a,nv b] w (IsRet (.tuple #[nv ((divM a b).1),.bool ((divM a b).2)]) w):=by
 refine enter_abs func78 rfl fun a0 aP d8 hp=>?_
 have aP:a0.tmps.size=77:=aP
 have aQ:New w w:=Upd.refl _ _
 have hp0:a0.eval (.tmp 0)=nv a:=hp 0 _ rfl
 have hp1:a0.eval (.tmp 1)=nv b:=hp 1 _ rfl
 refine wk fun K1 d9=>?_
 refine wB tr4 [] [] 77 [IsNew w 23 [iv a.k,iv a.n],IsNew w 23 [iv b.k,iv b.n],IsNew w 23 [iv 0,iv 0],vF] [0,1,2] aP ?_ heN ?_
 exact .X hp0<| .X hp1<| .Y<| .c .nil
 refine aftI aP d8 aQ fun a2 w3 df ea dm e5 aC=>?_
 obtain⟨q9,h8,dn,bn⟩:=aC.G 0 2
 obtain⟨aR,aS,dp,bo⟩:=aC.G 1 3
 obtain⟨dg,bp,dq,dr⟩:=aC.G 2 4
 have hne20:=aC.ne 0 1 2 3 h8 aS
 have hne21:=aC.ne 0 2 2 4 h8 bp
 have hne22:=aC.ne 1 2 3 4 aS bp
 have ew:=Nat.le_trans aQ.size dn
 have ex:=Nat.le_trans aQ.size dp
 have ey:=Nat.le_trans aQ.size dq
 refine d9 _ _ <| wk fun e6 ds=>?_
 refine wA [true,true,true,true,false,false] [(4,false),(5,false)] 77 [ve (nv a),ve (nv (asM a)),ve (nv b),ve (nv (asM b)),vt,vt] df ?_ ?_
 exact .L2 h8 bn<| .C 0 (fun p=>as_c a _)<| .L2 aS bo<| .C 2 (fun p=>as_c b _)<| .off<| .off .nil
 refine aftI df ea dm fun e7 e8 bq dt du aM aA=>?_
 have⟨br,bs,eb⟩:=aA.f3 h8 aS bp
 have ec:=aA.g 1 8
 have ed:=aA.g 3 10
 have⟨dv,dw,dx⟩:=nw3 aM bn bo dr
 have hbd_a:=as_bd a
 have hbd_b:=as_bd b
 refine sS2 br ec dv fun e9 dy dz bt=>?_
 have dB:=bt hne20.symm dw
 have dC:=bt hne21.symm dx
 have dD:=du.tR dz
 refine sS2 bs ed dB fun fb bu dE bv=>?_
 have bw:=bv hne20 dy
 have dG:=bv hne22.symm dC
 have dH:=dD.tR dE
 refine ds _ _ <| wk fun fd dI=>?_
 refine wA tr6 [] 77 [ve (nv (asM a)),ve (.bool (belowB (asM a))),ve (nv (asM b)),ve (.bool (belowB (asM b))),ve (.bool ((belowB (asM a)) != (belowB (asM b)))),ve (.bool ((belowB (asM a)) != (belowB (asM b))))] bq ?_ ?_
 exact .L2 br bw<| .C 0 (fun p=>below_c (asM a) _)<| .L2 bs bu<| .C 2 (fun p=>below_c (asM b) _)<| .T (fun k=>v_bin rfl (k.eq1 1 12 rfl) (k.eq1 3 14 rfl) (fun _=>rfl) (r_neqB _ _))<| .B 4 .nil
 refine aftI bq dt dH fun fe ff bx dJ dK aN aD=>?_
 have⟨aT,aU,ee⟩:=aD.f3 br bs eb
 have ef:=aD.g 5 6
 have⟨aE,aF,dL⟩:=nw3 aN bw bu dG
 refine dI _ _ <| wk fun fg dM=>?_
 refine wb<| wk fun fh dN=>?_
 refine wA tr23 [] 77 [ve (nv (asM a)),ve (.bool (decide ((asM a).k=2))),ve (.bool (decide ((asM a).k=2))),ve (gq (!(decide ((asM a).k=2))) (nv (asM b))),ve (gq (!(decide ((asM a).k=2))) (.bool (decide ((asM b).k=2)))),ve (.bool ((decide ((asM a).k=2)) || (decide ((asM b).k=2)))),ve (.bool ((decide ((asM a).k=2)) || (decide ((asM b).k=2)))),ve (gq (!((decide ((asM a).k=2)) || (decide ((asM b).k=2)))) (nv (asM a))),ve (gq (!((decide ((asM a).k=2)) || (decide ((asM b).k=2)))) (.bool (infB (asM a).k))),ve (gq (!((decide ((asM a).k=2)) || (decide ((asM b).k=2)))) (.bool (infB (asM a).k))),ve (gq ((!((decide ((asM a).k=2)) || (decide ((asM b).k=2)))) && (infB (asM a).k)) (nv (asM b))),ve (gq ((!((decide ((asM a).k=2)) || (decide ((asM b).k=2)))) && (infB (asM a).k)) (.bool (infB (asM b).k))),ve (gq (!((decide ((asM a).k=2)) || (decide ((asM b).k=2)))) (.bool ((infB (asM a).k) && (infB (asM b).k)))),ve (.bool (((decide ((asM a).k=2)) || (decide ((asM b).k=2))) || ((infB (asM a).k) && (infB (asM b).k)))),ve (.bool (((decide ((asM a).k=2)) || (decide ((asM b).k=2))) || ((infB (asM a).k) && (infB (asM b).k)))),ve (gq (!(((decide ((asM a).k=2)) || (decide ((asM b).k=2))) || ((infB (asM a).k) && (infB (asM b).k)))) (nv (asM a))),ve (gq (!(((decide ((asM a).k=2)) || (decide ((asM b).k=2))) || ((infB (asM a).k) && (infB (asM b).k)))) (.bool (noughtB (asM a)))),ve (gq (!(((decide ((asM a).k=2)) || (decide ((asM b).k=2))) || ((infB (asM a).k) && (infB (asM b).k)))) (.bool (noughtB (asM a)))),ve (gq ((!(((decide ((asM a).k=2)) || (decide ((asM b).k=2))) || ((infB (asM a).k) && (infB (asM b).k)))) && (noughtB (asM a))) (nv (asM b))),ve (gq ((!(((decide ((asM a).k=2)) || (decide ((asM b).k=2))) || ((infB (asM a).k) && (infB (asM b).k)))) && (noughtB (asM a))) (.bool (noughtB (asM b)))),ve (gq (!(((decide ((asM a).k=2)) || (decide ((asM b).k=2))) || ((infB (asM a).k) && (infB (asM b).k)))) (.bool ((noughtB (asM a)) && (noughtB (asM b))))),ve (.bool ((((decide ((asM a).k=2)) || (decide ((asM b).k=2))) || ((infB (asM a).k) && (infB (asM b).k))) || ((noughtB (asM a)) && (noughtB (asM b))))),ve (.bool ((((decide ((asM a).k=2)) || (decide ((asM b).k=2))) || ((infB (asM a).k) && (infB (asM b).k))) || ((noughtB (asM a)) && (noughtB (asM b)))))] bx ?_ ?_
 exact .L2 aT aE<| .C 0 (fun p=>isNaN_c (asM a) _)<| .N 1<| .Q (fun k=>g0' (k.eq1 2 19 rfl)) (fun hG p k=>v_load rfl (k.fx 3 aU) (l_two isAgg23 sizeOf23 (aF.new_ p)))<| .o1 (scC (G:=(!(decide ((asM a).k=2)))) rfl rfl rfl (fun _ _ k=>g0' (k.eq1 2 19 rfl)) rfl (fun hG _ w hn k=>⟨#[nv (asM b)],args1 (cT hG (k.eq1 3 20 rfl)),fun _=>by kernel_rfl,isNaN_c (asM b) _ ⟩))<| .W 2 4<| .N 5<| .Q (fun k=>g0' (k.eq1 6 23 rfl)) (fun hG p k=>v_load rfl (k.fx 2 aT) (l_two isAgg23 sizeOf23 (aE.new_ p)))<| .o1 (scC (G:=(!((decide ((asM a).k=2)) || (decide ((asM b).k=2))))) rfl rfl rfl (fun _ _ k=>g0' (k.eq1 6 23 rfl)) rfl (fun hG _ w hn k=>⟨#[nv (asM a)],args1 (cT hG (k.eq1 7 24 rfl)),fun _=>by kernel_rfl,isInf_c (asM a) _ ⟩))<| .Q (fun k=>g0' (k.eq1 6 23 rfl)) (fun hG p k=>v_move rfl (cT hG (k.eq1 8 25 rfl)))<| .Q (fun k=>g1 (k.eq1 9 26 rfl)) (fun hG p k=>v_load rfl (k.fx 3 aU) (l_two isAgg23 sizeOf23 (aF.new_ p)))<| .o1 (scC (G:=((!((decide ((asM a).k=2)) || (decide ((asM b).k=2)))) && (infB (asM a).k))) rfl rfl rfl (fun _ _ k=>g1 (k.eq1 9 26 rfl)) rfl (fun hG _ w hn k=>⟨#[nv (asM b)],args1 (cT hG (k.eq1 10 27 rfl)),fun _=>by kernel_rfl,isInf_c (asM b) _ ⟩))<| .Q (fun k=>g0' (k.eq1 6 23 rfl)) (fun hG p k=>v_and rfl (cT hG (k.eq1 9 26 rfl)) (fun hg=>(cT (aj hG hg) (k.eq1 11 28 rfl))) rfl)<| .W 6 12<| .N 13<| .Q (fun k=>g0' (k.eq1 14 31 rfl)) (fun hG p k=>v_load rfl (k.fx 2 aT) (l_two isAgg23 sizeOf23 (aE.new_ p)))<| .o1 (scC (G:=(!(((decide ((asM a).k=2)) || (decide ((asM b).k=2))) || ((infB (asM a).k) && (infB (asM b).k))))) rfl rfl rfl (fun _ _ k=>g0' (k.eq1 14 31 rfl)) rfl (fun hG _ w hn k=>⟨#[nv (asM a)],args1 (cT hG (k.eq1 15 32 rfl)),fun _=>by kernel_rfl,isNought_c (asM a) _ ⟩))<| .Q (fun k=>g0' (k.eq1 14 31 rfl)) (fun hG p k=>v_move rfl (cT hG (k.eq1 16 33 rfl)))<| .Q (fun k=>g1 (k.eq1 17 34 rfl)) (fun hG p k=>v_load rfl (k.fx 3 aU) (l_two isAgg23 sizeOf23 (aF.new_ p)))<| .o1 (scC (G:=((!(((decide ((asM a).k=2)) || (decide ((asM b).k=2))) || ((infB (asM a).k) && (infB (asM b).k)))) && (noughtB (asM a)))) rfl rfl rfl (fun _ _ k=>g1 (k.eq1 17 34 rfl)) rfl (fun hG _ w hn k=>⟨#[nv (asM b)],args1 (cT hG (k.eq1 18 35 rfl)),fun _=>by kernel_rfl,isNought_c (asM b) _ ⟩))<| .Q (fun k=>g0' (k.eq1 14 31 rfl)) (fun hG p k=>v_and rfl (cT hG (k.eq1 17 34 rfl)) (fun hg=>(cT (aj hG hg) (k.eq1 19 36 rfl))) rfl)<| .W 14 20<| .B 21 .nil
 refine aftI bx dJ dK fun fi fj aG bz bA aO aB=>?_
 have⟨dh,di,dj,eg⟩:=aB.f4 aT aU ee ef
 have dk:=aB.g 22 16
 have⟨bB,bC,bD⟩:=nw3 aO aE aF dL
 refine dN _ _ ?_
 rcases bc (((((decide ((asM a).k=2)) || (decide ((asM b).k=2))) || ((infB (asM a).k) && (infB (asM b).k))) || ((noughtB (asM a)) && (noughtB (asM b))))) with ab|ab
 have dO:=hB dk ab
 refine wt dO<| wk fun fk dP=>?_
 refine wA [true,false,false] [(1,false),(2,true)] 77 [ve (nv (Nm.mk 2 0)),vt,vt] aG ?_ ?_
 exact .o1 (ck rfl rfl rfl (fun _ w hn k=>⟨#[],rfl,fun _=>by kernel_rfl,nan_c  _ ⟩) fun _=>rfl)<| .off<| .off .nil
 refine aftI aG bz bA fun dl fl aV cb cc cd aW=>?_
 have bE:=aW.f1 dj
 have bF:=aW.g 0 39
 have ce:=bD.new_ cd
 refine sS2 bE bF ce fun ez cf ch el=>?_
 have cj:=cc.tR ch
 refine sP (v:=.bool true) rfl aV cb fun dQ em cl ai dS=>?_
 have⟨dR,eB⟩:=ai.q2 bE bF
 refine dP _ _ ?_
 refine wp_ret (ret_k cl (v:=.tuple #[nv (Nm.mk 2 0),.bool true]) (res_ct rfl dR dS (l_two isAgg23 sizeOf23 cf)) ?_)
 refine ⟨?_,cj⟩
 show Ending.returned (.tuple #[nv (Nm.mk 2 0),.bool true])=Ending.returned (.tuple #[nv ((divM a b).1),.bool ((divM a b).2)])
 first|rfl|(simp only [divM,divA,ab,bsm] <;> first|rfl|(simp only [divM,divA,ab,bsm] <;> rfl))|(exfalso; omega)
 have cm:=hB dk ab
 have ad:(((decide ((asM a).k=2)) || (decide ((asM b).k=2))) || ((infB (asM a).k) && (infB (asM b).k)))=false:=ol ab
 have ae:((decide ((asM a).k=2)) || (decide ((asM b).k=2)))=false:=ol ad
 have ak:(decide ((asM a).k=2))=false:=ol ae
 have eh:=oF ak
 have al:(decide ((asM b).k=2))=false:=or_ ae
 have ei:=oF al
 have af:((infB (asM a).k) && (infB (asM b).k))=false:=or_ ad
 have ag:((noughtB (asM a)) && (noughtB (asM b)))=false:=or_ ab
 refine wf cm<| wk fun eC cn=>?_
 refine wA tr7 [] 77 [ve (nv (asM a)),ve (.bool (infB (asM a).k)),ve (.bool (infB (asM a).k)),ve (gq (!(infB (asM a).k)) (nv (asM b))),ve (gq (!(infB (asM a).k)) (.bool (noughtB (asM b)))),ve (.bool ((infB (asM a).k) || (noughtB (asM b)))),ve (.bool ((infB (asM a).k) || (noughtB (asM b))))] aG ?_ ?_
 exact .L2 dh bB<| .C 0 (fun p=>isInf_c (asM a) _)<| .N 1<| .Q (fun k=>g0' (k.eq1 2 43 rfl)) (fun hG p k=>v_load rfl (k.fx 3 di) (l_two isAgg23 sizeOf23 (bC.new_ p)))<| .o1 (scC (G:=(!(infB (asM a).k))) rfl rfl rfl (fun _ _ k=>g0' (k.eq1 2 43 rfl)) rfl (fun hG _ w hn k=>⟨#[nv (asM b)],args1 (cT hG (k.eq1 3 44 rfl)),fun _=>by kernel_rfl,isNought_c (asM b) _ ⟩))<| .W 2 4<| .B 5 .nil
 refine aftI aG bz bA fun eD eE av aX aY aH aq=>?_
 have⟨bH,bI,bJ,bK⟩:=aq.f4 dh di dj eg
 have bL:=aq.g 6 40
 have⟨aZ,a1,a3⟩:=nw3 aH bB bC bD
 refine cn _ _ ?_
 rcases bc (((infB (asM a).k) || (noughtB (asM b)))) with aa|aa
 have co:=hB bL aa
 refine wt co<| wk fun eF cp=>?_
 refine wA [true,true,false,false] [(2,false),(3,true)] 77 [ve (.bool ((belowB (asM a)) != (belowB (asM b)))),ve (nv (infM ((belowB (asM a)) != (belowB (asM b))))),vt,vt] av ?_ ?_
 exact .M bK<| .C 0 (fun p=>inf_c ((belowB (asM a)) != (belowB (asM b))) _)<| .off<| .off .nil
 refine aftI av aX aY fun bM eG a4 cq cr ct a5=>?_
 have bN:=a5.f1 bJ
 have bO:=a5.g 1 48
 have cu:=a3.new_ ct
 refine sS2 bN bO cu fun eH cv cw en=>?_
 have cy:=cr.tR cw
 refine sP (v:=.bool true) rfl a4 cq fun dT eo cz am dV=>?_
 have⟨dU,eJ⟩:=am.q2 bN bO
 refine cp _ _ ?_
 refine wp_ret (ret_k cz (v:=.tuple #[nv (infM ((belowB (asM a)) != (belowB (asM b)))),.bool true]) (res_ct rfl dU dV (l_two isAgg23 sizeOf23 cv)) ?_)
 refine ⟨?_,cy⟩
 show Ending.returned (.tuple #[nv (infM ((belowB (asM a)) != (belowB (asM b)))),.bool true])=Ending.returned (.tuple #[nv ((divM a b).1),.bool ((divM a b).2)])
 first|rfl|(simp only [divM,divA,ab,ad,ae,af,ag,aa,bsm] <;> first|rfl|(simp only [divM,divA,ab,ad,ae,ak,al,af,ag,aa,bsm] <;> rfl))|(exfalso; omega)
 have cA:=hB bL aa
 have aw:(infB (asM a).k)=false:=ol aa
 have ax:(noughtB (asM b))=false:=or_ aa
 refine wf cA<| wk fun eK cB=>?_
 refine wA tr7 [] 77 [ve (nv (asM b)),ve (.bool (infB (asM b).k)),ve (.bool (infB (asM b).k)),ve (gq (!(infB (asM b).k)) (nv (asM a))),ve (gq (!(infB (asM b).k)) (.bool (noughtB (asM a)))),ve (.bool ((infB (asM b).k) || (noughtB (asM a)))),ve (.bool ((infB (asM b).k) || (noughtB (asM a))))] av ?_ ?_
 exact .L2 bI a1<| .C 0 (fun p=>isInf_c (asM b) _)<| .N 1<| .Q (fun k=>g0' (k.eq1 2 52 rfl)) (fun hG p k=>v_load rfl (k.fx 2 bH) (l_two isAgg23 sizeOf23 (aZ.new_ p)))<| .o1 (scC (G:=(!(infB (asM b).k))) rfl rfl rfl (fun _ _ k=>g0' (k.eq1 2 52 rfl)) rfl (fun hG _ w hn k=>⟨#[nv (asM a)],args1 (cT hG (k.eq1 3 53 rfl)),fun _=>by kernel_rfl,isNought_c (asM a) _ ⟩))<| .W 2 4<| .B 5 .nil
 refine aftI av aX aY fun eL eM ay a6 a7 aI ar=>?_
 have⟨bQ,bR,bS,bT⟩:=ar.f4 bH bI bJ bK
 have bU:=ar.g 6 49
 have⟨a8,a9,ba⟩:=nw3 aI aZ a1 a3
 refine cB _ _ ?_
 rcases bc (((infB (asM b).k) || (noughtB (asM a)))) with ac|ac
 have cC:=hB bU ac
 refine wt cC<| wk fun eN cD=>?_
 refine wA [true,true,false,false] [(2,false),(3,true)] 77 [ve (.bool ((belowB (asM a)) != (belowB (asM b)))),ve (nv (noughtM ((belowB (asM a)) != (belowB (asM b))))),vt,vt] ay ?_ ?_
 exact .M bT<| .C 0 (fun p=>nought_c ((belowB (asM a)) != (belowB (asM b))) _)<| .off<| .off .nil
 refine aftI ay a6 a7 fun bV eO bb cE cF cG bd=>?_
 have bW:=bd.f1 bS
 have bX:=bd.g 1 57
 have cH:=ba.new_ cG
 refine sS2 bW bX cH fun eP cI cJ ep=>?_
 have cL:=cF.tR cJ
 refine sP (v:=.bool true) rfl bb cE fun dW er cM an dY=>?_
 have⟨dX,eR⟩:=an.q2 bW bX
 refine cD _ _ ?_
 refine wp_ret (ret_k cM (v:=.tuple #[nv (noughtM ((belowB (asM a)) != (belowB (asM b)))),.bool true]) (res_ct rfl dX dY (l_two isAgg23 sizeOf23 cI)) ?_)
 refine ⟨?_,cL⟩
 show Ending.returned (.tuple #[nv (noughtM ((belowB (asM a)) != (belowB (asM b)))),.bool true])=Ending.returned (.tuple #[nv ((divM a b).1),.bool ((divM a b).2)])
 first|rfl|(simp only [divM,divA,ab,ad,ae,af,ag,aa,ac,bsm] <;> first|rfl|(simp only [divM,divA,ab,ad,ae,ak,al,af,ag,aa,aw,ax,ac,bsm] <;> rfl))|(exfalso; omega)
 have cN:=hB bU ac
 have aJ:(infB (asM b).k)=false:=ol ac
 have aK:(noughtB (asM a))=false:=or_ ac
 refine wf cN<| wk fun eS cO=>?_
 have hw_a:=whole_of (a:=a) ak aw aK
 have hsz_a:=size_bd a
 have hnz_a:=size_nz hw_a.2
 have hw_b:=whole_of (a:=b) al aJ ax
 have hsz_b:=size_bd b
 have hnz_b:=size_nz hw_b.2
 have htd:=tdiv_bd hsz_a.1 hsz_b.1
 refine wA tr9 [] 77 [ve (.pointer (some ⟨q9,1,none⟩)),ve (iv ((asM a).n)),ve (.int .u64 (sizeI ((asM a).n))),ve (.pointer (some ⟨aR,1,none⟩)),ve (iv ((asM b).n)),ve (.int .u64 (sizeI ((asM b).n))),ve (.int .u64 ((sizeI ((asM a).n)).tmod (sizeI ((asM b).n)))),ve (.bool (!decide (((sizeI ((asM a).n)).tmod (sizeI ((asM b).n)))=0))),ve (.bool (!decide (((sizeI ((asM a).n)).tmod (sizeI ((asM b).n)))=0)))] ay ?_ ?_
 exact .F bQ<| .J 0 isAgg3 a8<| .C 1 (fun p=>size_c ((asM a).n) _ (by omega))<| .F bR<| .J 3 isAgg3 a9<| .C 4 (fun p=>size_c ((asM b).n) _ (by omega))<| .R (fun k=>v_bin rfl (k.eq1 2 61 rfl) (k.eq1 5 64 rfl) (fun _=>rfl) (r_remU rfl (by omega))) (fun _=>rfl)<| .b 6 (r_neq rfl)<| .B 7 .nil
 refine aftI ay a6 a7 fun eT eU az be bf aL au=>?_
 have⟨dZ,d0,bZ,d1⟩:=au.f4 bQ bR bS bT
 have b0:=au.g 8 58
 have⟨cP,cQ,bg⟩:=nw3 aL a8 a9 ba
 refine cO _ _ ?_
 rcases bc ((!decide (((sizeI ((asM a).n)).tmod (sizeI ((asM b).n)))=0))) with ah|ah
 have cR:=hB b0 ah
 have bh:(decide (((sizeI ((asM a).n)).tmod (sizeI ((asM b).n)))=0))=false:=nF ah
 have ej:=oF bh
 refine wt cR<| wk fun eV cS=>?_
 refine wA [true,false,false] [(1,false),(2,true)] 77 [ve (nv (Nm.mk 2 0)),vt,vt] az ?_ ?_
 exact .o1 (ck rfl rfl rfl (fun _ w hn k=>⟨#[],rfl,fun _=>by kernel_rfl,nan_c  _ ⟩) fun _=>rfl)<| .off<| .off .nil
 refine aftI az be bf fun b1 eW bi cU cV cW bj=>?_
 have b2:=bj.f1 bZ
 have b3:=bj.g 0 67
 have cX:=bg.new_ cW
 refine sS2 b2 b3 cX fun eX cY cZ es=>?_
 have c1:=cV.tR cZ
 refine sP (v:=.bool false) rfl bi cU fun d2 et c2 ao d4=>?_
 have⟨d3,eZ⟩:=ao.q2 b2 b3
 refine cS _ _ ?_
 refine wp_ret (ret_k c2 (v:=.tuple #[nv (Nm.mk 2 0),.bool false]) (res_ct rfl d3 d4 (l_two isAgg23 sizeOf23 cY)) ?_)
 refine ⟨?_,c1⟩
 show Ending.returned (.tuple #[nv (Nm.mk 2 0),.bool false])=Ending.returned (.tuple #[nv ((divM a b).1),.bool ((divM a b).2)])
 first|rfl|(simp only [divM,divA,ab,ad,ae,af,ag,aa,ac,bsm] <;> first|rfl|(simp only [divM,divA,ab,ad,ae,ak,al,af,ag,aa,aw,ax,ac,aJ,aK,ah,bh,bsm] <;> rfl))|(exfalso; omega)
 have c3:=hB b0 ah
 have bk:(decide (((sizeI ((asM a).n)).tmod (sizeI ((asM b).n)))=0))=true:=nT ah
 have ek:=oT bk
 refine wf c3<| ws ?_
 refine dM _ _ ?_
 refine wk fun e0 c4=>?_
 refine wA [true,true,true,true,true,true,true,true,true,false,false] [(9,false),(10,true)] 77 [ve (.pointer (some ⟨q9,1,none⟩)),ve (iv ((asM a).n)),ve (.int .u64 (sizeI ((asM a).n))),ve (.pointer (some ⟨aR,1,none⟩)),ve (iv ((asM b).n)),ve (.int .u64 (sizeI ((asM b).n))),ve (.int .u64 ((sizeI ((asM a).n)).tdiv (sizeI ((asM b).n)))),ve (.bool ((belowB (asM a)) != (belowB (asM b)))),ve (nv (signedM ((sizeI ((asM a).n)).tdiv (sizeI ((asM b).n))) ((belowB (asM a)) != (belowB (asM b))))),vt,vt] az ?_ ?_
 exact .F dZ<| .J 0 isAgg3 cP<| .C 1 (fun p=>size_c ((asM a).n) _ (by omega))<| .F d0<| .J 3 isAgg3 cQ<| .C 4 (fun p=>size_c ((asM b).n) _ (by omega))<| .R (fun k=>v_bin rfl (k.eq1 2 70 rfl) (k.eq1 5 73 rfl) (fun _=>rfl) (r_quoU rfl (by omega) (by omega))) (fun _=>rfl)<| .M d1<| .C2 6 7 (fun p=>signed_c ((sizeI ((asM a).n)).tdiv (sizeI ((asM b).n))) ((belowB (asM a)) != (belowB (asM b))) _ (by omega))<| .off<| .off .nil
 refine aftI az be bf fun b5 e1 bl c5 c6 c8 bm=>?_
 have b6:=bm.f1 bZ
 have b7:=bm.g 8 76
 have c9:=bg.new_ c8
 refine sS2 b6 b7 c9 fun e2 da db eu=>?_
 have dd:=c6.tR db
 refine sP (v:=.bool true) rfl bl c5 fun d5 ev de ap d7=>?_
 have⟨d6,e4⟩:=ap.q2 b6 b7
 refine c4 _ _ ?_
 refine wp_ret (ret_k de (v:=.tuple #[nv (signedM ((sizeI ((asM a).n)).tdiv (sizeI ((asM b).n))) ((belowB (asM a)) != (belowB (asM b)))),.bool true]) (res_ct rfl d6 d7 (l_two isAgg23 sizeOf23 da)) ?_)
 refine ⟨?_,dd⟩
 show Ending.returned (.tuple #[nv (signedM ((sizeI ((asM a).n)).tdiv (sizeI ((asM b).n))) ((belowB (asM a)) != (belowB (asM b)))),.bool true])=Ending.returned (.tuple #[nv ((divM a b).1),.bool ((divM a b).2)])
 first|rfl|(simp only [divM,divA,ab,ad,ae,af,ag,aa,ac,bsm] <;> first|rfl|(simp only [divM,divA,ab,ad,ae,ak,al,af,ag,aa,aw,ax,ac,aJ,aK,ah,bk,bsm] <;> rfl))|(exfalso; omega)
theorem nrem_c (a:Nm) (b:Nm) (w:World):Calls prog 79 #[nv a,nv b] w (IsRet (nv (remM a b)) w):=by
 refine enter_abs func79 rfl fun a0 aD cW hp=>?_
 have aD:a0.tmps.size=52:=aD
 have aE:New w w:=Upd.refl _ _
 have hp0:a0.eval (.tmp 0)=nv a:=hp 0 _ rfl
 have hp1:a0.eval (.tmp 1)=nv b:=hp 1 _ rfl
 refine wk fun K1 cX=>?_
 refine wB tr3 [] [] 52 [IsNew w 23 [iv a.k,iv a.n],IsNew w 23 [iv b.k,iv b.n],IsNew w 23 [iv 0,iv 0]] [0,1,2] aD ?_ heN ?_
 exact .X hp0<| .X hp1<| .Y .nil
 refine aftI aD cW aE fun a2 w3 b7 cY ce dH ao=>?_
 obtain⟨q9,h8,cf,aV⟩:=ao.G 0 2
 obtain⟨aW,aF,ch,aX⟩:=ao.G 1 3
 obtain⟨b8,aY,ci,cj⟩:=ao.G 2 4
 have hne20:=ao.ne 0 1 2 3 h8 aF
 have hne21:=ao.ne 0 2 2 4 h8 aY
 have hne22:=ao.ne 1 2 3 4 aF aY
 have dc:=Nat.le_trans aE.size cf
 have dd:=Nat.le_trans aE.size ch
 have de:=Nat.le_trans aE.size ci
 refine cX _ _ <| wk fun dI cl=>?_
 refine wA [true,true,true,true,false,false] [(4,false),(5,false)] 52 [ve (nv a),ve (nv (asM a)),ve (nv b),ve (nv (asM b)),vt,vt] b7 ?_ ?_
 exact .L2 h8 aV<| .C 0 (fun p=>as_c a _)<| .L2 aF aX<| .C 2 (fun p=>as_c b _)<| .off<| .off .nil
 refine aftI b7 cY ce fun dJ dK aZ cm cn ay an=>?_
 have⟨aG,aH,cZ⟩:=an.f3 h8 aF aY
 have c0:=an.g 1 7
 have c1:=an.g 3 9
 have⟨co,cp,cq⟩:=nw3 ay aV aX cj
 have hbd_a:=as_bd a
 have hbd_b:=as_bd b
 refine sS2 aG c0 co fun dL cr ct a1=>?_
 have cv:=a1 hne20.symm cp
 have cw:=a1 hne21.symm cq
 have cx:=cn.tR ct
 refine sS2 aH c1 cv fun dN az cy a3=>?_
 have aA:=a3 hne20 cr
 have cA:=a3 hne22.symm cw
 have cB:=cx.tR cy
 refine cl _ _ <| wk fun dP cC=>?_
 refine wb<| wk fun dQ cD=>?_
 refine wA tr15 [] 52 [ve (nv (asM a)),ve (.bool (decide ((asM a).k=2))),ve (.bool (decide ((asM a).k=2))),ve (gq (!(decide ((asM a).k=2))) (nv (asM b))),ve (gq (!(decide ((asM a).k=2))) (.bool (decide ((asM b).k=2)))),ve (.bool ((decide ((asM a).k=2)) || (decide ((asM b).k=2)))),ve (.bool ((decide ((asM a).k=2)) || (decide ((asM b).k=2)))),ve (gq (!((decide ((asM a).k=2)) || (decide ((asM b).k=2)))) (nv (asM a))),ve (gq (!((decide ((asM a).k=2)) || (decide ((asM b).k=2)))) (.bool (infB (asM a).k))),ve (.bool (((decide ((asM a).k=2)) || (decide ((asM b).k=2))) || (infB (asM a).k))),ve (.bool (((decide ((asM a).k=2)) || (decide ((asM b).k=2))) || (infB (asM a).k))),ve (gq (!(((decide ((asM a).k=2)) || (decide ((asM b).k=2))) || (infB (asM a).k))) (nv (asM b))),ve (gq (!(((decide ((asM a).k=2)) || (decide ((asM b).k=2))) || (infB (asM a).k))) (.bool (noughtB (asM b)))),ve (.bool ((((decide ((asM a).k=2)) || (decide ((asM b).k=2))) || (infB (asM a).k)) || (noughtB (asM b)))),ve (.bool ((((decide ((asM a).k=2)) || (decide ((asM b).k=2))) || (infB (asM a).k)) || (noughtB (asM b))))] aZ ?_ ?_
 exact .L2 aG aA<| .C 0 (fun p=>isNaN_c (asM a) _)<| .N 1<| .Q (fun k=>g0' (k.eq1 2 13 rfl)) (fun hG p k=>v_load rfl (k.fx 3 aH) (l_two isAgg23 sizeOf23 (az.new_ p)))<| .o1 (scC (G:=(!(decide ((asM a).k=2)))) rfl rfl rfl (fun _ _ k=>g0' (k.eq1 2 13 rfl)) rfl (fun hG _ w hn k=>⟨#[nv (asM b)],args1 (cT hG (k.eq1 3 14 rfl)),fun _=>by kernel_rfl,isNaN_c (asM b) _ ⟩))<| .W 2 4<| .N 5<| .Q (fun k=>g0' (k.eq1 6 17 rfl)) (fun hG p k=>v_load rfl (k.fx 2 aG) (l_two isAgg23 sizeOf23 (aA.new_ p)))<| .o1 (scC (G:=(!((decide ((asM a).k=2)) || (decide ((asM b).k=2))))) rfl rfl rfl (fun _ _ k=>g0' (k.eq1 6 17 rfl)) rfl (fun hG _ w hn k=>⟨#[nv (asM a)],args1 (cT hG (k.eq1 7 18 rfl)),fun _=>by kernel_rfl,isInf_c (asM a) _ ⟩))<| .W 6 8<| .N 9<| .Q (fun k=>g0' (k.eq1 10 21 rfl)) (fun hG p k=>v_load rfl (k.fx 3 aH) (l_two isAgg23 sizeOf23 (az.new_ p)))<| .o1 (scC (G:=(!(((decide ((asM a).k=2)) || (decide ((asM b).k=2))) || (infB (asM a).k)))) rfl rfl rfl (fun _ _ k=>g0' (k.eq1 10 21 rfl)) rfl (fun hG _ w hn k=>⟨#[nv (asM b)],args1 (cT hG (k.eq1 11 22 rfl)),fun _=>by kernel_rfl,isNought_c (asM b) _ ⟩))<| .W 10 12<| .B 13 .nil
 refine aftI aZ cm cB fun dR dS ap a4 a5 aB aq=>?_
 have⟨b9,ca,cb⟩:=aq.f3 aG aH cZ
 have cc:=aq.g 14 10
 have⟨a6,a7,a8⟩:=nw3 aB aA az cA
 refine cD _ _ ?_
 rcases bc (((((decide ((asM a).k=2)) || (decide ((asM b).k=2))) || (infB (asM a).k)) || (noughtB (asM b)))) with ab|ab
 have cE:=hB cc ab
 refine wt cE<| wk fun dT cF=>?_
 refine wA [true,false] [(1,false)] 52 [ve (nv (Nm.mk 2 0)),vt] ap ?_ ?_
 exact .o1 (ck rfl rfl rfl (fun _ w hn k=>⟨#[],rfl,fun _=>by kernel_rfl,nan_c  _ ⟩) fun _=>rfl)<| .off .nil
 refine aftI ap a4 a5 fun dU dV df cG cH cI a9=>?_
 have cd:=a9.f1 cb
 have c2:=a9.g 0 25
 have cJ:=a8.new_ cI
 refine sS2 cd c2 cJ fun dW cK cL dg=>?_
 have cN:=cH.tR cL
 refine cF _ _ ?_
 refine wp_ret (ret_k cG (v:=nv (Nm.mk 2 0)) (res_c rfl cd (l_two isAgg23 sizeOf23 cK)) ?_)
 refine ⟨?_,cN⟩
 show Ending.returned (nv (Nm.mk 2 0))=Ending.returned (nv (remM a b))
 first|rfl|(simp only [remM,remA,ab,bsm] <;> first|rfl|(simp only [remM,remA,ab,bsm] <;> rfl))|(exfalso; omega)
 have br:=hB cc ab
 have ac:(((decide ((asM a).k=2)) || (decide ((asM b).k=2))) || (infB (asM a).k))=false:=ol ab
 have ad:((decide ((asM a).k=2)) || (decide ((asM b).k=2)))=false:=ol ac
 have af:(decide ((asM a).k=2))=false:=ol ad
 have c3:=oF af
 have ag:(decide ((asM b).k=2))=false:=or_ ad
 have c4:=oF ag
 have ah:(infB (asM a).k)=false:=or_ ac
 have ai:(noughtB (asM b))=false:=or_ ab
 refine wf br<| wk fun dh bs=>?_
 refine wA tr7 [] 52 [ve (nv (asM b)),ve (.bool (infB (asM b).k)),ve (.bool (infB (asM b).k)),ve (gq (!(infB (asM b).k)) (nv (asM a))),ve (gq (!(infB (asM b).k)) (.bool (noughtB (asM a)))),ve (.bool ((infB (asM b).k) || (noughtB (asM a)))),ve (.bool ((infB (asM b).k) || (noughtB (asM a))))] ap ?_ ?_
 exact .L2 ca a7<| .C 0 (fun p=>isInf_c (asM b) _)<| .N 1<| .Q (fun k=>g0' (k.eq1 2 29 rfl)) (fun hG p k=>v_load rfl (k.fx 2 b9) (l_two isAgg23 sizeOf23 (a6.new_ p)))<| .o1 (scC (G:=(!(infB (asM b).k))) rfl rfl rfl (fun _ _ k=>g0' (k.eq1 2 29 rfl)) rfl (fun hG _ w hn k=>⟨#[nv (asM a)],args1 (cT hG (k.eq1 3 30 rfl)),fun _=>by kernel_rfl,isNought_c (asM a) _ ⟩))<| .W 2 4<| .B 5 .nil
 refine aftI ap a4 a5 fun di dj aj aI aJ ar ak=>?_
 have⟨aC,cO,ba⟩:=ak.f3 b9 ca cb
 have bb:=ak.g 6 26
 have⟨au,bt,aK⟩:=nw3 ar a6 a7 a8
 refine bs _ _ ?_
 rcases bc (((infB (asM b).k) || (noughtB (asM a)))) with aa|aa
 have bu:=hB bb aa
 refine wt bu<| wk fun dk bv=>?_
 refine wA [true,false] [(1,false)] 52 [ve (nv (asM a)),vt] aj ?_ ?_
 exact .L2 aC au<| .off .nil
 refine aftI aj aI aJ fun dl dm c5 bw bx bz aL=>?_
 have bd:=aL.f1 ba
 have cP:=aL.g 0 33
 have bA:=aK.new_ bz
 refine sS2 bd cP bA fun dn bB bC c6=>?_
 have bE:=bx.tR bC
 refine bv _ _ ?_
 refine wp_ret (ret_k bw (v:=nv (asM a)) (res_c rfl bd (l_two isAgg23 sizeOf23 bB)) ?_)
 refine ⟨?_,bE⟩
 show Ending.returned (nv (asM a))=Ending.returned (nv (remM a b))
 first|rfl|(simp only [remM,remA,ab,ac,ad,aa,bsm] <;> first|rfl|(simp only [remM,remA,ab,ac,ad,af,ag,ah,ai,aa,bsm] <;> rfl))|(exfalso; omega)
 have bF:=hB bb aa
 have av:(infB (asM b).k)=false:=ol aa
 have aw:(noughtB (asM a))=false:=or_ aa
 refine wf bF<| ws ?_
 refine cC _ _ ?_
 refine wk fun dq bG=>?_
 have hw_a:=whole_of (a:=a) af ah aw
 have hsz_a:=size_bd a
 have hnz_a:=size_nz hw_a.2
 have hw_b:=whole_of (a:=b) ag av ai
 have hsz_b:=size_bd b
 have hnz_b:=size_nz hw_b.2
 have htm:=tmod_bd (y:=sizeI (asM b).n) hsz_a.1 (by omega)
 refine wA tr8 [] 52 [ve (.pointer (some ⟨q9,1,none⟩)),ve (iv ((asM a).n)),ve (.int .u64 (sizeI ((asM a).n))),ve (.pointer (some ⟨aW,1,none⟩)),ve (iv ((asM b).n)),ve (.int .u64 (sizeI ((asM b).n))),ve (.int .u64 ((sizeI ((asM a).n)).tmod (sizeI ((asM b).n)))),ve (.int .u64 ((sizeI ((asM a).n)).tmod (sizeI ((asM b).n))))] aj ?_ ?_
 exact .F aC<| .J 0 isAgg3 au<| .C 1 (fun p=>size_c ((asM a).n) _ (by omega))<| .F cO<| .J 3 isAgg3 bt<| .C 4 (fun p=>size_c ((asM b).n) _ (by omega))<| .R (fun k=>v_bin rfl (k.eq1 2 36 rfl) (k.eq1 5 39 rfl) (fun _=>rfl) (r_remU rfl (by omega))) (fun _=>rfl)<| .B 6 .nil
 refine aftI aj aI aJ fun dr ds aM bH bI aN ax=>?_
 have⟨cQ,cR⟩:=ax.f2 aC ba
 have bf:=ax.g 7 5
 have⟨bJ,bK⟩:=nw2 aN au aK
 refine bG _ _ <| wk fun dt bL=>?_
 refine wk fun du bM=>?_
 refine wA tr2 [] 52 [ve (.int .u64 ((sizeI ((asM a).n)).tmod (sizeI ((asM b).n)))),ve (.bool (decide (((sizeI ((asM a).n)).tmod (sizeI ((asM b).n)))=0)))] aM ?_ ?_
 exact .M bf<| .b 0 (r_eql rfl) .nil
 refine aftI aM bH bI fun dv dw al aO aP aQ am=>?_
 have⟨bg,bh,cS⟩:=am.f3 cQ cR bf
 have bi:=am.g 1 42
 have⟨aR,aS⟩:=nw2 aQ bJ bK
 refine bM _ _ ?_
 rcases bc (decide (((sizeI ((asM a).n)).tmod (sizeI ((asM b).n)))=0)) with ae|ae
 have bj:=oT ae
 have bN:=hB bi ae
 refine wt bN<| wk fun dx bO=>?_
 refine wA [true,true,true,true,false] [(4,false)] 52 [ve (.pointer (some ⟨q9,1,none⟩)),ve (iv ((asM a).n)),ve (.bool (decide (((asM a).n) < 0))),ve (nv (noughtM (decide (((asM a).n) < 0)))),vt] al ?_ ?_
 exact .F bg<| .J 0 isAgg3 aR<| .b 1 (r_lssK rfl)<| .C 2 (fun p=>nought_c (decide (((asM a).n) < 0)) _)<| .off .nil
 refine aftI al aO aP fun dy dz c8 bP bQ bR aT=>?_
 have bk:=aT.f1 bh
 have cU:=aT.g 3 46
 have bS:=aS.new_ bR
 refine sS2 bk cU bS fun dA bT bU c9=>?_
 have bW:=bQ.tR bU
 refine bO _ _ ?_
 refine wp_ret (ret_k bP (v:=nv (noughtM (decide (((asM a).n) < 0)))) (res_c rfl bk (l_two isAgg23 sizeOf23 bT)) ?_)
 refine ⟨?_,bW⟩
 show Ending.returned (nv (noughtM (decide (((asM a).n) < 0))))=Ending.returned (nv (remM a b))
 first|rfl|(simp only [remM,remA,ab,ac,ad,aa,bsm] <;> first|rfl|(simp only [remM,remA,ab,ac,ad,af,ag,ah,ai,aa,av,aw,ae,bsm] <;> rfl))|(exfalso; omega)
 have bj:=oF ae
 have bX:=hB bi ae
 refine wf bX<| ws ?_
 refine bL _ _ ?_
 refine wk fun dC bY=>?_
 refine wA [true,true,true,true,true,false] [(5,false)] 52 [ve (.int .u64 ((sizeI ((asM a).n)).tmod (sizeI ((asM b).n)))),ve (.pointer (some ⟨q9,1,none⟩)),ve (iv ((asM a).n)),ve (.bool (decide (((asM a).n) < 0))),ve (nv (signedM ((sizeI ((asM a).n)).tmod (sizeI ((asM b).n))) (decide (((asM a).n) < 0)))),vt] al ?_ ?_
 exact .M cS<| .F bg<| .J 1 isAgg3 aR<| .b 2 (r_lssK rfl)<| .C2 0 3 (fun p=>signed_c ((sizeI ((asM a).n)).tmod (sizeI ((asM b).n))) (decide (((asM a).n) < 0)) _ (by omega))<| .off .nil
 refine aftI al aO aP fun dD dE da bZ b0 b1 aU=>?_
 have bm:=aU.f1 bh
 have cV:=aU.g 4 51
 have b2:=aS.new_ b1
 refine sS2 bm cV b2 fun dF b3 b4 db=>?_
 have b6:=b0.tR b4
 refine bY _ _ ?_
 refine wp_ret (ret_k bZ (v:=nv (signedM ((sizeI ((asM a).n)).tmod (sizeI ((asM b).n))) (decide (((asM a).n) < 0)))) (res_c rfl bm (l_two isAgg23 sizeOf23 b3)) ?_)
 refine ⟨?_,b6⟩
 show Ending.returned (nv (signedM ((sizeI ((asM a).n)).tmod (sizeI ((asM b).n))) (decide (((asM a).n) < 0))))=Ending.returned (nv (remM a b))
 first|rfl|(simp only [remM,remA,ab,ac,ad,aa,bsm] <;> first|rfl|(simp only [remM,remA,ab,ac,ad,af,ag,ah,ai,aa,av,aw,ae,bsm] <;> rfl))|(exfalso; omega)
def bMul_c_P (a:Bool) (Aa:Option Addr) (ma:List Nat) (ca:Nat) (b:Bool) (Ab:Option Addr) (mb:List Nat) (cb:Nat) (w:World) (en:Ending) (w':World):Prop:=∃ (Ar0:Option Addr) (cr0:Nat),en=.returned (.tuple #[.agg #[.bool (decide ((capI (goodI a ma * goodI b mb)) < 0)),sv Ar0 (canon ((capI (goodI a ma * goodI b mb))).natAbs) cr0],.bool (okI (goodI a ma * goodI b mb))])∧SRow w' .u32 Ar0 (canon ((capI (goodI a ma * goodI b mb))).natAbs) cr0∧New w w'
theorem bMul_c (a:Bool) (Aa:Option Addr) (ma:List Nat) (ca:Nat) (b:Bool) (Ab:Option Addr) (mb:List Nat) (cb:Nat) (w:World) (hra:SRow w .u32 Aa ma ca) (hrb:SRow w .u32 Ab mb cb) (ha:Limbs ma) (hb:Limbs mb):Calls Tryz.prog 143 #[.agg #[.bool a,sv Aa ma ca],.agg #[.bool b,sv Ab mb cb]] w (bMul_c_P a Aa ma ca b Ab mb cb w):=by
  refine (mul_any _ _ _ _ w (big_in hra ha) (big_in hrb hb)).mono fun e w' h=>?_
  obtain⟨f,A',n',c',rfl,hc,hn⟩:=h
  obtain⟨rfl,rfl,hr'⟩:=hc.parts
  exact⟨A',c',rfl,hr',hn⟩
def bDiv_c_P (a:Bool) (Aa:Option Addr) (ma:List Nat) (ca:Nat) (b:Bool) (Ab:Option Addr) (mb:List Nat) (cb:Nat) (w:World) (en:Ending) (w':World):Prop:=∃ (Ar0:Option Addr) (cr0:Nat),en=.returned (.tuple #[.agg #[.bool (decide ((divZ (goodI a ma) (goodI b mb)) < 0)),sv Ar0 (canon ((divZ (goodI a ma) (goodI b mb))).natAbs) cr0],iv (zeroE (goodI b mb))])∧SRow w' .u32 Ar0 (canon ((divZ (goodI a ma) (goodI b mb))).natAbs) cr0∧New w w'
theorem bDiv_c (a:Bool) (Aa:Option Addr) (ma:List Nat) (ca:Nat) (b:Bool) (Ab:Option Addr) (mb:List Nat) (cb:Nat) (w:World) (hra:SRow w .u32 Aa ma ca) (hrb:SRow w .u32 Ab mb cb) (ha:Limbs ma) (hb:Limbs mb):Calls Tryz.prog 144 #[.agg #[.bool a,sv Aa ma ca],.agg #[.bool b,sv Ab mb cb]] w (bDiv_c_P a Aa ma ca b Ab mb cb w):=by
  refine (div_any _ _ _ _ w (big_in hra ha) (big_in hrb hb)).mono fun e w' h=>?_
  obtain⟨f,A',n',c',rfl,hc,hn⟩:=h
  obtain⟨rfl,rfl,hr'⟩:=hc.parts
  exact⟨A',c',rfl,hr',hn⟩
def bRem_c_P (a:Bool) (Aa:Option Addr) (ma:List Nat) (ca:Nat) (b:Bool) (Ab:Option Addr) (mb:List Nat) (cb:Nat) (w:World) (en:Ending) (w':World):Prop:=∃ (Ar0:Option Addr) (cr0:Nat),en=.returned (.tuple #[.agg #[.bool (decide ((remZ (goodI a ma) (goodI b mb)) < 0)),sv Ar0 (canon ((remZ (goodI a ma) (goodI b mb))).natAbs) cr0],iv (zeroE (goodI b mb))])∧SRow w' .u32 Ar0 (canon ((remZ (goodI a ma) (goodI b mb))).natAbs) cr0∧New w w'
theorem bRem_c (a:Bool) (Aa:Option Addr) (ma:List Nat) (ca:Nat) (b:Bool) (Ab:Option Addr) (mb:List Nat) (cb:Nat) (w:World) (hra:SRow w .u32 Aa ma ca) (hrb:SRow w .u32 Ab mb cb) (ha:Limbs ma) (hb:Limbs mb):Calls Tryz.prog 145 #[.agg #[.bool a,sv Aa ma ca],.agg #[.bool b,sv Ab mb cb]] w (bRem_c_P a Aa ma ca b Ab mb cb w):=by
  refine (rem_any _ _ _ _ w (big_in hra ha) (big_in hrb hb)).mono fun e w' h=>?_
  obtain⟨f,A',n',c',rfl,hc,hn⟩:=h
  obtain⟨rfl,rfl,hr'⟩:=hc.parts
  exact⟨A',c',rfl,hr',hn⟩
def bigsG_c_P (o:ByteArray) (a:Bool) (Aa:Option Addr) (ma:List Nat) (ca:Nat) (b:Bool) (Ab:Option Addr) (mb:List Nat) (cb:Nat) (w:World) (en:Ending) (w':World):Prop:=∃ (Ar0:Option Addr) (cr0:Nat) (Ar1:Option Addr) (cr1:Nat),en=.returned (.tuple #[vv (bigsG o (goodI a ma) (goodI b mb)).1 Ar0 cr0 Ar1 cr1,iv ((bigsG o (goodI a ma) (goodI b mb)).2)])∧SRow w' .u32 Ar0 ((bigsG o (goodI a ma) (goodI b mb)).1.mag) cr0∧SRow w' .u16 Ar1 ((bigsG o (goodI a ma) (goodI b mb)).1.s) cr1∧New w w'
theorem bigsG_c (o:ByteArray) (a:Bool) (Aa:Option Addr) (ma:List Nat) (ca:Nat) (b:Bool) (Ab:Option Addr) (mb:List Nat) (cb:Nat) (w:World) (hra:SRow w .u32 Aa ma ca) (hrb:SRow w .u32 Ab mb cb) (ha:Limbs ma) (hb:Limbs mb):Calls prog 75 #[.string o,.agg #[.bool a,sv Aa ma ca],.agg #[.bool b,sv Ab mb cb]] w (bigsG_c_P o a Aa ma ca b Ab mb cb w):=by
 refine enter_abs func75 rfl fun a0 cR i3 hp=>?_
 have cR:a0.tmps.size=60:=cR
 have cS:New w w:=Upd.refl _ _
 have hp0:a0.eval (.tmp 0)=.string o:=hp 0 _ rfl
 have hp1:a0.eval (.tmp 1)=.agg #[.bool a,sv Aa ma ca]:=hp 1 _ rfl
 have hp2:a0.eval (.tmp 2)=.agg #[.bool b,sv Ab mb cb]:=hp 2 _ rfl
 refine wk fun K1 i4=>?_
 refine wB tr4 [] [] 60 [IsNew w 26 [.bool a,sv Aa ma ca],IsNew w 26 [.bool b,sv Ab mb cb],IsNew w 29 z7,ve (iv 0)] [0,1,2] cR ?_ heN ?_
 exact .X hp1<| .X hp2<| .Y<| .c .nil
 refine aftI cR i3 cS fun a2 w3 gt i5 gF lv bW=>?_
 have h8:=bW.f1 hp0
 obtain⟨gu,h9,gG,gH⟩:=bW.G 0 4
 obtain⟨gv,gw,gI,gJ⟩:=bW.G 1 5
 obtain⟨aP,dz,gK,gL⟩:=bW.G 2 6
 have hne21:=bW.ne 0 2 4 6 h9 dz
 have hne22:=bW.ne 1 2 5 6 gw dz
 have j9:=Nat.le_trans cS.size gG
 have ka:=Nat.le_trans cS.size gI
 have kb:=Nat.le_trans cS.size gK
 refine i4 _ _ <| wk fun lw gM=>?_
 refine wk fun lx gN=>?_
 refine wA tr1 [] 60 [ve (.string o)] gt ?_ ?_
 exact .M h8 .nil
 refine aftI gt i5 gF fun ly lz dA gO gP cA bJ=>?_
 have⟨i6,i7,i8,i9⟩:=bJ.f4 h8 h9 gw dz
 have gx:=bJ.g 0 10
 have⟨gQ,gR,gS⟩:=nw3 cA gH gJ gL
 refine gN _ _ ?_
 refine wb<| wk fun lA gT=>?_
 refine wA tr2 [] 60 [ve (.bool (strEq o ⟨#[43]⟩)),ve (.bool (strEq o ⟨#[43]⟩))] dA ?_ ?_
 exact .H gx (r_eqlS rfl)<| .B 0 .nil
 refine aftI dA gO gP fun lB lC bX dB bY cB bw=>?_
 have⟨ja,gy,gz,gA⟩:=bw.f4 i6 i7 i8 i9
 have gB:=bw.f1 gx
 have gC:=bw.g 1 11
 have⟨dC,dD,dE⟩:=nw3 cB gQ gR gS
 refine gT _ _ ?_
 rcases bc (strEq o ⟨#[43]⟩) with ab|ab
 have gU:=hB gC ab
 refine wt gU<| wk fun lD gV=>?_
 refine wp_g0 [true,true,true,true,true,true,true,true,false,false] [(8,false),(9,true)] 60
  [ve (.agg #[.bool a,sv Aa ma ca]),ve (.agg #[.bool b,sv Ab mb cb]),(fun (v_:Value) (W:World)=>∃ (A3:Option Addr) (c4:Nat),v_=.tuple #[.agg #[.bool (decide ((capI (goodI a ma + goodI b mb)) < 0)),sv A3 (canon ((capI (goodI a ma + goodI b mb))).natAbs) c4],.bool (okI (goodI a ma + goodI b mb))]∧SRow W .u32 A3 (canon ((capI (goodI a ma + goodI b mb))).natAbs) c4),(fun (v_:Value) (W:World)=>∃ (A9:Option Addr) (bK:Nat),v_=.agg #[.bool (decide ((capI (goodI a ma + goodI b mb)) < 0)),sv A9 (canon ((capI (goodI a ma + goodI b mb))).natAbs) bK]∧SRow W .u32 A9 (canon ((capI (goodI a ma + goodI b mb))).natAbs) bK),ve (.bool (okI (goodI a ma + goodI b mb))),(TP (biggedV (decide ((capI (goodI a ma + goodI b mb)) < 0)) (canon ((capI (goodI a ma + goodI b mb))).natAbs) (okI (goodI a ma + goodI b mb))).1 ((biggedV (decide ((capI (goodI a ma + goodI b mb)) < 0)) (canon ((capI (goodI a ma + goodI b mb))).natAbs) (okI (goodI a ma + goodI b mb))).2)),(fun (v_:Value) (W:World)=>∃ (bL:Option Addr) (bM:Nat) (bN:Option Addr) (bO:Nat),v_=vv (biggedV (decide ((capI (goodI a ma + goodI b mb)) < 0)) (canon ((capI (goodI a ma + goodI b mb))).natAbs) (okI (goodI a ma + goodI b mb))).1 bL bM bN bO∧SRow W .u32 bL ((biggedV (decide ((capI (goodI a ma + goodI b mb)) < 0)) (canon ((capI (goodI a ma + goodI b mb))).natAbs) (okI (goodI a ma + goodI b mb))).1.mag) bM∧SRow W .u16 bN ((biggedV (decide ((capI (goodI a ma + goodI b mb)) < 0)) (canon ((capI (goodI a ma + goodI b mb))).natAbs) (okI (goodI a ma + goodI b mb))).1.s) bO),ve (iv ((biggedV (decide ((capI (goodI a ma + goodI b mb)) < 0)) (canon ((capI (goodI a ma + goodI b mb))).natAbs) (okI (goodI a ma + goodI b mb))).2)),vt,vt] bX (.eq (.eq (.cons (fun _ _ _ n ⟨_,_,e,h⟩=>⟨_,_,e,h.new_ n⟩) (.cons (fun _ _ _ n ⟨_,_,e,h⟩=>⟨_,_,e,h.new_ n⟩) (.eq (.cons (fun _ _ _ n ⟨_,_,_,_,e,h,i⟩=>⟨_,_,_,_,e,h.new_ n,i.new_ n⟩) (.cons (fun _ _ _ n ⟨_,_,_,_,e,h,i⟩=>⟨_,_,_,_,e,h.new_ n,i.new_ n⟩) (.eq (.tt (.tt .nil)))))))))) ?_ ?_
 refine .L6 gy dC<| .L6 gz dD ?_
 refine .o1 (tkC rfl (noG rfl) rfl fun _ w hn k=>(by
  refine ⟨#[.agg #[.bool a,sv Aa ma ca],.agg #[.bool b,sv Ab mb cb]],_,args2 (k.eq1 0 13 rfl) (k.eq1 1 14 rfl),fun w=>by kernel_rfl,bAdd_c a _ ma _ b _ mb _ _ (hra.new_ (bY.transNew hn)) (hrb.new_ (bY.transNew hn)) ha hb,?_⟩
  rintro e w' ⟨A1,c2,rfl,hmo0,hm⟩
  exact⟨_,rfl,hm,⟨A1,c2,rfl,hmo0⟩⟩)) ?_
 refine .o1 (tk rfl rfl fun _ w hn k=>(by
  obtain⟨A5,c6,e7,jb⟩:=k.G 2 15
  exact⟨_,v_extract rfl e7 rfl,⟨A5,c6,rfl,jb⟩⟩)) ?_
 refine .o1 (tk rfl rfl fun _ w hn k=>(by
  obtain⟨lE,lF,jc,kc⟩:=k.G 2 15
  exact⟨_,v_extract rfl jc rfl,rfl⟩)) ?_
 refine .o1 (tkC rfl (noG rfl) rfl fun _ w hn k=>(by
  obtain⟨jd,je,jf,gW⟩:=k.G 3 16
  refine ⟨#[.agg #[.bool (decide ((capI (goodI a ma + goodI b mb)) < 0)),sv jd (canon ((capI (goodI a ma + goodI b mb))).natAbs) je],.bool (okI (goodI a ma + goodI b mb))],_,args2 jf (k.eq1 4 17 rfl),fun w=>by kernel_rfl,bigged_c (decide ((capI (goodI a ma + goodI b mb)) < 0)) _ (canon ((capI (goodI a ma + goodI b mb))).natAbs) _ (okI (goodI a ma + goodI b mb)) _ gW,?_⟩
  rintro e w' ⟨jg,jh,ji,jj,rfl,hmo0,hmo1,hm⟩
  exact⟨_,rfl,hm,⟨jg,jh,ji,jj,rfl,hmo0,hmo1⟩⟩)) ?_
 refine .o1 (tk rfl rfl fun _ w hn k=>(by
  obtain⟨jk,jl,jm,jn,jo,gX,gY⟩:=k.G 5 18
  exact⟨_,v_extract rfl jo rfl,⟨jk,jl,jm,jn,rfl,gX,gY⟩⟩)) ?_
 refine .o1 (tk rfl rfl fun _ w hn k=>(by
  obtain⟨lG,lH,lI,lJ,jp,kd,ke⟩:=k.G 5 18
  exact⟨_,v_extract rfl jp rfl,rfl⟩)) ?_
 exact .off<| .off .nil
 refine aftI bX dB bY fun dF lK dG gZ g0 g1 cC=>?_
 have gD:=cC.f1 gA
 obtain⟨bs,a1,bP,a3,cT,g2,g3⟩:=cC.G 6 19
 have cT:dF.eval (.tmp 19)=vv (biggedV (decide ((capI (goodI a ma + goodI b mb)) < 0)) (canon ((capI (goodI a ma + goodI b mb))).natAbs) (okI (goodI a ma + goodI b mb))).1 bs a1 bP a3:=cT
 have gE:=cC.g 7 20
 have cD:=dE.new_ g1
 refine sS9 gD cT cD fun jq g4 cE kf=>?_
 have g6:=g2.fr cD cE
 have g7:=g3.fr cD cE
 have g8:=g0.tR cE
 refine sP gE dG gZ fun jr kg g9 a4 jt=>?_
 have⟨js,lM,lN⟩:=a4.q3 gD cT gE
 refine gV _ _ ?_
 refine wp_ret (ret_k g9 (v:=.tuple #[vv (biggedV (decide ((capI (goodI a ma + goodI b mb)) < 0)) (canon ((capI (goodI a ma + goodI b mb))).natAbs) (okI (goodI a ma + goodI b mb))).1 bs a1 bP a3,iv ((biggedV (decide ((capI (goodI a ma + goodI b mb)) < 0)) (canon ((capI (goodI a ma + goodI b mb))).natAbs) (okI (goodI a ma + goodI b mb))).2)]) (res_ct rfl js jt (l_agg isAgg29 sizeOf29 g4 rfl)) ?_)
 have af:(bigsG o (goodI a ma) (goodI b mb)).1.mag=(biggedV (decide ((capI (goodI a ma + goodI b mb)) < 0)) (canon ((capI (goodI a ma + goodI b mb))).natAbs) (okI (goodI a ma + goodI b mb))).1.mag:=by first|rfl|(simp only [bigsG,divE,ab,bsm] <;> rfl)|(exfalso; omega)
 have ag:(bigsG o (goodI a ma) (goodI b mb)).1.s=(biggedV (decide ((capI (goodI a ma + goodI b mb)) < 0)) (canon ((capI (goodI a ma + goodI b mb))).natAbs) (okI (goodI a ma + goodI b mb))).1.s:=by first|rfl|(simp only [bigsG,divE,ab,bsm] <;> rfl)|(exfalso; omega)
 exact⟨bs,a1,bP,a3,(by show Ending.returned (.tuple #[vv (biggedV (decide ((capI (goodI a ma + goodI b mb)) < 0)) (canon ((capI (goodI a ma + goodI b mb))).natAbs) (okI (goodI a ma + goodI b mb))).1 bs a1 bP a3,iv ((biggedV (decide ((capI (goodI a ma + goodI b mb)) < 0)) (canon ((capI (goodI a ma + goodI b mb))).natAbs) (okI (goodI a ma + goodI b mb))).2)])=Ending.returned (.tuple #[vv (bigsG o (goodI a ma) (goodI b mb)).1 bs a1 bP a3,iv ((bigsG o (goodI a ma) (goodI b mb)).2)]); (first|rfl|(simp only [bigsG,divE,ab,af,ag,bsm] <;> rfl)|(exfalso; omega))),(by rw [af]; exact g6),(by rw [ag]; exact g7),g8⟩
 have hc:=hB gC ab
 refine wf hc<| wk fun kh ep=>?_
 refine wA tr2 [] 60 [ve (.bool (strEq o ⟨#[45]⟩)),ve (.bool (strEq o ⟨#[45]⟩))] bX ?_ ?_
 exact .H gB (r_eqlS rfl)<| .B 0 .nil
 refine aftI bX dB bY fun ki kj bx cU bz bZ aH=>?_
 have⟨hd,dH,dI,dJ⟩:=aH.f4 ja gy gz gA
 have hf:=aH.f1 gB
 have dK:=aH.g 1 21
 have⟨cV,cW,cX⟩:=nw3 bZ dC dD dE
 refine ep _ _ ?_
 rcases bc (strEq o ⟨#[45]⟩) with aa|aa
 have er:=hB dK aa
 refine wt er<| wk fun kk es=>?_
 refine wp_g0 [true,true,true,true,true,true,true,true,false,false] [(8,false),(9,true)] 60
  [ve (.agg #[.bool a,sv Aa ma ca]),ve (.agg #[.bool b,sv Ab mb cb]),(fun (v_:Value) (W:World)=>∃ (aU:Option Addr) (aV:Nat),v_=.tuple #[.agg #[.bool (decide ((capI (goodI a ma - goodI b mb)) < 0)),sv aU (canon ((capI (goodI a ma - goodI b mb))).natAbs) aV],.bool (okI (goodI a ma - goodI b mb))]∧SRow W .u32 aU (canon ((capI (goodI a ma - goodI b mb))).natAbs) aV),(fun (v_:Value) (W:World)=>∃ (bQ:Option Addr) (bR:Nat),v_=.agg #[.bool (decide ((capI (goodI a ma - goodI b mb)) < 0)),sv bQ (canon ((capI (goodI a ma - goodI b mb))).natAbs) bR]∧SRow W .u32 bQ (canon ((capI (goodI a ma - goodI b mb))).natAbs) bR),ve (.bool (okI (goodI a ma - goodI b mb))),(TP (biggedV (decide ((capI (goodI a ma - goodI b mb)) < 0)) (canon ((capI (goodI a ma - goodI b mb))).natAbs) (okI (goodI a ma - goodI b mb))).1 ((biggedV (decide ((capI (goodI a ma - goodI b mb)) < 0)) (canon ((capI (goodI a ma - goodI b mb))).natAbs) (okI (goodI a ma - goodI b mb))).2)),(fun (v_:Value) (W:World)=>∃ (bS:Option Addr) (bT:Nat) (bU:Option Addr) (bV:Nat),v_=vv (biggedV (decide ((capI (goodI a ma - goodI b mb)) < 0)) (canon ((capI (goodI a ma - goodI b mb))).natAbs) (okI (goodI a ma - goodI b mb))).1 bS bT bU bV∧SRow W .u32 bS ((biggedV (decide ((capI (goodI a ma - goodI b mb)) < 0)) (canon ((capI (goodI a ma - goodI b mb))).natAbs) (okI (goodI a ma - goodI b mb))).1.mag) bT∧SRow W .u16 bU ((biggedV (decide ((capI (goodI a ma - goodI b mb)) < 0)) (canon ((capI (goodI a ma - goodI b mb))).natAbs) (okI (goodI a ma - goodI b mb))).1.s) bV),ve (iv ((biggedV (decide ((capI (goodI a ma - goodI b mb)) < 0)) (canon ((capI (goodI a ma - goodI b mb))).natAbs) (okI (goodI a ma - goodI b mb))).2)),vt,vt] bx (.eq (.eq (.cons (fun _ _ _ n ⟨_,_,e,h⟩=>⟨_,_,e,h.new_ n⟩) (.cons (fun _ _ _ n ⟨_,_,e,h⟩=>⟨_,_,e,h.new_ n⟩) (.eq (.cons (fun _ _ _ n ⟨_,_,_,_,e,h,i⟩=>⟨_,_,_,_,e,h.new_ n,i.new_ n⟩) (.cons (fun _ _ _ n ⟨_,_,_,_,e,h,i⟩=>⟨_,_,_,_,e,h.new_ n,i.new_ n⟩) (.eq (.tt (.tt .nil)))))))))) ?_ ?_
 refine .L6 dH cV<| .L6 dI cW ?_
 refine .o1 (tkC rfl (noG rfl) rfl fun _ w hn k=>(by
  refine ⟨#[.agg #[.bool a,sv Aa ma ca],.agg #[.bool b,sv Ab mb cb]],_,args2 (k.eq1 0 23 rfl) (k.eq1 1 24 rfl),fun w=>by kernel_rfl,bSub_c a _ ma _ b _ mb _ _ (hra.new_ (bz.transNew hn)) (hrb.new_ (bz.transNew hn)) ha hb,?_⟩
  rintro e w' ⟨ju,jv,rfl,hmo0,hm⟩
  exact⟨_,rfl,hm,⟨ju,jv,rfl,hmo0⟩⟩)) ?_
 refine .o1 (tk rfl rfl fun _ w hn k=>(by
  obtain⟨jw,jx,jy,hg⟩:=k.G 2 25
  exact⟨_,v_extract rfl jy rfl,⟨jw,jx,rfl,hg⟩⟩)) ?_
 refine .o1 (tk rfl rfl fun _ w hn k=>(by
  obtain⟨lO,lP,jz,kl⟩:=k.G 2 25
  exact⟨_,v_extract rfl jz rfl,rfl⟩)) ?_
 refine .o1 (tkC rfl (noG rfl) rfl fun _ w hn k=>(by
  obtain⟨jA,jB,jC,hh⟩:=k.G 3 26
  refine ⟨#[.agg #[.bool (decide ((capI (goodI a ma - goodI b mb)) < 0)),sv jA (canon ((capI (goodI a ma - goodI b mb))).natAbs) jB],.bool (okI (goodI a ma - goodI b mb))],_,args2 jC (k.eq1 4 27 rfl),fun w=>by kernel_rfl,bigged_c (decide ((capI (goodI a ma - goodI b mb)) < 0)) _ (canon ((capI (goodI a ma - goodI b mb))).natAbs) _ (okI (goodI a ma - goodI b mb)) _ hh,?_⟩
  rintro e w' ⟨jD,jE,bs,jF,rfl,hmo0,hmo1,hm⟩
  exact⟨_,rfl,hm,⟨jD,jE,bs,jF,rfl,hmo0,hmo1⟩⟩)) ?_
 refine .o1 (tk rfl rfl fun _ w hn k=>(by
  obtain⟨jG,jH,jI,jJ,jK,hi,hj⟩:=k.G 5 28
  exact⟨_,v_extract rfl jK rfl,⟨jG,jH,jI,jJ,rfl,hi,hj⟩⟩)) ?_
 refine .o1 (tk rfl rfl fun _ w hn k=>(by
  obtain⟨lQ,lR,lS,lT,jL,km,kn⟩:=k.G 5 28
  exact⟨_,v_extract rfl jL rfl,rfl⟩)) ?_
 exact .off<| .off .nil
 refine aftI bx cU bz fun cF ko cY et eu ev b0=>?_
 have dL:=b0.f1 dJ
 obtain⟨a5,ax,ay,az,b1,ew,ex⟩:=b0.G 6 29
 have b1:cF.eval (.tmp 29)=vv (biggedV (decide ((capI (goodI a ma - goodI b mb)) < 0)) (canon ((capI (goodI a ma - goodI b mb))).natAbs) (okI (goodI a ma - goodI b mb))).1 a5 ax ay az:=b1
 have dM:=b0.g 7 30
 have b2:=cX.new_ ev
 refine sS9 dL b1 b2 fun hl ey b3 jM=>?_
 have eA:=ew.fr b2 b3
 have eB:=ex.fr b2 b3
 have eC:=eu.tR b3
 refine sP dM cY et fun ho jN eD aA hs=>?_
 have⟨hr,kq,kr⟩:=aA.q3 dL b1 dM
 refine es _ _ ?_
 refine wp_ret (ret_k eD (v:=.tuple #[vv (biggedV (decide ((capI (goodI a ma - goodI b mb)) < 0)) (canon ((capI (goodI a ma - goodI b mb))).natAbs) (okI (goodI a ma - goodI b mb))).1 a5 ax ay az,iv ((biggedV (decide ((capI (goodI a ma - goodI b mb)) < 0)) (canon ((capI (goodI a ma - goodI b mb))).natAbs) (okI (goodI a ma - goodI b mb))).2)]) (res_ct rfl hr hs (l_agg isAgg29 sizeOf29 ey rfl)) ?_)
 have af:(bigsG o (goodI a ma) (goodI b mb)).1.mag=(biggedV (decide ((capI (goodI a ma - goodI b mb)) < 0)) (canon ((capI (goodI a ma - goodI b mb))).natAbs) (okI (goodI a ma - goodI b mb))).1.mag:=by first|rfl|(simp only [bigsG,divE,ab,aa,bsm] <;> rfl)|(exfalso; omega)
 have ag:(bigsG o (goodI a ma) (goodI b mb)).1.s=(biggedV (decide ((capI (goodI a ma - goodI b mb)) < 0)) (canon ((capI (goodI a ma - goodI b mb))).natAbs) (okI (goodI a ma - goodI b mb))).1.s:=by first|rfl|(simp only [bigsG,divE,ab,aa,bsm] <;> rfl)|(exfalso; omega)
 exact⟨a5,ax,ay,az,(by show Ending.returned (.tuple #[vv (biggedV (decide ((capI (goodI a ma - goodI b mb)) < 0)) (canon ((capI (goodI a ma - goodI b mb))).natAbs) (okI (goodI a ma - goodI b mb))).1 a5 ax ay az,iv ((biggedV (decide ((capI (goodI a ma - goodI b mb)) < 0)) (canon ((capI (goodI a ma - goodI b mb))).natAbs) (okI (goodI a ma - goodI b mb))).2)])=Ending.returned (.tuple #[vv (bigsG o (goodI a ma) (goodI b mb)).1 a5 ax ay az,iv ((bigsG o (goodI a ma) (goodI b mb)).2)]); (first|rfl|(simp only [bigsG,divE,ab,aa,af,ag,bsm] <;> rfl)|(exfalso; omega))),(by rw [af]; exact eA),(by rw [ag]; exact eB),eC⟩
 have eE:=hB dK aa
 refine wf eE<| wk fun ks eF=>?_
 refine wA tr2 [] 60 [ve (.bool (strEq o ⟨#[42]⟩)),ve (.bool (strEq o ⟨#[42]⟩))] bx ?_ ?_
 exact .H hf (r_eqlS rfl)<| .B 0 .nil
 refine aftI bx cU bz fun kt ht bA cZ aB b4 bt=>?_
 have⟨hu,cG,cH,dP⟩:=bt.f4 hd dH dI dJ
 have dQ:=bt.g 1 31
 have⟨bB,bC,b5⟩:=nw3 b4 cV cW cX
 refine eF _ _ ?_
 rcases bc (strEq o ⟨#[42]⟩) with ac|ac
 have eG:=hB dQ ac
 refine wt eG<| wk fun ku eH=>?_
 refine wp_g0 [true,true,true,true,true,true,true,true,false,false] [(8,false),(9,true)] 60
  [ve (.agg #[.bool a,sv Aa ma ca]),ve (.agg #[.bool b,sv Ab mb cb]),(fun (v_:Value) (W:World)=>∃ (am:Option Addr) (an:Nat),v_=.tuple #[.agg #[.bool (decide ((capI (goodI a ma * goodI b mb)) < 0)),sv am (canon ((capI (goodI a ma * goodI b mb))).natAbs) an],.bool (okI (goodI a ma * goodI b mb))]∧SRow W .u32 am (canon ((capI (goodI a ma * goodI b mb))).natAbs) an),(fun (v_:Value) (W:World)=>∃ (a6:Option Addr) (a7:Nat),v_=.agg #[.bool (decide ((capI (goodI a ma * goodI b mb)) < 0)),sv a6 (canon ((capI (goodI a ma * goodI b mb))).natAbs) a7]∧SRow W .u32 a6 (canon ((capI (goodI a ma * goodI b mb))).natAbs) a7),ve (.bool (okI (goodI a ma * goodI b mb))),(TP (biggedV (decide ((capI (goodI a ma * goodI b mb)) < 0)) (canon ((capI (goodI a ma * goodI b mb))).natAbs) (okI (goodI a ma * goodI b mb))).1 ((biggedV (decide ((capI (goodI a ma * goodI b mb)) < 0)) (canon ((capI (goodI a ma * goodI b mb))).natAbs) (okI (goodI a ma * goodI b mb))).2)),(fun (v_:Value) (W:World)=>∃ (a8:Option Addr) (a9:Nat) (ba:Option Addr) (bb:Nat),v_=vv (biggedV (decide ((capI (goodI a ma * goodI b mb)) < 0)) (canon ((capI (goodI a ma * goodI b mb))).natAbs) (okI (goodI a ma * goodI b mb))).1 a8 a9 ba bb∧SRow W .u32 a8 ((biggedV (decide ((capI (goodI a ma * goodI b mb)) < 0)) (canon ((capI (goodI a ma * goodI b mb))).natAbs) (okI (goodI a ma * goodI b mb))).1.mag) a9∧SRow W .u16 ba ((biggedV (decide ((capI (goodI a ma * goodI b mb)) < 0)) (canon ((capI (goodI a ma * goodI b mb))).natAbs) (okI (goodI a ma * goodI b mb))).1.s) bb),ve (iv ((biggedV (decide ((capI (goodI a ma * goodI b mb)) < 0)) (canon ((capI (goodI a ma * goodI b mb))).natAbs) (okI (goodI a ma * goodI b mb))).2)),vt,vt] bA (.eq (.eq (.cons (fun _ _ _ n ⟨_,_,e,h⟩=>⟨_,_,e,h.new_ n⟩) (.cons (fun _ _ _ n ⟨_,_,e,h⟩=>⟨_,_,e,h.new_ n⟩) (.eq (.cons (fun _ _ _ n ⟨_,_,_,_,e,h,i⟩=>⟨_,_,_,_,e,h.new_ n,i.new_ n⟩) (.cons (fun _ _ _ n ⟨_,_,_,_,e,h,i⟩=>⟨_,_,_,_,e,h.new_ n,i.new_ n⟩) (.eq (.tt (.tt .nil)))))))))) ?_ ?_
 refine .L6 cG bB<| .L6 cH bC ?_
 refine .o1 (tkC rfl (noG rfl) rfl fun _ w hn k=>(by
  refine ⟨#[.agg #[.bool a,sv Aa ma ca],.agg #[.bool b,sv Ab mb cb]],_,args2 (k.eq1 0 33 rfl) (k.eq1 1 34 rfl),fun w=>by kernel_rfl,bMul_c a _ ma _ b _ mb _ _ (hra.new_ (aB.transNew hn)) (hrb.new_ (aB.transNew hn)) ha hb,?_⟩
  rintro e w' ⟨hv,hw,rfl,hmo0,hm⟩
  exact⟨_,rfl,hm,⟨hv,hw,rfl,hmo0⟩⟩)) ?_
 refine .o1 (tk rfl rfl fun _ w hn k=>(by
  obtain⟨hx,hy,hz,eI⟩:=k.G 2 35
  exact⟨_,v_extract rfl hz rfl,⟨hx,hy,rfl,eI⟩⟩)) ?_
 refine .o1 (tk rfl rfl fun _ w hn k=>(by
  obtain⟨kv,kw,hA,jO⟩:=k.G 2 35
  exact⟨_,v_extract rfl hA rfl,rfl⟩)) ?_
 refine .o1 (tkC rfl (noG rfl) rfl fun _ w hn k=>(by
  obtain⟨hC,hD,hE,eJ⟩:=k.G 3 36
  refine ⟨#[.agg #[.bool (decide ((capI (goodI a ma * goodI b mb)) < 0)),sv hC (canon ((capI (goodI a ma * goodI b mb))).natAbs) hD],.bool (okI (goodI a ma * goodI b mb))],_,args2 hE (k.eq1 4 37 rfl),fun w=>by kernel_rfl,bigged_c (decide ((capI (goodI a ma * goodI b mb)) < 0)) _ (canon ((capI (goodI a ma * goodI b mb))).natAbs) _ (okI (goodI a ma * goodI b mb)) _ eJ,?_⟩
  rintro e w' ⟨hF,hG,hH,hI,rfl,hmo0,hmo1,hm⟩
  exact⟨_,rfl,hm,⟨hF,hG,hH,hI,rfl,hmo0,hmo1⟩⟩)) ?_
 refine .o1 (tk rfl rfl fun _ w hn k=>(by
  obtain⟨hJ,hK,ay,hL,hM,eK,eL⟩:=k.G 5 38
  exact⟨_,v_extract rfl hM rfl,⟨hJ,hK,ay,hL,rfl,eK,eL⟩⟩)) ?_
 refine .o1 (tk rfl rfl fun _ w hn k=>(by
  obtain⟨kx,ky,kz,kA,hN,jP,jQ⟩:=k.G 5 38
  exact⟨_,v_extract rfl hN rfl,rfl⟩)) ?_
 exact .off<| .off .nil
 refine aftI bA cZ aB fun cI kB c0 eM eN eO b6=>?_
 have dR:=b6.f1 dP
 obtain⟨bd,aC,ae,aD,b7,eP,eQ⟩:=b6.G 6 39
 have b7:cI.eval (.tmp 39)=vv (biggedV (decide ((capI (goodI a ma * goodI b mb)) < 0)) (canon ((capI (goodI a ma * goodI b mb))).natAbs) (okI (goodI a ma * goodI b mb))).1 bd aC ae aD:=b7
 have dS:=b6.g 7 40
 have b8:=b5.new_ eO
 refine sS9 dR b7 b8 fun hO eR b9 jR=>?_
 have eT:=eP.fr b8 b9
 have eU:=eQ.fr b8 b9
 have eV:=eN.tR b9
 refine sP dS c0 eM fun hP jS eW aE hR=>?_
 have⟨hQ,kD,kE⟩:=aE.q3 dR b7 dS
 refine eH _ _ ?_
 refine wp_ret (ret_k eW (v:=.tuple #[vv (biggedV (decide ((capI (goodI a ma * goodI b mb)) < 0)) (canon ((capI (goodI a ma * goodI b mb))).natAbs) (okI (goodI a ma * goodI b mb))).1 bd aC ae aD,iv ((biggedV (decide ((capI (goodI a ma * goodI b mb)) < 0)) (canon ((capI (goodI a ma * goodI b mb))).natAbs) (okI (goodI a ma * goodI b mb))).2)]) (res_ct rfl hQ hR (l_agg isAgg29 sizeOf29 eR rfl)) ?_)
 have af:(bigsG o (goodI a ma) (goodI b mb)).1.mag=(biggedV (decide ((capI (goodI a ma * goodI b mb)) < 0)) (canon ((capI (goodI a ma * goodI b mb))).natAbs) (okI (goodI a ma * goodI b mb))).1.mag:=by first|rfl|(simp only [bigsG,divE,ab,aa,ac,bsm] <;> rfl)|(exfalso; omega)
 have ag:(bigsG o (goodI a ma) (goodI b mb)).1.s=(biggedV (decide ((capI (goodI a ma * goodI b mb)) < 0)) (canon ((capI (goodI a ma * goodI b mb))).natAbs) (okI (goodI a ma * goodI b mb))).1.s:=by first|rfl|(simp only [bigsG,divE,ab,aa,ac,bsm] <;> rfl)|(exfalso; omega)
 exact⟨bd,aC,ae,aD,(by show Ending.returned (.tuple #[vv (biggedV (decide ((capI (goodI a ma * goodI b mb)) < 0)) (canon ((capI (goodI a ma * goodI b mb))).natAbs) (okI (goodI a ma * goodI b mb))).1 bd aC ae aD,iv ((biggedV (decide ((capI (goodI a ma * goodI b mb)) < 0)) (canon ((capI (goodI a ma * goodI b mb))).natAbs) (okI (goodI a ma * goodI b mb))).2)])=Ending.returned (.tuple #[vv (bigsG o (goodI a ma) (goodI b mb)).1 bd aC ae aD,iv ((bigsG o (goodI a ma) (goodI b mb)).2)]); (first|rfl|(simp only [bigsG,divE,ab,aa,ac,af,ag,bsm] <;> rfl)|(exfalso; omega))),(by rw [af]; exact eT),(by rw [ag]; exact eU),eV⟩
 have eX:=hB dQ ac
 refine wf eX<| ws ?_
 refine gM _ _ ?_
 refine wk fun kF eY=>?_
 refine wp_gS (fun W=>True) (fun W W' hn h=>trivial) trivial [true,true,true,true,true,true,true,false,false] [5] [(7,false),(8,true)] 60
  [ve (.agg #[.bool a,sv Aa ma ca]),ve (.agg #[.bool b,sv Ab mb cb]),(fun (v_:Value) (W:World)=>∃ (be:Option Addr) (bf:Nat),v_=.tuple #[.agg #[.bool (decide ((divZ (goodI a ma) (goodI b mb)) < 0)),sv be (canon ((divZ (goodI a ma) (goodI b mb))).natAbs) bf],iv (zeroE (goodI b mb))]∧SRow W .u32 be (canon ((divZ (goodI a ma) (goodI b mb))).natAbs) bf),(fun (v_:Value) (W:World)=>∃ (au:Option Addr) (av:Nat),v_=.tuple #[.agg #[.bool (decide ((divZ (goodI a ma) (goodI b mb)) < 0)),sv au (canon ((divZ (goodI a ma) (goodI b mb))).natAbs) av],iv (zeroE (goodI b mb))]∧SRow W .u32 au (canon ((divZ (goodI a ma) (goodI b mb))).natAbs) av),(fun (v_:Value) (W:World)=>∃ (bg:Option Addr) (bh:Nat),v_=.agg #[.bool (decide ((divZ (goodI a ma) (goodI b mb)) < 0)),sv bg (canon ((divZ (goodI a ma) (goodI b mb))).natAbs) bh]∧SRow W .u32 bg (canon ((divZ (goodI a ma) (goodI b mb))).natAbs) bh),ve (iv (zeroE (goodI b mb))),IsNew ht 26 [.bool false,sv none ([]) 0],vt,vt]
  [6] (newsCons (fun v w h=>IsNew.old h) newsNil) bA (.eq (.eq (.cons (fun _ _ _ n ⟨_,_,e,h⟩=>⟨_,_,e,h.new_ n⟩) (.cons (fun _ _ _ n ⟨_,_,e,h⟩=>⟨_,_,e,h.new_ n⟩) (.cons (fun _ _ _ n ⟨_,_,e,h⟩=>⟨_,_,e,h.new_ n⟩) (.eq (.nw (.tt (.tt .nil))))))))) ?_ ?_ ?_
 refine .L6 cG bB<| .L6 cH bC ?_
 refine .o1 (tkC rfl (noG rfl) rfl fun _ w hn k=>(by
  refine ⟨#[.agg #[.bool a,sv Aa ma ca],.agg #[.bool b,sv Ab mb cb]],_,args2 (k.eq1 0 42 rfl) (k.eq1 1 43 rfl),fun w=>by kernel_rfl,bDiv_c a _ ma _ b _ mb _ _ (hra.new_ (aB.transNew hn)) (hrb.new_ (aB.transNew hn)) ha hb,?_⟩
  rintro e w' ⟨hT,hU,rfl,hmo0,hm⟩
  exact⟨_,rfl,hm,⟨hT,hU,rfl,hmo0⟩⟩)) ?_
 refine .o1 (tk rfl rfl fun _ w hn k=>(by
  obtain⟨hV,hW,hX,eZ⟩:=k.G 2 44
  exact⟨_,v_move rfl hX,⟨hV,hW,rfl,eZ⟩⟩)) ?_
 refine .o1 (tk rfl rfl fun _ w hn k=>(by
  obtain⟨hY,hZ,h3,e0⟩:=k.G 3 41
  exact⟨_,v_extract rfl h3 rfl,⟨hY,hZ,rfl,e0⟩⟩)) ?_
 refine .o3 ?_
 exact .Y<| .off<| .off .nil
 refine eg1 ?_
 exact eager_takeG rfl (noG rfl) fun _ w hn k=>(by
  obtain⟨kG,kH,h4,jT⟩:=k.G 3 41
  exact⟨_,fun w hS=>v_extract rfl h4 rfl,rfl⟩)
 intro cJ kI _ bD ak
 obtain⟨c1,e1,e2⟩:=aft ak bA cZ aB bD
 have⟨h5,h6,h7,ia⟩:=ak.f4 hu cG cH dP
 obtain⟨cc,bE,cd,e3⟩:=ak.G 4 45
 have cd:cJ.eval (.tmp 45)=.agg #[.bool (decide ((divZ (goodI a ma) (goodI b mb)) < 0)),sv cc (canon ((divZ (goodI a ma) (goodI b mb))).natAbs) bE]:=cd
 have dV:=ak.g 5 46
 obtain⟨cK,dW,bF,c3⟩:=ak.G 6 8
 have⟨e4,e5,e6⟩:=nw3 bD bB bC b5
 have hne234:gu ≠ cK:=by have h1:=bB.lt; have h2:=bF; omega
 have hne235:gv ≠ cK:=by have h1:=bC.lt; have h2:=bF; omega
 have hne236:aP ≠ cK:=by have h1:=b5.lt; have h2:=bF; omega
 have jU:=Nat.le_trans aB.size bF
 refine sS6 dW cd c3 fun kJ e8 c5 ce=>?_
 have fa:=e3.fr c3 c5
 have fb:=ce hne234 e4
 have fc:=ce hne235 e5
 have fd:=ce hne236 e6
 have fe:=e2.tR c5
 refine sP dV c1 e1 fun ib c8 ff ah ii=>?_
 have⟨ic,id,ie⟩:=ah.q3 h5 h6 h7
 have⟨ig,kL,kM⟩:=ah.q3 ia cd dV
 have ih:=ah.q dW
 refine eY _ _ <| wk fun kN c9=>?_
 refine wk fun kO fg=>?_
 refine wA tr2 [] 60 [ve (.string o),ve (.bool (strEq o ⟨#[37]⟩))] c8 ?_ ?_
 exact .M ic<| .b 0 (r_eqlS rfl) .nil
 refine aftI c8 ff fe fun kP kQ aI cf bu bv aJ=>?_
 have⟨ij,ik,cL,cM⟩:=aJ.f4 id ie ig ih
 have cN:=aJ.f1 ii
 have dY:=aJ.g 1 48
 have⟨fh,fi,ch,ci⟩:=nw4 bv fb fc fd e8
 have cj:=fa.new_ bv
 refine fg _ _ ?_
 rcases bc (strEq o ⟨#[37]⟩) with ad|ad
 have fj:=hB dY ad
 refine wt fj<| wp_gS (fun W=>True) (fun W W' hn h=>trivial) trivial [true,true,true,true,true,true,false,false] [5] [(6,false),(7,true)] 60
  [ve (.agg #[.bool a,sv Aa ma ca]),ve (.agg #[.bool b,sv Ab mb cb]),(fun (v_:Value) (W:World)=>∃ (bi:Option Addr) (bj:Nat),v_=.tuple #[.agg #[.bool (decide ((remZ (goodI a ma) (goodI b mb)) < 0)),sv bi (canon ((remZ (goodI a ma) (goodI b mb))).natAbs) bj],iv (zeroE (goodI b mb))]∧SRow W .u32 bi (canon ((remZ (goodI a ma) (goodI b mb))).natAbs) bj),(fun (v_:Value) (W:World)=>∃ (ae:Option Addr) (aw:Nat),v_=.tuple #[.agg #[.bool (decide ((remZ (goodI a ma) (goodI b mb)) < 0)),sv ae (canon ((remZ (goodI a ma) (goodI b mb))).natAbs) aw],iv (zeroE (goodI b mb))]∧SRow W .u32 ae (canon ((remZ (goodI a ma) (goodI b mb))).natAbs) aw),(fun (v_:Value) (W:World)=>∃ (bk:Option Addr) (bl:Nat),v_=.agg #[.bool (decide ((remZ (goodI a ma) (goodI b mb)) < 0)),sv bk (canon ((remZ (goodI a ma) (goodI b mb))).natAbs) bl]∧SRow W .u32 bk (canon ((remZ (goodI a ma) (goodI b mb))).natAbs) bl),ve (iv (zeroE (goodI b mb))),vt,vt]
  [] newsNil aI (.eq (.eq (.cons (fun _ _ _ n ⟨_,_,e,h⟩=>⟨_,_,e,h.new_ n⟩) (.cons (fun _ _ _ n ⟨_,_,e,h⟩=>⟨_,_,e,h.new_ n⟩) (.cons (fun _ _ _ n ⟨_,_,e,h⟩=>⟨_,_,e,h.new_ n⟩) (.eq (.tt (.tt .nil)))))))) ?_ ?_ ?_
 refine .L6 ij fh<| .L6 ik fi ?_
 refine .o1 (tkC rfl (noG rfl) rfl fun _ w hn k=>(by
  refine ⟨#[.agg #[.bool a,sv Aa ma ca],.agg #[.bool b,sv Ab mb cb]],_,args2 (k.eq1 0 50 rfl) (k.eq1 1 51 rfl),fun w=>by kernel_rfl,bRem_c a _ ma _ b _ mb _ _ (hra.new_ (bu.transNew hn)) (hrb.new_ (bu.transNew hn)) ha hb,?_⟩
  rintro e w' ⟨il,im,rfl,hmo0,hm⟩
  exact⟨_,rfl,hm,⟨il,im,rfl,hmo0⟩⟩)) ?_
 refine .o1 (tk rfl rfl fun _ w hn k=>(by
  obtain⟨io,ip,iq,fk⟩:=k.G 2 52
  exact⟨_,v_move rfl iq,⟨io,ip,rfl,fk⟩⟩)) ?_
 refine .o1 (tk rfl rfl fun _ w hn k=>(by
  obtain⟨ir,it,iu,fl⟩:=k.G 3 49
  exact⟨_,v_extract rfl iu rfl,⟨ir,it,rfl,fl⟩⟩)) ?_
 refine .o3 ?_
 exact .off<| .off .nil
 refine eg1 ?_
 exact eager_takeG rfl (noG rfl) fun _ w hn k=>(by
  obtain⟨kR,kS,iw,jV⟩:=k.G 3 49
  exact⟨_,fun w hS=>v_extract rfl iw rfl,rfl⟩)
 intro cO kT _ bG aK
 obtain⟨da,fm,fn⟩:=aft aK aI cf bu bG
 have⟨ix,dZ,kU⟩:=aK.f3 cL cM cN
 obtain⟨cl,bH,cm,fo⟩:=aK.G 4 53
 have cm:cO.eval (.tmp 53)=.agg #[.bool (decide ((remZ (goodI a ma) (goodI b mb)) < 0)),sv cl (canon ((remZ (goodI a ma) (goodI b mb))).natAbs) bH]:=cm
 have d0:=aK.g 5 54
 have⟨fp,cn,fq⟩:=nw3 bG ch ci cj
 refine sS6 dZ cm cn fun kV db co fs=>?_
 have jW:=fq.fr cn co
 have dc:=fo.fr cn co
 have dd:=fs hne236 fp
 have de:=fn.tR co
 refine sP d0 da fm fun iy bI df al d4=>?_
 have⟨d2,d3,kX⟩:=al.q3 ix dZ cm
 have kY:=al.q d0
 refine c9 _ _ <| wk fun kZ fu=>?_
 refine wk fun k0 dg=>?_
 rcases bc (decide ((zeroE (goodI b mb))=0)) with ai|ai
 have d5:=oT ai
 refine wA tr2 [] 60 [ve (iv (zeroE (goodI b mb))),vF] bI ?_ ?_
 exact .M d4<| .b 0 (r_neq ai) .nil
 refine aftI bI df de fun k1 k2 dh fv fw cp cq=>?_
 have⟨iz,iA⟩:=cq.f2 d2 d3
 have iB:=cq.g 1 56
 have⟨fy,fz,fA⟩:=nw3 cp dd db dc
 refine dg _ _ ?_
 refine wf iB<| ws ?_
 refine fu _ _ ?_
 refine wk fun k3 fB=>?_
 refine wp_g0 [true,true,false,false] [(2,false),(3,true)] 60
  [ve (.agg #[.bool (decide ((remZ (goodI a ma) (goodI b mb)) < 0)),sv cl (canon ((remZ (goodI a ma) (goodI b mb))).natAbs) bH]),(fun (v_:Value) (W:World)=>∃ (bm:Option Addr) (bn:Nat),v_=vv (Vl.mk 4 0 0 (decide ((remZ (goodI a ma) (goodI b mb)) < 0)) (canon ((remZ (goodI a ma) (goodI b mb))).natAbs) [] 0) bm bn none 0∧SRow W .u32 bm (canon ((remZ (goodI a ma) (goodI b mb))).natAbs) bn),vt,vt] dh (.eq (.cons (fun _ _ _ n ⟨_,_,e,h⟩=>⟨_,_,e,h.new_ n⟩) (.tt (.tt .nil)))) ?_ ?_
 refine .L6 iA fz ?_
 refine .o1 (tkC rfl (noG rfl) rfl fun _ w hn k=>(by
  refine ⟨#[.agg #[.bool (decide ((remZ (goodI a ma) (goodI b mb)) < 0)),sv cl (canon ((remZ (goodI a ma) (goodI b mb))).natAbs) bH]],_,args1 (k.eq1 0 58 rfl),fun w=>by kernel_rfl,cbig_c (decide ((remZ (goodI a ma) (goodI b mb)) < 0)) _ (canon ((remZ (goodI a ma) (goodI b mb))).natAbs) _ _ (fA.new_ hn),?_⟩
  rintro e w' ⟨iC,iD,rfl,hmo0,hm⟩
  exact⟨_,rfl,hm,⟨iC,iD,rfl,hmo0⟩⟩)) ?_
 exact .off<| .off .nil
 refine aftI dh fv fw fun cP k4 di fC fD fE dj=>?_
 have d6:=dj.f1 iz
 obtain⟨bo,aF,cr,fF⟩:=dj.G 1 59
 have cr:cP.eval (.tmp 59)=vv (Vl.mk 4 0 0 (decide ((remZ (goodI a ma) (goodI b mb)) < 0)) (canon ((remZ (goodI a ma) (goodI b mb))).natAbs) [] 0) bo aF none 0:=cr
 have dk:=fy.new_ fE
 refine sS9 d6 cr dk fun iE fG dl jX=>?_
 have fI:=fF.fr dk dl
 have fJ:=fD.tR dl
 refine sP (v:=iv 0) rfl di fC fun iF jY fK aL iH=>?_
 have⟨iG,k6⟩:=aL.q2 d6 cr
 refine fB _ _ ?_
 refine wp_ret (ret_k fK (v:=.tuple #[vv (Vl.mk 4 0 0 (decide ((remZ (goodI a ma) (goodI b mb)) < 0)) (canon ((remZ (goodI a ma) (goodI b mb))).natAbs) [] 0) bo aF none 0,iv 0]) (res_ct rfl iG iH (l_agg isAgg29 sizeOf29 fG rfl)) ?_)
 have af:(bigsG o (goodI a ma) (goodI b mb)).1.mag=(canon ((remZ (goodI a ma) (goodI b mb))).natAbs):=by first|rfl|(simp only [bigsG,divE,ab,aa,ac,ad,ai,bsm] <;> rfl)|(exfalso; omega)
 have ag:(bigsG o (goodI a ma) (goodI b mb)).1.s=[]:=by first|rfl|(simp only [bigsG,divE,ab,aa,ac,ad,ai,bsm] <;> rfl)|(exfalso; omega)
 exact⟨bo,aF,none,0,(by show Ending.returned (.tuple #[vv (Vl.mk 4 0 0 (decide ((remZ (goodI a ma) (goodI b mb)) < 0)) (canon ((remZ (goodI a ma) (goodI b mb))).natAbs) [] 0) bo aF none 0,iv 0])=Ending.returned (.tuple #[vv (bigsG o (goodI a ma) (goodI b mb)).1 bo aF none 0,iv ((bigsG o (goodI a ma) (goodI b mb)).2)]); (first|rfl|(simp only [bigsG,divE,ab,aa,ac,ad,ai,af,ag,bsm] <;> rfl)|(exfalso; omega))),(by rw [af]; exact fI),(by rw [ag]; exact (SRow.nil _ _)),fJ⟩
 have d5:=oF ai
 refine wA tr2 [] 60 [ve (iv (zeroE (goodI b mb))),vT] bI ?_ ?_
 exact .M d4<| .b 0 (r_neq ai) .nil
 refine aftI bI df de fun k7 k8 dm fL fM ct cu=>?_
 have⟨iI,k9⟩:=cu.f2 d2 d3
 have iJ:=cu.g 1 56
 have⟨fN,jZ,j0⟩:=nw3 ct dd db dc
 refine dg _ _ ?_
 refine wt iJ<| wk fun la fO=>?_
 refine wA [true,false,false] [(1,false),(2,true)] 60 [ve (vv (Vl.mk 0 0 0 false [] [] 0) none 0 none 0),vt,vt] dm ?_ ?_
 exact .Z<| .off<| .off .nil
 refine aftI dm fL fM fun d9 lc dn fP fQ fR dp=>?_
 have ea:=dp.f1 iI
 have eb:=dp.g 0 57
 have fS:=fN.new_ fR
 refine sS9 ea eb fS fun iK fU fT j1=>?_
 have fW:=fQ.tR fT
 refine sP (v:=iv 2) rfl dn fP fun iL j2 fX aM iN=>?_
 have⟨iM,le⟩:=aM.q2 ea eb
 refine fO _ _ ?_
 refine wp_ret (ret_k fX (res9 iM iN fU) ?_)
 exact rV (by first|rfl|(simp only [bigsG,divE,ab,aa,ac,ad,ai,bsm] <;> rfl)|(exfalso; omega)) fW
 have fY:=hB dY ad
 refine wf fY<| ws ?_
 refine c9 _ _ ?_
 refine wk fun lf fZ=>wk fun lg dq=>?_
 rcases bc (decide ((zeroE (goodI b mb))=0)) with aj|aj
 have ee:=oT aj
 refine wA tr2 [] 60 [ve (iv (zeroE (goodI b mb))),vF] aI ?_ ?_
 exact .M cN<| .b 0 (r_neq aj) .nil
 refine aftI aI cf bu fun lh li dr f0 f1 cv cw=>?_
 have⟨iO,iP⟩:=cw.f2 cL cM
 have iQ:=cw.g 1 56
 have⟨f2,f3,f4⟩:=nw3 cv ch ci cj
 refine dq _ _ ?_
 refine wf iQ<| ws ?_
 refine fZ _ _ ?_
 refine wk fun lj f5=>?_
 refine wp_g0 [true,true,false,false] [(2,false),(3,true)] 60
  [ve (.agg #[.bool (decide ((divZ (goodI a ma) (goodI b mb)) < 0)),sv cc (canon ((divZ (goodI a ma) (goodI b mb))).natAbs) bE]),(fun (v_:Value) (W:World)=>∃ (bp:Option Addr) (bq:Nat),v_=vv (Vl.mk 4 0 0 (decide ((divZ (goodI a ma) (goodI b mb)) < 0)) (canon ((divZ (goodI a ma) (goodI b mb))).natAbs) [] 0) bp bq none 0∧SRow W .u32 bp (canon ((divZ (goodI a ma) (goodI b mb))).natAbs) bq),vt,vt] dr (.eq (.cons (fun _ _ _ n ⟨_,_,e,h⟩=>⟨_,_,e,h.new_ n⟩) (.tt (.tt .nil)))) ?_ ?_
 refine .L6 iP f3 ?_
 refine .o1 (tkC rfl (noG rfl) rfl fun _ w hn k=>(by
  refine ⟨#[.agg #[.bool (decide ((divZ (goodI a ma) (goodI b mb)) < 0)),sv cc (canon ((divZ (goodI a ma) (goodI b mb))).natAbs) bE]],_,args1 (k.eq1 0 58 rfl),fun w=>by kernel_rfl,cbig_c (decide ((divZ (goodI a ma) (goodI b mb)) < 0)) _ (canon ((divZ (goodI a ma) (goodI b mb))).natAbs) _ _ (f4.new_ hn),?_⟩
  rintro e w' ⟨iR,iS,rfl,hmo0,hm⟩
  exact⟨_,rfl,hm,⟨iR,iS,rfl,hmo0⟩⟩)) ?_
 exact .off<| .off .nil
 refine aftI dr f0 f1 fun cQ lk ds f6 f7 f8 dt=>?_
 have ef:=dt.f1 iO
 obtain⟨br,aG,cx,f9⟩:=dt.G 1 59
 have cx:cQ.eval (.tmp 59)=vv (Vl.mk 4 0 0 (decide ((divZ (goodI a ma) (goodI b mb)) < 0)) (canon ((divZ (goodI a ma) (goodI b mb))).natAbs) [] 0) br aG none 0:=cx
 have du:=f2.new_ f8
 refine sS9 ef cx du fun iT ga dv j3=>?_
 have gc:=f9.fr du dv
 have gd:=f7.tR dv
 refine sP (v:=iv 0) rfl ds f6 fun iU j4 gf aN iW=>?_
 have⟨iV,lm⟩:=aN.q2 ef cx
 refine f5 _ _ ?_
 refine wp_ret (ret_k gf (v:=.tuple #[vv (Vl.mk 4 0 0 (decide ((divZ (goodI a ma) (goodI b mb)) < 0)) (canon ((divZ (goodI a ma) (goodI b mb))).natAbs) [] 0) br aG none 0,iv 0]) (res_ct rfl iV iW (l_agg isAgg29 sizeOf29 ga rfl)) ?_)
 have af:(bigsG o (goodI a ma) (goodI b mb)).1.mag=(canon ((divZ (goodI a ma) (goodI b mb))).natAbs):=by first|rfl|(simp only [bigsG,divE,ab,aa,ac,ad,aj,bsm] <;> rfl)|(exfalso; omega)
 have ag:(bigsG o (goodI a ma) (goodI b mb)).1.s=[]:=by first|rfl|(simp only [bigsG,divE,ab,aa,ac,ad,aj,bsm] <;> rfl)|(exfalso; omega)
 exact⟨br,aG,none,0,(by show Ending.returned (.tuple #[vv (Vl.mk 4 0 0 (decide ((divZ (goodI a ma) (goodI b mb)) < 0)) (canon ((divZ (goodI a ma) (goodI b mb))).natAbs) [] 0) br aG none 0,iv 0])=Ending.returned (.tuple #[vv (bigsG o (goodI a ma) (goodI b mb)).1 br aG none 0,iv ((bigsG o (goodI a ma) (goodI b mb)).2)]); (first|rfl|(simp only [bigsG,divE,ab,aa,ac,ad,aj,af,ag,bsm] <;> rfl)|(exfalso; omega))),(by rw [af]; exact gc),(by rw [ag]; exact (SRow.nil _ _)),gd⟩
 have ee:=oF aj
 refine wA tr2 [] 60 [ve (iv (zeroE (goodI b mb))),vT] aI ?_ ?_
 exact .M cN<| .b 0 (r_neq aj) .nil
 refine aftI aI cf bu fun ln lo dw gg gh cy cz=>?_
 have⟨iX,lp⟩:=cz.f2 cL cM
 have iY:=cz.g 1 56
 have⟨gi,j5,j6⟩:=nw3 cy ch ci cj
 refine dq _ _ ?_
 refine wt iY<| wk fun lq gj=>?_
 refine wA [true,false,false] [(1,false),(2,true)] 60 [ve (vv (Vl.mk 0 0 0 false [] [] 0) none 0 none 0),vt,vt] dw ?_ ?_
 exact .Z<| .off<| .off .nil
 refine aftI dw gg gh fun ei lr dx gk gl gm dy=>?_
 have ej:=dy.f1 iX
 have ek:=dy.g 0 57
 have gn:=gi.new_ gm
 refine sS9 ej ek gn fun iZ gp go j7=>?_
 have gr:=gl.tR go
 refine sP (v:=iv 2) rfl dx gk fun i0 j8 gs aO i2=>?_
 have⟨i1,lu⟩:=aO.q2 ej ek
 refine gj _ _ ?_
 refine wp_ret (ret_k gs (res9 i1 i2 gp) ?_)
 exact rV (by first|rfl|(simp only [bigsG,divE,ab,aa,ac,ad,aj,bsm] <;> rfl)|(exfalso; omega)) gr
def sumsG_c_P (o:ByteArray) (v:Vl) (Av:Option Addr) (cv:Nat) (Bv:Option Addr) (dv:Nat) (u:Vl) (Au:Option Addr) (cu:Nat) (Bu:Option Addr) (du:Nat) (w:World) (en:Ending) (w':World):Prop:=∃ (Ar0:Option Addr) (cr0:Nat) (Ar1:Option Addr) (cr1:Nat),en=.returned (.tuple #[vv (sumsG o v u).1 Ar0 cr0 Ar1 cr1,iv ((sumsG o v u).2)])∧SRow w' .u32 Ar0 ((sumsG o v u).1.mag) cr0∧SRow w' .u16 Ar1 ((sumsG o v u).1.s) cr1∧New w w'
theorem sumsG_c (o:ByteArray) (v:Vl) (Av:Option Addr) (cv:Nat) (Bv:Option Addr) (dv:Nat) (u:Vl) (Au:Option Addr) (cu:Nat) (Bu:Option Addr) (du:Nat) (w:World) (hmv:SRow w .u32 Av v.mag cv) (hsv:SRow w .u16 Bv v.s dv) (hmu:SRow w .u32 Au u.mag cu) (hsu:SRow w .u16 Bu u.s du) (hvv:VOk v) (hvu:VOk u):Calls prog 36 #[.string o,vv v Av cv Bv dv,vv u Au cu Bu du] w (sumsG_c_P o v Av cv Bv dv u Au cu Bu du w):=by
 refine enter_abs func36 rfl fun a0 bV hV hp=>?_
 have bV:a0.tmps.size=92:=bV
 have bW:New w w:=Upd.refl _ _
 have hp0:a0.eval (.tmp 0)=.string o:=hp 0 _ rfl
 have hp1:a0.eval (.tmp 1)=vv v Av cv Bv dv:=hp 1 _ rfl
 have hp2:a0.eval (.tmp 2)=vv u Au cu Bu du:=hp 2 _ rfl
 refine wk fun K1 hW=>?_
 refine wB tr4 [] [] 92 [IsNew w 29 (c7 v Av cv Bv dv),IsNew w 29 (c7 u Au cu Bu du),IsNew w 29 z7,ve (iv 0)] [0,1,2] bV ?_ heN ?_
 exact .X hp1<| .X hp2<| .Y<| .c .nil
 refine aftI bV hV bW fun a2 w3 gq hX aT kl bB=>?_
 have h8:=bB.f1 hp0
 obtain⟨hY,h9,gv,gw⟩:=bB.G 0 4
 obtain⟨hZ,gr,gx,gy⟩:=bB.G 1 5
 obtain⟨aP,cI,gz,bR⟩:=bB.G 2 6
 have hne21:=bB.ne 0 2 4 6 h9 cI
 have hne22:=bB.ne 1 2 5 6 gr cI
 have iZ:=Nat.le_trans bW.size gv
 have i0:=Nat.le_trans bW.size gx
 have i1:=Nat.le_trans bW.size gz
 refine hW _ _ <| wk fun km gA=>?_
 refine wp_gS (fun W=>True) (fun W W' hn h=>trivial) trivial [true,true,true,true,true,true,true,true,true,false,false,false] [5,6] [(9,false),(10,false),(11,true)] 92
  [ve (vv v Av cv Bv dv),ve (vv u Au cu Bu du),(TQ (numericsV v u).1 (numericsV v u).2.1 ((numericsV v u).2.2)),(TQ (numericsV v u).1 (numericsV v u).2.1 ((numericsV v u).2.2)),(fun (v_:Value) (W:World)=>∃ (bm:Option Addr) (bn:Nat) (bo:Option Addr) (bp:Nat),v_=vv (numericsV v u).1 bm bn bo bp∧SRow W .u32 bm ((numericsV v u).1.mag) bn∧SRow W .u16 bo ((numericsV v u).1.s) bp),(fun (v_:Value) (W:World)=>∃ (bq:Option Addr) (br:Nat) (bs:Option Addr) (bt:Nat),v_=vv (numericsV v u).2.1 bq br bs bt∧SRow W .u32 bq ((numericsV v u).2.1.mag) br∧SRow W .u16 bs ((numericsV v u).2.1.s) bt),ve (iv ((numericsV v u).2.2)),IsNew w3 29 z7,IsNew w3 29 z7,vt,vt,vt]
  [7,8] (newsCons (fun v w h=>IsNew.old h) (newsCons (fun v w h=>IsNew.old h) newsNil)) gq (.eq (.eq (.cons (fun _ _ _ n ⟨_,_,_,_,_,_,_,_,e,h,i,j,l⟩=>⟨_,_,_,_,_,_,_,_,e,h.new_ n,i.new_ n,j.new_ n,l.new_ n⟩) (.cons (fun _ _ _ n ⟨_,_,_,_,_,_,_,_,e,h,i,j,l⟩=>⟨_,_,_,_,_,_,_,_,e,h.new_ n,i.new_ n,j.new_ n,l.new_ n⟩) (.cons (fun _ _ _ n ⟨_,_,_,_,e,h,i⟩=>⟨_,_,_,_,e,h.new_ n,i.new_ n⟩) (.cons (fun _ _ _ n ⟨_,_,_,_,e,h,i⟩=>⟨_,_,_,_,e,h.new_ n,i.new_ n⟩) (.eq (.nw (.nw (.tt (.tt (.tt .nil)))))))))))) ?_ ?_ ?_
 refine .L9 h9 gw<| .L9 gr gy ?_
 refine .o1 (tkC rfl (noG rfl) rfl fun _ w hn k=>(by
  refine ⟨#[vv v Av cv Bv dv,vv u Au cu Bu du],_,args2 (k.eq1 0 12 rfl) (k.eq1 1 13 rfl),fun w=>by kernel_rfl,numerics_c v _ _ _ _ u _ _ _ _ _ (hmv.new_ (aT.transNew hn)) (hsv.new_ (aT.transNew hn)) (hmu.new_ (aT.transNew hn)) (hsu.new_ (aT.transNew hn)) hvv hvu,?_⟩
  rintro e w' ⟨A1,c2,A3,c4,A5,c6,A7,c8,rfl,hmo0,hmo1,hmo2,hmo3,hm⟩
  exact⟨_,rfl,hm,⟨A1,c2,A3,c4,A5,c6,A7,c8,rfl,hmo0,hmo1,hmo2,hmo3⟩⟩)) ?_
 refine .o1 (tk rfl rfl fun _ w hn k=>(by
  obtain⟨h4,h5,h6,h7,ia,ib,ic,id,ie,gB,gC,gD,gE⟩:=k.G 2 14
  exact⟨_,v_move rfl ie,⟨h4,h5,h6,h7,ia,ib,ic,id,rfl,gB,gC,gD,gE⟩⟩)) ?_
 refine .o1 (tk rfl rfl fun _ w hn k=>(by
  obtain⟨ig,ih,bP,ii,kn,ko,bC,kp,ij,gF,gG,i2,i3⟩:=k.G 3 11
  exact⟨_,v_extract rfl ij rfl,⟨ig,ih,bP,ii,rfl,gF,gG⟩⟩)) ?_
 refine .o3 ?_
 refine .o3 ?_
 exact .Y<| .Y<| .off<| .off<| .off .nil
 refine eg2 ?_ ?_
 exact eager_takeG rfl (noG rfl) fun _ w hn k=>(by
  obtain⟨kq,kr,ks,kt,ik,il,im,io,ip,i4,i5,gH,gI⟩:=k.G 3 11
  exact⟨_,fun w hS=>v_extract rfl ip rfl,⟨ik,il,im,io,rfl,gH,gI⟩⟩)
 exact eager_takeG rfl (noG rfl) fun _ w hn k=>(by
  obtain⟨ku,kv,kw,kx,ky,kz,kA,kB,iq,i6,i7,i8,i9⟩:=k.G 3 11
  exact⟨_,fun w hS=>v_extract rfl iq rfl,rfl⟩)
 intro bX kC _ cJ ax
 obtain⟨cK,gJ,gK⟩:=aft ax gq hX aT cJ
 have⟨ir,it⟩:=ax.f2 h8 cI
 obtain⟨bQ,bu,bP,bS,bY,gL,gM⟩:=ax.G 4 15
 have bY:bX.eval (.tmp 15)=vv (numericsV v u).1 bQ bu bP bS:=bY
 obtain⟨bC,bv,cL,bT,bZ,gN,gO⟩:=ax.G 5 16
 have bZ:bX.eval (.tmp 16)=vv (numericsV v u).2.1 bC bv cL bT:=bZ
 have gs:=ax.g 6 17
 obtain⟨aS,cM,cN,bw⟩:=ax.G 7 8
 obtain⟨a1,cO,cP,gP⟩:=ax.G 8 9
 have gQ:=bR.new_ cJ
 have hne60:=ax.ne 7 8 8 9 cM cO
 have hne61:aP ≠ aS:=by have h1:=bR.lt; have h2:=cN; omega
 have hne62:aP ≠ a1:=by have h1:=bR.lt; have h2:=cP; omega
 have ja:=Nat.le_trans aT.size cN
 have jb:=Nat.le_trans aT.size cP
 refine sS9 cM bY bw fun iu gR bx cQ=>?_
 have gT:=gL.fr bw bx
 have gU:=gM.fr bw bx
 have gV:=gN.fr bw bx
 have gW:=gO.fr bw bx
 have gX:=cQ hne61 gQ
 have bz:=cQ hne60.symm gP
 have gY:=gK.tR bx
 refine sS9 cO bZ bz fun iw cS bA cR=>?_
 have cT:=gT.fr bz bA
 have cU:=gU.fr bz bA
 have cV:=gV.fr bz bA
 have cW:=gW.fr bz bA
 have cX:=cR hne62 gX
 have cY:=cR hne60 gR
 have cZ:=gY.tR bA
 refine sP gs cK gJ fun ix bD c0 ai bE=>?_
 have⟨gt,gu,jc⟩:=ai.q3 ir it bY
 have⟨jd,je,c1⟩:=ai.q3 bZ gs cM
 have c3:=ai.q cO
 refine gA _ _ <| wk fun jf ek=>?_
 refine wb<| wk fun jg b0=>?_
 rcases bc (decide (((numericsV v u).2.2)=0)) with aa|aa
 have c5:=oT aa
 refine wA tr3 [] 92 [ve (iv ((numericsV v u).2.2)),vF,vF] bD ?_ ?_
 exact .M bE<| .b 0 (r_neq aa)<| .B 1 .nil
 refine aftI bD c0 cZ fun jh ji b1 el em ay aQ=>?_
 have⟨g0,g1,c9,g2⟩:=aQ.f4 gt gu c1 c3
 have jj:=aQ.f1 bE
 have g3:=aQ.g 2 18
 have⟨en,b2,eo,ep⟩:=nw4 ay cX cY cS cT
 have⟨er,es,et⟩:=nw3 ay cU cV cW
 refine b0 _ _ ?_
 refine wf g3<| wk fun jk eu=>?_
 refine wA tr4 [] 92 [ve (pv aS),ve (iv ((numericsV v u).1.k)),ve (.bool (decide (((numericsV v u).1.k)=4))),ve (.bool (decide (((numericsV v u).1.k)=4)))] b1 ?_ ?_
 exact .F c9<| .J 0 isAgg3 b2<| .b 1 (r_eql rfl)<| .B 2 .nil
 refine aftI b1 el em fun jl jm a7 b3 b4 az a3=>?_
 have⟨da,db,dc,dd⟩:=a3.f4 g0 g1 c9 g2
 have de:=a3.g 3 23
 have⟨b5,b6,b7,b8⟩:=nw4 az en b2 eo ep
 have⟨ev,b9,ew⟩:=nw3 az er es et
 refine eu _ _ ?_
 rcases bc (decide (((numericsV v u).1.k)=4)) with ab|ab
 have df:=oT ab
 have ex:=hB de ab
 refine wt ex<| wk fun jn ey=>?_
 refine wp_g0 [true,true,true,true,true,true,true,true,false,false] [(8,false),(9,true)] 92
  [ve (.string o),ve (.pointer (some ⟨aS,3,none⟩)),ve (.agg #[.bool ((numericsV v u).1.neg),sv bQ ((numericsV v u).1.mag) bu]),ve (.pointer (some ⟨a1,3,none⟩)),ve (.agg #[.bool ((numericsV v u).2.1.neg),sv bC ((numericsV v u).2.1.mag) bv]),(TP (bigsG o (goodI ((numericsV v u).1.neg) ((numericsV v u).1.mag)) (goodI ((numericsV v u).2.1.neg) ((numericsV v u).2.1.mag))).1 ((bigsG o (goodI ((numericsV v u).1.neg) ((numericsV v u).1.mag)) (goodI ((numericsV v u).2.1.neg) ((numericsV v u).2.1.mag))).2)),(fun (v_:Value) (W:World)=>∃ (aU:Option Addr) (aV:Nat) (aW:Option Addr) (aX:Nat),v_=vv (bigsG o (goodI ((numericsV v u).1.neg) ((numericsV v u).1.mag)) (goodI ((numericsV v u).2.1.neg) ((numericsV v u).2.1.mag))).1 aU aV aW aX∧SRow W .u32 aU ((bigsG o (goodI ((numericsV v u).1.neg) ((numericsV v u).1.mag)) (goodI ((numericsV v u).2.1.neg) ((numericsV v u).2.1.mag))).1.mag) aV∧SRow W .u16 aW ((bigsG o (goodI ((numericsV v u).1.neg) ((numericsV v u).1.mag)) (goodI ((numericsV v u).2.1.neg) ((numericsV v u).2.1.mag))).1.s) aX),ve (iv ((bigsG o (goodI ((numericsV v u).1.neg) ((numericsV v u).1.mag)) (goodI ((numericsV v u).2.1.neg) ((numericsV v u).2.1.mag))).2)),vt,vt] a7 (.eq (.eq (.eq (.eq (.eq (.cons (fun _ _ _ n ⟨_,_,_,_,e,h,i⟩=>⟨_,_,_,_,e,h.new_ n,i.new_ n⟩) (.cons (fun _ _ _ n ⟨_,_,_,_,e,h,i⟩=>⟨_,_,_,_,e,h.new_ n,i.new_ n⟩) (.eq (.tt (.tt .nil)))))))))) ?_ ?_
 refine .M da<| .F dc<| .K6 1 b6<| .F dd<| .K6 3 b7 ?_
 refine .o1 (tkC rfl (noG rfl) rfl fun _ w hn k=>(by
  refine ⟨#[.string o,.agg #[.bool ((numericsV v u).1.neg),sv bQ ((numericsV v u).1.mag) bu],.agg #[.bool ((numericsV v u).2.1.neg),sv bC ((numericsV v u).2.1.mag) bv]],_,args3 (k.eq1 0 27 rfl) (k.eq1 2 29 rfl) (k.eq1 4 31 rfl),fun w=>by kernel_rfl,bigsG_c o ((numericsV v u).1.neg) _ ((numericsV v u).1.mag) _ ((numericsV v u).2.1.neg) _ ((numericsV v u).2.1.mag) _ _ (b8.new_ hn) (b9.new_ hn) (VOk.numerics1 hvv hvu).limbs (VOk.numerics2 hvv hvu).limbs,?_⟩
  rintro e w' ⟨iy,g4,g5,g6,rfl,hmo0,hmo1,hm⟩
  exact⟨_,rfl,hm,⟨iy,g4,g5,g6,rfl,hmo0,hmo1⟩⟩)) ?_
 refine .o1 (tk rfl rfl fun _ w hn k=>(by
  obtain⟨g7,g8,g9,ha,hc,ez,eA⟩:=k.G 5 32
  exact⟨_,v_extract rfl hc rfl,⟨g7,g8,g9,ha,rfl,ez,eA⟩⟩)) ?_
 refine .o1 (tk rfl rfl fun _ w hn k=>(by
  obtain⟨jo,jp,jq,jr,hd,iz,iA⟩:=k.G 5 32
  exact⟨_,v_extract rfl hd rfl,rfl⟩)) ?_
 exact .off<| .off .nil
 refine aftI a7 b3 b4 fun bU js ca eB eC eD bF=>?_
 have dg:=bF.f1 db
 obtain⟨aY,aA,aZ,aB,bG,eE,eF⟩:=bF.G 6 33
 have bG:bU.eval (.tmp 33)=vv (bigsG o (goodI ((numericsV v u).1.neg) ((numericsV v u).1.mag)) (goodI ((numericsV v u).2.1.neg) ((numericsV v u).2.1.mag))).1 aY aA aZ aB:=bG
 have dh:=bF.g 7 34
 have bH:=b5.new_ eD
 refine sS9 dg bG bH fun hf eG bI iB=>?_
 have eI:=eE.fr bH bI
 have eJ:=eF.fr bH bI
 have eK:=eC.tR bI
 refine sP dh ca eB fun hg iC eL aC hi=>?_
 have⟨hh,ju,jv⟩:=aC.q3 dg bG dh
 refine ey _ _ ?_
 refine wp_ret (ret_k eL (v:=.tuple #[vv (bigsG o (goodI ((numericsV v u).1.neg) ((numericsV v u).1.mag)) (goodI ((numericsV v u).2.1.neg) ((numericsV v u).2.1.mag))).1 aY aA aZ aB,iv ((bigsG o (goodI ((numericsV v u).1.neg) ((numericsV v u).1.mag)) (goodI ((numericsV v u).2.1.neg) ((numericsV v u).2.1.mag))).2)]) (res_ct rfl hh hi (l_agg isAgg29 sizeOf29 eG rfl)) ?_)
 have af:(sumsG o v u).1.mag=(bigsG o (goodI ((numericsV v u).1.neg) ((numericsV v u).1.mag)) (goodI ((numericsV v u).2.1.neg) ((numericsV v u).2.1.mag))).1.mag:=by first|rfl|(simp only [sumsG,numsG,numV,Vl.z,aa,ab,bsm] <;> rfl)|(exfalso; omega)
 have ag:(sumsG o v u).1.s=(bigsG o (goodI ((numericsV v u).1.neg) ((numericsV v u).1.mag)) (goodI ((numericsV v u).2.1.neg) ((numericsV v u).2.1.mag))).1.s:=by first|rfl|(simp only [sumsG,numsG,numV,Vl.z,aa,ab,bsm] <;> rfl)|(exfalso; omega)
 exact⟨aY,aA,aZ,aB,(by show Ending.returned (.tuple #[vv (bigsG o (goodI ((numericsV v u).1.neg) ((numericsV v u).1.mag)) (goodI ((numericsV v u).2.1.neg) ((numericsV v u).2.1.mag))).1 aY aA aZ aB,iv ((bigsG o (goodI ((numericsV v u).1.neg) ((numericsV v u).1.mag)) (goodI ((numericsV v u).2.1.neg) ((numericsV v u).2.1.mag))).2)])=Ending.returned (.tuple #[vv (sumsG o v u).1 aY aA aZ aB,iv ((sumsG o v u).2)]); (first|rfl|(simp only [sumsG,numsG,numV,Vl.z,aa,ab,af,ag,bsm] <;> rfl)|(exfalso; omega))),(by rw [af]; exact eI),(by rw [ag]; exact eJ),eK⟩
 have df:=oF ab
 have eM:=hB de ab
 refine wf eM<| ws ?_
 refine ek _ _ ?_
 refine wk fun jw eN=>wk fun jx eO=>?_
 refine wA tr1 [] 92 [ve (.string o)] a7 ?_ ?_
 exact .M da .nil
 refine aftI a7 b3 b4 fun jy jz cb eP eQ aD a8=>?_
 have⟨hj,hl,ho⟩:=a8.f3 db dc dd
 have dk:=a8.g 0 35
 have⟨eR,eS,eT,eU⟩:=nw4 aD b5 b6 b7 b8
 have⟨eV,eW,eX⟩:=nw3 aD ev b9 ew
 refine eO _ _ ?_
 refine wb<| wk fun jA eY=>?_
 refine wA tr2 [] 92 [ve (.bool (strEq o ⟨#[43]⟩)),ve (.bool (strEq o ⟨#[43]⟩))] cb ?_ ?_
 exact .H dk (r_eqlS rfl)<| .B 0 .nil
 refine aftI cb eP eQ fun jB jC a9 cc cd aE a4=>?_
 have⟨dl,dm,dn,dp⟩:=a4.f4 hj hl ho dk
 have dq:=a4.g 1 36
 have⟨ce,cf,ch,eZ⟩:=nw4 aE eR eS eT eU
 have⟨e0,e1,e2⟩:=nw3 aE eV eW eX
 refine eY _ _ ?_
 rcases bc (strEq o ⟨#[43]⟩) with ac|ac
 have e3:=hB dq ac
 refine wt e3<| wk fun jD e4=>?_
 refine wA [true,true,true,true,true,true,true,true,true,true,false,false] [(10,false),(11,true)] 92 [ve (.pointer (some ⟨aS,1,none⟩)),ve (nv (Nm.mk ((numericsV v u).1.nk) ((numericsV v u).1.nn))),ve (.pointer (some ⟨a1,1,none⟩)),ve (nv (Nm.mk ((numericsV v u).2.1.nk) ((numericsV v u).2.1.nn))),ve (.tuple #[nv ((addM (Nm.mk ((numericsV v u).1.nk) ((numericsV v u).1.nn)) (Nm.mk ((numericsV v u).2.1.nk) ((numericsV v u).2.1.nn))).1),.bool ((addM (Nm.mk ((numericsV v u).1.nk) ((numericsV v u).1.nn)) (Nm.mk ((numericsV v u).2.1.nk) ((numericsV v u).2.1.nn))).2)]),ve (nv ((addM (Nm.mk ((numericsV v u).1.nk) ((numericsV v u).1.nn)) (Nm.mk ((numericsV v u).2.1.nk) ((numericsV v u).2.1.nn))).1)),ve (.bool ((addM (Nm.mk ((numericsV v u).1.nk) ((numericsV v u).1.nn)) (Nm.mk ((numericsV v u).2.1.nk) ((numericsV v u).2.1.nn))).2)),ve (.tuple #[vv (Vl.mk (numberedV ((addM (Nm.mk ((numericsV v u).1.nk) ((numericsV v u).1.nn)) (Nm.mk ((numericsV v u).2.1.nk) ((numericsV v u).2.1.nn))).1) ((addM (Nm.mk ((numericsV v u).1.nk) ((numericsV v u).1.nn)) (Nm.mk ((numericsV v u).2.1.nk) ((numericsV v u).2.1.nn))).2)).1 (numberedV ((addM (Nm.mk ((numericsV v u).1.nk) ((numericsV v u).1.nn)) (Nm.mk ((numericsV v u).2.1.nk) ((numericsV v u).2.1.nn))).1) ((addM (Nm.mk ((numericsV v u).1.nk) ((numericsV v u).1.nn)) (Nm.mk ((numericsV v u).2.1.nk) ((numericsV v u).2.1.nn))).2)).2.1.k (numberedV ((addM (Nm.mk ((numericsV v u).1.nk) ((numericsV v u).1.nn)) (Nm.mk ((numericsV v u).2.1.nk) ((numericsV v u).2.1.nn))).1) ((addM (Nm.mk ((numericsV v u).1.nk) ((numericsV v u).1.nn)) (Nm.mk ((numericsV v u).2.1.nk) ((numericsV v u).2.1.nn))).2)).2.1.n false [] [] 0) none 0 none 0,iv ((numberedV ((addM (Nm.mk ((numericsV v u).1.nk) ((numericsV v u).1.nn)) (Nm.mk ((numericsV v u).2.1.nk) ((numericsV v u).2.1.nn))).1) ((addM (Nm.mk ((numericsV v u).1.nk) ((numericsV v u).1.nn)) (Nm.mk ((numericsV v u).2.1.nk) ((numericsV v u).2.1.nn))).2)).2.2)]),ve (vv (Vl.mk (numberedV ((addM (Nm.mk ((numericsV v u).1.nk) ((numericsV v u).1.nn)) (Nm.mk ((numericsV v u).2.1.nk) ((numericsV v u).2.1.nn))).1) ((addM (Nm.mk ((numericsV v u).1.nk) ((numericsV v u).1.nn)) (Nm.mk ((numericsV v u).2.1.nk) ((numericsV v u).2.1.nn))).2)).1 (numberedV ((addM (Nm.mk ((numericsV v u).1.nk) ((numericsV v u).1.nn)) (Nm.mk ((numericsV v u).2.1.nk) ((numericsV v u).2.1.nn))).1) ((addM (Nm.mk ((numericsV v u).1.nk) ((numericsV v u).1.nn)) (Nm.mk ((numericsV v u).2.1.nk) ((numericsV v u).2.1.nn))).2)).2.1.k (numberedV ((addM (Nm.mk ((numericsV v u).1.nk) ((numericsV v u).1.nn)) (Nm.mk ((numericsV v u).2.1.nk) ((numericsV v u).2.1.nn))).1) ((addM (Nm.mk ((numericsV v u).1.nk) ((numericsV v u).1.nn)) (Nm.mk ((numericsV v u).2.1.nk) ((numericsV v u).2.1.nn))).2)).2.1.n false [] [] 0) none 0 none 0),ve (iv ((numberedV ((addM (Nm.mk ((numericsV v u).1.nk) ((numericsV v u).1.nn)) (Nm.mk ((numericsV v u).2.1.nk) ((numericsV v u).2.1.nn))).1) ((addM (Nm.mk ((numericsV v u).1.nk) ((numericsV v u).1.nn)) (Nm.mk ((numericsV v u).2.1.nk) ((numericsV v u).2.1.nn))).2)).2.2)),vt,vt] a9 ?_ ?_
 exact .F dm<| .K2 0 cf<| .F dn<| .K2 2 ch<| .C2 1 3 (fun p=>nadd_c (Nm.mk ((numericsV v u).1.nk) ((numericsV v u).1.nn)) (Nm.mk ((numericsV v u).2.1.nk) ((numericsV v u).2.1.nn)) _)<| .E 4<| .E 4<| .C2 5 6 (fun p=>numbered_c ((addM (Nm.mk ((numericsV v u).1.nk) ((numericsV v u).1.nn)) (Nm.mk ((numericsV v u).2.1.nk) ((numericsV v u).2.1.nn))).1) ((addM (Nm.mk ((numericsV v u).1.nk) ((numericsV v u).1.nn)) (Nm.mk ((numericsV v u).2.1.nk) ((numericsV v u).2.1.nn))).2) _)<| .E 7<| .E 7<| .off<| .off .nil
 refine aftI a9 cc cd fun dr jE ci e5 e6 e7 bJ=>?_
 have ds:=bJ.f1 dl
 have dt:=bJ.g 8 46
 have dw:=bJ.g 9 47
 have e8:=ce.new_ e7
 refine sS9 ds dt e8 fun hr fa e9 iD=>?_
 have fc:=e6.tR e9
 refine sP dw ci e5 fun hs iE fd aF hu=>?_
 have⟨ht,jG,jH⟩:=aF.q3 ds dt dw
 refine e4 _ _ ?_
 refine wp_ret (ret_k fd (res9 ht hu fa) ?_)
 exact rV (by first|rfl|(simp only [sumsG,numsG,numV,Vl.z,aa,ab,ac,bsm] <;> rfl)|(exfalso; omega)) fc
 have fe:=hB dq ac
 refine wf fe<| wk fun jI ff=>?_
 refine wA tr2 [] 92 [ve (.bool (strEq o ⟨#[45]⟩)),ve (.bool (strEq o ⟨#[45]⟩))] a9 ?_ ?_
 exact .H dp (r_eqlS rfl)<| .B 0 .nil
 refine aftI a9 cc cd fun jJ jK ba cj cl aG a5=>?_
 have⟨dz,dA,dB,dC⟩:=a5.f4 dl dm dn dp
 have dD:=a5.g 1 48
 have⟨cm,cn,co,fg⟩:=nw4 aG ce cf ch eZ
 have⟨fh,fi,fj⟩:=nw3 aG e0 e1 e2
 refine ff _ _ ?_
 rcases bc (strEq o ⟨#[45]⟩) with ad|ad
 have fk:=hB dD ad
 refine wt fk<| wk fun jL fl=>?_
 refine wA [true,true,true,true,true,true,true,true,true,true,false,false] [(10,false),(11,true)] 92 [ve (.pointer (some ⟨aS,1,none⟩)),ve (nv (Nm.mk ((numericsV v u).1.nk) ((numericsV v u).1.nn))),ve (.pointer (some ⟨a1,1,none⟩)),ve (nv (Nm.mk ((numericsV v u).2.1.nk) ((numericsV v u).2.1.nn))),ve (.tuple #[nv ((addM (Nm.mk ((numericsV v u).1.nk) ((numericsV v u).1.nn)) (negM (Nm.mk ((numericsV v u).2.1.nk) ((numericsV v u).2.1.nn)))).1),.bool ((addM (Nm.mk ((numericsV v u).1.nk) ((numericsV v u).1.nn)) (negM (Nm.mk ((numericsV v u).2.1.nk) ((numericsV v u).2.1.nn)))).2)]),ve (nv ((addM (Nm.mk ((numericsV v u).1.nk) ((numericsV v u).1.nn)) (negM (Nm.mk ((numericsV v u).2.1.nk) ((numericsV v u).2.1.nn)))).1)),ve (.bool ((addM (Nm.mk ((numericsV v u).1.nk) ((numericsV v u).1.nn)) (negM (Nm.mk ((numericsV v u).2.1.nk) ((numericsV v u).2.1.nn)))).2)),ve (.tuple #[vv (Vl.mk (numberedV ((addM (Nm.mk ((numericsV v u).1.nk) ((numericsV v u).1.nn)) (negM (Nm.mk ((numericsV v u).2.1.nk) ((numericsV v u).2.1.nn)))).1) ((addM (Nm.mk ((numericsV v u).1.nk) ((numericsV v u).1.nn)) (negM (Nm.mk ((numericsV v u).2.1.nk) ((numericsV v u).2.1.nn)))).2)).1 (numberedV ((addM (Nm.mk ((numericsV v u).1.nk) ((numericsV v u).1.nn)) (negM (Nm.mk ((numericsV v u).2.1.nk) ((numericsV v u).2.1.nn)))).1) ((addM (Nm.mk ((numericsV v u).1.nk) ((numericsV v u).1.nn)) (negM (Nm.mk ((numericsV v u).2.1.nk) ((numericsV v u).2.1.nn)))).2)).2.1.k (numberedV ((addM (Nm.mk ((numericsV v u).1.nk) ((numericsV v u).1.nn)) (negM (Nm.mk ((numericsV v u).2.1.nk) ((numericsV v u).2.1.nn)))).1) ((addM (Nm.mk ((numericsV v u).1.nk) ((numericsV v u).1.nn)) (negM (Nm.mk ((numericsV v u).2.1.nk) ((numericsV v u).2.1.nn)))).2)).2.1.n false [] [] 0) none 0 none 0,iv ((numberedV ((addM (Nm.mk ((numericsV v u).1.nk) ((numericsV v u).1.nn)) (negM (Nm.mk ((numericsV v u).2.1.nk) ((numericsV v u).2.1.nn)))).1) ((addM (Nm.mk ((numericsV v u).1.nk) ((numericsV v u).1.nn)) (negM (Nm.mk ((numericsV v u).2.1.nk) ((numericsV v u).2.1.nn)))).2)).2.2)]),ve (vv (Vl.mk (numberedV ((addM (Nm.mk ((numericsV v u).1.nk) ((numericsV v u).1.nn)) (negM (Nm.mk ((numericsV v u).2.1.nk) ((numericsV v u).2.1.nn)))).1) ((addM (Nm.mk ((numericsV v u).1.nk) ((numericsV v u).1.nn)) (negM (Nm.mk ((numericsV v u).2.1.nk) ((numericsV v u).2.1.nn)))).2)).1 (numberedV ((addM (Nm.mk ((numericsV v u).1.nk) ((numericsV v u).1.nn)) (negM (Nm.mk ((numericsV v u).2.1.nk) ((numericsV v u).2.1.nn)))).1) ((addM (Nm.mk ((numericsV v u).1.nk) ((numericsV v u).1.nn)) (negM (Nm.mk ((numericsV v u).2.1.nk) ((numericsV v u).2.1.nn)))).2)).2.1.k (numberedV ((addM (Nm.mk ((numericsV v u).1.nk) ((numericsV v u).1.nn)) (negM (Nm.mk ((numericsV v u).2.1.nk) ((numericsV v u).2.1.nn)))).1) ((addM (Nm.mk ((numericsV v u).1.nk) ((numericsV v u).1.nn)) (negM (Nm.mk ((numericsV v u).2.1.nk) ((numericsV v u).2.1.nn)))).2)).2.1.n false [] [] 0) none 0 none 0),ve (iv ((numberedV ((addM (Nm.mk ((numericsV v u).1.nk) ((numericsV v u).1.nn)) (negM (Nm.mk ((numericsV v u).2.1.nk) ((numericsV v u).2.1.nn)))).1) ((addM (Nm.mk ((numericsV v u).1.nk) ((numericsV v u).1.nn)) (negM (Nm.mk ((numericsV v u).2.1.nk) ((numericsV v u).2.1.nn)))).2)).2.2)),vt,vt] ba ?_ ?_
 exact .F dA<| .K2 0 cn<| .F dB<| .K2 2 co<| .C2 1 3 (fun p=>nsub_c (Nm.mk ((numericsV v u).1.nk) ((numericsV v u).1.nn)) (Nm.mk ((numericsV v u).2.1.nk) ((numericsV v u).2.1.nn)) _)<| .E 4<| .E 4<| .C2 5 6 (fun p=>numbered_c ((addM (Nm.mk ((numericsV v u).1.nk) ((numericsV v u).1.nn)) (negM (Nm.mk ((numericsV v u).2.1.nk) ((numericsV v u).2.1.nn)))).1) ((addM (Nm.mk ((numericsV v u).1.nk) ((numericsV v u).1.nn)) (negM (Nm.mk ((numericsV v u).2.1.nk) ((numericsV v u).2.1.nn)))).2) _)<| .E 7<| .E 7<| .off<| .off .nil
 refine aftI ba cj cl fun dE jM cp fm fn fo bK=>?_
 have dF:=bK.f1 dz
 have dG:=bK.g 8 58
 have dH:=bK.g 9 59
 have fp:=cm.new_ fo
 refine sS9 dF dG fp fun hv fs fq iF=>?_
 have fu:=fn.tR fq
 refine sP dH cp fm fun hw iG fv aH hy=>?_
 have⟨hx,jO,jP⟩:=aH.q3 dF dG dH
 refine fl _ _ ?_
 refine wp_ret (ret_k fv (res9 hx hy fs) ?_)
 exact rV (by first|rfl|(simp only [sumsG,numsG,numV,Vl.z,aa,ab,ac,ad,bsm] <;> rfl)|(exfalso; omega)) fu
 have fw:=hB dD ad
 refine wf fw<| wk fun jQ fy=>?_
 refine wA tr2 [] 92 [ve (.bool (strEq o ⟨#[42]⟩)),ve (.bool (strEq o ⟨#[42]⟩))] ba ?_ ?_
 exact .H dC (r_eqlS rfl)<| .B 0 .nil
 refine aftI ba cj cl fun jR jS bb cq cr aI a6=>?_
 have⟨dK,dL,dM,hz⟩:=a6.f4 dz dA dB dC
 have dN:=a6.g 1 60
 have⟨ct,cw,cx,fz⟩:=nw4 aI cm cn co fg
 have⟨fA,fB,fC⟩:=nw3 aI fh fi fj
 refine fy _ _ ?_
 rcases bc (strEq o ⟨#[42]⟩) with ae|ae
 have fD:=hB dN ae
 refine wt fD<| wk fun jT fE=>?_
 refine wA [true,true,true,true,true,true,true,true,true,true,false,false] [(10,false),(11,true)] 92 [ve (.pointer (some ⟨aS,1,none⟩)),ve (nv (Nm.mk ((numericsV v u).1.nk) ((numericsV v u).1.nn))),ve (.pointer (some ⟨a1,1,none⟩)),ve (nv (Nm.mk ((numericsV v u).2.1.nk) ((numericsV v u).2.1.nn))),ve (.tuple #[nv ((mulM (Nm.mk ((numericsV v u).1.nk) ((numericsV v u).1.nn)) (Nm.mk ((numericsV v u).2.1.nk) ((numericsV v u).2.1.nn))).1),.bool ((mulM (Nm.mk ((numericsV v u).1.nk) ((numericsV v u).1.nn)) (Nm.mk ((numericsV v u).2.1.nk) ((numericsV v u).2.1.nn))).2)]),ve (nv ((mulM (Nm.mk ((numericsV v u).1.nk) ((numericsV v u).1.nn)) (Nm.mk ((numericsV v u).2.1.nk) ((numericsV v u).2.1.nn))).1)),ve (.bool ((mulM (Nm.mk ((numericsV v u).1.nk) ((numericsV v u).1.nn)) (Nm.mk ((numericsV v u).2.1.nk) ((numericsV v u).2.1.nn))).2)),ve (.tuple #[vv (Vl.mk (numberedV ((mulM (Nm.mk ((numericsV v u).1.nk) ((numericsV v u).1.nn)) (Nm.mk ((numericsV v u).2.1.nk) ((numericsV v u).2.1.nn))).1) ((mulM (Nm.mk ((numericsV v u).1.nk) ((numericsV v u).1.nn)) (Nm.mk ((numericsV v u).2.1.nk) ((numericsV v u).2.1.nn))).2)).1 (numberedV ((mulM (Nm.mk ((numericsV v u).1.nk) ((numericsV v u).1.nn)) (Nm.mk ((numericsV v u).2.1.nk) ((numericsV v u).2.1.nn))).1) ((mulM (Nm.mk ((numericsV v u).1.nk) ((numericsV v u).1.nn)) (Nm.mk ((numericsV v u).2.1.nk) ((numericsV v u).2.1.nn))).2)).2.1.k (numberedV ((mulM (Nm.mk ((numericsV v u).1.nk) ((numericsV v u).1.nn)) (Nm.mk ((numericsV v u).2.1.nk) ((numericsV v u).2.1.nn))).1) ((mulM (Nm.mk ((numericsV v u).1.nk) ((numericsV v u).1.nn)) (Nm.mk ((numericsV v u).2.1.nk) ((numericsV v u).2.1.nn))).2)).2.1.n false [] [] 0) none 0 none 0,iv ((numberedV ((mulM (Nm.mk ((numericsV v u).1.nk) ((numericsV v u).1.nn)) (Nm.mk ((numericsV v u).2.1.nk) ((numericsV v u).2.1.nn))).1) ((mulM (Nm.mk ((numericsV v u).1.nk) ((numericsV v u).1.nn)) (Nm.mk ((numericsV v u).2.1.nk) ((numericsV v u).2.1.nn))).2)).2.2)]),ve (vv (Vl.mk (numberedV ((mulM (Nm.mk ((numericsV v u).1.nk) ((numericsV v u).1.nn)) (Nm.mk ((numericsV v u).2.1.nk) ((numericsV v u).2.1.nn))).1) ((mulM (Nm.mk ((numericsV v u).1.nk) ((numericsV v u).1.nn)) (Nm.mk ((numericsV v u).2.1.nk) ((numericsV v u).2.1.nn))).2)).1 (numberedV ((mulM (Nm.mk ((numericsV v u).1.nk) ((numericsV v u).1.nn)) (Nm.mk ((numericsV v u).2.1.nk) ((numericsV v u).2.1.nn))).1) ((mulM (Nm.mk ((numericsV v u).1.nk) ((numericsV v u).1.nn)) (Nm.mk ((numericsV v u).2.1.nk) ((numericsV v u).2.1.nn))).2)).2.1.k (numberedV ((mulM (Nm.mk ((numericsV v u).1.nk) ((numericsV v u).1.nn)) (Nm.mk ((numericsV v u).2.1.nk) ((numericsV v u).2.1.nn))).1) ((mulM (Nm.mk ((numericsV v u).1.nk) ((numericsV v u).1.nn)) (Nm.mk ((numericsV v u).2.1.nk) ((numericsV v u).2.1.nn))).2)).2.1.n false [] [] 0) none 0 none 0),ve (iv ((numberedV ((mulM (Nm.mk ((numericsV v u).1.nk) ((numericsV v u).1.nn)) (Nm.mk ((numericsV v u).2.1.nk) ((numericsV v u).2.1.nn))).1) ((mulM (Nm.mk ((numericsV v u).1.nk) ((numericsV v u).1.nn)) (Nm.mk ((numericsV v u).2.1.nk) ((numericsV v u).2.1.nn))).2)).2.2)),vt,vt] bb ?_ ?_
 exact .F dL<| .K2 0 cw<| .F dM<| .K2 2 cx<| .C2 1 3 (fun p=>nmul_c (Nm.mk ((numericsV v u).1.nk) ((numericsV v u).1.nn)) (Nm.mk ((numericsV v u).2.1.nk) ((numericsV v u).2.1.nn)) _)<| .E 4<| .E 4<| .C2 5 6 (fun p=>numbered_c ((mulM (Nm.mk ((numericsV v u).1.nk) ((numericsV v u).1.nn)) (Nm.mk ((numericsV v u).2.1.nk) ((numericsV v u).2.1.nn))).1) ((mulM (Nm.mk ((numericsV v u).1.nk) ((numericsV v u).1.nn)) (Nm.mk ((numericsV v u).2.1.nk) ((numericsV v u).2.1.nn))).2) _)<| .E 7<| .E 7<| .off<| .off .nil
 refine aftI bb cq cr fun dO jU cy fF fG fH bL=>?_
 have dP:=bL.f1 dK
 have dQ:=bL.g 8 70
 have dR:=bL.g 9 71
 have fI:=ct.new_ fH
 refine sS9 dP dQ fI fun hA fK fJ iH=>?_
 have fM:=fG.tR fJ
 refine sP dR cy fF fun hC iI fN aJ hE=>?_
 have⟨hD,jW,jX⟩:=aJ.q3 dP dQ dR
 refine fE _ _ ?_
 refine wp_ret (ret_k fN (res9 hD hE fK) ?_)
 exact rV (by first|rfl|(simp only [sumsG,numsG,numV,Vl.z,aa,ab,ac,ad,ae,bsm] <;> rfl)|(exfalso; omega)) fM
 have fO:=hB dN ae
 refine wf fO<| wk fun jY fP=>?_
 refine wA tr2 [] 92 [ve (.bool (strEq o ⟨#[47]⟩)),ve (.bool (strEq o ⟨#[47]⟩))] bb ?_ ?_
 exact .H hz (r_eqlS rfl)<| .B 0 .nil
 refine aftI bb cq cr fun jZ j0 bd cz cA aK be=>?_
 have⟨dU,dV,dW⟩:=be.f3 dK dL dM
 have dX:=be.g 1 72
 have⟨cB,cC,cD,iJ⟩:=nw4 aK ct cw cx fz
 have⟨iK,iL,iM⟩:=nw3 aK fA fB fC
 refine fP _ _ ?_
 rcases bc (strEq o ⟨#[47]⟩) with ah|ah
 have fQ:=hB dX ah
 refine wt fQ<| wk fun j1 fR=>?_
 refine wA [true,true,true,true,true,true,true,true,true,true,false,false] [(10,false),(11,true)] 92 [ve (.pointer (some ⟨aS,1,none⟩)),ve (nv (Nm.mk ((numericsV v u).1.nk) ((numericsV v u).1.nn))),ve (.pointer (some ⟨a1,1,none⟩)),ve (nv (Nm.mk ((numericsV v u).2.1.nk) ((numericsV v u).2.1.nn))),ve (.tuple #[nv ((divM (Nm.mk ((numericsV v u).1.nk) ((numericsV v u).1.nn)) (Nm.mk ((numericsV v u).2.1.nk) ((numericsV v u).2.1.nn))).1),.bool ((divM (Nm.mk ((numericsV v u).1.nk) ((numericsV v u).1.nn)) (Nm.mk ((numericsV v u).2.1.nk) ((numericsV v u).2.1.nn))).2)]),ve (nv ((divM (Nm.mk ((numericsV v u).1.nk) ((numericsV v u).1.nn)) (Nm.mk ((numericsV v u).2.1.nk) ((numericsV v u).2.1.nn))).1)),ve (.bool ((divM (Nm.mk ((numericsV v u).1.nk) ((numericsV v u).1.nn)) (Nm.mk ((numericsV v u).2.1.nk) ((numericsV v u).2.1.nn))).2)),ve (.tuple #[vv (Vl.mk (numberedV ((divM (Nm.mk ((numericsV v u).1.nk) ((numericsV v u).1.nn)) (Nm.mk ((numericsV v u).2.1.nk) ((numericsV v u).2.1.nn))).1) ((divM (Nm.mk ((numericsV v u).1.nk) ((numericsV v u).1.nn)) (Nm.mk ((numericsV v u).2.1.nk) ((numericsV v u).2.1.nn))).2)).1 (numberedV ((divM (Nm.mk ((numericsV v u).1.nk) ((numericsV v u).1.nn)) (Nm.mk ((numericsV v u).2.1.nk) ((numericsV v u).2.1.nn))).1) ((divM (Nm.mk ((numericsV v u).1.nk) ((numericsV v u).1.nn)) (Nm.mk ((numericsV v u).2.1.nk) ((numericsV v u).2.1.nn))).2)).2.1.k (numberedV ((divM (Nm.mk ((numericsV v u).1.nk) ((numericsV v u).1.nn)) (Nm.mk ((numericsV v u).2.1.nk) ((numericsV v u).2.1.nn))).1) ((divM (Nm.mk ((numericsV v u).1.nk) ((numericsV v u).1.nn)) (Nm.mk ((numericsV v u).2.1.nk) ((numericsV v u).2.1.nn))).2)).2.1.n false [] [] 0) none 0 none 0,iv ((numberedV ((divM (Nm.mk ((numericsV v u).1.nk) ((numericsV v u).1.nn)) (Nm.mk ((numericsV v u).2.1.nk) ((numericsV v u).2.1.nn))).1) ((divM (Nm.mk ((numericsV v u).1.nk) ((numericsV v u).1.nn)) (Nm.mk ((numericsV v u).2.1.nk) ((numericsV v u).2.1.nn))).2)).2.2)]),ve (vv (Vl.mk (numberedV ((divM (Nm.mk ((numericsV v u).1.nk) ((numericsV v u).1.nn)) (Nm.mk ((numericsV v u).2.1.nk) ((numericsV v u).2.1.nn))).1) ((divM (Nm.mk ((numericsV v u).1.nk) ((numericsV v u).1.nn)) (Nm.mk ((numericsV v u).2.1.nk) ((numericsV v u).2.1.nn))).2)).1 (numberedV ((divM (Nm.mk ((numericsV v u).1.nk) ((numericsV v u).1.nn)) (Nm.mk ((numericsV v u).2.1.nk) ((numericsV v u).2.1.nn))).1) ((divM (Nm.mk ((numericsV v u).1.nk) ((numericsV v u).1.nn)) (Nm.mk ((numericsV v u).2.1.nk) ((numericsV v u).2.1.nn))).2)).2.1.k (numberedV ((divM (Nm.mk ((numericsV v u).1.nk) ((numericsV v u).1.nn)) (Nm.mk ((numericsV v u).2.1.nk) ((numericsV v u).2.1.nn))).1) ((divM (Nm.mk ((numericsV v u).1.nk) ((numericsV v u).1.nn)) (Nm.mk ((numericsV v u).2.1.nk) ((numericsV v u).2.1.nn))).2)).2.1.n false [] [] 0) none 0 none 0),ve (iv ((numberedV ((divM (Nm.mk ((numericsV v u).1.nk) ((numericsV v u).1.nn)) (Nm.mk ((numericsV v u).2.1.nk) ((numericsV v u).2.1.nn))).1) ((divM (Nm.mk ((numericsV v u).1.nk) ((numericsV v u).1.nn)) (Nm.mk ((numericsV v u).2.1.nk) ((numericsV v u).2.1.nn))).2)).2.2)),vt,vt] bd ?_ ?_
 exact .F dV<| .K2 0 cC<| .F dW<| .K2 2 cD<| .C2 1 3 (fun p=>ndiv_c (Nm.mk ((numericsV v u).1.nk) ((numericsV v u).1.nn)) (Nm.mk ((numericsV v u).2.1.nk) ((numericsV v u).2.1.nn)) _)<| .E 4<| .E 4<| .C2 5 6 (fun p=>numbered_c ((divM (Nm.mk ((numericsV v u).1.nk) ((numericsV v u).1.nn)) (Nm.mk ((numericsV v u).2.1.nk) ((numericsV v u).2.1.nn))).1) ((divM (Nm.mk ((numericsV v u).1.nk) ((numericsV v u).1.nn)) (Nm.mk ((numericsV v u).2.1.nk) ((numericsV v u).2.1.nn))).2) _)<| .E 7<| .E 7<| .off<| .off .nil
 refine aftI bd cz cA fun dY j2 cE fS fT fU bM=>?_
 have dZ:=bM.f1 dU
 have d0:=bM.g 8 82
 have d1:=bM.g 9 83
 have fV:=cB.new_ fU
 refine sS9 dZ d0 fV fun hF fX fW iN=>?_
 have fZ:=fT.tR fW
 refine sP d1 cE fS fun hG iO f0 aL hI=>?_
 have⟨hH,j4,j5⟩:=aL.q3 dZ d0 d1
 refine fR _ _ ?_
 refine wp_ret (ret_k f0 (res9 hH hI fX) ?_)
 exact rV (by first|rfl|(simp only [sumsG,numsG,numV,Vl.z,aa,ab,ac,ad,ae,ah,bsm] <;> rfl)|(exfalso; omega)) fZ
 have f1:=hB dX ah
 refine wf f1<| ws ?_
 refine eN _ _ ?_
 refine wk fun j6 f2=>?_
 refine wA [true,true,true,true,true,true,true,true,false,false] [(8,false),(9,true)] 92 [ve (.pointer (some ⟨aS,1,none⟩)),ve (nv (Nm.mk ((numericsV v u).1.nk) ((numericsV v u).1.nn))),ve (.pointer (some ⟨a1,1,none⟩)),ve (nv (Nm.mk ((numericsV v u).2.1.nk) ((numericsV v u).2.1.nn))),ve (nv (remM (Nm.mk ((numericsV v u).1.nk) ((numericsV v u).1.nn)) (Nm.mk ((numericsV v u).2.1.nk) ((numericsV v u).2.1.nn)))),ve (.tuple #[vv (Vl.mk (numberedV (remM (Nm.mk ((numericsV v u).1.nk) ((numericsV v u).1.nn)) (Nm.mk ((numericsV v u).2.1.nk) ((numericsV v u).2.1.nn))) true).1 (numberedV (remM (Nm.mk ((numericsV v u).1.nk) ((numericsV v u).1.nn)) (Nm.mk ((numericsV v u).2.1.nk) ((numericsV v u).2.1.nn))) true).2.1.k (numberedV (remM (Nm.mk ((numericsV v u).1.nk) ((numericsV v u).1.nn)) (Nm.mk ((numericsV v u).2.1.nk) ((numericsV v u).2.1.nn))) true).2.1.n false [] [] 0) none 0 none 0,iv ((numberedV (remM (Nm.mk ((numericsV v u).1.nk) ((numericsV v u).1.nn)) (Nm.mk ((numericsV v u).2.1.nk) ((numericsV v u).2.1.nn))) true).2.2)]),ve (vv (Vl.mk (numberedV (remM (Nm.mk ((numericsV v u).1.nk) ((numericsV v u).1.nn)) (Nm.mk ((numericsV v u).2.1.nk) ((numericsV v u).2.1.nn))) true).1 (numberedV (remM (Nm.mk ((numericsV v u).1.nk) ((numericsV v u).1.nn)) (Nm.mk ((numericsV v u).2.1.nk) ((numericsV v u).2.1.nn))) true).2.1.k (numberedV (remM (Nm.mk ((numericsV v u).1.nk) ((numericsV v u).1.nn)) (Nm.mk ((numericsV v u).2.1.nk) ((numericsV v u).2.1.nn))) true).2.1.n false [] [] 0) none 0 none 0),ve (iv ((numberedV (remM (Nm.mk ((numericsV v u).1.nk) ((numericsV v u).1.nn)) (Nm.mk ((numericsV v u).2.1.nk) ((numericsV v u).2.1.nn))) true).2.2)),vt,vt] bd ?_ ?_
 exact .F dV<| .K2 0 cC<| .F dW<| .K2 2 cD<| .C2 1 3 (fun p=>nrem_c (Nm.mk ((numericsV v u).1.nk) ((numericsV v u).1.nn)) (Nm.mk ((numericsV v u).2.1.nk) ((numericsV v u).2.1.nn)) _)<| .D (fun k=>args2 (k.eq1 4 88 rfl) rfl) (fun p=>numbered_c (remM (Nm.mk ((numericsV v u).1.nk) ((numericsV v u).1.nn)) (Nm.mk ((numericsV v u).2.1.nk) ((numericsV v u).2.1.nn))) true _)<| .E 5<| .E 5<| .off<| .off .nil
 refine aftI bd cz cA fun d4 j7 cF f3 f4 f5 bN=>?_
 have d5:=bN.f1 dU
 have d6:=bN.g 6 90
 have d7:=bN.g 7 91
 have f6:=cB.new_ f5
 refine sS9 d5 d6 f6 fun hJ f8 f7 iP=>?_
 have ga:=f4.tR f7
 refine sP d7 cF f3 fun hK iQ gb aM hM=>?_
 have⟨hL,j9,ka⟩:=aM.q3 d5 d6 d7
 refine f2 _ _ ?_
 refine wp_ret (ret_k gb (res9 hL hM f8) ?_)
 exact rV (by first|rfl|(simp only [sumsG,numsG,numV,Vl.z,aa,ab,ac,ad,ae,ah,bsm] <;> rfl)|(exfalso; omega)) ga
 have c5:=oF aa
 refine wA tr3 [] 92 [ve (iv ((numericsV v u).2.2)),vT,vT] bD ?_ ?_
 exact .M bE<| .b 0 (r_neq aa)<| .B 1 .nil
 refine aftI bD c0 cZ fun kb kc cG gc gd aN aR=>?_
 have⟨kd,hN,ke,kf⟩:=aR.f4 gt gu c1 c3
 have hO:=aR.f1 bE
 have hP:=aR.g 2 18
 have⟨gf,iR,iS,iT⟩:=nw4 aN cX cY cS cT
 have⟨iU,iV,iW⟩:=nw3 aN cU cV cW
 refine b0 _ _ ?_
 refine wt hP<| wk fun kg gg=>?_
 refine wB [true,true,false,false] [1] [(2,false),(3,true)] 92 [ve (vv (Vl.mk 0 0 0 false [] [] 0) none 0 none 0),ve (iv ((numericsV v u).2.2)),vt,vt] [] cG ?_ ?_ ?_
 refine .Z ?_
 refine .o3 ?_
 exact .off<| .off .nil
 refine eg1 ?_
 exact eager_take rfl rfl fun _ w hn k=>⟨iv ((numericsV v u).2.2),fun w=>v_move rfl (k.fx 10 hO),rfl⟩
 refine aftI cG gc gd fun ea kh cH gh gi gj bO=>?_
 have eb:=bO.f1 hN
 have ec:=bO.g 0 21
 have ed:=bO.g 1 22
 have gk:=gf.new_ gj
 refine sS9 eb ec gk fun hQ gm gl iX=>?_
 have go:=gi.tR gl
 refine sP ed cH gh fun hR iY gp aO hU=>?_
 have⟨hT,kj,kk⟩:=aO.q3 eb ec ed
 refine gg _ _ ?_
 refine wp_ret (ret_k gp (res9 hT hU gm) ?_)
 exact rV (by first|rfl|(simp only [sumsG,numsG,numV,Vl.z,aa,bsm] <;> rfl)|(exfalso; omega)) go
theorem bitsG_c (o:ByteArray) (v:Vl) (Av:Option Addr) (cv:Nat) (Bv:Option Addr) (dv:Nat) (u:Vl) (Au:Option Addr) (cu:Nat) (Bu:Option Addr) (du:Nat) (w:World) (hmv:SRow w .u32 Av v.mag cv) (hsv:SRow w .u16 Bv v.s dv) (hmu:SRow w .u32 Au u.mag cu) (hsu:SRow w .u16 Bu u.s du) (hvv:VOk v) (hvu:VOk u):Calls prog 37 #[.string o,vv v Av cv Bv dv,vv u Au cu Bu du] w (IsRet (.tuple #[vv (Vl.mk (bitsG o v u).1 (bitsG o v u).2.1.k (bitsG o v u).2.1.n false [] [] 0) none 0 none 0,iv ((bitsG o v u).2.2)]) w):=by
 refine enter_abs func37 rfl fun a0 bZ jI hp=>?_
 have bZ:a0.tmps.size=58:=bZ
 have b0:New w w:=Upd.refl _ _
 have hp0:a0.eval (.tmp 0)=.string o:=hp 0 _ rfl
 have hp1:a0.eval (.tmp 1)=vv v Av cv Bv dv:=hp 1 _ rfl
 have hp2:a0.eval (.tmp 2)=vv u Au cu Bu du:=hp 2 _ rfl
 refine wk fun K1 jJ=>?_
 refine wB tr4 [] [] 58 [IsNew w 29 (c7 v Av cv Bv dv),IsNew w 29 (c7 u Au cu Bu du),IsNew w 29 z7,ve (iv 0)] [0,1,2] bZ ?_ heN ?_
 exact .X hp1<| .X hp2<| .Y<| .c .nil
 refine aftI bZ jI b0 fun a2 w3 hJ jK a3 lO bP=>?_
 have h8:=bP.f1 hp0
 obtain⟨jL,h9,hM,hN⟩:=bP.G 0 4
 obtain⟨jM,hK,hO,hP⟩:=bP.G 1 5
 obtain⟨a1,dx,hQ,bY⟩:=bP.G 2 6
 have hne21:=bP.ne 0 2 4 6 h9 dx
 have hne22:=bP.ne 1 2 5 6 hK dx
 have ks:=Nat.le_trans b0.size hM
 have kt:=Nat.le_trans b0.size hO
 have ku:=Nat.le_trans b0.size hQ
 refine jJ _ _ <| wk fun lP hR=>?_
 refine wp_gS (fun W=>True) (fun W W' hn h=>trivial) trivial [true,true,true,true,true,true,true,true,true,false,false,false] [5,6] [(9,false),(10,false),(11,true)] 58
  [ve (vv v Av cv Bv dv),ve (vv u Au cu Bu du),(TQ (numericsV v u).1 (numericsV v u).2.1 ((numericsV v u).2.2)),(TQ (numericsV v u).1 (numericsV v u).2.1 ((numericsV v u).2.2)),(fun (v_:Value) (W:World)=>∃ (bx:Option Addr) (bz:Nat) (bA:Option Addr) (bB:Nat),v_=vv (numericsV v u).1 bx bz bA bB∧SRow W .u32 bx ((numericsV v u).1.mag) bz∧SRow W .u16 bA ((numericsV v u).1.s) bB),(fun (v_:Value) (W:World)=>∃ (bC:Option Addr) (bD:Nat) (bE:Option Addr) (bF:Nat),v_=vv (numericsV v u).2.1 bC bD bE bF∧SRow W .u32 bC ((numericsV v u).2.1.mag) bD∧SRow W .u16 bE ((numericsV v u).2.1.s) bF),ve (iv ((numericsV v u).2.2)),IsNew w3 29 z7,IsNew w3 29 z7,vt,vt,vt]
  [7,8] (newsCons (fun v w h=>IsNew.old h) (newsCons (fun v w h=>IsNew.old h) newsNil)) hJ (.eq (.eq (.cons (fun _ _ _ n ⟨_,_,_,_,_,_,_,_,e,h,i,j,l⟩=>⟨_,_,_,_,_,_,_,_,e,h.new_ n,i.new_ n,j.new_ n,l.new_ n⟩) (.cons (fun _ _ _ n ⟨_,_,_,_,_,_,_,_,e,h,i,j,l⟩=>⟨_,_,_,_,_,_,_,_,e,h.new_ n,i.new_ n,j.new_ n,l.new_ n⟩) (.cons (fun _ _ _ n ⟨_,_,_,_,e,h,i⟩=>⟨_,_,_,_,e,h.new_ n,i.new_ n⟩) (.cons (fun _ _ _ n ⟨_,_,_,_,e,h,i⟩=>⟨_,_,_,_,e,h.new_ n,i.new_ n⟩) (.eq (.nw (.nw (.tt (.tt (.tt .nil)))))))))))) ?_ ?_ ?_
 refine .L9 h9 hN<| .L9 hK hP ?_
 refine .o1 (tkC rfl (noG rfl) rfl fun _ w hn k=>(by
  refine ⟨#[vv v Av cv Bv dv,vv u Au cu Bu du],_,args2 (k.eq1 0 13 rfl) (k.eq1 1 14 rfl),fun w=>by kernel_rfl,numerics_c v _ _ _ _ u _ _ _ _ _ (hmv.new_ (a3.transNew hn)) (hsv.new_ (a3.transNew hn)) (hmu.new_ (a3.transNew hn)) (hsu.new_ (a3.transNew hn)) hvv hvu,?_⟩
  rintro e w' ⟨A1,c2,A3,c4,A5,c6,A7,c8,rfl,hmo0,hmo1,hmo2,hmo3,hm⟩
  exact⟨_,rfl,hm,⟨A1,c2,A3,c4,A5,c6,A7,c8,rfl,hmo0,hmo1,hmo2,hmo3⟩⟩)) ?_
 refine .o1 (tk rfl rfl fun _ w hn k=>(by
  obtain⟨jN,jO,jP,jQ,jR,jS,jT,jU,jV,hT,hU,hV,hW⟩:=k.G 2 15
  exact⟨_,v_move rfl jV,⟨jN,jO,jP,jQ,jR,jS,jT,jU,rfl,hT,hU,hV,hW⟩⟩)) ?_
 refine .o1 (tk rfl rfl fun _ w hn k=>(by
  obtain⟨jW,jX,bG,jY,lQ,lR,bQ,lS,jZ,hX,hY,kv,kw⟩:=k.G 3 12
  exact⟨_,v_extract rfl jZ rfl,⟨jW,jX,bG,jY,rfl,hX,hY⟩⟩)) ?_
 refine .o3 ?_
 refine .o3 ?_
 exact .Y<| .Y<| .off<| .off<| .off .nil
 refine eg2 ?_ ?_
 exact eager_takeG rfl (noG rfl) fun _ w hn k=>(by
  obtain⟨lT,lU,lV,lW,j0,j1,j2,j3,j4,kx,ky,hZ,h4⟩:=k.G 3 12
  exact⟨_,fun w hS=>v_extract rfl j4 rfl,⟨j0,j1,j2,j3,rfl,hZ,h4⟩⟩)
 exact eager_takeG rfl (noG rfl) fun _ w hn k=>(by
  obtain⟨lX,lY,lZ,l0,l1,l2,l3,l4,j5,kz,kA,kB,kC⟩:=k.G 3 12
  exact⟨_,fun w hS=>v_extract rfl j5 rfl,rfl⟩)
 intro b1 l5 _ dy av
 obtain⟨dz,h5,h6⟩:=aft av hJ jK a3 dy
 have⟨j6,j7⟩:=av.f2 h8 dx
 obtain⟨bW,bH,bG,bI,b2,h7,ia⟩:=av.G 4 16
 have b2:b1.eval (.tmp 16)=vv (numericsV v u).1 bW bH bG bI:=b2
 obtain⟨bQ,bJ,bX,bK,b3,ib,ic⟩:=av.G 5 17
 have b3:b1.eval (.tmp 17)=vv (numericsV v u).2.1 bQ bJ bX bK:=b3
 have hL:=av.g 6 18
 obtain⟨ba,dA,dB,bL⟩:=av.G 7 8
 obtain⟨bR,dC,dD,id⟩:=av.G 8 9
 have ie:=bY.new_ dy
 have hne60:=av.ne 7 8 8 9 dA dC
 have hne61:a1 ≠ ba:=by have h1:=bY.lt; have h2:=dB; omega
 have hne62:a1 ≠ bR:=by have h1:=bY.lt; have h2:=dD; omega
 have kD:=Nat.le_trans a3.size dB
 have kE:=Nat.le_trans a3.size dD
 refine sS9 dA b2 bL fun j8 ig bM dE=>?_
 have ii:=h7.fr bL bM
 have ij:=ia.fr bL bM
 have ik:=ib.fr bL bM
 have il:=ic.fr bL bM
 have im:=dE hne61 ie
 have bN:=dE hne60.symm id
 have io:=h6.tR bM
 refine sS9 dC b3 bN fun j9 ip bO dF=>?_
 have ir:=ii.fr bN bO
 have it:=ij.fr bN bO
 have iu:=ik.fr bN bO
 have iw:=il.fr bN bO
 have ix:=dF hne62 im
 have iy:=dF hne60 ig
 have iz:=io.tR bO
 refine sP hL dz h5 fun ka dG iA ah dH=>?_
 have⟨kb,kc,kF⟩:=ah.q3 j6 j7 b2
 have⟨kG,kH,iB⟩:=ah.q3 b3 hL dA
 have iC:=ah.q dC
 refine hR _ _ <| wk fun kI eL=>?_
 refine wb<| wk fun kJ eM=>?_
 refine wA tr3 [] 58 [ve (iv ((numericsV v u).2.2)),ve (.bool (!decide (((numericsV v u).2.2)=0))),ve (.bool (!decide (((numericsV v u).2.2)=0)))] dG ?_ ?_
 exact .M dH<| .b 0 (r_neq rfl)<| .B 1 .nil
 refine aftI dG iA iz fun kK kL bb b4 b5 aw aQ=>?_
 have⟨dI,dJ,dK,iD⟩:=aQ.f4 kb kc iB iC
 have iE:=aQ.f1 dH
 have dL:=aQ.g 2 19
 have⟨b6,b7,eN,eO⟩:=nw4 aw ix iy ip ir
 have⟨eP,eQ,eR⟩:=nw3 aw it iu iw
 refine eM _ _ ?_
 rcases bc ((!decide (((numericsV v u).2.2)=0))) with ab|ab
 have eS:=hB dL ab
 have bS:(decide (((numericsV v u).2.2)=0))=false:=nF ab
 have kd:=oF bS
 refine wt eS<| wk fun kM eT=>?_
 refine wB [true,true,false,false] [1] [(2,false),(3,true)] 58 [ve (vv (Vl.mk 0 0 0 false [] [] 0) none 0 none 0),ve (iv ((numericsV v u).2.2)),vt,vt] [] bb ?_ ?_ ?_
 refine .Z ?_
 refine .o3 ?_
 exact .off<| .off .nil
 refine eg1 ?_
 exact eager_take rfl rfl fun _ w hn k=>⟨iv ((numericsV v u).2.2),fun w=>v_move rfl (k.fx 10 iE),rfl⟩
 refine aftI bb b4 b5 fun dM kN b8 eU eV eW bT=>?_
 have dN:=bT.f1 dJ
 have dO:=bT.g 0 22
 have dP:=bT.g 1 23
 have eX:=b6.new_ eW
 refine sS9 dN dO eX fun iF eZ eY kg=>?_
 have e1:=eV.tR eY
 refine sP dP b8 eU fun iG kh e2 ax iI=>?_
 have⟨iH,kP,kQ⟩:=ax.q3 dN dO dP
 refine eT _ _ ?_
 refine wp_ret (ret_k e2 (v:=.tuple #[vv (Vl.mk 0 0 0 false [] [] 0) none 0 none 0,iv ((numericsV v u).2.2)]) (res_ct rfl iH iI (l_agg isAgg29 sizeOf29 eZ rfl)) ?_)
 refine ⟨?_,e1⟩
 show Ending.returned (.tuple #[vv (Vl.mk 0 0 0 false [] [] 0) none 0 none 0,iv ((numericsV v u).2.2)])=Ending.returned (.tuple #[vv (Vl.mk (bitsG o v u).1 (bitsG o v u).2.1.k (bitsG o v u).2.1.n false [] [] 0) none 0 none 0,iv ((bitsG o v u).2.2)])
 first|rfl|(simp only [bitsG,ab,bS,bS,bsm] <;> rfl)|(exfalso; omega)
 have e3:=hB dL ab
 have ae:(decide (((numericsV v u).2.2)=0))=true:=nT ab
 have ke:=oT ae
 refine wf e3<| wk fun kR e4=>?_
 refine wA tr8 [] 58 [ve (pv ba),ve (iv ((numericsV v u).1.k)),ve (.bool (decide (((numericsV v u).1.k)=4))),ve (.bool (decide (((numericsV v u).1.k)=4))),ve (gq (decide (((numericsV v u).1.k)=4)) (.string o)),ve (gq (decide (((numericsV v u).1.k)=4)) (.bool (strEq o ⟨#[62,62,62]⟩))),ve (.bool ((decide (((numericsV v u).1.k)=4)) && (strEq o ⟨#[62,62,62]⟩))),ve (.bool ((decide (((numericsV v u).1.k)=4)) && (strEq o ⟨#[62,62,62]⟩)))] bb ?_ ?_
 exact .F dK<| .J 0 isAgg3 b7<| .b 1 (r_eql rfl)<| .N 2<| .Q (fun k=>g0 (k.eq1 3 28 rfl)) (fun hG p k=>v_move rfl (k.fx 0 dI))<| .Q (fun k=>g0 (k.eq1 3 28 rfl)) (fun hG p k=>v_bin rfl (cT hG (k.eq1 4 29 rfl)) rfl (fun _=>rfl) (r_eqlS rfl))<| .O 3 5<| .B 6 .nil
 refine aftI bb b4 b5 fun kS kT bd b9 ca ay a4=>?_
 have⟨iJ,dS,dT,iK⟩:=a4.f4 dI dJ dK iD
 have dU:=a4.g 7 24
 have⟨cb,cc,e5,e6⟩:=nw4 ay b6 b7 eN eO
 have⟨e7,e8,e9⟩:=nw3 ay eP eQ eR
 refine e4 _ _ ?_
 rcases bc (((decide (((numericsV v u).1.k)=4)) && (strEq o ⟨#[62,62,62]⟩))) with ac|ac
 have fa:=hB dU ac
 have bU:(decide (((numericsV v u).1.k)=4))=true:=al ac
 have kf:=oT bU
 have cd:(strEq o ⟨#[62,62,62]⟩)=true:=ar ac
 refine wt fa<| wk fun kU fb=>?_
 refine wA [true,false,false] [(1,false),(2,true)] 58 [ve (vv (Vl.mk 0 0 0 false [] [] 0) none 0 none 0),vt,vt] bd ?_ ?_
 exact .Z<| .off<| .off .nil
 refine aftI bd b9 ca fun dV kV ce fc fd fe cf=>?_
 have dW:=cf.f1 dS
 have dX:=cf.g 0 32
 have ff:=cb.new_ fe
 refine sS9 dW dX ff fun iL fh fg ki=>?_
 have fj:=fd.tR fg
 refine sP (v:=iv 1) rfl ce fc fun iM kj fk aR iO=>?_
 have⟨iN,kX⟩:=aR.q2 dW dX
 refine fb _ _ ?_
 refine wp_ret (ret_k fk (v:=.tuple #[vv (Vl.mk 0 0 0 false [] [] 0) none 0 none 0,iv 1]) (res_ct rfl iN iO (l_agg isAgg29 sizeOf29 fh rfl)) ?_)
 refine ⟨?_,fj⟩
 show Ending.returned (.tuple #[vv (Vl.mk 0 0 0 false [] [] 0) none 0 none 0,iv 1])=Ending.returned (.tuple #[vv (Vl.mk (bitsG o v u).1 (bitsG o v u).2.1.k (bitsG o v u).2.1.n false [] [] 0) none 0 none 0,iv ((bitsG o v u).2.2)])
 first|rfl|(simp only [bitsG,ab,ae,ae,ac,bU,bU,cd,cd,bsm] <;> rfl)|(exfalso; omega)
 have fl:=hB dU ac
 refine wf fl<| wk fun kY fm=>?_
 refine wA tr4 [] 58 [ve (pv ba),ve (iv ((numericsV v u).1.k)),ve (.bool (decide (((numericsV v u).1.k)=4))),ve (.bool (decide (((numericsV v u).1.k)=4)))] bd ?_ ?_
 exact .F dT<| .J 0 isAgg3 cc<| .b 1 (r_eql rfl)<| .B 2 .nil
 refine aftI bd b9 ca fun kZ k0 be ch ci az a5=>?_
 have⟨iP,d0,iQ,iR⟩:=a5.f4 iJ dS dT iK
 have d1:=a5.g 3 33
 have⟨cj,fn,fo,fp⟩:=nw4 az cb cc e5 e6
 have⟨fq,fs,ft⟩:=nw3 az e7 e8 e9
 refine fm _ _ ?_
 rcases bc (decide (((numericsV v u).1.k)=4)) with ad|ad
 have d2:=oT ad
 have fu:=hB d1 ad
 have cl:(strEq o ⟨#[62,62,62]⟩)=false:=ax1 ac ad
 refine wt fu<| wk fun k1 fv=>?_
 refine wA [true,false,false] [(1,false),(2,true)] 58 [ve (vv (Vl.mk 0 0 0 false [] [] 0) none 0 none 0),vt,vt] be ?_ ?_
 exact .Z<| .off<| .off .nil
 refine aftI be ch ci fun d3 k2 cm fw fy fz cn=>?_
 have d4:=cn.f1 d0
 have d5:=cn.g 0 37
 have fA:=cj.new_ fz
 refine sS9 d4 d5 fA fun iS fC fB kk=>?_
 have fE:=fy.tR fB
 refine sP (v:=iv 3) rfl cm fw fun iT kl fF aS iV=>?_
 have⟨iU,k4⟩:=aS.q2 d4 d5
 refine fv _ _ ?_
 refine wp_ret (ret_k fF (v:=.tuple #[vv (Vl.mk 0 0 0 false [] [] 0) none 0 none 0,iv 3]) (res_ct rfl iU iV (l_agg isAgg29 sizeOf29 fC rfl)) ?_)
 refine ⟨?_,fE⟩
 show Ending.returned (.tuple #[vv (Vl.mk 0 0 0 false [] [] 0) none 0 none 0,iv 3])=Ending.returned (.tuple #[vv (Vl.mk (bitsG o v u).1 (bitsG o v u).2.1.k (bitsG o v u).2.1.n false [] [] 0) none 0 none 0,iv ((bitsG o v u).2.2)])
 first|rfl|(simp only [bitsG,ab,ae,ae,ac,ad,cl,cl,bsm] <;> rfl)|(exfalso; omega)
 have d2:=oF ad
 have fG:=hB d1 ad
 refine wf fG<| ws ?_
 refine eL _ _ ?_
 refine wk fun k5 fH=>?_
 refine wA tr1 [] 58 [ve (iv 0)] be ?_ ?_
 exact .c .nil
 refine aftI be ch ci fun k6 k7 co fI fJ aA a6=>?_
 have⟨iW,iX,iY,iZ⟩:=a6.f4 iP d0 iQ iR
 have i0:=a6.g 0 11
 have⟨fK,fL,fM,fN⟩:=nw4 aA cj fn fo fp
 have⟨fO,fP,fQ⟩:=nw3 aA fq fs ft
 refine fH _ _ ?_
 refine wp_seq_j (fun (aa:Act) (ww:World)=>aa.tmps.size=58∧aa.defers=[]∧New w ww∧aa.eval (.tmp 11)=iv (opN o)∧aa.eval (.tmp 6)=pv a1∧aa.eval (.tmp 8)=pv ba∧aa.eval (.tmp 9)=pv bR∧Blk ww a1 29 z7∧Blk ww ba 29 (c7 (numericsV v u).1 bW bH bG bI)∧Blk ww bR 29 (c7 (numericsV v u).2.1 bQ bJ bX bK)∧SRow ww .u32 bW ((numericsV v u).1.mag) bH∧SRow ww .u16 bG ((numericsV v u).1.s) bI∧SRow ww .u32 bQ ((numericsV v u).2.1.mag) bJ∧SRow ww .u16 bX ((numericsV v u).2.1.s) bK) ?_ ?_
 rintro k8 k9 ⟨cp,fR,fS,i1,i2,i3,i4,fT,fU,fV,km,kn,ko,kp⟩
 refine wk fun la fW=>?_
 refine wA [true,true,true,true,true,true,true,false,false] [(7,false),(8,true)] 58 [ve (iv (opN o)),ve (.pointer (some ⟨ba,1,none⟩)),ve (nv (Nm.mk ((numericsV v u).1.nk) ((numericsV v u).1.nn))),ve (.pointer (some ⟨bR,1,none⟩)),ve (nv (Nm.mk ((numericsV v u).2.1.nk) ((numericsV v u).2.1.nn))),ve (nv (bitM (opN o) (Nm.mk ((numericsV v u).1.nk) ((numericsV v u).1.nn)) (Nm.mk ((numericsV v u).2.1.nk) ((numericsV v u).2.1.nn)))),ve (vv (Vl.mk 3 (bitM (opN o) (Nm.mk ((numericsV v u).1.nk) ((numericsV v u).1.nn)) (Nm.mk ((numericsV v u).2.1.nk) ((numericsV v u).2.1.nn))).k (bitM (opN o) (Nm.mk ((numericsV v u).1.nk) ((numericsV v u).1.nn)) (Nm.mk ((numericsV v u).2.1.nk) ((numericsV v u).2.1.nn))).n false [] [] 0) none 0 none 0),vt,vt] cp ?_ ?_
 exact .M i1<| .F i3<| .K2 1 fU<| .F i4<| .K2 3 fV<| .D (fun k=>args3 (k.eq1 0 51 rfl) (k.eq1 2 53 rfl) (k.eq1 4 55 rfl)) (fun p=>bit_c (opN o) (Nm.mk ((numericsV v u).1.nk) ((numericsV v u).1.nn)) (Nm.mk ((numericsV v u).2.1.nk) ((numericsV v u).2.1.nn)) _)<| .C 5 (fun p=>cnum_c (bitM (opN o) (Nm.mk ((numericsV v u).1.nk) ((numericsV v u).1.nn)) (Nm.mk ((numericsV v u).2.1.nk) ((numericsV v u).2.1.nn))) _)<| .off<| .off .nil
 refine aftI cp fR fS fun d8 lc cq fX fY fZ cr=>?_
 have d9:=cr.f1 i2
 have ea:=cr.g 6 57
 have f0:=fT.new_ fZ
 refine sS9 d9 ea f0 fun i5 f2 f1 kq=>?_
 have f4:=fY.tR f1
 refine sP (v:=iv 0) rfl cq fX fun i6 kr f5 aT i8=>?_
 have⟨i7,le⟩:=aT.q2 d9 ea
 refine fW _ _ ?_
 refine wp_ret (ret_k f5 (v:=.tuple #[vv (Vl.mk 3 (bitM (opN o) (Nm.mk ((numericsV v u).1.nk) ((numericsV v u).1.nn)) (Nm.mk ((numericsV v u).2.1.nk) ((numericsV v u).2.1.nn))).k (bitM (opN o) (Nm.mk ((numericsV v u).1.nk) ((numericsV v u).1.nn)) (Nm.mk ((numericsV v u).2.1.nk) ((numericsV v u).2.1.nn))).n false [] [] 0) none 0 none 0,iv 0]) (res_ct rfl i7 i8 (l_agg isAgg29 sizeOf29 f2 rfl)) ?_)
 refine ⟨?_,f4⟩
 show Ending.returned (.tuple #[vv (Vl.mk 3 (bitM (opN o) (Nm.mk ((numericsV v u).1.nk) ((numericsV v u).1.nn)) (Nm.mk ((numericsV v u).2.1.nk) ((numericsV v u).2.1.nn))).k (bitM (opN o) (Nm.mk ((numericsV v u).1.nk) ((numericsV v u).1.nn)) (Nm.mk ((numericsV v u).2.1.nk) ((numericsV v u).2.1.nn))).n false [] [] 0) none 0 none 0,iv 0])=Ending.returned (.tuple #[vv (Vl.mk (bitsG o v u).1 (bitsG o v u).2.1.k (bitsG o v u).2.1.n false [] [] 0) none 0 none 0,iv ((bitsG o v u).2.2)])
 first|rfl|(simp only [bitsG,ab,ae,ae,ac,ad,bsm] <;> rfl)|(exfalso; omega)
 intro lf aB
 refine wk fun lg f6=>?_
 refine wA tr1 [] 58 [ve (.string o)] co ?_ ?_
 exact .M iW .nil
 refine aftI co fI fJ fun lh li ct f7 f8 aC a7=>?_
 have⟨i9,ja,jb,jc⟩:=a7.f4 iX iY iZ i0
 have ed:=a7.g 0 38
 have⟨f9,ga,gb,gc⟩:=nw4 aC fK fL fM fN
 have⟨gd,gf,gg⟩:=nw3 aC fO fP fQ
 refine f6 _ _ ?_
 refine wb<| wk fun lj gh=>?_
 refine wA tr2 [] 58 [ve (.bool (strEq o ⟨#[38]⟩)),ve (.bool (strEq o ⟨#[38]⟩))] ct ?_ ?_
 exact .H ed (r_eqlS rfl)<| .B 0 .nil
 refine aftI ct f7 f8 fun lk ll bf cw cx aD aU=>?_
 have⟨ee,ef,eg,jd⟩:=aU.f4 i9 ja jb jc
 have eh:=aU.f1 ed
 have ei:=aU.g 1 39
 have⟨cy,cz,cA,cB⟩:=nw4 aD f9 ga gb gc
 have⟨cC,cD,cE⟩:=nw3 aD gd gf gg
 refine gh _ _ ?_
 rcases bc (strEq o ⟨#[38]⟩) with af|af
 have gi:=hB ei af
 refine wt gi<| wp_g0 [true] [] 58
  [ve (iv 1)] bf (.eq .nil) ?_ ?_
 exact .c .nil
 refine aftI bf cw cx fun lm ln gj gk gl aE bg=>?_
 have⟨je,jf,jg⟩:=bg.f3 ee ef eg
 have jh:=bg.g 0 11
 have⟨gm,gn,go,gp⟩:=nw4 aE cy cz cA cB
 have⟨gr,gs,gt⟩:=nw3 aE cC cD cE
 refine st_nil ?_
 exact aB _ _ ⟨gj,gk,gl,(jh.trans (congrArg (Value.int .i64) (show 1=opN o from by unfold opN; simp only [ab,ae,ac,ad,af,bsm] <;> rfl))),je,jf,jg,gm,gn,go,gp,gr,gs,gt⟩
 have gu:=hB ei af
 refine wf gu<| wk fun lo gv=>?_
 refine wA tr2 [] 58 [ve (.bool (strEq o ⟨#[124]⟩)),ve (.bool (strEq o ⟨#[124]⟩))] bf ?_ ?_
 exact .H eh (r_eqlS rfl)<| .B 0 .nil
 refine aftI bf cw cx fun lp lq bh cF cG aF aV=>?_
 have⟨ej,ek,el,ji⟩:=aV.f4 ee ef eg jd
 have em:=aV.f1 eh
 have en:=aV.g 1 41
 have⟨cH,cI,cJ,cK⟩:=nw4 aF cy cz cA cB
 have⟨cL,cM,cN⟩:=nw3 aF cC cD cE
 refine gv _ _ ?_
 rcases bc (strEq o ⟨#[124]⟩) with ag|ag
 have gw:=hB en ag
 refine wt gw<| wp_g0 [true] [] 58
  [ve (iv 2)] bh (.eq .nil) ?_ ?_
 exact .c .nil
 refine aftI bh cF cG fun lr ls gx gy gz aG bi=>?_
 have⟨jj,jk,jl⟩:=bi.f3 ej ek el
 have jm:=bi.g 0 11
 have⟨gA,gB,gC,gD⟩:=nw4 aG cH cI cJ cK
 have⟨gE,gF,gG⟩:=nw3 aG cL cM cN
 refine st_nil ?_
 exact aB _ _ ⟨gx,gy,gz,(jm.trans (congrArg (Value.int .i64) (show 2=opN o from by unfold opN; simp only [ab,ae,ac,ad,af,ag,bsm] <;> rfl))),jj,jk,jl,gA,gB,gC,gD,gE,gF,gG⟩
 have gH:=hB en ag
 refine wf gH<| wk fun lu gI=>?_
 refine wA tr2 [] 58 [ve (.bool (strEq o ⟨#[94]⟩)),ve (.bool (strEq o ⟨#[94]⟩))] bh ?_ ?_
 exact .H em (r_eqlS rfl)<| .B 0 .nil
 refine aftI bh cF cG fun lv lw bj cO cP aH aW=>?_
 have⟨eo,ep,er,jn⟩:=aW.f4 ej ek el ji
 have es:=aW.f1 em
 have et:=aW.g 1 43
 have⟨cQ,cR,cS,cU⟩:=nw4 aH cH cI cJ cK
 have⟨cV,cW,cX⟩:=nw3 aH cL cM cN
 refine gI _ _ ?_
 rcases bc (strEq o ⟨#[94]⟩) with ai|ai
 have gJ:=hB et ai
 refine wt gJ<| wp_g0 [true] [] 58
  [ve (iv 3)] bj (.eq .nil) ?_ ?_
 exact .c .nil
 refine aftI bj cO cP fun lx ly gK gL gM aI bk=>?_
 have⟨jo,jp,jq⟩:=bk.f3 eo ep er
 have jr:=bk.g 0 11
 have⟨gN,gO,gP,gQ⟩:=nw4 aI cQ cR cS cU
 have⟨gR,gS,gT⟩:=nw3 aI cV cW cX
 refine st_nil ?_
 exact aB _ _ ⟨gK,gL,gM,(jr.trans (congrArg (Value.int .i64) (show 3=opN o from by unfold opN; simp only [ab,ae,ac,ad,af,ag,ai,bsm] <;> rfl))),jo,jp,jq,gN,gO,gP,gQ,gR,gS,gT⟩
 have gU:=hB et ai
 refine wf gU<| wk fun lz gV=>?_
 refine wA tr2 [] 58 [ve (.bool (strEq o ⟨#[60,60]⟩)),ve (.bool (strEq o ⟨#[60,60]⟩))] bj ?_ ?_
 exact .H es (r_eqlS rfl)<| .B 0 .nil
 refine aftI bj cO cP fun lA lB bl cY cZ aJ aX=>?_
 have⟨eu,ev,ew,js⟩:=aX.f4 eo ep er jn
 have ex:=aX.f1 es
 have ey:=aX.g 1 45
 have⟨c0,c1,c3,c5⟩:=nw4 aJ cQ cR cS cU
 have⟨c9,da,db⟩:=nw3 aJ cV cW cX
 refine gV _ _ ?_
 rcases bc (strEq o ⟨#[60,60]⟩) with aK|aK
 have gW:=hB ey aK
 refine wt gW<| wp_g0 [true] [] 58
  [ve (iv 4)] bl (.eq .nil) ?_ ?_
 exact .c .nil
 refine aftI bl cY cZ fun lC lD gX gY gZ aL bm=>?_
 have⟨jt,ju,jv⟩:=bm.f3 eu ev ew
 have jw:=bm.g 0 11
 have⟨g1,g2,g3,g4⟩:=nw4 aL c0 c1 c3 c5
 have⟨g5,g6,g7⟩:=nw3 aL c9 da db
 refine st_nil ?_
 exact aB _ _ ⟨gX,gY,gZ,(jw.trans (congrArg (Value.int .i64) (show 4=opN o from by unfold opN; simp only [ab,ae,ac,ad,af,ag,ai,aK,bsm] <;> rfl))),jt,ju,jv,g1,g2,g3,g4,g5,g6,g7⟩
 have g8:=hB ey aK
 refine wf g8<| wk fun lE g9=>?_
 refine wA tr2 [] 58 [ve (.bool (strEq o ⟨#[62,62]⟩)),ve (.bool (strEq o ⟨#[62,62]⟩))] bl ?_ ?_
 exact .H ex (r_eqlS rfl)<| .B 0 .nil
 refine aftI bl cY cZ fun lF lG bn dc dd aM aY=>?_
 have⟨ez,eA,eB,jx⟩:=aY.f4 eu ev ew js
 have jy:=aY.f1 ex
 have eC:=aY.g 1 47
 have⟨de,df,dg,dh⟩:=nw4 aM c0 c1 c3 c5
 have⟨di,dj,dk⟩:=nw3 aM c9 da db
 refine g9 _ _ ?_
 rcases bc (strEq o ⟨#[62,62]⟩) with aZ|aZ
 have ha:=hB eC aZ
 refine wt ha<| wp_g0 [true] [] 58
  [ve (iv 5)] bn (.eq .nil) ?_ ?_
 exact .c .nil
 refine aftI bn dc dd fun lH lI hc hd hf aN bo=>?_
 have⟨jz,jA,jB⟩:=bo.f3 ez eA eB
 have jC:=bo.g 0 11
 have⟨hh,hi,hj,hl⟩:=nw4 aN de df dg dh
 have⟨ho,hr,hs⟩:=nw3 aN di dj dk
 refine st_nil ?_
 exact aB _ _ ⟨hc,hd,hf,(jC.trans (congrArg (Value.int .i64) (show 5=opN o from by unfold opN; simp only [ab,ae,ac,ad,af,ag,ai,aK,aZ,bsm] <;> rfl))),jz,jA,jB,hh,hi,hj,hl,ho,hr,hs⟩
 have ht:=hB eC aZ
 refine wf ht<| wk fun lJ hu=>?_
 refine wA tr2 [] 58 [ve (.bool (strEq o ⟨#[62,62,62]⟩)),ve (.bool (strEq o ⟨#[62,62,62]⟩))] bn ?_ ?_
 exact .H jy (r_eqlS rfl)<| .B 0 .nil
 refine aftI bn dc dd fun lK lL bV dl dm aO a8=>?_
 have⟨eD,eE,eF,jD⟩:=a8.f4 ez eA eB jx
 have eG:=a8.g 1 49
 have⟨dn,dp,dq,dr⟩:=nw4 aO de df dg dh
 have⟨ds,dt,dw⟩:=nw3 aO di dj dk
 refine hu _ _ ?_
 rcases bc (strEq o ⟨#[62,62,62]⟩) with a9|a9
 have hv:=hB eG a9
 refine wt hv<| wp_g0 [true] [] 58
  [ve (iv 6)] bV (.eq .nil) ?_ ?_
 exact .c .nil
 refine aftI bV dl dm fun lM lN hw hx hy aP bp=>?_
 have⟨jE,jF,jG⟩:=bp.f3 eD eE eF
 have jH:=bp.g 0 11
 have⟨hz,hA,hC,hD⟩:=nw4 aP dn dp dq dr
 have⟨hE,hF,hH⟩:=nw3 aP ds dt dw
 refine st_nil ?_
 exact aB _ _ ⟨hw,hx,hy,(jH.trans (congrArg (Value.int .i64) (show 6=opN o from by unfold opN; simp only [ab,ae,ac,ad,af,ag,ai,aK,aZ,a9,bsm] <;> rfl))),jE,jF,jG,hz,hA,hC,hD,hE,hF,hH⟩
 have hI:=hB eG a9
 refine wf hI<| ws ?_
 exact aB _ _ ⟨bV,dl,dm,(jD.trans (congrArg (Value.int .i64) (show 0=opN o from by unfold opN; simp only [ab,ae,ac,ad,af,ag,ai,aK,aZ,a9,bsm] <;> rfl))),eD,eE,eF,dn,dp,dq,dr,ds,dt,dw⟩
def binG_c_P (o:ByteArray) (v:Vl) (Av:Option Addr) (cv:Nat) (Bv:Option Addr) (dv:Nat) (u:Vl) (Au:Option Addr) (cu:Nat) (Bu:Option Addr) (du:Nat) (w:World) (en:Ending) (w':World):Prop:=∃ (Ar0:Option Addr) (cr0:Nat) (Ar1:Option Addr) (cr1:Nat),en=.returned (.tuple #[vv (binG o (cleanV v) (cleanV u)).1 Ar0 cr0 Ar1 cr1,iv ((binG o (cleanV v) (cleanV u)).2)])∧SRow w' .u32 Ar0 ((binG o (cleanV v) (cleanV u)).1.mag) cr0∧SRow w' .u16 Ar1 ((binG o (cleanV v) (cleanV u)).1.s) cr1∧New w w'
theorem binG_c (o:ByteArray) (v:Vl) (Av:Option Addr) (cv:Nat) (Bv:Option Addr) (dv:Nat) (u:Vl) (Au:Option Addr) (cu:Nat) (Bu:Option Addr) (du:Nat) (w:World) (hmv:SRow w .u32 Av v.mag cv) (hsv:SRow w .u16 Bv v.s dv) (hmu:SRow w .u32 Au u.mag cu) (hsu:SRow w .u16 Bu u.s du) (hvv:VOk v) (hvu:VOk u) (HT:ItoaOk w):Calls prog 12 #[.string o,vv v Av cv Bv dv,vv u Au cu Bu du] w (binG_c_P o v Av cv Bv dv u Au cu Bu du w):=by
 refine enter_abs func12 rfl fun a0 fG tK hp=>?_
 have fG:a0.tmps.size=120:=fG
 have fH:New w w:=Upd.refl _ _
 have hp0:a0.eval (.tmp 0)=.string o:=hp 0 _ rfl
 have hp1:a0.eval (.tmp 1)=vv v Av cv Bv dv:=hp 1 _ rfl
 have hp2:a0.eval (.tmp 2)=vv u Au cu Bu du:=hp 2 _ rfl
 refine wk fun K1 tL=>?_
 refine wB tr4 [] [] 120 [IsNew w 29 (c7 v Av cv Bv dv),IsNew w 29 (c7 u Au cu Bu du),IsNew w 29 z7,ve (iv 0)] [0,1,2] fG ?_ heN ?_
 exact .X hp1<| .X hp2<| .Y<| .c .nil
 refine aftI fG tK fH fun a2 w3 q9 tM c3 zb c5=>?_
 have h8:=c5.f1 hp0
 obtain⟨cy,h9,rf,iX⟩:=c5.G 0 4
 obtain⟨cJ,fI,rg,iY⟩:=c5.G 1 5
 obtain⟨aA,iZ,rh,ri⟩:=c5.G 2 6
 have hne21:=c5.ne 0 1 4 5 h9 fI
 have hne22:=c5.ne 0 2 4 6 h9 iZ
 have hne23:=c5.ne 1 2 5 6 fI iZ
 have vC:=Nat.le_trans fH.size rf
 have vD:=Nat.le_trans fH.size rg
 have vE:=Nat.le_trans fH.size rh
 refine tL _ _ <| wk fun zc rj=>?_
 refine wp_g0 [true,true,true,true,false,false] [(4,false),(5,false)] 120
  [ve (vv v Av cv Bv dv),
  (VP (cleanV v)),ve (vv u Au cu Bu du),
  (VP (cleanV u)),vt,vt] q9 (.eq (.cons (fun _ _ _ n ⟨_,_,_,_,e,h,i⟩=>⟨_,_,_,_,e,h.new_ n,i.new_ n⟩) (.eq (.cons (fun _ _ _ n ⟨_,_,_,_,e,h,i⟩=>⟨_,_,_,_,e,h.new_ n,i.new_ n⟩) (.tt (.tt .nil)))))) ?_ ?_
 refine .L9 h9 iX ?_
 refine .o1 (tkC rfl (noG rfl) rfl fun _ w hn k=>(by
  refine ⟨#[vv v Av cv Bv dv],_,args1 (k.eq1 0 10 rfl),fun w=>by kernel_rfl,clean_c v _ _ _ _ _ (hmv.new_ (c3.transNew hn)) (hsv.new_ (c3.transNew hn)),?_⟩
  rintro e w' ⟨A1,c2,A3,c4,rfl,hmo0,hmo1,hm⟩
  exact⟨_,rfl,hm,⟨A1,c2,A3,c4,rfl,hmo0,hmo1⟩⟩)) ?_
 refine .L9 fI iY ?_
 refine .o1 (tkC rfl (noG rfl) rfl fun _ w hn k=>(by
  refine ⟨#[vv u Au cu Bu du],_,args1 (k.eq1 2 12 rfl),fun w=>by kernel_rfl,clean_c u _ _ _ _ _ (hmu.new_ (c3.transNew hn)) (hsu.new_ (c3.transNew hn)),?_⟩
  rintro e w' ⟨A9,tR,tS,tT,rfl,hmo0,hmo1,hm⟩
  exact⟨_,rfl,hm,⟨A9,tR,tS,tT,rfl,hmo0,hmo1⟩⟩)) ?_
 exact .off<| .off .nil
 refine aftI q9 tM c3 fun ra zd i0 rk rl fz cI=>?_
 have⟨rb,rc,rd,tU⟩:=cI.f4 h8 h9 fI iZ
 obtain⟨au,an,av,ao,i1,rm,rn⟩:=cI.G 1 11
 have i1:ra.eval (.tmp 11)=vv (cleanV v) au an av ao:=i1
 obtain⟨aw,ap,ar,aq,i2,ro,rp⟩:=cI.G 3 13
 have i2:ra.eval (.tmp 13)=vv (cleanV u) aw ap ar aq:=i2
 have⟨c9,rq,rr⟩:=nw3 fz iX iY ri
 refine sS9 rc i1 c9 fun tV rs da i3=>?_
 have ru:=rm.fr c9 da
 have rv:=rn.fr c9 da
 have rx:=ro.fr c9 da
 have ry:=rp.fr c9 da
 have db:=i3 hne21.symm rq
 have rz:=i3 hne22.symm rr
 have rA:=rl.tR da
 refine sS9 rd i2 db fun tW rB dc i4=>?_
 have rD:=ru.fr db dc
 have rE:=rv.fr db dc
 have rF:=rx.fr db dc
 have rG:=ry.fr db dc
 have rH:=i4 hne21 rs
 have rI:=i4 hne23.symm rz
 have rJ:=rA.tR dc
 refine rj _ _ <| wk fun zg rK=>?_
 refine wk fun zh rL=>?_
 refine wA tr1 [] 120 [ve (.string o)] i0 ?_ ?_
 exact .M rb .nil
 refine aftI i0 rk rJ fun zi zj i5 rM mv cc dd=>?_
 have⟨tX,tY,tZ,t0⟩:=dd.f4 rb rc rd tU
 have re:=dd.g 0 14
 have⟨rN,rO,mw,mx⟩:=nw4 cc rH rB rI rD
 have⟨my,mz,mA⟩:=nw3 cc rE rF rG
 refine rL _ _ ?_
 refine wb<| wk fun vG mB=>?_
 refine wA tr2 [] 120 [ve (.bool (strEq o ⟨#[43]⟩)),ve (.bool (strEq o ⟨#[43]⟩))] i5 ?_ ?_
 exact .H re (r_eqlS rfl)<| .B 0 .nil
 refine aftI i5 rM mv fun vH vI bP dy dz bk bQ=>?_
 have⟨fA,de,dA,fB⟩:=bQ.f4 tX tY tZ t0
 have i6:=bQ.f1 re
 have i7:=bQ.g 1 15
 have⟨cz,cK,dB,dC⟩:=nw4 bk rN rO mw mx
 have⟨dD,dE,dF⟩:=nw3 bk my mz mA
 refine mB _ _ ?_
 rcases bc (strEq o ⟨#[43]⟩) with ab|ab
 have mC:=hB i7 ab
 refine wt mC<| wk fun vJ mD=>wk fun vK fJ=>?_
 rcases bc (decide (((cleanV v).k)=5)) with aB|aB
 have i8:=oT aB
 refine wA tr8 [] 120 [ve (pv cy),ve (iv ((cleanV v).k)),vT,vT,vU,vU,vU,vT] bP ?_ ?_
 exact .F de<| .J 0 isAgg3 cz<| .b 1 (r_eql aB)<| .N 2<| .S<| .S<| .S<| .T (fun k=>v_pickT rfl (k.eq1 3 20 rfl) rfl) .nil
 refine aftI bP dy dz fun vL vM fK mE fL bl cA=>?_
 have⟨vN,rP,rQ,rR⟩:=cA.f4 fA de dA fB
 have rS:=cA.g 7 24
 have⟨mF,mG,mH,mI⟩:=nw4 bl cz cK dB dC
 have⟨mJ,mK,mL⟩:=nw3 bl dD dE dF
 refine fJ _ _ ?_
 refine wt rS<| wk fun vO mM=>?_
 refine wp_g0 [true,true,true,true,true,false,false] [(5,false),(6,true)] 120
  [ve (vv (cleanV v) au an av ao),ve (vv (cleanV u) aw ap ar aq),(TP (joinV (cleanV v) (cleanV u)).1 ((joinV (cleanV v) (cleanV u)).2)),(fun (v_:Value) (W:World)=>∃ (df:Option Addr) (dg:Nat) (dh:Option Addr) (di:Nat),v_=vv (joinV (cleanV v) (cleanV u)).1 df dg dh di∧SRow W .u32 df ((joinV (cleanV v) (cleanV u)).1.mag) dg∧SRow W .u16 dh ((joinV (cleanV v) (cleanV u)).1.s) di),ve (iv ((joinV (cleanV v) (cleanV u)).2)),vt,vt] fK (.eq (.eq (.cons (fun _ _ _ n ⟨_,_,_,_,e,h,i⟩=>⟨_,_,_,_,e,h.new_ n,i.new_ n⟩) (.cons (fun _ _ _ n ⟨_,_,_,_,e,h,i⟩=>⟨_,_,_,_,e,h.new_ n,i.new_ n⟩) (.eq (.tt (.tt .nil))))))) ?_ ?_
 refine .L9 rP mF<| .L9 rQ mG ?_
 refine .o1 (tkC rfl (noG rfl) rfl fun _ w hn k=>(by
  refine ⟨#[vv (cleanV v) au an av ao,vv (cleanV u) aw ap ar aq],_,args2 (k.eq1 0 25 rfl) (k.eq1 1 26 rfl),fun w=>by kernel_rfl,join_c (cleanV v) _ _ _ _ (cleanV u) _ _ _ _ _ (mI.new_ hn) (mJ.new_ hn) (mK.new_ hn) (mL.new_ hn) hvv.clean hvu.clean (HT.up (fL.transNew hn)),?_⟩
  rintro e w' ⟨t1,t2,t3,t4,rfl,hmo0,hmo1,hm⟩
  exact⟨_,rfl,hm,⟨t1,t2,t3,t4,rfl,hmo0,hmo1⟩⟩)) ?_
 refine .o1 (tk rfl rfl fun _ w hn k=>(by
  obtain⟨t5,t6,t7,t8,t9,rT,rU⟩:=k.G 2 27
  exact⟨_,v_extract rfl t9 rfl,⟨t5,t6,t7,t8,rfl,rT,rU⟩⟩)) ?_
 refine .o1 (tk rfl rfl fun _ w hn k=>(by
  obtain⟨ar,zk,zl,zm,ua,vP,vQ⟩:=k.G 2 27
  exact⟨_,v_extract rfl ua rfl,rfl⟩)) ?_
 exact .off<| .off .nil
 refine aftI fK mE fL fun fC vR fM mN mO mP dG=>?_
 have i9:=dG.f1 rR
 obtain⟨cd,bm,ce,bn,dH,mQ,mR⟩:=dG.G 3 28
 have dH:fC.eval (.tmp 28)=vv (joinV (cleanV v) (cleanV u)).1 cd bm ce bn:=dH
 have ja:=dG.g 4 29
 have dI:=mH.new_ mP
 refine sS9 i9 dH dI fun rV mS dJ ur=>?_
 have mU:=mQ.fr dI dJ
 have mV:=mR.fr dI dJ
 have mW:=mO.tR dJ
 refine sP ja fM mN fun rW us mX bo rY=>?_
 have⟨rX,vV,vW⟩:=bo.q3 i9 dH ja
 refine mM _ _ ?_
 refine wp_ret (ret_k mX (v:=.tuple #[vv (joinV (cleanV v) (cleanV u)).1 cd bm ce bn,iv ((joinV (cleanV v) (cleanV u)).2)]) (res_ct rfl rX rY (l_agg isAgg29 sizeOf29 mS rfl)) ?_)
 have ai:(binG o (cleanV v) (cleanV u)).1.mag=(joinV (cleanV v) (cleanV u)).1.mag:=by first|rfl|(simp only [binG,ofT,ofN,truthG,Vl.z,eqT,Bool.true_or,Bool.false_or,Bool.or_true,Bool.or_false,ab,aB,bsm] <;> rfl)|(exfalso; omega)
 have aj:(binG o (cleanV v) (cleanV u)).1.s=(joinV (cleanV v) (cleanV u)).1.s:=by first|rfl|(simp only [binG,ofT,ofN,truthG,Vl.z,eqT,Bool.true_or,Bool.false_or,Bool.or_true,Bool.or_false,ab,aB,bsm] <;> rfl)|(exfalso; omega)
 exact⟨cd,bm,ce,bn,(by show Ending.returned (.tuple #[vv (joinV (cleanV v) (cleanV u)).1 cd bm ce bn,iv ((joinV (cleanV v) (cleanV u)).2)])=Ending.returned (.tuple #[vv (binG o (cleanV v) (cleanV u)).1 cd bm ce bn,iv ((binG o (cleanV v) (cleanV u)).2)]); (first|rfl|(simp only [binG,ofT,ofN,truthG,Vl.z,eqT,Bool.true_or,Bool.false_or,Bool.or_true,Bool.or_false,ab,aB,ai,aj,bsm] <;> rfl)|(exfalso; omega))),(by rw [ai]; exact mU),(by rw [aj]; exact mV),mW⟩
 have i8:=oF aB
 refine wA tr8 [] 120 [ve (pv cy),ve (iv ((cleanV v).k)),vF,vF,ve (pv cJ),ve (iv ((cleanV u).k)),ve (.bool (decide (((cleanV u).k)=5))),ve (.bool (decide (((cleanV u).k)=5)))] bP ?_ ?_
 exact .F de<| .J 0 isAgg3 cz<| .b 1 (r_eql aB)<| .N 2<| .gf (fun k=>k.eq1 3 20 rfl) (fun k=>k.fx 5 dA)<| .V (fun p k=>v_load rfl (k.eq1 4 21 rfl) (l_one isAgg3 ((cK.new_ p).cell 0)))<| .V (fun p k=>v_bin rfl (k.eq1 5 22 rfl) rfl (fun _=>rfl) (r_eql rfl))<| .T (fun k=>v_pickF rfl (k.eq1 3 20 rfl) (k.eq1 6 23 rfl)) .nil
 refine aftI bP dy dz fun vX vY cL fN dK bp cB=>?_
 have⟨rZ,jd,je,jf⟩:=cB.f4 fA de dA fB
 have jg:=cB.g 7 24
 have⟨fO,fP,fQ,fR⟩:=nw4 bp cz cK dB dC
 have⟨fS,fT,fU⟩:=nw3 bp dD dE dF
 refine fJ _ _ ?_
 rcases bc (decide (((cleanV u).k)=5)) with aG|aG
 have jh:=oT aG
 have mY:=hB jg aG
 refine wt mY<| wk fun vZ mZ=>?_
 refine wp_g0 [true,true,true,true,true,false,false] [(5,false),(6,true)] 120
  [ve (vv (cleanV v) au an av ao),ve (vv (cleanV u) aw ap ar aq),(TP (joinV (cleanV v) (cleanV u)).1 ((joinV (cleanV v) (cleanV u)).2)),(fun (v_:Value) (W:World)=>∃ (dj:Option Addr) (dk:Nat) (dl:Option Addr) (dm:Nat),v_=vv (joinV (cleanV v) (cleanV u)).1 dj dk dl dm∧SRow W .u32 dj ((joinV (cleanV v) (cleanV u)).1.mag) dk∧SRow W .u16 dl ((joinV (cleanV v) (cleanV u)).1.s) dm),ve (iv ((joinV (cleanV v) (cleanV u)).2)),vt,vt] cL (.eq (.eq (.cons (fun _ _ _ n ⟨_,_,_,_,e,h,i⟩=>⟨_,_,_,_,e,h.new_ n,i.new_ n⟩) (.cons (fun _ _ _ n ⟨_,_,_,_,e,h,i⟩=>⟨_,_,_,_,e,h.new_ n,i.new_ n⟩) (.eq (.tt (.tt .nil))))))) ?_ ?_
 refine .L9 jd fO<| .L9 je fP ?_
 refine .o1 (tkC rfl (noG rfl) rfl fun _ w hn k=>(by
  refine ⟨#[vv (cleanV v) au an av ao,vv (cleanV u) aw ap ar aq],_,args2 (k.eq1 0 25 rfl) (k.eq1 1 26 rfl),fun w=>by kernel_rfl,join_c (cleanV v) _ _ _ _ (cleanV u) _ _ _ _ _ (fR.new_ hn) (fS.new_ hn) (fT.new_ hn) (fU.new_ hn) hvv.clean hvu.clean (HT.up (dK.transNew hn)),?_⟩
  rintro e w' ⟨ub,uc,ud,ue,rfl,hmo0,hmo1,hm⟩
  exact⟨_,rfl,hm,⟨ub,uc,ud,ue,rfl,hmo0,hmo1⟩⟩)) ?_
 refine .o1 (tk rfl rfl fun _ w hn k=>(by
  obtain⟨uf,ug,uh,ui,uj,r0,r1⟩:=k.G 2 27
  exact⟨_,v_extract rfl uj rfl,⟨uf,ug,uh,ui,rfl,r0,r1⟩⟩)) ?_
 refine .o1 (tk rfl rfl fun _ w hn k=>(by
  obtain⟨zn,zo,zp,zq,uk,v0,v1⟩:=k.G 2 27
  exact⟨_,v_extract rfl uk rfl,rfl⟩)) ?_
 exact .off<| .off .nil
 refine aftI cL fN dK fun fD v2 fV m0 m1 m2 dL=>?_
 have ji:=dL.f1 jf
 obtain⟨cf,bq,ch,br,dM,m3,m4⟩:=dL.G 3 28
 have dM:fD.eval (.tmp 28)=vv (joinV (cleanV v) (cleanV u)).1 cf bq ch br:=dM
 have jj:=dL.g 4 29
 have dN:=fQ.new_ m2
 refine sS9 ji dM dN fun r2 m5 dO ut=>?_
 have m7:=m3.fr dN dO
 have m8:=m4.fr dN dO
 have m9:=m1.tR dO
 refine sP jj fV m0 fun r3 uu na bs r5=>?_
 have⟨r4,v4,v5⟩:=bs.q3 ji dM jj
 refine mZ _ _ ?_
 refine wp_ret (ret_k na (v:=.tuple #[vv (joinV (cleanV v) (cleanV u)).1 cf bq ch br,iv ((joinV (cleanV v) (cleanV u)).2)]) (res_ct rfl r4 r5 (l_agg isAgg29 sizeOf29 m5 rfl)) ?_)
 have ai:(binG o (cleanV v) (cleanV u)).1.mag=(joinV (cleanV v) (cleanV u)).1.mag:=by first|rfl|(simp only [binG,ofT,ofN,truthG,Vl.z,eqT,Bool.true_or,Bool.false_or,Bool.or_true,Bool.or_false,ab,aB,aG,bsm] <;> rfl)|(exfalso; omega)
 have aj:(binG o (cleanV v) (cleanV u)).1.s=(joinV (cleanV v) (cleanV u)).1.s:=by first|rfl|(simp only [binG,ofT,ofN,truthG,Vl.z,eqT,Bool.true_or,Bool.false_or,Bool.or_true,Bool.or_false,ab,aB,aG,bsm] <;> rfl)|(exfalso; omega)
 exact⟨cf,bq,ch,br,(by show Ending.returned (.tuple #[vv (joinV (cleanV v) (cleanV u)).1 cf bq ch br,iv ((joinV (cleanV v) (cleanV u)).2)])=Ending.returned (.tuple #[vv (binG o (cleanV v) (cleanV u)).1 cf bq ch br,iv ((binG o (cleanV v) (cleanV u)).2)]); (first|rfl|(simp only [binG,ofT,ofN,truthG,Vl.z,eqT,Bool.true_or,Bool.false_or,Bool.or_true,Bool.or_false,ab,aB,aG,ai,aj,bsm] <;> rfl)|(exfalso; omega))),(by rw [ai]; exact m7),(by rw [aj]; exact m8),m9⟩
 have jh:=oF aG
 have nb:=hB jg aG
 refine wf nb<| ws ?_
 refine mD _ _ ?_
 refine wk fun v6 nc=>?_
 refine wp_g0 [true,true,true,true,true,true,false,false] [(6,false),(7,true)] 120
  [ve (.string o),ve (vv (cleanV v) au an av ao),ve (vv (cleanV u) aw ap ar aq),(TP (sumsG o (cleanV v) (cleanV u)).1 ((sumsG o (cleanV v) (cleanV u)).2)),(fun (v_:Value) (W:World)=>∃ (ci:Option Addr) (cj:Nat) (cl:Option Addr) (cm:Nat),v_=vv (sumsG o (cleanV v) (cleanV u)).1 ci cj cl cm∧SRow W .u32 ci ((sumsG o (cleanV v) (cleanV u)).1.mag) cj∧SRow W .u16 cl ((sumsG o (cleanV v) (cleanV u)).1.s) cm),ve (iv ((sumsG o (cleanV v) (cleanV u)).2)),vt,vt] cL (.eq (.eq (.eq (.cons (fun _ _ _ n ⟨_,_,_,_,e,h,i⟩=>⟨_,_,_,_,e,h.new_ n,i.new_ n⟩) (.cons (fun _ _ _ n ⟨_,_,_,_,e,h,i⟩=>⟨_,_,_,_,e,h.new_ n,i.new_ n⟩) (.eq (.tt (.tt .nil)))))))) ?_ ?_
 refine .M rZ<| .L9 jd fO<| .L9 je fP ?_
 refine .o1 (tkC rfl (noG rfl) rfl fun _ w hn k=>(by
  refine ⟨#[.string o,vv (cleanV v) au an av ao,vv (cleanV u) aw ap ar aq],_,args3 (k.eq1 0 30 rfl) (k.eq1 1 31 rfl) (k.eq1 2 32 rfl),fun w=>by kernel_rfl,sumsG_c o (cleanV v) _ _ _ _ (cleanV u) _ _ _ _ _ (fR.new_ hn) (fS.new_ hn) (fT.new_ hn) (fU.new_ hn) hvv.clean hvu.clean,?_⟩
  rintro e w' ⟨ul,um,un,r6,rfl,hmo0,hmo1,hm⟩
  exact⟨_,rfl,hm,⟨ul,um,un,r6,rfl,hmo0,hmo1⟩⟩)) ?_
 refine .o1 (tk rfl rfl fun _ w hn k=>(by
  obtain⟨r7,r8,r9,sa,sb,nd,nf⟩:=k.G 3 33
  exact⟨_,v_extract rfl sb rfl,⟨r7,r8,r9,sa,rfl,nd,nf⟩⟩)) ?_
 refine .o1 (tk rfl rfl fun _ w hn k=>(by
  obtain⟨v7,v8,v9,xa,sc,uv,uw⟩:=k.G 3 33
  exact⟨_,v_extract rfl sc rfl,rfl⟩)) ?_
 exact .off<| .off .nil
 refine aftI cL fN dK fun fE xb fW ng nh ni dP=>?_
 have jm:=dP.f1 jf
 obtain⟨cn,bt,co,bu,dQ,nj,nl⟩:=dP.G 4 34
 have dQ:fE.eval (.tmp 34)=vv (sumsG o (cleanV v) (cleanV u)).1 cn bt co bu:=dQ
 have jn:=dP.g 5 35
 have dR:=fQ.new_ ni
 refine sS9 jm dQ dR fun sd nm dS ux=>?_
 have nq:=nj.fr dR dS
 have nr:=nl.fr dR dS
 have ns:=nh.tR dS
 refine sP jn fW ng fun se uy nt bv sg=>?_
 have⟨sf,xd,xe⟩:=bv.q3 jm dQ jn
 refine nc _ _ ?_
 refine wp_ret (ret_k nt (v:=.tuple #[vv (sumsG o (cleanV v) (cleanV u)).1 cn bt co bu,iv ((sumsG o (cleanV v) (cleanV u)).2)]) (res_ct rfl sf sg (l_agg isAgg29 sizeOf29 nm rfl)) ?_)
 have ai:(binG o (cleanV v) (cleanV u)).1.mag=(sumsG o (cleanV v) (cleanV u)).1.mag:=by first|rfl|(simp only [binG,ofT,ofN,truthG,Vl.z,eqT,Bool.true_or,Bool.false_or,Bool.or_true,Bool.or_false,ab,aB,aG,bsm] <;> rfl)|(exfalso; omega)
 have aj:(binG o (cleanV v) (cleanV u)).1.s=(sumsG o (cleanV v) (cleanV u)).1.s:=by first|rfl|(simp only [binG,ofT,ofN,truthG,Vl.z,eqT,Bool.true_or,Bool.false_or,Bool.or_true,Bool.or_false,ab,aB,aG,bsm] <;> rfl)|(exfalso; omega)
 exact⟨cn,bt,co,bu,(by show Ending.returned (.tuple #[vv (sumsG o (cleanV v) (cleanV u)).1 cn bt co bu,iv ((sumsG o (cleanV v) (cleanV u)).2)])=Ending.returned (.tuple #[vv (binG o (cleanV v) (cleanV u)).1 cn bt co bu,iv ((binG o (cleanV v) (cleanV u)).2)]); (first|rfl|(simp only [binG,ofT,ofN,truthG,Vl.z,eqT,Bool.true_or,Bool.false_or,Bool.or_true,Bool.or_false,ab,aB,aG,ai,aj,bsm] <;> rfl)|(exfalso; omega))),(by rw [ai]; exact nq),(by rw [aj]; exact nr),ns⟩
 have nu:=hB i7 ab
 refine wf nu<| wp_seq_j (fun (aa:Act) (ww:World)=>aa.tmps.size=120∧aa.defers=[]∧New w ww∧aa.eval (.tmp 36)=.bool (arT o)∧aa.eval (.tmp 0)=.string o∧aa.eval (.tmp 4)=pv cy∧aa.eval (.tmp 5)=pv cJ∧aa.eval (.tmp 6)=pv aA∧aa.eval (.tmp 14)=.string o∧Blk ww cy 29 (c7 (cleanV v) au an av ao)∧Blk ww cJ 29 (c7 (cleanV u) aw ap ar aq)∧Blk ww aA 29 z7∧SRow ww .u32 au ((cleanV v).mag) an∧SRow ww .u16 av ((cleanV v).s) ao∧SRow ww .u32 aw ((cleanV u).mag) ap∧SRow ww .u16 ar ((cleanV u).s) aq) ?_ ?_
 rintro xf xg ⟨cM,fX,fY,jq,jr,js,jt,ju,jv,fZ,f0,f1,f2,f3,f4,f5⟩
 rcases bc ((arT o)) with ac|ac
 have nx:=hB jq ac
 refine wt nx<| wk fun xh ny=>?_
 refine wp_g0 [true,true,true,true,true,true,false,false] [(6,false),(7,true)] 120
  [ve (.string o),ve (vv (cleanV v) au an av ao),ve (vv (cleanV u) aw ap ar aq),(TP (sumsG o (cleanV v) (cleanV u)).1 ((sumsG o (cleanV v) (cleanV u)).2)),(fun (v_:Value) (W:World)=>∃ (cp:Option Addr) (cq:Nat) (cr:Option Addr) (ct:Nat),v_=vv (sumsG o (cleanV v) (cleanV u)).1 cp cq cr ct∧SRow W .u32 cp ((sumsG o (cleanV v) (cleanV u)).1.mag) cq∧SRow W .u16 cr ((sumsG o (cleanV v) (cleanV u)).1.s) ct),ve (iv ((sumsG o (cleanV v) (cleanV u)).2)),vt,vt] cM (.eq (.eq (.eq (.cons (fun _ _ _ n ⟨_,_,_,_,e,h,i⟩=>⟨_,_,_,_,e,h.new_ n,i.new_ n⟩) (.cons (fun _ _ _ n ⟨_,_,_,_,e,h,i⟩=>⟨_,_,_,_,e,h.new_ n,i.new_ n⟩) (.eq (.tt (.tt .nil)))))))) ?_ ?_
 refine .M jr<| .L9 js fZ<| .L9 jt f0 ?_
 refine .o1 (tkC rfl (noG rfl) rfl fun _ w hn k=>(by
  refine ⟨#[.string o,vv (cleanV v) au an av ao,vv (cleanV u) aw ap ar aq],_,args3 (k.eq1 0 41 rfl) (k.eq1 1 42 rfl) (k.eq1 2 43 rfl),fun w=>by kernel_rfl,sumsG_c o (cleanV v) _ _ _ _ (cleanV u) _ _ _ _ _ (f2.new_ hn) (f3.new_ hn) (f4.new_ hn) (f5.new_ hn) hvv.clean hvu.clean,?_⟩
  rintro e w' ⟨sh,si,sj,sl,rfl,hmo0,hmo1,hm⟩
  exact⟨_,rfl,hm,⟨sh,si,sj,sl,rfl,hmo0,hmo1⟩⟩)) ?_
 refine .o1 (tk rfl rfl fun _ w hn k=>(by
  obtain⟨sm,sn,so,sp,sq,nz,nA⟩:=k.G 3 44
  exact⟨_,v_extract rfl sq rfl,⟨sm,sn,so,sp,rfl,nz,nA⟩⟩)) ?_
 refine .o1 (tk rfl rfl fun _ w hn k=>(by
  obtain⟨xi,xj,xk,xl,sr,uz,uA⟩:=k.G 3 44
  exact⟨_,v_extract rfl sr rfl,rfl⟩)) ?_
 exact .off<| .off .nil
 refine aftI cM fX fY fun fF xm f6 nB nC nD dT=>?_
 have jw:=dT.f1 ju
 obtain⟨cw,bw,cx,bx,dU,nE,nF⟩:=dT.G 4 45
 have dU:fF.eval (.tmp 45)=vv (sumsG o (cleanV v) (cleanV u)).1 cw bw cx bx:=dU
 have jx:=dT.g 5 46
 have dV:=f1.new_ nD
 refine sS9 jw dU dV fun ss nG dW uB=>?_
 have nI:=nE.fr dV dW
 have nJ:=nF.fr dV dW
 have nK:=nC.tR dW
 refine sP jx f6 nB fun st uC nL bz sx=>?_
 have⟨sw,xo,xp⟩:=bz.q3 jw dU jx
 refine ny _ _ ?_
 refine wp_ret (ret_k nL (v:=.tuple #[vv (sumsG o (cleanV v) (cleanV u)).1 cw bw cx bx,iv ((sumsG o (cleanV v) (cleanV u)).2)]) (res_ct rfl sw sx (l_agg isAgg29 sizeOf29 nG rfl)) ?_)
 have ai:(binG o (cleanV v) (cleanV u)).1.mag=(sumsG o (cleanV v) (cleanV u)).1.mag:=by first|rfl|(simp only [binG,ofT,ofN,truthG,Vl.z,eqT,Bool.true_or,Bool.false_or,Bool.or_true,Bool.or_false,ab,ac,bsm] <;> rfl)|(exfalso; omega)
 have aj:(binG o (cleanV v) (cleanV u)).1.s=(sumsG o (cleanV v) (cleanV u)).1.s:=by first|rfl|(simp only [binG,ofT,ofN,truthG,Vl.z,eqT,Bool.true_or,Bool.false_or,Bool.or_true,Bool.or_false,ab,ac,bsm] <;> rfl)|(exfalso; omega)
 exact⟨cw,bw,cx,bx,(by show Ending.returned (.tuple #[vv (sumsG o (cleanV v) (cleanV u)).1 cw bw cx bx,iv ((sumsG o (cleanV v) (cleanV u)).2)])=Ending.returned (.tuple #[vv (binG o (cleanV v) (cleanV u)).1 cw bw cx bx,iv ((binG o (cleanV v) (cleanV u)).2)]); (first|rfl|(simp only [binG,ofT,ofN,truthG,Vl.z,eqT,Bool.true_or,Bool.false_or,Bool.or_true,Bool.or_false,ab,ac,ai,aj,bsm] <;> rfl)|(exfalso; omega))),(by rw [ai]; exact nI),(by rw [aj]; exact nJ),nK⟩
 have nM:=hB jq ac
 refine wf nM<| wp_seq_j (fun (aa:Act) (ww:World)=>aa.tmps.size=120∧aa.defers=[]∧New w ww∧aa.eval (.tmp 47)=.bool (biT o)∧aa.eval (.tmp 0)=.string o∧aa.eval (.tmp 4)=pv cy∧aa.eval (.tmp 5)=pv cJ∧aa.eval (.tmp 6)=pv aA∧aa.eval (.tmp 14)=.string o∧Blk ww cy 29 (c7 (cleanV v) au an av ao)∧Blk ww cJ 29 (c7 (cleanV u) aw ap ar aq)∧Blk ww aA 29 z7∧SRow ww .u32 au ((cleanV v).mag) an∧SRow ww .u16 av ((cleanV v).s) ao∧SRow ww .u32 aw ((cleanV u).mag) ap∧SRow ww .u16 ar ((cleanV u).s) aq) ?_ ?_
 rintro xq xr ⟨cN,f7,f8,jA,jB,jC,jD,jE,jF,f9,ga,gb,gc,gd,gg,gh⟩
 rcases bc ((biT o)) with ad|ad
 have nN:=hB jA ad
 refine wt nN<| wk fun xs nO=>?_
 refine wA [true,true,true,true,true,true,false,false] [(6,false),(7,true)] 120 [ve (.string o),ve (vv (cleanV v) au an av ao),ve (vv (cleanV u) aw ap ar aq),ve (.tuple #[vv (Vl.mk (bitsG o (cleanV v) (cleanV u)).1 (bitsG o (cleanV v) (cleanV u)).2.1.k (bitsG o (cleanV v) (cleanV u)).2.1.n false [] [] 0) none 0 none 0,iv ((bitsG o (cleanV v) (cleanV u)).2.2)]),ve (vv (Vl.mk (bitsG o (cleanV v) (cleanV u)).1 (bitsG o (cleanV v) (cleanV u)).2.1.k (bitsG o (cleanV v) (cleanV u)).2.1.n false [] [] 0) none 0 none 0),ve (iv ((bitsG o (cleanV v) (cleanV u)).2.2)),vt,vt] cN ?_ ?_
 exact .M jB<| .L9 jC f9<| .L9 jD ga<| .D (fun k=>args3 (k.eq1 0 54 rfl) (k.eq1 1 55 rfl) (k.eq1 2 56 rfl)) (fun p=>bitsG_c o (cleanV v) _ _ _ _ (cleanV u) _ _ _ _ _ (gc.new_ p) (gd.new_ p) (gg.new_ p) (gh.new_ p) hvv.clean hvu.clean)<| .E 3<| .E 3<| .off<| .off .nil
 refine aftI cN f7 f8 fun jG xt gi nP nQ nR dX=>?_
 have jH:=dX.f1 jE
 have jI:=dX.g 4 58
 have jJ:=dX.g 5 59
 have nS:=gb.new_ nR
 refine sS9 jH jI nS fun sy nU nT uD=>?_
 have nW:=nQ.tR nT
 refine sP jJ gi nP fun sz uE nX bA sB=>?_
 have⟨sA,xv,xw⟩:=bA.q3 jH jI jJ
 refine nO _ _ ?_
 refine wp_ret (ret_k nX (res9 sA sB nU) ?_)
 exact rV (by first|rfl|(simp only [binG,ofT,ofN,truthG,Vl.z,eqT,Bool.true_or,Bool.false_or,Bool.or_true,Bool.or_false,ab,ac,ad,bsm] <;> rfl)|(exfalso; omega)) nW
 have nY:=hB jA ad
 refine wf nY<| wk fun xx nZ=>?_
 refine wA tr2 [] 120 [ve (.bool (strEq o ⟨#[60]⟩)),ve (.bool (strEq o ⟨#[60]⟩))] cN ?_ ?_
 exact .H jF (r_eqlS rfl)<| .B 0 .nil
 refine aftI cN f7 f8 fun xy xz cO gj gk bB bR=>?_
 have⟨sC,jM,jN,jO⟩:=bR.f4 jB jC jD jE
 have jP:=bR.f1 jF
 have jQ:=bR.g 1 60
 have⟨gl,gm,gn,go⟩:=nw4 bB f9 ga gb gc
 have⟨gp,gq,gr⟩:=nw3 bB gd gg gh
 refine nZ _ _ ?_
 rcases bc (strEq o ⟨#[60]⟩) with ae|ae
 have n0:=hB jQ ae
 refine wt n0<| wk fun xA n1=>?_
 refine wA [true,true,true,true,true,false,false] [(5,false),(6,true)] 120 [ve (vv (cleanV v) au an av ao),ve (vv (cleanV u) aw ap ar aq),ve (.tuple #[vv (Vl.mk (lessT (cleanV v) (cleanV u) false false).1 0 0 false [] [] (lessT (cleanV v) (cleanV u) false false).2.1) none 0 none 0,iv ((lessT (cleanV v) (cleanV u) false false).2.2)]),ve (vv (Vl.mk (lessT (cleanV v) (cleanV u) false false).1 0 0 false [] [] (lessT (cleanV v) (cleanV u) false false).2.1) none 0 none 0),ve (iv ((lessT (cleanV v) (cleanV u) false false).2.2)),vt,vt] cO ?_ ?_
 exact .L9 jM gl<| .L9 jN gm<| .D (fun k=>args4 (k.eq1 0 62 rfl) (k.eq1 1 63 rfl) rfl rfl) (fun p=>less_c (cleanV v) _ _ _ _ (cleanV u) _ _ _ _ false false _ (go.new_ p) (gp.new_ p) (gq.new_ p) (gr.new_ p) hvv.clean hvu.clean)<| .E 2<| .E 2<| .off<| .off .nil
 refine aftI cO gj gk fun jR xB gs n2 n3 n4 dY=>?_
 have jS:=dY.f1 jO
 have jT:=dY.g 3 65
 have jU:=dY.g 4 66
 have n5:=gn.new_ n4
 refine sS9 jS jT n5 fun sD n7 n6 uF=>?_
 have n9:=n3.tR n6
 refine sP jU gs n2 fun sE uG oa bC sG=>?_
 have⟨sF,xD,xE⟩:=bC.q3 jS jT jU
 refine n1 _ _ ?_
 refine wp_ret (ret_k oa (res9 sF sG n7) ?_)
 exact rV (by first|rfl|(simp only [binG,ofT,ofN,truthG,Vl.z,eqT,Bool.true_or,Bool.false_or,Bool.or_true,Bool.or_false,ab,ac,ad,ae,bsm] <;> rfl)|(exfalso; omega)) n9
 have ob:=hB jQ ae
 refine wf ob<| wk fun xF oc=>?_
 refine wA tr2 [] 120 [ve (.bool (strEq o ⟨#[62]⟩)),ve (.bool (strEq o ⟨#[62]⟩))] cO ?_ ?_
 exact .H jP (r_eqlS rfl)<| .B 0 .nil
 refine aftI cO gj gk fun xG xH cP gt gu bD bS=>?_
 have⟨sH,jX,jY,jZ⟩:=bS.f4 sC jM jN jO
 have j0:=bS.f1 jP
 have j1:=bS.g 1 67
 have⟨gv,gw,gx,gy⟩:=nw4 bD gl gm gn go
 have⟨gz,gA,gB⟩:=nw3 bD gp gq gr
 refine oc _ _ ?_
 rcases bc (strEq o ⟨#[62]⟩) with af|af
 have od:=hB j1 af
 refine wt od<| wk fun xI oe=>?_
 refine wA [true,true,true,true,true,false,false] [(5,false),(6,true)] 120 [ve (vv (cleanV v) au an av ao),ve (vv (cleanV u) aw ap ar aq),ve (.tuple #[vv (Vl.mk (lessT (cleanV v) (cleanV u) true false).1 0 0 false [] [] (lessT (cleanV v) (cleanV u) true false).2.1) none 0 none 0,iv ((lessT (cleanV v) (cleanV u) true false).2.2)]),ve (vv (Vl.mk (lessT (cleanV v) (cleanV u) true false).1 0 0 false [] [] (lessT (cleanV v) (cleanV u) true false).2.1) none 0 none 0),ve (iv ((lessT (cleanV v) (cleanV u) true false).2.2)),vt,vt] cP ?_ ?_
 exact .L9 jX gv<| .L9 jY gw<| .D (fun k=>args4 (k.eq1 0 69 rfl) (k.eq1 1 70 rfl) rfl rfl) (fun p=>less_c (cleanV v) _ _ _ _ (cleanV u) _ _ _ _ true false _ (gy.new_ p) (gz.new_ p) (gA.new_ p) (gB.new_ p) hvv.clean hvu.clean)<| .E 2<| .E 2<| .off<| .off .nil
 refine aftI cP gt gu fun j2 xJ gC og oh oi dZ=>?_
 have j3:=dZ.f1 jZ
 have j4:=dZ.g 3 72
 have j5:=dZ.g 4 73
 have oj:=gx.new_ oi
 refine sS9 j3 j4 oj fun sI ol ok uH=>?_
 have oo:=oh.tR ok
 refine sP j5 gC og fun sJ uI op bE sL=>?_
 have⟨sK,xL,xM⟩:=bE.q3 j3 j4 j5
 refine oe _ _ ?_
 refine wp_ret (ret_k op (res9 sK sL ol) ?_)
 exact rV (by first|rfl|(simp only [binG,ofT,ofN,truthG,Vl.z,eqT,Bool.true_or,Bool.false_or,Bool.or_true,Bool.or_false,ab,ac,ad,ae,af,bsm] <;> rfl)|(exfalso; omega)) oo
 have oq:=hB j1 af
 refine wf oq<| wk fun xN os=>?_
 refine wA tr2 [] 120 [ve (.bool (strEq o ⟨#[60,61]⟩)),ve (.bool (strEq o ⟨#[60,61]⟩))] cP ?_ ?_
 exact .H j0 (r_eqlS rfl)<| .B 0 .nil
 refine aftI cP gt gu fun xO xP cQ gD gE bF bT=>?_
 have⟨sM,j8,j9,ka⟩:=bT.f4 sH jX jY jZ
 have kb:=bT.f1 j0
 have kc:=bT.g 1 74
 have⟨gF,gG,gH,gI⟩:=nw4 bF gv gw gx gy
 have⟨gJ,gK,gL⟩:=nw3 bF gz gA gB
 refine os _ _ ?_
 rcases bc (strEq o ⟨#[60,61]⟩) with ag|ag
 have ot:=hB kc ag
 refine wt ot<| wk fun xQ ou=>?_
 refine wA [true,true,true,true,true,false,false] [(5,false),(6,true)] 120 [ve (vv (cleanV v) au an av ao),ve (vv (cleanV u) aw ap ar aq),ve (.tuple #[vv (Vl.mk (lessT (cleanV v) (cleanV u) true true).1 0 0 false [] [] (lessT (cleanV v) (cleanV u) true true).2.1) none 0 none 0,iv ((lessT (cleanV v) (cleanV u) true true).2.2)]),ve (vv (Vl.mk (lessT (cleanV v) (cleanV u) true true).1 0 0 false [] [] (lessT (cleanV v) (cleanV u) true true).2.1) none 0 none 0),ve (iv ((lessT (cleanV v) (cleanV u) true true).2.2)),vt,vt] cQ ?_ ?_
 exact .L9 j8 gF<| .L9 j9 gG<| .D (fun k=>args4 (k.eq1 0 76 rfl) (k.eq1 1 77 rfl) rfl rfl) (fun p=>less_c (cleanV v) _ _ _ _ (cleanV u) _ _ _ _ true true _ (gI.new_ p) (gJ.new_ p) (gK.new_ p) (gL.new_ p) hvv.clean hvu.clean)<| .E 2<| .E 2<| .off<| .off .nil
 refine aftI cQ gD gE fun kd xR gM ov ow ox d0=>?_
 have ke:=d0.f1 ka
 have kf:=d0.g 3 79
 have kg:=d0.g 4 80
 have oy:=gH.new_ ox
 refine sS9 ke kf oy fun sN oA oz uJ=>?_
 have oC:=ow.tR oz
 refine sP kg gM ov fun sO uK oD bG sQ=>?_
 have⟨sP,xT,xU⟩:=bG.q3 ke kf kg
 refine ou _ _ ?_
 refine wp_ret (ret_k oD (res9 sP sQ oA) ?_)
 exact rV (by first|rfl|(simp only [binG,ofT,ofN,truthG,Vl.z,eqT,Bool.true_or,Bool.false_or,Bool.or_true,Bool.or_false,ab,ac,ad,ae,af,ag,bsm] <;> rfl)|(exfalso; omega)) oC
 have oE:=hB kc ag
 refine wf oE<| wk fun xV oG=>?_
 refine wA tr2 [] 120 [ve (.bool (strEq o ⟨#[62,61]⟩)),ve (.bool (strEq o ⟨#[62,61]⟩))] cQ ?_ ?_
 exact .H kb (r_eqlS rfl)<| .B 0 .nil
 refine aftI cQ gD gE fun xW xX cR gN gO bH bU=>?_
 have⟨sR,kj,kk,kl⟩:=bU.f4 sM j8 j9 ka
 have km:=bU.f1 kb
 have kn:=bU.g 1 81
 have⟨gP,gQ,gR,gS⟩:=nw4 bH gF gG gH gI
 have⟨gT,gU,gV⟩:=nw3 bH gJ gK gL
 refine oG _ _ ?_
 rcases bc (strEq o ⟨#[62,61]⟩) with ah|ah
 have oH:=hB kn ah
 refine wt oH<| wk fun xY oI=>?_
 refine wA [true,true,true,true,true,false,false] [(5,false),(6,true)] 120 [ve (vv (cleanV v) au an av ao),ve (vv (cleanV u) aw ap ar aq),ve (.tuple #[vv (Vl.mk (lessT (cleanV v) (cleanV u) false true).1 0 0 false [] [] (lessT (cleanV v) (cleanV u) false true).2.1) none 0 none 0,iv ((lessT (cleanV v) (cleanV u) false true).2.2)]),ve (vv (Vl.mk (lessT (cleanV v) (cleanV u) false true).1 0 0 false [] [] (lessT (cleanV v) (cleanV u) false true).2.1) none 0 none 0),ve (iv ((lessT (cleanV v) (cleanV u) false true).2.2)),vt,vt] cR ?_ ?_
 exact .L9 kj gP<| .L9 kk gQ<| .D (fun k=>args4 (k.eq1 0 83 rfl) (k.eq1 1 84 rfl) rfl rfl) (fun p=>less_c (cleanV v) _ _ _ _ (cleanV u) _ _ _ _ false true _ (gS.new_ p) (gT.new_ p) (gU.new_ p) (gV.new_ p) hvv.clean hvu.clean)<| .E 2<| .E 2<| .off<| .off .nil
 refine aftI cR gN gO fun ko xZ gW oJ oK oL d1=>?_
 have kp:=d1.f1 kl
 have kq:=d1.g 3 86
 have kr:=d1.g 4 87
 have oM:=gR.new_ oL
 refine sS9 kp kq oM fun sS oO oN uL=>?_
 have oQ:=oK.tR oN
 refine sP kr gW oJ fun sT uM oR bI sV=>?_
 have⟨sU,x1,x2⟩:=bI.q3 kp kq kr
 refine oI _ _ ?_
 refine wp_ret (ret_k oR (res9 sU sV oO) ?_)
 exact rV (by first|rfl|(simp only [binG,ofT,ofN,truthG,Vl.z,eqT,Bool.true_or,Bool.false_or,Bool.or_true,Bool.or_false,ab,ac,ad,ae,af,ag,ah,bsm] <;> rfl)|(exfalso; omega)) oQ
 have oS:=hB kn ah
 refine wf oS<| wk fun x3 oU=>?_
 refine wA tr2 [] 120 [ve (.bool (strEq o ⟨#[61,61,61]⟩)),ve (.bool (strEq o ⟨#[61,61,61]⟩))] cR ?_ ?_
 exact .H km (r_eqlS rfl)<| .B 0 .nil
 refine aftI cR gN gO fun x4 x5 cS gX gY bJ bV=>?_
 have⟨sW,ku,kv,kw⟩:=bV.f4 sR kj kk kl
 have kx:=bV.f1 km
 have ky:=bV.g 1 88
 have⟨gZ,g0,g1,g2⟩:=nw4 bJ gP gQ gR gS
 have⟨g3,g4,g5⟩:=nw3 bJ gT gU gV
 refine oU _ _ ?_
 rcases bc (strEq o ⟨#[61,61,61]⟩) with ak|ak
 have oV:=hB ky ak
 refine wt oV<| wk fun x6 oW=>?_
 refine wA [true,true,true,true,false,false] [(4,false),(5,true)] 120 [ve (vv (cleanV v) au an av ao),ve (vv (cleanV u) aw ap ar aq),ve (.bool (strictV (cleanV v) (cleanV u))),ve (vv (Vl.mk 2 0 0 false [] [] (truthR (strictV (cleanV v) (cleanV u)))) none 0 none 0),vt,vt] cS ?_ ?_
 exact .L9 ku gZ<| .L9 kv g0<| .C2 0 1 (fun p=>cstrict_c (cleanV v) _ _ _ _ (cleanV u) _ _ _ _ _ (g2.new_ p) (g3.new_ p) (g4.new_ p) (g5.new_ p))<| .C 2 (fun p=>truthN_c (strictV (cleanV v) (cleanV u)) _)<| .off<| .off .nil
 refine aftI cS gX gY fun kz x7 g6 oX oY oZ g7=>?_
 have kA:=g7.f1 kw
 have kB:=g7.g 3 93
 have o0:=g1.new_ oZ
 refine sS9 kA kB o0 fun sX o5 o4 uN=>?_
 have o7:=oY.tR o4
 refine sP (v:=iv 0) rfl g6 oX fun sY uO o8 bW s0=>?_
 have⟨sZ,x9⟩:=bW.q2 kA kB
 refine oW _ _ ?_
 refine wp_ret (ret_k o8 (res9 sZ s0 o5) ?_)
 exact rV (by first|rfl|(simp only [binG,ofT,ofN,truthG,Vl.z,eqT,Bool.true_or,Bool.false_or,Bool.or_true,Bool.or_false,ab,ac,ad,ae,af,ag,ah,ak,bsm] <;> rfl)|(exfalso; omega)) o7
 have o9:=hB ky ak
 refine wf o9<| wk fun ya pa=>?_
 refine wA tr2 [] 120 [ve (.bool (strEq o ⟨#[33,61,61]⟩)),ve (.bool (strEq o ⟨#[33,61,61]⟩))] cS ?_ ?_
 exact .H kx (r_eqlS rfl)<| .B 0 .nil
 refine aftI cS gX gY fun yb yc cT g8 g9 bK bX=>?_
 have⟨s1,kE,kF,kG⟩:=bX.f4 sW ku kv kw
 have kH:=bX.f1 kx
 have kI:=bX.g 1 94
 have⟨ha,hc,hd,hf⟩:=nw4 bK gZ g0 g1 g2
 have⟨hg,hh,hi⟩:=nw3 bK g3 g4 g5
 refine pa _ _ ?_
 rcases bc (strEq o ⟨#[33,61,61]⟩) with am|am
 have pb:=hB kI am
 refine wt pb<| wk fun yd pc=>?_
 refine wA [true,true,true,true,true,false,false] [(5,false),(6,true)] 120 [ve (vv (cleanV v) au an av ao),ve (vv (cleanV u) aw ap ar aq),ve (.bool (strictV (cleanV v) (cleanV u))),ve (.bool (!(strictV (cleanV v) (cleanV u)))),ve (vv (Vl.mk 2 0 0 false [] [] (truthR (!(strictV (cleanV v) (cleanV u))))) none 0 none 0),vt,vt] cT ?_ ?_
 exact .L9 kE ha<| .L9 kF hc<| .C2 0 1 (fun p=>cstrict_c (cleanV v) _ _ _ _ (cleanV u) _ _ _ _ _ (hf.new_ p) (hg.new_ p) (hh.new_ p) (hi.new_ p))<| .T (fun k=>v_not rfl (k.eq1 2 98 rfl))<| .C 3 (fun p=>truthN_c (!(strictV (cleanV v) (cleanV u))) _)<| .off<| .off .nil
 refine aftI cT g8 g9 fun kJ ye hj pe pf pg hl=>?_
 have kK:=hl.f1 kG
 have kL:=hl.g 4 100
 have ph:=hd.new_ pg
 refine sS9 kK kL ph fun s2 pj pi uP=>?_
 have pl:=pf.tR pi
 refine sP (v:=iv 0) rfl hj pe fun s3 uQ pm bY s5=>?_
 have⟨s4,yg⟩:=bY.q2 kK kL
 refine pc _ _ ?_
 refine wp_ret (ret_k pm (res9 s4 s5 pj) ?_)
 exact rV (by first|rfl|(simp only [binG,ofT,ofN,truthG,Vl.z,eqT,Bool.true_or,Bool.false_or,Bool.or_true,Bool.or_false,ab,ac,ad,ae,af,ag,ah,ak,am,bsm] <;> rfl)|(exfalso; omega)) pl
 have po:=hB kI am
 refine wf po<| wk fun yh ho=>wk fun yi pp=>?_
 refine wA tr2 [] 120 [ve (.bool (strEq o ⟨#[61,61]⟩)),ve (.bool (strEq o ⟨#[61,61]⟩))] cT ?_ ?_
 exact .H kH (r_eqlS rfl)<| .B 0 .nil
 refine aftI cT g8 g9 fun yj yk cU hr hs bL bZ=>?_
 have⟨kO,kP,kQ,kR⟩:=bZ.f4 s1 kE kF kG
 have s6:=bZ.f1 kH
 have kS:=bZ.g 1 101
 have⟨ht,hu,hv,hw⟩:=nw4 bL ha hc hd hf
 have⟨hx,hy,hz⟩:=nw3 bL hg hh hi
 refine pp _ _ ?_
 rcases bc (strEq o ⟨#[61,61]⟩) with al|al
 have hA:=hB kS al
 refine wt hA<| ws ?_
 refine ho _ _ ?_
 refine wt hA<| wk fun yl pq=>?_
 refine wA tr8 [] 120 [ve (vv (cleanV v) au an av ao),ve (vv (cleanV u) aw ap ar aq),ve (.tuple #[.bool ((looseV (cleanV v) (cleanV u)).1),iv ((looseV (cleanV v) (cleanV u)).2)]),ve (.tuple #[.bool ((looseV (cleanV v) (cleanV u)).1),iv ((looseV (cleanV v) (cleanV u)).2)]),ve (.bool ((looseV (cleanV v) (cleanV u)).1)),ve (iv ((looseV (cleanV v) (cleanV u)).2)),ve (.bool ((looseV (cleanV v) (cleanV u)).1)),ve (iv ((looseV (cleanV v) (cleanV u)).2))] cU ?_ ?_
 exact .L9 kP ht<| .L9 kQ hu<| .C2 0 1 (fun p=>cloose_c (cleanV v) _ _ _ _ (cleanV u) _ _ _ _ _ (hw.new_ p) (hx.new_ p) (hy.new_ p) (hz.new_ p) hvv.clean hvu.clean)<| .N 2<| .E 3<| .E 3<| .B 4<| .B 5 .nil
 refine aftI cU hr hs fun ym yn cV hC hD pr cW=>?_
 have⟨kT,kU⟩:=cW.f2 kO kR
 have kV:=cW.g 6 8
 have d2:=cW.g 7 9
 have hE:=hv.new_ pr
 refine pq _ _ <| wk fun yo pt=>?_
 refine wk fun yp hF=>?_
 rcases bc (decide (((looseV (cleanV v) (cleanV u)).2)=0)) with aC|aC
 have kW:=oT aC
 refine wA tr2 [] 120 [ve (iv ((looseV (cleanV v) (cleanV u)).2)),vF] cV ?_ ?_
 exact .M d2<| .b 0 (r_neq aC) .nil
 refine aftI cV hC hD fun yq yr cX hG hH pu cC=>?_
 have⟨kX,kY,kZ,ys⟩:=cC.f4 kT kU kV d2
 have s7:=cC.g 1 111
 have hI:=hE.new_ pu
 refine hF _ _ ?_
 refine wf s7<| ws ?_
 refine pt _ _ ?_
 refine wk fun yt hJ=>?_
 rcases bc ((looseV (cleanV v) (cleanV u)).1) with aJ|aJ
 have pw:=hB kZ aJ
 refine wA [true,true,true,true,true,false,false] [(5,false),(6,true)] 120 [vT,ve (.string o),vT,vT,ve (vv (Vl.mk 2 0 0 false [] [] (truthR true)) none 0 none 0),vt,vt] cX ?_ ?_
 exact .M pw<| .M kX<| .b 1 (r_eqlS al)<| .T (fun k=>v_bin rfl (k.eq1 0 114 rfl) (k.eq1 2 116 rfl) (fun _=>rfl) (fun w=>by kernel_rfl))<| .C 3 (fun p=>truthN_c true _)<| .off<| .off .nil
 refine aftI cX hG hH fun k0 yu hK px py pA hL=>?_
 have k1:=hL.f1 kY
 have k2:=hL.g 4 118
 have pB:=hI.new_ pA
 refine sS9 k1 k2 pB fun s8 pD pC uR=>?_
 have pF:=py.tR pC
 refine sP (v:=iv 0) rfl hK px fun s9 uS pG b0 tb=>?_
 have⟨ta,yw⟩:=b0.q2 k1 k2
 refine hJ _ _ ?_
 refine wp_ret (ret_k pG (res9 ta tb pD) ?_)
 exact rV (by first|rfl|(simp only [binG,ofT,ofN,truthG,Vl.z,eqT,Bool.true_or,Bool.false_or,Bool.or_true,Bool.or_false,ab,ac,ad,ae,af,ag,ah,ak,am,al,aC,aJ,bsm] <;> rfl)|(exfalso; omega)) pF
 have pH:=hB kZ aJ
 refine wA [true,true,true,true,true,false,false] [(5,false),(6,true)] 120 [vF,ve (.string o),vT,vF,ve (vv (Vl.mk 2 0 0 false [] [] (truthR false)) none 0 none 0),vt,vt] cX ?_ ?_
 exact .M pH<| .M kX<| .b 1 (r_eqlS al)<| .T (fun k=>v_bin rfl (k.eq1 0 114 rfl) (k.eq1 2 116 rfl) (fun _=>rfl) (fun w=>by kernel_rfl))<| .C 3 (fun p=>truthN_c false _)<| .off<| .off .nil
 refine aftI cX hG hH fun k5 yx hM pI pJ pK hN=>?_
 have k6:=hN.f1 kY
 have k7:=hN.g 4 118
 have pL:=hI.new_ pK
 refine sS9 k6 k7 pL fun tc pN pM uT=>?_
 have pP:=pJ.tR pM
 refine sP (v:=iv 0) rfl hM pI fun td uU pQ b1 tf=>?_
 have⟨te,yz⟩:=b1.q2 k6 k7
 refine hJ _ _ ?_
 refine wp_ret (ret_k pQ (res9 te tf pN) ?_)
 exact rV (by first|rfl|(simp only [binG,ofT,ofN,truthG,Vl.z,eqT,Bool.true_or,Bool.false_or,Bool.or_true,Bool.or_false,ab,ac,ad,ae,af,ag,ah,ak,am,al,aC,aJ,bsm] <;> rfl)|(exfalso; omega)) pP
 have kW:=oF aC
 refine wA tr2 [] 120 [ve (iv ((looseV (cleanV v) (cleanV u)).2)),vT] cV ?_ ?_
 exact .M d2<| .b 0 (r_neq aC) .nil
 refine aftI cV hC hD fun yA yB hO pR pS pT cD=>?_
 have⟨yC,th,yD,ti⟩:=cD.f4 kT kU kV d2
 have tj:=cD.g 1 111
 have pU:=hE.new_ pT
 refine hF _ _ ?_
 refine wt tj<| wk fun yE pV=>?_
 refine wB [true,true,false,false] [1] [(2,false),(3,true)] 120 [ve (vv (Vl.mk 0 0 0 false [] [] 0) none 0 none 0),ve (iv ((looseV (cleanV v) (cleanV u)).2)),vt,vt] [] hO ?_ ?_ ?_
 refine .Z ?_
 refine .o3 ?_
 exact .off<| .off .nil
 refine eg1 ?_
 exact eager_take rfl rfl fun _ w hn k=>⟨iv ((looseV (cleanV v) (cleanV u)).2),fun w=>v_move rfl (k.fx 9 ti),rfl⟩
 refine aftI hO pR pS fun la yF hP pW pX pY d3=>?_
 have lc:=d3.f1 th
 have ld:=d3.g 0 112
 have le:=d3.g 1 113
 have pZ:=pU.new_ pY
 refine sS9 lc ld pZ fun tl p1 p0 uV=>?_
 have p3:=pX.tR p0
 refine sP le hP pW fun tm uW p4 bM tp=>?_
 have⟨tn,yH,yI⟩:=bM.q3 lc ld le
 refine pV _ _ ?_
 refine wp_ret (ret_k p4 (res9 tn tp p1) ?_)
 exact rV (by first|rfl|(simp only [binG,ofT,ofN,truthG,Vl.z,eqT,Bool.true_or,Bool.false_or,Bool.or_true,Bool.or_false,ab,ac,ad,ae,af,ag,ah,ak,am,al,aC,bsm] <;> rfl)|(exfalso; omega)) p3
 have p5:=hB kS al
 refine wf p5<| wp_g0 [true,true] [] 120
  [ve (.bool (strEq o ⟨#[33,61]⟩)),ve (.bool (strEq o ⟨#[33,61]⟩))] cU (.eq (.eq .nil)) ?_ ?_
 exact .H s6 (r_eqlS rfl)<| .B 0 .nil
 refine aftI cU hr hs fun yJ yK cY hQ hR bN cE=>?_
 have⟨tq,tr,ts,lh⟩:=cE.f4 kO kP kQ kR
 have li:=cE.g 1 101
 have⟨p6,p7,hS,p8⟩:=nw4 bN ht hu hv hw
 have⟨p9,qa,qb⟩:=nw3 bN hx hy hz
 refine ho _ _ ?_
 rcases bc (strEq o ⟨#[33,61]⟩) with az|az
 have qc:=hB li az
 refine wt qc<| wk fun yL qd=>?_
 refine wA tr8 [] 120 [ve (vv (cleanV v) au an av ao),ve (vv (cleanV u) aw ap ar aq),ve (.tuple #[.bool ((looseV (cleanV v) (cleanV u)).1),iv ((looseV (cleanV v) (cleanV u)).2)]),ve (.tuple #[.bool ((looseV (cleanV v) (cleanV u)).1),iv ((looseV (cleanV v) (cleanV u)).2)]),ve (.bool ((looseV (cleanV v) (cleanV u)).1)),ve (iv ((looseV (cleanV v) (cleanV u)).2)),ve (.bool ((looseV (cleanV v) (cleanV u)).1)),ve (iv ((looseV (cleanV v) (cleanV u)).2))] cY ?_ ?_
 exact .L9 tr p6<| .L9 ts p7<| .C2 0 1 (fun p=>cloose_c (cleanV v) _ _ _ _ (cleanV u) _ _ _ _ _ (p8.new_ p) (p9.new_ p) (qa.new_ p) (qb.new_ p) hvv.clean hvu.clean)<| .N 2<| .E 3<| .E 3<| .B 4<| .B 5 .nil
 refine aftI cY hQ hR fun yM yN cZ hT hU qe c0=>?_
 have⟨lj,lk⟩:=c0.f2 tq lh
 have ll:=c0.g 6 8
 have d4:=c0.g 7 9
 have hV:=hS.new_ qe
 refine qd _ _ <| wk fun yO qf=>?_
 refine wk fun yP hW=>?_
 rcases bc (decide (((looseV (cleanV v) (cleanV u)).2)=0)) with aD|aD
 have lm:=oT aD
 refine wA tr2 [] 120 [ve (iv ((looseV (cleanV v) (cleanV u)).2)),vF] cZ ?_ ?_
 exact .M d4<| .b 0 (r_neq aD) .nil
 refine aftI cZ hT hU fun yQ yR c1 hX hY qg cF=>?_
 have⟨ln,lo,lp,yS⟩:=cF.f4 lj lk ll d4
 have tu:=cF.g 1 111
 have hZ:=hV.new_ qg
 refine hW _ _ ?_
 refine wf tu<| ws ?_
 refine qf _ _ ?_
 refine wk fun yT h2=>?_
 rcases bc ((looseV (cleanV v) (cleanV u)).1) with aK|aK
 have qh:=hB lp aK
 refine wA [true,true,true,true,true,false,false] [(5,false),(6,true)] 120 [vT,ve (.string o),vF,vF,ve (vv (Vl.mk 2 0 0 false [] [] (truthR false)) none 0 none 0),vt,vt] c1 ?_ ?_
 exact .M qh<| .M ln<| .b 1 (r_eqlS al)<| .T (fun k=>v_bin rfl (k.eq1 0 114 rfl) (k.eq1 2 116 rfl) (fun _=>rfl) (fun w=>by kernel_rfl))<| .C 3 (fun p=>truthN_c false _)<| .off<| .off .nil
 refine aftI c1 hX hY fun lq yU h3 qi qj qk h4=>?_
 have lr:=h4.f1 lo
 have ls:=h4.g 4 118
 have ql:=hZ.new_ qk
 refine sS9 lr ls ql fun tv qn qm uX=>?_
 have qp:=qj.tR qm
 refine sP (v:=iv 0) rfl h3 qi fun tw uY qq b2 ty=>?_
 have⟨tx,yW⟩:=b2.q2 lr ls
 refine h2 _ _ ?_
 refine wp_ret (ret_k qq (res9 tx ty qn) ?_)
 exact rV (by first|rfl|(simp only [binG,ofT,ofN,truthG,Vl.z,eqT,Bool.true_or,Bool.false_or,Bool.or_true,Bool.or_false,ab,ac,ad,ae,af,ag,ah,ak,am,al,az,aD,aK,bsm] <;> rfl)|(exfalso; omega)) qp
 have qr:=hB lp aK
 refine wA [true,true,true,true,true,false,false] [(5,false),(6,true)] 120 [vF,ve (.string o),vF,vT,ve (vv (Vl.mk 2 0 0 false [] [] (truthR true)) none 0 none 0),vt,vt] c1 ?_ ?_
 exact .M qr<| .M ln<| .b 1 (r_eqlS al)<| .T (fun k=>v_bin rfl (k.eq1 0 114 rfl) (k.eq1 2 116 rfl) (fun _=>rfl) (fun w=>by kernel_rfl))<| .C 3 (fun p=>truthN_c true _)<| .off<| .off .nil
 refine aftI c1 hX hY fun lv yX h5 qs qt qu h6=>?_
 have lw:=h6.f1 lo
 have lx:=h6.g 4 118
 have qv:=hZ.new_ qu
 refine sS9 lw lx qv fun tz qx qw uZ=>?_
 have qz:=qt.tR qw
 refine sP (v:=iv 0) rfl h5 qs fun tA u0 qA b3 tC=>?_
 have⟨tB,yZ⟩:=b3.q2 lw lx
 refine h2 _ _ ?_
 refine wp_ret (ret_k qA (res9 tB tC qx) ?_)
 exact rV (by first|rfl|(simp only [binG,ofT,ofN,truthG,Vl.z,eqT,Bool.true_or,Bool.false_or,Bool.or_true,Bool.or_false,ab,ac,ad,ae,af,ag,ah,ak,am,al,az,aD,aK,bsm] <;> rfl)|(exfalso; omega)) qz
 have lm:=oF aD
 refine wA tr2 [] 120 [ve (iv ((looseV (cleanV v) (cleanV u)).2)),vT] cZ ?_ ?_
 exact .M d4<| .b 0 (r_neq aD) .nil
 refine aftI cZ hT hU fun y0 y1 h7 qB qC qD cG=>?_
 have⟨y2,tD,y3,tE⟩:=cG.f4 lj lk ll d4
 have tF:=cG.g 1 111
 have qE:=hV.new_ qD
 refine hW _ _ ?_
 refine wt tF<| wk fun y4 qF=>?_
 refine wB [true,true,false,false] [1] [(2,false),(3,true)] 120 [ve (vv (Vl.mk 0 0 0 false [] [] 0) none 0 none 0),ve (iv ((looseV (cleanV v) (cleanV u)).2)),vt,vt] [] h7 ?_ ?_ ?_
 refine .Z ?_
 refine .o3 ?_
 exact .off<| .off .nil
 refine eg1 ?_
 exact eager_take rfl rfl fun _ w hn k=>⟨iv ((looseV (cleanV v) (cleanV u)).2),fun w=>v_move rfl (k.fx 9 tE),rfl⟩
 refine aftI h7 qB qC fun lA y5 ia qG qH qI d5=>?_
 have lB:=d5.f1 tD
 have lC:=d5.g 0 112
 have lD:=d5.g 1 113
 have qJ:=qE.new_ qI
 refine sS9 lB lC qJ fun tG qL qK u1=>?_
 have qN:=qH.tR qK
 refine sP lD ia qG fun tH u2 qO bO tJ=>?_
 have⟨tI,y7,y8⟩:=bO.q3 lB lC lD
 refine qF _ _ ?_
 refine wp_ret (ret_k qO (res9 tI tJ qL) ?_)
 exact rV (by first|rfl|(simp only [binG,ofT,ofN,truthG,Vl.z,eqT,Bool.true_or,Bool.false_or,Bool.or_true,Bool.or_false,ab,ac,ad,ae,af,ag,ah,ak,am,al,az,aD,bsm] <;> rfl)|(exfalso; omega)) qN
 have qP:=hB li az
 refine wf qP<| ws ?_
 refine rK _ _ ?_
 refine wk fun y9 qQ=>?_
 refine wA [true,false,false] [(1,false),(2,true)] 120 [ve (vv (Vl.mk 0 0 0 false [] [] 0) none 0 none 0),vt,vt] cY ?_ ?_
 exact .Z<| .off<| .off .nil
 refine aftI cY hQ hR fun lG za ib qR lH qS ic=>?_
 have lI:=ic.f1 lh
 have lJ:=ic.g 0 119
 have lK:=hS.new_ qS
 refine sS9 lI lJ lK fun qT lM lL uo=>?_
 have lO:=lH.tR lL
 refine sP (v:=iv 3) rfl ib qR fun qU uq lP a7 qW=>?_
 have⟨qV,u4⟩:=a7.q2 lI lJ
 refine qQ _ _ ?_
 refine wp_ret (ret_k lP (res9 qV qW lM) ?_)
 exact rV (by first|rfl|(simp only [binG,ofT,ofN,truthG,Vl.z,eqT,Bool.true_or,Bool.false_or,Bool.or_true,Bool.or_false,ab,ac,ad,ae,af,ag,ah,ak,am,al,az,bsm] <;> rfl)|(exfalso; omega)) lO
 intro u5 a8
 refine wk fun u6 lQ=>?_
 refine wA tr2 [] 120 [ve (.bool (strEq o ⟨#[38]⟩)),ve (.bool (strEq o ⟨#[38]⟩))] cM ?_ ?_
 exact .H jv (r_eqlS rfl)<| .B 0 .nil
 refine aftI cM fX fY fun u7 u8 dn ee ef aL a9=>?_
 have⟨id,ie,ig,ih⟩:=a9.f4 jr js jt ju
 have d6:=a9.f1 jv
 have ii:=a9.g 1 47
 have⟨eg,eh,ei,ej⟩:=nw4 aL fZ f0 f1 f2
 have⟨ek,el,em⟩:=nw3 aL f3 f4 f5
 refine lQ _ _ ?_
 rcases bc (strEq o ⟨#[38]⟩) with ax|ax
 have en:=hB ii ax
 refine wt en<| ws ?_
 exact a8 _ _ ⟨dn,ee,ef,(en.trans (congrArg Value.bool (by unfold biT; first|rfl|(simp only [ab,ac,ax,Bool.false_or,Bool.or_false,Bool.true_or,Bool.or_true]; done)|(simp only [ab,ac,ax,Bool.false_or,Bool.or_false,Bool.true_or,Bool.or_true] <;> rfl)))),id,ie,ig,ih,d6,eg,eh,ei,ej,ek,el,em⟩
 have lR:=hB ii ax
 refine wf lR<| wk fun u9 lS=>?_
 refine wA tr2 [] 120 [ve (.bool (strEq o ⟨#[124]⟩)),ve (.bool (strEq o ⟨#[124]⟩))] dn ?_ ?_
 exact .H d6 (r_eqlS rfl)<| .B 0 .nil
 refine aftI dn ee ef fun va vb dp eo ep aM ba=>?_
 have⟨ij,ik,il,im⟩:=ba.f4 id ie ig ih
 have d7:=ba.f1 d6
 have io:=ba.g 1 47
 have⟨er,es,et,eu⟩:=nw4 aM eg eh ei ej
 have⟨ev,ew,ex⟩:=nw3 aM ek el em
 refine lS _ _ ?_
 rcases bc (strEq o ⟨#[124]⟩) with ay|ay
 have ey:=hB io ay
 refine wt ey<| ws ?_
 exact a8 _ _ ⟨dp,eo,ep,(ey.trans (congrArg Value.bool (by unfold biT; first|rfl|(simp only [ab,ac,ax,ay,Bool.false_or,Bool.or_false,Bool.true_or,Bool.or_true]; done)|(simp only [ab,ac,ax,ay,Bool.false_or,Bool.or_false,Bool.true_or,Bool.or_true] <;> rfl)))),ij,ik,il,im,d7,er,es,et,eu,ev,ew,ex⟩
 have lT:=hB io ay
 refine wf lT<| wk fun vc lU=>?_
 refine wA tr2 [] 120 [ve (.bool (strEq o ⟨#[94]⟩)),ve (.bool (strEq o ⟨#[94]⟩))] dp ?_ ?_
 exact .H d7 (r_eqlS rfl)<| .B 0 .nil
 refine aftI dp eo ep fun vd vf dq ez eA aN bb=>?_
 have⟨ip,iq,ir,it⟩:=bb.f4 ij ik il im
 have d8:=bb.f1 d7
 have iu:=bb.g 1 47
 have⟨eB,eC,eD,eE⟩:=nw4 aN er es et eu
 have⟨eF,eG,eH⟩:=nw3 aN ev ew ex
 refine lU _ _ ?_
 rcases bc (strEq o ⟨#[94]⟩) with aE|aE
 have eI:=hB iu aE
 refine wt eI<| ws ?_
 exact a8 _ _ ⟨dq,ez,eA,(eI.trans (congrArg Value.bool (by unfold biT; first|rfl|(simp only [ab,ac,ax,ay,aE,Bool.false_or,Bool.or_false,Bool.true_or,Bool.or_true]; done)|(simp only [ab,ac,ax,ay,aE,Bool.false_or,Bool.or_false,Bool.true_or,Bool.or_true] <;> rfl)))),ip,iq,ir,it,d8,eB,eC,eD,eE,eF,eG,eH⟩
 have lV:=hB iu aE
 refine wf lV<| wk fun vg lW=>?_
 refine wA tr2 [] 120 [ve (.bool (strEq o ⟨#[60,60]⟩)),ve (.bool (strEq o ⟨#[60,60]⟩))] dq ?_ ?_
 exact .H d8 (r_eqlS rfl)<| .B 0 .nil
 refine aftI dq ez eA fun vh vi dr eJ eK aO bd=>?_
 have⟨iw,ix,iy,iz⟩:=bd.f4 ip iq ir it
 have d9:=bd.f1 d8
 have iA:=bd.g 1 47
 have⟨eL,eM,eN,eO⟩:=nw4 aO eB eC eD eE
 have⟨eP,eQ,eR⟩:=nw3 aO eF eG eH
 refine lW _ _ ?_
 rcases bc (strEq o ⟨#[60,60]⟩) with aH|aH
 have eS:=hB iA aH
 refine wt eS<| ws ?_
 exact a8 _ _ ⟨dr,eJ,eK,(eS.trans (congrArg Value.bool (by unfold biT; first|rfl|(simp only [ab,ac,ax,ay,aE,aH,Bool.false_or,Bool.or_false,Bool.true_or,Bool.or_true]; done)|(simp only [ab,ac,ax,ay,aE,aH,Bool.false_or,Bool.or_false,Bool.true_or,Bool.or_true] <;> rfl)))),iw,ix,iy,iz,d9,eL,eM,eN,eO,eP,eQ,eR⟩
 have lX:=hB iA aH
 refine wf lX<| wk fun vj lY=>?_
 refine wA tr2 [] 120 [ve (.bool (strEq o ⟨#[62,62]⟩)),ve (.bool (strEq o ⟨#[62,62]⟩))] dr ?_ ?_
 exact .H d9 (r_eqlS rfl)<| .B 0 .nil
 refine aftI dr eJ eK fun vk vl ds eT eU aP be=>?_
 have⟨iB,iC,iD,iE⟩:=be.f4 iw ix iy iz
 have ea:=be.f1 d9
 have iF:=be.g 1 47
 have⟨eV,eW,eX,eY⟩:=nw4 aP eL eM eN eO
 have⟨eZ,e0,e1⟩:=nw3 aP eP eQ eR
 refine lY _ _ ?_
 rcases bc (strEq o ⟨#[62,62]⟩) with aQ|aQ
 have e2:=hB iF aQ
 refine wt e2<| ws ?_
 exact a8 _ _ ⟨ds,eT,eU,(e2.trans (congrArg Value.bool (by unfold biT; first|rfl|(simp only [ab,ac,ax,ay,aE,aH,aQ,Bool.false_or,Bool.or_false,Bool.true_or,Bool.or_true]; done)|(simp only [ab,ac,ax,ay,aE,aH,aQ,Bool.false_or,Bool.or_false,Bool.true_or,Bool.or_true] <;> rfl)))),iB,iC,iD,iE,ea,eV,eW,eX,eY,eZ,e0,e1⟩
 have lZ:=hB iF aQ
 refine wf lZ<| wp_g0 [true,true] [] 120
  [ve (.bool (strEq o ⟨#[62,62,62]⟩)),ve (.bool (strEq o ⟨#[62,62,62]⟩))] ds (.eq (.eq .nil)) ?_ ?_
 exact .H ea (r_eqlS rfl)<| .B 0 .nil
 refine aftI ds eT eU fun vm vn l0 l1 l2 aR bf=>?_
 have⟨qX,qY,qZ,q0⟩:=bf.f4 iB iC iD iE
 have q1:=bf.f1 ea
 have q2:=bf.g 1 47
 have⟨l3,l4,l5,l6⟩:=nw4 aR eV eW eX eY
 have⟨l7,l8,l9⟩:=nw3 aR eZ e0 e1
 refine st_nil ?_
 exact a8 _ _ ⟨l0,l1,l2,(q2.trans (congrArg Value.bool (by unfold biT; first|rfl|(simp only [ab,ac,ax,ay,aE,aH,aQ,Bool.false_or,Bool.or_false,Bool.true_or,Bool.or_true]; done)|(simp only [ab,ac,ax,ay,aE,aH,aQ,Bool.false_or,Bool.or_false,Bool.true_or,Bool.or_true] <;> rfl)))),qX,qY,qZ,q0,q1,l3,l4,l5,l6,l7,l8,l9⟩
 intro vo cH
 refine wk fun vp ma=>?_
 refine wA tr2 [] 120 [ve (.bool (strEq o ⟨#[45]⟩)),ve (.bool (strEq o ⟨#[45]⟩))] bP ?_ ?_
 exact .H i6 (r_eqlS rfl)<| .B 0 .nil
 refine aftI bP dy dz fun vq vr dt e3 e4 aS bg=>?_
 have⟨iG,iH,iI,iJ⟩:=bg.f4 fA de dA fB
 have eb:=bg.f1 i6
 have iK:=bg.g 1 36
 have⟨e5,e6,e7,e8⟩:=nw4 aS cz cK dB dC
 have⟨e9,fa,fb⟩:=nw3 aS dD dE dF
 refine ma _ _ ?_
 rcases bc (strEq o ⟨#[45]⟩) with aF|aF
 have fc:=hB iK aF
 refine wt fc<| ws ?_
 exact cH _ _ ⟨dt,e3,e4,(fc.trans (congrArg Value.bool (by unfold arT; first|rfl|(simp only [ab,aF,Bool.false_or,Bool.or_false,Bool.true_or,Bool.or_true]; done)|(simp only [ab,aF,Bool.false_or,Bool.or_false,Bool.true_or,Bool.or_true] <;> rfl)))),iG,iH,iI,iJ,eb,e5,e6,e7,e8,e9,fa,fb⟩
 have mb:=hB iK aF
 refine wf mb<| wk fun vs mc=>?_
 refine wA tr2 [] 120 [ve (.bool (strEq o ⟨#[42]⟩)),ve (.bool (strEq o ⟨#[42]⟩))] dt ?_ ?_
 exact .H eb (r_eqlS rfl)<| .B 0 .nil
 refine aftI dt e3 e4 fun vu vw dw fd fe aT bh=>?_
 have⟨iL,iM,iN,iO⟩:=bh.f4 iG iH iI iJ
 have ec:=bh.f1 eb
 have iP:=bh.g 1 36
 have⟨ff,fg,fh,fi⟩:=nw4 aT e5 e6 e7 e8
 have⟨fj,fk,fl⟩:=nw3 aT e9 fa fb
 refine mc _ _ ?_
 rcases bc (strEq o ⟨#[42]⟩) with aI|aI
 have fm:=hB iP aI
 refine wt fm<| ws ?_
 exact cH _ _ ⟨dw,fd,fe,(fm.trans (congrArg Value.bool (by unfold arT; first|rfl|(simp only [ab,aF,aI,Bool.false_or,Bool.or_false,Bool.true_or,Bool.or_true]; done)|(simp only [ab,aF,aI,Bool.false_or,Bool.or_false,Bool.true_or,Bool.or_true] <;> rfl)))),iL,iM,iN,iO,ec,ff,fg,fh,fi,fj,fk,fl⟩
 have md:=hB iP aI
 refine wf md<| wk fun vx me=>?_
 refine wA tr2 [] 120 [ve (.bool (strEq o ⟨#[47]⟩)),ve (.bool (strEq o ⟨#[47]⟩))] dw ?_ ?_
 exact .H ec (r_eqlS rfl)<| .B 0 .nil
 refine aftI dw fd fe fun vy vz dx fn fo aU bi=>?_
 have⟨iQ,iR,iS,iT⟩:=bi.f4 iL iM iN iO
 have ed:=bi.f1 ec
 have iU:=bi.g 1 36
 have⟨fp,fq,fs,ft⟩:=nw4 aU ff fg fh fi
 have⟨fu,fv,fw⟩:=nw3 aU fj fk fl
 refine me _ _ ?_
 rcases bc (strEq o ⟨#[47]⟩) with aV|aV
 have fy:=hB iU aV
 refine wt fy<| ws ?_
 exact cH _ _ ⟨dx,fn,fo,(fy.trans (congrArg Value.bool (by unfold arT; first|rfl|(simp only [ab,aF,aI,aV,Bool.false_or,Bool.or_false,Bool.true_or,Bool.or_true]; done)|(simp only [ab,aF,aI,aV,Bool.false_or,Bool.or_false,Bool.true_or,Bool.or_true] <;> rfl)))),iQ,iR,iS,iT,ed,fp,fq,fs,ft,fu,fv,fw⟩
 have mf:=hB iU aV
 refine wf mf<| wp_g0 [true,true] [] 120
  [ve (.bool (strEq o ⟨#[37]⟩)),ve (.bool (strEq o ⟨#[37]⟩))] dx (.eq (.eq .nil)) ?_ ?_
 exact .H ed (r_eqlS rfl)<| .B 0 .nil
 refine aftI dx fn fo fun vA vB mg mh mi aW bj=>?_
 have⟨q3,q4,q5,q6⟩:=bj.f4 iQ iR iS iT
 have q7:=bj.f1 ed
 have q8:=bj.g 1 36
 have⟨mj,ml,mm,mn⟩:=nw4 aW fp fq fs ft
 have⟨mo,mp,mq⟩:=nw3 aW fu fv fw
 refine st_nil ?_
 exact cH _ _ ⟨mg,mh,mi,(q8.trans (congrArg Value.bool (by unfold arT; first|rfl|(simp only [ab,aF,aI,aV,Bool.false_or,Bool.or_false,Bool.true_or,Bool.or_true]; done)|(simp only [ab,aF,aI,aV,Bool.false_or,Bool.or_false,Bool.true_or,Bool.or_true] <;> rfl)))),q3,q4,q5,q6,q7,mj,ml,mm,mn,mo,mp,mq⟩
def unG_c_P (o:ByteArray) (v:Vl) (Av:Option Addr) (cv:Nat) (Bv:Option Addr) (dv:Nat) (w:World) (en:Ending) (w':World):Prop:=∃ (Ar0:Option Addr) (cr0:Nat) (Ar1:Option Addr) (cr1:Nat),en=.returned (.tuple #[vv (unG o v).1 Ar0 cr0 Ar1 cr1,iv ((unG o v).2)])∧SRow w' .u32 Ar0 ((unG o v).1.mag) cr0∧SRow w' .u16 Ar1 ((unG o v).1.s) cr1∧New w w'
theorem unG_c (o:ByteArray) (v:Vl) (Av:Option Addr) (cv:Nat) (Bv:Option Addr) (dv:Nat) (w:World) (hmv:SRow w .u32 Av v.mag cv) (hsv:SRow w .u16 Bv v.s dv) (hvv:VOk v):Calls prog 13 #[.string o,vv v Av cv Bv dv] w (unG_c_P o v Av cv Bv dv w):=by
 refine enter_abs func13 rfl fun a0 bM jC hp=>?_
 have bM:a0.tmps.size=76:=bM
 have c3:New w w:=Upd.refl _ _
 have hp0:a0.eval (.tmp 0)=.string o:=hp 0 _ rfl
 have hp1:a0.eval (.tmp 1)=vv v Av cv Bv dv:=hp 1 _ rfl
 refine wk fun K1 jD=>?_
 refine wB tr3 [] [] 76 [IsNew w 29 (c7 v Av cv Bv dv),IsNew w 29 z7,ve (iv 0)] [0,1] bM ?_ heN ?_
 exact .X hp1<| .Y<| .c .nil
 refine aftI bM jC c3 fun a2 w3 hN jE hW l6 bN=>?_
 have h8:=bN.f1 hp0
 obtain⟨c5,h9,hX,hY⟩:=bN.G 0 3
 obtain⟨an,hO,hZ,h3⟩:=bN.G 1 4
 have hne17:=bN.ne 0 1 3 4 h9 hO
 have ky:=Nat.le_trans c3.size hX
 have kz:=Nat.le_trans c3.size hZ
 refine jD _ _ ?_
 refine wp_seq_j (fun (aa:Act) (ww:World)=>aa.tmps.size=76∧aa.defers=[]∧New w ww∧aa.eval (.tmp 0)=.string o∧aa.eval (.tmp 3)=pv c5∧aa.eval (.tmp 4)=pv an∧Blk ww c5 29 (c7 v Av cv Bv dv)∧Blk ww an 29 z7∧(strEq o ⟨#[33]⟩=false)∧(strEq o ⟨#[118,111,105,100]⟩=false)∧(strEq o ⟨#[43]⟩=false)∧(unT o=true)) ?_ ?_
 rintro l7 jF ⟨c9,h4,br,jG,jH,jI,h5,da,ao,ap,aq,ar⟩
 refine wk fun l8 h6=>?_
 refine wp_gS (fun W=>True) (fun W W' hn h=>trivial) trivial [true,true,true,true,true,true,false,false] [4] [(6,false),(7,true)] 76
  [ve (vv v Av cv Bv dv),(TP (numericV v).1 ((numericV v).2)),(TP (numericV v).1 ((numericV v).2)),(fun (v_:Value) (W:World)=>∃ (bg:Option Addr) (bh:Nat) (bi:Option Addr) (bj:Nat),v_=vv (numericV v).1 bg bh bi bj∧SRow W .u32 bg ((numericV v).1.mag) bh∧SRow W .u16 bi ((numericV v).1.s) bj),ve (iv ((numericV v).2)),IsNew jF 29 z7,vt,vt]
  [5] (newsCons (fun v w h=>IsNew.old h) newsNil) c9 (.eq (.cons (fun _ _ _ n ⟨_,_,_,_,e,h,i⟩=>⟨_,_,_,_,e,h.new_ n,i.new_ n⟩) (.cons (fun _ _ _ n ⟨_,_,_,_,e,h,i⟩=>⟨_,_,_,_,e,h.new_ n,i.new_ n⟩) (.cons (fun _ _ _ n ⟨_,_,_,_,e,h,i⟩=>⟨_,_,_,_,e,h.new_ n,i.new_ n⟩) (.eq (.nw (.tt (.tt .nil)))))))) ?_ ?_ ?_
 refine .L9 jH h5 ?_
 refine .o1 (tkC rfl (noG rfl) rfl fun _ w hn k=>(by
  refine ⟨#[vv v Av cv Bv dv],_,args1 (k.eq1 0 38 rfl),fun w=>by kernel_rfl,cnumeric_c v _ _ _ _ _ (hmv.new_ (br.transNew hn)) (hsv.new_ (br.transNew hn)) hvv,?_⟩
  rintro e w' ⟨A1,c2,A3,c4,rfl,hmo0,hmo1,hm⟩
  exact⟨_,rfl,hm,⟨A1,c2,A3,c4,rfl,hmo0,hmo1⟩⟩)) ?_
 refine .o1 (tk rfl rfl fun _ w hn k=>(by
  obtain⟨A9,jJ,jK,jL,jM,h7,ia⟩:=k.G 1 39
  exact⟨_,v_move rfl jM,⟨A9,jJ,jK,jL,rfl,h7,ia⟩⟩)) ?_
 refine .o1 (tk rfl rfl fun _ w hn k=>(by
  obtain⟨jN,jO,jP,jQ,jR,ib,ic⟩:=k.G 2 37
  exact⟨_,v_extract rfl jR rfl,⟨jN,jO,jP,jQ,rfl,ib,ic⟩⟩)) ?_
 refine .o3 ?_
 exact .Y<| .off<| .off .nil
 refine eg1 ?_
 exact eager_takeG rfl (noG rfl) fun _ w hn k=>(by
  obtain⟨l9,ma,mb,mc,jS,kA,kB⟩:=k.G 2 37
  exact⟨_,fun w hS=>v_extract rfl jS rfl,rfl⟩)
 intro db md _ dc aS
 obtain⟨dd,id,ie⟩:=aft aS c9 h4 br dc
 have⟨jT,jU⟩:=aS.f2 jG jI
 obtain⟨bG,bk,de,bH,bO,ig,ih⟩:=aS.G 3 40
 have bO:db.eval (.tmp 40)=vv (numericV v).1 bG bk de bH:=bO
 have hP:=aS.g 4 41
 obtain⟨bl,hQ,df,bI⟩:=aS.G 5 8
 have ii:=da.new_ dc
 have hne53:an ≠ bl:=by have h1:=da.lt; have h2:=df; omega
 have kC:=Nat.le_trans br.size df
 refine sS9 hQ bO bI fun jV dg bJ ij=>?_
 have dh:=ig.fr bI bJ
 have di:=ih.fr bI bJ
 have dj:=ij hne53 ii
 have dk:=ie.tR bJ
 refine sP hP dd id fun jW bs dl av bP=>?_
 have⟨hR,hT,mf⟩:=av.q3 jT jU bO
 have⟨mg,hU⟩:=av.q2 hP hQ
 refine h6 _ _ <| wk fun mh il=>?_
 refine wb<| wk fun mi dm=>?_
 rcases bc (decide (((numericV v).2)=0)) with ah|ah
 have eW:=oT ah
 refine wA tr3 [] 76 [ve (iv ((numericV v).2)),vF,vF] bs ?_ ?_
 exact .M bP<| .b 0 (r_neq ah)<| .B 1 .nil
 refine aftI bs dl dk fun mj ml bt dn dp bu bm=>?_
 have⟨bQ,hV,dq,mm⟩:=bm.f4 hR hT hU bP
 have jX:=bm.g 2 42
 have⟨dr,bK,ds,dt⟩:=nw4 bu dj dg dh di
 refine dm _ _ ?_
 refine wf jX<| wk fun mn du=>?_
 rcases bc (strEq o ⟨#[45]⟩) with aj|aj
 refine wA tr8 [] 76 [ve (.string o),vT,vT,ve (pv bl),ve (iv ((numericV v).1.k)),ve (.bool (decide (((numericV v).1.k)=4))),ve (.bool (decide (((numericV v).1.k)=4))),ve (.bool (decide (((numericV v).1.k)=4)))] bt ?_ ?_
 exact .M bQ<| .b 0 (r_eqlS aj)<| .N 1<| .gf (fun k=>k.eq1 2 50 rfl) (fun k=>k.fx 8 dq)<| .V (fun p k=>v_load rfl (k.eq1 3 51 rfl) (l_one isAgg3 ((bK.new_ p).cell 0)))<| .V (fun p k=>v_bin rfl (k.eq1 4 52 rfl) rfl (fun _=>rfl) (r_eql rfl))<| .T (fun k=>v_pickT rfl (k.eq1 2 50 rfl) (k.eq1 5 53 rfl))<| .B 6 .nil
 refine aftI bt dn dp fun mo mp aT bR bS aU aV=>?_
 have⟨im,dw,dx⟩:=aV.f3 bQ hV dq
 have dy:=aV.g 7 47
 have⟨bT,bU,bV,eX⟩:=nw4 aU dr bK ds dt
 refine du _ _ ?_
 rcases bc (decide (((numericV v).1.k)=4)) with ak|ak
 have dz:=oT ak
 have eY:=hB dy ak
 refine wt eY<| wk fun kD eZ=>?_
 have hml:=(VOk.numeric hvv).mlen
 refine wp_g0 [true,true,true,true,false,false] [(4,false),(5,true)] 76
  [ve (.pointer (some ⟨bl,3,none⟩)),ve (.agg #[.bool ((numericV v).1.neg),sv bG ((numericV v).1.mag) bk]),(fun (v_:Value) (W:World)=>∃ (bn:Option Addr) (bo:Nat),v_=.agg #[.bool (decide (-(goodI ((numericV v).1.neg) ((numericV v).1.mag)) < 0)),sv bn (canon (-(goodI ((numericV v).1.neg) ((numericV v).1.mag))).natAbs) bo]∧SRow W .u32 bn (canon (-(goodI ((numericV v).1.neg) ((numericV v).1.mag))).natAbs) bo),(fun (v_:Value) (W:World)=>∃ (bp:Option Addr) (bq:Nat),v_=vv (Vl.mk 4 0 0 (decide (-(goodI ((numericV v).1.neg) ((numericV v).1.mag)) < 0)) (canon (-(goodI ((numericV v).1.neg) ((numericV v).1.mag))).natAbs) [] 0) bp bq none 0∧SRow W .u32 bp (canon (-(goodI ((numericV v).1.neg) ((numericV v).1.mag))).natAbs) bq),vt,vt] aT (.eq (.eq (.cons (fun _ _ _ n ⟨_,_,e,h⟩=>⟨_,_,e,h.new_ n⟩) (.cons (fun _ _ _ n ⟨_,_,e,h⟩=>⟨_,_,e,h.new_ n⟩) (.tt (.tt .nil)))))) ?_ ?_
 refine .F dx<| .K6 0 bU ?_
 refine .o1 (tkC rfl (noG rfl) rfl fun _ w hn k=>(by
  refine ⟨#[.agg #[.bool ((numericV v).1.neg),sv bG ((numericV v).1.mag) bk]],_,args1 (k.eq1 1 56 rfl),fun w=>by kernel_rfl,bNeg_c ((numericV v).1.neg) _ ((numericV v).1.mag) _ _ (bV.new_ hn) (VOk.numeric hvv).limbs (by first|omega|(simp only [List.length_nil,List.length_take,List.length_drop]; omega)|(simp only [List.length_cons,List.length_nil]; omega)),?_⟩
  rintro e w' ⟨jY,jZ,rfl,hmo0,hm⟩
  exact⟨_,rfl,hm,⟨jY,jZ,rfl,hmo0⟩⟩)) ?_
 refine .o1 (tkC rfl (noG rfl) rfl fun _ w hn k=>(by
  obtain⟨j0,j1,j2,io⟩:=k.G 2 57
  refine ⟨#[.agg #[.bool (decide (-(goodI ((numericV v).1.neg) ((numericV v).1.mag)) < 0)),sv j0 (canon (-(goodI ((numericV v).1.neg) ((numericV v).1.mag))).natAbs) j1]],_,args1 j2,fun w=>by kernel_rfl,cbig_c (decide (-(goodI ((numericV v).1.neg) ((numericV v).1.mag)) < 0)) _ (canon (-(goodI ((numericV v).1.neg) ((numericV v).1.mag))).natAbs) _ _ io,?_⟩
  rintro e w' ⟨j3,j4,rfl,hmo0,hm⟩
  exact⟨_,rfl,hm,⟨j3,j4,rfl,hmo0⟩⟩)) ?_
 exact .off<| .off .nil
 refine aftI aT bR bS fun bL kE bW e0 e1 e2 bX=>?_
 have dA:=bX.f1 dw
 obtain⟨aL,aw,bv,e3⟩:=bX.G 3 58
 have bv:bL.eval (.tmp 58)=vv (Vl.mk 4 0 0 (decide (-(goodI ((numericV v).1.neg) ((numericV v).1.mag)) < 0)) (canon (-(goodI ((numericV v).1.neg) ((numericV v).1.mag))).natAbs) [] 0) aL aw none 0:=bv
 have bY:=bT.new_ e2
 refine sS9 dA bv bY fun ip e4 bZ j5=>?_
 have e6:=e3.fr bY bZ
 have e7:=e1.tR bZ
 refine sP (v:=iv 0) rfl bW e0 fun iq j6 e8 az it=>?_
 have⟨ir,kG⟩:=az.q2 dA bv
 refine eZ _ _ ?_
 refine wp_ret (ret_k e8 (v:=.tuple #[vv (Vl.mk 4 0 0 (decide (-(goodI ((numericV v).1.neg) ((numericV v).1.mag)) < 0)) (canon (-(goodI ((numericV v).1.neg) ((numericV v).1.mag))).natAbs) [] 0) aL aw none 0,iv 0]) (res_ct rfl ir it (l_agg isAgg29 sizeOf29 e4 rfl)) ?_)
 have af:(unG o v).1.mag=(canon (-(goodI ((numericV v).1.neg) ((numericV v).1.mag))).natAbs):=by first|rfl|(simp only [unG,unN,ofN,truthG,Vl.z,Bool.true_and,Bool.false_and,Bool.and_false,ao,ap,aq,ar,ah,aj,ak,bsm] <;> rfl)|(exfalso; omega)
 have ag:(unG o v).1.s=[]:=by first|rfl|(simp only [unG,unN,ofN,truthG,Vl.z,Bool.true_and,Bool.false_and,Bool.and_false,ao,ap,aq,ar,ah,aj,ak,bsm] <;> rfl)|(exfalso; omega)
 exact⟨aL,aw,none,0,(by show Ending.returned (.tuple #[vv (Vl.mk 4 0 0 (decide (-(goodI ((numericV v).1.neg) ((numericV v).1.mag)) < 0)) (canon (-(goodI ((numericV v).1.neg) ((numericV v).1.mag))).natAbs) [] 0) aL aw none 0,iv 0])=Ending.returned (.tuple #[vv (unG o v).1 aL aw none 0,iv ((unG o v).2)]); (first|rfl|(simp only [unG,unN,ofN,truthG,Vl.z,Bool.true_and,Bool.false_and,Bool.and_false,ao,ap,aq,ar,ah,aj,ak,af,ag,bsm] <;> rfl)|(exfalso; omega))),(by rw [af]; exact e6),(by rw [ag]; exact (SRow.nil _ _)),e7⟩
 have dz:=oF ak
 have e9:=hB dy ak
 refine wf e9<| wk fun kH fa=>?_
 refine wA tr3 [] 76 [ve (.string o),vT,vT] aT ?_ ?_
 exact .M im<| .b 0 (r_eqlS aj)<| .B 1 .nil
 refine aftI aT bR bS fun kI kJ b0 fb fc aW bw=>?_
 have⟨iu,iw⟩:=bw.f2 dw dx
 have ix:=bw.g 2 59
 have⟨fd,fe,j7,j8⟩:=nw4 aW bT bU bV eX
 refine fa _ _ ?_
 refine wt ix<| wk fun kK ff=>?_
 refine wA [true,true,true,true,false,false] [(4,false),(5,true)] 76 [ve (.pointer (some ⟨bl,1,none⟩)),ve (nv (Nm.mk ((numericV v).1.nk) ((numericV v).1.nn))),ve (nv (negM (Nm.mk ((numericV v).1.nk) ((numericV v).1.nn)))),ve (vv (Vl.mk 3 (negM (Nm.mk ((numericV v).1.nk) ((numericV v).1.nn))).k (negM (Nm.mk ((numericV v).1.nk) ((numericV v).1.nn))).n false [] [] 0) none 0 none 0),vt,vt] b0 ?_ ?_
 exact .F iw<| .K2 0 fe<| .C 1 (fun p=>nneg_c (Nm.mk ((numericV v).1.nk) ((numericV v).1.nn)) _)<| .C 2 (fun p=>cnum_c (negM (Nm.mk ((numericV v).1.nk) ((numericV v).1.nn))) _)<| .off<| .off .nil
 refine aftI b0 fb fc fun dD kL b1 fg fh fi b2=>?_
 have dE:=b2.f1 iu
 have dF:=b2.g 3 65
 have fj:=fd.new_ fi
 refine sS9 dE dF fj fun iy fl fk j9=>?_
 have fn:=fh.tR fk
 refine sP (v:=iv 0) rfl b1 fg fun iz ka fo aA iB=>?_
 have⟨iA,kN⟩:=aA.q2 dE dF
 refine ff _ _ ?_
 refine wp_ret (ret_k fo (res9 iA iB fl) ?_)
 exact rV (by first|rfl|(simp only [unG,unN,ofN,truthG,Vl.z,Bool.true_and,Bool.false_and,Bool.and_false,ao,ap,aq,ar,ah,aj,ak,bsm] <;> rfl)|(exfalso; omega)) fn
 refine wA tr8 [] 76 [ve (.string o),vF,vF,vU,vU,vU,vF,vF] bt ?_ ?_
 exact .M bQ<| .b 0 (r_eqlS aj)<| .N 1<| .S<| .S<| .S<| .T (fun k=>v_pickF rfl (k.eq1 2 50 rfl) rfl)<| .B 6 .nil
 refine aftI bt dn dp fun kO kP b3 fp fq aX aY=>?_
 have⟨iC,iD,iE⟩:=aY.f3 bQ hV dq
 have iF:=aY.g 7 47
 have⟨fs,ft,fu,fv⟩:=nw4 aX dr bK ds dt
 refine du _ _ ?_
 refine wf iF<| wk fun kQ fw=>?_
 refine wA tr3 [] 76 [ve (.string o),vF,vF] b3 ?_ ?_
 exact .M iC<| .b 0 (r_eqlS aj)<| .B 1 .nil
 refine aftI b3 fp fq fun kR kS b4 fy fz aZ bx=>?_
 have⟨iG,dI⟩:=bx.f2 iD iE
 have iH:=bx.g 2 59
 have⟨fA,b5,fB,fC⟩:=nw4 aZ fs ft fu fv
 refine fw _ _ ?_
 refine wf iH<| wk fun kT fD=>?_
 refine wA tr4 [] 76 [ve (pv bl),ve (iv ((numericV v).1.k)),ve (.bool (decide (((numericV v).1.k)=4))),ve (.bool (decide (((numericV v).1.k)=4)))] b4 ?_ ?_
 exact .F dI<| .J 0 isAgg3 b5<| .b 1 (r_eql rfl)<| .B 2 .nil
 refine aftI b4 fy fz fun kU kV a1 b6 b7 a3 bz=>?_
 have⟨dJ,iI⟩:=bz.f2 iG dI
 have dK:=bz.g 3 66
 have⟨b8,fE,kb,kc⟩:=nw4 a3 fA b5 fB fC
 refine fD _ _ ?_
 rcases bc (decide (((numericV v).1.k)=4)) with al|al
 have dL:=oT al
 have fF:=hB dK al
 refine wt fF<| wk fun kW fG=>?_
 refine wA [true,false,false] [(1,false),(2,true)] 76 [ve (vv (Vl.mk 0 0 0 false [] [] 0) none 0 none 0),vt,vt] a1 ?_ ?_
 exact .Z<| .off<| .off .nil
 refine aftI a1 b6 b7 fun dM kX b9 fH fI fJ ca=>?_
 have dN:=ca.f1 dJ
 have dO:=ca.g 0 70
 have fK:=b8.new_ fJ
 refine sS9 dN dO fK fun iJ fM fL kd=>?_
 have fO:=fI.tR fL
 refine sP (v:=iv 3) rfl b9 fH fun iK ke fP aB iM=>?_
 have⟨iL,kZ⟩:=aB.q2 dN dO
 refine fG _ _ ?_
 refine wp_ret (ret_k fP (res9 iL iM fM) ?_)
 exact rV (by first|rfl|(simp only [unG,unN,ofN,truthG,Vl.z,Bool.true_and,Bool.false_and,Bool.and_false,ao,ap,aq,ar,ah,aj,al,bsm] <;> rfl)|(exfalso; omega)) fO
 have dL:=oF al
 have fQ:=hB dK al
 refine wf fQ<| ws ?_
 refine il _ _ ?_
 refine wk fun k0 fR=>?_
 refine wA [true,true,true,true,true,false,false] [(5,false),(6,true)] 76 [ve (.pointer (some ⟨bl,1,none⟩)),ve (nv (Nm.mk ((numericV v).1.nk) ((numericV v).1.nn))),ve (nv (Nm.mk 0 (-1))),ve (nv (bitM 3 (Nm.mk ((numericV v).1.nk) ((numericV v).1.nn)) (Nm.mk 0 (-1)))),ve (vv (Vl.mk 3 (bitM 3 (Nm.mk ((numericV v).1.nk) ((numericV v).1.nn)) (Nm.mk 0 (-1))).k (bitM 3 (Nm.mk ((numericV v).1.nk) ((numericV v).1.nn)) (Nm.mk 0 (-1))).n false [] [] 0) none 0 none 0),vt,vt] a1 ?_ ?_
 exact .F iI<| .K2 0 fE<| .T (fun k=>v_build (ps:=[(1,iv (-1))]) rfl (parts1 rfl) (by kernel_rfl))<| .D (fun k=>args3 rfl (k.eq1 1 72 rfl) (k.eq1 2 73 rfl)) (fun p=>bit_c 3 (Nm.mk ((numericV v).1.nk) ((numericV v).1.nn)) (Nm.mk 0 (-1)) _)<| .C 3 (fun p=>cnum_c (bitM 3 (Nm.mk ((numericV v).1.nk) ((numericV v).1.nn)) (Nm.mk 0 (-1))) _)<| .off<| .off .nil
 refine aftI a1 b6 b7 fun dR k1 cb fS fT fU cc=>?_
 have dS:=cc.f1 dJ
 have dT:=cc.g 4 75
 have fV:=b8.new_ fU
 refine sS9 dS dT fV fun iN fX fW kf=>?_
 have fZ:=fT.tR fW
 refine sP (v:=iv 0) rfl cb fS fun iO kg f0 aC iQ=>?_
 have⟨iP,k3⟩:=aC.q2 dS dT
 refine fR _ _ ?_
 refine wp_ret (ret_k f0 (res9 iP iQ fX) ?_)
 exact rV (by first|rfl|(simp only [unG,unN,ofN,truthG,Vl.z,Bool.true_and,Bool.false_and,Bool.and_false,ao,ap,aq,ar,ah,aj,al,bsm] <;> rfl)|(exfalso; omega)) fZ
 have eW:=oF ah
 refine wA tr3 [] 76 [ve (iv ((numericV v).2)),vT,vT] bs ?_ ?_
 exact .M bP<| .b 0 (r_neq ah)<| .B 1 .nil
 refine aftI bs dl dk fun k4 k5 cd f1 f2 a4 aM=>?_
 have⟨k6,iR,k7,iS⟩:=aM.f4 hR hT hU bP
 have iT:=aM.g 2 42
 have⟨f3,kh,ki,kj⟩:=nw4 a4 dj dg dh di
 refine dm _ _ ?_
 refine wt iT<| wk fun k8 f4=>?_
 refine wB [true,true,false,false] [1] [(2,false),(3,true)] 76 [ve (vv (Vl.mk 0 0 0 false [] [] 0) none 0 none 0),ve (iv ((numericV v).2)),vt,vt] [] cd ?_ ?_ ?_
 refine .Z ?_
 refine .o3 ?_
 exact .off<| .off .nil
 refine eg1 ?_
 exact eager_take rfl rfl fun _ w hn k=>⟨iv ((numericV v).2),fun w=>v_move rfl (k.fx 9 iS),rfl⟩
 refine aftI cd f1 f2 fun dW k9 ce f5 f6 f7 bA=>?_
 have dX:=bA.f1 iR
 have dY:=bA.g 0 45
 have dZ:=bA.g 1 46
 have f8:=f3.new_ f7
 refine sS9 dX dY f8 fun iU ga f9 kk=>?_
 have gc:=f6.tR f9
 refine sP dZ ce f5 fun iV kl gd ax iX=>?_
 have⟨iW,lc,ld⟩:=ax.q3 dX dY dZ
 refine f4 _ _ ?_
 refine wp_ret (ret_k gd (res9 iW iX ga) ?_)
 exact rV (by first|rfl|(simp only [unG,unN,ofN,truthG,Vl.z,Bool.true_and,Bool.false_and,Bool.and_false,ao,ap,aq,ar,ah,bsm] <;> rfl)|(exfalso; omega)) gc
 intro le cf
 refine wk fun lf gg=>?_
 refine wA tr1 [] 76 [ve (.string o)] hN ?_ ?_
 exact .M h8 .nil
 refine aftI hN jE hW fun lg lh ch gh gi ci a5=>?_
 have⟨iY,iZ,i0⟩:=a5.f3 h8 h9 hO
 have d2:=a5.g 0 10
 have⟨gj,gk⟩:=nw2 ci hY h3
 refine gg _ _ ?_
 refine wb<| wk fun li gl=>?_
 refine wA tr2 [] 76 [ve (.bool (strEq o ⟨#[33]⟩)),ve (.bool (strEq o ⟨#[33]⟩))] ch ?_ ?_
 exact .H d2 (r_eqlS rfl)<| .B 0 .nil
 refine aftI ch gh gi fun lj lk a6 cj a7 cl aN=>?_
 have⟨i1,d3,d4,d5⟩:=aN.f4 iY iZ i0 d2
 have d6:=aN.g 1 12
 have⟨cm,cn⟩:=nw2 cl gj gk
 refine gl _ _ ?_
 rcases bc (strEq o ⟨#[33]⟩) with ab|ab
 have gm:=hB d6 ab
 refine wt gm<| wk fun ll gn=>?_
 refine wA [true,true,true,true,false,false] [(4,false),(5,true)] 76 [ve (vv v Av cv Bv dv),ve (.bool (boolV v)),ve (.bool (!(boolV v))),ve (vv (Vl.mk 2 0 0 false [] [] (truthR (!(boolV v)))) none 0 none 0),vt,vt] a6 ?_ ?_
 exact .L9 d3 cm<| .C 0 (fun p=>cbool_c v _ _ _ _ _ (hmv.new_ (a7.transNew p)) (hsv.new_ (a7.transNew p)))<| .T (fun k=>v_not rfl (k.eq1 1 15 rfl))<| .C 2 (fun p=>truthN_c (!(boolV v)) _)<| .off<| .off .nil
 refine aftI a6 cj a7 fun d7 lm co go gp gq cp=>?_
 have d8:=cp.f1 d4
 have d9:=cp.g 3 17
 have gr:=cn.new_ gq
 refine sS9 d8 d9 gr fun i2 gt gs km=>?_
 have gv:=gp.tR gs
 refine sP (v:=iv 0) rfl co go fun i3 kn gw aD i5=>?_
 have⟨i4,lo⟩:=aD.q2 d8 d9
 refine gn _ _ ?_
 refine wp_ret (ret_k gw (res9 i4 i5 gt) ?_)
 exact rV (by first|rfl|(simp only [unG,unN,ofN,truthG,Vl.z,Bool.true_and,Bool.false_and,Bool.and_false,ab,bsm] <;> rfl)|(exfalso; omega)) gv
 have gx:=hB d6 ab
 refine wf gx<| wk fun lp gy=>?_
 refine wA tr2 [] 76 [ve (.bool (strEq o ⟨#[118,111,105,100]⟩)),ve (.bool (strEq o ⟨#[118,111,105,100]⟩))] a6 ?_ ?_
 exact .H d5 (r_eqlS rfl)<| .B 0 .nil
 refine aftI a6 cj a7 fun lq lr a8 cq cr ct aO=>?_
 have⟨i6,i7,ec,ed⟩:=aO.f4 i1 d3 d4 d5
 have ee:=aO.g 1 18
 have⟨gz,cu⟩:=nw2 ct cm cn
 refine gy _ _ ?_
 rcases bc (strEq o ⟨#[118,111,105,100]⟩) with ac|ac
 have gA:=hB ee ac
 refine wt gA<| wk fun ls gB=>?_
 refine wA [true,false,false] [(1,false),(2,true)] 76 [ve (vv (Vl.mk 0 0 0 false [] [] 0) none 0 none 0),vt,vt] a8 ?_ ?_
 exact .Z<| .off<| .off .nil
 refine aftI a8 cq cr fun ef lu cw gC gD gE cx=>?_
 have eg:=cx.f1 ec
 have eh:=cx.g 0 20
 have gF:=cu.new_ gE
 refine sS9 eg eh gF fun i8 gH gG ko=>?_
 have gJ:=gD.tR gG
 refine sP (v:=iv 0) rfl cw gC fun i9 kp gK aE jb=>?_
 have⟨ja,lw⟩:=aE.q2 eg eh
 refine gB _ _ ?_
 refine wp_ret (ret_k gK (res9 ja jb gH) ?_)
 exact rV (by first|rfl|(simp only [unG,unN,ofN,truthG,Vl.z,Bool.true_and,Bool.false_and,Bool.and_false,ab,ac,bsm] <;> rfl)|(exfalso; omega)) gJ
 have gL:=hB ee ac
 refine wf gL<| wk fun lx gM=>?_
 refine wA tr2 [] 76 [ve (.bool (strEq o ⟨#[43]⟩)),ve (.bool (strEq o ⟨#[43]⟩))] a8 ?_ ?_
 exact .H ed (r_eqlS rfl)<| .B 0 .nil
 refine aftI a8 cq cr fun ly jc a9 cy aP cz aQ=>?_
 have⟨jd,ek,el,em⟩:=aQ.f4 i6 i7 ec ed
 have en:=aQ.g 1 21
 have⟨cA,bB⟩:=nw2 cz gz cu
 refine gM _ _ ?_
 rcases bc (strEq o ⟨#[43]⟩) with ad|ad
 have gN:=hB en ad
 refine wt gN<| wk fun lz gO=>?_
 refine wB [true,true,true,true,true,true,false,false] [4] [(6,false),(7,true)] 76 [ve (vv v Av cv Bv dv),ve (.tuple #[nv ((numberV v).1),iv ((numberV v).2)]),ve (.tuple #[nv ((numberV v).1),iv ((numberV v).2)]),ve (nv ((numberV v).1)),ve (iv ((numberV v).2)),IsNew jc 23 [iv 0,iv 0],vt,vt] [5] a9 ?_ ?_ ?_
 refine .L9 ek cA<| .C 0 (fun p=>cnumber_c v _ _ _ _ _ (hmv.new_ (aP.transNew p)) (hsv.new_ (aP.transNew p)) hvv)<| .N 1<| .E 2 ?_
 refine .o3 ?_
 exact .Y<| .off<| .off .nil
 refine eg1 ?_
 exact eager_take rfl rfl fun _ w hn k=>⟨iv ((numberV v).2),fun w=>v_extract rfl (k.eq1 2 23 rfl) rfl,rfl⟩
 refine aftI a9 cy aP fun eo lA cB gP gQ gR ba=>?_
 have je:=ba.f1 el
 have ep:=ba.g 3 26
 have er:=ba.g 4 27
 obtain⟨jf,es,cC,gS⟩:=ba.G 5 6
 have gT:=bB.new_ gR
 have hne466:an ≠ jf:=by have h1:=bB.lt; have h2:=cC; omega
 have kq:=Nat.le_trans aP.size cC
 refine sS2 es ep gS fun lB cD gU gV=>?_
 have cE:=gV hne466 gT
 have cF:=gQ.tR gU
 refine sP er cB gP fun jg bb cG au bC=>?_
 have⟨eu,lD,lE⟩:=au.q3 je ep er
 have ev:=au.q es
 refine gO _ _ <| wk fun lF gX=>?_
 refine wk fun lG cH=>?_
 rcases bc (decide (((numberV v).2)=0)) with am|am
 have ew:=oT am
 refine wA tr2 [] 76 [ve (iv ((numberV v).2)),vF] bb ?_ ?_
 exact .M bC<| .b 0 (r_neq am) .nil
 refine aftI bb cG cF fun lH lI cI gY gZ cJ bd=>?_
 have⟨jh,ji,lJ⟩:=bd.f3 eu ev bC
 have jj:=bd.g 1 29
 have⟨g0,g1⟩:=nw2 cJ cE cD
 refine cH _ _ ?_
 refine wf jj<| ws ?_
 refine gX _ _ ?_
 refine wk fun lK g2=>?_
 refine wA [true,true,false,false] [(2,false),(3,true)] 76 [ve (nv ((numberV v).1)),ve (vv (Vl.mk 3 ((numberV v).1).k ((numberV v).1).n false [] [] 0) none 0 none 0),vt,vt] cI ?_ ?_
 exact .L2 ji g1<| .C 0 (fun p=>cnum_c ((numberV v).1) _)<| .off<| .off .nil
 refine aftI cI gY gZ fun ex lL cK g3 g4 g5 cL=>?_
 have ey:=cL.f1 jh
 have ez:=cL.g 1 33
 have g6:=g0.new_ g5
 refine sS9 ey ez g6 fun jk g8 g7 kr=>?_
 have ha:=g4.tR g7
 refine sP (v:=iv 0) rfl cK g3 fun jl ks hc aF jn=>?_
 have⟨jm,lN⟩:=aF.q2 ey ez
 refine g2 _ _ ?_
 refine wp_ret (ret_k hc (res9 jm jn g8) ?_)
 exact rV (by first|rfl|(simp only [unG,unN,ofN,truthG,Vl.z,Bool.true_and,Bool.false_and,Bool.and_false,ab,ac,ad,am,bsm] <;> rfl)|(exfalso; omega)) ha
 have ew:=oF am
 refine wA tr2 [] 76 [ve (iv ((numberV v).2)),vT] bb ?_ ?_
 exact .M bC<| .b 0 (r_neq am) .nil
 refine aftI bb cG cF fun lO lP cM hd hf cN be=>?_
 have⟨jo,lQ,jp⟩:=be.f3 eu ev bC
 have jq:=be.g 1 29
 have⟨hg,kt⟩:=nw2 cN cE cD
 refine cH _ _ ?_
 refine wt jq<| wk fun lR hh=>?_
 refine wB [true,true,false,false] [1] [(2,false),(3,true)] 76 [ve (vv (Vl.mk 0 0 0 false [] [] 0) none 0 none 0),ve (iv ((numberV v).2)),vt,vt] [] cM ?_ ?_ ?_
 refine .Z ?_
 refine .o3 ?_
 exact .off<| .off .nil
 refine eg1 ?_
 exact eager_take rfl rfl fun _ w hn k=>⟨iv ((numberV v).2),fun w=>v_move rfl (k.fx 7 jp),rfl⟩
 refine aftI cM hd hf fun eC lS cO hi hj hl bD=>?_
 have eD:=bD.f1 jo
 have eE:=bD.g 0 30
 have eF:=bD.g 1 31
 have ho:=hg.new_ hl
 refine sS9 eD eE ho fun jr hs hr ku=>?_
 have hu:=hj.tR hr
 refine sP eF cO hi fun js kv hv ay ju=>?_
 have⟨jt,lU,lV⟩:=ay.q3 eD eE eF
 refine hh _ _ ?_
 refine wp_ret (ret_k hv (res9 jt ju hs) ?_)
 exact rV (by first|rfl|(simp only [unG,unN,ofN,truthG,Vl.z,Bool.true_and,Bool.false_and,Bool.and_false,ab,ac,ad,am,bsm] <;> rfl)|(exfalso; omega)) hu
 have hw:=hB en ad
 refine wf hw<| wk fun lW cP=>wk fun lX hx=>?_
 refine wA tr2 [] 76 [ve (.bool (strEq o ⟨#[45]⟩)),ve (.bool (strEq o ⟨#[45]⟩))] a9 ?_ ?_
 exact .H em (r_eqlS rfl)<| .B 0 .nil
 refine aftI a9 cy aP fun lY lZ bE cQ cR cS aR=>?_
 have⟨eI,eJ,eK,jv⟩:=aR.f4 jd ek el em
 have eL:=aR.g 1 34
 have⟨cT,cU⟩:=nw2 cS cA bB
 refine hx _ _ ?_
 rcases bc (strEq o ⟨#[45]⟩) with ae|ae
 have cV:=hB eL ae
 refine wt cV<| ws ?_
 refine cP _ _ ?_
 refine wt cV<| ws ?_
 exact cf _ _ ⟨bE,cQ,cR,eI,eJ,eK,cT,cU,(by first|assumption|(unfold unT; simp only [ab,ac,ad,ae,Bool.false_or,Bool.or_false,Bool.true_or,Bool.or_true]; done)|(unfold unT; simp only [ab,ac,ad,ae,Bool.false_or,Bool.or_false,Bool.true_or,Bool.or_true] <;> rfl)),(by first|assumption|(unfold unT; simp only [ab,ac,ad,ae,Bool.false_or,Bool.or_false,Bool.true_or,Bool.or_true]; done)|(unfold unT; simp only [ab,ac,ad,ae,Bool.false_or,Bool.or_false,Bool.true_or,Bool.or_true] <;> rfl)),(by first|assumption|(unfold unT; simp only [ab,ac,ad,ae,Bool.false_or,Bool.or_false,Bool.true_or,Bool.or_true]; done)|(unfold unT; simp only [ab,ac,ad,ae,Bool.false_or,Bool.or_false,Bool.true_or,Bool.or_true] <;> rfl)),(by first|assumption|(unfold unT; simp only [ab,ac,ad,ae,Bool.false_or,Bool.or_false,Bool.true_or,Bool.or_true]; done)|(unfold unT; simp only [ab,ac,ad,ae,Bool.false_or,Bool.or_false,Bool.true_or,Bool.or_true] <;> rfl))⟩
 have hy:=hB eL ae
 refine wf hy<| wp_g0 [true,true] [] 76
  [ve (.bool (strEq o ⟨#[126]⟩)),ve (.bool (strEq o ⟨#[126]⟩))] bE (.eq (.eq .nil)) ?_ ?_
 exact .H jv (r_eqlS rfl)<| .B 0 .nil
 refine aftI bE cQ cR fun l0 l1 bF cW cX cY bf=>?_
 have⟨jw,jx,eM⟩:=bf.f3 eI eJ eK
 have eN:=bf.g 1 34
 have⟨hz,cZ⟩:=nw2 cY cT cU
 refine cP _ _ ?_
 rcases bc (strEq o ⟨#[126]⟩) with ai|ai
 have hA:=hB eN ai
 refine wt hA<| ws ?_
 exact cf _ _ ⟨bF,cW,cX,jw,jx,eM,hz,cZ,(by first|assumption|(unfold unT; simp only [ab,ac,ad,ae,ai,Bool.false_or,Bool.or_false,Bool.true_or,Bool.or_true]; done)|(unfold unT; simp only [ab,ac,ad,ae,ai,Bool.false_or,Bool.or_false,Bool.true_or,Bool.or_true] <;> rfl)),(by first|assumption|(unfold unT; simp only [ab,ac,ad,ae,ai,Bool.false_or,Bool.or_false,Bool.true_or,Bool.or_true]; done)|(unfold unT; simp only [ab,ac,ad,ae,ai,Bool.false_or,Bool.or_false,Bool.true_or,Bool.or_true] <;> rfl)),(by first|assumption|(unfold unT; simp only [ab,ac,ad,ae,ai,Bool.false_or,Bool.or_false,Bool.true_or,Bool.or_true]; done)|(unfold unT; simp only [ab,ac,ad,ae,ai,Bool.false_or,Bool.or_false,Bool.true_or,Bool.or_true] <;> rfl)),(by first|assumption|(unfold unT; simp only [ab,ac,ad,ae,ai,Bool.false_or,Bool.or_false,Bool.true_or,Bool.or_true]; done)|(unfold unT; simp only [ab,ac,ad,ae,ai,Bool.false_or,Bool.or_false,Bool.true_or,Bool.or_true] <;> rfl))⟩
 have hC:=hB eN ai
 refine wf hC<| wk fun l2 hD=>?_
 have eO:unT o=false:=by unfold unT; simp only [ab,ac,ad,ae,ai,Bool.false_or,Bool.or_false,Bool.true_or,Bool.or_true]
 refine wA [true,false,false] [(1,false),(2,true)] 76 [ve (vv (Vl.mk 0 0 0 false [] [] 0) none 0 none 0),vt,vt] bF ?_ ?_
 exact .Z<| .off<| .off .nil
 refine aftI bF cW cX fun eP l3 c0 hE hF hG c1=>?_
 have eQ:=c1.f1 eM
 have eR:=c1.g 0 11
 have hH:=cZ.new_ hG
 refine sS9 eQ eR hH fun jy hJ hI kw=>?_
 have hL:=hF.tR hI
 refine sP (v:=iv 3) rfl c0 hE fun jz kx hM aG jB=>?_
 have⟨jA,l5⟩:=aG.q2 eQ eR
 refine hD _ _ ?_
 refine wp_ret (ret_k hM (res9 jA jB hJ) ?_)
 exact rV (by first|rfl|(simp only [unG,unN,ofN,truthG,Vl.z,Bool.true_and,Bool.false_and,Bool.and_false,ab,ac,ad,ae,ai,eO,bsm] <;> rfl)|(exfalso; omega)) hL
theorem VOk.str (s:ByteArray) (h:s.size≤20000):VOk ⟨5,0,0,false,[],asc s,0⟩:=⟨Limbs.nil,U16s.asc s,Nat.zero_le _,by rw [asc_len]; exact h,(show (-9223372036854775808:Int)≤0 by decide),(show (0:Int)≤9223372036854775807 by decide),(show (-9223372036854775808:Int)≤0 by decide),(show (0:Int)≤9223372036854775807 by decide)⟩
theorem VOk.whole {n:Int} (h1:-9223372036854775808≤n) (h2:n≤9223372036854775807):VOk ⟨3,0,n,false,[],[],0⟩:=⟨Limbs.nil,U16s.nil,Nat.zero_le _,Nat.zero_le _,h1,h2,(show (-9223372036854775808:Int)≤0 by decide),(show (0:Int)≤9223372036854775807 by decide)⟩
theorem VOk.big {x:Nat} (h:x < 4294967296):VOk ⟨4,0,0,false,[x],[],0⟩:=⟨Limbs.cons h Limbs.nil,U16s.nil,(show (1:Nat)≤40 by decide),Nat.zero_le _,(show (-9223372036854775808:Int)≤0 by decide),(show (0:Int)≤9223372036854775807 by decide),(show (-9223372036854775808:Int)≤0 by decide),(show (0:Int)≤9223372036854775807 by decide)⟩
theorem few_ok {v:Vl} (h:(decide ((v.s.length:Int)≤20000) && decide ((v.mag.length:Int)≤40))=true) (hl:Limbs v.mag) (hu:U16s v.s) (h1:-9223372036854775808≤v.nn) (h2:v.nn≤9223372036854775807) (h3:-9223372036854775808≤v.ref) (h4:v.ref≤9223372036854775807):VOk v:=by
  simp only [Bool.and_eq_true,decide_eq_true_eq] at h
  exact⟨hl,hu,by omega,by omega,h1,h2,h3,h4⟩
theorem VOk.big0:VOk ⟨4,0,0,false,[],[],0⟩:=⟨Limbs.nil,U16s.nil,by decide,by decide,by decide,by decide,by decide,by decide⟩
theorem join_a1:joinV (cleanV (Vl.mk 5 0 0 false [] (asc ⟨#[97]⟩) 0)) (cleanV (Vl.mk 3 0 1 false [] [] 0))=(strV [97,49],0):=by
  have h:=join_num (a:=[97]) (n:=⟨0,1⟩) (by decide) (by decide)
  rw [whole_text (by decide) (by decide)] at h
  have e:asc (strOfNums (textI 1))=[49]:=by
    have h1:textI 1=[49]:=by rw [textI,if_neg (by decide),if_neg (by decide),show (1:Int).natAbs=1 from rfl,digs_one (by omega) (by omega)]; rfl
    rw [h1]; rfl
  rw [e] at h
  exact h
theorem bin_a1:binG ⟨#[43]⟩ (cleanV (Vl.mk 5 0 0 false [] (asc ⟨#[97]⟩) 0)) (cleanV (Vl.mk 3 0 1 false [] [] 0))=(strV [97,49],0):=by
  unfold binG
  rw [if_pos (by decide +kernel),if_pos (by decide +kernel)]
  exact join_a1
theorem few_c (v:Vl) (Av:Option Addr) (cv:Nat) (Bv:Option Addr) (dv:Nat) (w:World) (hmv:SRow w .u32 Av v.mag cv) (hsv:SRow w .u16 Bv v.s dv):Calls prog 20 #[vv v Av cv Bv dv] w (IsRet (.bool (decide ((v.s.length:Int)≤20000) && decide ((v.mag.length:Int)≤40))) w):=by
 refine enter_abs func20 rfl fun a0 aa ak hp=>?_
 have aa:a0.tmps.size=14:=aa
 have ac:New w w:=Upd.refl _ _
 have hp0:a0.eval (.tmp 0)=vv v Av cv Bv dv:=hp 0 _ rfl
 refine wk fun K1 al=>?_
 refine wB tr2 [] [] 14 [IsNew w 29 (c7 v Av cv Bv dv),vF] [0] aa ?_ heN ?_
 exact .X hp0<| .c .nil
 refine aftI aa ak ac fun a2 w3 ad am ae au an=>?_
 obtain⟨q9,h8,af,ab⟩:=an.G 0 1
 have ap:=Nat.le_trans ac.size af
 refine al _ _ <| wk fun av ag=>?_
 refine wA tr12 [] 14 [ve (.pointer (some ⟨q9,5,none⟩)),ve (sv Bv v.s dv),ve (iv (v.s.length:Int)),ve (.bool (decide ((v.s.length:Int)≤20000))),ve (.bool (decide ((v.s.length:Int)≤20000))),ve (gq (decide ((v.s.length:Int)≤20000)) (.pointer (some ⟨q9,3,none⟩))),ve (gq (decide ((v.s.length:Int)≤20000)) (.pointer (some ⟨q9,4,none⟩))),ve (gq (decide ((v.s.length:Int)≤20000)) (sv Av v.mag cv)),ve (gq (decide ((v.s.length:Int)≤20000)) (iv (v.mag.length:Int))),ve (gq (decide ((v.s.length:Int)≤20000)) (.bool (decide ((v.mag.length:Int)≤40)))),ve (.bool ((decide ((v.s.length:Int)≤20000)) && (decide ((v.mag.length:Int)≤40)))),ve (.bool ((decide ((v.s.length:Int)≤20000)) && (decide ((v.mag.length:Int)≤40))))] ad ?_ ?_
 exact .F h8<| .J 0 isAgg27 ab<| .T (fun k=>v_lenR rfl elU (k.eq1 1 4 rfl))<| .b 2 (r_leqK rfl)<| .N 3<| .Q (fun k=>g0 (k.eq1 4 7 rfl)) (fun hG n k=>v_field rfl (k.fx 1 h8) (fun w=>rfl))<| .Q (fun k=>g0 (k.eq1 4 7 rfl)) (fun hG n k=>v_field rfl (cT hG (k.eq1 5 8 rfl)) (fun w=>rfl))<| .Q (fun k=>g0 (k.eq1 4 7 rfl)) (fun hG n k=>v_load rfl (cT hG (k.eq1 6 9 rfl)) (l_one isAgg24 ((ab.new_ n).cell 4)))<| .Q (fun k=>g0 (k.eq1 4 7 rfl)) (fun hG n k=>v_lenR rfl elW (cT hG (k.eq1 7 10 rfl)))<| .Q (fun k=>g0 (k.eq1 4 7 rfl)) (fun hG n k=>v_bin rfl (cT hG (k.eq1 8 11 rfl)) rfl (fun _=>rfl) (r_leqK rfl))<| .O 4 9<| .B 10 .nil
 refine aftI ad am ae fun aw ax aq ah ai ar aj=>?_
 have ao:=aj.g 11 2
 refine ag _ _ ?_
 refine wp_ret (ret_k ah (v:=.bool ((decide ((v.s.length:Int)≤20000)) && (decide ((v.mag.length:Int)≤40)))) (res_t rfl ao _) ?_)
 refine ⟨?_,ai⟩
 show Ending.returned (.bool ((decide ((v.s.length:Int)≤20000)) && (decide ((v.mag.length:Int)≤40))))=Ending.returned (.bool (decide ((v.s.length:Int)≤20000) && decide ((v.mag.length:Int)≤40)))
 first|rfl|(simp only [bsm] <;> rfl)|(exfalso; omega)
theorem first_c  (w:World) (HT:ItoaOk w):Calls prog 10 #[] w (IsRet (.bool true) w):=by
 refine enter_abs func10 rfl fun a0 cO iS hp=>?_
 have cO:a0.tmps.size=99:=cO
 have iT:New w w:=Upd.refl _ _
 refine wk fun K1 iU=>?_
 refine wA tr1 [] 99 [vF] cO ?_ ?_
 exact .c .nil
 refine aftI cO iS iT fun a2 w3 fp iV dn k7 k8=>?_
 refine iU _ _ <| wk fun K9 iW=>?_
 refine wp_gS (fun W=>True) (fun W W' hn h=>trivial) trivial [true,true,true,true,true,true,true,false,false] [5] [(7,false),(8,true)] 99
  [(fun (v_:Value) (W:World)=>∃ (A3:Option Addr) (c4:Nat),v_=vv (Vl.mk 5 0 0 false [] (asc ⟨#[97]⟩) 0) none 0 A3 c4∧SRow W .u16 A3 (asc ⟨#[97]⟩) c4),ve (vv (Vl.mk 3 0 1 false [] [] 0) none 0 none 0),(TP (binG ⟨#[43]⟩ (cleanV (Vl.mk 5 0 0 false [] (asc ⟨#[97]⟩) 0)) (cleanV (Vl.mk 3 0 1 false [] [] 0))).1 ((binG ⟨#[43]⟩ (cleanV (Vl.mk 5 0 0 false [] (asc ⟨#[97]⟩) 0)) (cleanV (Vl.mk 3 0 1 false [] [] 0))).2)),(TP (binG ⟨#[43]⟩ (cleanV (Vl.mk 5 0 0 false [] (asc ⟨#[97]⟩) 0)) (cleanV (Vl.mk 3 0 1 false [] [] 0))).1 ((binG ⟨#[43]⟩ (cleanV (Vl.mk 5 0 0 false [] (asc ⟨#[97]⟩) 0)) (cleanV (Vl.mk 3 0 1 false [] [] 0))).2)),(fun (v_:Value) (W:World)=>∃ (bN:Option Addr) (bO:Nat) (bP:Option Addr) (bQ:Nat),v_=vv (binG ⟨#[43]⟩ (cleanV (Vl.mk 5 0 0 false [] (asc ⟨#[97]⟩) 0)) (cleanV (Vl.mk 3 0 1 false [] [] 0))).1 bN bO bP bQ∧SRow W .u32 bN ((binG ⟨#[43]⟩ (cleanV (Vl.mk 5 0 0 false [] (asc ⟨#[97]⟩) 0)) (cleanV (Vl.mk 3 0 1 false [] [] 0))).1.mag) bO∧SRow W .u16 bP ((binG ⟨#[43]⟩ (cleanV (Vl.mk 5 0 0 false [] (asc ⟨#[97]⟩) 0)) (cleanV (Vl.mk 3 0 1 false [] [] 0))).1.s) bQ),ve (iv ((binG ⟨#[43]⟩ (cleanV (Vl.mk 5 0 0 false [] (asc ⟨#[97]⟩) 0)) (cleanV (Vl.mk 3 0 1 false [] [] 0))).2)),IsNew w3 29 z7,vt,vt]
  [6] (newsCons (fun v w h=>IsNew.old h) newsNil) fp (.cons (fun _ _ _ n ⟨_,_,e,h⟩=>⟨_,_,e,h.new_ n⟩) (.eq (.cons (fun _ _ _ n ⟨_,_,_,_,e,h,i⟩=>⟨_,_,_,_,e,h.new_ n,i.new_ n⟩) (.cons (fun _ _ _ n ⟨_,_,_,_,e,h,i⟩=>⟨_,_,_,_,e,h.new_ n,i.new_ n⟩) (.cons (fun _ _ _ n ⟨_,_,_,_,e,h,i⟩=>⟨_,_,_,_,e,h.new_ n,i.new_ n⟩) (.eq (.nw (.tt (.tt .nil))))))))) ?_ ?_ ?_
 refine .o1 (tkC rfl (noG rfl) rfl fun _ w hn k=>(by
  refine ⟨#[.string ⟨#[97]⟩],_,args1 rfl,fun w=>by kernel_rfl,ostr_c ⟨#[97]⟩ _ (by first|omega|(show (_:Nat)≤_; decide)),?_⟩
  rintro e w' ⟨A1,c2,rfl,hmo0,hm⟩
  exact⟨_,rfl,hm,⟨A1,c2,rfl,hmo0⟩⟩)) ?_
 refine .D (fun k=>args1 rfl) (fun p=>owhole_c 1 _) ?_
 refine .o1 (tkC rfl (noG rfl) rfl fun _ w hn k=>(by
  obtain⟨A5,c6,e7,iX⟩:=k.G 0 14
  refine ⟨#[.string ⟨#[43]⟩,vv (Vl.mk 5 0 0 false [] (asc ⟨#[97]⟩) 0) none 0 A5 c6,vv (Vl.mk 3 0 1 false [] [] 0) none 0 none 0],_,args3 rfl e7 (k.eq1 1 15 rfl),fun w=>by kernel_rfl,binG_c ⟨#[43]⟩ (Vl.mk 5 0 0 false [] (asc ⟨#[97]⟩) 0) _ _ _ _ (Vl.mk 3 0 1 false [] [] 0) _ _ _ _ _ (SRow.nil _ _) iX (SRow.nil _ _) (SRow.nil _ _) (VOk.str ⟨#[97]⟩ (by first|omega|decide)) (VOk.whole (by omega) (by omega)) (HT.up (dn.transNew hn)),?_⟩
  rintro e w' ⟨A9,iY,iZ,i0,rfl,hmo0,hmo1,hm⟩
  exact⟨_,rfl,hm,⟨A9,iY,iZ,i0,rfl,hmo0,hmo1⟩⟩)) ?_
 refine .o1 (tk rfl rfl fun _ w hn k=>(by
  obtain⟨bR,i1,i2,i3,i4,fy,fz⟩:=k.G 2 16
  exact⟨_,v_move rfl i4,⟨bR,i1,i2,i3,rfl,fy,fz⟩⟩)) ?_
 refine .o1 (tk rfl rfl fun _ w hn k=>(by
  obtain⟨i5,i6,i7,i8,i9,fA,fB⟩:=k.G 3 13
  exact⟨_,v_extract rfl i9 rfl,⟨i5,i6,i7,i8,rfl,fA,fB⟩⟩)) ?_
 refine .o3 ?_
 exact .Y<| .off<| .off .nil
 refine eg1 ?_
 exact eager_takeG rfl (noG rfl) fun _ w hn k=>(by
  obtain⟨k9,la,lc,ld,ja,ki,kj⟩:=k.G 3 13
  exact⟨_,fun w hS=>v_extract rfl ja rfl,rfl⟩)
 intro dp le _ fC ca
 obtain⟨dq,fD,fE⟩:=aft ca fp iV dn fC
 obtain⟨bR,bS,cw,bT,cP,fF,fG⟩:=ca.G 4 17
 have cP:dp.eval (.tmp 17)=vv (binG ⟨#[43]⟩ (cleanV (Vl.mk 5 0 0 false [] (asc ⟨#[97]⟩) 0)) (cleanV (Vl.mk 3 0 1 false [] [] 0))).1 bR bS cw bT:=cP
 have fq:=ca.g 5 18
 obtain⟨b9,fs,fH,cy⟩:=ca.G 6 1
 have kk:=Nat.le_trans dn.size fH
 refine sS9 fs cP cy fun cQ dr cz kl=>?_
 have fJ:=fF.fr cy cz
 have fK:=fG.fr cy cz
 have cA:=fE.tR cz
 refine sP fq dq fD fun jb ds fL aM jd=>?_
 have⟨lg,lh,jc⟩:=aM.q3 cP fq fs
 refine iW _ _ <| wk fun li fM=>?_
 refine wp_gS (fun W=>True) (fun W W' hn h=>trivial) trivial [true,true,true,true,true,true,true,true,false,false] [6] [(8,false),(9,true)] 99
  [(OP cQ.heap.size 56 .u32 ([1])),(fun (v_:Value) (W:World)=>∃ (bU:Option Addr) (bV:Nat),v_=vv (Vl.mk 4 0 0 false [1] [] 0) bU bV none 0∧SRow W .u32 bU ([1]) bV),ve (vv (Vl.mk 3 0 1 false [] [] 0) none 0 none 0),(TP (binG ⟨#[43]⟩ (cleanV (Vl.mk 4 0 0 false [1] [] 0)) (cleanV (Vl.mk 3 0 1 false [] [] 0))).1 ((binG ⟨#[43]⟩ (cleanV (Vl.mk 4 0 0 false [1] [] 0)) (cleanV (Vl.mk 3 0 1 false [] [] 0))).2)),(TP (binG ⟨#[43]⟩ (cleanV (Vl.mk 4 0 0 false [1] [] 0)) (cleanV (Vl.mk 3 0 1 false [] [] 0))).1 ((binG ⟨#[43]⟩ (cleanV (Vl.mk 4 0 0 false [1] [] 0)) (cleanV (Vl.mk 3 0 1 false [] [] 0))).2)),(fun (v_:Value) (W:World)=>∃ (b0:Option Addr) (b1:Nat) (b2:Option Addr) (b3:Nat),v_=vv (binG ⟨#[43]⟩ (cleanV (Vl.mk 4 0 0 false [1] [] 0)) (cleanV (Vl.mk 3 0 1 false [] [] 0))).1 b0 b1 b2 b3∧SRow W .u32 b0 ((binG ⟨#[43]⟩ (cleanV (Vl.mk 4 0 0 false [1] [] 0)) (cleanV (Vl.mk 3 0 1 false [] [] 0))).1.mag) b1∧SRow W .u16 b2 ((binG ⟨#[43]⟩ (cleanV (Vl.mk 4 0 0 false [1] [] 0)) (cleanV (Vl.mk 3 0 1 false [] [] 0))).1.s) b3),ve (iv ((binG ⟨#[43]⟩ (cleanV (Vl.mk 4 0 0 false [1] [] 0)) (cleanV (Vl.mk 3 0 1 false [] [] 0))).2)),IsNew cQ 29 z7,vt,vt]
  [7] (newsCons (fun v w h=>IsNew.old h) newsNil) ds (.cons (fun _ _ _ n ⟨_,_,e,h⟩=>⟨_,_,e,h.new_ n⟩) (.cons (fun _ _ _ n ⟨_,_,e,h⟩=>⟨_,_,e,h.new_ n⟩) (.eq (.cons (fun _ _ _ n ⟨_,_,_,_,e,h,i⟩=>⟨_,_,_,_,e,h.new_ n,i.new_ n⟩) (.cons (fun _ _ _ n ⟨_,_,_,_,e,h,i⟩=>⟨_,_,_,_,e,h.new_ n,i.new_ n⟩) (.cons (fun _ _ _ n ⟨_,_,_,_,e,h,i⟩=>⟨_,_,_,_,e,h.new_ n,i.new_ n⟩) (.eq (.nw (.tt (.tt .nil)))))))))) ?_ ?_ ?_
 refine .o1 (tkA rfl (noG rfl) fun _ w hn k=>(by
  exact x_bslice (k:=.u32) (ps:=[(0,.int .u32 1)]) [1] rfl (parts1 rfl) elW rfl (by omega) (by omega) (by first|kernel_rfl|(simp only [enc,List.map_cons,List.map_nil,Int.toNat_natCast,Int.toNat_of_nonneg (by omega:(0:Int)≤_)]; kernel_rfl)) fun jg jh W' hmo=>⟨jg,jh,rfl,(hmo.more hn.size)⟩)) ?_
 refine .o1 (tkC rfl (noG rfl) rfl fun _ w hn k=>(by
  obtain⟨ji,jj,jk,fN⟩:=k.G 0 20
  refine ⟨#[sv ji ([1]) jj],_,args1 jk,fun w=>by kernel_rfl,obig_c _ ([1]) _ _ fN.row,?_⟩
  rintro e w' ⟨cx,jl,rfl,hmo0,hm⟩
  exact⟨_,rfl,hm,⟨cx,jl,rfl,hmo0⟩⟩)) ?_
 refine .D (fun k=>args1 rfl) (fun p=>owhole_c 1 _) ?_
 refine .o1 (tkC rfl (noG rfl) rfl fun _ w hn k=>(by
  obtain⟨jm,jn,jo,fO⟩:=k.G 1 21
  refine ⟨#[.string ⟨#[43]⟩,vv (Vl.mk 4 0 0 false [1] [] 0) jm jn none 0,vv (Vl.mk 3 0 1 false [] [] 0) none 0 none 0],_,args3 rfl jo (k.eq1 2 22 rfl),fun w=>by kernel_rfl,binG_c ⟨#[43]⟩ (Vl.mk 4 0 0 false [1] [] 0) _ _ _ _ (Vl.mk 3 0 1 false [] [] 0) _ _ _ _ _ fO (SRow.nil _ _) (SRow.nil _ _) (SRow.nil _ _) (VOk.big (by omega)) (VOk.whole (by omega) (by omega)) (HT.up (cA.transNew hn)),?_⟩
  rintro e w' ⟨jp,jq,jr,js,rfl,hmo0,hmo1,hm⟩
  exact⟨_,rfl,hm,⟨jp,jq,jr,js,rfl,hmo0,hmo1⟩⟩)) ?_
 refine .o1 (tk rfl rfl fun _ w hn k=>(by
  obtain⟨jt,ju,jv,jw,jx,fP,fQ⟩:=k.G 3 23
  exact⟨_,v_move rfl jx,⟨jt,ju,jv,jw,rfl,fP,fQ⟩⟩)) ?_
 refine .o1 (tk rfl rfl fun _ w hn k=>(by
  obtain⟨jy,jz,jA,jB,jC,fR,fS⟩:=k.G 4 19
  exact⟨_,v_extract rfl jC rfl,⟨jy,jz,jA,jB,rfl,fR,fS⟩⟩)) ?_
 refine .o3 ?_
 exact .Y<| .off<| .off .nil
 refine eg1 ?_
 exact eager_takeG rfl (noG rfl) fun _ w hn k=>(by
  obtain⟨lj,km,kn,ko,fT,jS,jT⟩:=k.G 4 19
  exact⟨_,fun w hS=>v_extract rfl fT rfl,rfl⟩)
 intro dt lk _ cb bF
 obtain⟨du,fU,fV⟩:=aft bF ds fL cA cb
 have⟨jD,jE⟩:=bF.f2 jc jd
 obtain⟨dv,cB,cx,cC,cR,fW,fX⟩:=bF.G 5 24
 have cR:dt.eval (.tmp 24)=vv (binG ⟨#[43]⟩ (cleanV (Vl.mk 4 0 0 false [1] [] 0)) (cleanV (Vl.mk 3 0 1 false [] [] 0))).1 dv cB cx cC:=cR
 have ft:=bF.g 6 25
 obtain⟨fu,fv,dw,b4⟩:=bF.G 7 3
 have fY:=dr.new_ cb
 have hne70:b9 ≠ fu:=by have h1:=dr.lt; have h2:=dw; omega
 have kp:=Nat.le_trans cA.size dw
 have⟨fZ,f0⟩:=nw2 cb fJ fK
 refine sS9 fv cR b4 fun fw kq b5 f1=>?_
 have f3:=fZ.fr b4 b5
 have f4:=f0.fr b4 b5
 have kr:=fW.fr b4 b5
 have ks:=fX.fr b4 b5
 have dx:=f1 hne70 fY
 have cD:=fV.tR b5
 refine sP ft du fU fun jF dy f5 az jI=>?_
 have⟨jG,jH,lm⟩:=az.q3 jD jE cR
 have⟨ln,lo⟩:=az.q2 ft fv
 refine fM _ _ <| wk fun lp f6=>?_
 refine wp_gS (fun W=>True) (fun W W' hn h=>trivial) trivial [true,true,true,true,true,true,true,false,false] [5] [(7,false),(8,true)] 99
  [ve (vv (Vl.mk 3 0 1 false [] [] 0) none 0 none 0),ve (vv (Vl.mk 3 0 2 false [] [] 0) none 0 none 0),(TP (binG ⟨#[47]⟩ (cleanV (Vl.mk 3 0 1 false [] [] 0)) (cleanV (Vl.mk 3 0 2 false [] [] 0))).1 ((binG ⟨#[47]⟩ (cleanV (Vl.mk 3 0 1 false [] [] 0)) (cleanV (Vl.mk 3 0 2 false [] [] 0))).2)),(TP (binG ⟨#[47]⟩ (cleanV (Vl.mk 3 0 1 false [] [] 0)) (cleanV (Vl.mk 3 0 2 false [] [] 0))).1 ((binG ⟨#[47]⟩ (cleanV (Vl.mk 3 0 1 false [] [] 0)) (cleanV (Vl.mk 3 0 2 false [] [] 0))).2)),(fun (v_:Value) (W:World)=>∃ (aR:Option Addr) (aS:Nat) (aT:Option Addr) (aU:Nat),v_=vv (binG ⟨#[47]⟩ (cleanV (Vl.mk 3 0 1 false [] [] 0)) (cleanV (Vl.mk 3 0 2 false [] [] 0))).1 aR aS aT aU∧SRow W .u32 aR ((binG ⟨#[47]⟩ (cleanV (Vl.mk 3 0 1 false [] [] 0)) (cleanV (Vl.mk 3 0 2 false [] [] 0))).1.mag) aS∧SRow W .u16 aT ((binG ⟨#[47]⟩ (cleanV (Vl.mk 3 0 1 false [] [] 0)) (cleanV (Vl.mk 3 0 2 false [] [] 0))).1.s) aU),ve (iv ((binG ⟨#[47]⟩ (cleanV (Vl.mk 3 0 1 false [] [] 0)) (cleanV (Vl.mk 3 0 2 false [] [] 0))).2)),IsNew fw 29 z7,vt,vt]
  [6] (newsCons (fun v w h=>IsNew.old h) newsNil) dy (.eq (.eq (.cons (fun _ _ _ n ⟨_,_,_,_,e,h,i⟩=>⟨_,_,_,_,e,h.new_ n,i.new_ n⟩) (.cons (fun _ _ _ n ⟨_,_,_,_,e,h,i⟩=>⟨_,_,_,_,e,h.new_ n,i.new_ n⟩) (.cons (fun _ _ _ n ⟨_,_,_,_,e,h,i⟩=>⟨_,_,_,_,e,h.new_ n,i.new_ n⟩) (.eq (.nw (.tt (.tt .nil))))))))) ?_ ?_ ?_
 refine .D (fun k=>args1 rfl) (fun p=>owhole_c 1 _)<| .D (fun k=>args1 rfl) (fun p=>owhole_c 2 _) ?_
 refine .o1 (tkC rfl (noG rfl) rfl fun _ w hn k=>(by
  refine ⟨#[.string ⟨#[47]⟩,vv (Vl.mk 3 0 1 false [] [] 0) none 0 none 0,vv (Vl.mk 3 0 2 false [] [] 0) none 0 none 0],_,args3 rfl (k.eq1 0 27 rfl) (k.eq1 1 28 rfl),fun w=>by kernel_rfl,binG_c ⟨#[47]⟩ (Vl.mk 3 0 1 false [] [] 0) _ _ _ _ (Vl.mk 3 0 2 false [] [] 0) _ _ _ _ _ (SRow.nil _ _) (SRow.nil _ _) (SRow.nil _ _) (SRow.nil _ _) (VOk.whole (by omega) (by omega)) (VOk.whole (by omega) (by omega)) (HT.up (cD.transNew hn)),?_⟩
  rintro e w' ⟨f7,f8,f9,ga,rfl,hmo0,hmo1,hm⟩
  exact⟨_,rfl,hm,⟨f7,f8,f9,ga,rfl,hmo0,hmo1⟩⟩)) ?_
 refine .o1 (tk rfl rfl fun _ w hn k=>(by
  obtain⟨gb,gc,gd,gg,gh,dY,dZ⟩:=k.G 2 29
  exact⟨_,v_move rfl gh,⟨gb,gc,gd,gg,rfl,dY,dZ⟩⟩)) ?_
 refine .o1 (tk rfl rfl fun _ w hn k=>(by
  obtain⟨gi,gj,gk,gl,gn,d0,d1⟩:=k.G 3 26
  exact⟨_,v_extract rfl gn rfl,⟨gi,gj,gk,gl,rfl,d0,d1⟩⟩)) ?_
 refine .o3 ?_
 exact .Y<| .off<| .off .nil
 refine eg1 ?_
 exact eager_takeG rfl (noG rfl) fun _ w hn k=>(by
  obtain⟨kt,ku,kv,kw,go,jU,jV⟩:=k.G 3 26
  exact⟨_,fun w hS=>v_extract rfl go rfl,rfl⟩)
 intro dz kx _ bG aA
 obtain⟨cS,d2,d3⟩:=aft aA dy f5 cD bG
 have⟨gp,gq,gr⟩:=aA.f3 jG jH jI
 obtain⟨cE,cc,cF,cd,ce,d4,d5⟩:=aA.G 4 30
 have ce:dz.eval (.tmp 30)=vv (binG ⟨#[47]⟩ (cleanV (Vl.mk 3 0 1 false [] [] 0)) (cleanV (Vl.mk 3 0 2 false [] [] 0))).1 cE cc cF cd:=ce
 have dA:=aA.g 5 31
 obtain⟨dB,dC,cT,bz⟩:=aA.G 6 5
 have d6:=dx.new_ bG
 have hne121:b9 ≠ dB:=by have h1:=dx.lt; have h2:=cT; omega
 have jW:=Nat.le_trans cD.size cT
 have⟨d7,d8⟩:=nw2 bG f3 f4
 refine sS9 dC ce bz fun cf jX bA d9=>?_
 have eb:=d7.fr bz bA
 have ec:=d8.fr bz bA
 have jY:=d4.fr bz bA
 have jZ:=d5.fr bz bA
 have cU:=d9 hne121 d6
 have ch:=d3.tR bA
 refine sP dA cS d2 fun gs cV ed ae gw=>?_
 have⟨gt,gu,gv⟩:=ae.q3 gp gq gr
 have⟨kz,kA,kB⟩:=ae.q3 ce dA dC
 refine f6 _ _ <| wk fun kC ee=>?_
 refine wp_gS (fun W=>True) (fun W W' hn h=>trivial) trivial [true,true,true,true,true,true,true,true,false,false] [6] [(8,false),(9,true)] 99
  [(OP cf.heap.size 56 .u32 ([1])),(fun (v_:Value) (W:World)=>∃ (aV:Option Addr) (aW:Nat),v_=vv (Vl.mk 4 0 0 false [1] [] 0) aV aW none 0∧SRow W .u32 aV ([1]) aW),(fun (v_:Value) (W:World)=>∃ (aX:Option Addr) (aY:Nat),v_=vv (Vl.mk 4 0 0 false [] [] 0) aX aY none 0∧SRow W .u32 aX ([]) aY),(TP (binG ⟨#[47]⟩ (cleanV (Vl.mk 4 0 0 false [1] [] 0)) (cleanV (Vl.mk 4 0 0 false [] [] 0))).1 ((binG ⟨#[47]⟩ (cleanV (Vl.mk 4 0 0 false [1] [] 0)) (cleanV (Vl.mk 4 0 0 false [] [] 0))).2)),(TP (binG ⟨#[47]⟩ (cleanV (Vl.mk 4 0 0 false [1] [] 0)) (cleanV (Vl.mk 4 0 0 false [] [] 0))).1 ((binG ⟨#[47]⟩ (cleanV (Vl.mk 4 0 0 false [1] [] 0)) (cleanV (Vl.mk 4 0 0 false [] [] 0))).2)),(fun (v_:Value) (W:World)=>∃ (a5:Option Addr) (a6:Nat) (a7:Option Addr) (a8:Nat),v_=vv (binG ⟨#[47]⟩ (cleanV (Vl.mk 4 0 0 false [1] [] 0)) (cleanV (Vl.mk 4 0 0 false [] [] 0))).1 a5 a6 a7 a8∧SRow W .u32 a5 ((binG ⟨#[47]⟩ (cleanV (Vl.mk 4 0 0 false [1] [] 0)) (cleanV (Vl.mk 4 0 0 false [] [] 0))).1.mag) a6∧SRow W .u16 a7 ((binG ⟨#[47]⟩ (cleanV (Vl.mk 4 0 0 false [1] [] 0)) (cleanV (Vl.mk 4 0 0 false [] [] 0))).1.s) a8),ve (iv ((binG ⟨#[47]⟩ (cleanV (Vl.mk 4 0 0 false [1] [] 0)) (cleanV (Vl.mk 4 0 0 false [] [] 0))).2)),IsNew cf 29 z7,vt,vt]
  [7] (newsCons (fun v w h=>IsNew.old h) newsNil) cV (.cons (fun _ _ _ n ⟨_,_,e,h⟩=>⟨_,_,e,h.new_ n⟩) (.cons (fun _ _ _ n ⟨_,_,e,h⟩=>⟨_,_,e,h.new_ n⟩) (.cons (fun _ _ _ n ⟨_,_,e,h⟩=>⟨_,_,e,h.new_ n⟩) (.cons (fun _ _ _ n ⟨_,_,_,_,e,h,i⟩=>⟨_,_,_,_,e,h.new_ n,i.new_ n⟩) (.cons (fun _ _ _ n ⟨_,_,_,_,e,h,i⟩=>⟨_,_,_,_,e,h.new_ n,i.new_ n⟩) (.cons (fun _ _ _ n ⟨_,_,_,_,e,h,i⟩=>⟨_,_,_,_,e,h.new_ n,i.new_ n⟩) (.eq (.nw (.tt (.tt .nil)))))))))) ?_ ?_ ?_
 refine .o1 (tkA rfl (noG rfl) fun _ w hn k=>(by
  exact x_bslice (k:=.u32) (ps:=[(0,.int .u32 1)]) [1] rfl (parts1 rfl) elW rfl (by omega) (by omega) (by first|kernel_rfl|(simp only [enc,List.map_cons,List.map_nil,Int.toNat_natCast,Int.toNat_of_nonneg (by omega:(0:Int)≤_)]; kernel_rfl)) fun gz gA W' hmo=>⟨gz,gA,rfl,(hmo.more hn.size)⟩)) ?_
 refine .o1 (tkC rfl (noG rfl) rfl fun _ w hn k=>(by
  obtain⟨gB,gC,gD,ef⟩:=k.G 0 33
  refine ⟨#[sv gB ([1]) gC],_,args1 gD,fun w=>by kernel_rfl,obig_c _ ([1]) _ _ ef.row,?_⟩
  rintro e w' ⟨b6,gE,rfl,hmo0,hm⟩
  exact⟨_,rfl,hm,⟨b6,gE,rfl,hmo0⟩⟩)) ?_
 refine .o1 (tkC rfl (noG rfl) rfl fun _ w hn k=>(by
  refine ⟨#[sv none ([]) 0],_,args1 rfl,fun w=>by kernel_rfl,obig_c _ ([]) _ _ (SRow.nil _ _),?_⟩
  rintro e w' ⟨gF,gG,rfl,hmo0,hm⟩
  exact⟨_,rfl,hm,⟨gF,gG,rfl,hmo0⟩⟩)) ?_
 refine .o1 (tkC rfl (noG rfl) rfl fun _ w hn k=>(by
  obtain⟨gH,gI,gJ,eg⟩:=k.G 1 34
  obtain⟨gK,gL,gM,eh⟩:=k.G 2 35
  refine ⟨#[.string ⟨#[47]⟩,vv (Vl.mk 4 0 0 false [1] [] 0) gH gI none 0,vv (Vl.mk 4 0 0 false [] [] 0) gK gL none 0],_,args3 rfl gJ gM,fun w=>by kernel_rfl,binG_c ⟨#[47]⟩ (Vl.mk 4 0 0 false [1] [] 0) _ _ _ _ (Vl.mk 4 0 0 false [] [] 0) _ _ _ _ _ eg (SRow.nil _ _) eh (SRow.nil _ _) (VOk.big (by omega)) VOk.big0 (HT.up (ch.transNew hn)),?_⟩
  rintro e w' ⟨gN,gO,gP,gQ,rfl,hmo0,hmo1,hm⟩
  exact⟨_,rfl,hm,⟨gN,gO,gP,gQ,rfl,hmo0,hmo1⟩⟩)) ?_
 refine .o1 (tk rfl rfl fun _ w hn k=>(by
  obtain⟨gR,gS,gT,gU,gV,ei,ej⟩:=k.G 3 36
  exact⟨_,v_move rfl gV,⟨gR,gS,gT,gU,rfl,ei,ej⟩⟩)) ?_
 refine .o1 (tk rfl rfl fun _ w hn k=>(by
  obtain⟨gW,gX,gY,gZ,g0,ek,el⟩:=k.G 4 32
  exact⟨_,v_extract rfl g0 rfl,⟨gW,gX,gY,gZ,rfl,ek,el⟩⟩)) ?_
 refine .o3 ?_
 exact .Y<| .off<| .off .nil
 refine eg1 ?_
 exact eager_takeG rfl (noG rfl) fun _ w hn k=>(by
  obtain⟨kD,kE,kF,kG,g1,j0,j1⟩:=k.G 4 32
  exact⟨_,fun w hS=>v_extract rfl g1 rfl,rfl⟩)
 intro cG kH _ bH ag
 obtain⟨cW,em,en⟩:=aft ag cV ed ch bH
 have⟨g2,g3,g4,g5⟩:=ag.f4 gt gu gv gw
 obtain⟨cH,ci,b6,cj,cl,eo,ep⟩:=ag.G 5 37
 have cl:cG.eval (.tmp 37)=vv (binG ⟨#[47]⟩ (cleanV (Vl.mk 4 0 0 false [1] [] 0)) (cleanV (Vl.mk 4 0 0 false [] [] 0))).1 cH ci b6 cj:=cl
 have dF:=ag.g 6 38
 obtain⟨dG,dH,cX,bB⟩:=ag.G 7 7
 have er:=cU.new_ bH
 have hne174:b9 ≠ dG:=by have h1:=cU.lt; have h2:=cX; omega
 have j2:=Nat.le_trans ch.size cX
 have⟨es,et⟩:=nw2 bH eb ec
 refine sS9 dH cl bB fun cm j3 bC eu=>?_
 have ew:=es.fr bB bC
 have ex:=et.fr bB bC
 have j4:=eo.fr bB bC
 have j5:=ep.fr bB bC
 have cY:=eu hne174 er
 have cn:=en.tR bC
 refine sP dF cW em fun g6 cZ ey ac hc=>?_
 have⟨g7,g8,g9⟩:=ac.q3 g2 g3 g4
 have⟨ha,kJ,kK⟩:=ac.q3 g5 cl dF
 have kL:=ac.q dH
 refine ee _ _ <| wk fun kM ez=>?_
 refine wp_gS (fun W=>True) (fun W W' hn h=>trivial) trivial [true,true,true,true,true,true,true,true,false,false] [6] [(8,false),(9,true)] 99
  [(OP cm.heap.size 56 .u32 ([1])),(fun (v_:Value) (W:World)=>∃ (a9:Option Addr) (ba:Nat),v_=vv (Vl.mk 4 0 0 false [1] [] 0) a9 ba none 0∧SRow W .u32 a9 ([1]) ba),ve (vv (Vl.mk 3 0 2 false [] [] 0) none 0 none 0),(TP (binG ⟨#[60]⟩ (cleanV (Vl.mk 4 0 0 false [1] [] 0)) (cleanV (Vl.mk 3 0 2 false [] [] 0))).1 ((binG ⟨#[60]⟩ (cleanV (Vl.mk 4 0 0 false [1] [] 0)) (cleanV (Vl.mk 3 0 2 false [] [] 0))).2)),(TP (binG ⟨#[60]⟩ (cleanV (Vl.mk 4 0 0 false [1] [] 0)) (cleanV (Vl.mk 3 0 2 false [] [] 0))).1 ((binG ⟨#[60]⟩ (cleanV (Vl.mk 4 0 0 false [1] [] 0)) (cleanV (Vl.mk 3 0 2 false [] [] 0))).2)),(fun (v_:Value) (W:World)=>∃ (bg:Option Addr) (bh:Nat) (bi:Option Addr) (bj:Nat),v_=vv (binG ⟨#[60]⟩ (cleanV (Vl.mk 4 0 0 false [1] [] 0)) (cleanV (Vl.mk 3 0 2 false [] [] 0))).1 bg bh bi bj∧SRow W .u32 bg ((binG ⟨#[60]⟩ (cleanV (Vl.mk 4 0 0 false [1] [] 0)) (cleanV (Vl.mk 3 0 2 false [] [] 0))).1.mag) bh∧SRow W .u16 bi ((binG ⟨#[60]⟩ (cleanV (Vl.mk 4 0 0 false [1] [] 0)) (cleanV (Vl.mk 3 0 2 false [] [] 0))).1.s) bj),ve (iv ((binG ⟨#[60]⟩ (cleanV (Vl.mk 4 0 0 false [1] [] 0)) (cleanV (Vl.mk 3 0 2 false [] [] 0))).2)),IsNew cm 29 z7,vt,vt]
  [7] (newsCons (fun v w h=>IsNew.old h) newsNil) cZ (.cons (fun _ _ _ n ⟨_,_,e,h⟩=>⟨_,_,e,h.new_ n⟩) (.cons (fun _ _ _ n ⟨_,_,e,h⟩=>⟨_,_,e,h.new_ n⟩) (.eq (.cons (fun _ _ _ n ⟨_,_,_,_,e,h,i⟩=>⟨_,_,_,_,e,h.new_ n,i.new_ n⟩) (.cons (fun _ _ _ n ⟨_,_,_,_,e,h,i⟩=>⟨_,_,_,_,e,h.new_ n,i.new_ n⟩) (.cons (fun _ _ _ n ⟨_,_,_,_,e,h,i⟩=>⟨_,_,_,_,e,h.new_ n,i.new_ n⟩) (.eq (.nw (.tt (.tt .nil)))))))))) ?_ ?_ ?_
 refine .o1 (tkA rfl (noG rfl) fun _ w hn k=>(by
  exact x_bslice (k:=.u32) (ps:=[(0,.int .u32 1)]) [1] rfl (parts1 rfl) elW rfl (by omega) (by omega) (by first|kernel_rfl|(simp only [enc,List.map_cons,List.map_nil,Int.toNat_natCast,Int.toNat_of_nonneg (by omega:(0:Int)≤_)]; kernel_rfl)) fun hg hh W' hmo=>⟨hg,hh,rfl,(hmo.more hn.size)⟩)) ?_
 refine .o1 (tkC rfl (noG rfl) rfl fun _ w hn k=>(by
  obtain⟨hi,hj,hl,eA⟩:=k.G 0 40
  refine ⟨#[sv hi ([1]) hj],_,args1 hl,fun w=>by kernel_rfl,obig_c _ ([1]) _ _ eA.row,?_⟩
  rintro e w' ⟨ho,hr,rfl,hmo0,hm⟩
  exact⟨_,rfl,hm,⟨ho,hr,rfl,hmo0⟩⟩)) ?_
 refine .D (fun k=>args1 rfl) (fun p=>owhole_c 2 _) ?_
 refine .o1 (tkC rfl (noG rfl) rfl fun _ w hn k=>(by
  obtain⟨hs,ht,hu,eB⟩:=k.G 1 41
  refine ⟨#[.string ⟨#[60]⟩,vv (Vl.mk 4 0 0 false [1] [] 0) hs ht none 0,vv (Vl.mk 3 0 2 false [] [] 0) none 0 none 0],_,args3 rfl hu (k.eq1 2 42 rfl),fun w=>by kernel_rfl,binG_c ⟨#[60]⟩ (Vl.mk 4 0 0 false [1] [] 0) _ _ _ _ (Vl.mk 3 0 2 false [] [] 0) _ _ _ _ _ eB (SRow.nil _ _) (SRow.nil _ _) (SRow.nil _ _) (VOk.big (by omega)) (VOk.whole (by omega) (by omega)) (HT.up (cn.transNew hn)),?_⟩
  rintro e w' ⟨hv,hw,hx,hy,rfl,hmo0,hmo1,hm⟩
  exact⟨_,rfl,hm,⟨hv,hw,hx,hy,rfl,hmo0,hmo1⟩⟩)) ?_
 refine .o1 (tk rfl rfl fun _ w hn k=>(by
  obtain⟨hz,hA,hC,hD,hE,eC,eD⟩:=k.G 3 43
  exact⟨_,v_move rfl hE,⟨hz,hA,hC,hD,rfl,eC,eD⟩⟩)) ?_
 refine .o1 (tk rfl rfl fun _ w hn k=>(by
  obtain⟨hF,hG,hH,hI,hJ,eE,eF⟩:=k.G 4 39
  exact⟨_,v_extract rfl hJ rfl,⟨hF,hG,hH,hI,rfl,eE,eF⟩⟩)) ?_
 refine .o3 ?_
 exact .Y<| .off<| .off .nil
 refine eg1 ?_
 exact eager_takeG rfl (noG rfl) fun _ w hn k=>(by
  obtain⟨kN,kO,kP,kQ,hK,j6,j7⟩:=k.G 4 39
  exact⟨_,fun w hS=>v_extract rfl hK rfl,rfl⟩)
 intro cI kR _ bI af
 obtain⟨c0,eG,eH⟩:=aft af cZ ey cn bI
 have⟨hL,hM,hN,hO⟩:=af.f4 g7 g8 g9 ha
 have hP:=af.f1 hc
 obtain⟨cJ,co,cK,cp,cq,eI,eJ⟩:=af.G 5 44
 have cq:cI.eval (.tmp 44)=vv (binG ⟨#[60]⟩ (cleanV (Vl.mk 4 0 0 false [1] [] 0)) (cleanV (Vl.mk 3 0 2 false [] [] 0))).1 cJ co cK cp:=cq
 have dK:=af.g 6 45
 obtain⟨b7,dL,c1,bD⟩:=af.G 7 9
 have eK:=cY.new_ bI
 have hne229:b9 ≠ b7:=by have h1:=cY.lt; have h2:=c1; omega
 have j8:=Nat.le_trans cn.size c1
 have⟨eL,eM⟩:=nw2 bI ew ex
 refine sS9 dL cq bD fun dM c3 bE eN=>?_
 have eP:=eL.fr bD bE
 have eQ:=eM.fr bD bE
 have eR:=eI.fr bD bE
 have eS:=eJ.fr bD bE
 have c5:=eN hne229 eK
 have c8:=eH.tR bE
 refine sP dK c0 eG fun hQ c9 eT ab hY=>?_
 have⟨hR,hT,hU⟩:=ab.q3 hL hM hN
 have⟨hV,hW,kT⟩:=ab.q3 hO hP cq
 have⟨kU,hX⟩:=ab.q2 dK dL
 refine ez _ _ <| wk fun kV eU=>?_
 refine wp_gS (fun W=>True) (fun W W' hn h=>trivial) trivial [true,true,true,true,true,true,false,false] [4] [(6,false),(7,true)] 99
  [ve (vv (Vl.mk 3 0 0 false [] [] 0) none 0 none 0),(TP (unG ⟨#[45]⟩ (Vl.mk 3 0 0 false [] [] 0)).1 ((unG ⟨#[45]⟩ (Vl.mk 3 0 0 false [] [] 0)).2)),(TP (unG ⟨#[45]⟩ (Vl.mk 3 0 0 false [] [] 0)).1 ((unG ⟨#[45]⟩ (Vl.mk 3 0 0 false [] [] 0)).2)),(fun (v_:Value) (W:World)=>∃ (bo:Option Addr) (bp:Nat) (bq:Option Addr) (br:Nat),v_=vv (unG ⟨#[45]⟩ (Vl.mk 3 0 0 false [] [] 0)).1 bo bp bq br∧SRow W .u32 bo ((unG ⟨#[45]⟩ (Vl.mk 3 0 0 false [] [] 0)).1.mag) bp∧SRow W .u16 bq ((unG ⟨#[45]⟩ (Vl.mk 3 0 0 false [] [] 0)).1.s) br),ve (iv ((unG ⟨#[45]⟩ (Vl.mk 3 0 0 false [] [] 0)).2)),IsNew dM 29 z7,vt,vt]
  [5] (newsCons (fun v w h=>IsNew.old h) newsNil) c9 (.eq (.cons (fun _ _ _ n ⟨_,_,_,_,e,h,i⟩=>⟨_,_,_,_,e,h.new_ n,i.new_ n⟩) (.cons (fun _ _ _ n ⟨_,_,_,_,e,h,i⟩=>⟨_,_,_,_,e,h.new_ n,i.new_ n⟩) (.cons (fun _ _ _ n ⟨_,_,_,_,e,h,i⟩=>⟨_,_,_,_,e,h.new_ n,i.new_ n⟩) (.eq (.nw (.tt (.tt .nil)))))))) ?_ ?_ ?_
 refine .D (fun k=>args1 rfl) (fun p=>owhole_c 0 _) ?_
 refine .o1 (tkC rfl (noG rfl) rfl fun _ w hn k=>(by
  refine ⟨#[.string ⟨#[45]⟩,vv (Vl.mk 3 0 0 false [] [] 0) none 0 none 0],_,args2 rfl (k.eq1 0 47 rfl),fun w=>by kernel_rfl,unG_c ⟨#[45]⟩ (Vl.mk 3 0 0 false [] [] 0) _ _ _ _ _ (SRow.nil _ _) (SRow.nil _ _) (VOk.whole (by omega) (by omega)),?_⟩
  rintro e w' ⟨hZ,h3,h4,h5,rfl,hmo0,hmo1,hm⟩
  exact⟨_,rfl,hm,⟨hZ,h3,h4,h5,rfl,hmo0,hmo1⟩⟩)) ?_
 refine .o1 (tk rfl rfl fun _ w hn k=>(by
  obtain⟨h6,h7,h8,h9,ia,eV,eW⟩:=k.G 1 48
  exact⟨_,v_move rfl ia,⟨h6,h7,h8,h9,rfl,eV,eW⟩⟩)) ?_
 refine .o1 (tk rfl rfl fun _ w hn k=>(by
  obtain⟨ib,ic,id,ie,ig,eX,eY⟩:=k.G 2 46
  exact⟨_,v_extract rfl ig rfl,⟨ib,ic,id,ie,rfl,eX,eY⟩⟩)) ?_
 refine .o3 ?_
 exact .Y<| .off<| .off .nil
 refine eg1 ?_
 exact eager_takeG rfl (noG rfl) fun _ w hn k=>(by
  obtain⟨kW,kX,kY,kZ,ih,j9,ka⟩:=k.G 2 46
  exact⟨_,fun w hS=>v_extract rfl ih rfl,rfl⟩)
 intro cL k0 _ aB ad
 obtain⟨da,eZ,e0⟩:=aft ad c9 eT c8 aB
 have⟨ii,ij,ik,il⟩:=ad.f4 hR hT hU hV
 have⟨im,io,ip⟩:=ad.f3 hW hX hY
 obtain⟨cM,cr,cN,ct,cu,e1,e2⟩:=ad.G 3 49
 have cu:cL.eval (.tmp 49)=vv (unG ⟨#[45]⟩ (Vl.mk 3 0 0 false [] [] 0)).1 cM cr cN ct:=cu
 have dP:=ad.g 4 50
 obtain⟨b8,dQ,cv,aC⟩:=ad.G 5 11
 have⟨e3,e4⟩:=nw2 aB c5 c3
 have hne288:b9 ≠ b8:=by have h1:=c5.lt; have h2:=cv; omega
 have hne289:b7 ≠ b8:=by have h1:=c3.lt; have h2:=cv; omega
 have kb:=Nat.le_trans c8.size cv
 have⟨e5,e6,e8,e9⟩:=nw4 aB eP eQ eR eS
 refine sS9 dQ cu aC fun iq fa aD db=>?_
 have fc:=e5.fr aC aD
 have fd:=e6.fr aC aD
 have kc:=e8.fr aC aD
 have kd:=e9.fr aC aD
 have ke:=e1.fr aC aD
 have kf:=e2.fr aC aD
 have fe:=db hne288 e3
 have dc:=db hne289 e4
 have ff:=e0.tR aD
 refine sP dP da eZ fun ir dd fg aa iB=>?_
 have⟨it,iu,iw⟩:=aa.q3 ii ij ik
 have⟨ix,iy,dT⟩:=aa.q3 il im io
 have⟨iz,k2,k3⟩:=aa.q3 ip cu dP
 have iA:=aa.q dQ
 refine eU _ _ <| wk fun k4 fh=>?_
 have de:(decide (((binG ⟨#[43]⟩ (cleanV (Vl.mk 5 0 0 false [] (asc ⟨#[97]⟩) 0)) (cleanV (Vl.mk 3 0 1 false [] [] 0))).2)=0))=true:=by rw [bin_a1]; rfl
 have jJ:=oT de
 have fi:(sameV ((binG ⟨#[43]⟩ (cleanV (Vl.mk 5 0 0 false [] (asc ⟨#[97]⟩) 0)) (cleanV (Vl.mk 3 0 1 false [] [] 0))).1) (Vl.mk 5 0 0 false [] (asc ⟨#[97,49]⟩) 0))=true:=by rw [bin_a1]; decide +kernel
 have df:(decide (((binG ⟨#[43]⟩ (cleanV (Vl.mk 4 0 0 false [1] [] 0)) (cleanV (Vl.mk 3 0 1 false [] [] 0))).2)=1))=true:=by decide +kernel
 have jK:=oT df
 have dg:(decide (((binG ⟨#[47]⟩ (cleanV (Vl.mk 3 0 1 false [] [] 0)) (cleanV (Vl.mk 3 0 2 false [] [] 0))).2)=3))=true:=by decide +kernel
 have jL:=oT dg
 have dh:(decide (((binG ⟨#[47]⟩ (cleanV (Vl.mk 4 0 0 false [1] [] 0)) (cleanV (Vl.mk 4 0 0 false [] [] 0))).2)=2))=true:=by decide +kernel
 have jM:=oT dh
 have di:(decide (((binG ⟨#[60]⟩ (cleanV (Vl.mk 4 0 0 false [1] [] 0)) (cleanV (Vl.mk 3 0 2 false [] [] 0))).2)=0))=true:=by decide +kernel
 have jN:=oT di
 have dj:(decide (((binG ⟨#[60]⟩ (cleanV (Vl.mk 4 0 0 false [1] [] 0)) (cleanV (Vl.mk 3 0 2 false [] [] 0))).1.k)=2))=true:=by decide +kernel
 have jO:=oT dj
 have dk:(decide (((binG ⟨#[60]⟩ (cleanV (Vl.mk 4 0 0 false [1] [] 0)) (cleanV (Vl.mk 3 0 2 false [] [] 0))).1.ref)=1))=true:=by decide +kernel
 have jP:=oT dk
 have dl:(decide (((unG ⟨#[45]⟩ (Vl.mk 3 0 0 false [] [] 0)).2)=0))=true:=by decide +kernel
 have jQ:=oT dl
 have dm:(decide (((unG ⟨#[45]⟩ (Vl.mk 3 0 0 false [] [] 0)).1.nk)=1))=true:=by decide +kernel
 have jR:=oT dm
 refine wp_g0 (.replicate 49 true) [] 99
  [ve (iv ((binG ⟨#[43]⟩ (cleanV (Vl.mk 5 0 0 false [] (asc ⟨#[97]⟩) 0)) (cleanV (Vl.mk 3 0 1 false [] [] 0))).2)),vT,vT,ve (vv (binG ⟨#[43]⟩ (cleanV (Vl.mk 5 0 0 false [] (asc ⟨#[97]⟩) 0)) (cleanV (Vl.mk 3 0 1 false [] [] 0))).1 bR bS cw bT),(fun (v_:Value) (W:World)=>∃ (bs:Option Addr) (bt:Nat),v_=vv (Vl.mk 5 0 0 false [] (asc ⟨#[97,49]⟩) 0) none 0 bs bt∧SRow W .u16 bs (asc ⟨#[97,49]⟩) bt),vT,vT,vT,ve (iv ((binG ⟨#[43]⟩ (cleanV (Vl.mk 4 0 0 false [1] [] 0)) (cleanV (Vl.mk 3 0 1 false [] [] 0))).2)),vT,vT,vT,ve (iv ((binG ⟨#[47]⟩ (cleanV (Vl.mk 3 0 1 false [] [] 0)) (cleanV (Vl.mk 3 0 2 false [] [] 0))).2)),vT,vT,vT,ve (iv ((binG ⟨#[47]⟩ (cleanV (Vl.mk 4 0 0 false [1] [] 0)) (cleanV (Vl.mk 4 0 0 false [] [] 0))).2)),vT,vT,vT,ve (iv ((binG ⟨#[60]⟩ (cleanV (Vl.mk 4 0 0 false [1] [] 0)) (cleanV (Vl.mk 3 0 2 false [] [] 0))).2)),vT,vT,vT,ve (pv b7),ve (iv ((binG ⟨#[60]⟩ (cleanV (Vl.mk 4 0 0 false [1] [] 0)) (cleanV (Vl.mk 3 0 2 false [] [] 0))).1.k)),vT,vT,vT,ve (.pointer (some ⟨b7,6,none⟩)),ve (iv ((binG ⟨#[60]⟩ (cleanV (Vl.mk 4 0 0 false [1] [] 0)) (cleanV (Vl.mk 3 0 2 false [] [] 0))).1.ref)),vT,vT,vT,ve (iv ((unG ⟨#[45]⟩ (Vl.mk 3 0 0 false [] [] 0)).2)),vT,vT,vT,ve (.pointer (some ⟨b8,1,none⟩)),ve (.pointer (some ⟨b8,1,none⟩)),ve (iv ((unG ⟨#[45]⟩ (Vl.mk 3 0 0 false [] [] 0)).1.nk)),vT,vT,vT,(fun (v_:Value) (W:World)=>∃ (bu:Option Addr) (bv:Nat),v_=svT bu ([⟨#[43]⟩,⟨#[45]⟩,⟨#[42]⟩,⟨#[47]⟩,⟨#[37]⟩,⟨#[38]⟩,⟨#[124]⟩,⟨#[94]⟩,⟨#[60,60]⟩,⟨#[62,62]⟩,⟨#[62,62,62]⟩,⟨#[60]⟩,⟨#[62]⟩,⟨#[60,61]⟩,⟨#[62,61]⟩,⟨#[61,61]⟩,⟨#[33,61]⟩,⟨#[61,61,61]⟩,⟨#[33,61,61]⟩]) bv∧TRow W bu ([⟨#[43]⟩,⟨#[45]⟩,⟨#[42]⟩,⟨#[47]⟩,⟨#[37]⟩,⟨#[38]⟩,⟨#[124]⟩,⟨#[94]⟩,⟨#[60,60]⟩,⟨#[62,62]⟩,⟨#[62,62,62]⟩,⟨#[60]⟩,⟨#[62]⟩,⟨#[60,61]⟩,⟨#[62,61]⟩,⟨#[61,61]⟩,⟨#[33,61]⟩,⟨#[61,61,61]⟩,⟨#[33,61,61]⟩]) bv),(fun (v_:Value) (W:World)=>∃ (bw:Option Addr) (bx:Nat),v_=svT bw ([⟨#[43]⟩,⟨#[45]⟩,⟨#[42]⟩,⟨#[47]⟩,⟨#[37]⟩,⟨#[38]⟩,⟨#[124]⟩,⟨#[94]⟩,⟨#[60,60]⟩,⟨#[62,62]⟩,⟨#[62,62,62]⟩,⟨#[60]⟩,⟨#[62]⟩,⟨#[60,61]⟩,⟨#[62,61]⟩,⟨#[61,61]⟩,⟨#[33,61]⟩,⟨#[61,61,61]⟩,⟨#[33,61,61]⟩]) bx∧TRow W bw ([⟨#[43]⟩,⟨#[45]⟩,⟨#[42]⟩,⟨#[47]⟩,⟨#[37]⟩,⟨#[38]⟩,⟨#[124]⟩,⟨#[94]⟩,⟨#[60,60]⟩,⟨#[62,62]⟩,⟨#[62,62,62]⟩,⟨#[60]⟩,⟨#[62]⟩,⟨#[60,61]⟩,⟨#[62,61]⟩,⟨#[61,61]⟩,⟨#[33,61]⟩,⟨#[61,61,61]⟩,⟨#[33,61,61]⟩]) bx),vT,vT,vT] dd (.eq (.eq (.eq (.eq (.cons (fun _ _ _ n ⟨_,_,e,h⟩=>⟨_,_,e,h.new_ n⟩) (.eq (.eq (.eq (.eq (.eq (.eq (.eq (.eq (.eq (.eq (.eq (.eq (.eq (.eq (.eq (.eq (.eq (.eq (.eq (.eq (.eq (.eq (.eq (.eq (.eq (.eq (.eq (.eq (.eq (.eq (.eq (.eq (.eq (.eq (.eq (.eq (.eq (.eq (.eq (.cons (fun _ _ _ n ⟨_,_,e,h⟩=>⟨_,_,e,h.new_ n⟩) (.cons (fun _ _ _ n ⟨_,_,e,h⟩=>⟨_,_,e,h.new_ n⟩) (.eq (.eq (.eq .nil))))))))))))))))))))))))))))))))))))))))))))))))) ?_ ?_
 refine .M iu<| .b 0 (r_eql de)<| .N 1<| .V (fun p k=>v_load rfl (k.fx 1 it) (l_agg isAgg29 sizeOf29 (fe.new_ p) rfl)) ?_
 refine .o1 (tkC rfl (onG rfl rfl fun _ _ k=>k.eq1 2 53 rfl) rfl fun _ w hn k=>(by
  refine ⟨#[.string ⟨#[97,49]⟩],_,args1 rfl,fun w=>by kernel_rfl,ostr_c ⟨#[97,49]⟩ _ (by first|omega|(show (_:Nat)≤_; decide)),?_⟩
  rintro e w' ⟨iC,iD,rfl,hmo0,hm⟩
  exact⟨_,rfl,hm,⟨iC,iD,rfl,hmo0⟩⟩)) ?_
 refine .o1 (tkC rfl (onG rfl rfl fun _ _ k=>k.eq1 2 53 rfl) rfl fun _ w hn k=>(by
  obtain⟨iE,iF,iG,fj⟩:=k.G 4 55
  refine ⟨#[vv (binG ⟨#[43]⟩ (cleanV (Vl.mk 5 0 0 false [] (asc ⟨#[97]⟩) 0)) (cleanV (Vl.mk 3 0 1 false [] [] 0))).1 bR bS cw bT,vv (Vl.mk 5 0 0 false [] (asc ⟨#[97,49]⟩) 0) none 0 iE iF],_,args2 (k.eq1 3 54 rfl) iG,fun w=>by kernel_rfl,vsame_c ((binG ⟨#[43]⟩ (cleanV (Vl.mk 5 0 0 false [] (asc ⟨#[97]⟩) 0)) (cleanV (Vl.mk 3 0 1 false [] [] 0))).1) _ _ _ _ (Vl.mk 5 0 0 false [] (asc ⟨#[97,49]⟩) 0) _ _ _ _ _ (fc.new_ hn) (fd.new_ hn) (SRow.nil _ _) fj,?_⟩
  rintro e w' ⟨rfl,hm⟩
  exact⟨_,rfl,hm,congrArg Value.bool fi⟩)) ?_
 refine .T (fun k=>v_pickT rfl (k.eq1 2 53 rfl) (k.eq1 5 56 rfl))<| .N 6<| .gm (fun k=>k.eq1 7 58 rfl) (fun k=>k.fx 4 iw)<| .V (fun p k=>v_bin rfl (k.eq1 8 59 rfl) rfl (fun _=>rfl) (r_eql df))<| .T (fun k=>v_pickT rfl (k.eq1 7 58 rfl) (k.eq1 9 60 rfl))<| .N 10<| .gm (fun k=>k.eq1 11 62 rfl) (fun k=>k.fx 6 ix)<| .V (fun p k=>v_bin rfl (k.eq1 12 63 rfl) rfl (fun _=>rfl) (r_eql dg))<| .T (fun k=>v_pickT rfl (k.eq1 11 62 rfl) (k.eq1 13 64 rfl))<| .N 14<| .gm (fun k=>k.eq1 15 66 rfl) (fun k=>k.fx 8 iy)<| .V (fun p k=>v_bin rfl (k.eq1 16 67 rfl) rfl (fun _=>rfl) (r_eql dh))<| .T (fun k=>v_pickT rfl (k.eq1 15 66 rfl) (k.eq1 17 68 rfl))<| .N 18<| .gm (fun k=>k.eq1 19 70 rfl) (fun k=>k.fx 10 iz)<| .V (fun p k=>v_bin rfl (k.eq1 20 71 rfl) rfl (fun _=>rfl) (r_eql di))<| .T (fun k=>v_pickT rfl (k.eq1 19 70 rfl) (k.eq1 21 72 rfl))<| .N 22<| .gf (fun k=>k.eq1 23 74 rfl) (fun k=>k.fx 9 dT)<| .V (fun p k=>v_load rfl (k.eq1 24 75 rfl) (l_one isAgg3 ((dc.new_ p).cell 0)))<| .V (fun p k=>v_bin rfl (k.eq1 25 76 rfl) rfl (fun _=>rfl) (r_eql dj))<| .T (fun k=>v_pickT rfl (k.eq1 23 74 rfl) (k.eq1 26 77 rfl))<| .N 27<| .gf (fun k=>k.eq1 28 79 rfl) (fun k=>k.fx 9 dT)<| .V (fun p k=>v_load rfl (k.eq1 29 80 rfl) (l_one isAgg3 ((dc.new_ p).cell 6)))<| .V (fun p k=>v_bin rfl (k.eq1 30 81 rfl) rfl (fun _=>rfl) (r_eql dk))<| .T (fun k=>v_pickT rfl (k.eq1 28 79 rfl) (k.eq1 31 82 rfl))<| .N 32<| .gm (fun k=>k.eq1 33 84 rfl) (fun k=>k.fx 12 iB)<| .V (fun p k=>v_bin rfl (k.eq1 34 85 rfl) rfl (fun _=>rfl) (r_eql dl))<| .T (fun k=>v_pickT rfl (k.eq1 33 84 rfl) (k.eq1 35 86 rfl))<| .N 36<| .gf (fun k=>k.eq1 37 88 rfl) (fun k=>k.fx 11 iA)<| .gf (fun k=>k.eq1 37 88 rfl) (fun k=>k.eq1 38 89 rfl)<| .V (fun p k=>v_load rfl (k.eq1 39 90 rfl) (l_one isAgg3 ((fa.new_ p).cell 1)))<| .V (fun p k=>v_bin rfl (k.eq1 40 91 rfl) rfl (fun _=>rfl) (r_eql dm))<| .T (fun k=>v_pickT rfl (k.eq1 37 88 rfl) (k.eq1 41 92 rfl))<| .N 42 ?_
 refine .o1 (tkC rfl (onG rfl rfl fun _ _ k=>k.eq1 43 94 rfl) rfl fun _ w hn k=>(by
  refine ⟨#[],_,rfl,fun w=>by kernel_rfl,ops_c  _ ,?_⟩
  rintro e w' ⟨iH,iI,rfl,hmo0,hm⟩
  exact⟨_,rfl,hm,⟨iH,iI,rfl,hmo0⟩⟩)) ?_
 refine .o1 (tkC rfl (onG rfl rfl fun _ _ k=>k.eq1 43 94 rfl) rfl fun _ w hn k=>(by
  refine ⟨#[],_,rfl,fun w=>by kernel_rfl,rops_c  _ ,?_⟩
  rintro e w' ⟨iJ,iK,rfl,hmo0,hm⟩
  exact⟨_,rfl,hm,⟨iJ,iK,rfl,hmo0⟩⟩)) ?_
 refine .o1 (tkC rfl (onG rfl rfl fun _ _ k=>k.eq1 43 94 rfl) rfl fun _ w hn k=>(by
  obtain⟨iL,iM,iN,fk⟩:=k.G 44 95
  obtain⟨iO,iP,iQ,fl⟩:=k.G 45 96
  refine ⟨#[svT iL ([⟨#[43]⟩,⟨#[45]⟩,⟨#[42]⟩,⟨#[47]⟩,⟨#[37]⟩,⟨#[38]⟩,⟨#[124]⟩,⟨#[94]⟩,⟨#[60,60]⟩,⟨#[62,62]⟩,⟨#[62,62,62]⟩,⟨#[60]⟩,⟨#[62]⟩,⟨#[60,61]⟩,⟨#[62,61]⟩,⟨#[61,61]⟩,⟨#[33,61]⟩,⟨#[61,61,61]⟩,⟨#[33,61,61]⟩]) iM,svT iO ([⟨#[43]⟩,⟨#[45]⟩,⟨#[42]⟩,⟨#[47]⟩,⟨#[37]⟩,⟨#[38]⟩,⟨#[124]⟩,⟨#[94]⟩,⟨#[60,60]⟩,⟨#[62,62]⟩,⟨#[62,62,62]⟩,⟨#[60]⟩,⟨#[62]⟩,⟨#[60,61]⟩,⟨#[62,61]⟩,⟨#[61,61]⟩,⟨#[33,61]⟩,⟨#[61,61,61]⟩,⟨#[33,61,61]⟩]) iP],_,args2 iN iQ,fun w=>by kernel_rfl,texts_c _ ([⟨#[43]⟩,⟨#[45]⟩,⟨#[42]⟩,⟨#[47]⟩,⟨#[37]⟩,⟨#[38]⟩,⟨#[124]⟩,⟨#[94]⟩,⟨#[60,60]⟩,⟨#[62,62]⟩,⟨#[62,62,62]⟩,⟨#[60]⟩,⟨#[62]⟩,⟨#[60,61]⟩,⟨#[62,61]⟩,⟨#[61,61]⟩,⟨#[33,61]⟩,⟨#[61,61,61]⟩,⟨#[33,61,61]⟩]) _ _ ([⟨#[43]⟩,⟨#[45]⟩,⟨#[42]⟩,⟨#[47]⟩,⟨#[37]⟩,⟨#[38]⟩,⟨#[124]⟩,⟨#[94]⟩,⟨#[60,60]⟩,⟨#[62,62]⟩,⟨#[62,62,62]⟩,⟨#[60]⟩,⟨#[62]⟩,⟨#[60,61]⟩,⟨#[62,61]⟩,⟨#[61,61]⟩,⟨#[33,61]⟩,⟨#[61,61,61]⟩,⟨#[33,61,61]⟩]) _ _ fk fl rfl,?_⟩
  rintro e w' ⟨rfl,hm⟩
  exact⟨_,rfl,hm,rfl⟩)) ?_
 exact .T (fun k=>v_pickT rfl (k.eq1 43 94 rfl) (k.eq1 46 97 rfl))<| .B 47 .nil
 refine aftI dd fg ff fun k5 k6 kg fm fn kh fo=>?_
 have iR:=fo.g 48 0
 refine fh _ _ ?_
 refine wp_ret (ret_k fm (v:=.bool true) (res_t rfl iR _) ?_)
 exact⟨rfl,fn⟩
def GoodR (p:Vl × Int):Prop:=mayV p.1=true∧0≤p.2∧p.2≤3∧(p.2=0 ∨ p.1=Vl.z)
theorem z_may:mayV Vl.z=true:=by decide
theorem s0:(0:Int)≤0∧(0:Int)≤3:=by decide
theorem s1:(0:Int)≤1∧(1:Int)≤3:=by decide
theorem s2:(0:Int)≤2∧(2:Int)≤3:=by decide
theorem s3:(0:Int)≤3∧(3:Int)≤3:=by decide
theorem good_z {s:Int} (h0:0≤s) (h1:s≤3):GoodR (Vl.z,s):=⟨z_may,h0,h1,.inr rfl⟩
theorem gz0:GoodR (Vl.z,0):=good_z s0.1 s0.2
theorem gz1:GoodR (Vl.z,1):=good_z s1.1 s1.2
theorem gz2:GoodR (Vl.z,2):=good_z s2.1 s2.2
theorem gz3:GoodR (Vl.z,3):=good_z s3.1 s3.2
theorem good_v {v:Vl} (h:mayV v=true):GoodR (v,0):=⟨h,Int.le_refl _,(by decide:(0:Int)≤3),.inl rfl⟩
theorem good_ite {c:Prop} [Decidable c] {x y:Vl × Int} (hx:GoodR x) (hy:GoodR y):GoodR (if c then x else y):=by split <;> assumption
theorem good_num {n:Nm} (h:nmayB n=true):GoodR (ofN (3,n,0)):=good_v (num_mayV h)
theorem good_truth (t:Bool):GoodR (truthG t):=by cases t <;> exact good_v (by decide)
theorem good_numV {a:Nm} {t:Bool} (h:t=true→nmayB a=true):GoodR (numV a t):=by
  cases t with
  | false=>(first|exact gz3|exact gz0|exact gz1|exact gz2)
  | true=>exact good_v (num_mayV (h rfl))
theorem good_bigZ (z:Int):GoodR (bigZ z):=by
  rcases bigZ_cases z with ⟨e,h⟩|e
  · rw [e]; exact good_v (may_bigV h)
  · rw [e]; (first|exact gz3|exact gz0|exact gz1|exact gz2)
theorem good_divE {z:Int} (e:Int) (h:z.natAbs < 2 ^ 256):GoodR (divE z e):=by
  unfold divE
  split
  · exact good_v (may_bigV h)
  · (first|exact gz3|exact gz0|exact gz1|exact gz2)
theorem number_sig (v:Vl):0≤(numberV v).2∧(numberV v).2≤3:=by
  unfold numberV
  repeat' split
  all_goals first|exact s0|exact s1|exact s3
theorem numeric_sig (v:Vl):0≤(numericV v).2∧(numericV v).2≤3:=by
  have h:=number_sig (cleanV v)
  unfold numericV
  repeat' split
  all_goals first|exact h|exact s0|exact s1|exact s3
theorem numerics_sig (v u:Vl):0≤(numericsV v u).2.2∧(numericsV v u).2.2≤3:=by
  have h:=numeric_sig v
  have h2:=numeric_sig u
  unfold numericsV
  repeat' split
  all_goals first|exact h|exact h2|exact s0|exact s1|exact s3
theorem text_sig (v:Vl):0≤(textV v).2∧(textV v).2≤3:=by
  unfold textV
  repeat' split
  all_goals first|exact s0|exact s1|exact s3
theorem loose3_sig (x y:Vl):0≤(loose3 x y).2∧(loose3 x y).2≤3:=by
  have h:=number_sig y
  unfold loose3
  repeat' split
  all_goals first|exact h|exact s0|exact s1|exact s3
theorem loose_sig (v u:Vl):0≤(looseV v u).2∧(looseV v u).2≤3:=by
  unfold looseV loose1 loose2
  repeat' split
  all_goals first|exact loose3_sig _ _|exact s0|exact s1|exact s3
theorem good_join (v u:Vl):GoodR (joinV v u):=by
  have h:=text_sig v
  have h2:=text_sig u
  unfold joinV
  repeat' split
  · refine good_v ?_
    unfold mayV strV
    simp [zeroV]
    omega
  · (first|exact gz3|exact gz0|exact gz1|exact gz2)
  · exact good_z h2.1 h2.2
  · exact good_z h.1 h.2
theorem good_less (v u:Vl) (t n:Bool):GoodR (ofT (lessT v u t n)):=by
  have key:∀ b:Bool,GoodR (ofT (2,truthR b,0)):=fun b=>good_truth b
  have kz:∀ s:Int,0≤s→s≤3→GoodR (ofT (0,0,s)):=fun s h0 h1=>good_z h0 h1
  have h:=numeric_sig v
  have h2:=numeric_sig u
  unfold lessT
  repeat' split
  all_goals first|exact key _|exact kz _ h.1 h.2|exact kz _ h2.1 h2.2|exact kz _ s3.1 s3.2|exact kz _ s1.1 s1.2
theorem signed_may {n:Int} (d:Bool) (h0:-9007199254740991≤n) (h1:n≤9007199254740991):nmayB (signedM n d)=true:=by
  unfold signedM
  split
  · exact may_wholeI.2 ⟨by omega,by omega⟩
  · exact may_wholeI.2 ⟨by omega,by omega⟩
theorem inf_may (d:Bool):nmayB (infM d)=true:=by cases d <;> decide
theorem nought_may (d:Bool):nmayB (noughtM d)=true:=by cases d <;> decide
theorem mulM_may {a b:Nm} (h:(mulM a b).2=true):nmayB (mulM a b).1=true:=by
  unfold mulM mulA at h ⊢
  repeat' split at h
  all_goals first|(cases h; done)|skip
  · rename_i h1; rw [if_pos h1]; decide
  · rename_i h1 h2; rw [if_neg h1,if_pos h2]; exact inf_may _
  · rename_i h1 h2 h3; rw [if_neg h1,if_neg h2,if_pos h3]; exact nought_may _
  · rename_i h1 h2 h3 h4
    rw [if_neg h1,if_neg h2,if_neg h3,if_neg h4]
    simp only [Bool.or_eq_true,Bool.not_eq_true',decide_eq_false_iff_not,not_or,Decidable.not_not] at h4
    exact signed_may _ (by omega) h4.2
theorem divM_may {a b:Nm} (h:(divM a b).2=true):nmayB (divM a b).1=true:=by
  have hs:=size_bd a
  have hd:=tdiv_bd hs.1 (size_bd b).1
  unfold divM divA at h ⊢
  repeat' split at h
  all_goals first|(cases h; done)|skip
  · rename_i h1; rw [if_pos h1]; decide
  · rename_i h1 h2; rw [if_neg h1,if_pos h2]; exact inf_may _
  · rename_i h1 h2 h3; rw [if_neg h1,if_neg h2,if_pos h3]; exact nought_may _
  · rename_i h1 h2 h3 h4
    rw [if_neg h1,if_neg h2,if_neg h3,if_pos h4]
    exact signed_may _ (by omega) (by omega)
theorem remM_may (a b:Nm):nmayB (remM a b)=true:=by
  have hs:=size_bd a
  have hb:=size_bd b
  unfold remM remA
  split
  · decide
  · rename_i h1
    split
    · exact as_may a
    · split
      · exact nought_may _
      · have:0≤(sizeI (asM a).n).tmod (sizeI (asM b).n)∧(sizeI (asM a).n).tmod (sizeI (asM b).n)≤sizeI (asM a).n:=by
          rw [Int.tmod_eq_emod_of_nonneg hs.1]
          refine ⟨?_,?_⟩
          · rcases Int.lt_or_eq_of_le hb.1 with h|h
            · exact Int.emod_nonneg _ (by omega)
            · rw [← h,Int.emod_zero]; exact hs.1
          · rcases Int.lt_or_eq_of_le hb.1 with h|h
            · have:=Int.emod_add_mul_ediv (sizeI (asM a).n) (sizeI (asM b).n)
              have hq:=Int.ediv_nonneg hs.1 hb.1
              have:=Int.mul_nonneg hb.1 hq
              omega
            · rw [← h,Int.emod_zero]; exact Int.le_refl _
        exact signed_may _ (by omega) (by omega)
theorem sx {x:Int} (h1:-2147483648≤x) (h2:x≤2147483647):BitVec.ofInt 64 x=(BitVec.ofInt 32 x).signExtend 64:=by
  apply BitVec.eq_of_toInt_eq
  rw [BitVec.toInt_signExtend_of_le (by decide),BitVec.toInt_ofInt,BitVec.toInt_ofInt,Int.bmod_eq_of_le (by omega) (by omega),Int.bmod_eq_of_le (by omega) (by omega)]
theorem sx_bd (b:BitVec 32):-2147483648≤(b.signExtend 64).toInt∧(b.signExtend 64).toInt≤2147483647:=by
  rw [BitVec.toInt_signExtend_of_le (by decide)]
  have h:=BitVec.toInt_lt (x:=b)
  have h2:=BitVec.le_toInt (x:=b)
  omega
theorem pow_le (n:Nat) (x:Int) (h1:-2147483648≤x) (h2:x≤4294967295):-2147483648≤x / 2 ^ n∧x / 2 ^ n≤4294967295:=by
  have hp:(0:Int) < 2 ^ n:=by
    have:(0:Nat) < 2 ^ n:=Nat.pow_pos (by decide)
    have e:((2 ^ n:Nat):Int)=(2:Int) ^ n:=by simp
    omega
  refine ⟨?_,?_⟩
  · rw [Int.le_ediv_iff_mul_le hp]
    have:=Int.mul_le_mul_of_nonpos_left (a:=-2147483648) (b:=2 ^ n) (c:=1) (by decide) (by omega)
    omega
  · rcases Int.lt_or_le x 0 with h|h
    · have:=Int.ediv_neg_of_neg_of_pos h hp
      omega
    · have:=Int.ediv_le_self (2 ^ n) h
      omega
theorem bitM_may (o:Int) (a b:Nm):nmayB (bitM o a b)=true:=by
  have ha:=i32M_in a
  have hb:=i32M_in b
  unfold bitM
  repeat' split
  · refine may_wholeI.2 ?_
    unfold bandM
    rw [sx ha.1 ha.2,sx hb.1 hb.2,← BitVec.signExtend_and]
    have:=sx_bd (BitVec.ofInt 32 (i32M a) &&& BitVec.ofInt 32 (i32M b))
    omega
  · refine may_wholeI.2 ?_
    unfold borM
    rw [sx ha.1 ha.2,sx hb.1 hb.2,← BitVec.signExtend_or]
    have:=sx_bd (BitVec.ofInt 32 (i32M a) ||| BitVec.ofInt 32 (i32M b))
    omega
  · refine may_wholeI.2 ?_
    unfold bxorM
    rw [sx ha.1 ha.2,sx hb.1 hb.2,← BitVec.signExtend_xor]
    have:=sx_bd (BitVec.ofInt 32 (i32M a) ^^^ BitVec.ofInt 32 (i32M b))
    omega
  · have:=i32of_bd (i32M a % 4294967296 * 2 ^ (shM b).toNat % 4294967296)
    exact may_wholeI.2 ⟨by omega,by omega⟩
  · have:=pow_le (shM b).toNat (i32M a) ha.1 (by omega)
    exact may_wholeI.2 ⟨by omega,by omega⟩
  · have h:=u32_bd a
    have:=pow_le (shM b).toNat (u32M a) (by omega) h.2
    exact may_wholeI.2 ⟨by omega,by omega⟩
  · decide
theorem good_nums (o:ByteArray) (a b:Nm):GoodR (numsG o a b):=by
  unfold numsG
  repeat' split
  · exact good_numV addM_may
  · exact good_numV addM_may
  · exact good_numV mulM_may
  · exact good_numV divM_may
  · exact good_numV fun _=>remM_may a b
theorem goodI_neg {b:Bool} {m:List Nat} (h:Limbs m):(-(goodI b m)).natAbs < 2 ^ 256:=by rw [Int.natAbs_neg]; exact goodI_lt b m h
theorem divZ_lt {x y:Int} (h:x.natAbs < 2 ^ 256):(divZ x y).natAbs < 2 ^ 256:=by
  unfold divZ
  split
  · decide +kernel
  · rw [Int.natAbs_tdiv]; exact Nat.lt_of_le_of_lt (Nat.div_le_self _ _) h
theorem remZ_lt {x y:Int} (h:x.natAbs < 2 ^ 256):(remZ x y).natAbs < 2 ^ 256:=by
  unfold remZ
  split
  · decide +kernel
  · rw [Int.natAbs_tmod]; exact Nat.lt_of_le_of_lt (Nat.mod_le _ _) h
theorem good_bigs (o:ByteArray) {x:Int} (y:Int) (h:x.natAbs < 2 ^ 256):GoodR (bigsG o x y):=by
  unfold bigsG
  repeat' split
  · exact good_bigZ _
  · exact good_bigZ _
  · exact good_bigZ _
  · exact good_divE _ (remZ_lt h)
  · exact good_divE _ (divZ_lt h)
theorem good_sums (o:ByteArray) {v u:Vl} (hv:VOk v) (hu:VOk u):GoodR (sumsG o v u):=by
  have h:=numerics_sig v u
  unfold sumsG
  repeat' split
  · exact good_bigs o _ (goodI_lt _ _ (VOk.numerics1 hv hu).limbs)
  · exact good_nums o _ _
  · exact good_z h.1 h.2
theorem good_bits (o:ByteArray) (v u:Vl):GoodR (ofN (bitsG o v u)):=by
  have kz:∀ s:Int,0≤s→s≤3→GoodR (ofN (0,⟨0,0⟩,s)):=fun s h0 h1=>good_z h0 h1
  have h:=numerics_sig v u
  unfold bitsG
  repeat' split
  all_goals first|exact good_num (bitM_may _ _ _)|exact kz _ h.1 h.2|exact kz _ s3.1 s3.2|exact kz _ s1.1 s1.2
theorem good_bin (o:ByteArray) {v u:Vl} (hv:VOk v) (hu:VOk u):GoodR (binG o v u):=by
  have h:=loose_sig v u
  unfold binG
  exact good_ite (good_ite (good_join _ _) (good_sums o hv hu))<| good_ite (good_sums o hv hu)<| good_ite (good_bits o _ _)<| good_ite (good_less _ _ _ _)<| good_ite (good_less _ _ _ _)<| good_ite (good_less _ _ _ _)<| good_ite (good_less _ _ _ _)<| good_ite (good_truth _)<| good_ite (good_truth _)<| good_ite (good_ite (good_truth _) (good_z h.1 h.2)) gz3
theorem good_unN (o:ByteArray) {v:Vl} (hv:VOk v):GoodR (unN o v):=by
  have h:=numeric_sig v
  unfold unN
  split
  · rename_i h0
    have hf:=numeric_form v (of_decide_eq_true h0)
    split
    · exact good_v (may_bigV (goodI_neg (VOk.numeric hv).limbs))
    · split
      · rcases hf with ⟨b,m,e,hb⟩|⟨a,e,ha⟩
        · rename_i h1 h2
          rw [h2,e] at h1
          simp at h1
        · rw [e]; exact good_num (neg_may ha)
      · split
        · (first|exact gz3|exact gz0|exact gz1|exact gz2)
        · exact good_num (bitM_may _ _ _)
  · exact good_z h.1 h.2
theorem good_un (o:ByteArray) {v:Vl} (hv:VOk v):GoodR (unG o v):=by
  have h:=number_sig v
  unfold unG
  split
  · exact good_truth _
  · split
    · (first|exact gz3|exact gz0|exact gz1|exact gz2)
    · split
      · split
        · rename_i h1
          exact good_num (number_may v (of_decide_eq_true h1))
        · exact good_z h.1 h.2
      · split
        · exact good_unN o hv
        · (first|exact gz3|exact gz0|exact gz1|exact gz2)
theorem good_leaf {p:Vl × Int} (h:GoodR p):mayV p.1=true∧(decide (p.2=0) || sameV p.1 (Vl.mk 0 0 0 false [] [] 0))=true∧(!decide (p.2 < 0))=true∧decide (p.2≤3)=true:=by
  have h0:¬ p.2 < 0:=by have:=h.2.1; omega
  refine ⟨h.1,?_,by rw [decide_eq_false h0]; rfl,decide_eq_true h.2.2.1⟩
  rcases h.2.2.2 with h|h
  · rw [decide_eq_true h]; rfl
  · rw [h,show sameV Vl.z (Vl.mk 0 0 0 false [] [] 0)=true from sameV_refl _,Bool.or_true]

theorem ofew_c (o:ByteArray) (v:Vl) (Av:Option Addr) (cv:Nat) (Bv:Option Addr) (dv:Nat) (u:Vl) (Au:Option Addr) (cu:Nat) (Bu:Option Addr) (du:Nat) (w:World) (hmv:SRow w .u32 Av v.mag cv) (hsv:SRow w .u16 Bv v.s dv) (hmu:SRow w .u32 Au u.mag cu) (hsu:SRow w .u16 Bu u.s du):Calls prog 11 #[.string o,vv v Av cv Bv dv,vv u Au cu Bu du] w (IsRet (.bool (fewV o v u)) w):=by
 refine enter_abs func11 rfl fun a0 ab an hp=>?_
 have ab:a0.tmps.size=18:=ab
 have ac:New w w:=Upd.refl _ _
 have hp0:a0.eval (.tmp 0)=.string o:=hp 0 _ rfl
 have hp1:a0.eval (.tmp 1)=vv v Av cv Bv dv:=hp 1 _ rfl
 have hp2:a0.eval (.tmp 2)=vv u Au cu Bu du:=hp 2 _ rfl
 refine wk fun K1 ao=>?_
 refine wB tr3 [] [] 18 [IsNew w 29 (c7 v Av cv Bv dv),IsNew w 29 (c7 u Au cu Bu du),vF] [0,1] ab ?_ heN ?_
 exact .X hp1<| .X hp2<| .c .nil
 refine aftI ab an ac fun a2 w3 ae ap aa ay ad=>?_
 have h8:=ad.f1 hp0
 obtain⟨az,h9,af,ag⟩:=ad.G 0 4
 obtain⟨aA,aq,ah,ai⟩:=ad.G 1 5
 have au:=Nat.le_trans ac.size af
 have av:=Nat.le_trans ac.size ah
 refine ao _ _ <| wk fun aB aj=>?_
 refine wA tr12 [] 18 [ve (.string o),ve (iv (o.size:Int)),ve (.bool (decide ((o.size:Int)≤100))),ve (.bool (decide ((o.size:Int)≤100))),ve (gq (decide ((o.size:Int)≤100)) (vv v Av cv Bv dv)),ve (gq (decide ((o.size:Int)≤100)) (.bool (decide ((v.s.length:Int)≤20000) && decide ((v.mag.length:Int)≤40)))),ve (.bool ((decide ((o.size:Int)≤100)) && (decide ((v.s.length:Int)≤20000) && decide ((v.mag.length:Int)≤40)))),ve (.bool ((decide ((o.size:Int)≤100)) && (decide ((v.s.length:Int)≤20000) && decide ((v.mag.length:Int)≤40)))),ve (gq ((decide ((o.size:Int)≤100)) && (decide ((v.s.length:Int)≤20000) && decide ((v.mag.length:Int)≤40))) (vv u Au cu Bu du)),ve (gq ((decide ((o.size:Int)≤100)) && (decide ((v.s.length:Int)≤20000) && decide ((v.mag.length:Int)≤40))) (.bool (decide ((u.s.length:Int)≤20000) && decide ((u.mag.length:Int)≤40)))),ve (.bool (((decide ((o.size:Int)≤100)) && (decide ((v.s.length:Int)≤20000) && decide ((v.mag.length:Int)≤40))) && (decide ((u.s.length:Int)≤20000) && decide ((u.mag.length:Int)≤40)))),ve (.bool (((decide ((o.size:Int)≤100)) && (decide ((v.s.length:Int)≤20000) && decide ((v.mag.length:Int)≤40))) && (decide ((u.s.length:Int)≤20000) && decide ((u.mag.length:Int)≤40))))] ae ?_ ?_
 exact .M h8<| .T (fun k=>v_lenS rfl (k.eq1 0 7 rfl) (by kernel_rfl))<| .b 1 (r_leqK rfl)<| .N 2<| .Q (fun k=>g0 (k.eq1 3 10 rfl)) (fun hG n k=>v_load rfl (k.fx 4 h9) (l_agg isAgg29 sizeOf29 (ag.new_ n) rfl))<| .o1 (scC (G:=(decide ((o.size:Int)≤100))) rfl rfl rfl (fun _ _ k=>g0 (k.eq1 3 10 rfl)) rfl (fun hG _ w hn k=>⟨#[vv v Av cv Bv dv],args1 (cT hG (k.eq1 4 11 rfl)),fun _=>by kernel_rfl,few_c v _ _ _ _ _ (hmv.new_ (aa.transNew hn)) (hsv.new_ (aa.transNew hn))⟩))<| .O 3 5<| .N 6<| .Q (fun k=>g0 (k.eq1 7 14 rfl)) (fun hG n k=>v_load rfl (k.fx 5 aq) (l_agg isAgg29 sizeOf29 (ai.new_ n) rfl))<| .o1 (scC (G:=((decide ((o.size:Int)≤100)) && (decide ((v.s.length:Int)≤20000) && decide ((v.mag.length:Int)≤40)))) rfl rfl rfl (fun _ _ k=>g0 (k.eq1 7 14 rfl)) rfl (fun hG _ w hn k=>⟨#[vv u Au cu Bu du],args1 (cT hG (k.eq1 8 15 rfl)),fun _=>by kernel_rfl,few_c u _ _ _ _ _ (hmu.new_ (aa.transNew hn)) (hsu.new_ (aa.transNew hn))⟩))<| .O 7 9<| .B 10 .nil
 refine aftI ae ap aa fun aC aD aw ak al ax am=>?_
 have ar:=am.g 11 6
 refine aj _ _ ?_
 refine wp_ret (ret_k ak (v:=.bool (((decide ((o.size:Int)≤100)) && (decide ((v.s.length:Int)≤20000) && decide ((v.mag.length:Int)≤40))) && (decide ((u.s.length:Int)≤20000) && decide ((u.mag.length:Int)≤40)))) (res_t rfl ar _) ?_)
 refine ⟨?_,al⟩
 show Ending.returned (.bool (((decide ((o.size:Int)≤100)) && (decide ((v.s.length:Int)≤20000) && decide ((v.mag.length:Int)≤40))) && (decide ((u.s.length:Int)≤20000) && decide ((u.mag.length:Int)≤40))))=Ending.returned (.bool (fewV o v u))
 first|rfl|(simp only [fewV,bsm] <;> rfl)|(exfalso; omega)
end Go.Proofs.YtjakfchffigkkaaGreatDoor
