import Derived.Test.YtjakfchffigkkaaGreatDoorOqd
namespace Go.Proofs.YtjakfchffigkkaaGreatDoor
open Go.RowKit
set_option linter.unusedSimpArgs false
set_option linter.unusedVariables false
set_option maxHeartbeats 16000000
set_option maxRecDepth 100000
theorem ostr_c (s:ByteArray) (w:World) (hs:s.size≤1000000):Calls Tryz.prog 18 #[.string s] w (ostr_c_P s w):=by
 refine enter_abs Tryz.func18 rfl fun a0 ad aD hp=>?_
 have ad:a0.tmps.size=6:=ad
 have al:New w w:=Upd.refl _ _
 have hp0:a0.eval (.tmp 0)=.string s:=hp 0 _ rfl
 refine wp_seq_k fun K1 aE=>?_
 refine wp_g [true] [] [] 6
   [IsNew w 29 z7]
   [0] (newsCons (fun v w h=>IsNew.old h) newsNil) ad (.nw (.nil)) ?_ (fun i h=>by cases h) ?_
 exact .o2 (step_allocN (cs:=z7) (t:=29) rfl (noG rfl) (fun _ w hn k=>rfl) (fun q _ hq hb=>⟨q,rfl,hq,hb⟩)) .nil
 refine aftI ad aD al fun a2 w3 am aF ae aN an=>?_
 have h8:=an.fx 0 hp0
 obtain⟨aG,h9,ap,aq⟩:=an.G 0 2
 have aK:=Nat.le_trans al.size ap
 refine st_nil (aE _ _ (wp_seq_k fun aO ar=>?_))
 refine wp_g0 [true,true,true,false] [(3,false)] 6
   [ve (.string s),
    (OP w3.heap.size 74 .u16 (asc s)),(fun (v_:Value) (W:World)=>∃ (A9:Option Addr) (aa:Nat),v_=vv (Vl.mk 5 0 0 false [] (asc s) 0) none 0 A9 aa∧SOwn W w3.heap.size 74 .u16 A9 (asc s) aa),vt] am (.eq (.cons (fun _ _ _ n ⟨_,_,e,h⟩=>⟨_,_,e,h.new_ n⟩) (.cons (fun _ _ _ n ⟨_,_,e,h⟩=>⟨_,_,e,h.new_ n⟩) (.tt (.nil))))) ?_ ?_
 refine .m (fun k=>k.fx 0 h8) ?_
 refine .o1 (tkC rfl (noG rfl) rfl fun _ w hn k=>(by
       refine ⟨#[.string s],_,args1 (k.eq1 0 3 rfl),fun w=>by kernel_rfl,rascii_c s _ (by first|omega|(show (_:Nat)≤_; decide)),?_⟩
       rintro e w' ⟨A1,c2,rfl,hmo0,hm⟩
       exact⟨_,rfl,hm,⟨A1,c2,rfl,(hmo0.more hn.size)⟩⟩)) ?_
 refine .o1 (tk rfl rfl fun _ w hn k=>(by
       obtain⟨A5,c6,e7,aH⟩:(OP w3.heap.size 74 .u16 (asc s)) _ _:=k.dep 1 4 (by kernel_rfl) (by kernel_rfl)
       exact⟨_,v_build (ps:=[(0,iv 5),(3,sv A5 (asc s) c6)]) rfl (parts2 rfl e7) (by kernel_rfl),⟨A5,c6,rfl,aH⟩⟩)) ?_
 exact .off .nil
 refine aftI am aF ae fun aI aP aL au av aw af=>?_
 have ao:=af.fx 2 h9
 obtain⟨ac,ab,ag,ax⟩:=af.G 2 5
 have ag:aI.eval (.tmp 5)=vv (Vl.mk 5 0 0 false [] (asc s) 0) none 0 ac ab:=ag
 have ah:=aq.new_ aw
 have ay:=ax.more ae.size
 obtain⟨aJ,aj,ak,ai,aM⟩:=s_many (P:=Tryz.prog) (t:=29) (i:=0) [iv 5,iv 0,iv 0,.bool false,sv none ([]) 0,sv ac (asc s) ab,iv 0] Tryz.sizeOf29 rfl rfl rfl ah lb
 have az:Blk aJ aG 29 [iv 5,iv 0,iv 0,.bool false,sv none ([]) 0,sv ac (asc s) ab,iv 0]:=ak
 refine st_act rfl rfl fun aQ aA=>a_store' rfl ao ag aj (aA _ _ trivial ?_)
 have aB:=ay.far ah ai (by decide)
 have aC:=av.trans ai (fun _ h b=>by subst b; omega)
 refine st_nil (ar _ _ ?_)
 refine wp_ret (ret_k au (v:=vv (Vl.mk 5 0 0 false [] (asc s) 0) none 0 ac ab) (res_c rfl ao (l_agg Tryz.isAgg29 Tryz.sizeOf29 az rfl)) ?_)
 exact⟨ac,ab,rfl,aB.row,aC⟩
theorem owhole_c (n:Int) (w:World):Calls Tryz.prog 17 #[iv n] w (IsRet (vv (Vl.mk 3 0 n false [] [] 0) none 0 none 0) w):=by
 refine enter_abs Tryz.func17 rfl fun a0 aa aw hp=>?_
 have aa:a0.tmps.size=6:=aa
 have ae:New w w:=Upd.refl _ _
 have hp0:a0.eval (.tmp 0)=iv n:=hp 0 _ rfl
 refine wp_seq_k fun K1 ax=>?_
 refine wp_g [true] [] [] 6
   [IsNew w 29 z7]
   [0] (newsCons (fun v w h=>IsNew.old h) newsNil) aa (.nw (.nil)) ?_ (fun i h=>by cases h) ?_
 exact .o2 (step_allocN (cs:=z7) (t:=29) rfl (noG rfl) (fun _ w hn k=>rfl) (fun q _ hq hb=>⟨q,rfl,hq,hb⟩)) .nil
 refine aftI aa aw ae fun a2 w3 af ay ai aF ag=>?_
 have h8:=ag.fx 0 hp0
 obtain⟨az,h9,aj,ak⟩:=ag.G 0 2
 have aC:=Nat.le_trans ae.size aj
 refine st_nil (ax _ _ (wp_seq_k fun aG al=>?_))
 refine wp_g0 [true,true,true,false] [(3,false)] 6
   [ve (iv n),ve (nv (Nm.mk 0 n)),ve (vv (Vl.mk 3 0 n false [] [] 0) none 0 none 0),vt] af (.eq (.eq (.eq (.tt (.nil))))) ?_ ?_
 exact .m (fun k=>k.fx 0 h8)<| .t (fun _ w hn k=>⟨_,v_build (ps:=[(1,iv n)]) rfl (parts1 (k.eq1 0 3 rfl)) (by kernel_rfl),rfl⟩)<| .t (fun _ w hn k=>⟨_,v_build (ps:=[(0,iv 3),(1,nv (Nm.mk 0 n))]) rfl (parts2 rfl (k.eq1 1 4 rfl)) (by kernel_rfl),rfl⟩)<| .off .nil
 refine aftI af ay ai fun aH aI aD am an ao ab=>?_
 have ah:=ab.fx 2 h9
 have aA:=ab.ge 2 5 rfl
 have ap:=ak.new_ ao
 obtain⟨aB,ac,ad,aq,aE⟩:=s_many (P:=Tryz.prog) (t:=29) (i:=0) [iv 3,iv 0,iv n,.bool false,sv none ([]) 0,sv none ([]) 0,iv 0] Tryz.sizeOf29 rfl rfl rfl ap lb
 have ar:Blk aB az 29 [iv 3,iv 0,iv n,.bool false,sv none ([]) 0,sv none ([]) 0,iv 0]:=ad
 refine st_act rfl rfl fun aJ au=>a_store' rfl ah aA ac (au _ _ trivial ?_)
 have av:=an.trans aq (fun _ h b=>by subst b; omega)
 refine st_nil (al _ _ ?_)
 refine wp_ret (ret_k am (v:=vv (Vl.mk 3 0 n false [] [] 0) none 0 none 0) (res_c rfl ah (l_agg Tryz.isAgg29 Tryz.sizeOf29 ar rfl)) ?_)
 exact⟨rfl,av⟩
theorem VOk.str (s:ByteArray) (h:s.size≤20000):VOk ⟨5,0,0,false,[],asc s,0⟩:=⟨Limbs.nil,U16s.asc s,Nat.zero_le _,by rw [asc_len]; exact h,(show (-9223372036854775808:Int)≤0 by decide),(show (0:Int)≤9223372036854775807 by decide),(show (-9223372036854775808:Int)≤0 by decide),(show (0:Int)≤9223372036854775807 by decide)⟩
theorem VOk.whole {n:Int} (h1:-9223372036854775808≤n) (h2:n≤9223372036854775807):VOk ⟨3,0,n,false,[],[],0⟩:=⟨Limbs.nil,U16s.nil,Nat.zero_le _,Nat.zero_le _,h1,h2,(show (-9223372036854775808:Int)≤0 by decide),(show (0:Int)≤9223372036854775807 by decide)⟩
theorem VOk.big {x:Nat} (h:x < 4294967296):VOk ⟨4,0,0,false,[x],[],0⟩:=⟨Limbs.cons h Limbs.nil,U16s.nil,(show (1:Nat)≤40 by decide),Nat.zero_le _,(show (-9223372036854775808:Int)≤0 by decide),(show (0:Int)≤9223372036854775807 by decide),(show (-9223372036854775808:Int)≤0 by decide),(show (0:Int)≤9223372036854775807 by decide)⟩
theorem few_ok {v:Vl} (h:(decide ((v.s.length:Int)≤20000) && decide ((v.mag.length:Int)≤40))=true) (hl:Limbs v.mag) (hu:U16s v.s) (h1:-9223372036854775808≤v.nn) (h2:v.nn≤9223372036854775807) (h3:-9223372036854775808≤v.ref) (h4:v.ref≤9223372036854775807):VOk v:=by
  simp only [Bool.and_eq_true,decide_eq_true_eq] at h
  exact⟨hl,hu,by omega,by omega,h1,h2,h3,h4⟩
theorem VOk.big0:VOk ⟨4,0,0,false,[],[],0⟩:=⟨Limbs.nil,U16s.nil,by decide,by decide,by decide,by decide,by decide,by decide⟩
theorem join_a1:joinV (cleanV (Vl.mk 5 0 0 false [] (asc ⟨#[97]⟩) 0)) (cleanV (Vl.mk 3 0 1 false [] [] 0))=(strV [97,49],0):=by
  have h:=join_num (a:=[97]) (n:=⟨0,1⟩) (by decide) (by decide)
  rw [whole_text (by decide) (by decide)] at h
  have e:asc (strOfNums (textI 1))=[49]:=by
    have h1:textI 1=[49]:=by rw [textI,if_neg (by decide),if_neg (by decide),show (1:Int).natAbs=1 from rfl,digs_one (by omega) (by omega)]; rfl
    rw [h1]; rfl
  rw [e] at h
  exact h
theorem f_m (A0:Option Addr) (c0:Nat) (B0:Option Addr) (d0:Nat) (A1:Option Addr) (c1:Nat) (B1:Option Addr) (d1:Nat) (w:World) (hm0:SRow w .u32 A0 [1] c0) (hs0:SRow w .u16 B0 [] d0) (hm1:SRow w .u32 A1 [] c1) (hs1:SRow w .u16 B1 [] d1):Calls Tryz.prog 12 #[.string ⟨#[43]⟩,vv (Vl.mk 4 0 0 false [1] [] 0) A0 c0 B0 d0,vv (Vl.mk 3 0 1 false [] [] 0) A1 c1 B1 d1] w (IsRet (.tuple #[vv (Vl.mk 0 0 0 false [] [] 0) none 0 none 0,iv 1]) w):=by
  have h:=binM_c (Vl.mk 4 0 0 false [1] [] 0) A0 c0 B0 d0 (Vl.mk 3 0 1 false [] [] 0) A1 c1 B1 d1 w hm0 hs0 hm1 hs1 (VOk.big (by omega)) (VOk.whole (by omega) (by omega)) (by decide +kernel) (by decide +kernel) (by decide +kernel)
  rw [show (numericsV (cleanV (Vl.mk 4 0 0 false [1] [] 0)) (cleanV (Vl.mk 3 0 1 false [] [] 0))).2.2=1 from by decide +kernel] at h
  exact h
theorem f_d (A0:Option Addr) (c0:Nat) (B0:Option Addr) (d0:Nat) (A1:Option Addr) (c1:Nat) (B1:Option Addr) (d1:Nat) (w:World) (hm0:SRow w .u32 A0 [] c0) (hs0:SRow w .u16 B0 [] d0) (hm1:SRow w .u32 A1 [] c1) (hs1:SRow w .u16 B1 [] d1):Calls Tryz.prog 12 #[.string ⟨#[47]⟩,vv (Vl.mk 3 0 1 false [] [] 0) A0 c0 B0 d0,vv (Vl.mk 3 0 2 false [] [] 0) A1 c1 B1 d1] w (IsRet (.tuple #[vv (Vl.mk 0 0 0 false [] [] 0) none 0 none 0,iv 3]) w):=by
  have h:=binD_c (Vl.mk 3 0 1 false [] [] 0) A0 c0 B0 d0 (Vl.mk 3 0 2 false [] [] 0) A1 c1 B1 d1 w hm0 hs0 hm1 hs1 (VOk.whole (by omega) (by omega)) (VOk.whole (by omega) (by omega)) (by decide +kernel) (by decide +kernel) (by decide +kernel) (by decide +kernel)
  exact h
theorem f_b (A0:Option Addr) (c0:Nat) (B0:Option Addr) (d0:Nat) (A1:Option Addr) (c1:Nat) (B1:Option Addr) (d1:Nat) (w:World) (hm0:SRow w .u32 A0 [1] c0) (hs0:SRow w .u16 B0 [] d0) (hm1:SRow w .u32 A1 [] c1) (hs1:SRow w .u16 B1 [] d1):Calls Tryz.prog 12 #[.string ⟨#[47]⟩,vv (Vl.mk 4 0 0 false [1] [] 0) A0 c0 B0 d0,vv (Vl.mk 4 0 0 false [] [] 0) A1 c1 B1 d1] w (IsRet (.tuple #[vv (Vl.mk 0 0 0 false [] [] 0) none 0 none 0,iv 2]) w):=by
  have h:=binB_c (Vl.mk 4 0 0 false [1] [] 0) A0 c0 B0 d0 (Vl.mk 4 0 0 false [] [] 0) A1 c1 B1 d1 w hm0 hs0 hm1 hs1 (VOk.big (by omega)) VOk.big0 (by decide +kernel) (by decide +kernel) (by decide +kernel)
  exact h
theorem f_l (A0:Option Addr) (c0:Nat) (B0:Option Addr) (d0:Nat) (A1:Option Addr) (c1:Nat) (B1:Option Addr) (d1:Nat) (w:World) (hm0:SRow w .u32 A0 [1] c0) (hs0:SRow w .u16 B0 [] d0) (hm1:SRow w .u32 A1 [] c1) (hs1:SRow w .u16 B1 [] d1):Calls Tryz.prog 12 #[.string ⟨#[60]⟩,vv (Vl.mk 4 0 0 false [1] [] 0) A0 c0 B0 d0,vv (Vl.mk 3 0 2 false [] [] 0) A1 c1 B1 d1] w (IsRet (.tuple #[vv (Vl.mk 2 0 0 false [] [] 1) none 0 none 0,iv 0]) w):=by
  have h:=binLt_c (Vl.mk 4 0 0 false [1] [] 0) A0 c0 B0 d0 (Vl.mk 3 0 2 false [] [] 0) A1 c1 B1 d1 w hm0 hs0 hm1 hs1 (VOk.big (by omega)) (VOk.whole (by omega) (by omega)) 
  rw [show lessT (cleanV (Vl.mk 4 0 0 false [1] [] 0)) (cleanV (Vl.mk 3 0 2 false [] [] 0)) false false=(2,1,0) from by decide +kernel] at h
  exact h
theorem f_n (A0:Option Addr) (c0:Nat) (B0:Option Addr) (d0:Nat) (w:World) (hm0:SRow w .u32 A0 [] c0) (hs0:SRow w .u16 B0 [] d0):Calls Tryz.prog 13 #[.string ⟨#[45]⟩,vv (Vl.mk 3 0 0 false [] [] 0) A0 c0 B0 d0] w (IsRet (.tuple #[vv (Vl.mk 3 1 0 false [] [] 0) none 0 none 0,iv 0]) w):=by
  have h:=minus_c (Vl.mk 3 0 0 false [] [] 0) A0 c0 B0 d0 w hm0 hs0 (VOk.whole (by omega) (by omega)) (by decide +kernel) (by decide +kernel)
  rw [show (negM (Nm.mk (numericV (Vl.mk 3 0 0 false [] [] 0)).1.nk (numericV (Vl.mk 3 0 0 false [] [] 0)).1.nn))=⟨1,0⟩ from by decide +kernel] at h
  exact h
theorem few_c (v:Vl) (Av:Option Addr) (cv:Nat) (Bv:Option Addr) (dv:Nat) (w:World) (hmv:SRow w .u32 Av v.mag cv) (hsv:SRow w .u16 Bv v.s dv):Calls Tryz.prog 20 #[vv v Av cv Bv dv] w (IsRet (.bool (decide ((v.s.length:Int)≤20000) && decide ((v.mag.length:Int)≤40))) w):=by
 refine enter_abs Tryz.func20 rfl fun a0 aa ak hp=>?_
 have aa:a0.tmps.size=14:=aa
 have ac:New w w:=Upd.refl _ _
 have hp0:a0.eval (.tmp 0)=vv v Av cv Bv dv:=hp 0 _ rfl
 refine wp_seq_k fun K1 al=>?_
 refine wp_g [true,true] [] [] 14
   [IsNew w 29 (c7 v Av cv Bv dv),vF]
   [0] (newsCons (fun v w h=>IsNew.old h) newsNil) aa (.nw (.eq (.nil))) ?_ (fun i h=>by cases h) ?_
 exact .o2 (step_allocN (cs:=(c7 v Av cv Bv dv)) (t:=29) rfl (noG rfl) (fun _ w hn k=>v_box rfl (k.fx 0 hp0) (fun w=>rfl)) (fun q _ hq hb=>⟨q,rfl,hq,hb⟩))<| .t (fun _ w hn k=>⟨_,v_assign rfl rfl,rfl⟩) .nil
 refine aftI aa ak ac fun a2 w3 ad am ae au an=>?_
 obtain⟨q9,h8,af,ab⟩:=an.G 0 1
 have ap:=Nat.le_trans ac.size af
 refine st_nil (al _ _ (wp_seq_k fun av ag=>?_))
 refine wp_g0 (.replicate 12 true) [] 14
   [ve (.pointer (some ⟨q9,5,none⟩)),ve (sv Bv v.s dv),ve (iv (v.s.length:Int)),ve (.bool (decide ((v.s.length:Int)≤20000))),ve (.bool (decide ((v.s.length:Int)≤20000))),ve (gq (decide ((v.s.length:Int)≤20000)) (.pointer (some ⟨q9,3,none⟩))),ve (gq (decide ((v.s.length:Int)≤20000)) (.pointer (some ⟨q9,4,none⟩))),ve (gq (decide ((v.s.length:Int)≤20000)) (sv Av v.mag cv)),ve (gq (decide ((v.s.length:Int)≤20000)) (iv (v.mag.length:Int))),ve (gq (decide ((v.s.length:Int)≤20000)) (.bool (decide ((v.mag.length:Int)≤40)))),ve (.bool ((decide ((v.s.length:Int)≤20000)) && (decide ((v.mag.length:Int)≤40)))),ve (.bool ((decide ((v.s.length:Int)≤20000)) && (decide ((v.mag.length:Int)≤40))))] ad (.eq (.eq (.eq (.eq (.eq (.eq (.eq (.eq (.eq (.eq (.eq (.eq (.nil))))))))))))) ?_ ?_
 exact .f (fun k=>k.fx 1 h8)<| .t (fun _ w hn k=>⟨_,v_load rfl (k.eq1 0 3 rfl) (l_one Tryz.isAgg27 ((ab.new_ hn).cell 5)),rfl⟩)<| .t (fun _ w hn k=>⟨_,v_lenR rfl elU (k.eq1 1 4 rfl),rfl⟩)<| .t (fun _ w hn k=>⟨_,v_bin rfl (k.eq1 2 5 rfl) rfl (fun _=>rfl) (r_leqK rfl),rfl⟩)<| .m (fun k=>k.eq1 3 6 rfl)<| .o1 (sc (G:=(decide ((v.s.length:Int)≤20000))) rfl rfl rfl (fun _ _ k=>g0 (k.eq1 4 7 rfl)) (fun hG _ w hn k=>v_field rfl (k.fx 1 h8) (fun w=>rfl)))<| .o1 (sc (G:=(decide ((v.s.length:Int)≤20000))) rfl rfl rfl (fun _ _ k=>g0 (k.eq1 4 7 rfl)) (fun hG _ w hn k=>v_field rfl (cT hG (k.eq1 5 8 rfl)) (fun w=>rfl)))<| .o1 (sc (G:=(decide ((v.s.length:Int)≤20000))) rfl rfl rfl (fun _ _ k=>g0 (k.eq1 4 7 rfl)) (fun hG _ w hn k=>v_load rfl (cT hG (k.eq1 6 9 rfl)) (l_one Tryz.isAgg24 ((ab.new_ hn).cell 4))))<| .o1 (sc (G:=(decide ((v.s.length:Int)≤20000))) rfl rfl rfl (fun _ _ k=>g0 (k.eq1 4 7 rfl)) (fun hG _ w hn k=>v_lenR rfl elW (cT hG (k.eq1 7 10 rfl))))<| .o1 (sc (G:=(decide ((v.s.length:Int)≤20000))) rfl rfl rfl (fun _ _ k=>g0 (k.eq1 4 7 rfl)) (fun hG _ w hn k=>v_bin rfl (cT hG (k.eq1 8 11 rfl)) rfl (fun _=>rfl) (r_leqK rfl)))<| .t (fun _ w hn k=>⟨_,v_and rfl (k.eq1 4 7 rfl) (fun hg=>(cT hg (k.eq1 9 12 rfl))) rfl,rfl⟩)<| .a (fun k=>k.eq1 10 13 rfl) .nil
 refine aftI ad am ae fun aw ax aq ah ai ar aj=>?_
 have ao:=aj.ge 11 2 rfl
 refine st_nil (ag _ _ ?_)
 refine wp_ret (ret_k ah (v:=.bool ((decide ((v.s.length:Int)≤20000)) && (decide ((v.mag.length:Int)≤40)))) (res_t rfl ao _) ?_)
 refine ⟨?_,ai⟩
 show Ending.returned (.bool ((decide ((v.s.length:Int)≤20000)) && (decide ((v.mag.length:Int)≤40))))=Ending.returned (.bool (decide ((v.s.length:Int)≤20000) && decide ((v.mag.length:Int)≤40)))
 first|rfl|(simp only [bsm] <;> rfl)|(exfalso; omega)
theorem first_c  (w:World) (HT:ItoaOk w):Calls Tryz.prog 10 #[] w (IsRet (.bool true) w):=by
 refine enter_abs Tryz.func10 rfl fun a0 bi fa hp=>?_
 have bi:a0.tmps.size=99:=bi
 have fb:New w w:=Upd.refl _ _
 refine wp_seq_k fun K1 fc=>?_
 refine wp_g0 [true] [] 99
   [vF] bi (.eq (.nil)) ?_ ?_
 exact .t (fun _ w hn k=>⟨_,v_assign rfl rfl,rfl⟩) .nil
 refine aftI bi fa fb fun a2 w3 dn fd bG gW gX=>?_
 refine st_nil (fc _ _ (wp_seq_k fun K9 fe=>?_))
 refine wp_gS (fun W=>True) (fun W W' hn h=>trivial) trivial [true,true,true,true,true,true,true,false,false] [5] [(7,false),(8,true)] 99
   [(fun (v_:Value) (W:World)=>∃ (A3:Option Addr) (c4:Nat),v_=vv (Vl.mk 5 0 0 false [] (asc ⟨#[97]⟩) 0) none 0 A3 c4∧SRow W .u16 A3 (asc ⟨#[97]⟩) c4),ve (vv (Vl.mk 3 0 1 false [] [] 0) none 0 none 0),(TP (joinV (cleanV (Vl.mk 5 0 0 false [] (asc ⟨#[97]⟩) 0)) (cleanV (Vl.mk 3 0 1 false [] [] 0))).1 ((joinV (cleanV (Vl.mk 5 0 0 false [] (asc ⟨#[97]⟩) 0)) (cleanV (Vl.mk 3 0 1 false [] [] 0))).2)),(TP (joinV (cleanV (Vl.mk 5 0 0 false [] (asc ⟨#[97]⟩) 0)) (cleanV (Vl.mk 3 0 1 false [] [] 0))).1 ((joinV (cleanV (Vl.mk 5 0 0 false [] (asc ⟨#[97]⟩) 0)) (cleanV (Vl.mk 3 0 1 false [] [] 0))).2)),(fun (v_:Value) (W:World)=>∃ (aD:Option Addr) (aE:Nat) (aF:Option Addr) (aG:Nat),v_=vv (joinV (cleanV (Vl.mk 5 0 0 false [] (asc ⟨#[97]⟩) 0)) (cleanV (Vl.mk 3 0 1 false [] [] 0))).1 aD aE aF aG∧SRow W .u32 aD ((joinV (cleanV (Vl.mk 5 0 0 false [] (asc ⟨#[97]⟩) 0)) (cleanV (Vl.mk 3 0 1 false [] [] 0))).1.mag) aE∧SRow W .u16 aF ((joinV (cleanV (Vl.mk 5 0 0 false [] (asc ⟨#[97]⟩) 0)) (cleanV (Vl.mk 3 0 1 false [] [] 0))).1.s) aG),ve (iv ((joinV (cleanV (Vl.mk 5 0 0 false [] (asc ⟨#[97]⟩) 0)) (cleanV (Vl.mk 3 0 1 false [] [] 0))).2)),IsNew w3 29 z7,vt,vt]
   [6] (newsCons (fun v w h=>IsNew.old h) newsNil) dn (.cons (fun _ _ _ n ⟨_,_,e,h⟩=>⟨_,_,e,h.new_ n⟩) (.eq (.cons (fun _ _ _ n ⟨_,_,_,_,e,h,i⟩=>⟨_,_,_,_,e,h.new_ n,i.new_ n⟩) (.cons (fun _ _ _ n ⟨_,_,_,_,e,h,i⟩=>⟨_,_,_,_,e,h.new_ n,i.new_ n⟩) (.cons (fun _ _ _ n ⟨_,_,_,_,e,h,i⟩=>⟨_,_,_,_,e,h.new_ n,i.new_ n⟩) (.eq (.nw (.tt (.tt (.nil)))))))))) ?_ ?_ ?_
 refine .o1 (tkC rfl (noG rfl) rfl fun _ w hn k=>(by
       refine ⟨#[.string ⟨#[97]⟩],_,args1 rfl,fun w=>by kernel_rfl,ostr_c ⟨#[97]⟩ _ (by first|omega|(show (_:Nat)≤_; decide)),?_⟩
       rintro e w' ⟨A1,c2,rfl,hmo0,hm⟩
       exact⟨_,rfl,hm,⟨A1,c2,rfl,hmo0⟩⟩)) ?_
 refine .o1 (ck rfl rfl rfl (fun _ w hn k=>⟨#[iv 1],args1 rfl,fun _=>by kernel_rfl,owhole_c 1 _ ⟩) fun _=>rfl) ?_
 refine .o1 (tkC rfl (noG rfl) rfl fun _ w hn k=>(by
       obtain⟨A5,c6,e7,ff⟩:(fun (v_:Value) (W:World)=>∃ (A3:Option Addr) (c4:Nat),v_=vv (Vl.mk 5 0 0 false [] (asc ⟨#[97]⟩) 0) none 0 A3 c4∧SRow W .u16 A3 (asc ⟨#[97]⟩) c4) _ _:=k.dep 0 14 (by kernel_rfl) (by kernel_rfl)
       refine ⟨#[.string ⟨#[43]⟩,vv (Vl.mk 5 0 0 false [] (asc ⟨#[97]⟩) 0) none 0 A5 c6,vv (Vl.mk 3 0 1 false [] [] 0) none 0 none 0],_,args3 rfl e7 (k.eq1 1 15 rfl),fun w=>by kernel_rfl,binT_c (Vl.mk 5 0 0 false [] (asc ⟨#[97]⟩) 0) _ _ _ _ (Vl.mk 3 0 1 false [] [] 0) _ _ _ _ _ (SRow.nil _ _) ff (SRow.nil _ _) (SRow.nil _ _) (VOk.str ⟨#[97]⟩ (by first|omega|decide)) (VOk.whole (by omega) (by omega)) (by first|assumption|(rw [str_clean]; rfl)|decide +kernel) (HT.up (bG.transNew hn)),?_⟩
       rintro e w' ⟨A9,fg,fh,fi,rfl,hmo0,hmo1,hm⟩
       exact⟨_,rfl,hm,⟨A9,fg,fh,fi,rfl,hmo0,hmo1⟩⟩)) ?_
 refine .o1 (tk rfl rfl fun _ w hn k=>(by
       obtain⟨aH,fj,fk,fl,fm,dy,dz⟩:(TP (joinV (cleanV (Vl.mk 5 0 0 false [] (asc ⟨#[97]⟩) 0)) (cleanV (Vl.mk 3 0 1 false [] [] 0))).1 ((joinV (cleanV (Vl.mk 5 0 0 false [] (asc ⟨#[97]⟩) 0)) (cleanV (Vl.mk 3 0 1 false [] [] 0))).2)) _ _:=k.dep 2 16 (by kernel_rfl) (by kernel_rfl)
       exact⟨_,v_move rfl fm,⟨aH,fj,fk,fl,rfl,dy,dz⟩⟩)) ?_
 refine .o1 (tk rfl rfl fun _ w hn k=>(by
       obtain⟨fn,fo,fp,fq,fs,dA,dB⟩:(TP (joinV (cleanV (Vl.mk 5 0 0 false [] (asc ⟨#[97]⟩) 0)) (cleanV (Vl.mk 3 0 1 false [] [] 0))).1 ((joinV (cleanV (Vl.mk 5 0 0 false [] (asc ⟨#[97]⟩) 0)) (cleanV (Vl.mk 3 0 1 false [] [] 0))).2)) _ _:=k.dep 3 13 (by kernel_rfl) (by kernel_rfl)
       exact⟨_,v_extract rfl fs rfl,⟨fn,fo,fp,fq,rfl,dA,dB⟩⟩)) ?_
 refine .o3 ?_
 exact .o2 (step_allocN (cs:=z7) (t:=29) rfl (noG rfl) (fun _ w hn k=>rfl) (fun q _ hq hb=>⟨q,rfl,hq,hb⟩))<| .off<| .off .nil
 intro i h
 simp only [List.contains_eq_mem,List.mem_cons,List.not_mem_nil,or_false,decide_eq_true_eq] at h
 subst h
 exact eager_takeG rfl (noG rfl) fun _ w hn k=>(by
     obtain⟨gY,gZ,g0,g1,ft,gt,gu⟩:(TP (joinV (cleanV (Vl.mk 5 0 0 false [] (asc ⟨#[97]⟩) 0)) (cleanV (Vl.mk 3 0 1 false [] [] 0))).1 ((joinV (cleanV (Vl.mk 5 0 0 false [] (asc ⟨#[97]⟩) 0)) (cleanV (Vl.mk 3 0 1 false [] [] 0))).2)) _ _:=k.dep 3 13 (by kernel_rfl) (by kernel_rfl)
     exact⟨_,fun w hS=>v_extract rfl ft rfl,rfl⟩)
 intro bH g2 _ dC aU
 obtain⟨bI,dD,dE⟩:=aft aU dn fd bG dC
 obtain⟨aH,aI,ba,aJ,bj,dF,dG⟩:=aU.G 4 17
 have bj:bH.eval (.tmp 17)=vv (joinV (cleanV (Vl.mk 5 0 0 false [] (asc ⟨#[97]⟩) 0)) (cleanV (Vl.mk 3 0 1 false [] [] 0))).1 aH aI ba aJ:=bj
 have dp:=aU.ge 5 18 rfl
 obtain⟨aT,dq,dH,bb⟩:=aU.G 6 1
 have gv:=Nat.le_trans bG.size dH
 obtain⟨bk,cl,cm,bd,gw⟩:=s_many (P:=Tryz.prog) (t:=29) (i:=0) (c7 (joinV (cleanV (Vl.mk 5 0 0 false [] (asc ⟨#[97]⟩) 0)) (cleanV (Vl.mk 3 0 1 false [] [] 0))).1 aH aI ba aJ) Tryz.sizeOf29 rfl rfl rfl bb lb
 have bJ:Blk bk aT 29 (c7 (joinV (cleanV (Vl.mk 5 0 0 false [] (asc ⟨#[97]⟩) 0)) (cleanV (Vl.mk 3 0 1 false [] [] 0))).1 aH aI ba aJ):=cm
 refine st_act rfl rfl fun g3 dI=>a_store' rfl dq bj cl (dI _ _ trivial ?_)
 have dJ:=dF.fr bb bd
 have dK:=dG.fr bb bd
 have bK:=dE.trans bd (fun _ h b=>by subst b; omega)
 refine st_take rfl rfl (y_assign (v:=iv ((joinV (cleanV (Vl.mk 5 0 0 false [] (asc ⟨#[97]⟩) 0)) (cleanV (Vl.mk 3 0 1 false [] [] 0))).2)) rfl dp) rfl ?_
 obtain⟨fu,am⟩:∃ a',a'=bH.put (some 2) (iv ((joinV (cleanV (Vl.mk 5 0 0 false [] (asc ⟨#[97]⟩) 0)) (cleanV (Vl.mk 3 0 1 false [] [] 0))).2)):=⟨_,rfl⟩
 have bL:=pz am bI
 have dL:=pd am dD
 have g4:=pn am bj (by decide)
 have g5:=pn am dp (by decide)
 have fv:=pn am dq (by decide)
 have fw:fu.eval (.tmp 2)=iv ((joinV (cleanV (Vl.mk 5 0 0 false [] (asc ⟨#[97]⟩) 0)) (cleanV (Vl.mk 3 0 1 false [] [] 0))).2):=by rw [am]; exact put_same _ _ _ (by rw [bI]; decide)
 show stepsTo _ _ _ _ _ (bH.put (some 2) (iv ((joinV (cleanV (Vl.mk 5 0 0 false [] (asc ⟨#[97]⟩) 0)) (cleanV (Vl.mk 3 0 1 false [] [] 0))).2))) _
 rw [← am]
 refine st_nil (fe _ _ (wp_seq_k fun g6 dM=>?_))
 refine wp_g [true,true,true,true,true,true,true,true,false,false] [6] [(8,false),(9,true)] 99
   [(OP bk.heap.size 56 .u32 ([1])),(fun (v_:Value) (W:World)=>∃ (aK:Option Addr) (aL:Nat),v_=vv (Vl.mk 4 0 0 false [1] [] 0) aK aL none 0∧SRow W .u32 aK ([1]) aL),ve (vv (Vl.mk 3 0 1 false [] [] 0) none 0 none 0),ve (.tuple #[vv (Vl.mk 0 0 0 false [] [] 0) none 0 none 0,iv 1]),ve (.tuple #[vv (Vl.mk 0 0 0 false [] [] 0) none 0 none 0,iv 1]),ve (vv (Vl.mk 0 0 0 false [] [] 0) none 0 none 0),ve (iv 1),IsNew bk 29 z7,vt,vt]
   [7] (newsCons (fun v w h=>IsNew.old h) newsNil) bL (.cons (fun _ _ _ n ⟨_,_,e,h⟩=>⟨_,_,e,h.new_ n⟩) (.cons (fun _ _ _ n ⟨_,_,e,h⟩=>⟨_,_,e,h.new_ n⟩) (.eq (.eq (.eq (.eq (.eq (.nw (.tt (.tt (.nil))))))))))) ?_ ?_ ?_
 refine .o1 (tkA rfl (noG rfl) fun _ w hn k=>(by
       exact x_bslice (k:=.u32) (ps:=[(0,.int .u32 1)]) [1] rfl (parts1 rfl) elW rfl (by omega) (by omega) (by first|kernel_rfl|(simp only [enc,List.map_cons,List.map_nil,Int.toNat_natCast,Int.toNat_of_nonneg (by omega:(0:Int)≤_)]; kernel_rfl)) fun fA fB W' hmo=>⟨fA,fB,rfl,(hmo.more hn.size)⟩)) ?_
 refine .o1 (tkC rfl (noG rfl) rfl fun _ w hn k=>(by
       obtain⟨fC,fD,fE,dN⟩:(OP bk.heap.size 56 .u32 ([1])) _ _:=k.dep 0 20 (by kernel_rfl) (by kernel_rfl)
       refine ⟨#[sv fC ([1]) fD],_,args1 fE,fun w=>by kernel_rfl,obig_c _ ([1]) _ _ dN.row,?_⟩
       rintro e w' ⟨fF,fG,rfl,hmo0,hm⟩
       exact⟨_,rfl,hm,⟨fF,fG,rfl,hmo0⟩⟩)) ?_
 refine .o1 (ck rfl rfl rfl (fun _ w hn k=>⟨#[iv 1],args1 rfl,fun _=>by kernel_rfl,owhole_c 1 _ ⟩) fun _=>rfl) ?_
 refine .o1 (tkC rfl (noG rfl) rfl fun _ w hn k=>(by
       obtain⟨fH,fI,fJ,dO⟩:(fun (v_:Value) (W:World)=>∃ (aK:Option Addr) (aL:Nat),v_=vv (Vl.mk 4 0 0 false [1] [] 0) aK aL none 0∧SRow W .u32 aK ([1]) aL) _ _:=k.dep 1 21 (by kernel_rfl) (by kernel_rfl)
       refine ⟨#[.string ⟨#[43]⟩,vv (Vl.mk 4 0 0 false [1] [] 0) fH fI none 0,vv (Vl.mk 3 0 1 false [] [] 0) none 0 none 0],_,args3 rfl fJ (k.eq1 2 22 rfl),fun w=>by kernel_rfl,f_m _ _ _ _ _ _ _ _ _ dO (SRow.nil _ _) (SRow.nil _ _) (SRow.nil _ _),?_⟩
       rintro e w' ⟨rfl,hm⟩
       exact⟨_,rfl,hm,rfl⟩)) ?_
 refine .m (fun k=>k.eq1 3 23 rfl)<| .t (fun _ w hn k=>⟨_,v_extract rfl (k.eq1 4 19 rfl) rfl,rfl⟩) ?_
 refine .o3 ?_
 exact .o2 (step_allocN (cs:=z7) (t:=29) rfl (noG rfl) (fun _ w hn k=>rfl) (fun q _ hq hb=>⟨q,rfl,hq,hb⟩))<| .off<| .off .nil
 intro i h
 simp only [List.contains_eq_mem,List.mem_cons,List.not_mem_nil,or_false,decide_eq_true_eq] at h
 subst h
 exact eager_take rfl rfl fun _ w hn k=>⟨iv 1,fun w=>v_extract rfl (k.eq1 4 19 rfl) rfl,rfl⟩
 refine aftI bL dL bK fun dr g7 bM dP dQ be aM=>?_
 have fK:=aM.fx 1 fv
 have fL:=aM.fx 2 fw
 have ds:=aM.ge 5 24 rfl
 have dt:=aM.ge 6 25 rfl
 obtain⟨du,dv,bN,bf⟩:=aM.G 7 3
 have dR:=bJ.new_ be
 have hne64:aT ≠ du:=by have h1:=bJ.lt; have h2:=bN; omega
 have gx:=Nat.le_trans bK.size bN
 have dS:=dJ.new_ be
 have dT:=dK.new_ be
 obtain⟨dw,cn,co,bg,dU⟩:=s_many (P:=Tryz.prog) (t:=29) (i:=0) z7 Tryz.sizeOf29 rfl rfl rfl bf lb
 have gy:Blk dw du 29 z7:=co
 refine st_act rfl rfl fun g8 dV=>a_store' rfl dv ds cn (dV _ _ trivial ?_)
 have dW:=dS.fr bf bg
 have dX:=dT.fr bf bg
 have bO:=dU _ _ _ (hne64) dR
 have bP:=dQ.trans bg (fun _ h b=>by subst b; omega)
 refine st_take rfl rfl (y_assign (v:=iv 1) rfl dt) rfl ?_
 obtain⟨fM,ag⟩:∃ a',a'=dr.put (some 4) (iv 1):=⟨_,rfl⟩
 have bQ:=pz ag bM
 have dY:=pd ag dP
 have fN:=pn ag fK (by decide)
 have fO:=pn ag fL (by decide)
 have g9:=pn ag ds (by decide)
 have ha:=pn ag dt (by decide)
 have hc:=pn ag dv (by decide)
 have fP:fM.eval (.tmp 4)=iv 1:=by rw [ag]; exact put_same _ _ _ (by rw [bM]; decide)
 show stepsTo _ _ _ _ _ (dr.put (some 4) (iv 1)) _
 rw [← ag]
 refine st_nil (dM _ _ (wp_seq_k fun hd dZ=>?_))
 refine wp_g [true,true,true,true,true,true,true,false,false] [5] [(7,false),(8,true)] 99
   [ve (vv (Vl.mk 3 0 1 false [] [] 0) none 0 none 0),ve (vv (Vl.mk 3 0 2 false [] [] 0) none 0 none 0),ve (.tuple #[vv (Vl.mk 0 0 0 false [] [] 0) none 0 none 0,iv 3]),ve (.tuple #[vv (Vl.mk 0 0 0 false [] [] 0) none 0 none 0,iv 3]),ve (vv (Vl.mk 0 0 0 false [] [] 0) none 0 none 0),ve (iv 3),IsNew dw 29 z7,vt,vt]
   [6] (newsCons (fun v w h=>IsNew.old h) newsNil) bQ (.eq (.eq (.eq (.eq (.eq (.eq (.nw (.tt (.tt (.nil)))))))))) ?_ ?_ ?_
 refine .o1 (ck rfl rfl rfl (fun _ w hn k=>⟨#[iv 1],args1 rfl,fun _=>by kernel_rfl,owhole_c 1 _ ⟩) fun _=>rfl)<| .o1 (ck rfl rfl rfl (fun _ w hn k=>⟨#[iv 2],args1 rfl,fun _=>by kernel_rfl,owhole_c 2 _ ⟩) fun _=>rfl)<| .o1 (ck rfl rfl rfl (fun _ w hn k=>⟨#[.string ⟨#[47]⟩,vv (Vl.mk 3 0 1 false [] [] 0) none 0 none 0,vv (Vl.mk 3 0 2 false [] [] 0) none 0 none 0],args3 rfl (k.eq1 0 27 rfl) (k.eq1 1 28 rfl),fun _=>by kernel_rfl,f_d _ _ _ _ _ _ _ _ _ (SRow.nil _ _) (SRow.nil _ _) (SRow.nil _ _) (SRow.nil _ _)⟩) fun _=>rfl)<| .m (fun k=>k.eq1 2 29 rfl)<| .t (fun _ w hn k=>⟨_,v_extract rfl (k.eq1 3 26 rfl) rfl,rfl⟩) ?_
 refine .o3 ?_
 exact .o2 (step_allocN (cs:=z7) (t:=29) rfl (noG rfl) (fun _ w hn k=>rfl) (fun q _ hq hb=>⟨q,rfl,hq,hb⟩))<| .off<| .off .nil
 intro i h
 simp only [List.contains_eq_mem,List.mem_cons,List.not_mem_nil,or_false,decide_eq_true_eq] at h
 subst h
 exact eager_take rfl rfl fun _ w hn k=>⟨iv 3,fun w=>v_extract rfl (k.eq1 3 26 rfl) rfl,rfl⟩
 refine aftI bQ dY bP fun dx hf bR d0 cp bh ax=>?_
 have fQ:=ax.fx 1 fN
 have fR:=ax.fx 2 fO
 have fS:=ax.fx 4 fP
 have bS:=ax.ge 4 30 rfl
 have bT:=ax.ge 5 31 rfl
 obtain⟨bU,bV,bl,aV⟩:=ax.G 6 5
 have cq:=bO.new_ bh
 have hne107:aT ≠ bU:=by have h1:=bO.lt; have h2:=bl; omega
 have gk:=Nat.le_trans bP.size bl
 have cr:=dW.new_ bh
 have ct:=dX.new_ bh
 obtain⟨aW,bW,bX,aX,cu⟩:=s_many (P:=Tryz.prog) (t:=29) (i:=0) z7 Tryz.sizeOf29 rfl rfl rfl aV lb
 have gl:Blk aW bU 29 z7:=bX
 refine st_act rfl rfl fun gz cv=>a_store' rfl bV bS bW (cv _ _ trivial ?_)
 have cw:=cr.fr aV aX
 have cx:=ct.fr aV aX
 have bm:=cu _ _ _ (hne107) cq
 have bn:=cp.trans aX (fun _ h b=>by subst b; omega)
 refine st_take rfl rfl (y_assign (v:=iv 3) rfl bT) rfl ?_
 obtain⟨d1,ad⟩:∃ a',a'=dx.put (some 6) (iv 3):=⟨_,rfl⟩
 have bo:=pz ad bR
 have cy:=pd ad d0
 have d2:=pn ad fQ (by decide)
 have d3:=pn ad fR (by decide)
 have d4:=pn ad fS (by decide)
 have gA:=pn ad bS (by decide)
 have gB:=pn ad bT (by decide)
 have gC:=pn ad bV (by decide)
 have d5:d1.eval (.tmp 6)=iv 3:=by rw [ad]; exact put_same _ _ _ (by rw [bR]; decide)
 show stepsTo _ _ _ _ _ (dx.put (some 6) (iv 3)) _
 rw [← ad]
 refine st_nil (dZ _ _ (wp_seq_k fun gD cz=>?_))
 refine wp_g [true,true,true,true,true,true,true,true,false,false] [6] [(8,false),(9,true)] 99
   [(OP aW.heap.size 56 .u32 ([1])),(fun (v_:Value) (W:World)=>∃ (aN:Option Addr) (aO:Nat),v_=vv (Vl.mk 4 0 0 false [1] [] 0) aN aO none 0∧SRow W .u32 aN ([1]) aO),(fun (v_:Value) (W:World)=>∃ (aP:Option Addr) (aQ:Nat),v_=vv (Vl.mk 4 0 0 false [] [] 0) aP aQ none 0∧SRow W .u32 aP ([]) aQ),ve (.tuple #[vv (Vl.mk 0 0 0 false [] [] 0) none 0 none 0,iv 2]),ve (.tuple #[vv (Vl.mk 0 0 0 false [] [] 0) none 0 none 0,iv 2]),ve (vv (Vl.mk 0 0 0 false [] [] 0) none 0 none 0),ve (iv 2),IsNew aW 29 z7,vt,vt]
   [7] (newsCons (fun v w h=>IsNew.old h) newsNil) bo (.cons (fun _ _ _ n ⟨_,_,e,h⟩=>⟨_,_,e,h.new_ n⟩) (.cons (fun _ _ _ n ⟨_,_,e,h⟩=>⟨_,_,e,h.new_ n⟩) (.cons (fun _ _ _ n ⟨_,_,e,h⟩=>⟨_,_,e,h.new_ n⟩) (.eq (.eq (.eq (.eq (.nw (.tt (.tt (.nil))))))))))) ?_ ?_ ?_
 refine .o1 (tkA rfl (noG rfl) fun _ w hn k=>(by
       exact x_bslice (k:=.u32) (ps:=[(0,.int .u32 1)]) [1] rfl (parts1 rfl) elW rfl (by omega) (by omega) (by first|kernel_rfl|(simp only [enc,List.map_cons,List.map_nil,Int.toNat_natCast,Int.toNat_of_nonneg (by omega:(0:Int)≤_)]; kernel_rfl)) fun fV fW W' hmo=>⟨fV,fW,rfl,(hmo.more hn.size)⟩)) ?_
 refine .o1 (tkC rfl (noG rfl) rfl fun _ w hn k=>(by
       obtain⟨fX,fY,fZ,d6⟩:(OP aW.heap.size 56 .u32 ([1])) _ _:=k.dep 0 33 (by kernel_rfl) (by kernel_rfl)
       refine ⟨#[sv fX ([1]) fY],_,args1 fZ,fun w=>by kernel_rfl,obig_c _ ([1]) _ _ d6.row,?_⟩
       rintro e w' ⟨f0,f1,rfl,hmo0,hm⟩
       exact⟨_,rfl,hm,⟨f0,f1,rfl,hmo0⟩⟩)) ?_
 refine .o1 (tkC rfl (noG rfl) rfl fun _ w hn k=>(by
       refine ⟨#[sv none ([]) 0],_,args1 rfl,fun w=>by kernel_rfl,obig_c _ ([]) _ _ (SRow.nil _ _),?_⟩
       rintro e w' ⟨f2,f3,rfl,hmo0,hm⟩
       exact⟨_,rfl,hm,⟨f2,f3,rfl,hmo0⟩⟩)) ?_
 refine .o1 (tkC rfl (noG rfl) rfl fun _ w hn k=>(by
       obtain⟨f4,f5,f6,d7⟩:(fun (v_:Value) (W:World)=>∃ (aN:Option Addr) (aO:Nat),v_=vv (Vl.mk 4 0 0 false [1] [] 0) aN aO none 0∧SRow W .u32 aN ([1]) aO) _ _:=k.dep 1 34 (by kernel_rfl) (by kernel_rfl)
       obtain⟨f7,f8,f9,d8⟩:(fun (v_:Value) (W:World)=>∃ (aP:Option Addr) (aQ:Nat),v_=vv (Vl.mk 4 0 0 false [] [] 0) aP aQ none 0∧SRow W .u32 aP ([]) aQ) _ _:=k.dep 2 35 (by kernel_rfl) (by kernel_rfl)
       refine ⟨#[.string ⟨#[47]⟩,vv (Vl.mk 4 0 0 false [1] [] 0) f4 f5 none 0,vv (Vl.mk 4 0 0 false [] [] 0) f7 f8 none 0],_,args3 rfl f6 f9,fun w=>by kernel_rfl,f_b _ _ _ _ _ _ _ _ _ d7 (SRow.nil _ _) d8 (SRow.nil _ _),?_⟩
       rintro e w' ⟨rfl,hm⟩
       exact⟨_,rfl,hm,rfl⟩)) ?_
 refine .m (fun k=>k.eq1 3 36 rfl)<| .t (fun _ w hn k=>⟨_,v_extract rfl (k.eq1 4 32 rfl) rfl,rfl⟩) ?_
 refine .o3 ?_
 exact .o2 (step_allocN (cs:=z7) (t:=29) rfl (noG rfl) (fun _ w hn k=>rfl) (fun q _ hq hb=>⟨q,rfl,hq,hb⟩))<| .off<| .off .nil
 intro i h
 simp only [List.contains_eq_mem,List.mem_cons,List.not_mem_nil,or_false,decide_eq_true_eq] at h
 subst h
 exact eager_take rfl rfl fun _ w hn k=>⟨iv 2,fun w=>v_extract rfl (k.eq1 4 32 rfl) rfl,rfl⟩
 refine aftI bo cy bn fun bY gE bp cA cB aY ah=>?_
 have d9:=ah.fx 1 d2
 have ea:=ah.fx 2 d3
 have eb:=ah.fx 4 d4
 have ec:=ah.fx 6 d5
 have bZ:=ah.ge 5 37 rfl
 have b0:=ah.ge 6 38 rfl
 obtain⟨b1,b2,bq,aZ⟩:=ah.G 7 7
 have cC:=bm.new_ aY
 have hne152:aT ≠ b1:=by have h1:=bm.lt; have h2:=bq; omega
 have gn:=Nat.le_trans bn.size bq
 have cD:=cw.new_ aY
 have cE:=cx.new_ aY
 obtain⟨a1,b3,b4,a3,cF⟩:=s_many (P:=Tryz.prog) (t:=29) (i:=0) z7 Tryz.sizeOf29 rfl rfl rfl aZ lb
 have go:Blk a1 b1 29 z7:=b4
 refine st_act rfl rfl fun gF cG=>a_store' rfl b2 bZ b3 (cG _ _ trivial ?_)
 have cH:=cD.fr aZ a3
 have cI:=cE.fr aZ a3
 have br:=cF _ _ _ (hne152) cC
 have bs:=cB.trans a3 (fun _ h b=>by subst b; omega)
 refine st_take rfl rfl (y_assign (v:=iv 2) rfl b0) rfl ?_
 obtain⟨ed,ac⟩:∃ a',a'=bY.put (some 8) (iv 2):=⟨_,rfl⟩
 have bt:=pz ac bp
 have cJ:=pd ac cA
 have ee:=pn ac d9 (by decide)
 have ef:=pn ac ea (by decide)
 have eg:=pn ac eb (by decide)
 have eh:=pn ac ec (by decide)
 have gG:=pn ac bZ (by decide)
 have gH:=pn ac b0 (by decide)
 have gI:=pn ac b2 (by decide)
 have ei:ed.eval (.tmp 8)=iv 2:=by rw [ac]; exact put_same _ _ _ (by rw [bp]; decide)
 show stepsTo _ _ _ _ _ (bY.put (some 8) (iv 2)) _
 rw [← ac]
 refine st_nil (cz _ _ (wp_seq_k fun gJ cK=>?_))
 refine wp_g [true,true,true,true,true,true,true,true,false,false] [6] [(8,false),(9,true)] 99
   [(OP a1.heap.size 56 .u32 ([1])),(fun (v_:Value) (W:World)=>∃ (an:Option Addr) (ao:Nat),v_=vv (Vl.mk 4 0 0 false [1] [] 0) an ao none 0∧SRow W .u32 an ([1]) ao),ve (vv (Vl.mk 3 0 2 false [] [] 0) none 0 none 0),ve (.tuple #[vv (Vl.mk 2 0 0 false [] [] 1) none 0 none 0,iv 0]),ve (.tuple #[vv (Vl.mk 2 0 0 false [] [] 1) none 0 none 0,iv 0]),ve (vv (Vl.mk 2 0 0 false [] [] 1) none 0 none 0),ve (iv 0),IsNew a1 29 z7,vt,vt]
   [7] (newsCons (fun v w h=>IsNew.old h) newsNil) bt (.cons (fun _ _ _ n ⟨_,_,e,h⟩=>⟨_,_,e,h.new_ n⟩) (.cons (fun _ _ _ n ⟨_,_,e,h⟩=>⟨_,_,e,h.new_ n⟩) (.eq (.eq (.eq (.eq (.eq (.nw (.tt (.tt (.nil))))))))))) ?_ ?_ ?_
 refine .o1 (tkA rfl (noG rfl) fun _ w hn k=>(by
       exact x_bslice (k:=.u32) (ps:=[(0,.int .u32 1)]) [1] rfl (parts1 rfl) elW rfl (by omega) (by omega) (by first|kernel_rfl|(simp only [enc,List.map_cons,List.map_nil,Int.toNat_natCast,Int.toNat_of_nonneg (by omega:(0:Int)≤_)]; kernel_rfl)) fun gc gd W' hmo=>⟨gc,gd,rfl,(hmo.more hn.size)⟩)) ?_
 refine .o1 (tkC rfl (noG rfl) rfl fun _ w hn k=>(by
       obtain⟨gg,gh,gi,cL⟩:(OP a1.heap.size 56 .u32 ([1])) _ _:=k.dep 0 40 (by kernel_rfl) (by kernel_rfl)
       refine ⟨#[sv gg ([1]) gh],_,args1 gi,fun w=>by kernel_rfl,obig_c _ ([1]) _ _ cL.row,?_⟩
       rintro e w' ⟨ej,ek,rfl,hmo0,hm⟩
       exact⟨_,rfl,hm,⟨ej,ek,rfl,hmo0⟩⟩)) ?_
 refine .o1 (ck rfl rfl rfl (fun _ w hn k=>⟨#[iv 2],args1 rfl,fun _=>by kernel_rfl,owhole_c 2 _ ⟩) fun _=>rfl) ?_
 refine .o1 (tkC rfl (noG rfl) rfl fun _ w hn k=>(by
       obtain⟨el,em,en,cM⟩:(fun (v_:Value) (W:World)=>∃ (an:Option Addr) (ao:Nat),v_=vv (Vl.mk 4 0 0 false [1] [] 0) an ao none 0∧SRow W .u32 an ([1]) ao) _ _:=k.dep 1 41 (by kernel_rfl) (by kernel_rfl)
       refine ⟨#[.string ⟨#[60]⟩,vv (Vl.mk 4 0 0 false [1] [] 0) el em none 0,vv (Vl.mk 3 0 2 false [] [] 0) none 0 none 0],_,args3 rfl en (k.eq1 2 42 rfl),fun w=>by kernel_rfl,f_l _ _ _ _ _ _ _ _ _ cM (SRow.nil _ _) (SRow.nil _ _) (SRow.nil _ _),?_⟩
       rintro e w' ⟨rfl,hm⟩
       exact⟨_,rfl,hm,rfl⟩)) ?_
 refine .m (fun k=>k.eq1 3 43 rfl)<| .t (fun _ w hn k=>⟨_,v_extract rfl (k.eq1 4 39 rfl) rfl,rfl⟩) ?_
 refine .o3 ?_
 exact .o2 (step_allocN (cs:=z7) (t:=29) rfl (noG rfl) (fun _ w hn k=>rfl) (fun q _ hq hb=>⟨q,rfl,hq,hb⟩))<| .off<| .off .nil
 intro i h
 simp only [List.contains_eq_mem,List.mem_cons,List.not_mem_nil,or_false,decide_eq_true_eq] at h
 subst h
 exact eager_take rfl rfl fun _ w hn k=>⟨iv 0,fun w=>v_extract rfl (k.eq1 4 39 rfl) rfl,rfl⟩
 refine aftI bt cJ bs fun b5 gK bu cN cO a4 af=>?_
 have eo:=af.fx 1 ee
 have ep:=af.fx 2 ef
 have er:=af.fx 4 eg
 have es:=af.fx 6 eh
 have et:=af.fx 8 ei
 have b6:=af.ge 5 44 rfl
 have b7:=af.ge 6 45 rfl
 obtain⟨aR,b8,bv,a5⟩:=af.G 7 9
 have cP:=br.new_ a4
 have hne199:aT ≠ aR:=by have h1:=br.lt; have h2:=bv; omega
 have gp:=Nat.le_trans bs.size bv
 have cQ:=cH.new_ a4
 have cR:=cI.new_ a4
 obtain⟨b9,ca,cb,a6,cS⟩:=s_many (P:=Tryz.prog) (t:=29) (i:=0) [iv 2,iv 0,iv 0,.bool false,sv none ([]) 0,sv none ([]) 0,iv 1] Tryz.sizeOf29 rfl rfl rfl a5 lb
 have bw:Blk b9 aR 29 [iv 2,iv 0,iv 0,.bool false,sv none ([]) 0,sv none ([]) 0,iv 1]:=cb
 refine st_act rfl rfl fun gL cT=>a_store' rfl b8 b6 ca (cT _ _ trivial ?_)
 have cU:=cQ.fr a5 a6
 have cV:=cR.fr a5 a6
 have bx:=cS _ _ _ (hne199) cP
 have bz:=cO.trans a6 (fun _ h b=>by subst b; omega)
 refine st_take rfl rfl (y_assign (v:=iv 0) rfl b7) rfl ?_
 obtain⟨eu,ab⟩:∃ a',a'=b5.put (some 10) (iv 0):=⟨_,rfl⟩
 have bA:=pz ab bu
 have cW:=pd ab cN
 have ev:=pn ab eo (by decide)
 have ew:=pn ab ep (by decide)
 have ex:=pn ab er (by decide)
 have ey:=pn ab es (by decide)
 have ez:=pn ab et (by decide)
 have gM:=pn ab b6 (by decide)
 have gN:=pn ab b7 (by decide)
 have eA:=pn ab b8 (by decide)
 have eB:eu.eval (.tmp 10)=iv 0:=by rw [ab]; exact put_same _ _ _ (by rw [bu]; decide)
 show stepsTo _ _ _ _ _ (b5.put (some 10) (iv 0)) _
 rw [← ab]
 refine st_nil (cK _ _ (wp_seq_k fun gO cX=>?_))
 refine wp_g [true,true,true,true,true,true,false,false] [4] [(6,false),(7,true)] 99
   [ve (vv (Vl.mk 3 0 0 false [] [] 0) none 0 none 0),ve (.tuple #[vv (Vl.mk 3 1 0 false [] [] 0) none 0 none 0,iv 0]),ve (.tuple #[vv (Vl.mk 3 1 0 false [] [] 0) none 0 none 0,iv 0]),ve (vv (Vl.mk 3 1 0 false [] [] 0) none 0 none 0),ve (iv 0),IsNew b9 29 z7,vt,vt]
   [5] (newsCons (fun v w h=>IsNew.old h) newsNil) bA (.eq (.eq (.eq (.eq (.eq (.nw (.tt (.tt (.nil))))))))) ?_ ?_ ?_
 refine .o1 (ck rfl rfl rfl (fun _ w hn k=>⟨#[iv 0],args1 rfl,fun _=>by kernel_rfl,owhole_c 0 _ ⟩) fun _=>rfl)<| .o1 (ck rfl rfl rfl (fun _ w hn k=>⟨#[.string ⟨#[45]⟩,vv (Vl.mk 3 0 0 false [] [] 0) none 0 none 0],args2 rfl (k.eq1 0 47 rfl),fun _=>by kernel_rfl,f_n _ _ _ _ _ (SRow.nil _ _) (SRow.nil _ _)⟩) fun _=>rfl)<| .m (fun k=>k.eq1 1 48 rfl)<| .t (fun _ w hn k=>⟨_,v_extract rfl (k.eq1 2 46 rfl) rfl,rfl⟩) ?_
 refine .o3 ?_
 exact .o2 (step_allocN (cs:=z7) (t:=29) rfl (noG rfl) (fun _ w hn k=>rfl) (fun q _ hq hb=>⟨q,rfl,hq,hb⟩))<| .off<| .off .nil
 intro i h
 simp only [List.contains_eq_mem,List.mem_cons,List.not_mem_nil,or_false,decide_eq_true_eq] at h
 subst h
 exact eager_take rfl rfl fun _ w hn k=>⟨iv 0,fun w=>v_extract rfl (k.eq1 2 46 rfl) rfl,rfl⟩
 refine aftI bA cW bz fun cc gP bB cY cZ ay ae=>?_
 have eC:=ae.fx 1 ev
 have eD:=ae.fx 2 ew
 have eE:=ae.fx 4 ex
 have eF:=ae.fx 6 ey
 have eG:=ae.fx 8 ez
 have eH:=ae.fx 9 eA
 have eI:=ae.fx 10 eB
 have cd:=ae.ge 3 49 rfl
 have ce:=ae.ge 4 50 rfl
 obtain⟨aS,cf,a7,a8⟩:=ae.G 5 11
 have c0:=bx.new_ ay
 have c1:=bw.new_ ay
 have hne250:aT ≠ aS:=by have h1:=bx.lt; have h2:=a7; omega
 have hne251:aR ≠ aS:=by have h1:=bw.lt; have h2:=a7; omega
 have gq:=Nat.le_trans bz.size a7
 have c3:=cU.new_ ay
 have c5:=cV.new_ ay
 obtain⟨eJ,ch,ci,a9,bC⟩:=s_many (P:=Tryz.prog) (t:=29) (i:=0) [iv 3,iv 1,iv 0,.bool false,sv none ([]) 0,sv none ([]) 0,iv 0] Tryz.sizeOf29 rfl rfl rfl a8 lb
 have c8:Blk eJ aS 29 [iv 3,iv 1,iv 0,.bool false,sv none ([]) 0,sv none ([]) 0,iv 0]:=ci
 refine st_act rfl rfl fun gQ c9=>a_store' rfl cf cd ch (c9 _ _ trivial ?_)
 have da:=c3.fr a8 a9
 have db:=c5.fr a8 a9
 have dc:=bC _ _ _ (hne250) c0
 have bD:=bC _ _ _ (hne251) c1
 have dd:=cZ.trans a9 (fun _ h b=>by subst b; omega)
 refine st_take rfl rfl (y_assign (v:=iv 0) rfl ce) rfl ?_
 obtain⟨eK,aa⟩:∃ a',a'=cc.put (some 12) (iv 0):=⟨_,rfl⟩
 have bE:=pz aa bB
 have de:=pd aa cY
 have eL:=pn aa eC (by decide)
 have eM:=pn aa eD (by decide)
 have eN:=pn aa eE (by decide)
 have eO:=pn aa eF (by decide)
 have eP:=pn aa eG (by decide)
 have cj:=pn aa eH (by decide)
 have eQ:=pn aa eI (by decide)
 have gR:=pn aa cd (by decide)
 have gS:=pn aa ce (by decide)
 have eR:=pn aa cf (by decide)
 have eS:eK.eval (.tmp 12)=iv 0:=by rw [aa]; exact put_same _ _ _ (by rw [bB]; decide)
 show stepsTo _ _ _ _ _ (cc.put (some 12) (iv 0)) _
 rw [← aa]
 refine st_nil (cX _ _ (wp_seq_k fun gT df=>?_))
 have bF:(decide (((joinV (cleanV (Vl.mk 5 0 0 false [] (asc ⟨#[97]⟩) 0)) (cleanV (Vl.mk 3 0 1 false [] [] 0))).2)=0))=true:=by rw [join_a1]; rfl
 have gj:=oT bF
 have dg:(sameV ((joinV (cleanV (Vl.mk 5 0 0 false [] (asc ⟨#[97]⟩) 0)) (cleanV (Vl.mk 3 0 1 false [] [] 0))).1) (Vl.mk 5 0 0 false [] (asc ⟨#[97,49]⟩) 0))=true:=by rw [join_a1]; decide +kernel
 refine wp_g0 (.replicate 49 true) [] 99
   [ve (iv ((joinV (cleanV (Vl.mk 5 0 0 false [] (asc ⟨#[97]⟩) 0)) (cleanV (Vl.mk 3 0 1 false [] [] 0))).2)),vT,vT,ve (vv (joinV (cleanV (Vl.mk 5 0 0 false [] (asc ⟨#[97]⟩) 0)) (cleanV (Vl.mk 3 0 1 false [] [] 0))).1 aH aI ba aJ),(fun (v_:Value) (W:World)=>∃ (ap:Option Addr) (aq:Nat),v_=vv (Vl.mk 5 0 0 false [] (asc ⟨#[97,49]⟩) 0) none 0 ap aq∧SRow W .u16 ap (asc ⟨#[97,49]⟩) aq),vT,vT,vT,ve (iv 1),vT,vT,vT,ve (iv 3),vT,vT,vT,ve (iv 2),vT,vT,vT,ve (iv 0),vT,vT,vT,ve (pv aR),ve (iv 2),vT,vT,vT,ve (.pointer (some ⟨aR,6,none⟩)),ve (iv 1),vT,vT,vT,ve (iv 0),vT,vT,vT,ve (.pointer (some ⟨aS,1,none⟩)),ve (.pointer (some ⟨aS,1,none⟩)),ve (iv 1),vT,vT,vT,(fun (v_:Value) (W:World)=>∃ (ar:Option Addr) (au:Nat),v_=svT ar ([⟨#[43]⟩,⟨#[45]⟩,⟨#[42]⟩,⟨#[47]⟩,⟨#[37]⟩,⟨#[38]⟩,⟨#[124]⟩,⟨#[94]⟩,⟨#[60,60]⟩,⟨#[62,62]⟩,⟨#[62,62,62]⟩,⟨#[60]⟩,⟨#[62]⟩,⟨#[60,61]⟩,⟨#[62,61]⟩,⟨#[61,61]⟩,⟨#[33,61]⟩,⟨#[61,61,61]⟩,⟨#[33,61,61]⟩]) au∧TRow W ar ([⟨#[43]⟩,⟨#[45]⟩,⟨#[42]⟩,⟨#[47]⟩,⟨#[37]⟩,⟨#[38]⟩,⟨#[124]⟩,⟨#[94]⟩,⟨#[60,60]⟩,⟨#[62,62]⟩,⟨#[62,62,62]⟩,⟨#[60]⟩,⟨#[62]⟩,⟨#[60,61]⟩,⟨#[62,61]⟩,⟨#[61,61]⟩,⟨#[33,61]⟩,⟨#[61,61,61]⟩,⟨#[33,61,61]⟩]) au),(fun (v_:Value) (W:World)=>∃ (av:Option Addr) (aw:Nat),v_=svT av ([⟨#[43]⟩,⟨#[45]⟩,⟨#[42]⟩,⟨#[47]⟩,⟨#[37]⟩,⟨#[38]⟩,⟨#[124]⟩,⟨#[94]⟩,⟨#[60,60]⟩,⟨#[62,62]⟩,⟨#[62,62,62]⟩,⟨#[60]⟩,⟨#[62]⟩,⟨#[60,61]⟩,⟨#[62,61]⟩,⟨#[61,61]⟩,⟨#[33,61]⟩,⟨#[61,61,61]⟩,⟨#[33,61,61]⟩]) aw∧TRow W av ([⟨#[43]⟩,⟨#[45]⟩,⟨#[42]⟩,⟨#[47]⟩,⟨#[37]⟩,⟨#[38]⟩,⟨#[124]⟩,⟨#[94]⟩,⟨#[60,60]⟩,⟨#[62,62]⟩,⟨#[62,62,62]⟩,⟨#[60]⟩,⟨#[62]⟩,⟨#[60,61]⟩,⟨#[62,61]⟩,⟨#[61,61]⟩,⟨#[33,61]⟩,⟨#[61,61,61]⟩,⟨#[33,61,61]⟩]) aw),vT,vT,vT] bE (.eq (.eq (.eq (.eq (.cons (fun _ _ _ n ⟨_,_,e,h⟩=>⟨_,_,e,h.new_ n⟩) (.eq (.eq (.eq (.eq (.eq (.eq (.eq (.eq (.eq (.eq (.eq (.eq (.eq (.eq (.eq (.eq (.eq (.eq (.eq (.eq (.eq (.eq (.eq (.eq (.eq (.eq (.eq (.eq (.eq (.eq (.eq (.eq (.eq (.eq (.eq (.eq (.eq (.eq (.eq (.cons (fun _ _ _ n ⟨_,_,e,h⟩=>⟨_,_,e,h.new_ n⟩) (.cons (fun _ _ _ n ⟨_,_,e,h⟩=>⟨_,_,e,h.new_ n⟩) (.eq (.eq (.eq (.nil)))))))))))))))))))))))))))))))))))))))))))))))))) ?_ ?_
 refine .m (fun k=>k.fx 2 eM)<| .t (fun _ w hn k=>⟨_,v_bin rfl (k.eq1 0 51 rfl) rfl (fun _=>rfl) (r_eql bF),rfl⟩)<| .m (fun k=>k.eq1 1 52 rfl)<| .g (fun k=>k.eq1 2 53 rfl) (fun _ w hn k=>⟨_,v_load rfl (k.fx 1 eL) (l_agg Tryz.isAgg29 Tryz.sizeOf29 (dc.new_ hn) rfl),rfl⟩) ?_
 refine .o1 (tkC rfl (onG rfl rfl fun _ _ k=>k.eq1 2 53 rfl) rfl fun _ w hn k=>(by
       refine ⟨#[.string ⟨#[97,49]⟩],_,args1 rfl,fun w=>by kernel_rfl,ostr_c ⟨#[97,49]⟩ _ (by first|omega|(show (_:Nat)≤_; decide)),?_⟩
       rintro e w' ⟨eT,eU,rfl,hmo0,hm⟩
       exact⟨_,rfl,hm,⟨eT,eU,rfl,hmo0⟩⟩)) ?_
 refine .o1 (tkC rfl (onG rfl rfl fun _ _ k=>k.eq1 2 53 rfl) rfl fun _ w hn k=>(by
       obtain⟨eV,eW,eX,dh⟩:(fun (v_:Value) (W:World)=>∃ (ap:Option Addr) (aq:Nat),v_=vv (Vl.mk 5 0 0 false [] (asc ⟨#[97,49]⟩) 0) none 0 ap aq∧SRow W .u16 ap (asc ⟨#[97,49]⟩) aq) _ _:=k.dep 4 55 (by kernel_rfl) (by kernel_rfl)
       refine ⟨#[vv (joinV (cleanV (Vl.mk 5 0 0 false [] (asc ⟨#[97]⟩) 0)) (cleanV (Vl.mk 3 0 1 false [] [] 0))).1 aH aI ba aJ,vv (Vl.mk 5 0 0 false [] (asc ⟨#[97,49]⟩) 0) none 0 eV eW],_,args2 (k.eq1 3 54 rfl) eX,fun w=>by kernel_rfl,vsame_c ((joinV (cleanV (Vl.mk 5 0 0 false [] (asc ⟨#[97]⟩) 0)) (cleanV (Vl.mk 3 0 1 false [] [] 0))).1) _ _ _ _ (Vl.mk 5 0 0 false [] (asc ⟨#[97,49]⟩) 0) _ _ _ _ _ (da.new_ hn) (db.new_ hn) (SRow.nil _ _) dh,?_⟩
       rintro e w' ⟨rfl,hm⟩
       exact⟨_,rfl,hm,congrArg Value.bool dg⟩)) ?_
 refine .t (fun _ w hn k=>⟨_,v_pickT rfl (k.eq1 2 53 rfl) (k.eq1 5 56 rfl),rfl⟩)<| .m (fun k=>k.eq1 6 57 rfl)<| .gm (fun k=>k.eq1 7 58 rfl) (fun k=>k.fx 4 eN)<| .g (fun k=>k.eq1 7 58 rfl) (fun _ w hn k=>⟨_,v_bin rfl (k.eq1 8 59 rfl) rfl (fun _=>rfl) (fun w=>by kernel_rfl),rfl⟩)<| .t (fun _ w hn k=>⟨_,v_pickT rfl (k.eq1 7 58 rfl) (k.eq1 9 60 rfl),rfl⟩)<| .m (fun k=>k.eq1 10 61 rfl)<| .gm (fun k=>k.eq1 11 62 rfl) (fun k=>k.fx 6 eO)<| .g (fun k=>k.eq1 11 62 rfl) (fun _ w hn k=>⟨_,v_bin rfl (k.eq1 12 63 rfl) rfl (fun _=>rfl) (fun w=>by kernel_rfl),rfl⟩)<| .t (fun _ w hn k=>⟨_,v_pickT rfl (k.eq1 11 62 rfl) (k.eq1 13 64 rfl),rfl⟩)<| .m (fun k=>k.eq1 14 65 rfl)<| .gm (fun k=>k.eq1 15 66 rfl) (fun k=>k.fx 8 eP)<| .g (fun k=>k.eq1 15 66 rfl) (fun _ w hn k=>⟨_,v_bin rfl (k.eq1 16 67 rfl) rfl (fun _=>rfl) (fun w=>by kernel_rfl),rfl⟩)<| .t (fun _ w hn k=>⟨_,v_pickT rfl (k.eq1 15 66 rfl) (k.eq1 17 68 rfl),rfl⟩)<| .m (fun k=>k.eq1 18 69 rfl)<| .gm (fun k=>k.eq1 19 70 rfl) (fun k=>k.fx 10 eQ)<| .g (fun k=>k.eq1 19 70 rfl) (fun _ w hn k=>⟨_,v_bin rfl (k.eq1 20 71 rfl) rfl (fun _=>rfl) (fun w=>by kernel_rfl),rfl⟩)<| .t (fun _ w hn k=>⟨_,v_pickT rfl (k.eq1 19 70 rfl) (k.eq1 21 72 rfl),rfl⟩)<| .m (fun k=>k.eq1 22 73 rfl)<| .gf (fun k=>k.eq1 23 74 rfl) (fun k=>k.fx 9 cj)<| .g (fun k=>k.eq1 23 74 rfl) (fun _ w hn k=>⟨_,v_load rfl (k.eq1 24 75 rfl) (l_one Tryz.isAgg3 ((bD.new_ hn).cell 0)),rfl⟩)<| .g (fun k=>k.eq1 23 74 rfl) (fun _ w hn k=>⟨_,v_bin rfl (k.eq1 25 76 rfl) rfl (fun _=>rfl) (fun w=>by kernel_rfl),rfl⟩)<| .t (fun _ w hn k=>⟨_,v_pickT rfl (k.eq1 23 74 rfl) (k.eq1 26 77 rfl),rfl⟩)<| .m (fun k=>k.eq1 27 78 rfl)<| .gf (fun k=>k.eq1 28 79 rfl) (fun k=>k.fx 9 cj)<| .g (fun k=>k.eq1 28 79 rfl) (fun _ w hn k=>⟨_,v_load rfl (k.eq1 29 80 rfl) (l_one Tryz.isAgg3 ((bD.new_ hn).cell 6)),rfl⟩)<| .g (fun k=>k.eq1 28 79 rfl) (fun _ w hn k=>⟨_,v_bin rfl (k.eq1 30 81 rfl) rfl (fun _=>rfl) (fun w=>by kernel_rfl),rfl⟩)<| .t (fun _ w hn k=>⟨_,v_pickT rfl (k.eq1 28 79 rfl) (k.eq1 31 82 rfl),rfl⟩)<| .m (fun k=>k.eq1 32 83 rfl)<| .gm (fun k=>k.eq1 33 84 rfl) (fun k=>k.fx 12 eS)<| .g (fun k=>k.eq1 33 84 rfl) (fun _ w hn k=>⟨_,v_bin rfl (k.eq1 34 85 rfl) rfl (fun _=>rfl) (fun w=>by kernel_rfl),rfl⟩)<| .t (fun _ w hn k=>⟨_,v_pickT rfl (k.eq1 33 84 rfl) (k.eq1 35 86 rfl),rfl⟩)<| .m (fun k=>k.eq1 36 87 rfl)<| .gf (fun k=>k.eq1 37 88 rfl) (fun k=>k.fx 11 eR)<| .gf (fun k=>k.eq1 37 88 rfl) (fun k=>k.eq1 38 89 rfl)<| .g (fun k=>k.eq1 37 88 rfl) (fun _ w hn k=>⟨_,v_load rfl (k.eq1 39 90 rfl) (l_one Tryz.isAgg3 ((c8.new_ hn).cell 1)),rfl⟩)<| .g (fun k=>k.eq1 37 88 rfl) (fun _ w hn k=>⟨_,v_bin rfl (k.eq1 40 91 rfl) rfl (fun _=>rfl) (fun w=>by kernel_rfl),rfl⟩)<| .t (fun _ w hn k=>⟨_,v_pickT rfl (k.eq1 37 88 rfl) (k.eq1 41 92 rfl),rfl⟩)<| .m (fun k=>k.eq1 42 93 rfl) ?_
 refine .o1 (tkC rfl (onG rfl rfl fun _ _ k=>k.eq1 43 94 rfl) rfl fun _ w hn k=>(by
       refine ⟨#[],_,rfl,fun w=>by kernel_rfl,ops_c  _ ,?_⟩
       rintro e w' ⟨eY,eZ,rfl,hmo0,hm⟩
       exact⟨_,rfl,hm,⟨eY,eZ,rfl,hmo0⟩⟩)) ?_
 refine .o1 (tkC rfl (onG rfl rfl fun _ _ k=>k.eq1 43 94 rfl) rfl fun _ w hn k=>(by
       refine ⟨#[],_,rfl,fun w=>by kernel_rfl,rops_c  _ ,?_⟩
       rintro e w' ⟨e0,e1,rfl,hmo0,hm⟩
       exact⟨_,rfl,hm,⟨e0,e1,rfl,hmo0⟩⟩)) ?_
 refine .o1 (tkC rfl (onG rfl rfl fun _ _ k=>k.eq1 43 94 rfl) rfl fun _ w hn k=>(by
       obtain⟨e2,e3,e4,di⟩:(fun (v_:Value) (W:World)=>∃ (ar:Option Addr) (au:Nat),v_=svT ar ([⟨#[43]⟩,⟨#[45]⟩,⟨#[42]⟩,⟨#[47]⟩,⟨#[37]⟩,⟨#[38]⟩,⟨#[124]⟩,⟨#[94]⟩,⟨#[60,60]⟩,⟨#[62,62]⟩,⟨#[62,62,62]⟩,⟨#[60]⟩,⟨#[62]⟩,⟨#[60,61]⟩,⟨#[62,61]⟩,⟨#[61,61]⟩,⟨#[33,61]⟩,⟨#[61,61,61]⟩,⟨#[33,61,61]⟩]) au∧TRow W ar ([⟨#[43]⟩,⟨#[45]⟩,⟨#[42]⟩,⟨#[47]⟩,⟨#[37]⟩,⟨#[38]⟩,⟨#[124]⟩,⟨#[94]⟩,⟨#[60,60]⟩,⟨#[62,62]⟩,⟨#[62,62,62]⟩,⟨#[60]⟩,⟨#[62]⟩,⟨#[60,61]⟩,⟨#[62,61]⟩,⟨#[61,61]⟩,⟨#[33,61]⟩,⟨#[61,61,61]⟩,⟨#[33,61,61]⟩]) au) _ _:=k.dep 44 95 (by kernel_rfl) (by kernel_rfl)
       obtain⟨e5,e6,e8,dj⟩:(fun (v_:Value) (W:World)=>∃ (av:Option Addr) (aw:Nat),v_=svT av ([⟨#[43]⟩,⟨#[45]⟩,⟨#[42]⟩,⟨#[47]⟩,⟨#[37]⟩,⟨#[38]⟩,⟨#[124]⟩,⟨#[94]⟩,⟨#[60,60]⟩,⟨#[62,62]⟩,⟨#[62,62,62]⟩,⟨#[60]⟩,⟨#[62]⟩,⟨#[60,61]⟩,⟨#[62,61]⟩,⟨#[61,61]⟩,⟨#[33,61]⟩,⟨#[61,61,61]⟩,⟨#[33,61,61]⟩]) aw∧TRow W av ([⟨#[43]⟩,⟨#[45]⟩,⟨#[42]⟩,⟨#[47]⟩,⟨#[37]⟩,⟨#[38]⟩,⟨#[124]⟩,⟨#[94]⟩,⟨#[60,60]⟩,⟨#[62,62]⟩,⟨#[62,62,62]⟩,⟨#[60]⟩,⟨#[62]⟩,⟨#[60,61]⟩,⟨#[62,61]⟩,⟨#[61,61]⟩,⟨#[33,61]⟩,⟨#[61,61,61]⟩,⟨#[33,61,61]⟩]) aw) _ _:=k.dep 45 96 (by kernel_rfl) (by kernel_rfl)
       refine ⟨#[svT e2 ([⟨#[43]⟩,⟨#[45]⟩,⟨#[42]⟩,⟨#[47]⟩,⟨#[37]⟩,⟨#[38]⟩,⟨#[124]⟩,⟨#[94]⟩,⟨#[60,60]⟩,⟨#[62,62]⟩,⟨#[62,62,62]⟩,⟨#[60]⟩,⟨#[62]⟩,⟨#[60,61]⟩,⟨#[62,61]⟩,⟨#[61,61]⟩,⟨#[33,61]⟩,⟨#[61,61,61]⟩,⟨#[33,61,61]⟩]) e3,svT e5 ([⟨#[43]⟩,⟨#[45]⟩,⟨#[42]⟩,⟨#[47]⟩,⟨#[37]⟩,⟨#[38]⟩,⟨#[124]⟩,⟨#[94]⟩,⟨#[60,60]⟩,⟨#[62,62]⟩,⟨#[62,62,62]⟩,⟨#[60]⟩,⟨#[62]⟩,⟨#[60,61]⟩,⟨#[62,61]⟩,⟨#[61,61]⟩,⟨#[33,61]⟩,⟨#[61,61,61]⟩,⟨#[33,61,61]⟩]) e6],_,args2 e4 e8,fun w=>by kernel_rfl,texts_c _ ([⟨#[43]⟩,⟨#[45]⟩,⟨#[42]⟩,⟨#[47]⟩,⟨#[37]⟩,⟨#[38]⟩,⟨#[124]⟩,⟨#[94]⟩,⟨#[60,60]⟩,⟨#[62,62]⟩,⟨#[62,62,62]⟩,⟨#[60]⟩,⟨#[62]⟩,⟨#[60,61]⟩,⟨#[62,61]⟩,⟨#[61,61]⟩,⟨#[33,61]⟩,⟨#[61,61,61]⟩,⟨#[33,61,61]⟩]) _ _ ([⟨#[43]⟩,⟨#[45]⟩,⟨#[42]⟩,⟨#[47]⟩,⟨#[37]⟩,⟨#[38]⟩,⟨#[124]⟩,⟨#[94]⟩,⟨#[60,60]⟩,⟨#[62,62]⟩,⟨#[62,62,62]⟩,⟨#[60]⟩,⟨#[62]⟩,⟨#[60,61]⟩,⟨#[62,61]⟩,⟨#[61,61]⟩,⟨#[33,61]⟩,⟨#[61,61,61]⟩,⟨#[33,61,61]⟩]) _ _ di dj rfl,?_⟩
       rintro e w' ⟨rfl,hm⟩
       exact⟨_,rfl,hm,rfl⟩)) ?_
 exact .t (fun _ w hn k=>⟨_,v_pickT rfl (k.eq1 43 94 rfl) (k.eq1 46 97 rfl),rfl⟩)<| .a (fun k=>k.eq1 47 98 rfl) .nil
 refine aftI bE de dd fun gU gV gr dk dl gs dm=>?_
 have e9:=dm.ge 48 0 rfl
 refine st_nil (df _ _ ?_)
 refine wp_ret (ret_k dk (v:=.bool true) (res_t rfl e9 _) ?_)
 exact⟨rfl,dl⟩
theorem as_of {a:Nm} (h:nmayB a=true):asM a=a:=by unfold asM; rw [if_pos h]
theorem bigV_numeric {b:Bool} {m:List Nat} (h:mayB b m=true):cleanV ⟨4,0,0,b,m,[],0⟩=⟨4,0,0,b,m,[],0⟩∧numericV ⟨4,0,0,b,m,[],0⟩=(⟨4,0,0,b,m,[],0⟩,0):=by
  have h1:mayV ⟨4,0,0,b,m,[],0⟩=true:=by unfold mayV; simp [zeroV,h]
  refine ⟨clean_of h1,?_⟩
  unfold numericV
  rw [clean_of h1]
  rfl
def fewV (o:ByteArray) (v u:Vl):Bool:=(((decide ((o.size:Int)≤100)) && (decide ((v.s.length:Int)≤20000) && decide ((v.mag.length:Int)≤40))) && (decide ((u.s.length:Int)≤20000) && decide ((u.mag.length:Int)≤40)))
theorem few_two {o:ByteArray} {v u:Vl} (h:fewV o v u=true):(decide ((v.s.length:Int)≤20000) && decide ((v.mag.length:Int)≤40))=true∧(decide ((u.s.length:Int)≤20000) && decide ((u.mag.length:Int)≤40))=true∧(o.size:Int)≤100:=by
  unfold fewV at h
  simp only [Bool.and_eq_true] at h
  exact⟨by simp only [Bool.and_eq_true]; exact h.1.2,by simp only [Bool.and_eq_true]; exact h.2,of_decide_eq_true h.1.1⟩

theorem cmpU_symm:∀ a b:List Nat,cmpU b a = -cmpU a b
  | [],[]=>rfl
  | [],_ :: _=>rfl
  | _ :: _,[]=>rfl
  | x :: a,y :: b=>by
    show (if y < x then (-1:Int) else if x < y then 1 else cmpU b a) = -(if x < y then (-1:Int) else if y < x then 1 else cmpU a b)
    by_cases h1:x < y
    · have h2:¬ y < x:=by omega
      simp [h1,h2]
    · by_cases h2:y < x
      · simp [h1,h2]
      · simp [h1,h2]; exact cmpU_symm a b
theorem cmpU_eq:∀ a b:List Nat,cmpU a b=0 ↔ a=b
  | [],[]=>by simp [cmpU]
  | [],_ :: _=>by simp [cmpU]
  | _ :: _,[]=>by simp [cmpU]
  | x :: a,y :: b=>by
    show (if x < y then (-1:Int) else if y < x then 1 else cmpU a b)=0 ↔ _
    by_cases h1:x < y
    · simp [h1]; omega
    · by_cases h2:y < x
      · simp [h1,h2]; omega
      · have h3:x=y:=by omega
        simp [h3]; exact cmpU_eq a b
theorem cmpU_trans:∀ a b c:List Nat,cmpU a b < 0→cmpU b c < 0→cmpU a c < 0
  | [],[],_,h,_=>by simp [cmpU] at h
  | [],_ :: _,[],_,h=>by simp [cmpU] at h
  | [],_ :: _,_ :: _,_,_=>by simp [cmpU]
  | _ :: _,[],_,h,_=>by simp [cmpU] at h
  | _ :: _,_ :: _,[],_,h=>by simp [cmpU] at h
  | x :: a,y :: b,z :: c,h,k=>by
    change (if x < y then (-1:Int) else if y < x then 1 else cmpU a b) < 0 at h
    change (if y < z then (-1:Int) else if z < y then 1 else cmpU b c) < 0 at k
    show (if x < z then (-1:Int) else if z < x then 1 else cmpU a c) < 0
    by_cases h1:x < y
    · rw [if_pos h1] at h
      by_cases h2:y < z
      · rw [if_pos (by omega)]; decide
      · rw [if_neg h2] at k
        by_cases h3:z < y
        · rw [if_pos h3] at k; simp at k
        · rw [if_pos (by omega)]; decide
    · rw [if_neg h1] at h
      by_cases h2:y < x
      · rw [if_pos h2] at h; simp at h
      · rw [if_neg h2] at h
        by_cases h3:y < z
        · rw [if_pos (by omega)]; decide
        · rw [if_neg h3] at k
          by_cases h4:z < y
          · rw [if_pos h4] at k; simp at k
          · rw [if_neg h4] at k
            rw [if_neg (by omega),if_neg (by omega)]
            exact cmpU_trans a b c h k
/-- kinds 3,4,5 -/
def Kind3 (v:Vl):Prop:=v.k=3 ∨ v.k=4 ∨ v.k=5
theorem may_text {v:Vl} (h:mayV v=true) (hk:v.k=5):v=⟨5,0,0,false,[],v.s,0⟩:=by
  unfold mayV zeroV at h
  obtain⟨k,nk,nn,neg,mag,s,ref⟩:=v
  simp only at hk
  subst hk
  simp at h
  obtain⟨⟨⟨⟨⟨rfl,rfl⟩,rfl⟩,rfl⟩,rfl⟩,-⟩:=h
  rfl
theorem three_cases {v:Vl} (h:mayV v=true) (hp:Kind3 v):(∃ a,v=numVl a∧nmayB a=true) ∨ (∃ b m,v=⟨4,0,0,b,m,[],0⟩∧mayB b m=true) ∨ (∃ s,v=⟨5,0,0,false,[],s,0⟩):=by
  rcases hp with hk|hk|hk
  · obtain⟨h1,h2⟩:=may_num h hk
    left
    exact⟨v.num,h2,h1⟩
  · obtain⟨h1,h2⟩:=may_big h hk
    right; left
    exact⟨v.neg,v.mag,h2,h1⟩
  · right; right
    exact⟨v.s,may_text h hk⟩
def nanV (v u:Vl):Bool:=decide (v.k=3) && (decide (v.nk=2) || decide (u.nk=2))
/-- how two of a kind lie -/
def cmpV (v u:Vl):Int:=if v.k=3 then rankM v.num - rankM u.num else if v.k=4 then goodI v.neg v.mag - goodI u.neg u.mag else cmpU v.s u.s
theorem cmpZ_lt (x y:Int):decide (cmpZ x y < 0)=decide (x - y < 0)∧decide (cmpZ y x < 0)=decide (0 < x - y):=by
  unfold cmpZ
  by_cases h1:x < y
  · have h2:¬ y < x:=by omega
    simp [h1,h2]; omega
  · by_cases h2:y < x
    · simp [h1,h2]; omega
    · simp [h1,h2]; omega
theorem order_num {a b:Nm} (ha:nmayB a=true) (hb:nmayB b=true) (n:Bool) :
    ((orderO (numVl a) (numVl b)).2 && (decide ((orderO (numVl a) (numVl b)).1 < 0) != n))=((!(decide (a.k=2) || decide (b.k=2))) && (decide (rankM a - rankM b < 0) != n)):=by
  have e:orderO (numVl a) (numVl b)=if lessM a b then (-1,true) else if equalM a b then (0,true) else (1,lessM b a):=rfl
  rw [e]
  unfold lessM equalM lessA equalA
  rw [as_of ha,as_of hb]
  by_cases h1:a.k=2
  · simp [h1]
  · by_cases h2:b.k=2
    · simp [h1,h2]
    · by_cases h3:rankM a < rankM b
      · have h4:rankM a - rankM b < 0:=by omega
        simp [h1,h2,h3,h4]
      · have h4:¬ rankM a - rankM b < 0:=by omega
        by_cases h5:rankM a=rankM b
        · simp [h1,h2,h5]
        · have h6:rankM b < rankM a:=by omega
          simp [h1,h2,h3,h4,h5,h6]
theorem order_big (b c:Bool) (m l:List Nat) (n:Bool):((orderO ⟨4,0,0,b,m,[],0⟩ ⟨4,0,0,c,l,[],0⟩).2 && (decide ((orderO ⟨4,0,0,b,m,[],0⟩ ⟨4,0,0,c,l,[],0⟩).1 < 0) != n))=(decide (cmpZ (goodI b m) (goodI c l) < 0) != n):=by
  have e:orderO ⟨4,0,0,b,m,[],0⟩ ⟨4,0,0,c,l,[],0⟩=(cmpZ (goodI b m) (goodI c l),true):=rfl
  rw [e,Bool.true_and]
theorem good_inj {b c:Bool} {m l:List Nat} (h:mayB b m=true) (h2:mayB c l=true) (hm:Limbs m) (hl:Limbs l) (e:goodI b m=goodI c l):b=c∧m=l:=by
  have e1:=neg_good (b:=b) hm
  have e2:=neg_good (b:=c) hl
  have e3:=canon_good (b:=b) hm
  have e4:=canon_good (b:=c) hl
  rw [e,h,Bool.true_and] at e1
  rw [h2,Bool.true_and] at e2
  rw [e,if_pos h] at e3
  rw [if_pos h2] at e4
  exact⟨e1.symm.trans e2,e3.symm.trans e4⟩
theorem less_all {v u:Vl} (hv:mayV v=true) (hu:mayV u=true) (hk:v.k=u.k) (h3:Kind3 v) (ov:VOk v) (ou:VOk u) :
    (∀ n,lessT (cleanV v) (cleanV u) false n=(2,truthR ((!(nanV v u)) && (decide (cmpV v u < 0) != n)),0)) ∧
    (∀ n,lessT (cleanV v) (cleanV u) true n=(2,truthR ((!(nanV v u)) && (decide (0 < cmpV v u) != n)),0)) ∧
    strictV v u=((!(nanV v u)) && decide (cmpV v u=0)):=by
  have h4:Kind3 u:=by unfold Kind3 at h3 ⊢; rw [← hk]; exact h3
  rcases three_cases hv h3 with ⟨a,rfl,ha⟩|⟨b,m,rfl,hb⟩|⟨s,rfl⟩ <;> rcases three_cases hu h4 with ⟨a',rfl,ha'⟩|⟨b',m',rfl,hb'⟩|⟨s',rfl⟩
  · refine ⟨fun n=>?_,fun n=>?_,?_⟩
    · have e:lessT (cleanV (numVl a)) (cleanV (numVl a')) false n=(2,truthR ((orderO (numVl a) (numVl a')).2 && (decide ((orderO (numVl a) (numVl a')).1 < 0) != n)),0):=by
        unfold lessT
        rw [num_clean ha,num_clean ha',num_numeric ha,num_numeric ha']
        rfl
      rw [e,order_num ha ha']
      rfl
    · have e:lessT (cleanV (numVl a)) (cleanV (numVl a')) true n=(2,truthR ((orderO (numVl a') (numVl a)).2 && (decide ((orderO (numVl a') (numVl a)).1 < 0) != n)),0):=by
        unfold lessT
        rw [num_clean ha,num_clean ha',num_numeric ha,num_numeric ha']
        rfl
      rw [e,order_num ha' ha,Bool.or_comm,show decide (rankM a' - rankM a < 0)=decide (0 < rankM a - rankM a') from decide_eq_decide.2 (by omega)]
      rfl
    · unfold strictV
      rw [num_clean ha,num_clean ha']
      show equalM a a'=((!(decide (a.k=2) || decide (a'.k=2))) && decide (rankM a - rankM a'=0))
      unfold equalM equalA
      rw [as_of ha,as_of ha',Bool.not_or,show decide (rankM a - rankM a'=0)=decide (rankM a=rankM a') from decide_eq_decide.2 (by omega)]
  · cases hk
  · cases hk
  · cases hk
  · have c1:=cmpZ_lt (goodI b m) (goodI b' m')
    refine ⟨fun n=>?_,fun n=>?_,?_⟩
    · have e:lessT (cleanV ⟨4,0,0,b,m,[],0⟩) (cleanV ⟨4,0,0,b',m',[],0⟩) false n=(2,truthR ((orderO ⟨4,0,0,b,m,[],0⟩ ⟨4,0,0,b',m',[],0⟩).2 && (decide ((orderO ⟨4,0,0,b,m,[],0⟩ ⟨4,0,0,b',m',[],0⟩).1 < 0) != n)),0):=by
        unfold lessT
        rw [(bigV_numeric hb).1,(bigV_numeric hb').1,(bigV_numeric hb).2,(bigV_numeric hb').2]
        rfl
      rw [e,order_big,c1.1]
      rfl
    · have e:lessT (cleanV ⟨4,0,0,b,m,[],0⟩) (cleanV ⟨4,0,0,b',m',[],0⟩) true n=(2,truthR ((orderO ⟨4,0,0,b',m',[],0⟩ ⟨4,0,0,b,m,[],0⟩).2 && (decide ((orderO ⟨4,0,0,b',m',[],0⟩ ⟨4,0,0,b,m,[],0⟩).1 < 0) != n)),0):=by
        unfold lessT
        rw [(bigV_numeric hb).1,(bigV_numeric hb').1,(bigV_numeric hb).2,(bigV_numeric hb').2]
        rfl
      rw [e,order_big,c1.2]
      rfl
    · unfold strictV
      rw [(bigV_numeric hb).1,(bigV_numeric hb').1]
      show sameV _ _=decide (goodI b m - goodI b' m'=0)
      by_cases hz:goodI b m=goodI b' m'
      · obtain⟨rfl,rfl⟩:=good_inj hb hb' ov.limbs ou.limbs hz
        simp [sameV]
      · have hz':¬ goodI b m - goodI b' m'=0:=by omega
        rw [decide_eq_false hz']
        cases hs:sameV ⟨4,0,0,b,m,[],0⟩ ⟨4,0,0,b',m',[],0⟩ with
        | false=>rfl
        | true =>
          have:=sameV_eq hs
          injection this with _ _ _ e1 e2
          subst e1 e2
          exact absurd rfl hz
  · cases hk
  · cases hk
  · cases hk
  · have e1:cleanV ⟨5,0,0,false,[],s,0⟩=⟨5,0,0,false,[],s,0⟩:=clean_of hv
    have e2:cleanV ⟨5,0,0,false,[],s',0⟩=⟨5,0,0,false,[],s',0⟩:=clean_of hu
    refine ⟨fun n=>?_,fun n=>?_,?_⟩
    · unfold lessT
      rw [e1,e2]
      rfl
    · unfold lessT
      rw [e1,e2]
      show (2,truthR (decide (cmpU s' s < 0) != n),0)=(2,truthR (decide (0 < cmpU s s') != n),0)
      rw [cmpU_symm s s',show decide (-cmpU s s' < 0)=decide (0 < cmpU s s') from decide_eq_decide.2 (by omega)]
    · unfold strictV
      rw [e1,e2]
      show sameV _ _=decide (cmpU s s'=0)
      by_cases hz:s=s'
      · subst hz
        rw [decide_eq_true ((cmpU_eq s s).2 rfl)]
        simp [sameV]
      · rw [decide_eq_false (fun h=>hz ((cmpU_eq s s').1 h))]
        simp [sameV,hz]
theorem cmpV_trans {v u x:Vl} (h1:v.k=u.k) (h2:u.k=x.k) (h3:cmpV v u < 0) (h4:cmpV u x < 0):cmpV v x < 0:=by
  unfold cmpV at *
  rw [← h1] at h4
  by_cases h5:v.k=3
  · rw [if_pos h5] at *; omega
  · by_cases h6:v.k=4
    · rw [if_neg h5,if_pos h6] at *; omega
    · rw [if_neg h5,if_neg h6] at *
      exact cmpU_trans _ _ _ h3 h4
theorem truthR_one (b:Bool):decide (truthR b=1)=b:=by cases b <;> rfl
theorem truthR_bd (b:Bool):0≤truthR b∧truthR b≤1:=by cases b <;> decide
def ltB (v u:Vl):Bool:=(!(nanV v u)) && decide (cmpV v u < 0)
def gtB (v u:Vl):Bool:=(!(nanV v u)) && decide (0 < cmpV v u)
def leB (v u:Vl):Bool:=(!(nanV v u)) && !decide (0 < cmpV v u)
def stB (v u:Vl):Bool:=(!(nanV v u)) && decide (cmpV v u=0)
theorem less_lt {v u:Vl} (hv:mayV v=true) (hu:mayV u=true) (hk:v.k=u.k) (h3:Kind3 v) (ov:VOk v) (ou:VOk u):lessT (cleanV v) (cleanV u) false false=(2,truthR (ltB v u),0):=by
  rw [(less_all hv hu hk h3 ov ou).1,Bool.bne_false]; rfl
theorem less_gt {v u:Vl} (hv:mayV v=true) (hu:mayV u=true) (hk:v.k=u.k) (h3:Kind3 v) (ov:VOk v) (ou:VOk u):lessT (cleanV v) (cleanV u) true false=(2,truthR (gtB v u),0):=by
  rw [(less_all hv hu hk h3 ov ou).2.1,Bool.bne_false]; rfl
theorem less_le {v u:Vl} (hv:mayV v=true) (hu:mayV u=true) (hk:v.k=u.k) (h3:Kind3 v) (ov:VOk v) (ou:VOk u):lessT (cleanV v) (cleanV u) true true=(2,truthR (leB v u),0):=by
  rw [(less_all hv hu hk h3 ov ou).2.1,Bool.bne_true]; rfl
theorem less_st {v u:Vl} (hv:mayV v=true) (hu:mayV u=true) (hk:v.k=u.k) (h3:Kind3 v) (ov:VOk v) (ou:VOk u):strictV (cleanV v) (cleanV u)=stB v u:=by
  rw [clean_of hv,clean_of hu]; exact (less_all hv hu hk h3 ov ou).2.2
theorem kind3_of {v:Vl} (h1:decide (v.k < 3)=false) (h2:(!decide (v.k≤5))=false):Kind3 v:=by
  simp at h1 h2
  unfold Kind3; omega
theorem kind3_eq {v u:Vl} (h:Kind3 v) (e:v.k=u.k):Kind3 u:=by unfold Kind3 at h ⊢; rw [← e]; exact h
theorem lt_trans3 {v u x:Vl} (hk:v.k=u.k) (hj:u.k=x.k):(((decide (truthR (ltB v u)=1)) && (decide (truthR (ltB u x)=1))) && (!decide (truthR (ltB v x)=1)))=false:=by
  simp only [truthR_one]
  cases h1:ltB v u with
  | false=>rfl
  | true =>
    cases h2:ltB u x with
    | false=>rfl
    | true =>
      unfold ltB at h1 h2 ⊢
      simp only [Bool.and_eq_true,Bool.not_eq_true',decide_eq_true_eq] at h1 h2
      have h3:=cmpV_trans hk hj h1.2 h2.2
      have h4:nanV v x=false:=by
        have n1:=h1.1; have n2:=h2.1
        unfold nanV at n1 n2 ⊢
        rw [← hk] at n2
        by_cases h5:v.k=3 <;> simp_all
      rw [h4,decide_eq_true h3]; rfl
theorem less_leaf (v u:Vl):((((decide (v.k=3)) && ((decide (v.nk=2)) || (decide (u.nk=2)))) && (decide ((((truthR (ltB v u) + truthR (gtB v u)) + truthR (stB v u)) + truthR (leB v u))=0))) || (((!((decide (v.k=3)) && ((decide (v.nk=2)) || (decide (u.nk=2))))) && (decide (((truthR (ltB v u) + truthR (gtB v u)) + truthR (stB v u))=1))) && (decide (truthR (leB v u)=1 - truthR (gtB v u)))))=true:=by
  rw [show ((decide (v.k=3)) && ((decide (v.nk=2)) || (decide (u.nk=2))))=nanV v u from rfl]
  unfold ltB gtB leB stB
  cases nanV v u with
  | true=>rfl
  | false =>
    by_cases h1:cmpV v u < 0
    · have h2:¬ 0 < cmpV v u:=by omega
      have h3:¬ cmpV v u=0:=by omega
      simp [h1,h2,h3,truthR]
    · by_cases h2:0 < cmpV v u
      · have h3:¬ cmpV v u=0:=by omega
        simp [h1,h2,h3,truthR]
      · have h3:cmpV v u=0:=by omega
        simp [h1,h2,h3,truthR]

theorem lt_l (v:Vl) (A0:Option Addr) (c0:Nat) (B0:Option Addr) (d0:Nat) (u:Vl) (A1:Option Addr) (c1:Nat) (B1:Option Addr) (d1:Nat) (w:World) (hm0:SRow w .u32 A0 v.mag c0) (hs0:SRow w .u16 B0 v.s d0) (hm1:SRow w .u32 A1 u.mag c1) (hs1:SRow w .u16 B1 u.s d1) (ov:VOk v) (ou:VOk u) (hv:mayV v=true) (hu:mayV u=true) (hk:v.k=u.k) (h3:Kind3 v):Calls Tryz.prog 12 #[.string ⟨#[60]⟩,vv v A0 c0 B0 d0,vv u A1 c1 B1 d1] w (IsRet (.tuple #[.agg #[iv 2,iv 0,iv 0,.bool false,sv none [] 0,sv none [] 0,iv (truthR (ltB v u))],iv 0]) w):=by
  have h:=binLt_c v A0 c0 B0 d0 u A1 c1 B1 d1 w hm0 hs0 hm1 hs1 ov ou
  rw [less_lt hv hu hk h3 ov ou] at h
  exact h
theorem gt_l (v:Vl) (A0:Option Addr) (c0:Nat) (B0:Option Addr) (d0:Nat) (u:Vl) (A1:Option Addr) (c1:Nat) (B1:Option Addr) (d1:Nat) (w:World) (hm0:SRow w .u32 A0 v.mag c0) (hs0:SRow w .u16 B0 v.s d0) (hm1:SRow w .u32 A1 u.mag c1) (hs1:SRow w .u16 B1 u.s d1) (ov:VOk v) (ou:VOk u) (hv:mayV v=true) (hu:mayV u=true) (hk:v.k=u.k) (h3:Kind3 v):Calls Tryz.prog 12 #[.string ⟨#[62]⟩,vv v A0 c0 B0 d0,vv u A1 c1 B1 d1] w (IsRet (.tuple #[.agg #[iv 2,iv 0,iv 0,.bool false,sv none [] 0,sv none [] 0,iv (truthR (gtB v u))],iv 0]) w):=by
  have h:=binGt_c v A0 c0 B0 d0 u A1 c1 B1 d1 w hm0 hs0 hm1 hs1 ov ou
  rw [less_gt hv hu hk h3 ov ou] at h
  exact h
theorem le_l (v:Vl) (A0:Option Addr) (c0:Nat) (B0:Option Addr) (d0:Nat) (u:Vl) (A1:Option Addr) (c1:Nat) (B1:Option Addr) (d1:Nat) (w:World) (hm0:SRow w .u32 A0 v.mag c0) (hs0:SRow w .u16 B0 v.s d0) (hm1:SRow w .u32 A1 u.mag c1) (hs1:SRow w .u16 B1 u.s d1) (ov:VOk v) (ou:VOk u) (hv:mayV v=true) (hu:mayV u=true) (hk:v.k=u.k) (h3:Kind3 v):Calls Tryz.prog 12 #[.string ⟨#[60,61]⟩,vv v A0 c0 B0 d0,vv u A1 c1 B1 d1] w (IsRet (.tuple #[.agg #[iv 2,iv 0,iv 0,.bool false,sv none [] 0,sv none [] 0,iv (truthR (leB v u))],iv 0]) w):=by
  have h:=binLe_c v A0 c0 B0 d0 u A1 c1 B1 d1 w hm0 hs0 hm1 hs1 ov ou
  rw [less_le hv hu hk h3 ov ou] at h
  exact h
theorem st_l (v:Vl) (A0:Option Addr) (c0:Nat) (B0:Option Addr) (d0:Nat) (u:Vl) (A1:Option Addr) (c1:Nat) (B1:Option Addr) (d1:Nat) (w:World) (hm0:SRow w .u32 A0 v.mag c0) (hs0:SRow w .u16 B0 v.s d0) (hm1:SRow w .u32 A1 u.mag c1) (hs1:SRow w .u16 B1 u.s d1) (ov:VOk v) (ou:VOk u) (hv:mayV v=true) (hu:mayV u=true) (hk:v.k=u.k) (h3:Kind3 v):Calls Tryz.prog 12 #[.string ⟨#[61,61,61]⟩,vv v A0 c0 B0 d0,vv u A1 c1 B1 d1] w (IsRet (.tuple #[.agg #[iv 2,iv 0,iv 0,.bool false,sv none [] 0,sv none [] 0,iv (truthR (stB v u))],iv 0]) w):=by
  have h:=binSt_c v A0 c0 B0 d0 u A1 c1 B1 d1 w hm0 hs0 hm1 hs1 ov ou
  rw [less_st hv hu hk h3 ov ou] at h
  exact h
theorem ofew_c (o:ByteArray) (v:Vl) (Av:Option Addr) (cv:Nat) (Bv:Option Addr) (dv:Nat) (u:Vl) (Au:Option Addr) (cu:Nat) (Bu:Option Addr) (du:Nat) (w:World) (hmv:SRow w .u32 Av v.mag cv) (hsv:SRow w .u16 Bv v.s dv) (hmu:SRow w .u32 Au u.mag cu) (hsu:SRow w .u16 Bu u.s du):Calls Tryz.prog 11 #[.string o,vv v Av cv Bv dv,vv u Au cu Bu du] w (IsRet (.bool (fewV o v u)) w):=by
 refine enter_abs Tryz.func11 rfl fun a0 ab an hp=>?_
 have ab:a0.tmps.size=18:=ab
 have ac:New w w:=Upd.refl _ _
 have hp0:a0.eval (.tmp 0)=.string o:=hp 0 _ rfl
 have hp1:a0.eval (.tmp 1)=vv v Av cv Bv dv:=hp 1 _ rfl
 have hp2:a0.eval (.tmp 2)=vv u Au cu Bu du:=hp 2 _ rfl
 refine wp_seq_k fun K1 ao=>?_
 refine wp_g [true,true,true] [] [] 18
   [IsNew w 29 (c7 v Av cv Bv dv),IsNew w 29 (c7 u Au cu Bu du),vF]
   [0,1] (newsCons (fun v w h=>IsNew.old h) (newsCons (fun v w h=>IsNew.old h) newsNil)) ab (.nw (.nw (.eq (.nil)))) ?_ (fun i h=>by cases h) ?_
 exact .o2 (step_allocN (cs:=(c7 v Av cv Bv dv)) (t:=29) rfl (noG rfl) (fun _ w hn k=>v_box rfl (k.fx 1 hp1) (fun w=>rfl)) (fun q _ hq hb=>⟨q,rfl,hq,hb⟩))<| .o2 (step_allocN (cs:=(c7 u Au cu Bu du)) (t:=29) rfl (noG rfl) (fun _ w hn k=>v_box rfl (k.fx 2 hp2) (fun w=>rfl)) (fun q _ hq hb=>⟨q,rfl,hq,hb⟩))<| .t (fun _ w hn k=>⟨_,v_assign rfl rfl,rfl⟩) .nil
 refine aftI ab an ac fun a2 w3 ae ap aa ay ad=>?_
 have h8:=ad.fx 0 hp0
 obtain⟨az,h9,af,ag⟩:=ad.G 0 4
 obtain⟨aA,aq,ah,ai⟩:=ad.G 1 5
 have au:=Nat.le_trans ac.size af
 have av:=Nat.le_trans ac.size ah
 refine st_nil (ao _ _ (wp_seq_k fun aB aj=>?_))
 refine wp_g0 (.replicate 12 true) [] 18
   [ve (.string o),ve (iv (o.size:Int)),ve (.bool (decide ((o.size:Int)≤100))),ve (.bool (decide ((o.size:Int)≤100))),ve (gq (decide ((o.size:Int)≤100)) (vv v Av cv Bv dv)),ve (gq (decide ((o.size:Int)≤100)) (.bool (decide ((v.s.length:Int)≤20000) && decide ((v.mag.length:Int)≤40)))),ve (.bool ((decide ((o.size:Int)≤100)) && (decide ((v.s.length:Int)≤20000) && decide ((v.mag.length:Int)≤40)))),ve (.bool ((decide ((o.size:Int)≤100)) && (decide ((v.s.length:Int)≤20000) && decide ((v.mag.length:Int)≤40)))),ve (gq ((decide ((o.size:Int)≤100)) && (decide ((v.s.length:Int)≤20000) && decide ((v.mag.length:Int)≤40))) (vv u Au cu Bu du)),ve (gq ((decide ((o.size:Int)≤100)) && (decide ((v.s.length:Int)≤20000) && decide ((v.mag.length:Int)≤40))) (.bool (decide ((u.s.length:Int)≤20000) && decide ((u.mag.length:Int)≤40)))),ve (.bool (((decide ((o.size:Int)≤100)) && (decide ((v.s.length:Int)≤20000) && decide ((v.mag.length:Int)≤40))) && (decide ((u.s.length:Int)≤20000) && decide ((u.mag.length:Int)≤40)))),ve (.bool (((decide ((o.size:Int)≤100)) && (decide ((v.s.length:Int)≤20000) && decide ((v.mag.length:Int)≤40))) && (decide ((u.s.length:Int)≤20000) && decide ((u.mag.length:Int)≤40))))] ae (.eq (.eq (.eq (.eq (.eq (.eq (.eq (.eq (.eq (.eq (.eq (.eq (.nil))))))))))))) ?_ ?_
 exact .m (fun k=>k.fx 0 h8)<| .t (fun _ w hn k=>⟨_,v_lenS rfl (k.eq1 0 7 rfl) (by kernel_rfl),rfl⟩)<| .t (fun _ w hn k=>⟨_,v_bin rfl (k.eq1 1 8 rfl) rfl (fun _=>rfl) (r_leqK rfl),rfl⟩)<| .m (fun k=>k.eq1 2 9 rfl)<| .o1 (sc (G:=(decide ((o.size:Int)≤100))) rfl rfl rfl (fun _ _ k=>g0 (k.eq1 3 10 rfl)) (fun hG _ w hn k=>v_load rfl (k.fx 4 h9) (l_agg Tryz.isAgg29 Tryz.sizeOf29 (ag.new_ hn) rfl)))<| .o1 (scC (G:=(decide ((o.size:Int)≤100))) rfl rfl rfl (fun _ _ k=>g0 (k.eq1 3 10 rfl)) rfl (fun hG _ w hn k=>⟨#[vv v Av cv Bv dv],args1 (cT hG (k.eq1 4 11 rfl)),fun _=>by kernel_rfl,few_c v _ _ _ _ _ (hmv.new_ (aa.transNew hn)) (hsv.new_ (aa.transNew hn))⟩))<| .t (fun _ w hn k=>⟨_,v_and rfl (k.eq1 3 10 rfl) (fun hg=>(cT hg (k.eq1 5 12 rfl))) rfl,rfl⟩)<| .m (fun k=>k.eq1 6 13 rfl)<| .o1 (sc (G:=((decide ((o.size:Int)≤100)) && (decide ((v.s.length:Int)≤20000) && decide ((v.mag.length:Int)≤40)))) rfl rfl rfl (fun _ _ k=>g0 (k.eq1 7 14 rfl)) (fun hG _ w hn k=>v_load rfl (k.fx 5 aq) (l_agg Tryz.isAgg29 Tryz.sizeOf29 (ai.new_ hn) rfl)))<| .o1 (scC (G:=((decide ((o.size:Int)≤100)) && (decide ((v.s.length:Int)≤20000) && decide ((v.mag.length:Int)≤40)))) rfl rfl rfl (fun _ _ k=>g0 (k.eq1 7 14 rfl)) rfl (fun hG _ w hn k=>⟨#[vv u Au cu Bu du],args1 (cT hG (k.eq1 8 15 rfl)),fun _=>by kernel_rfl,few_c u _ _ _ _ _ (hmu.new_ (aa.transNew hn)) (hsu.new_ (aa.transNew hn))⟩))<| .t (fun _ w hn k=>⟨_,v_and rfl (k.eq1 7 14 rfl) (fun hg=>(cT hg (k.eq1 9 16 rfl))) rfl,rfl⟩)<| .a (fun k=>k.eq1 10 17 rfl) .nil
 refine aftI ae ap aa fun aC aD aw ak al ax am=>?_
 have ar:=am.ge 11 6 rfl
 refine st_nil (aj _ _ ?_)
 refine wp_ret (ret_k ak (v:=.bool (((decide ((o.size:Int)≤100)) && (decide ((v.s.length:Int)≤20000) && decide ((v.mag.length:Int)≤40))) && (decide ((u.s.length:Int)≤20000) && decide ((u.mag.length:Int)≤40)))) (res_t rfl ar _) ?_)
 refine ⟨?_,al⟩
 show Ending.returned (.bool (((decide ((o.size:Int)≤100)) && (decide ((v.s.length:Int)≤20000) && decide ((v.mag.length:Int)≤40))) && (decide ((u.s.length:Int)≤20000) && decide ((u.mag.length:Int)≤40))))=Ending.returned (.bool (fewV o v u))
 first|rfl|(simp only [fewV,bsm] <;> rfl)|(exfalso; omega)
theorem oless_w (v:Vl) (Av:Option Addr) (cv:Nat) (Bv:Option Addr) (dv:Nat) (u:Vl) (Au:Option Addr) (cu:Nat) (Bu:Option Addr) (du:Nat) (x:Vl) (Ax:Option Addr) (cx:Nat) (Bx:Option Addr) (dx:Nat) (w:World) (hmv:SRow w .u32 Av v.mag cv) (hsv:SRow w .u16 Bv v.s dv) (hmu:SRow w .u32 Au u.mag cu) (hsu:SRow w .u16 Bu u.s du) (hmx:SRow w .u32 Ax x.mag cx) (hsx:SRow w .u16 Bx x.s dx) (hlv:Limbs v.mag) (huv:U16s v.s) (hbv:-9223372036854775808≤v.nn∧v.nn≤9223372036854775807∧-9223372036854775808≤v.ref∧v.ref≤9223372036854775807) (hlu:Limbs u.mag) (huu:U16s u.s) (hbu:-9223372036854775808≤u.nn∧u.nn≤9223372036854775807∧-9223372036854775808≤u.ref∧u.ref≤9223372036854775807) (hlx:Limbs x.mag) (hux:U16s x.s) (hbx:-9223372036854775808≤x.nn∧x.nn≤9223372036854775807∧-9223372036854775808≤x.ref∧x.ref≤9223372036854775807) (HT:ItoaOk w):Calls Tryz.prog 5 #[vv v Av cv Bv dv,vv u Au cu Bu du,vv x Ax cx Bx dx] w (IsRet (.bool true) w):=by
 refine enter_abs Tryz.func5 rfl fun a0 bv hY hp=>?_
 have bv:a0.tmps.size=198:=bv
 have bw:New w w:=Upd.refl _ _
 have hp0:a0.eval (.tmp 0)=vv v Av cv Bv dv:=hp 0 _ rfl
 have hp1:a0.eval (.tmp 1)=vv u Au cu Bu du:=hp 1 _ rfl
 have hp2:a0.eval (.tmp 2)=vv x Ax cx Bx dx:=hp 2 _ rfl
 refine wp_seq_k fun K1 hZ=>?_
 refine wp_g [true,true,true,true] [] [] 198
   [IsNew w 29 (c7 v Av cv Bv dv),IsNew w 29 (c7 u Au cu Bu du),IsNew w 29 (c7 x Ax cx Bx dx),vF]
   [0,1,2] (newsCons (fun v w h=>IsNew.old h) (newsCons (fun v w h=>IsNew.old h) (newsCons (fun v w h=>IsNew.old h) newsNil))) bv (.nw (.nw (.nw (.eq (.nil))))) ?_ (fun i h=>by cases h) ?_
 exact .o2 (step_allocN (cs:=(c7 v Av cv Bv dv)) (t:=29) rfl (noG rfl) (fun _ w hn k=>v_box rfl (k.fx 0 hp0) (fun w=>rfl)) (fun q _ hq hb=>⟨q,rfl,hq,hb⟩))<| .o2 (step_allocN (cs:=(c7 u Au cu Bu du)) (t:=29) rfl (noG rfl) (fun _ w hn k=>v_box rfl (k.fx 1 hp1) (fun w=>rfl)) (fun q _ hq hb=>⟨q,rfl,hq,hb⟩))<| .o2 (step_allocN (cs:=(c7 x Ax cx Bx dx)) (t:=29) rfl (noG rfl) (fun _ w hn k=>v_box rfl (k.fx 2 hp2) (fun w=>rfl)) (fun q _ hq hb=>⟨q,rfl,hq,hb⟩))<| .t (fun _ w hn k=>⟨_,v_assign rfl rfl,rfl⟩) .nil
 refine aftI bv hY bw fun a2 w3 fi h0 ca jd cb=>?_
 obtain⟨q9,h8,fn,fo⟩:=cb.G 0 3
 obtain⟨aP,h3,fp,fq⟩:=cb.G 1 4
 obtain⟨cc,h4,fs,ft⟩:=cb.G 2 5
 have iq:=Nat.le_trans bw.size fn
 have ir:=Nat.le_trans bw.size fp
 have it:=Nat.le_trans bw.size fs
 refine st_nil (hZ _ _ (wp_seq_k fun je fu=>?_))
 refine wp_seq_k fun jf fv=>?_
 refine wp_g0 [true,true] [] 198
   [vT,vF] fi (.eq (.eq (.nil))) ?_ ?_
 exact .o1 (ck rfl rfl rfl (fun _ w hn k=>⟨#[],rfl,fun _=>by kernel_rfl,first_c _ (HT.up (ca.transNew hn))⟩) fun _=>rfl)<| .t (fun _ w hn k=>⟨_,v_not rfl (k.eq1 0 20 rfl),rfl⟩) .nil
 refine aftI fi h0 ca fun jg jh cd fw ai bo a7=>?_
 have a6:=a7.fx 3 h8
 have bn:=a7.fx 4 h3
 have bx:=a7.fx 5 h4
 have h5:=a7.ge 1 21 rfl
 have aU:=fo.new_ bo
 have a4:=fq.new_ bo
 have a8:=ft.new_ bo
 refine st_nil (fv _ _ ?_)
 refine wp_cond_false h5 ?_
 refine wp_skip ?_
 refine fu _ _ ?_
 refine wp_seq_k fun ji fy=>?_
 refine wp_seq_k fun jj fz=>?_
 refine wp_g0 (.replicate 48 true) [] 198
   [ve (vv v Av cv Bv dv),ve (vv u Au cu Bu du),ve (.bool (fewV ⟨#[]⟩ v u)),ve (.bool (!(fewV ⟨#[]⟩ v u))),ve (.bool (!(fewV ⟨#[]⟩ v u))),ve (gq (!(!(fewV ⟨#[]⟩ v u))) (vv x Ax cx Bx dx)),ve (gq (!(!(fewV ⟨#[]⟩ v u))) (.bool (decide ((x.s.length:Int)≤20000) && decide ((x.mag.length:Int)≤40)))),ve (gq (!(!(fewV ⟨#[]⟩ v u))) (.bool (!(decide ((x.s.length:Int)≤20000) && decide ((x.mag.length:Int)≤40))))),ve (.bool ((!(fewV ⟨#[]⟩ v u)) || (!(decide ((x.s.length:Int)≤20000) && decide ((x.mag.length:Int)≤40))))),ve (.bool ((!(fewV ⟨#[]⟩ v u)) || (!(decide ((x.s.length:Int)≤20000) && decide ((x.mag.length:Int)≤40))))),ve (gq (!((!(fewV ⟨#[]⟩ v u)) || (!(decide ((x.s.length:Int)≤20000) && decide ((x.mag.length:Int)≤40))))) (pv q9)),ve (gq (!((!(fewV ⟨#[]⟩ v u)) || (!(decide ((x.s.length:Int)≤20000) && decide ((x.mag.length:Int)≤40))))) (iv v.k)),ve (gq (!((!(fewV ⟨#[]⟩ v u)) || (!(decide ((x.s.length:Int)≤20000) && decide ((x.mag.length:Int)≤40))))) (pv aP)),ve (gq (!((!(fewV ⟨#[]⟩ v u)) || (!(decide ((x.s.length:Int)≤20000) && decide ((x.mag.length:Int)≤40))))) (iv u.k)),ve (gq (!((!(fewV ⟨#[]⟩ v u)) || (!(decide ((x.s.length:Int)≤20000) && decide ((x.mag.length:Int)≤40))))) (.bool (!decide (v.k=u.k)))),ve (.bool (((!(fewV ⟨#[]⟩ v u)) || (!(decide ((x.s.length:Int)≤20000) && decide ((x.mag.length:Int)≤40)))) || (!decide (v.k=u.k)))),ve (.bool (((!(fewV ⟨#[]⟩ v u)) || (!(decide ((x.s.length:Int)≤20000) && decide ((x.mag.length:Int)≤40)))) || (!decide (v.k=u.k)))),ve (gq (!(((!(fewV ⟨#[]⟩ v u)) || (!(decide ((x.s.length:Int)≤20000) && decide ((x.mag.length:Int)≤40)))) || (!decide (v.k=u.k)))) (pv aP)),ve (gq (!(((!(fewV ⟨#[]⟩ v u)) || (!(decide ((x.s.length:Int)≤20000) && decide ((x.mag.length:Int)≤40)))) || (!decide (v.k=u.k)))) (iv u.k)),ve (gq (!(((!(fewV ⟨#[]⟩ v u)) || (!(decide ((x.s.length:Int)≤20000) && decide ((x.mag.length:Int)≤40)))) || (!decide (v.k=u.k)))) (pv cc)),ve (gq (!(((!(fewV ⟨#[]⟩ v u)) || (!(decide ((x.s.length:Int)≤20000) && decide ((x.mag.length:Int)≤40)))) || (!decide (v.k=u.k)))) (iv x.k)),ve (gq (!(((!(fewV ⟨#[]⟩ v u)) || (!(decide ((x.s.length:Int)≤20000) && decide ((x.mag.length:Int)≤40)))) || (!decide (v.k=u.k)))) (.bool (!decide (u.k=x.k)))),ve (.bool ((((!(fewV ⟨#[]⟩ v u)) || (!(decide ((x.s.length:Int)≤20000) && decide ((x.mag.length:Int)≤40)))) || (!decide (v.k=u.k))) || (!decide (u.k=x.k)))),ve (.bool ((((!(fewV ⟨#[]⟩ v u)) || (!(decide ((x.s.length:Int)≤20000) && decide ((x.mag.length:Int)≤40)))) || (!decide (v.k=u.k))) || (!decide (u.k=x.k)))),ve (gq (!((((!(fewV ⟨#[]⟩ v u)) || (!(decide ((x.s.length:Int)≤20000) && decide ((x.mag.length:Int)≤40)))) || (!decide (v.k=u.k))) || (!decide (u.k=x.k)))) (pv q9)),ve (gq (!((((!(fewV ⟨#[]⟩ v u)) || (!(decide ((x.s.length:Int)≤20000) && decide ((x.mag.length:Int)≤40)))) || (!decide (v.k=u.k))) || (!decide (u.k=x.k)))) (iv v.k)),ve (gq (!((((!(fewV ⟨#[]⟩ v u)) || (!(decide ((x.s.length:Int)≤20000) && decide ((x.mag.length:Int)≤40)))) || (!decide (v.k=u.k))) || (!decide (u.k=x.k)))) (.bool (decide (v.k < 3)))),ve (.bool (((((!(fewV ⟨#[]⟩ v u)) || (!(decide ((x.s.length:Int)≤20000) && decide ((x.mag.length:Int)≤40)))) || (!decide (v.k=u.k))) || (!decide (u.k=x.k))) || (decide (v.k < 3)))),ve (.bool (((((!(fewV ⟨#[]⟩ v u)) || (!(decide ((x.s.length:Int)≤20000) && decide ((x.mag.length:Int)≤40)))) || (!decide (v.k=u.k))) || (!decide (u.k=x.k))) || (decide (v.k < 3)))),ve (gq (!(((((!(fewV ⟨#[]⟩ v u)) || (!(decide ((x.s.length:Int)≤20000) && decide ((x.mag.length:Int)≤40)))) || (!decide (v.k=u.k))) || (!decide (u.k=x.k))) || (decide (v.k < 3)))) (pv q9)),ve (gq (!(((((!(fewV ⟨#[]⟩ v u)) || (!(decide ((x.s.length:Int)≤20000) && decide ((x.mag.length:Int)≤40)))) || (!decide (v.k=u.k))) || (!decide (u.k=x.k))) || (decide (v.k < 3)))) (iv v.k)),ve (gq (!(((((!(fewV ⟨#[]⟩ v u)) || (!(decide ((x.s.length:Int)≤20000) && decide ((x.mag.length:Int)≤40)))) || (!decide (v.k=u.k))) || (!decide (u.k=x.k))) || (decide (v.k < 3)))) (.bool (!decide (v.k≤5)))),ve (.bool ((((((!(fewV ⟨#[]⟩ v u)) || (!(decide ((x.s.length:Int)≤20000) && decide ((x.mag.length:Int)≤40)))) || (!decide (v.k=u.k))) || (!decide (u.k=x.k))) || (decide (v.k < 3))) || (!decide (v.k≤5)))),ve (.bool ((((((!(fewV ⟨#[]⟩ v u)) || (!(decide ((x.s.length:Int)≤20000) && decide ((x.mag.length:Int)≤40)))) || (!decide (v.k=u.k))) || (!decide (u.k=x.k))) || (decide (v.k < 3))) || (!decide (v.k≤5)))),ve (gq (!((((((!(fewV ⟨#[]⟩ v u)) || (!(decide ((x.s.length:Int)≤20000) && decide ((x.mag.length:Int)≤40)))) || (!decide (v.k=u.k))) || (!decide (u.k=x.k))) || (decide (v.k < 3))) || (!decide (v.k≤5)))) (vv v Av cv Bv dv)),ve (gq (!((((((!(fewV ⟨#[]⟩ v u)) || (!(decide ((x.s.length:Int)≤20000) && decide ((x.mag.length:Int)≤40)))) || (!decide (v.k=u.k))) || (!decide (u.k=x.k))) || (decide (v.k < 3))) || (!decide (v.k≤5)))) (.bool (mayV v))),ve (gq (!((((((!(fewV ⟨#[]⟩ v u)) || (!(decide ((x.s.length:Int)≤20000) && decide ((x.mag.length:Int)≤40)))) || (!decide (v.k=u.k))) || (!decide (u.k=x.k))) || (decide (v.k < 3))) || (!decide (v.k≤5)))) (.bool (!(mayV v)))),ve (.bool (((((((!(fewV ⟨#[]⟩ v u)) || (!(decide ((x.s.length:Int)≤20000) && decide ((x.mag.length:Int)≤40)))) || (!decide (v.k=u.k))) || (!decide (u.k=x.k))) || (decide (v.k < 3))) || (!decide (v.k≤5))) || (!(mayV v)))),ve (.bool (((((((!(fewV ⟨#[]⟩ v u)) || (!(decide ((x.s.length:Int)≤20000) && decide ((x.mag.length:Int)≤40)))) || (!decide (v.k=u.k))) || (!decide (u.k=x.k))) || (decide (v.k < 3))) || (!decide (v.k≤5))) || (!(mayV v)))),ve (gq (!(((((((!(fewV ⟨#[]⟩ v u)) || (!(decide ((x.s.length:Int)≤20000) && decide ((x.mag.length:Int)≤40)))) || (!decide (v.k=u.k))) || (!decide (u.k=x.k))) || (decide (v.k < 3))) || (!decide (v.k≤5))) || (!(mayV v)))) (vv u Au cu Bu du)),ve (gq (!(((((((!(fewV ⟨#[]⟩ v u)) || (!(decide ((x.s.length:Int)≤20000) && decide ((x.mag.length:Int)≤40)))) || (!decide (v.k=u.k))) || (!decide (u.k=x.k))) || (decide (v.k < 3))) || (!decide (v.k≤5))) || (!(mayV v)))) (.bool (mayV u))),ve (gq (!(((((((!(fewV ⟨#[]⟩ v u)) || (!(decide ((x.s.length:Int)≤20000) && decide ((x.mag.length:Int)≤40)))) || (!decide (v.k=u.k))) || (!decide (u.k=x.k))) || (decide (v.k < 3))) || (!decide (v.k≤5))) || (!(mayV v)))) (.bool (!(mayV u)))),ve (.bool ((((((((!(fewV ⟨#[]⟩ v u)) || (!(decide ((x.s.length:Int)≤20000) && decide ((x.mag.length:Int)≤40)))) || (!decide (v.k=u.k))) || (!decide (u.k=x.k))) || (decide (v.k < 3))) || (!decide (v.k≤5))) || (!(mayV v))) || (!(mayV u)))),ve (.bool ((((((((!(fewV ⟨#[]⟩ v u)) || (!(decide ((x.s.length:Int)≤20000) && decide ((x.mag.length:Int)≤40)))) || (!decide (v.k=u.k))) || (!decide (u.k=x.k))) || (decide (v.k < 3))) || (!decide (v.k≤5))) || (!(mayV v))) || (!(mayV u)))),ve (gq (!((((((((!(fewV ⟨#[]⟩ v u)) || (!(decide ((x.s.length:Int)≤20000) && decide ((x.mag.length:Int)≤40)))) || (!decide (v.k=u.k))) || (!decide (u.k=x.k))) || (decide (v.k < 3))) || (!decide (v.k≤5))) || (!(mayV v))) || (!(mayV u)))) (vv x Ax cx Bx dx)),ve (gq (!((((((((!(fewV ⟨#[]⟩ v u)) || (!(decide ((x.s.length:Int)≤20000) && decide ((x.mag.length:Int)≤40)))) || (!decide (v.k=u.k))) || (!decide (u.k=x.k))) || (decide (v.k < 3))) || (!decide (v.k≤5))) || (!(mayV v))) || (!(mayV u)))) (.bool (mayV x))),ve (gq (!((((((((!(fewV ⟨#[]⟩ v u)) || (!(decide ((x.s.length:Int)≤20000) && decide ((x.mag.length:Int)≤40)))) || (!decide (v.k=u.k))) || (!decide (u.k=x.k))) || (decide (v.k < 3))) || (!decide (v.k≤5))) || (!(mayV v))) || (!(mayV u)))) (.bool (!(mayV x)))),ve (.bool (((((((((!(fewV ⟨#[]⟩ v u)) || (!(decide ((x.s.length:Int)≤20000) && decide ((x.mag.length:Int)≤40)))) || (!decide (v.k=u.k))) || (!decide (u.k=x.k))) || (decide (v.k < 3))) || (!decide (v.k≤5))) || (!(mayV v))) || (!(mayV u))) || (!(mayV x))))] cd (.eq (.eq (.eq (.eq (.eq (.eq (.eq (.eq (.eq (.eq (.eq (.eq (.eq (.eq (.eq (.eq (.eq (.eq (.eq (.eq (.eq (.eq (.eq (.eq (.eq (.eq (.eq (.eq (.eq (.eq (.eq (.eq (.eq (.eq (.eq (.eq (.eq (.eq (.eq (.eq (.eq (.eq (.eq (.eq (.eq (.eq (.eq (.eq (.nil))))))))))))))))))))))))))))))))))))))))))))))))) ?_ ?_
 exact .t (fun _ w hn k=>⟨_,v_load rfl (k.fx 3 a6) (l_agg Tryz.isAgg29 Tryz.sizeOf29 (aU.new_ hn) rfl),rfl⟩)<| .t (fun _ w hn k=>⟨_,v_load rfl (k.fx 4 bn) (l_agg Tryz.isAgg29 Tryz.sizeOf29 (a4.new_ hn) rfl),rfl⟩)<| .o1 (ck rfl rfl rfl (fun _ w hn k=>⟨#[.string ⟨#[]⟩,vv v Av cv Bv dv,vv u Au cu Bu du],args3 rfl (k.eq1 0 22 rfl) (k.eq1 1 23 rfl),fun _=>by kernel_rfl,ofew_c ⟨#[]⟩ v _ _ _ _ u _ _ _ _ _ (hmv.new_ (ai.transNew hn)) (hsv.new_ (ai.transNew hn)) (hmu.new_ (ai.transNew hn)) (hsu.new_ (ai.transNew hn))⟩) fun _=>rfl)<| .t (fun _ w hn k=>⟨_,v_not rfl (k.eq1 2 24 rfl),rfl⟩)<| .m (fun k=>k.eq1 3 25 rfl)<| .o1 (sc (G:=(!(!(fewV ⟨#[]⟩ v u)))) rfl rfl rfl (fun _ _ k=>g0' (k.eq1 4 26 rfl)) (fun hG _ w hn k=>v_load rfl (k.fx 5 bx) (l_agg Tryz.isAgg29 Tryz.sizeOf29 (a8.new_ hn) rfl)))<| .o1 (scC (G:=(!(!(fewV ⟨#[]⟩ v u)))) rfl rfl rfl (fun _ _ k=>g0' (k.eq1 4 26 rfl)) rfl (fun hG _ w hn k=>⟨#[vv x Ax cx Bx dx],args1 (cT hG (k.eq1 5 27 rfl)),fun _=>by kernel_rfl,few_c x _ _ _ _ _ (hmx.new_ (ai.transNew hn)) (hsx.new_ (ai.transNew hn))⟩))<| .o1 (sc (G:=(!(!(fewV ⟨#[]⟩ v u)))) rfl rfl rfl (fun _ _ k=>g0' (k.eq1 4 26 rfl)) (fun hG _ w hn k=>v_not rfl (cT hG (k.eq1 6 28 rfl))))<| .t (fun _ w hn k=>⟨_,v_or rfl (k.eq1 4 26 rfl) rfl (fun hg=>(cT (nt hg) (k.eq1 7 29 rfl))),rfl⟩)<| .m (fun k=>k.eq1 8 30 rfl)<| .o1 (sc (G:=(!((!(fewV ⟨#[]⟩ v u)) || (!(decide ((x.s.length:Int)≤20000) && decide ((x.mag.length:Int)≤40)))))) rfl rfl rfl (fun _ _ k=>g0' (k.eq1 9 31 rfl)) (fun hG _ w hn k=>v_field rfl (k.fx 3 a6) (fun w=>rfl)))<| .o1 (sc (G:=(!((!(fewV ⟨#[]⟩ v u)) || (!(decide ((x.s.length:Int)≤20000) && decide ((x.mag.length:Int)≤40)))))) rfl rfl rfl (fun _ _ k=>g0' (k.eq1 9 31 rfl)) (fun hG _ w hn k=>v_load rfl (cT hG (k.eq1 10 32 rfl)) (l_one Tryz.isAgg3 ((aU.new_ hn).cell 0))))<| .o1 (sc (G:=(!((!(fewV ⟨#[]⟩ v u)) || (!(decide ((x.s.length:Int)≤20000) && decide ((x.mag.length:Int)≤40)))))) rfl rfl rfl (fun _ _ k=>g0' (k.eq1 9 31 rfl)) (fun hG _ w hn k=>v_field rfl (k.fx 4 bn) (fun w=>rfl)))<| .o1 (sc (G:=(!((!(fewV ⟨#[]⟩ v u)) || (!(decide ((x.s.length:Int)≤20000) && decide ((x.mag.length:Int)≤40)))))) rfl rfl rfl (fun _ _ k=>g0' (k.eq1 9 31 rfl)) (fun hG _ w hn k=>v_load rfl (cT hG (k.eq1 12 34 rfl)) (l_one Tryz.isAgg3 ((a4.new_ hn).cell 0))))<| .o1 (sc (G:=(!((!(fewV ⟨#[]⟩ v u)) || (!(decide ((x.s.length:Int)≤20000) && decide ((x.mag.length:Int)≤40)))))) rfl rfl rfl (fun _ _ k=>g0' (k.eq1 9 31 rfl)) (fun hG _ w hn k=>v_bin rfl (cT hG (k.eq1 11 33 rfl)) (cT hG (k.eq1 13 35 rfl)) (fun _=>rfl) (r_neq rfl)))<| .t (fun _ w hn k=>⟨_,v_or rfl (k.eq1 9 31 rfl) rfl (fun hg=>(cT (nt hg) (k.eq1 14 36 rfl))),rfl⟩)<| .m (fun k=>k.eq1 15 37 rfl)<| .o1 (sc (G:=(!(((!(fewV ⟨#[]⟩ v u)) || (!(decide ((x.s.length:Int)≤20000) && decide ((x.mag.length:Int)≤40)))) || (!decide (v.k=u.k))))) rfl rfl rfl (fun _ _ k=>g0' (k.eq1 16 38 rfl)) (fun hG _ w hn k=>v_field rfl (k.fx 4 bn) (fun w=>rfl)))<| .o1 (sc (G:=(!(((!(fewV ⟨#[]⟩ v u)) || (!(decide ((x.s.length:Int)≤20000) && decide ((x.mag.length:Int)≤40)))) || (!decide (v.k=u.k))))) rfl rfl rfl (fun _ _ k=>g0' (k.eq1 16 38 rfl)) (fun hG _ w hn k=>v_load rfl (cT hG (k.eq1 17 39 rfl)) (l_one Tryz.isAgg3 ((a4.new_ hn).cell 0))))<| .o1 (sc (G:=(!(((!(fewV ⟨#[]⟩ v u)) || (!(decide ((x.s.length:Int)≤20000) && decide ((x.mag.length:Int)≤40)))) || (!decide (v.k=u.k))))) rfl rfl rfl (fun _ _ k=>g0' (k.eq1 16 38 rfl)) (fun hG _ w hn k=>v_field rfl (k.fx 5 bx) (fun w=>rfl)))<| .o1 (sc (G:=(!(((!(fewV ⟨#[]⟩ v u)) || (!(decide ((x.s.length:Int)≤20000) && decide ((x.mag.length:Int)≤40)))) || (!decide (v.k=u.k))))) rfl rfl rfl (fun _ _ k=>g0' (k.eq1 16 38 rfl)) (fun hG _ w hn k=>v_load rfl (cT hG (k.eq1 19 41 rfl)) (l_one Tryz.isAgg3 ((a8.new_ hn).cell 0))))<| .o1 (sc (G:=(!(((!(fewV ⟨#[]⟩ v u)) || (!(decide ((x.s.length:Int)≤20000) && decide ((x.mag.length:Int)≤40)))) || (!decide (v.k=u.k))))) rfl rfl rfl (fun _ _ k=>g0' (k.eq1 16 38 rfl)) (fun hG _ w hn k=>v_bin rfl (cT hG (k.eq1 18 40 rfl)) (cT hG (k.eq1 20 42 rfl)) (fun _=>rfl) (r_neq rfl)))<| .t (fun _ w hn k=>⟨_,v_or rfl (k.eq1 16 38 rfl) rfl (fun hg=>(cT (nt hg) (k.eq1 21 43 rfl))),rfl⟩)<| .m (fun k=>k.eq1 22 44 rfl)<| .o1 (sc (G:=(!((((!(fewV ⟨#[]⟩ v u)) || (!(decide ((x.s.length:Int)≤20000) && decide ((x.mag.length:Int)≤40)))) || (!decide (v.k=u.k))) || (!decide (u.k=x.k))))) rfl rfl rfl (fun _ _ k=>g0' (k.eq1 23 45 rfl)) (fun hG _ w hn k=>v_field rfl (k.fx 3 a6) (fun w=>rfl)))<| .o1 (sc (G:=(!((((!(fewV ⟨#[]⟩ v u)) || (!(decide ((x.s.length:Int)≤20000) && decide ((x.mag.length:Int)≤40)))) || (!decide (v.k=u.k))) || (!decide (u.k=x.k))))) rfl rfl rfl (fun _ _ k=>g0' (k.eq1 23 45 rfl)) (fun hG _ w hn k=>v_load rfl (cT hG (k.eq1 24 46 rfl)) (l_one Tryz.isAgg3 ((aU.new_ hn).cell 0))))<| .o1 (sc (G:=(!((((!(fewV ⟨#[]⟩ v u)) || (!(decide ((x.s.length:Int)≤20000) && decide ((x.mag.length:Int)≤40)))) || (!decide (v.k=u.k))) || (!decide (u.k=x.k))))) rfl rfl rfl (fun _ _ k=>g0' (k.eq1 23 45 rfl)) (fun hG _ w hn k=>v_bin rfl (cT hG (k.eq1 25 47 rfl)) rfl (fun _=>rfl) (r_lssK rfl)))<| .t (fun _ w hn k=>⟨_,v_or rfl (k.eq1 23 45 rfl) rfl (fun hg=>(cT (nt hg) (k.eq1 26 48 rfl))),rfl⟩)<| .m (fun k=>k.eq1 27 49 rfl)<| .o1 (sc (G:=(!(((((!(fewV ⟨#[]⟩ v u)) || (!(decide ((x.s.length:Int)≤20000) && decide ((x.mag.length:Int)≤40)))) || (!decide (v.k=u.k))) || (!decide (u.k=x.k))) || (decide (v.k < 3))))) rfl rfl rfl (fun _ _ k=>g0' (k.eq1 28 50 rfl)) (fun hG _ w hn k=>v_field rfl (k.fx 3 a6) (fun w=>rfl)))<| .o1 (sc (G:=(!(((((!(fewV ⟨#[]⟩ v u)) || (!(decide ((x.s.length:Int)≤20000) && decide ((x.mag.length:Int)≤40)))) || (!decide (v.k=u.k))) || (!decide (u.k=x.k))) || (decide (v.k < 3))))) rfl rfl rfl (fun _ _ k=>g0' (k.eq1 28 50 rfl)) (fun hG _ w hn k=>v_load rfl (cT hG (k.eq1 29 51 rfl)) (l_one Tryz.isAgg3 ((aU.new_ hn).cell 0))))<| .o1 (sc (G:=(!(((((!(fewV ⟨#[]⟩ v u)) || (!(decide ((x.s.length:Int)≤20000) && decide ((x.mag.length:Int)≤40)))) || (!decide (v.k=u.k))) || (!decide (u.k=x.k))) || (decide (v.k < 3))))) rfl rfl rfl (fun _ _ k=>g0' (k.eq1 28 50 rfl)) (fun hG _ w hn k=>v_bin rfl (cT hG (k.eq1 30 52 rfl)) rfl (fun _=>rfl) (r_gtrK rfl)))<| .t (fun _ w hn k=>⟨_,v_or rfl (k.eq1 28 50 rfl) rfl (fun hg=>(cT (nt hg) (k.eq1 31 53 rfl))),rfl⟩)<| .m (fun k=>k.eq1 32 54 rfl)<| .o1 (sc (G:=(!((((((!(fewV ⟨#[]⟩ v u)) || (!(decide ((x.s.length:Int)≤20000) && decide ((x.mag.length:Int)≤40)))) || (!decide (v.k=u.k))) || (!decide (u.k=x.k))) || (decide (v.k < 3))) || (!decide (v.k≤5))))) rfl rfl rfl (fun _ _ k=>g0' (k.eq1 33 55 rfl)) (fun hG _ w hn k=>v_load rfl (k.fx 3 a6) (l_agg Tryz.isAgg29 Tryz.sizeOf29 (aU.new_ hn) rfl)))<| .o1 (scC (G:=(!((((((!(fewV ⟨#[]⟩ v u)) || (!(decide ((x.s.length:Int)≤20000) && decide ((x.mag.length:Int)≤40)))) || (!decide (v.k=u.k))) || (!decide (u.k=x.k))) || (decide (v.k < 3))) || (!decide (v.k≤5))))) rfl rfl rfl (fun _ _ k=>g0' (k.eq1 33 55 rfl)) rfl (fun hG _ w hn k=>⟨#[vv v Av cv Bv dv],args1 (cT hG (k.eq1 34 56 rfl)),fun _=>by kernel_rfl,vmay_c v _ _ _ _ _ (hmv.new_ (ai.transNew hn)) (hsv.new_ (ai.transNew hn))⟩))<| .o1 (sc (G:=(!((((((!(fewV ⟨#[]⟩ v u)) || (!(decide ((x.s.length:Int)≤20000) && decide ((x.mag.length:Int)≤40)))) || (!decide (v.k=u.k))) || (!decide (u.k=x.k))) || (decide (v.k < 3))) || (!decide (v.k≤5))))) rfl rfl rfl (fun _ _ k=>g0' (k.eq1 33 55 rfl)) (fun hG _ w hn k=>v_not rfl (cT hG (k.eq1 35 57 rfl))))<| .t (fun _ w hn k=>⟨_,v_or rfl (k.eq1 33 55 rfl) rfl (fun hg=>(cT (nt hg) (k.eq1 36 58 rfl))),rfl⟩)<| .m (fun k=>k.eq1 37 59 rfl)<| .o1 (sc (G:=(!(((((((!(fewV ⟨#[]⟩ v u)) || (!(decide ((x.s.length:Int)≤20000) && decide ((x.mag.length:Int)≤40)))) || (!decide (v.k=u.k))) || (!decide (u.k=x.k))) || (decide (v.k < 3))) || (!decide (v.k≤5))) || (!(mayV v))))) rfl rfl rfl (fun _ _ k=>g0' (k.eq1 38 60 rfl)) (fun hG _ w hn k=>v_load rfl (k.fx 4 bn) (l_agg Tryz.isAgg29 Tryz.sizeOf29 (a4.new_ hn) rfl)))<| .o1 (scC (G:=(!(((((((!(fewV ⟨#[]⟩ v u)) || (!(decide ((x.s.length:Int)≤20000) && decide ((x.mag.length:Int)≤40)))) || (!decide (v.k=u.k))) || (!decide (u.k=x.k))) || (decide (v.k < 3))) || (!decide (v.k≤5))) || (!(mayV v))))) rfl rfl rfl (fun _ _ k=>g0' (k.eq1 38 60 rfl)) rfl (fun hG _ w hn k=>⟨#[vv u Au cu Bu du],args1 (cT hG (k.eq1 39 61 rfl)),fun _=>by kernel_rfl,vmay_c u _ _ _ _ _ (hmu.new_ (ai.transNew hn)) (hsu.new_ (ai.transNew hn))⟩))<| .o1 (sc (G:=(!(((((((!(fewV ⟨#[]⟩ v u)) || (!(decide ((x.s.length:Int)≤20000) && decide ((x.mag.length:Int)≤40)))) || (!decide (v.k=u.k))) || (!decide (u.k=x.k))) || (decide (v.k < 3))) || (!decide (v.k≤5))) || (!(mayV v))))) rfl rfl rfl (fun _ _ k=>g0' (k.eq1 38 60 rfl)) (fun hG _ w hn k=>v_not rfl (cT hG (k.eq1 40 62 rfl))))<| .t (fun _ w hn k=>⟨_,v_or rfl (k.eq1 38 60 rfl) rfl (fun hg=>(cT (nt hg) (k.eq1 41 63 rfl))),rfl⟩)<| .m (fun k=>k.eq1 42 64 rfl)<| .o1 (sc (G:=(!((((((((!(fewV ⟨#[]⟩ v u)) || (!(decide ((x.s.length:Int)≤20000) && decide ((x.mag.length:Int)≤40)))) || (!decide (v.k=u.k))) || (!decide (u.k=x.k))) || (decide (v.k < 3))) || (!decide (v.k≤5))) || (!(mayV v))) || (!(mayV u))))) rfl rfl rfl (fun _ _ k=>g0' (k.eq1 43 65 rfl)) (fun hG _ w hn k=>v_load rfl (k.fx 5 bx) (l_agg Tryz.isAgg29 Tryz.sizeOf29 (a8.new_ hn) rfl)))<| .o1 (scC (G:=(!((((((((!(fewV ⟨#[]⟩ v u)) || (!(decide ((x.s.length:Int)≤20000) && decide ((x.mag.length:Int)≤40)))) || (!decide (v.k=u.k))) || (!decide (u.k=x.k))) || (decide (v.k < 3))) || (!decide (v.k≤5))) || (!(mayV v))) || (!(mayV u))))) rfl rfl rfl (fun _ _ k=>g0' (k.eq1 43 65 rfl)) rfl (fun hG _ w hn k=>⟨#[vv x Ax cx Bx dx],args1 (cT hG (k.eq1 44 66 rfl)),fun _=>by kernel_rfl,vmay_c x _ _ _ _ _ (hmx.new_ (ai.transNew hn)) (hsx.new_ (ai.transNew hn))⟩))<| .o1 (sc (G:=(!((((((((!(fewV ⟨#[]⟩ v u)) || (!(decide ((x.s.length:Int)≤20000) && decide ((x.mag.length:Int)≤40)))) || (!decide (v.k=u.k))) || (!decide (u.k=x.k))) || (decide (v.k < 3))) || (!decide (v.k≤5))) || (!(mayV v))) || (!(mayV u))))) rfl rfl rfl (fun _ _ k=>g0' (k.eq1 43 65 rfl)) (fun hG _ w hn k=>v_not rfl (cT hG (k.eq1 45 67 rfl))))<| .t (fun _ w hn k=>⟨_,v_or rfl (k.eq1 43 65 rfl) rfl (fun hg=>(cT (nt hg) (k.eq1 46 68 rfl))),rfl⟩) .nil
 refine aftI cd fw ai fun jk h6 a9 ce aE bp ba=>?_
 have fj:=ba.fx 3 a6
 have fk:=ba.fx 4 bn
 have h7:=ba.fx 5 bx
 have fl:=ba.ge 47 69 rfl
 have bq:=aU.new_ bp
 have br:=a4.new_ bp
 have cf:=a8.new_ bp
 refine st_nil (fz _ _ ?_)
 rcases bc ((((((((((!(fewV ⟨#[]⟩ v u)) || (!(decide ((x.s.length:Int)≤20000) && decide ((x.mag.length:Int)≤40)))) || (!decide (v.k=u.k))) || (!decide (u.k=x.k))) || (decide (v.k < 3))) || (!decide (v.k≤5))) || (!(mayV v))) || (!(mayV u))) || (!(mayV x)))) with a5|a5
 have fA:=hB fl a5
 refine wp_cond_true fA ?_
 refine wp_seq_k fun jl fB=>?_
 refine wp_g0 [true,true] [] 198
   [vT,vT] a9 (.eq (.eq (.nil))) ?_ ?_
 exact .o1 (ck rfl rfl rfl (fun _ w hn k=>⟨#[],rfl,fun _=>by kernel_rfl,first_c _ (HT.up (aE.transNew hn))⟩) fun _=>rfl)<| .a (fun k=>k.eq1 0 70 rfl) .nil
 refine aftI a9 ce aE fun jm jn iu fC fD iw fE=>?_
 have h9:=fE.ge 1 6 rfl
 refine st_nil (fB _ _ ?_)
 refine wp_ret (ret_k fC (v:=.bool true) (res_t rfl h9 _) ?_)
 exact⟨rfl,fD⟩
 have fF:=hB fl a5
 have ch:((((((((!(fewV ⟨#[]⟩ v u)) || (!(decide ((x.s.length:Int)≤20000) && decide ((x.mag.length:Int)≤40)))) || (!decide (v.k=u.k))) || (!decide (u.k=x.k))) || (decide (v.k < 3))) || (!decide (v.k≤5))) || (!(mayV v))) || (!(mayV u)))=false:=ol a5
 have ci:(((((((!(fewV ⟨#[]⟩ v u)) || (!(decide ((x.s.length:Int)≤20000) && decide ((x.mag.length:Int)≤40)))) || (!decide (v.k=u.k))) || (!decide (u.k=x.k))) || (decide (v.k < 3))) || (!decide (v.k≤5))) || (!(mayV v)))=false:=ol ch
 have cj:((((((!(fewV ⟨#[]⟩ v u)) || (!(decide ((x.s.length:Int)≤20000) && decide ((x.mag.length:Int)≤40)))) || (!decide (v.k=u.k))) || (!decide (u.k=x.k))) || (decide (v.k < 3))) || (!decide (v.k≤5)))=false:=ol ci
 have cl:(((((!(fewV ⟨#[]⟩ v u)) || (!(decide ((x.s.length:Int)≤20000) && decide ((x.mag.length:Int)≤40)))) || (!decide (v.k=u.k))) || (!decide (u.k=x.k))) || (decide (v.k < 3)))=false:=ol cj
 have cm:((((!(fewV ⟨#[]⟩ v u)) || (!(decide ((x.s.length:Int)≤20000) && decide ((x.mag.length:Int)≤40)))) || (!decide (v.k=u.k))) || (!decide (u.k=x.k)))=false:=ol cl
 have cn:(((!(fewV ⟨#[]⟩ v u)) || (!(decide ((x.s.length:Int)≤20000) && decide ((x.mag.length:Int)≤40)))) || (!decide (v.k=u.k)))=false:=ol cm
 have co:((!(fewV ⟨#[]⟩ v u)) || (!(decide ((x.s.length:Int)≤20000) && decide ((x.mag.length:Int)≤40))))=false:=ol cn
 have fG:(!(fewV ⟨#[]⟩ v u))=false:=ol co
 have fH:(fewV ⟨#[]⟩ v u)=true:=nT fG
 have fI:(!(decide ((x.s.length:Int)≤20000) && decide ((x.mag.length:Int)≤40)))=false:=or_ co
 have bs:(decide ((x.s.length:Int)≤20000) && decide ((x.mag.length:Int)≤40))=true:=nT fI
 have fJ:(decide ((x.s.length:Int)≤20000))=true:=al bs
 have ia:=oT fJ
 have fK:(decide ((x.mag.length:Int)≤40))=true:=ar bs
 have ib:=oT fK
 have fL:(!decide (v.k=u.k))=false:=or_ cn
 have cp:(decide (v.k=u.k))=true:=nT fL
 have ic:=oT cp
 have fM:(!decide (u.k=x.k))=false:=or_ cm
 have cq:(decide (u.k=x.k))=true:=nT fM
 have id:=oT cq
 have cr:(decide (v.k < 3))=false:=or_ cl
 have ie:=oF cr
 have ct:(!decide (v.k≤5))=false:=or_ cj
 have fN:(decide (v.k≤5))=true:=nT ct
 have ig:=oT fN
 have fO:(!(mayV v))=false:=or_ ci
 have fP:(mayV v)=true:=nT fO
 have fQ:(!(mayV u))=false:=or_ ch
 have fR:(mayV u)=true:=nT fQ
 have fS:(!(mayV x))=false:=or_ a5
 have fT:(mayV x)=true:=nT fS
 refine wp_cond_false fF ?_
 refine wp_skip ?_
 refine fy _ _ ?_
 refine wp_seq_k fun jo fU=>?_
 have hfw:=few_two fH
 have hvv:VOk v:=few_ok hfw.1 hlv huv hbv.1 hbv.2.1 hbv.2.2.1 hbv.2.2.2
 have hmv1:=fP
 have hvu:VOk u:=few_ok hfw.2.1 hlu huu hbu.1 hbu.2.1 hbu.2.2.1 hbu.2.2.2
 have hmu1:=fR
 have hvx:VOk x:=few_ok bs hlx hux hbx.1 hbx.2.1 hbx.2.2.1 hbx.2.2.2
 have hmx1:=fT
 have hkvu:=oT cp
 have hkux:=oT cq
 have hkvx:=hkvu.trans hkux
 have hk3v:=kind3_of cr ct
 have hk3u:=kind3_eq hk3v hkvu
 have hz1:=truthR_bd (ltB v u)
 have hz2:=truthR_bd (gtB v u)
 have hz3:=truthR_bd (stB v u)
 have hz4:=truthR_bd (leB v u)
 refine wp_g [true,true,true,true,true,true,true,false,false] [5] [(7,false),(8,true)] 198
   [ve (vv v Av cv Bv dv),ve (vv u Au cu Bu du),ve (.tuple #[vv (Vl.mk 2 0 0 false [] [] (truthR (ltB v u))) none 0 none 0,iv 0]),ve (.tuple #[vv (Vl.mk 2 0 0 false [] [] (truthR (ltB v u))) none 0 none 0,iv 0]),ve (vv (Vl.mk 2 0 0 false [] [] (truthR (ltB v u))) none 0 none 0),ve (iv 0),IsNew h6 29 z7,vt,vt]
   [6] (newsCons (fun v w h=>IsNew.old h) newsNil) a9 (.eq (.eq (.eq (.eq (.eq (.eq (.nw (.tt (.tt (.nil)))))))))) ?_ ?_ ?_
 refine .t (fun _ w hn k=>⟨_,v_load rfl (k.fx 3 fj) (l_agg Tryz.isAgg29 Tryz.sizeOf29 (bq.new_ hn) rfl),rfl⟩)<| .t (fun _ w hn k=>⟨_,v_load rfl (k.fx 4 fk) (l_agg Tryz.isAgg29 Tryz.sizeOf29 (br.new_ hn) rfl),rfl⟩)<| .o1 (ck rfl rfl rfl (fun _ w hn k=>⟨#[.string ⟨#[60]⟩,vv v Av cv Bv dv,vv u Au cu Bu du],args3 rfl (k.eq1 0 72 rfl) (k.eq1 1 73 rfl),fun _=>by kernel_rfl,lt_l v _ _ _ _ u _ _ _ _ _ (hmv.new_ (aE.transNew hn)) (hsv.new_ (aE.transNew hn)) (hmu.new_ (aE.transNew hn)) (hsu.new_ (aE.transNew hn)) hvv hvu hmv1 hmu1 hkvu hk3v⟩) fun _=>rfl)<| .m (fun k=>k.eq1 2 74 rfl)<| .t (fun _ w hn k=>⟨_,v_extract rfl (k.eq1 3 71 rfl) rfl,rfl⟩) ?_
 refine .o3 ?_
 exact .o2 (step_allocN (cs:=z7) (t:=29) rfl (noG rfl) (fun _ w hn k=>rfl) (fun q _ hq hb=>⟨q,rfl,hq,hb⟩))<| .off<| .off .nil
 intro i h
 simp only [List.contains_eq_mem,List.mem_cons,List.not_mem_nil,or_false,decide_eq_true_eq] at h
 subst h
 exact eager_take rfl rfl fun _ w hn k=>⟨iv 0,fun w=>v_extract rfl (k.eq1 3 71 rfl) rfl,rfl⟩
 refine aftI a9 ce aE fun fm jp cw dw dy bt aV=>?_
 have fV:=aV.fx 3 fj
 have fW:=aV.fx 4 fk
 have fX:=aV.fx 5 h7
 have cy:=aV.ge 4 75 rfl
 have cz:=aV.ge 5 76 rfl
 obtain⟨am,cA,aW,dz⟩:=aV.G 6 7
 have dA:=bq.new_ bt
 have dB:=br.new_ bt
 have dC:=cf.new_ bt
 have hne113:q9 ≠ am:=by have h1:=bq.lt; have h2:=aW; omega
 have hne114:aP ≠ am:=by have h1:=br.lt; have h2:=aW; omega
 have hne115:cc ≠ am:=by have h1:=cf.lt; have h2:=aW; omega
 have ih:=Nat.le_trans aE.size aW
 obtain⟨cB,cC,cD,dD,bb⟩:=s_many (P:=Tryz.prog) (t:=29) (i:=0) [iv 2,iv 0,iv 0,.bool false,sv none ([]) 0,sv none ([]) 0,iv (truthR (ltB v u))] Tryz.sizeOf29 rfl rfl rfl dz lb
 have bz:Blk cB am 29 [iv 2,iv 0,iv 0,.bool false,sv none ([]) 0,sv none ([]) 0,iv (truthR (ltB v u))]:=cD
 refine st_act rfl rfl fun ix dE=>a_store' rfl cA cy cC (dE _ _ trivial ?_)
 have bA:=bb _ _ _ (hne113) dA
 have bd:=bb _ _ _ (hne114) dB
 have be:=bb _ _ _ (hne115) dC
 have aF:=dy.trans dD (fun _ h b=>by subst b; omega)
 refine st_take rfl rfl (y_assign (v:=iv 0) rfl cz) rfl ?_
 obtain⟨fY,ak⟩:∃ a',a'=fm.put (some 8) (iv 0):=⟨_,rfl⟩
 have bB:=pz ak cw
 have dF:=pd ak dw
 have fZ:=pn ak fV (by decide)
 have cE:=pn ak fW (by decide)
 have cF:=pn ak fX (by decide)
 have iy:=pn ak cy (by decide)
 have iz:=pn ak cz (by decide)
 have f0:=pn ak cA (by decide)
 have f1:fY.eval (.tmp 8)=iv 0:=by rw [ak]; exact put_same _ _ _ (by rw [cw]; decide)
 show stepsTo _ _ _ _ _ (fm.put (some 8) (iv 0)) _
 rw [← ak]
 refine st_nil (fU _ _ (wp_seq_k fun iA dG=>?_))
 refine wp_g [true,true,true,true,true,true,true,false,false] [5] [(7,false),(8,true)] 198
   [ve (vv u Au cu Bu du),ve (vv x Ax cx Bx dx),ve (.tuple #[vv (Vl.mk 2 0 0 false [] [] (truthR (ltB u x))) none 0 none 0,iv 0]),ve (.tuple #[vv (Vl.mk 2 0 0 false [] [] (truthR (ltB u x))) none 0 none 0,iv 0]),ve (vv (Vl.mk 2 0 0 false [] [] (truthR (ltB u x))) none 0 none 0),ve (iv 0),IsNew cB 29 z7,vt,vt]
   [6] (newsCons (fun v w h=>IsNew.old h) newsNil) bB (.eq (.eq (.eq (.eq (.eq (.eq (.nw (.tt (.tt (.nil)))))))))) ?_ ?_ ?_
 refine .t (fun _ w hn k=>⟨_,v_load rfl (k.fx 4 cE) (l_agg Tryz.isAgg29 Tryz.sizeOf29 (bd.new_ hn) rfl),rfl⟩)<| .t (fun _ w hn k=>⟨_,v_load rfl (k.fx 5 cF) (l_agg Tryz.isAgg29 Tryz.sizeOf29 (be.new_ hn) rfl),rfl⟩)<| .o1 (ck rfl rfl rfl (fun _ w hn k=>⟨#[.string ⟨#[60]⟩,vv u Au cu Bu du,vv x Ax cx Bx dx],args3 rfl (k.eq1 0 78 rfl) (k.eq1 1 79 rfl),fun _=>by kernel_rfl,lt_l u _ _ _ _ x _ _ _ _ _ (hmu.new_ (aF.transNew hn)) (hsu.new_ (aF.transNew hn)) (hmx.new_ (aF.transNew hn)) (hsx.new_ (aF.transNew hn)) hvu hvx hmu1 hmx1 hkux hk3u⟩) fun _=>rfl)<| .m (fun k=>k.eq1 2 80 rfl)<| .t (fun _ w hn k=>⟨_,v_extract rfl (k.eq1 3 77 rfl) rfl,rfl⟩) ?_
 refine .o3 ?_
 exact .o2 (step_allocN (cs:=z7) (t:=29) rfl (noG rfl) (fun _ w hn k=>rfl) (fun q _ hq hb=>⟨q,rfl,hq,hb⟩))<| .off<| .off .nil
 intro i h
 simp only [List.contains_eq_mem,List.mem_cons,List.not_mem_nil,or_false,decide_eq_true_eq] at h
 subst h
 exact eager_take rfl rfl fun _ w hn k=>⟨iv 0,fun w=>v_extract rfl (k.eq1 3 77 rfl) rfl,rfl⟩
 refine aftI bB dF aF fun cG iB bC dH dI aX aq=>?_
 have f2:=aq.fx 3 fZ
 have f3:=aq.fx 4 cE
 have f4:=aq.fx 5 cF
 have f5:=aq.fx 7 f0
 have f6:=aq.fx 8 f1
 have cH:=aq.ge 4 81 rfl
 have cI:=aq.ge 5 82 rfl
 obtain⟨aw,cJ,aQ,dJ⟩:=aq.G 6 9
 have dK:=bA.new_ aX
 have dL:=bd.new_ aX
 have dM:=be.new_ aX
 have dN:=bz.new_ aX
 have hne162:q9 ≠ aw:=by have h1:=bA.lt; have h2:=aQ; omega
 have hne163:aP ≠ aw:=by have h1:=bd.lt; have h2:=aQ; omega
 have hne164:cc ≠ aw:=by have h1:=be.lt; have h2:=aQ; omega
 have hne165:am ≠ aw:=by have h1:=bz.lt; have h2:=aQ; omega
 have ii:=Nat.le_trans aF.size aQ
 obtain⟨cK,cL,cM,dO,aY⟩:=s_many (P:=Tryz.prog) (t:=29) (i:=0) [iv 2,iv 0,iv 0,.bool false,sv none ([]) 0,sv none ([]) 0,iv (truthR (ltB u x))] Tryz.sizeOf29 rfl rfl rfl dJ lb
 have bD:Blk cK aw 29 [iv 2,iv 0,iv 0,.bool false,sv none ([]) 0,sv none ([]) 0,iv (truthR (ltB u x))]:=cM
 refine st_act rfl rfl fun iC dP=>a_store' rfl cJ cH cL (dP _ _ trivial ?_)
 have bf:=aY _ _ _ (hne162) dK
 have bE:=aY _ _ _ (hne163) dL
 have dQ:=aY _ _ _ (hne164) dM
 have bF:=aY _ _ _ (hne165) dN
 have aG:=dI.trans dO (fun _ h b=>by subst b; omega)
 refine st_take rfl rfl (y_assign (v:=iv 0) rfl cI) rfl ?_
 obtain⟨f7,ag⟩:∃ a',a'=cG.put (some 10) (iv 0):=⟨_,rfl⟩
 have bG:=pz ag bC
 have dR:=pd ag dH
 have cN:=pn ag f2 (by decide)
 have f8:=pn ag f3 (by decide)
 have f9:=pn ag f4 (by decide)
 have ga:=pn ag f5 (by decide)
 have gb:=pn ag f6 (by decide)
 have iD:=pn ag cH (by decide)
 have iE:=pn ag cI (by decide)
 have gc:=pn ag cJ (by decide)
 have gd:f7.eval (.tmp 10)=iv 0:=by rw [ag]; exact put_same _ _ _ (by rw [bC]; decide)
 show stepsTo _ _ _ _ _ (cG.put (some 10) (iv 0)) _
 rw [← ag]
 refine st_nil (dG _ _ (wp_seq_k fun iF dS=>?_))
 refine wp_g [true,true,true,true,true,true,true,false,false] [5] [(7,false),(8,true)] 198
   [ve (vv v Av cv Bv dv),ve (vv x Ax cx Bx dx),ve (.tuple #[vv (Vl.mk 2 0 0 false [] [] (truthR (ltB v x))) none 0 none 0,iv 0]),ve (.tuple #[vv (Vl.mk 2 0 0 false [] [] (truthR (ltB v x))) none 0 none 0,iv 0]),ve (vv (Vl.mk 2 0 0 false [] [] (truthR (ltB v x))) none 0 none 0),ve (iv 0),IsNew cK 29 z7,vt,vt]
   [6] (newsCons (fun v w h=>IsNew.old h) newsNil) bG (.eq (.eq (.eq (.eq (.eq (.eq (.nw (.tt (.tt (.nil)))))))))) ?_ ?_ ?_
 refine .t (fun _ w hn k=>⟨_,v_load rfl (k.fx 3 cN) (l_agg Tryz.isAgg29 Tryz.sizeOf29 (bf.new_ hn) rfl),rfl⟩)<| .t (fun _ w hn k=>⟨_,v_load rfl (k.fx 5 f9) (l_agg Tryz.isAgg29 Tryz.sizeOf29 (dQ.new_ hn) rfl),rfl⟩)<| .o1 (ck rfl rfl rfl (fun _ w hn k=>⟨#[.string ⟨#[60]⟩,vv v Av cv Bv dv,vv x Ax cx Bx dx],args3 rfl (k.eq1 0 84 rfl) (k.eq1 1 85 rfl),fun _=>by kernel_rfl,lt_l v _ _ _ _ x _ _ _ _ _ (hmv.new_ (aG.transNew hn)) (hsv.new_ (aG.transNew hn)) (hmx.new_ (aG.transNew hn)) (hsx.new_ (aG.transNew hn)) hvv hvx hmv1 hmx1 hkvx hk3v⟩) fun _=>rfl)<| .m (fun k=>k.eq1 2 86 rfl)<| .t (fun _ w hn k=>⟨_,v_extract rfl (k.eq1 3 83 rfl) rfl,rfl⟩) ?_
 refine .o3 ?_
 exact .o2 (step_allocN (cs:=z7) (t:=29) rfl (noG rfl) (fun _ w hn k=>rfl) (fun q _ hq hb=>⟨q,rfl,hq,hb⟩))<| .off<| .off .nil
 intro i h
 simp only [List.contains_eq_mem,List.mem_cons,List.not_mem_nil,or_false,decide_eq_true_eq] at h
 subst h
 exact eager_take rfl rfl fun _ w hn k=>⟨iv 0,fun w=>v_extract rfl (k.eq1 3 83 rfl) rfl,rfl⟩
 refine aftI bG dR aG fun cO iG bH dT dU aZ an=>?_
 have gf:=an.fx 3 cN
 have gg:=an.fx 4 f8
 have gh:=an.fx 7 ga
 have gi:=an.fx 8 gb
 have gj:=an.fx 9 gc
 have gk:=an.fx 10 gd
 have cP:=an.ge 4 87 rfl
 have cQ:=an.ge 5 88 rfl
 obtain⟨az,cR,aR,dV⟩:=an.G 6 11
 have dW:=bf.new_ aZ
 have dX:=bE.new_ aZ
 have dY:=bF.new_ aZ
 have dZ:=bD.new_ aZ
 have hne216:q9 ≠ az:=by have h1:=bf.lt; have h2:=aR; omega
 have hne217:aP ≠ az:=by have h1:=bE.lt; have h2:=aR; omega
 have hne218:am ≠ az:=by have h1:=bF.lt; have h2:=aR; omega
 have hne219:aw ≠ az:=by have h1:=bD.lt; have h2:=aR; omega
 have ij:=Nat.le_trans aG.size aR
 obtain⟨cS,cU,cV,d0,a1⟩:=s_many (P:=Tryz.prog) (t:=29) (i:=0) [iv 2,iv 0,iv 0,.bool false,sv none ([]) 0,sv none ([]) 0,iv (truthR (ltB v x))] Tryz.sizeOf29 rfl rfl rfl dV lb
 have bI:Blk cS az 29 [iv 2,iv 0,iv 0,.bool false,sv none ([]) 0,sv none ([]) 0,iv (truthR (ltB v x))]:=cV
 refine st_act rfl rfl fun iH d1=>a_store' rfl cR cP cU (d1 _ _ trivial ?_)
 have bg:=a1 _ _ _ (hne216) dW
 have bh:=a1 _ _ _ (hne217) dX
 have bJ:=a1 _ _ _ (hne218) dY
 have bK:=a1 _ _ _ (hne219) dZ
 have aH:=dU.trans d0 (fun _ h b=>by subst b; omega)
 refine st_take rfl rfl (y_assign (v:=iv 0) rfl cQ) rfl ?_
 obtain⟨gl,ae⟩:∃ a',a'=cO.put (some 12) (iv 0):=⟨_,rfl⟩
 have bL:=pz ae bH
 have d2:=pd ae dT
 have cW:=pn ae gf (by decide)
 have cX:=pn ae gg (by decide)
 have gn:=pn ae gh (by decide)
 have go:=pn ae gi (by decide)
 have gp:=pn ae gj (by decide)
 have gr:=pn ae gk (by decide)
 have iI:=pn ae cP (by decide)
 have iJ:=pn ae cQ (by decide)
 have gs:=pn ae cR (by decide)
 have gt:gl.eval (.tmp 12)=iv 0:=by rw [ae]; exact put_same _ _ _ (by rw [bH]; decide)
 show stepsTo _ _ _ _ _ (cO.put (some 12) (iv 0)) _
 rw [← ae]
 refine st_nil (dS _ _ (wp_seq_k fun iK d3=>?_))
 refine wp_g [true,true,true,true,true,true,true,false,false] [5] [(7,false),(8,true)] 198
   [ve (vv v Av cv Bv dv),ve (vv u Au cu Bu du),ve (.tuple #[vv (Vl.mk 2 0 0 false [] [] (truthR (gtB v u))) none 0 none 0,iv 0]),ve (.tuple #[vv (Vl.mk 2 0 0 false [] [] (truthR (gtB v u))) none 0 none 0,iv 0]),ve (vv (Vl.mk 2 0 0 false [] [] (truthR (gtB v u))) none 0 none 0),ve (iv 0),IsNew cS 29 z7,vt,vt]
   [6] (newsCons (fun v w h=>IsNew.old h) newsNil) bL (.eq (.eq (.eq (.eq (.eq (.eq (.nw (.tt (.tt (.nil)))))))))) ?_ ?_ ?_
 refine .t (fun _ w hn k=>⟨_,v_load rfl (k.fx 3 cW) (l_agg Tryz.isAgg29 Tryz.sizeOf29 (bg.new_ hn) rfl),rfl⟩)<| .t (fun _ w hn k=>⟨_,v_load rfl (k.fx 4 cX) (l_agg Tryz.isAgg29 Tryz.sizeOf29 (bh.new_ hn) rfl),rfl⟩)<| .o1 (ck rfl rfl rfl (fun _ w hn k=>⟨#[.string ⟨#[62]⟩,vv v Av cv Bv dv,vv u Au cu Bu du],args3 rfl (k.eq1 0 90 rfl) (k.eq1 1 91 rfl),fun _=>by kernel_rfl,gt_l v _ _ _ _ u _ _ _ _ _ (hmv.new_ (aH.transNew hn)) (hsv.new_ (aH.transNew hn)) (hmu.new_ (aH.transNew hn)) (hsu.new_ (aH.transNew hn)) hvv hvu hmv1 hmu1 hkvu hk3v⟩) fun _=>rfl)<| .m (fun k=>k.eq1 2 92 rfl)<| .t (fun _ w hn k=>⟨_,v_extract rfl (k.eq1 3 89 rfl) rfl,rfl⟩) ?_
 refine .o3 ?_
 exact .o2 (step_allocN (cs:=z7) (t:=29) rfl (noG rfl) (fun _ w hn k=>rfl) (fun q _ hq hb=>⟨q,rfl,hq,hb⟩))<| .off<| .off .nil
 intro i h
 simp only [List.contains_eq_mem,List.mem_cons,List.not_mem_nil,or_false,decide_eq_true_eq] at h
 subst h
 exact eager_take rfl rfl fun _ w hn k=>⟨iv 0,fun w=>v_extract rfl (k.eq1 3 89 rfl) rfl,rfl⟩
 refine aftI bL d2 aH fun cY iL bM d4 d5 aS ah=>?_
 have gu:=ah.fx 3 cW
 have gv:=ah.fx 4 cX
 have gw:=ah.fx 7 gn
 have gx:=ah.fx 8 go
 have gy:=ah.fx 9 gp
 have gz:=ah.fx 10 gr
 have gA:=ah.fx 11 gs
 have gB:=ah.fx 12 gt
 have cZ:=ah.ge 4 93 rfl
 have c0:=ah.ge 5 94 rfl
 obtain⟨ap,c1,aI,d6⟩:=ah.G 6 13
 have d7:=bg.new_ aS
 have d8:=bh.new_ aS
 have d9:=bJ.new_ aS
 have ea:=bK.new_ aS
 have eb:=bI.new_ aS
 have hne274:q9 ≠ ap:=by have h1:=bg.lt; have h2:=aI; omega
 have hne275:aP ≠ ap:=by have h1:=bh.lt; have h2:=aI; omega
 have hne276:am ≠ ap:=by have h1:=bJ.lt; have h2:=aI; omega
 have hne277:aw ≠ ap:=by have h1:=bK.lt; have h2:=aI; omega
 have hne278:az ≠ ap:=by have h1:=bI.lt; have h2:=aI; omega
 have ik:=Nat.le_trans aH.size aI
 obtain⟨c2,c3,c4,ec,aT⟩:=s_many (P:=Tryz.prog) (t:=29) (i:=0) [iv 2,iv 0,iv 0,.bool false,sv none ([]) 0,sv none ([]) 0,iv (truthR (gtB v u))] Tryz.sizeOf29 rfl rfl rfl d6 lb
 have bN:Blk c2 ap 29 [iv 2,iv 0,iv 0,.bool false,sv none ([]) 0,sv none ([]) 0,iv (truthR (gtB v u))]:=c4
 refine st_act rfl rfl fun iM ed=>a_store' rfl c1 cZ c3 (ed _ _ trivial ?_)
 have bi:=aT _ _ _ (hne274) d7
 have bj:=aT _ _ _ (hne275) d8
 have bO:=aT _ _ _ (hne276) d9
 have bP:=aT _ _ _ (hne277) ea
 have bQ:=aT _ _ _ (hne278) eb
 have aJ:=d5.trans ec (fun _ h b=>by subst b; omega)
 refine st_take rfl rfl (y_assign (v:=iv 0) rfl c0) rfl ?_
 obtain⟨gC,ac⟩:∃ a',a'=cY.put (some 14) (iv 0):=⟨_,rfl⟩
 have bR:=pz ac bM
 have ee:=pd ac d4
 have c5:=pn ac gu (by decide)
 have c6:=pn ac gv (by decide)
 have gD:=pn ac gw (by decide)
 have gE:=pn ac gx (by decide)
 have gF:=pn ac gy (by decide)
 have gG:=pn ac gz (by decide)
 have gH:=pn ac gA (by decide)
 have gI:=pn ac gB (by decide)
 have iN:=pn ac cZ (by decide)
 have iO:=pn ac c0 (by decide)
 have gJ:=pn ac c1 (by decide)
 have gK:gC.eval (.tmp 14)=iv 0:=by rw [ac]; exact put_same _ _ _ (by rw [bM]; decide)
 show stepsTo _ _ _ _ _ (cY.put (some 14) (iv 0)) _
 rw [← ac]
 refine st_nil (d3 _ _ (wp_seq_k fun iP ef=>?_))
 refine wp_g [true,true,true,true,true,true,true,false,false] [5] [(7,false),(8,true)] 198
   [ve (vv v Av cv Bv dv),ve (vv u Au cu Bu du),ve (.tuple #[vv (Vl.mk 2 0 0 false [] [] (truthR (leB v u))) none 0 none 0,iv 0]),ve (.tuple #[vv (Vl.mk 2 0 0 false [] [] (truthR (leB v u))) none 0 none 0,iv 0]),ve (vv (Vl.mk 2 0 0 false [] [] (truthR (leB v u))) none 0 none 0),ve (iv 0),IsNew c2 29 z7,vt,vt]
   [6] (newsCons (fun v w h=>IsNew.old h) newsNil) bR (.eq (.eq (.eq (.eq (.eq (.eq (.nw (.tt (.tt (.nil)))))))))) ?_ ?_ ?_
 refine .t (fun _ w hn k=>⟨_,v_load rfl (k.fx 3 c5) (l_agg Tryz.isAgg29 Tryz.sizeOf29 (bi.new_ hn) rfl),rfl⟩)<| .t (fun _ w hn k=>⟨_,v_load rfl (k.fx 4 c6) (l_agg Tryz.isAgg29 Tryz.sizeOf29 (bj.new_ hn) rfl),rfl⟩)<| .o1 (ck rfl rfl rfl (fun _ w hn k=>⟨#[.string ⟨#[60,61]⟩,vv v Av cv Bv dv,vv u Au cu Bu du],args3 rfl (k.eq1 0 96 rfl) (k.eq1 1 97 rfl),fun _=>by kernel_rfl,le_l v _ _ _ _ u _ _ _ _ _ (hmv.new_ (aJ.transNew hn)) (hsv.new_ (aJ.transNew hn)) (hmu.new_ (aJ.transNew hn)) (hsu.new_ (aJ.transNew hn)) hvv hvu hmv1 hmu1 hkvu hk3v⟩) fun _=>rfl)<| .m (fun k=>k.eq1 2 98 rfl)<| .t (fun _ w hn k=>⟨_,v_extract rfl (k.eq1 3 95 rfl) rfl,rfl⟩) ?_
 refine .o3 ?_
 exact .o2 (step_allocN (cs:=z7) (t:=29) rfl (noG rfl) (fun _ w hn k=>rfl) (fun q _ hq hb=>⟨q,rfl,hq,hb⟩))<| .off<| .off .nil
 intro i h
 simp only [List.contains_eq_mem,List.mem_cons,List.not_mem_nil,or_false,decide_eq_true_eq] at h
 subst h
 exact eager_take rfl rfl fun _ w hn k=>⟨iv 0,fun w=>v_extract rfl (k.eq1 3 95 rfl) rfl,rfl⟩
 refine aftI bR ee aJ fun c8 iQ bS eg eh aK af=>?_
 have gL:=af.fx 3 c5
 have gM:=af.fx 4 c6
 have gN:=af.fx 7 gD
 have gO:=af.fx 8 gE
 have gP:=af.fx 9 gF
 have gQ:=af.fx 10 gG
 have gR:=af.fx 11 gH
 have gS:=af.fx 12 gI
 have gT:=af.fx 13 gJ
 have gU:=af.fx 14 gK
 have c9:=af.ge 4 99 rfl
 have da:=af.ge 5 100 rfl
 obtain⟨ax,db,aA,ei⟩:=af.G 6 15
 have ej:=bi.new_ aK
 have ek:=bj.new_ aK
 have el:=bO.new_ aK
 have em:=bP.new_ aK
 have en:=bQ.new_ aK
 have eo:=bN.new_ aK
 have hne339:q9 ≠ ax:=by have h1:=bi.lt; have h2:=aA; omega
 have hne340:aP ≠ ax:=by have h1:=bj.lt; have h2:=aA; omega
 have hne341:am ≠ ax:=by have h1:=bO.lt; have h2:=aA; omega
 have hne342:aw ≠ ax:=by have h1:=bP.lt; have h2:=aA; omega
 have hne343:az ≠ ax:=by have h1:=bQ.lt; have h2:=aA; omega
 have hne344:ap ≠ ax:=by have h1:=bN.lt; have h2:=aA; omega
 have il:=Nat.le_trans aJ.size aA
 obtain⟨dc,dd,de,ep,aL⟩:=s_many (P:=Tryz.prog) (t:=29) (i:=0) [iv 2,iv 0,iv 0,.bool false,sv none ([]) 0,sv none ([]) 0,iv (truthR (leB v u))] Tryz.sizeOf29 rfl rfl rfl ei lb
 have bT:Blk dc ax 29 [iv 2,iv 0,iv 0,.bool false,sv none ([]) 0,sv none ([]) 0,iv (truthR (leB v u))]:=de
 refine st_act rfl rfl fun iR er=>a_store' rfl db c9 dd (er _ _ trivial ?_)
 have bk:=aL _ _ _ (hne339) ej
 have bl:=aL _ _ _ (hne340) ek
 have bU:=aL _ _ _ (hne341) el
 have bV:=aL _ _ _ (hne342) em
 have bW:=aL _ _ _ (hne343) en
 have bX:=aL _ _ _ (hne344) eo
 have aM:=eh.trans ep (fun _ h b=>by subst b; omega)
 refine st_take rfl rfl (y_assign (v:=iv 0) rfl da) rfl ?_
 obtain⟨gV,ab⟩:∃ a',a'=c8.put (some 16) (iv 0):=⟨_,rfl⟩
 have bY:=pz ab bS
 have es:=pd ab eg
 have df:=pn ab gL (by decide)
 have dg:=pn ab gM (by decide)
 have gW:=pn ab gN (by decide)
 have gX:=pn ab gO (by decide)
 have gY:=pn ab gP (by decide)
 have gZ:=pn ab gQ (by decide)
 have g2:=pn ab gR (by decide)
 have g3:=pn ab gS (by decide)
 have g4:=pn ab gT (by decide)
 have g5:=pn ab gU (by decide)
 have iS:=pn ab c9 (by decide)
 have iT:=pn ab da (by decide)
 have g6:=pn ab db (by decide)
 have g7:gV.eval (.tmp 16)=iv 0:=by rw [ab]; exact put_same _ _ _ (by rw [bS]; decide)
 show stepsTo _ _ _ _ _ (c8.put (some 16) (iv 0)) _
 rw [← ab]
 refine st_nil (ef _ _ (wp_seq_k fun iU et=>?_))
 refine wp_g [true,true,true,true,true,true,true,false,false] [5] [(7,false),(8,true)] 198
   [ve (vv v Av cv Bv dv),ve (vv u Au cu Bu du),ve (.tuple #[vv (Vl.mk 2 0 0 false [] [] (truthR (stB v u))) none 0 none 0,iv 0]),ve (.tuple #[vv (Vl.mk 2 0 0 false [] [] (truthR (stB v u))) none 0 none 0,iv 0]),ve (vv (Vl.mk 2 0 0 false [] [] (truthR (stB v u))) none 0 none 0),ve (iv 0),IsNew dc 29 z7,vt,vt]
   [6] (newsCons (fun v w h=>IsNew.old h) newsNil) bY (.eq (.eq (.eq (.eq (.eq (.eq (.nw (.tt (.tt (.nil)))))))))) ?_ ?_ ?_
 refine .t (fun _ w hn k=>⟨_,v_load rfl (k.fx 3 df) (l_agg Tryz.isAgg29 Tryz.sizeOf29 (bk.new_ hn) rfl),rfl⟩)<| .t (fun _ w hn k=>⟨_,v_load rfl (k.fx 4 dg) (l_agg Tryz.isAgg29 Tryz.sizeOf29 (bl.new_ hn) rfl),rfl⟩)<| .o1 (ck rfl rfl rfl (fun _ w hn k=>⟨#[.string ⟨#[61,61,61]⟩,vv v Av cv Bv dv,vv u Au cu Bu du],args3 rfl (k.eq1 0 102 rfl) (k.eq1 1 103 rfl),fun _=>by kernel_rfl,st_l v _ _ _ _ u _ _ _ _ _ (hmv.new_ (aM.transNew hn)) (hsv.new_ (aM.transNew hn)) (hmu.new_ (aM.transNew hn)) (hsu.new_ (aM.transNew hn)) hvv hvu hmv1 hmu1 hkvu hk3v⟩) fun _=>rfl)<| .m (fun k=>k.eq1 2 104 rfl)<| .t (fun _ w hn k=>⟨_,v_extract rfl (k.eq1 3 101 rfl) rfl,rfl⟩) ?_
 refine .o3 ?_
 exact .o2 (step_allocN (cs:=z7) (t:=29) rfl (noG rfl) (fun _ w hn k=>rfl) (fun q _ hq hb=>⟨q,rfl,hq,hb⟩))<| .off<| .off .nil
 intro i h
 simp only [List.contains_eq_mem,List.mem_cons,List.not_mem_nil,or_false,decide_eq_true_eq] at h
 subst h
 exact eager_take rfl rfl fun _ w hn k=>⟨iv 0,fun w=>v_extract rfl (k.eq1 3 101 rfl) rfl,rfl⟩
 refine aftI bY es aM fun dh iV bZ eu ev aB ad=>?_
 have g8:=ad.fx 3 df
 have g9:=ad.fx 4 dg
 have ha:=ad.fx 7 gW
 have hc:=ad.fx 8 gX
 have hd:=ad.fx 9 gY
 have he:=ad.fx 10 gZ
 have hf:=ad.fx 11 g2
 have hh:=ad.fx 12 g3
 have hi:=ad.fx 13 g4
 have hj:=ad.fx 14 g5
 have hl:=ad.fx 15 g6
 have hm:=ad.fx 16 g7
 have di:=ad.ge 4 105 rfl
 have dj:=ad.ge 5 106 rfl
 obtain⟨ay,dk,au,ew⟩:=ad.G 6 17
 have ex:=bk.new_ aB
 have ey:=bl.new_ aB
 have ez:=bU.new_ aB
 have eA:=bV.new_ aB
 have eB:=bW.new_ aB
 have eC:=bX.new_ aB
 have eD:=bT.new_ aB
 have hne411:q9 ≠ ay:=by have h1:=bk.lt; have h2:=au; omega
 have hne412:aP ≠ ay:=by have h1:=bl.lt; have h2:=au; omega
 have hne413:am ≠ ay:=by have h1:=bU.lt; have h2:=au; omega
 have hne414:aw ≠ ay:=by have h1:=bV.lt; have h2:=au; omega
 have hne415:az ≠ ay:=by have h1:=bW.lt; have h2:=au; omega
 have hne416:ap ≠ ay:=by have h1:=bX.lt; have h2:=au; omega
 have hne417:ax ≠ ay:=by have h1:=bT.lt; have h2:=au; omega
 have im:=Nat.le_trans aM.size au
 obtain⟨ho,dl,dm,eE,aC⟩:=s_many (P:=Tryz.prog) (t:=29) (i:=0) [iv 2,iv 0,iv 0,.bool false,sv none ([]) 0,sv none ([]) 0,iv (truthR (stB v u))] Tryz.sizeOf29 rfl rfl rfl ew lb
 have eF:Blk ho ay 29 [iv 2,iv 0,iv 0,.bool false,sv none ([]) 0,sv none ([]) 0,iv (truthR (stB v u))]:=dm
 refine st_act rfl rfl fun iW eG=>a_store' rfl dk di dl (eG _ _ trivial ?_)
 have eH:=aC _ _ _ (hne411) ex
 have eI:=aC _ _ _ (hne412) ey
 have eJ:=aC _ _ _ (hne413) ez
 have eK:=aC _ _ _ (hne414) eA
 have eL:=aC _ _ _ (hne415) eB
 have eM:=aC _ _ _ (hne416) eC
 have eN:=aC _ _ _ (hne417) eD
 have eO:=ev.trans eE (fun _ h b=>by subst b; omega)
 refine st_take rfl rfl (y_assign (v:=iv 0) rfl dj) rfl ?_
 obtain⟨hr,aa⟩:∃ a',a'=dh.put (some 18) (iv 0):=⟨_,rfl⟩
 have b0:=pz aa bZ
 have eP:=pd aa eu
 have hs:=pn aa g8 (by decide)
 have ht:=pn aa g9 (by decide)
 have hu:=pn aa ha (by decide)
 have hv:=pn aa hc (by decide)
 have hw:=pn aa hd (by decide)
 have hx:=pn aa he (by decide)
 have hy:=pn aa hf (by decide)
 have hz:=pn aa hh (by decide)
 have hA:=pn aa hi (by decide)
 have hC:=pn aa hj (by decide)
 have hD:=pn aa hl (by decide)
 have hE:=pn aa hm (by decide)
 have iX:=pn aa di (by decide)
 have iY:=pn aa dj (by decide)
 have hF:=pn aa dk (by decide)
 have hH:hr.eval (.tmp 18)=iv 0:=by rw [aa]; exact put_same _ _ _ (by rw [bZ]; decide)
 show stepsTo _ _ _ _ _ (dh.put (some 18) (iv 0)) _
 rw [← aa]
 refine st_nil (et _ _ (wp_seq_k fun iZ eQ=>?_))
 refine wp_seq_k fun i0 eR=>?_
 refine wp_g0 (.replicate 22 true) [] 198
   [ve (iv 0),vF,vF,ve (iv 0),vF,vF,vF,ve (iv 0),vF,vF,vF,ve (iv 0),vF,vF,vF,ve (iv 0),vF,vF,vF,ve (iv 0),vF,vF] b0 (.eq (.eq (.eq (.eq (.eq (.eq (.eq (.eq (.eq (.eq (.eq (.eq (.eq (.eq (.eq (.eq (.eq (.eq (.eq (.eq (.eq (.eq (.nil))))))))))))))))))))))) ?_ ?_
 exact .m (fun k=>k.fx 8 hv)<| .t (fun _ w hn k=>⟨_,v_bin rfl (k.eq1 0 107 rfl) rfl (fun _=>rfl) (fun w=>by kernel_rfl),rfl⟩)<| .m (fun k=>k.eq1 1 108 rfl)<| .gm (fun k=>k.eq1 2 109 rfl) (fun k=>k.fx 10 hx)<| .g (fun k=>k.eq1 2 109 rfl) (fun _ w hn k=>⟨_,v_bin rfl (k.eq1 3 110 rfl) rfl (fun _=>rfl) (fun w=>by kernel_rfl),rfl⟩)<| .t (fun _ w hn k=>⟨_,v_pickF rfl (k.eq1 2 109 rfl) (k.eq1 4 111 rfl),rfl⟩)<| .m (fun k=>k.eq1 5 112 rfl)<| .gm (fun k=>k.eq1 6 113 rfl) (fun k=>k.fx 12 hz)<| .g (fun k=>k.eq1 6 113 rfl) (fun _ w hn k=>⟨_,v_bin rfl (k.eq1 7 114 rfl) rfl (fun _=>rfl) (fun w=>by kernel_rfl),rfl⟩)<| .t (fun _ w hn k=>⟨_,v_pickF rfl (k.eq1 6 113 rfl) (k.eq1 8 115 rfl),rfl⟩)<| .m (fun k=>k.eq1 9 116 rfl)<| .gm (fun k=>k.eq1 10 117 rfl) (fun k=>k.fx 14 hC)<| .g (fun k=>k.eq1 10 117 rfl) (fun _ w hn k=>⟨_,v_bin rfl (k.eq1 11 118 rfl) rfl (fun _=>rfl) (fun w=>by kernel_rfl),rfl⟩)<| .t (fun _ w hn k=>⟨_,v_pickF rfl (k.eq1 10 117 rfl) (k.eq1 12 119 rfl),rfl⟩)<| .m (fun k=>k.eq1 13 120 rfl)<| .gm (fun k=>k.eq1 14 121 rfl) (fun k=>k.fx 16 hE)<| .g (fun k=>k.eq1 14 121 rfl) (fun _ w hn k=>⟨_,v_bin rfl (k.eq1 15 122 rfl) rfl (fun _=>rfl) (fun w=>by kernel_rfl),rfl⟩)<| .t (fun _ w hn k=>⟨_,v_pickF rfl (k.eq1 14 121 rfl) (k.eq1 16 123 rfl),rfl⟩)<| .m (fun k=>k.eq1 17 124 rfl)<| .gm (fun k=>k.eq1 18 125 rfl) (fun k=>k.fx 18 hH)<| .g (fun k=>k.eq1 18 125 rfl) (fun _ w hn k=>⟨_,v_bin rfl (k.eq1 19 126 rfl) rfl (fun _=>rfl) (fun w=>by kernel_rfl),rfl⟩)<| .t (fun _ w hn k=>⟨_,v_pickF rfl (k.eq1 18 125 rfl) (k.eq1 20 127 rfl),rfl⟩) .nil
 refine aftI b0 eP eO fun i1 i2 b1 eS eT av ao=>?_
 have dn:=ao.fx 3 hs
 have hI:=ao.fx 4 ht
 have hJ:=ao.fx 7 hu
 have hK:=ao.fx 9 hw
 have hL:=ao.fx 11 hy
 have hM:=ao.fx 13 hA
 have hN:=ao.fx 15 hD
 have hO:=ao.fx 17 hF
 have hP:=ao.ge 21 128 rfl
 have b2:=eH.new_ av
 have eU:=eI.new_ av
 have eV:=eJ.new_ av
 have eW:=eK.new_ av
 have eX:=eL.new_ av
 have eY:=eM.new_ av
 have eZ:=eN.new_ av
 have e0:=eF.new_ av
 refine st_nil (eR _ _ ?_)
 refine wp_cond_false hP ?_
 refine wp_skip ?_
 refine eQ _ _ ?_
 refine wp_seq_k fun i3 e1=>?_
 refine wp_g0 (.replicate 16 true) [] 198
   [ve (pv q9),ve (iv v.k),ve (.bool (decide (v.k=3))),ve (.bool (decide (v.k=3))),ve (gq (decide (v.k=3)) (.pointer (some ⟨q9,1,none⟩))),ve (gq (decide (v.k=3)) (.pointer (some ⟨q9,1,none⟩))),ve (gq (decide (v.k=3)) (iv v.nk)),ve (gq (decide (v.k=3)) (.bool (decide (v.nk=2)))),ve (gq (decide (v.k=3)) (.bool (decide (v.nk=2)))),ve (gq ((decide (v.k=3)) && (!(decide (v.nk=2)))) (.pointer (some ⟨aP,1,none⟩))),ve (gq ((decide (v.k=3)) && (!(decide (v.nk=2)))) (.pointer (some ⟨aP,1,none⟩))),ve (gq ((decide (v.k=3)) && (!(decide (v.nk=2)))) (iv u.nk)),ve (gq ((decide (v.k=3)) && (!(decide (v.nk=2)))) (.bool (decide (u.nk=2)))),ve (gq (decide (v.k=3)) (.bool ((decide (v.nk=2)) || (decide (u.nk=2))))),ve (.bool ((decide (v.k=3)) && ((decide (v.nk=2)) || (decide (u.nk=2))))),ve (.bool ((decide (v.k=3)) && ((decide (v.nk=2)) || (decide (u.nk=2)))))] b1 (.eq (.eq (.eq (.eq (.eq (.eq (.eq (.eq (.eq (.eq (.eq (.eq (.eq (.eq (.eq (.eq (.nil))))))))))))))))) ?_ ?_
 exact .f (fun k=>k.fx 3 dn)<| .t (fun _ w hn k=>⟨_,v_load rfl (k.eq1 0 129 rfl) (l_one Tryz.isAgg3 ((b2.new_ hn).cell 0)),rfl⟩)<| .t (fun _ w hn k=>⟨_,v_bin rfl (k.eq1 1 130 rfl) rfl (fun _=>rfl) (r_eql rfl),rfl⟩)<| .m (fun k=>k.eq1 2 131 rfl)<| .o1 (sc (G:=(decide (v.k=3))) rfl rfl rfl (fun _ _ k=>g0 (k.eq1 3 132 rfl)) (fun hG _ w hn k=>v_field rfl (k.fx 3 dn) (fun w=>rfl)))<| .o1 (sc (G:=(decide (v.k=3))) rfl rfl rfl (fun _ _ k=>g0 (k.eq1 3 132 rfl)) (fun hG _ w hn k=>v_field rfl (cT hG (k.eq1 4 133 rfl)) (fun w=>rfl)))<| .o1 (sc (G:=(decide (v.k=3))) rfl rfl rfl (fun _ _ k=>g0 (k.eq1 3 132 rfl)) (fun hG _ w hn k=>v_load rfl (cT hG (k.eq1 5 134 rfl)) (l_one Tryz.isAgg3 ((b2.new_ hn).cell 1))))<| .o1 (sc (G:=(decide (v.k=3))) rfl rfl rfl (fun _ _ k=>g0 (k.eq1 3 132 rfl)) (fun hG _ w hn k=>v_bin rfl (cT hG (k.eq1 6 135 rfl)) rfl (fun _=>rfl) (r_eql rfl)))<| .o1 (sc (G:=(decide (v.k=3))) rfl rfl rfl (fun _ _ k=>g0 (k.eq1 3 132 rfl)) (fun hG _ w hn k=>v_move rfl (cT hG (k.eq1 7 136 rfl))))<| .o1 (sc (G:=((decide (v.k=3)) && (!(decide (v.nk=2))))) rfl rfl rfl (fun _ _ k=>g1' (k.eq1 8 137 rfl)) (fun hG _ w hn k=>v_field rfl (k.fx 4 hI) (fun w=>rfl)))<| .o1 (sc (G:=((decide (v.k=3)) && (!(decide (v.nk=2))))) rfl rfl rfl (fun _ _ k=>g1' (k.eq1 8 137 rfl)) (fun hG _ w hn k=>v_field rfl (cT hG (k.eq1 9 138 rfl)) (fun w=>rfl)))<| .o1 (sc (G:=((decide (v.k=3)) && (!(decide (v.nk=2))))) rfl rfl rfl (fun _ _ k=>g1' (k.eq1 8 137 rfl)) (fun hG _ w hn k=>v_load rfl (cT hG (k.eq1 10 139 rfl)) (l_one Tryz.isAgg3 ((eU.new_ hn).cell 1))))<| .o1 (sc (G:=((decide (v.k=3)) && (!(decide (v.nk=2))))) rfl rfl rfl (fun _ _ k=>g1' (k.eq1 8 137 rfl)) (fun hG _ w hn k=>v_bin rfl (cT hG (k.eq1 11 140 rfl)) rfl (fun _=>rfl) (r_eql rfl)))<| .o1 (sc (G:=(decide (v.k=3))) rfl rfl rfl (fun _ _ k=>g0 (k.eq1 3 132 rfl)) (fun hG _ w hn k=>v_or rfl (cT hG (k.eq1 8 137 rfl)) rfl (fun hg=>(cT (aj hG (nt hg)) (k.eq1 12 141 rfl)))))<| .t (fun _ w hn k=>⟨_,v_and rfl (k.eq1 3 132 rfl) (fun hg=>(cT hg (k.eq1 13 142 rfl))) rfl,rfl⟩)<| .a (fun k=>k.eq1 14 143 rfl) .nil
 refine aftI b1 eS eT fun i4 i5 b3 e2 e3 aN aD=>?_
 have dp:=aD.fx 7 hJ
 have hQ:=aD.fx 9 hK
 have hR:=aD.fx 11 hL
 have hS:=aD.fx 13 hM
 have hT:=aD.fx 15 hN
 have hU:=aD.fx 17 hO
 have hV:=aD.ge 15 19 rfl
 have b4:=eV.new_ aN
 have e4:=eW.new_ aN
 have e5:=eX.new_ aN
 have e6:=eY.new_ aN
 have e7:=eZ.new_ aN
 have e8:=e0.new_ aN
 refine st_nil (e1 _ _ (wp_seq_k fun i6 e9=>?_))
 refine wp_seq_k fun i7 fa=>?_
 refine wp_g0 (.replicate 13 true) [] 198
   [ve (.pointer (some ⟨am,6,none⟩)),ve (iv (truthR (ltB v u))),ve (.bool (decide ((truthR (ltB v u))=1))),ve (.bool (decide ((truthR (ltB v u))=1))),ve (gq (decide ((truthR (ltB v u))=1)) (.pointer (some ⟨aw,6,none⟩))),ve (gq (decide ((truthR (ltB v u))=1)) (iv (truthR (ltB u x)))),ve (gq (decide ((truthR (ltB v u))=1)) (.bool (decide ((truthR (ltB u x))=1)))),ve (.bool ((decide ((truthR (ltB v u))=1)) && (decide ((truthR (ltB u x))=1)))),ve (.bool ((decide ((truthR (ltB v u))=1)) && (decide ((truthR (ltB u x))=1)))),ve (gq ((decide ((truthR (ltB v u))=1)) && (decide ((truthR (ltB u x))=1))) (.pointer (some ⟨az,6,none⟩))),ve (gq ((decide ((truthR (ltB v u))=1)) && (decide ((truthR (ltB u x))=1))) (iv (truthR (ltB v x)))),ve (gq ((decide ((truthR (ltB v u))=1)) && (decide ((truthR (ltB u x))=1))) (.bool (!decide ((truthR (ltB v x))=1)))),ve (.bool (((decide ((truthR (ltB v u))=1)) && (decide ((truthR (ltB u x))=1))) && (!decide ((truthR (ltB v x))=1))))] b3 (.eq (.eq (.eq (.eq (.eq (.eq (.eq (.eq (.eq (.eq (.eq (.eq (.eq (.nil)))))))))))))) ?_ ?_
 exact .f (fun k=>k.fx 7 dp)<| .t (fun _ w hn k=>⟨_,v_load rfl (k.eq1 0 144 rfl) (l_one Tryz.isAgg3 ((b4.new_ hn).cell 6)),rfl⟩)<| .t (fun _ w hn k=>⟨_,v_bin rfl (k.eq1 1 145 rfl) rfl (fun _=>rfl) (r_eql rfl),rfl⟩)<| .m (fun k=>k.eq1 2 146 rfl)<| .o1 (sc (G:=(decide ((truthR (ltB v u))=1))) rfl rfl rfl (fun _ _ k=>g0 (k.eq1 3 147 rfl)) (fun hG _ w hn k=>v_field rfl (k.fx 9 hQ) (fun w=>rfl)))<| .o1 (sc (G:=(decide ((truthR (ltB v u))=1))) rfl rfl rfl (fun _ _ k=>g0 (k.eq1 3 147 rfl)) (fun hG _ w hn k=>v_load rfl (cT hG (k.eq1 4 148 rfl)) (l_one Tryz.isAgg3 ((e4.new_ hn).cell 6))))<| .o1 (sc (G:=(decide ((truthR (ltB v u))=1))) rfl rfl rfl (fun _ _ k=>g0 (k.eq1 3 147 rfl)) (fun hG _ w hn k=>v_bin rfl (cT hG (k.eq1 5 149 rfl)) rfl (fun _=>rfl) (r_eql rfl)))<| .t (fun _ w hn k=>⟨_,v_and rfl (k.eq1 3 147 rfl) (fun hg=>(cT hg (k.eq1 6 150 rfl))) rfl,rfl⟩)<| .m (fun k=>k.eq1 7 151 rfl)<| .o1 (sc (G:=((decide ((truthR (ltB v u))=1)) && (decide ((truthR (ltB u x))=1)))) rfl rfl rfl (fun _ _ k=>g0 (k.eq1 8 152 rfl)) (fun hG _ w hn k=>v_field rfl (k.fx 11 hR) (fun w=>rfl)))<| .o1 (sc (G:=((decide ((truthR (ltB v u))=1)) && (decide ((truthR (ltB u x))=1)))) rfl rfl rfl (fun _ _ k=>g0 (k.eq1 8 152 rfl)) (fun hG _ w hn k=>v_load rfl (cT hG (k.eq1 9 153 rfl)) (l_one Tryz.isAgg3 ((e5.new_ hn).cell 6))))<| .o1 (sc (G:=((decide ((truthR (ltB v u))=1)) && (decide ((truthR (ltB u x))=1)))) rfl rfl rfl (fun _ _ k=>g0 (k.eq1 8 152 rfl)) (fun hG _ w hn k=>v_bin rfl (cT hG (k.eq1 10 154 rfl)) rfl (fun _=>rfl) (r_neq rfl)))<| .t (fun _ w hn k=>⟨_,v_and rfl (k.eq1 8 152 rfl) (fun hg=>(cT hg (k.eq1 11 155 rfl))) rfl,rfl⟩) .nil
 refine aftI b3 e2 e3 fun i8 i9 b5 fb b6 a3 aO=>?_
 have dq:=aO.fx 7 dp
 have bu:=aO.fx 13 hS
 have dr:=aO.fx 15 hT
 have ds:=aO.fx 17 hU
 have dt:=aO.fx 19 hV
 have hW:=aO.ge 12 156 rfl
 have b7:=b4.new_ a3
 have bm:=e6.new_ a3
 have b8:=e7.new_ a3
 have b9:=e8.new_ a3
 refine st_nil (fa _ _ ?_)
 have fc:((((decide ((truthR (ltB v u))=1)) && (decide ((truthR (ltB u x))=1))) && (!decide ((truthR (ltB v x))=1))))=false:=lt_trans3 hkvu hkux
 have fd:=hB hW fc
 refine wp_cond_false fd ?_
 refine wp_skip ?_
 refine e9 _ _ ?_
 refine wp_seq_k fun ja fe=>?_
 refine wp_g0 (.replicate 42 true) [] 198
   [vT,vT,ve (.bool ((decide (v.k=3)) && ((decide (v.nk=2)) || (decide (u.nk=2))))),ve (.bool ((decide (v.k=3)) && ((decide (v.nk=2)) || (decide (u.nk=2))))),ve (gq ((decide (v.k=3)) && ((decide (v.nk=2)) || (decide (u.nk=2)))) (.pointer (some ⟨am,6,none⟩))),ve (gq ((decide (v.k=3)) && ((decide (v.nk=2)) || (decide (u.nk=2)))) (iv (truthR (ltB v u)))),ve (gq ((decide (v.k=3)) && ((decide (v.nk=2)) || (decide (u.nk=2)))) (.pointer (some ⟨ap,6,none⟩))),ve (gq ((decide (v.k=3)) && ((decide (v.nk=2)) || (decide (u.nk=2)))) (iv (truthR (gtB v u)))),ve (gq ((decide (v.k=3)) && ((decide (v.nk=2)) || (decide (u.nk=2)))) (iv ((truthR (ltB v u)) + (truthR (gtB v u))))),ve (gq ((decide (v.k=3)) && ((decide (v.nk=2)) || (decide (u.nk=2)))) (.pointer (some ⟨ay,6,none⟩))),ve (gq ((decide (v.k=3)) && ((decide (v.nk=2)) || (decide (u.nk=2)))) (iv (truthR (stB v u)))),ve (gq ((decide (v.k=3)) && ((decide (v.nk=2)) || (decide (u.nk=2)))) (iv (((truthR (ltB v u)) + (truthR (gtB v u))) + (truthR (stB v u))))),ve (gq ((decide (v.k=3)) && ((decide (v.nk=2)) || (decide (u.nk=2)))) (.pointer (some ⟨ax,6,none⟩))),ve (gq ((decide (v.k=3)) && ((decide (v.nk=2)) || (decide (u.nk=2)))) (iv (truthR (leB v u)))),ve (gq ((decide (v.k=3)) && ((decide (v.nk=2)) || (decide (u.nk=2)))) (iv ((((truthR (ltB v u)) + (truthR (gtB v u))) + (truthR (stB v u))) + (truthR (leB v u))))),ve (gq ((decide (v.k=3)) && ((decide (v.nk=2)) || (decide (u.nk=2)))) (.bool (decide (((((truthR (ltB v u)) + (truthR (gtB v u))) + (truthR (stB v u))) + (truthR (leB v u)))=0)))),ve (.bool (((decide (v.k=3)) && ((decide (v.nk=2)) || (decide (u.nk=2)))) && (decide (((((truthR (ltB v u)) + (truthR (gtB v u))) + (truthR (stB v u))) + (truthR (leB v u)))=0)))),ve (.bool (((decide (v.k=3)) && ((decide (v.nk=2)) || (decide (u.nk=2)))) && (decide (((((truthR (ltB v u)) + (truthR (gtB v u))) + (truthR (stB v u))) + (truthR (leB v u)))=0)))),ve (gq (!(((decide (v.k=3)) && ((decide (v.nk=2)) || (decide (u.nk=2)))) && (decide (((((truthR (ltB v u)) + (truthR (gtB v u))) + (truthR (stB v u))) + (truthR (leB v u)))=0)))) (.bool ((decide (v.k=3)) && ((decide (v.nk=2)) || (decide (u.nk=2)))))),ve (gq (!(((decide (v.k=3)) && ((decide (v.nk=2)) || (decide (u.nk=2)))) && (decide (((((truthR (ltB v u)) + (truthR (gtB v u))) + (truthR (stB v u))) + (truthR (leB v u)))=0)))) (.bool (!((decide (v.k=3)) && ((decide (v.nk=2)) || (decide (u.nk=2))))))),ve (gq (!(((decide (v.k=3)) && ((decide (v.nk=2)) || (decide (u.nk=2)))) && (decide (((((truthR (ltB v u)) + (truthR (gtB v u))) + (truthR (stB v u))) + (truthR (leB v u)))=0)))) (.bool (!((decide (v.k=3)) && ((decide (v.nk=2)) || (decide (u.nk=2))))))),ve (gq ((!(((decide (v.k=3)) && ((decide (v.nk=2)) || (decide (u.nk=2)))) && (decide (((((truthR (ltB v u)) + (truthR (gtB v u))) + (truthR (stB v u))) + (truthR (leB v u)))=0)))) && (!((decide (v.k=3)) && ((decide (v.nk=2)) || (decide (u.nk=2)))))) (.pointer (some ⟨am,6,none⟩))),ve (gq ((!(((decide (v.k=3)) && ((decide (v.nk=2)) || (decide (u.nk=2)))) && (decide (((((truthR (ltB v u)) + (truthR (gtB v u))) + (truthR (stB v u))) + (truthR (leB v u)))=0)))) && (!((decide (v.k=3)) && ((decide (v.nk=2)) || (decide (u.nk=2)))))) (iv (truthR (ltB v u)))),ve (gq ((!(((decide (v.k=3)) && ((decide (v.nk=2)) || (decide (u.nk=2)))) && (decide (((((truthR (ltB v u)) + (truthR (gtB v u))) + (truthR (stB v u))) + (truthR (leB v u)))=0)))) && (!((decide (v.k=3)) && ((decide (v.nk=2)) || (decide (u.nk=2)))))) (.pointer (some ⟨ap,6,none⟩))),ve (gq ((!(((decide (v.k=3)) && ((decide (v.nk=2)) || (decide (u.nk=2)))) && (decide (((((truthR (ltB v u)) + (truthR (gtB v u))) + (truthR (stB v u))) + (truthR (leB v u)))=0)))) && (!((decide (v.k=3)) && ((decide (v.nk=2)) || (decide (u.nk=2)))))) (iv (truthR (gtB v u)))),ve (gq ((!(((decide (v.k=3)) && ((decide (v.nk=2)) || (decide (u.nk=2)))) && (decide (((((truthR (ltB v u)) + (truthR (gtB v u))) + (truthR (stB v u))) + (truthR (leB v u)))=0)))) && (!((decide (v.k=3)) && ((decide (v.nk=2)) || (decide (u.nk=2)))))) (iv ((truthR (ltB v u)) + (truthR (gtB v u))))),ve (gq ((!(((decide (v.k=3)) && ((decide (v.nk=2)) || (decide (u.nk=2)))) && (decide (((((truthR (ltB v u)) + (truthR (gtB v u))) + (truthR (stB v u))) + (truthR (leB v u)))=0)))) && (!((decide (v.k=3)) && ((decide (v.nk=2)) || (decide (u.nk=2)))))) (.pointer (some ⟨ay,6,none⟩))),ve (gq ((!(((decide (v.k=3)) && ((decide (v.nk=2)) || (decide (u.nk=2)))) && (decide (((((truthR (ltB v u)) + (truthR (gtB v u))) + (truthR (stB v u))) + (truthR (leB v u)))=0)))) && (!((decide (v.k=3)) && ((decide (v.nk=2)) || (decide (u.nk=2)))))) (iv (truthR (stB v u)))),ve (gq ((!(((decide (v.k=3)) && ((decide (v.nk=2)) || (decide (u.nk=2)))) && (decide (((((truthR (ltB v u)) + (truthR (gtB v u))) + (truthR (stB v u))) + (truthR (leB v u)))=0)))) && (!((decide (v.k=3)) && ((decide (v.nk=2)) || (decide (u.nk=2)))))) (iv (((truthR (ltB v u)) + (truthR (gtB v u))) + (truthR (stB v u))))),ve (gq ((!(((decide (v.k=3)) && ((decide (v.nk=2)) || (decide (u.nk=2)))) && (decide (((((truthR (ltB v u)) + (truthR (gtB v u))) + (truthR (stB v u))) + (truthR (leB v u)))=0)))) && (!((decide (v.k=3)) && ((decide (v.nk=2)) || (decide (u.nk=2)))))) (.bool (decide ((((truthR (ltB v u)) + (truthR (gtB v u))) + (truthR (stB v u)))=1)))),ve (gq (!(((decide (v.k=3)) && ((decide (v.nk=2)) || (decide (u.nk=2)))) && (decide (((((truthR (ltB v u)) + (truthR (gtB v u))) + (truthR (stB v u))) + (truthR (leB v u)))=0)))) (.bool ((!((decide (v.k=3)) && ((decide (v.nk=2)) || (decide (u.nk=2))))) && (decide ((((truthR (ltB v u)) + (truthR (gtB v u))) + (truthR (stB v u)))=1))))),ve (gq (!(((decide (v.k=3)) && ((decide (v.nk=2)) || (decide (u.nk=2)))) && (decide (((((truthR (ltB v u)) + (truthR (gtB v u))) + (truthR (stB v u))) + (truthR (leB v u)))=0)))) (.bool ((!((decide (v.k=3)) && ((decide (v.nk=2)) || (decide (u.nk=2))))) && (decide ((((truthR (ltB v u)) + (truthR (gtB v u))) + (truthR (stB v u)))=1))))),ve (gq ((!(((decide (v.k=3)) && ((decide (v.nk=2)) || (decide (u.nk=2)))) && (decide (((((truthR (ltB v u)) + (truthR (gtB v u))) + (truthR (stB v u))) + (truthR (leB v u)))=0)))) && ((!((decide (v.k=3)) && ((decide (v.nk=2)) || (decide (u.nk=2))))) && (decide ((((truthR (ltB v u)) + (truthR (gtB v u))) + (truthR (stB v u)))=1)))) (.pointer (some ⟨ax,6,none⟩))),ve (gq ((!(((decide (v.k=3)) && ((decide (v.nk=2)) || (decide (u.nk=2)))) && (decide (((((truthR (ltB v u)) + (truthR (gtB v u))) + (truthR (stB v u))) + (truthR (leB v u)))=0)))) && ((!((decide (v.k=3)) && ((decide (v.nk=2)) || (decide (u.nk=2))))) && (decide ((((truthR (ltB v u)) + (truthR (gtB v u))) + (truthR (stB v u)))=1)))) (iv (truthR (leB v u)))),ve (gq ((!(((decide (v.k=3)) && ((decide (v.nk=2)) || (decide (u.nk=2)))) && (decide (((((truthR (ltB v u)) + (truthR (gtB v u))) + (truthR (stB v u))) + (truthR (leB v u)))=0)))) && ((!((decide (v.k=3)) && ((decide (v.nk=2)) || (decide (u.nk=2))))) && (decide ((((truthR (ltB v u)) + (truthR (gtB v u))) + (truthR (stB v u)))=1)))) (.pointer (some ⟨ap,6,none⟩))),ve (gq ((!(((decide (v.k=3)) && ((decide (v.nk=2)) || (decide (u.nk=2)))) && (decide (((((truthR (ltB v u)) + (truthR (gtB v u))) + (truthR (stB v u))) + (truthR (leB v u)))=0)))) && ((!((decide (v.k=3)) && ((decide (v.nk=2)) || (decide (u.nk=2))))) && (decide ((((truthR (ltB v u)) + (truthR (gtB v u))) + (truthR (stB v u)))=1)))) (iv (truthR (gtB v u)))),ve (gq ((!(((decide (v.k=3)) && ((decide (v.nk=2)) || (decide (u.nk=2)))) && (decide (((((truthR (ltB v u)) + (truthR (gtB v u))) + (truthR (stB v u))) + (truthR (leB v u)))=0)))) && ((!((decide (v.k=3)) && ((decide (v.nk=2)) || (decide (u.nk=2))))) && (decide ((((truthR (ltB v u)) + (truthR (gtB v u))) + (truthR (stB v u)))=1)))) (iv (1 - (truthR (gtB v u))))),ve (gq ((!(((decide (v.k=3)) && ((decide (v.nk=2)) || (decide (u.nk=2)))) && (decide (((((truthR (ltB v u)) + (truthR (gtB v u))) + (truthR (stB v u))) + (truthR (leB v u)))=0)))) && ((!((decide (v.k=3)) && ((decide (v.nk=2)) || (decide (u.nk=2))))) && (decide ((((truthR (ltB v u)) + (truthR (gtB v u))) + (truthR (stB v u)))=1)))) (.bool (decide ((truthR (leB v u))=(1 - (truthR (gtB v u))))))),ve (gq (!(((decide (v.k=3)) && ((decide (v.nk=2)) || (decide (u.nk=2)))) && (decide (((((truthR (ltB v u)) + (truthR (gtB v u))) + (truthR (stB v u))) + (truthR (leB v u)))=0)))) (.bool (((!((decide (v.k=3)) && ((decide (v.nk=2)) || (decide (u.nk=2))))) && (decide ((((truthR (ltB v u)) + (truthR (gtB v u))) + (truthR (stB v u)))=1))) && (decide ((truthR (leB v u))=(1 - (truthR (gtB v u)))))))),ve (.bool ((((decide (v.k=3)) && ((decide (v.nk=2)) || (decide (u.nk=2)))) && (decide (((((truthR (ltB v u)) + (truthR (gtB v u))) + (truthR (stB v u))) + (truthR (leB v u)))=0))) || (((!((decide (v.k=3)) && ((decide (v.nk=2)) || (decide (u.nk=2))))) && (decide ((((truthR (ltB v u)) + (truthR (gtB v u))) + (truthR (stB v u)))=1))) && (decide ((truthR (leB v u))=(1 - (truthR (gtB v u)))))))),ve (.bool ((((decide (v.k=3)) && ((decide (v.nk=2)) || (decide (u.nk=2)))) && (decide (((((truthR (ltB v u)) + (truthR (gtB v u))) + (truthR (stB v u))) + (truthR (leB v u)))=0))) || (((!((decide (v.k=3)) && ((decide (v.nk=2)) || (decide (u.nk=2))))) && (decide ((((truthR (ltB v u)) + (truthR (gtB v u))) + (truthR (stB v u)))=1))) && (decide ((truthR (leB v u))=(1 - (truthR (gtB v u)))))))),ve (.bool ((((decide (v.k=3)) && ((decide (v.nk=2)) || (decide (u.nk=2)))) && (decide (((((truthR (ltB v u)) + (truthR (gtB v u))) + (truthR (stB v u))) + (truthR (leB v u)))=0))) || (((!((decide (v.k=3)) && ((decide (v.nk=2)) || (decide (u.nk=2))))) && (decide ((((truthR (ltB v u)) + (truthR (gtB v u))) + (truthR (stB v u)))=1))) && (decide ((truthR (leB v u))=(1 - (truthR (gtB v u))))))))] b5 (.eq (.eq (.eq (.eq (.eq (.eq (.eq (.eq (.eq (.eq (.eq (.eq (.eq (.eq (.eq (.eq (.eq (.eq (.eq (.eq (.eq (.eq (.eq (.eq (.eq (.eq (.eq (.eq (.eq (.eq (.eq (.eq (.eq (.eq (.eq (.eq (.eq (.eq (.eq (.eq (.eq (.eq (.nil))))))))))))))))))))))))))))))))))))))))))) ?_ ?_
 refine .o1 (ck rfl rfl rfl (fun _ w hn k=>⟨#[],rfl,fun _=>by kernel_rfl,first_c _ (HT.up (b6.transNew hn))⟩) fun _=>rfl)<| .m (fun k=>k.eq1 0 157 rfl)<| .gm (fun k=>k.eq1 1 158 rfl) (fun k=>k.fx 19 dt)<| .gm (fun k=>k.eq1 1 158 rfl) (fun k=>k.eq1 2 159 rfl)<| .o1 (sc (G:=((decide (v.k=3)) && ((decide (v.nk=2)) || (decide (u.nk=2))))) rfl rfl rfl (fun _ _ k=>g0 (k.eq1 3 160 rfl)) (fun hG _ w hn k=>v_field rfl (k.fx 7 dq) (fun w=>rfl)))<| .o1 (sc (G:=((decide (v.k=3)) && ((decide (v.nk=2)) || (decide (u.nk=2))))) rfl rfl rfl (fun _ _ k=>g0 (k.eq1 3 160 rfl)) (fun hG _ w hn k=>v_load rfl (cT hG (k.eq1 4 161 rfl)) (l_one Tryz.isAgg3 ((b7.new_ hn).cell 6))))<| .o1 (sc (G:=((decide (v.k=3)) && ((decide (v.nk=2)) || (decide (u.nk=2))))) rfl rfl rfl (fun _ _ k=>g0 (k.eq1 3 160 rfl)) (fun hG _ w hn k=>v_field rfl (k.fx 13 bu) (fun w=>rfl)))<| .o1 (sc (G:=((decide (v.k=3)) && ((decide (v.nk=2)) || (decide (u.nk=2))))) rfl rfl rfl (fun _ _ k=>g0 (k.eq1 3 160 rfl)) (fun hG _ w hn k=>v_load rfl (cT hG (k.eq1 6 163 rfl)) (l_one Tryz.isAgg3 ((bm.new_ hn).cell 6)))) ?_
 refine .o1 (sc (G:=((decide (v.k=3)) && ((decide (v.nk=2)) || (decide (u.nk=2))))) rfl rfl rfl (fun _ _ k=>g0 (k.eq1 3 160 rfl)) (fun hG _ w hn k=>(by
       have qd1:=oT (al hG)
       exact v_bin rfl (cT hG (k.eq1 5 162 rfl)) (cT hG (k.eq1 7 164 rfl)) (fun _=>rfl) (r_add rfl (by omega))))) ?_
 refine .o1 (sc (G:=((decide (v.k=3)) && ((decide (v.nk=2)) || (decide (u.nk=2))))) rfl rfl rfl (fun _ _ k=>g0 (k.eq1 3 160 rfl)) (fun hG _ w hn k=>v_field rfl (k.fx 17 ds) (fun w=>rfl)))<| .o1 (sc (G:=((decide (v.k=3)) && ((decide (v.nk=2)) || (decide (u.nk=2))))) rfl rfl rfl (fun _ _ k=>g0 (k.eq1 3 160 rfl)) (fun hG _ w hn k=>v_load rfl (cT hG (k.eq1 9 166 rfl)) (l_one Tryz.isAgg3 ((b9.new_ hn).cell 6)))) ?_
 refine .o1 (sc (G:=((decide (v.k=3)) && ((decide (v.nk=2)) || (decide (u.nk=2))))) rfl rfl rfl (fun _ _ k=>g0 (k.eq1 3 160 rfl)) (fun hG _ w hn k=>(by
       have qd1:=oT (al hG)
       exact v_bin rfl (cT hG (k.eq1 8 165 rfl)) (cT hG (k.eq1 10 167 rfl)) (fun _=>rfl) (r_add rfl (by omega))))) ?_
 refine .o1 (sc (G:=((decide (v.k=3)) && ((decide (v.nk=2)) || (decide (u.nk=2))))) rfl rfl rfl (fun _ _ k=>g0 (k.eq1 3 160 rfl)) (fun hG _ w hn k=>v_field rfl (k.fx 15 dr) (fun w=>rfl)))<| .o1 (sc (G:=((decide (v.k=3)) && ((decide (v.nk=2)) || (decide (u.nk=2))))) rfl rfl rfl (fun _ _ k=>g0 (k.eq1 3 160 rfl)) (fun hG _ w hn k=>v_load rfl (cT hG (k.eq1 12 169 rfl)) (l_one Tryz.isAgg3 ((b8.new_ hn).cell 6)))) ?_
 refine .o1 (sc (G:=((decide (v.k=3)) && ((decide (v.nk=2)) || (decide (u.nk=2))))) rfl rfl rfl (fun _ _ k=>g0 (k.eq1 3 160 rfl)) (fun hG _ w hn k=>(by
       have qd1:=oT (al hG)
       exact v_bin rfl (cT hG (k.eq1 11 168 rfl)) (cT hG (k.eq1 13 170 rfl)) (fun _=>rfl) (r_add rfl (by omega))))) ?_
 refine .o1 (sc (G:=((decide (v.k=3)) && ((decide (v.nk=2)) || (decide (u.nk=2))))) rfl rfl rfl (fun _ _ k=>g0 (k.eq1 3 160 rfl)) (fun hG _ w hn k=>v_bin rfl (cT hG (k.eq1 14 171 rfl)) rfl (fun _=>rfl) (r_eql rfl)))<| .g (fun k=>k.eq1 1 158 rfl) (fun _ w hn k=>⟨_,v_and rfl (k.eq1 3 160 rfl) (fun hg=>(cT hg (k.eq1 15 172 rfl))) rfl,rfl⟩)<| .gm (fun k=>k.eq1 1 158 rfl) (fun k=>k.eq1 16 173 rfl)<| .o1 (sc (G:=(!(((decide (v.k=3)) && ((decide (v.nk=2)) || (decide (u.nk=2)))) && (decide (((((truthR (ltB v u)) + (truthR (gtB v u))) + (truthR (stB v u))) + (truthR (leB v u)))=0))))) rfl rfl rfl (fun _ _ k=>g0' (k.eq1 17 174 rfl)) (fun hG _ w hn k=>v_move rfl (k.fx 19 dt)))<| .o1 (sc (G:=(!(((decide (v.k=3)) && ((decide (v.nk=2)) || (decide (u.nk=2)))) && (decide (((((truthR (ltB v u)) + (truthR (gtB v u))) + (truthR (stB v u))) + (truthR (leB v u)))=0))))) rfl rfl rfl (fun _ _ k=>g0' (k.eq1 17 174 rfl)) (fun hG _ w hn k=>v_not rfl (cT hG (k.eq1 18 175 rfl))))<| .o1 (sc (G:=(!(((decide (v.k=3)) && ((decide (v.nk=2)) || (decide (u.nk=2)))) && (decide (((((truthR (ltB v u)) + (truthR (gtB v u))) + (truthR (stB v u))) + (truthR (leB v u)))=0))))) rfl rfl rfl (fun _ _ k=>g0' (k.eq1 17 174 rfl)) (fun hG _ w hn k=>v_move rfl (cT hG (k.eq1 19 176 rfl))))<| .o1 (sc (G:=((!(((decide (v.k=3)) && ((decide (v.nk=2)) || (decide (u.nk=2)))) && (decide (((((truthR (ltB v u)) + (truthR (gtB v u))) + (truthR (stB v u))) + (truthR (leB v u)))=0)))) && (!((decide (v.k=3)) && ((decide (v.nk=2)) || (decide (u.nk=2))))))) rfl rfl rfl (fun _ _ k=>g1 (k.eq1 20 177 rfl)) (fun hG _ w hn k=>v_field rfl (k.fx 7 dq) (fun w=>rfl)))<| .o1 (sc (G:=((!(((decide (v.k=3)) && ((decide (v.nk=2)) || (decide (u.nk=2)))) && (decide (((((truthR (ltB v u)) + (truthR (gtB v u))) + (truthR (stB v u))) + (truthR (leB v u)))=0)))) && (!((decide (v.k=3)) && ((decide (v.nk=2)) || (decide (u.nk=2))))))) rfl rfl rfl (fun _ _ k=>g1 (k.eq1 20 177 rfl)) (fun hG _ w hn k=>v_load rfl (cT hG (k.eq1 21 178 rfl)) (l_one Tryz.isAgg3 ((b7.new_ hn).cell 6))))<| .o1 (sc (G:=((!(((decide (v.k=3)) && ((decide (v.nk=2)) || (decide (u.nk=2)))) && (decide (((((truthR (ltB v u)) + (truthR (gtB v u))) + (truthR (stB v u))) + (truthR (leB v u)))=0)))) && (!((decide (v.k=3)) && ((decide (v.nk=2)) || (decide (u.nk=2))))))) rfl rfl rfl (fun _ _ k=>g1 (k.eq1 20 177 rfl)) (fun hG _ w hn k=>v_field rfl (k.fx 13 bu) (fun w=>rfl)))<| .o1 (sc (G:=((!(((decide (v.k=3)) && ((decide (v.nk=2)) || (decide (u.nk=2)))) && (decide (((((truthR (ltB v u)) + (truthR (gtB v u))) + (truthR (stB v u))) + (truthR (leB v u)))=0)))) && (!((decide (v.k=3)) && ((decide (v.nk=2)) || (decide (u.nk=2))))))) rfl rfl rfl (fun _ _ k=>g1 (k.eq1 20 177 rfl)) (fun hG _ w hn k=>v_load rfl (cT hG (k.eq1 23 180 rfl)) (l_one Tryz.isAgg3 ((bm.new_ hn).cell 6))))<| .o1 (sc (G:=((!(((decide (v.k=3)) && ((decide (v.nk=2)) || (decide (u.nk=2)))) && (decide (((((truthR (ltB v u)) + (truthR (gtB v u))) + (truthR (stB v u))) + (truthR (leB v u)))=0)))) && (!((decide (v.k=3)) && ((decide (v.nk=2)) || (decide (u.nk=2))))))) rfl rfl rfl (fun _ _ k=>g1 (k.eq1 20 177 rfl)) (fun hG _ w hn k=>v_bin rfl (cT hG (k.eq1 22 179 rfl)) (cT hG (k.eq1 24 181 rfl)) (fun _=>rfl) (r_add rfl (by omega))))<| .o1 (sc (G:=((!(((decide (v.k=3)) && ((decide (v.nk=2)) || (decide (u.nk=2)))) && (decide (((((truthR (ltB v u)) + (truthR (gtB v u))) + (truthR (stB v u))) + (truthR (leB v u)))=0)))) && (!((decide (v.k=3)) && ((decide (v.nk=2)) || (decide (u.nk=2))))))) rfl rfl rfl (fun _ _ k=>g1 (k.eq1 20 177 rfl)) (fun hG _ w hn k=>v_field rfl (k.fx 17 ds) (fun w=>rfl)))<| .o1 (sc (G:=((!(((decide (v.k=3)) && ((decide (v.nk=2)) || (decide (u.nk=2)))) && (decide (((((truthR (ltB v u)) + (truthR (gtB v u))) + (truthR (stB v u))) + (truthR (leB v u)))=0)))) && (!((decide (v.k=3)) && ((decide (v.nk=2)) || (decide (u.nk=2))))))) rfl rfl rfl (fun _ _ k=>g1 (k.eq1 20 177 rfl)) (fun hG _ w hn k=>v_load rfl (cT hG (k.eq1 26 183 rfl)) (l_one Tryz.isAgg3 ((b9.new_ hn).cell 6))))<| .o1 (sc (G:=((!(((decide (v.k=3)) && ((decide (v.nk=2)) || (decide (u.nk=2)))) && (decide (((((truthR (ltB v u)) + (truthR (gtB v u))) + (truthR (stB v u))) + (truthR (leB v u)))=0)))) && (!((decide (v.k=3)) && ((decide (v.nk=2)) || (decide (u.nk=2))))))) rfl rfl rfl (fun _ _ k=>g1 (k.eq1 20 177 rfl)) (fun hG _ w hn k=>v_bin rfl (cT hG (k.eq1 25 182 rfl)) (cT hG (k.eq1 27 184 rfl)) (fun _=>rfl) (r_add rfl (by omega))))<| .o1 (sc (G:=((!(((decide (v.k=3)) && ((decide (v.nk=2)) || (decide (u.nk=2)))) && (decide (((((truthR (ltB v u)) + (truthR (gtB v u))) + (truthR (stB v u))) + (truthR (leB v u)))=0)))) && (!((decide (v.k=3)) && ((decide (v.nk=2)) || (decide (u.nk=2))))))) rfl rfl rfl (fun _ _ k=>g1 (k.eq1 20 177 rfl)) (fun hG _ w hn k=>v_bin rfl (cT hG (k.eq1 28 185 rfl)) rfl (fun _=>rfl) (r_eql rfl)))<| .o1 (sc (G:=(!(((decide (v.k=3)) && ((decide (v.nk=2)) || (decide (u.nk=2)))) && (decide (((((truthR (ltB v u)) + (truthR (gtB v u))) + (truthR (stB v u))) + (truthR (leB v u)))=0))))) rfl rfl rfl (fun _ _ k=>g0' (k.eq1 17 174 rfl)) (fun hG _ w hn k=>v_and rfl (cT hG (k.eq1 20 177 rfl)) (fun hg=>(cT (aj hG hg) (k.eq1 29 186 rfl))) rfl))<| .o1 (sc (G:=(!(((decide (v.k=3)) && ((decide (v.nk=2)) || (decide (u.nk=2)))) && (decide (((((truthR (ltB v u)) + (truthR (gtB v u))) + (truthR (stB v u))) + (truthR (leB v u)))=0))))) rfl rfl rfl (fun _ _ k=>g0' (k.eq1 17 174 rfl)) (fun hG _ w hn k=>v_move rfl (cT hG (k.eq1 30 187 rfl))))<| .o1 (sc (G:=((!(((decide (v.k=3)) && ((decide (v.nk=2)) || (decide (u.nk=2)))) && (decide (((((truthR (ltB v u)) + (truthR (gtB v u))) + (truthR (stB v u))) + (truthR (leB v u)))=0)))) && ((!((decide (v.k=3)) && ((decide (v.nk=2)) || (decide (u.nk=2))))) && (decide ((((truthR (ltB v u)) + (truthR (gtB v u))) + (truthR (stB v u)))=1))))) rfl rfl rfl (fun _ _ k=>g1 (k.eq1 31 188 rfl)) (fun hG _ w hn k=>v_field rfl (k.fx 15 dr) (fun w=>rfl)))<| .o1 (sc (G:=((!(((decide (v.k=3)) && ((decide (v.nk=2)) || (decide (u.nk=2)))) && (decide (((((truthR (ltB v u)) + (truthR (gtB v u))) + (truthR (stB v u))) + (truthR (leB v u)))=0)))) && ((!((decide (v.k=3)) && ((decide (v.nk=2)) || (decide (u.nk=2))))) && (decide ((((truthR (ltB v u)) + (truthR (gtB v u))) + (truthR (stB v u)))=1))))) rfl rfl rfl (fun _ _ k=>g1 (k.eq1 31 188 rfl)) (fun hG _ w hn k=>v_load rfl (cT hG (k.eq1 32 189 rfl)) (l_one Tryz.isAgg3 ((b8.new_ hn).cell 6))))<| .o1 (sc (G:=((!(((decide (v.k=3)) && ((decide (v.nk=2)) || (decide (u.nk=2)))) && (decide (((((truthR (ltB v u)) + (truthR (gtB v u))) + (truthR (stB v u))) + (truthR (leB v u)))=0)))) && ((!((decide (v.k=3)) && ((decide (v.nk=2)) || (decide (u.nk=2))))) && (decide ((((truthR (ltB v u)) + (truthR (gtB v u))) + (truthR (stB v u)))=1))))) rfl rfl rfl (fun _ _ k=>g1 (k.eq1 31 188 rfl)) (fun hG _ w hn k=>v_field rfl (k.fx 13 bu) (fun w=>rfl)))<| .o1 (sc (G:=((!(((decide (v.k=3)) && ((decide (v.nk=2)) || (decide (u.nk=2)))) && (decide (((((truthR (ltB v u)) + (truthR (gtB v u))) + (truthR (stB v u))) + (truthR (leB v u)))=0)))) && ((!((decide (v.k=3)) && ((decide (v.nk=2)) || (decide (u.nk=2))))) && (decide ((((truthR (ltB v u)) + (truthR (gtB v u))) + (truthR (stB v u)))=1))))) rfl rfl rfl (fun _ _ k=>g1 (k.eq1 31 188 rfl)) (fun hG _ w hn k=>v_load rfl (cT hG (k.eq1 34 191 rfl)) (l_one Tryz.isAgg3 ((bm.new_ hn).cell 6)))) ?_
 refine .o1 (sc (G:=((!(((decide (v.k=3)) && ((decide (v.nk=2)) || (decide (u.nk=2)))) && (decide (((((truthR (ltB v u)) + (truthR (gtB v u))) + (truthR (stB v u))) + (truthR (leB v u)))=0)))) && ((!((decide (v.k=3)) && ((decide (v.nk=2)) || (decide (u.nk=2))))) && (decide ((((truthR (ltB v u)) + (truthR (gtB v u))) + (truthR (stB v u)))=1))))) rfl rfl rfl (fun _ _ k=>g1 (k.eq1 31 188 rfl)) (fun hG _ w hn k=>(by
       have qd1:=oT (ar (ar hG))
       exact v_bin rfl rfl (cT hG (k.eq1 35 192 rfl)) (fun _=>rfl) (r_sub rfl (by omega))))) ?_
 exact .o1 (sc (G:=((!(((decide (v.k=3)) && ((decide (v.nk=2)) || (decide (u.nk=2)))) && (decide (((((truthR (ltB v u)) + (truthR (gtB v u))) + (truthR (stB v u))) + (truthR (leB v u)))=0)))) && ((!((decide (v.k=3)) && ((decide (v.nk=2)) || (decide (u.nk=2))))) && (decide ((((truthR (ltB v u)) + (truthR (gtB v u))) + (truthR (stB v u)))=1))))) rfl rfl rfl (fun _ _ k=>g1 (k.eq1 31 188 rfl)) (fun hG _ w hn k=>v_bin rfl (cT hG (k.eq1 33 190 rfl)) (cT hG (k.eq1 36 193 rfl)) (fun _=>rfl) (r_eql rfl)))<| .o1 (sc (G:=(!(((decide (v.k=3)) && ((decide (v.nk=2)) || (decide (u.nk=2)))) && (decide (((((truthR (ltB v u)) + (truthR (gtB v u))) + (truthR (stB v u))) + (truthR (leB v u)))=0))))) rfl rfl rfl (fun _ _ k=>g0' (k.eq1 17 174 rfl)) (fun hG _ w hn k=>v_and rfl (cT hG (k.eq1 31 188 rfl)) (fun hg=>(cT (aj hG hg) (k.eq1 37 194 rfl))) rfl))<| .g (fun k=>k.eq1 1 158 rfl) (fun _ w hn k=>⟨_,v_or rfl (k.eq1 17 174 rfl) rfl (fun hg=>(cT (nt hg) (k.eq1 38 195 rfl))),rfl⟩)<| .t (fun _ w hn k=>⟨_,v_pickT rfl (k.eq1 1 158 rfl) (k.eq1 39 196 rfl),rfl⟩)<| .a (fun k=>k.eq1 40 197 rfl) .nil
 refine aftI b5 fb b6 fun jb jc io ff fg ip fh=>?_
 have hX:=fh.ge 41 6 rfl
 refine st_nil (fe _ _ ?_)
 refine wp_ret (ret_k ff (v:=.bool ((((decide (v.k=3)) && ((decide (v.nk=2)) || (decide (u.nk=2)))) && (decide (((((truthR (ltB v u)) + (truthR (gtB v u))) + (truthR (stB v u))) + (truthR (leB v u)))=0))) || (((!((decide (v.k=3)) && ((decide (v.nk=2)) || (decide (u.nk=2))))) && (decide ((((truthR (ltB v u)) + (truthR (gtB v u))) + (truthR (stB v u)))=1))) && (decide ((truthR (leB v u))=(1 - (truthR (gtB v u)))))))) (res_t rfl hX _) ?_)
 exact⟨congrArg (fun b=>Ending.returned (.bool b)) (show (((((decide (v.k=3)) && ((decide (v.nk=2)) || (decide (u.nk=2)))) && (decide (((((truthR (ltB v u)) + (truthR (gtB v u))) + (truthR (stB v u))) + (truthR (leB v u)))=0))) || (((!((decide (v.k=3)) && ((decide (v.nk=2)) || (decide (u.nk=2))))) && (decide ((((truthR (ltB v u)) + (truthR (gtB v u))) + (truthR (stB v u)))=1))) && (decide ((truthR (leB v u))=(1 - (truthR (gtB v u))))))))=true from less_leaf v u),fg⟩
end Go.Proofs.YtjakfchffigkkaaGreatDoor
