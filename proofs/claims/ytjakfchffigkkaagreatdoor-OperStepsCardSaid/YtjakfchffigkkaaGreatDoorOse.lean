import Derived.Test.YtjakfchffigkkaaGreatDoorOsd
namespace Go.Proofs.YtjakfchffigkkaaGreatDoor
open Go.RowKit
set_option linter.unusedSimpArgs false
set_option linter.unusedVariables false
set_option maxHeartbeats 16000000
set_option maxRecDepth 100000
theorem sumsPl_c  (v:Vl) (Av:Option Addr) (cv:Nat) (Bv:Option Addr) (dv:Nat) (u:Vl) (Au:Option Addr) (cu:Nat) (Bu:Option Addr) (du:Nat) (w:World) (hmv:SRow w .u32 Av v.mag cv) (hsv:SRow w .u16 Bv v.s dv) (hmu:SRow w .u32 Au u.mag cu) (hsu:SRow w .u16 Bu u.s du) (hvv:VOk v) (hvu:VOk u):Calls Tryz.prog 36 #[.string ⟨#[43]⟩,vv v Av cv Bv dv,vv u Au cu Bu du] w (sumsPl_c_P v Av cv Bv dv u Au cu Bu du w):=by
 refine enter_abs Tryz.func36 rfl fun a0 bz fa hp=>?_
 have bz:a0.tmps.size=92:=bz
 have bA:New w w:=Upd.refl _ _
 have hp0:a0.eval (.tmp 0)=.string ⟨#[43]⟩:=hp 0 _ rfl
 have hp1:a0.eval (.tmp 1)=vv v Av cv Bv dv:=hp 1 _ rfl
 have hp2:a0.eval (.tmp 2)=vv u Au cu Bu du:=hp 2 _ rfl
 refine wp_seq_k fun K1 fb=>?_
 refine wp_g [true,true,true,true] [] [] 92
   [IsNew w 29 (c7 v Av cv Bv dv),IsNew w 29 (c7 u Au cu Bu du),IsNew w 29 z7,ve (iv 0)]
   [0,1,2] (newsCons (fun v w h=>IsNew.old h) (newsCons (fun v w h=>IsNew.old h) (newsCons (fun v w h=>IsNew.old h) newsNil))) bz (.nw (.nw (.nw (.eq (.nil))))) ?_ (fun i h=>by cases h) ?_
 exact .o2 (step_allocN (cs:=(c7 v Av cv Bv dv)) (t:=29) rfl (noG rfl) (fun _ w hn k=>v_box rfl (k.fx 1 hp1) (fun w=>rfl)) (fun q _ hq hb=>⟨q,rfl,hq,hb⟩))<| .o2 (step_allocN (cs:=(c7 u Au cu Bu du)) (t:=29) rfl (noG rfl) (fun _ w hn k=>v_box rfl (k.fx 2 hp2) (fun w=>rfl)) (fun q _ hq hb=>⟨q,rfl,hq,hb⟩))<| .o2 (step_allocN (cs:=z7) (t:=29) rfl (noG rfl) (fun _ w hn k=>rfl) (fun q _ hq hb=>⟨q,rfl,hq,hb⟩))<| .t (fun _ w hn k=>⟨_,v_assign rfl rfl,rfl⟩) .nil
 refine aftI bz fa bA fun a2 w3 d0 fc aE gU bg=>?_
 have h8:=bg.fx 0 hp0
 obtain⟨fd,h9,d5,d6⟩:=bg.G 0 4
 obtain⟨fe,d1,d7,d8⟩:=bg.G 1 5
 obtain⟨aR,bU,d9,bu⟩:=bg.G 2 6
 have hne21:fd ≠ aR:=bg.ne 0 2 4 6 h9 bU
 have hne22:fe ≠ aR:=bg.ne 1 2 5 6 d1 bU
 have fZ:=Nat.le_trans bA.size d5
 have f0:=Nat.le_trans bA.size d7
 have f1:=Nat.le_trans bA.size d9
 refine st_nil (fb _ _ (wp_seq_k fun gV ea=>?_))
 refine wp_gS (fun W=>True) (fun W W' hn h=>trivial) trivial [true,true,true,true,true,true,true,true,true,false,false,false] [5,6] [(9,false),(10,false),(11,true)] 92
   [ve (vv v Av cv Bv dv),ve (vv u Au cu Bu du),(TQ (numericsV v u).1 (numericsV v u).2.1 ((numericsV v u).2.2)),(TQ (numericsV v u).1 (numericsV v u).2.1 ((numericsV v u).2.2)),(fun (v_:Value) (W:World)=>∃ (aZ:Option Addr) (a1:Nat) (a3:Option Addr) (a4:Nat),v_=vv (numericsV v u).1 aZ a1 a3 a4∧SRow W .u32 aZ ((numericsV v u).1.mag) a1∧SRow W .u16 a3 ((numericsV v u).1.s) a4),(fun (v_:Value) (W:World)=>∃ (a5:Option Addr) (a6:Nat) (a7:Option Addr) (a8:Nat),v_=vv (numericsV v u).2.1 a5 a6 a7 a8∧SRow W .u32 a5 ((numericsV v u).2.1.mag) a6∧SRow W .u16 a7 ((numericsV v u).2.1.s) a8),ve (iv ((numericsV v u).2.2)),IsNew w3 29 z7,IsNew w3 29 z7,vt,vt,vt]
   [7,8] (newsCons (fun v w h=>IsNew.old h) (newsCons (fun v w h=>IsNew.old h) newsNil)) d0 (.eq (.eq (.cons (fun _ _ _ n ⟨_,_,_,_,_,_,_,_,e,h,i,j,l⟩=>⟨_,_,_,_,_,_,_,_,e,h.new_ n,i.new_ n,j.new_ n,l.new_ n⟩) (.cons (fun _ _ _ n ⟨_,_,_,_,_,_,_,_,e,h,i,j,l⟩=>⟨_,_,_,_,_,_,_,_,e,h.new_ n,i.new_ n,j.new_ n,l.new_ n⟩) (.cons (fun _ _ _ n ⟨_,_,_,_,e,h,i⟩=>⟨_,_,_,_,e,h.new_ n,i.new_ n⟩) (.cons (fun _ _ _ n ⟨_,_,_,_,e,h,i⟩=>⟨_,_,_,_,e,h.new_ n,i.new_ n⟩) (.eq (.nw (.nw (.tt (.tt (.tt (.nil))))))))))))) ?_ ?_ ?_
 refine .t (fun _ w hn k=>⟨_,v_load rfl (k.fx 4 h9) (l_agg Tryz.isAgg29 Tryz.sizeOf29 (d6.new_ hn) rfl),rfl⟩)<| .t (fun _ w hn k=>⟨_,v_load rfl (k.fx 5 d1) (l_agg Tryz.isAgg29 Tryz.sizeOf29 (d8.new_ hn) rfl),rfl⟩) ?_
 refine .o1 (tkC rfl (noG rfl) rfl fun _ w hn k=>(by
       refine ⟨#[vv v Av cv Bv dv,vv u Au cu Bu du],_,args2 (k.eq1 0 12 rfl) (k.eq1 1 13 rfl),fun w=>by kernel_rfl,numerics_c v _ _ _ _ u _ _ _ _ _ (hmv.new_ (aE.transNew hn)) (hsv.new_ (aE.transNew hn)) (hmu.new_ (aE.transNew hn)) (hsu.new_ (aE.transNew hn)) hvv hvu,?_⟩
       rintro e w' ⟨A1,c2,A3,c4,A5,c6,A7,c8,rfl,hmo0,hmo1,hmo2,hmo3,hm⟩
       exact⟨_,rfl,hm,⟨A1,c2,A3,c4,A5,c6,A7,c8,rfl,hmo0,hmo1,hmo2,hmo3⟩⟩)) ?_
 refine .o1 (tk rfl rfl fun _ w hn k=>(by
       obtain⟨ff,fg,fh,fi,fj,fk,fl,fm,fn,eb,ec,ed,ee⟩:(TQ (numericsV v u).1 (numericsV v u).2.1 ((numericsV v u).2.2)) _ _:=k.dep 2 14 (by kernel_rfl) (by kernel_rfl)
       exact⟨_,v_move rfl fn,⟨ff,fg,fh,fi,fj,fk,fl,fm,rfl,eb,ec,ed,ee⟩⟩)) ?_
 refine .o1 (tk rfl rfl fun _ w hn k=>(by
       obtain⟨fo,fp,br,fq,gW,gX,bh,gY,fs,ef,eg,f2,f3⟩:(TQ (numericsV v u).1 (numericsV v u).2.1 ((numericsV v u).2.2)) _ _:=k.dep 3 11 (by kernel_rfl) (by kernel_rfl)
       exact⟨_,v_extract rfl fs rfl,⟨fo,fp,br,fq,rfl,ef,eg⟩⟩)) ?_
 refine .o3 ?_
 refine .o3 ?_
 exact .o2 (step_allocN (cs:=z7) (t:=29) rfl (noG rfl) (fun _ w hn k=>rfl) (fun q _ hq hb=>⟨q,rfl,hq,hb⟩))<| .o2 (step_allocN (cs:=z7) (t:=29) rfl (noG rfl) (fun _ w hn k=>rfl) (fun q _ hq hb=>⟨q,rfl,hq,hb⟩))<| .off<| .off<| .off .nil
 intro i h
 simp only [List.contains_eq_mem,List.mem_cons,List.not_mem_nil,or_false,decide_eq_true_eq] at h
 rcases h with rfl|rfl
 exact eager_takeG rfl (noG rfl) fun _ w hn k=>(by
     obtain⟨gZ,g0,g1,g2,ft,fu,fv,fw,fy,f4,f5,eh,ei⟩:(TQ (numericsV v u).1 (numericsV v u).2.1 ((numericsV v u).2.2)) _ _:=k.dep 3 11 (by kernel_rfl) (by kernel_rfl)
     exact⟨_,fun w hS=>v_extract rfl fy rfl,⟨ft,fu,fv,fw,rfl,eh,ei⟩⟩)
 exact eager_takeG rfl (noG rfl) fun _ w hn k=>(by
     obtain⟨g3,g4,g5,g6,g7,g8,g9,ha,fz,f6,f7,f8,f9⟩:(TQ (numericsV v u).1 (numericsV v u).2.1 ((numericsV v u).2.2)) _ _:=k.dep 3 11 (by kernel_rfl) (by kernel_rfl)
     exact⟨_,fun w hS=>v_extract rfl fz rfl,rfl⟩)
 intro bB hc _ bV ap
 obtain⟨bW,ej,ek⟩:=aft ap d0 fc aE bV
 have fA:=ap.fx 0 h8
 have fB:=ap.fx 6 bU
 obtain⟨bs,a9,br,bv,bC,el,em⟩:=ap.G 4 15
 have bC:bB.eval (.tmp 15)=vv (numericsV v u).1 bs a9 br bv:=bC
 obtain⟨bh,ba,bX,bw,bD,en,eo⟩:=ap.G 5 16
 have bD:bB.eval (.tmp 16)=vv (numericsV v u).2.1 bh ba bX bw:=bD
 have d2:=ap.ge 6 17 rfl
 obtain⟨bi,bY,bZ,bb⟩:=ap.G 7 8
 obtain⟨bt,b0,b1,ep⟩:=ap.G 8 9
 have er:=bu.new_ bV
 have hne60:bi ≠ bt:=ap.ne 7 8 8 9 bY b0
 have hne61:aR ≠ bi:=by have h1:=bu.lt; have h2:=bZ; omega
 have hne62:aR ≠ bt:=by have h1:=bu.lt; have h2:=b1; omega
 have ga:=Nat.le_trans aE.size bZ
 have gb:=Nat.le_trans aE.size b1
 obtain⟨fC,cJ,cK,bd,b2⟩:=s_many (P:=Tryz.prog) (t:=29) (i:=0) (c7 (numericsV v u).1 bs a9 br bv) Tryz.sizeOf29 rfl rfl rfl bb lb
 have es:Blk fC bi 29 (c7 (numericsV v u).1 bs a9 br bv):=cK
 refine st_act rfl rfl fun hd et=>a_store' rfl bY bC cJ (et _ _ trivial ?_)
 have eu:=el.fr bb bd
 have ev:=em.fr bb bd
 have ew:=en.fr bb bd
 have ex:=eo.fr bb bd
 have ey:=b2 _ _ _ (hne61) er
 have be:=b2 _ _ _ (fun h=>hne60 h.symm) ep
 have ez:=ek.trans bd (fun _ h b=>by subst b; omega)
 obtain⟨fD,cL,cM,bf,b3⟩:=s_many (P:=Tryz.prog) (t:=29) (i:=0) (c7 (numericsV v u).2.1 bh ba bX bw) Tryz.sizeOf29 rfl rfl rfl be lb
 have b4:Blk fD bt 29 (c7 (numericsV v u).2.1 bh ba bX bw):=cM
 refine st_act rfl rfl fun hf eA=>a_store' rfl b0 bD cL (eA _ _ trivial ?_)
 have b5:=eu.fr be bf
 have b6:=ev.fr be bf
 have b7:=ew.fr be bf
 have b8:=ex.fr be bf
 have b9:=b3 _ _ _ (hne62) ey
 have ca:=b3 _ _ _ (hne60) es
 have cb:=ez.trans bf (fun _ h b=>by subst b; omega)
 refine st_take rfl rfl (y_assign (v:=iv ((numericsV v u).2.2)) rfl d2) rfl ?_
 obtain⟨fE,ac⟩:∃ a',a'=bB.put (some 10) (iv ((numericsV v u).2.2)):=⟨_,rfl⟩
 have bj:=pz ac bW
 have cc:=pd ac ej
 have d3:=pn ac fA (by decide)
 have d4:=pn ac fB (by decide)
 have gc:=pn ac bC (by decide)
 have gd:=pn ac bD (by decide)
 have gf:=pn ac d2 (by decide)
 have cd:=pn ac bY (by decide)
 have ce:=pn ac b0 (by decide)
 have bk:fE.eval (.tmp 10)=iv ((numericsV v u).2.2):=by rw [ac]; exact put_same _ _ _ (by rw [bW]; decide)
 show stepsTo _ _ _ _ _ (bB.put (some 10) (iv ((numericsV v u).2.2))) _
 rw [← ac]
 refine st_nil (ea _ _ (wp_seq_k fun gg cN=>?_))
 refine wp_block ?_
 refine wp_seq_k fun gh bE=>?_
 rcases bc (decide (((numericsV v u).2.2)=0)) with aa|aa
 have cf:=oT aa
 refine wp_g0 [true,true,true] [] 92
   [ve (iv ((numericsV v u).2.2)),vF,vF] bj (.eq (.eq (.eq (.nil)))) ?_ ?_
 exact .m (fun k=>k.fx 10 bk)<| .t (fun _ w hn k=>⟨_,v_bin rfl (k.eq1 0 19 rfl) rfl (fun _=>rfl) (r_neq aa),rfl⟩)<| .a (fun k=>k.eq1 1 20 rfl) .nil
 refine aftI bj cc cb fun gi gj bF cO cP aq aC=>?_
 have eB:=aC.fx 0 d3
 have eC:=aC.fx 6 d4
 have ch:=aC.fx 8 cd
 have eD:=aC.fx 9 ce
 have gk:=aC.fx 10 bk
 have eE:=aC.ge 2 18 rfl
 have cQ:=b9.new_ aq
 have bG:=ca.new_ aq
 have cR:=b4.new_ aq
 have cS:=b5.new_ aq
 have cT:=b6.new_ aq
 have cU:=b7.new_ aq
 have cV:=b8.new_ aq
 refine st_nil (bE _ _ ?_)
 refine wp_cond_false eE ?_
 refine wp_seq_k fun gl cW=>?_
 refine wp_g0 [true,true,true,true] [] 92
   [ve (pv bi),ve (iv ((numericsV v u).1.k)),ve (.bool (decide (((numericsV v u).1.k)=4))),ve (.bool (decide (((numericsV v u).1.k)=4)))] bF (.eq (.eq (.eq (.eq (.nil))))) ?_ ?_
 exact .f (fun k=>k.fx 8 ch)<| .t (fun _ w hn k=>⟨_,v_load rfl (k.eq1 0 24 rfl) (l_one Tryz.isAgg3 ((bG.new_ hn).cell 0)),rfl⟩)<| .t (fun _ w hn k=>⟨_,v_bin rfl (k.eq1 1 25 rfl) rfl (fun _=>rfl) (r_eql rfl),rfl⟩)<| .a (fun k=>k.eq1 2 26 rfl) .nil
 refine aftI bF cO cP fun gm gn aP bH bI ar aL=>?_
 have ci:=aL.fx 0 eB
 have cj:=aL.fx 6 eC
 have cl:=aL.fx 8 ch
 have cm:=aL.fx 9 eD
 have cn:=aL.ge 3 23 rfl
 have bJ:=cQ.new_ ar
 have bK:=bG.new_ ar
 have bL:=cR.new_ ar
 have bM:=cS.new_ ar
 have cX:=cT.new_ ar
 have bN:=cU.new_ ar
 have cY:=cV.new_ ar
 refine st_nil (cW _ _ ?_)
 rcases bc (decide (((numericsV v u).1.k)=4)) with ab|ab
 have co:=oT ab
 have cZ:=hB cn ab
 refine wp_cond_true cZ ?_
 refine wp_seq_k fun go c0=>?_
 refine wp_g0 [true,true,true,true,true,true,true,true,false,false] [(8,false),(9,true)] 92
   [ve (.string ⟨#[43]⟩),ve (.pointer (some ⟨bi,3,none⟩)),ve (.agg #[.bool ((numericsV v u).1.neg),sv bs ((numericsV v u).1.mag) a9]),ve (.pointer (some ⟨bt,3,none⟩)),ve (.agg #[.bool ((numericsV v u).2.1.neg),sv bh ((numericsV v u).2.1.mag) ba]),(TP (bigZ (goodI ((numericsV v u).1.neg) ((numericsV v u).1.mag) + goodI ((numericsV v u).2.1.neg) ((numericsV v u).2.1.mag))).1 ((bigZ (goodI ((numericsV v u).1.neg) ((numericsV v u).1.mag) + goodI ((numericsV v u).2.1.neg) ((numericsV v u).2.1.mag))).2)),(fun (v_:Value) (W:World)=>∃ (aF:Option Addr) (aG:Nat) (aH:Option Addr) (aI:Nat),v_=vv (bigZ (goodI ((numericsV v u).1.neg) ((numericsV v u).1.mag) + goodI ((numericsV v u).2.1.neg) ((numericsV v u).2.1.mag))).1 aF aG aH aI∧SRow W .u32 aF ((bigZ (goodI ((numericsV v u).1.neg) ((numericsV v u).1.mag) + goodI ((numericsV v u).2.1.neg) ((numericsV v u).2.1.mag))).1.mag) aG∧SRow W .u16 aH ((bigZ (goodI ((numericsV v u).1.neg) ((numericsV v u).1.mag) + goodI ((numericsV v u).2.1.neg) ((numericsV v u).2.1.mag))).1.s) aI),ve (iv ((bigZ (goodI ((numericsV v u).1.neg) ((numericsV v u).1.mag) + goodI ((numericsV v u).2.1.neg) ((numericsV v u).2.1.mag))).2)),vt,vt] aP (.eq (.eq (.eq (.eq (.eq (.cons (fun _ _ _ n ⟨_,_,_,_,e,h,i⟩=>⟨_,_,_,_,e,h.new_ n,i.new_ n⟩) (.cons (fun _ _ _ n ⟨_,_,_,_,e,h,i⟩=>⟨_,_,_,_,e,h.new_ n,i.new_ n⟩) (.eq (.tt (.tt (.nil))))))))))) ?_ ?_
 refine .m (fun k=>k.fx 0 ci)<| .f (fun k=>k.fx 8 cl)<| .t (fun _ w hn k=>⟨_,v_load rfl (k.eq1 1 28 rfl) (l_part Tryz.isAgg26 Tryz.sizeOf26 (bK.new_ hn) lb),rfl⟩)<| .f (fun k=>k.fx 9 cm)<| .t (fun _ w hn k=>⟨_,v_load rfl (k.eq1 3 30 rfl) (l_part Tryz.isAgg26 Tryz.sizeOf26 (bL.new_ hn) lb),rfl⟩) ?_
 refine .o1 (tkC rfl (noG rfl) rfl fun _ w hn k=>(by
       refine ⟨#[.string ⟨#[43]⟩,.agg #[.bool ((numericsV v u).1.neg),sv bs ((numericsV v u).1.mag) a9],.agg #[.bool ((numericsV v u).2.1.neg),sv bh ((numericsV v u).2.1.mag) ba]],_,args3 (k.eq1 0 27 rfl) (k.eq1 2 29 rfl) (k.eq1 4 31 rfl),fun w=>by kernel_rfl,bigsPl_c ((numericsV v u).1.neg) _ ((numericsV v u).1.mag) _ ((numericsV v u).2.1.neg) _ ((numericsV v u).2.1.mag) _ _ (bM.new_ hn) (bN.new_ hn) (VOk.numerics1 hvv hvu).limbs (VOk.numerics2 hvv hvu).limbs,?_⟩
       rintro e w' ⟨fF,eF,eG,eH,rfl,hmo0,hmo1,hm⟩
       exact⟨_,rfl,hm,⟨fF,eF,eG,eH,rfl,hmo0,hmo1⟩⟩)) ?_
 refine .o1 (tk rfl rfl fun _ w hn k=>(by
       obtain⟨eI,eJ,eK,eL,eM,c1,c3⟩:(TP (bigZ (goodI ((numericsV v u).1.neg) ((numericsV v u).1.mag) + goodI ((numericsV v u).2.1.neg) ((numericsV v u).2.1.mag))).1 ((bigZ (goodI ((numericsV v u).1.neg) ((numericsV v u).1.mag) + goodI ((numericsV v u).2.1.neg) ((numericsV v u).2.1.mag))).2)) _ _:=k.dep 5 32 (by kernel_rfl) (by kernel_rfl)
       exact⟨_,v_extract rfl eM rfl,⟨eI,eJ,eK,eL,rfl,c1,c3⟩⟩)) ?_
 refine .o1 (tk rfl rfl fun _ w hn k=>(by
       obtain⟨gp,gq,gr,gs,eN,fG,fH⟩:(TP (bigZ (goodI ((numericsV v u).1.neg) ((numericsV v u).1.mag) + goodI ((numericsV v u).2.1.neg) ((numericsV v u).2.1.mag))).1 ((bigZ (goodI ((numericsV v u).1.neg) ((numericsV v u).1.mag) + goodI ((numericsV v u).2.1.neg) ((numericsV v u).2.1.mag))).2)) _ _:=k.dep 5 32 (by kernel_rfl) (by kernel_rfl)
       exact⟨_,v_extract rfl eN rfl,rfl⟩)) ?_
 exact .off<| .off .nil
 refine aftI aP bH bI fun bx gt bO c5 c9 da bl=>?_
 have cp:=bl.fx 6 cj
 obtain⟨aJ,au,aK,av,bm,db,dc⟩:=bl.G 6 33
 have bm:bx.eval (.tmp 33)=vv (bigZ (goodI ((numericsV v u).1.neg) ((numericsV v u).1.mag) + goodI ((numericsV v u).2.1.neg) ((numericsV v u).2.1.mag))).1 aJ au aK av:=bm
 have cq:=bl.ge 7 34 rfl
 have bn:=bJ.new_ da
 obtain⟨eO,cr,ct,bo,fI⟩:=s_many (P:=Tryz.prog) (t:=29) (i:=0) (c7 (bigZ (goodI ((numericsV v u).1.neg) ((numericsV v u).1.mag) + goodI ((numericsV v u).2.1.neg) ((numericsV v u).2.1.mag))).1 aJ au aK av) Tryz.sizeOf29 rfl rfl rfl bn lb
 have dd:Blk eO aR 29 (c7 (bigZ (goodI ((numericsV v u).1.neg) ((numericsV v u).1.mag) + goodI ((numericsV v u).2.1.neg) ((numericsV v u).2.1.mag))).1 aJ au aK av):=ct
 refine st_act rfl rfl fun gu de=>a_store' rfl cp bm cr (de _ _ trivial ?_)
 have df:=db.fr bn bo
 have dg:=dc.fr bn bo
 have dh:=c9.trans bo (fun _ h b=>by subst b; omega)
 refine st_take rfl rfl (y_assign (v:=iv ((bigZ (goodI ((numericsV v u).1.neg) ((numericsV v u).1.mag) + goodI ((numericsV v u).2.1.neg) ((numericsV v u).2.1.mag))).2)) rfl cq) rfl ?_
 obtain⟨eP,aw⟩:∃ a',a'=bx.put (some 7) (iv ((bigZ (goodI ((numericsV v u).1.neg) ((numericsV v u).1.mag) + goodI ((numericsV v u).2.1.neg) ((numericsV v u).2.1.mag))).2)):=⟨_,rfl⟩
 have fJ:=pz aw bO
 have di:=pd aw c5
 have eQ:=pn aw cp (by decide)
 have gv:=pn aw bm (by decide)
 have gw:=pn aw cq (by decide)
 have eR:eP.eval (.tmp 7)=iv ((bigZ (goodI ((numericsV v u).1.neg) ((numericsV v u).1.mag) + goodI ((numericsV v u).2.1.neg) ((numericsV v u).2.1.mag))).2):=by rw [aw]; exact put_same _ _ _ (by rw [bO]; decide)
 show stepsTo _ _ _ _ _ (bx.put (some 7) (iv ((bigZ (goodI ((numericsV v u).1.neg) ((numericsV v u).1.mag) + goodI ((numericsV v u).2.1.neg) ((numericsV v u).2.1.mag))).2))) _
 rw [← aw]
 refine st_nil (c0 _ _ ?_)
 refine wp_ret (ret_k di (v:=.tuple #[vv (bigZ (goodI ((numericsV v u).1.neg) ((numericsV v u).1.mag) + goodI ((numericsV v u).2.1.neg) ((numericsV v u).2.1.mag))).1 aJ au aK av,iv ((bigZ (goodI ((numericsV v u).1.neg) ((numericsV v u).1.mag) + goodI ((numericsV v u).2.1.neg) ((numericsV v u).2.1.mag))).2)]) (res_ct rfl eQ eR (l_agg Tryz.isAgg29 Tryz.sizeOf29 dd rfl)) ?_)
 have aN:(sumsP v u).1.mag=(bigZ (goodI ((numericsV v u).1.neg) ((numericsV v u).1.mag) + goodI ((numericsV v u).2.1.neg) ((numericsV v u).2.1.mag))).1.mag:=by first|rfl|(simp only [sumsP,numV,Vl.z,aa,ab,bsm] <;> rfl)|(exfalso; omega)
 have aO:(sumsP v u).1.s=(bigZ (goodI ((numericsV v u).1.neg) ((numericsV v u).1.mag) + goodI ((numericsV v u).2.1.neg) ((numericsV v u).2.1.mag))).1.s:=by first|rfl|(simp only [sumsP,numV,Vl.z,aa,ab,bsm] <;> rfl)|(exfalso; omega)
 exact⟨aJ,au,aK,av,(by show Ending.returned (.tuple #[vv (bigZ (goodI ((numericsV v u).1.neg) ((numericsV v u).1.mag) + goodI ((numericsV v u).2.1.neg) ((numericsV v u).2.1.mag))).1 aJ au aK av,iv ((bigZ (goodI ((numericsV v u).1.neg) ((numericsV v u).1.mag) + goodI ((numericsV v u).2.1.neg) ((numericsV v u).2.1.mag))).2)])=Ending.returned (.tuple #[vv (sumsP v u).1 aJ au aK av,iv ((sumsP v u).2)]); (first|rfl|(simp only [sumsP,numV,Vl.z,aa,ab,aN,aO,bsm] <;> rfl)|(exfalso; omega))),(by rw [aN]; exact df),(by rw [aO]; exact dg),dh⟩
 have co:=oF ab
 have dj:=hB cn ab
 refine wp_cond_false dj ?_
 refine wp_skip ?_
 refine cN _ _ ?_
 refine wp_seq_k fun gx fK=>?_
 refine wp_seq_k fun gy dk=>?_
 refine wp_g0 [true] [] 92
   [ve (.string ⟨#[43]⟩)] aP (.eq (.nil)) ?_ ?_
 exact .m (fun k=>k.fx 0 ci) .nil
 refine aftI aP bH bI fun gz gA bP dl dm ax aQ=>?_
 have eS:=aQ.fx 6 cj
 have eT:=aQ.fx 8 cl
 have eU:=aQ.fx 9 cm
 have cw:=aQ.ge 0 35 rfl
 have dn:=bJ.new_ ax
 have dp:=bK.new_ ax
 have dq:=bL.new_ ax
 have dr:=bM.new_ ax
 have ds:=cX.new_ ax
 have dt:=bN.new_ ax
 have dw:=cY.new_ ax
 refine st_nil (dk _ _ ?_)
 refine wp_block ?_
 refine wp_seq_k fun gB dx=>?_
 refine wp_g0 [true,true] [] 92
   [vT,vT] bP (.eq (.eq (.nil))) ?_ ?_
 exact .t (fun _ w hn k=>⟨_,v_bin rfl (k.fx 35 cw) rfl (fun _=>rfl) (r_eqlS (r:=true) (by kernel_rfl)),rfl⟩)<| .a (fun k=>k.eq1 0 37 rfl) .nil
 refine aftI bP dl dm fun gC gD bQ dy dz ay aM=>?_
 have eV:=aM.fx 6 eS
 have eW:=aM.fx 8 eT
 have eX:=aM.fx 9 eU
 have gE:=aM.fx 35 cw
 have eY:=aM.ge 1 36 rfl
 have dA:=dn.new_ ay
 have dB:=dp.new_ ay
 have dC:=dq.new_ ay
 have fL:=dr.new_ ay
 have fM:=ds.new_ ay
 have fN:=dt.new_ ay
 have fO:=dw.new_ ay
 refine st_nil (dx _ _ ?_)
 refine wp_cond_true eY ?_
 refine wp_seq_k fun gF dD=>?_
 refine wp_g0 [true,true,true,true,true,true,true,true,true,true,false,false] [(10,false),(11,true)] 92
   [ve (.pointer (some ⟨bi,1,none⟩)),ve (nv (Nm.mk ((numericsV v u).1.nk) ((numericsV v u).1.nn))),ve (.pointer (some ⟨bt,1,none⟩)),ve (nv (Nm.mk ((numericsV v u).2.1.nk) ((numericsV v u).2.1.nn))),ve (.tuple #[nv ((addM (Nm.mk ((numericsV v u).1.nk) ((numericsV v u).1.nn)) (Nm.mk ((numericsV v u).2.1.nk) ((numericsV v u).2.1.nn))).1),.bool ((addM (Nm.mk ((numericsV v u).1.nk) ((numericsV v u).1.nn)) (Nm.mk ((numericsV v u).2.1.nk) ((numericsV v u).2.1.nn))).2)]),ve (nv ((addM (Nm.mk ((numericsV v u).1.nk) ((numericsV v u).1.nn)) (Nm.mk ((numericsV v u).2.1.nk) ((numericsV v u).2.1.nn))).1)),ve (.bool ((addM (Nm.mk ((numericsV v u).1.nk) ((numericsV v u).1.nn)) (Nm.mk ((numericsV v u).2.1.nk) ((numericsV v u).2.1.nn))).2)),ve (.tuple #[vv (Vl.mk (numberedV ((addM (Nm.mk ((numericsV v u).1.nk) ((numericsV v u).1.nn)) (Nm.mk ((numericsV v u).2.1.nk) ((numericsV v u).2.1.nn))).1) ((addM (Nm.mk ((numericsV v u).1.nk) ((numericsV v u).1.nn)) (Nm.mk ((numericsV v u).2.1.nk) ((numericsV v u).2.1.nn))).2)).1 (numberedV ((addM (Nm.mk ((numericsV v u).1.nk) ((numericsV v u).1.nn)) (Nm.mk ((numericsV v u).2.1.nk) ((numericsV v u).2.1.nn))).1) ((addM (Nm.mk ((numericsV v u).1.nk) ((numericsV v u).1.nn)) (Nm.mk ((numericsV v u).2.1.nk) ((numericsV v u).2.1.nn))).2)).2.1.k (numberedV ((addM (Nm.mk ((numericsV v u).1.nk) ((numericsV v u).1.nn)) (Nm.mk ((numericsV v u).2.1.nk) ((numericsV v u).2.1.nn))).1) ((addM (Nm.mk ((numericsV v u).1.nk) ((numericsV v u).1.nn)) (Nm.mk ((numericsV v u).2.1.nk) ((numericsV v u).2.1.nn))).2)).2.1.n false [] [] 0) none 0 none 0,iv ((numberedV ((addM (Nm.mk ((numericsV v u).1.nk) ((numericsV v u).1.nn)) (Nm.mk ((numericsV v u).2.1.nk) ((numericsV v u).2.1.nn))).1) ((addM (Nm.mk ((numericsV v u).1.nk) ((numericsV v u).1.nn)) (Nm.mk ((numericsV v u).2.1.nk) ((numericsV v u).2.1.nn))).2)).2.2)]),ve (vv (Vl.mk (numberedV ((addM (Nm.mk ((numericsV v u).1.nk) ((numericsV v u).1.nn)) (Nm.mk ((numericsV v u).2.1.nk) ((numericsV v u).2.1.nn))).1) ((addM (Nm.mk ((numericsV v u).1.nk) ((numericsV v u).1.nn)) (Nm.mk ((numericsV v u).2.1.nk) ((numericsV v u).2.1.nn))).2)).1 (numberedV ((addM (Nm.mk ((numericsV v u).1.nk) ((numericsV v u).1.nn)) (Nm.mk ((numericsV v u).2.1.nk) ((numericsV v u).2.1.nn))).1) ((addM (Nm.mk ((numericsV v u).1.nk) ((numericsV v u).1.nn)) (Nm.mk ((numericsV v u).2.1.nk) ((numericsV v u).2.1.nn))).2)).2.1.k (numberedV ((addM (Nm.mk ((numericsV v u).1.nk) ((numericsV v u).1.nn)) (Nm.mk ((numericsV v u).2.1.nk) ((numericsV v u).2.1.nn))).1) ((addM (Nm.mk ((numericsV v u).1.nk) ((numericsV v u).1.nn)) (Nm.mk ((numericsV v u).2.1.nk) ((numericsV v u).2.1.nn))).2)).2.1.n false [] [] 0) none 0 none 0),ve (iv ((numberedV ((addM (Nm.mk ((numericsV v u).1.nk) ((numericsV v u).1.nn)) (Nm.mk ((numericsV v u).2.1.nk) ((numericsV v u).2.1.nn))).1) ((addM (Nm.mk ((numericsV v u).1.nk) ((numericsV v u).1.nn)) (Nm.mk ((numericsV v u).2.1.nk) ((numericsV v u).2.1.nn))).2)).2.2)),vt,vt] bQ (.eq (.eq (.eq (.eq (.eq (.eq (.eq (.eq (.eq (.eq (.tt (.tt (.nil))))))))))))) ?_ ?_
 exact .f (fun k=>k.fx 8 eW)<| .t (fun _ w hn k=>⟨_,v_load rfl (k.eq1 0 38 rfl) (l_part Tryz.isAgg23 Tryz.sizeOf23 (dB.new_ hn) lb),rfl⟩)<| .f (fun k=>k.fx 9 eX)<| .t (fun _ w hn k=>⟨_,v_load rfl (k.eq1 2 40 rfl) (l_part Tryz.isAgg23 Tryz.sizeOf23 (dC.new_ hn) lb),rfl⟩)<| .o1 (ck rfl rfl rfl (fun _ w hn k=>⟨#[nv (Nm.mk ((numericsV v u).1.nk) ((numericsV v u).1.nn)),nv (Nm.mk ((numericsV v u).2.1.nk) ((numericsV v u).2.1.nn))],args2 (k.eq1 1 39 rfl) (k.eq1 3 41 rfl),fun _=>by kernel_rfl,nadd_c (Nm.mk ((numericsV v u).1.nk) ((numericsV v u).1.nn)) (Nm.mk ((numericsV v u).2.1.nk) ((numericsV v u).2.1.nn)) _ ⟩) fun _=>rfl)<| .t (fun _ w hn k=>⟨_,v_extract rfl (k.eq1 4 42 rfl) rfl,rfl⟩)<| .t (fun _ w hn k=>⟨_,v_extract rfl (k.eq1 4 42 rfl) rfl,rfl⟩)<| .o1 (ck rfl rfl rfl (fun _ w hn k=>⟨#[nv ((addM (Nm.mk ((numericsV v u).1.nk) ((numericsV v u).1.nn)) (Nm.mk ((numericsV v u).2.1.nk) ((numericsV v u).2.1.nn))).1),.bool ((addM (Nm.mk ((numericsV v u).1.nk) ((numericsV v u).1.nn)) (Nm.mk ((numericsV v u).2.1.nk) ((numericsV v u).2.1.nn))).2)],args2 (k.eq1 5 43 rfl) (k.eq1 6 44 rfl),fun _=>by kernel_rfl,numbered_c ((addM (Nm.mk ((numericsV v u).1.nk) ((numericsV v u).1.nn)) (Nm.mk ((numericsV v u).2.1.nk) ((numericsV v u).2.1.nn))).1) ((addM (Nm.mk ((numericsV v u).1.nk) ((numericsV v u).1.nn)) (Nm.mk ((numericsV v u).2.1.nk) ((numericsV v u).2.1.nn))).2) _ ⟩) fun _=>rfl)<| .t (fun _ w hn k=>⟨_,v_extract rfl (k.eq1 7 45 rfl) rfl,rfl⟩)<| .t (fun _ w hn k=>⟨_,v_extract rfl (k.eq1 7 45 rfl) rfl,rfl⟩)<| .off<| .off .nil
 refine aftI bQ dy dz fun cx gG bR dE dF dG bp=>?_
 have cy:=bp.fx 6 eV
 have cz:=bp.ge 8 46 rfl
 have cA:=bp.ge 9 47 rfl
 have dH:=dA.new_ dG
 obtain⟨eZ,cB,cC,dI,fP⟩:=s_many (P:=Tryz.prog) (t:=29) (i:=0) [iv ((numberedV ((addM (Nm.mk ((numericsV v u).1.nk) ((numericsV v u).1.nn)) (Nm.mk ((numericsV v u).2.1.nk) ((numericsV v u).2.1.nn))).1) ((addM (Nm.mk ((numericsV v u).1.nk) ((numericsV v u).1.nn)) (Nm.mk ((numericsV v u).2.1.nk) ((numericsV v u).2.1.nn))).2)).1),iv ((numberedV ((addM (Nm.mk ((numericsV v u).1.nk) ((numericsV v u).1.nn)) (Nm.mk ((numericsV v u).2.1.nk) ((numericsV v u).2.1.nn))).1) ((addM (Nm.mk ((numericsV v u).1.nk) ((numericsV v u).1.nn)) (Nm.mk ((numericsV v u).2.1.nk) ((numericsV v u).2.1.nn))).2)).2.1.k),iv ((numberedV ((addM (Nm.mk ((numericsV v u).1.nk) ((numericsV v u).1.nn)) (Nm.mk ((numericsV v u).2.1.nk) ((numericsV v u).2.1.nn))).1) ((addM (Nm.mk ((numericsV v u).1.nk) ((numericsV v u).1.nn)) (Nm.mk ((numericsV v u).2.1.nk) ((numericsV v u).2.1.nn))).2)).2.1.n),.bool false,sv none ([]) 0,sv none ([]) 0,iv 0] Tryz.sizeOf29 rfl rfl rfl dH lb
 have dJ:Blk eZ aR 29 [iv ((numberedV ((addM (Nm.mk ((numericsV v u).1.nk) ((numericsV v u).1.nn)) (Nm.mk ((numericsV v u).2.1.nk) ((numericsV v u).2.1.nn))).1) ((addM (Nm.mk ((numericsV v u).1.nk) ((numericsV v u).1.nn)) (Nm.mk ((numericsV v u).2.1.nk) ((numericsV v u).2.1.nn))).2)).1),iv ((numberedV ((addM (Nm.mk ((numericsV v u).1.nk) ((numericsV v u).1.nn)) (Nm.mk ((numericsV v u).2.1.nk) ((numericsV v u).2.1.nn))).1) ((addM (Nm.mk ((numericsV v u).1.nk) ((numericsV v u).1.nn)) (Nm.mk ((numericsV v u).2.1.nk) ((numericsV v u).2.1.nn))).2)).2.1.k),iv ((numberedV ((addM (Nm.mk ((numericsV v u).1.nk) ((numericsV v u).1.nn)) (Nm.mk ((numericsV v u).2.1.nk) ((numericsV v u).2.1.nn))).1) ((addM (Nm.mk ((numericsV v u).1.nk) ((numericsV v u).1.nn)) (Nm.mk ((numericsV v u).2.1.nk) ((numericsV v u).2.1.nn))).2)).2.1.n),.bool false,sv none ([]) 0,sv none ([]) 0,iv 0]:=cC
 refine st_act rfl rfl fun gH dK=>a_store' rfl cy cz cB (dK _ _ trivial ?_)
 have dL:=dF.trans dI (fun _ h b=>by subst b; omega)
 refine st_take rfl rfl (y_assign (v:=iv ((numberedV ((addM (Nm.mk ((numericsV v u).1.nk) ((numericsV v u).1.nn)) (Nm.mk ((numericsV v u).2.1.nk) ((numericsV v u).2.1.nn))).1) ((addM (Nm.mk ((numericsV v u).1.nk) ((numericsV v u).1.nn)) (Nm.mk ((numericsV v u).2.1.nk) ((numericsV v u).2.1.nn))).2)).2.2)) rfl cA) rfl ?_
 obtain⟨e0,az⟩:∃ a',a'=cx.put (some 7) (iv ((numberedV ((addM (Nm.mk ((numericsV v u).1.nk) ((numericsV v u).1.nn)) (Nm.mk ((numericsV v u).2.1.nk) ((numericsV v u).2.1.nn))).1) ((addM (Nm.mk ((numericsV v u).1.nk) ((numericsV v u).1.nn)) (Nm.mk ((numericsV v u).2.1.nk) ((numericsV v u).2.1.nn))).2)).2.2)):=⟨_,rfl⟩
 have fQ:=pz az bR
 have dM:=pd az dE
 have e1:=pn az cy (by decide)
 have gI:=pn az cz (by decide)
 have gJ:=pn az cA (by decide)
 have e2:e0.eval (.tmp 7)=iv ((numberedV ((addM (Nm.mk ((numericsV v u).1.nk) ((numericsV v u).1.nn)) (Nm.mk ((numericsV v u).2.1.nk) ((numericsV v u).2.1.nn))).1) ((addM (Nm.mk ((numericsV v u).1.nk) ((numericsV v u).1.nn)) (Nm.mk ((numericsV v u).2.1.nk) ((numericsV v u).2.1.nn))).2)).2.2):=by rw [az]; exact put_same _ _ _ (by rw [bR]; decide)
 show stepsTo _ _ _ _ _ (cx.put (some 7) (iv ((numberedV ((addM (Nm.mk ((numericsV v u).1.nk) ((numericsV v u).1.nn)) (Nm.mk ((numericsV v u).2.1.nk) ((numericsV v u).2.1.nn))).1) ((addM (Nm.mk ((numericsV v u).1.nk) ((numericsV v u).1.nn)) (Nm.mk ((numericsV v u).2.1.nk) ((numericsV v u).2.1.nn))).2)).2.2))) _
 rw [← az]
 refine st_nil (dD _ _ ?_)
 refine wp_ret (ret_k dM (v:=.tuple #[vv (Vl.mk (numberedV ((addM (Nm.mk ((numericsV v u).1.nk) ((numericsV v u).1.nn)) (Nm.mk ((numericsV v u).2.1.nk) ((numericsV v u).2.1.nn))).1) ((addM (Nm.mk ((numericsV v u).1.nk) ((numericsV v u).1.nn)) (Nm.mk ((numericsV v u).2.1.nk) ((numericsV v u).2.1.nn))).2)).1 (numberedV ((addM (Nm.mk ((numericsV v u).1.nk) ((numericsV v u).1.nn)) (Nm.mk ((numericsV v u).2.1.nk) ((numericsV v u).2.1.nn))).1) ((addM (Nm.mk ((numericsV v u).1.nk) ((numericsV v u).1.nn)) (Nm.mk ((numericsV v u).2.1.nk) ((numericsV v u).2.1.nn))).2)).2.1.k (numberedV ((addM (Nm.mk ((numericsV v u).1.nk) ((numericsV v u).1.nn)) (Nm.mk ((numericsV v u).2.1.nk) ((numericsV v u).2.1.nn))).1) ((addM (Nm.mk ((numericsV v u).1.nk) ((numericsV v u).1.nn)) (Nm.mk ((numericsV v u).2.1.nk) ((numericsV v u).2.1.nn))).2)).2.1.n false [] [] 0) none 0 none 0,iv ((numberedV ((addM (Nm.mk ((numericsV v u).1.nk) ((numericsV v u).1.nn)) (Nm.mk ((numericsV v u).2.1.nk) ((numericsV v u).2.1.nn))).1) ((addM (Nm.mk ((numericsV v u).1.nk) ((numericsV v u).1.nn)) (Nm.mk ((numericsV v u).2.1.nk) ((numericsV v u).2.1.nn))).2)).2.2)]) (res_ct rfl e1 e2 (l_agg Tryz.isAgg29 Tryz.sizeOf29 dJ rfl)) ?_)
 have aN:(sumsP v u).1.mag=[]:=by first|rfl|(simp only [sumsP,numV,Vl.z,aa,ab,bsm] <;> rfl)|(exfalso; omega)
 have aO:(sumsP v u).1.s=[]:=by first|rfl|(simp only [sumsP,numV,Vl.z,aa,ab,bsm] <;> rfl)|(exfalso; omega)
 exact⟨none,0,none,0,(by show Ending.returned (.tuple #[vv (Vl.mk (numberedV ((addM (Nm.mk ((numericsV v u).1.nk) ((numericsV v u).1.nn)) (Nm.mk ((numericsV v u).2.1.nk) ((numericsV v u).2.1.nn))).1) ((addM (Nm.mk ((numericsV v u).1.nk) ((numericsV v u).1.nn)) (Nm.mk ((numericsV v u).2.1.nk) ((numericsV v u).2.1.nn))).2)).1 (numberedV ((addM (Nm.mk ((numericsV v u).1.nk) ((numericsV v u).1.nn)) (Nm.mk ((numericsV v u).2.1.nk) ((numericsV v u).2.1.nn))).1) ((addM (Nm.mk ((numericsV v u).1.nk) ((numericsV v u).1.nn)) (Nm.mk ((numericsV v u).2.1.nk) ((numericsV v u).2.1.nn))).2)).2.1.k (numberedV ((addM (Nm.mk ((numericsV v u).1.nk) ((numericsV v u).1.nn)) (Nm.mk ((numericsV v u).2.1.nk) ((numericsV v u).2.1.nn))).1) ((addM (Nm.mk ((numericsV v u).1.nk) ((numericsV v u).1.nn)) (Nm.mk ((numericsV v u).2.1.nk) ((numericsV v u).2.1.nn))).2)).2.1.n false [] [] 0) none 0 none 0,iv ((numberedV ((addM (Nm.mk ((numericsV v u).1.nk) ((numericsV v u).1.nn)) (Nm.mk ((numericsV v u).2.1.nk) ((numericsV v u).2.1.nn))).1) ((addM (Nm.mk ((numericsV v u).1.nk) ((numericsV v u).1.nn)) (Nm.mk ((numericsV v u).2.1.nk) ((numericsV v u).2.1.nn))).2)).2.2)])=Ending.returned (.tuple #[vv (sumsP v u).1 none 0 none 0,iv ((sumsP v u).2)]); (first|rfl|(simp only [sumsP,numV,Vl.z,aa,ab,aN,aO,bsm] <;> rfl)|(exfalso; omega))),(by rw [aN]; exact (SRow.nil _ _)),(by rw [aO]; exact (SRow.nil _ _)),dL⟩
 have cf:=oF aa
 refine wp_g0 [true,true,true] [] 92
   [ve (iv ((numericsV v u).2.2)),vT,vT] bj (.eq (.eq (.eq (.nil)))) ?_ ?_
 exact .m (fun k=>k.fx 10 bk)<| .t (fun _ w hn k=>⟨_,v_bin rfl (k.eq1 0 19 rfl) rfl (fun _=>rfl) (r_neq aa),rfl⟩)<| .a (fun k=>k.eq1 1 20 rfl) .nil
 refine aftI bj cc cb fun gK gL bS dN dO aA aD=>?_
 have gM:=aD.fx 0 d3
 have e3:=aD.fx 6 d4
 have gN:=aD.fx 8 cd
 have gO:=aD.fx 9 ce
 have e4:=aD.fx 10 bk
 have e5:=aD.ge 2 18 rfl
 have dP:=b9.new_ aA
 have fR:=ca.new_ aA
 have fS:=b4.new_ aA
 have fT:=b5.new_ aA
 have fU:=b6.new_ aA
 have fV:=b7.new_ aA
 have fW:=b8.new_ aA
 refine st_nil (bE _ _ ?_)
 refine wp_cond_true e5 ?_
 refine wp_seq_k fun gP dQ=>?_
 refine wp_g [true,true,false,false] [1] [(2,false),(3,true)] 92
   [ve (vv (Vl.mk 0 0 0 false [] [] 0) none 0 none 0),ve (iv ((numericsV v u).2.2)),vt,vt]
   [] newsNil bS (.eq (.eq (.tt (.tt (.nil))))) ?_ ?_ ?_
 refine .t (fun _ w hn k=>⟨_,v_build (ps:=[]) rfl parts0 (by kernel_rfl),rfl⟩) ?_
 refine .o3 ?_
 exact .off<| .off .nil
 intro i h
 simp only [List.contains_eq_mem,List.mem_cons,List.not_mem_nil,or_false,decide_eq_true_eq] at h
 subst h
 exact eager_take rfl rfl fun _ w hn k=>⟨iv ((numericsV v u).2.2),fun w=>v_move rfl (k.fx 10 e4),rfl⟩
 refine aftI bS dN dO fun cD gQ bT dR dS dT bq=>?_
 have cE:=bq.fx 6 e3
 have cF:=bq.ge 0 21 rfl
 have cG:=bq.ge 1 22 rfl
 have dU:=dP.new_ dT
 obtain⟨e6,cH,cI,dV,fX⟩:=s_many (P:=Tryz.prog) (t:=29) (i:=0) z7 Tryz.sizeOf29 rfl rfl rfl dU lb
 have dW:Blk e6 aR 29 z7:=cI
 refine st_act rfl rfl fun gR dX=>a_store' rfl cE cF cH (dX _ _ trivial ?_)
 have dY:=dS.trans dV (fun _ h b=>by subst b; omega)
 refine st_take rfl rfl (y_assign (v:=iv ((numericsV v u).2.2)) rfl cG) rfl ?_
 obtain⟨e7,aB⟩:∃ a',a'=cD.put (some 7) (iv ((numericsV v u).2.2)):=⟨_,rfl⟩
 have fY:=pz aB bT
 have dZ:=pd aB dR
 have e8:=pn aB cE (by decide)
 have gS:=pn aB cF (by decide)
 have gT:=pn aB cG (by decide)
 have e9:e7.eval (.tmp 7)=iv ((numericsV v u).2.2):=by rw [aB]; exact put_same _ _ _ (by rw [bT]; decide)
 show stepsTo _ _ _ _ _ (cD.put (some 7) (iv ((numericsV v u).2.2))) _
 rw [← aB]
 refine st_nil (dQ _ _ ?_)
 refine wp_ret (ret_k dZ (v:=.tuple #[vv (Vl.mk 0 0 0 false [] [] 0) none 0 none 0,iv ((numericsV v u).2.2)]) (res_ct rfl e8 e9 (l_agg Tryz.isAgg29 Tryz.sizeOf29 dW rfl)) ?_)
 have aN:(sumsP v u).1.mag=[]:=by first|rfl|(simp only [sumsP,numV,Vl.z,aa,bsm] <;> rfl)|(exfalso; omega)
 have aO:(sumsP v u).1.s=[]:=by first|rfl|(simp only [sumsP,numV,Vl.z,aa,bsm] <;> rfl)|(exfalso; omega)
 exact⟨none,0,none,0,(by show Ending.returned (.tuple #[vv (Vl.mk 0 0 0 false [] [] 0) none 0 none 0,iv ((numericsV v u).2.2)])=Ending.returned (.tuple #[vv (sumsP v u).1 none 0 none 0,iv ((sumsP v u).2)]); (first|rfl|(simp only [sumsP,numV,Vl.z,aa,aN,aO,bsm] <;> rfl)|(exfalso; omega))),(by rw [aN]; exact (SRow.nil _ _)),(by rw [aO]; exact (SRow.nil _ _)),dY⟩
def binPl_c_P  (v:Vl) (Av:Option Addr) (cv:Nat) (Bv:Option Addr) (dv:Nat) (u:Vl) (Au:Option Addr) (cu:Nat) (Bu:Option Addr) (du:Nat) (w:World) (en:Ending) (w':World):Prop:=∃ (Ar0:Option Addr) (cr0:Nat) (Ar1:Option Addr) (cr1:Nat),en=.returned (.tuple #[vv (sumsP (cleanV v) (cleanV u)).1 Ar0 cr0 Ar1 cr1,iv ((sumsP (cleanV v) (cleanV u)).2)])∧SRow w' .u32 Ar0 ((sumsP (cleanV v) (cleanV u)).1.mag) cr0∧SRow w' .u16 Ar1 ((sumsP (cleanV v) (cleanV u)).1.s) cr1∧New w w'
theorem binPl_c  (v:Vl) (Av:Option Addr) (cv:Nat) (Bv:Option Addr) (dv:Nat) (u:Vl) (Au:Option Addr) (cu:Nat) (Bu:Option Addr) (du:Nat) (w:World) (hmv:SRow w .u32 Av v.mag cv) (hsv:SRow w .u16 Bv v.s dv) (hmu:SRow w .u32 Au u.mag cu) (hsu:SRow w .u16 Bu u.s du) (hvv:VOk v) (hvu:VOk u) (hk1:(cleanV v).k ≠ 5) (hk2:(cleanV u).k ≠ 5):Calls Tryz.prog 12 #[.string ⟨#[43]⟩,vv v Av cv Bv dv,vv u Au cu Bu du] w (binPl_c_P v Av cv Bv dv u Au cu Bu du w):=by
 refine enter_abs Tryz.func12 rfl fun a0 aR c1 hp=>?_
 have aR:a0.tmps.size=120:=aR
 have aS:New w w:=Upd.refl _ _
 have hp0:a0.eval (.tmp 0)=.string ⟨#[43]⟩:=hp 0 _ rfl
 have hp1:a0.eval (.tmp 1)=vv v Av cv Bv dv:=hp 1 _ rfl
 have hp2:a0.eval (.tmp 2)=vv u Au cu Bu du:=hp 2 _ rfl
 refine wp_seq_k fun K1 c3=>?_
 refine wp_g [true,true,true,true] [] [] 120
   [IsNew w 29 (c7 v Av cv Bv dv),IsNew w 29 (c7 u Au cu Bu du),IsNew w 29 z7,ve (iv 0)]
   [0,1,2] (newsCons (fun v w h=>IsNew.old h) (newsCons (fun v w h=>IsNew.old h) (newsCons (fun v w h=>IsNew.old h) newsNil))) aR (.nw (.nw (.nw (.eq (.nil))))) ?_ (fun i h=>by cases h) ?_
 exact .o2 (step_allocN (cs:=(c7 v Av cv Bv dv)) (t:=29) rfl (noG rfl) (fun _ w hn k=>v_box rfl (k.fx 1 hp1) (fun w=>rfl)) (fun q _ hq hb=>⟨q,rfl,hq,hb⟩))<| .o2 (step_allocN (cs:=(c7 u Au cu Bu du)) (t:=29) rfl (noG rfl) (fun _ w hn k=>v_box rfl (k.fx 2 hp2) (fun w=>rfl)) (fun q _ hq hb=>⟨q,rfl,hq,hb⟩))<| .o2 (step_allocN (cs:=z7) (t:=29) rfl (noG rfl) (fun _ w hn k=>rfl) (fun q _ hq hb=>⟨q,rfl,hq,hb⟩))<| .t (fun _ w hn k=>⟨_,v_assign rfl rfl,rfl⟩) .nil
 refine aftI aR c1 aS fun a2 w3 b3 c5 an dX ao=>?_
 have h8:=ao.fx 0 hp0
 obtain⟨aT,h9,b9,a3⟩:=ao.G 0 4
 obtain⟨aU,aV,ca,a4⟩:=ao.G 1 5
 obtain⟨a5,a6,cb,cc⟩:=ao.G 2 6
 have hne21:aT ≠ aU:=ao.ne 0 1 4 5 h9 aV
 have hne22:aT ≠ a5:=ao.ne 0 2 4 6 h9 a6
 have hne23:aU ≠ a5:=ao.ne 1 2 5 6 aV a6
 have dE:=Nat.le_trans aS.size b9
 have dF:=Nat.le_trans aS.size ca
 have dG:=Nat.le_trans aS.size cb
 refine st_nil (c3 _ _ (wp_seq_k fun dY cd=>?_))
 refine wp_g0 [true,true,true,true,false,false] [(4,false),(5,false)] 120
   [ve (vv v Av cv Bv dv),
    (VP (cleanV v)),ve (vv u Au cu Bu du),
    (VP (cleanV u)),vt,vt] b3 (.eq (.cons (fun _ _ _ n ⟨_,_,_,_,e,h,i⟩=>⟨_,_,_,_,e,h.new_ n,i.new_ n⟩) (.eq (.cons (fun _ _ _ n ⟨_,_,_,_,e,h,i⟩=>⟨_,_,_,_,e,h.new_ n,i.new_ n⟩) (.tt (.tt (.nil))))))) ?_ ?_
 refine .t (fun _ w hn k=>⟨_,v_load rfl (k.fx 4 h9) (l_agg Tryz.isAgg29 Tryz.sizeOf29 (a3.new_ hn) rfl),rfl⟩) ?_
 refine .o1 (tkC rfl (noG rfl) rfl fun _ w hn k=>(by
       refine ⟨#[vv v Av cv Bv dv],_,args1 (k.eq1 0 10 rfl),fun w=>by kernel_rfl,clean_c v _ _ _ _ _ (hmv.new_ (an.transNew hn)) (hsv.new_ (an.transNew hn)),?_⟩
       rintro e w' ⟨A1,c2,A3,c4,rfl,hmo0,hmo1,hm⟩
       exact⟨_,rfl,hm,⟨A1,c2,A3,c4,rfl,hmo0,hmo1⟩⟩)) ?_
 refine .t (fun _ w hn k=>⟨_,v_load rfl (k.fx 5 aV) (l_agg Tryz.isAgg29 Tryz.sizeOf29 (a4.new_ hn) rfl),rfl⟩) ?_
 refine .o1 (tkC rfl (noG rfl) rfl fun _ w hn k=>(by
       refine ⟨#[vv u Au cu Bu du],_,args1 (k.eq1 2 12 rfl),fun w=>by kernel_rfl,clean_c u _ _ _ _ _ (hmu.new_ (an.transNew hn)) (hsu.new_ (an.transNew hn)),?_⟩
       rintro e w' ⟨A9,dd,de,df,rfl,hmo0,hmo1,hm⟩
       exact⟨_,rfl,hm,⟨A9,dd,de,df,rfl,hmo0,hmo1⟩⟩)) ?_
 exact .off<| .off .nil
 refine aftI b3 c5 an fun b4 dZ a7 ce cf aP am=>?_
 have b5:=am.fx 0 h8
 have b6:=am.fx 4 h9
 have b7:=am.fx 5 aV
 have dg:=am.fx 6 a6
 obtain⟨aM,ap,aN,aq,a8,ch,ci⟩:=am.G 1 11
 have a8:b4.eval (.tmp 11)=vv (cleanV v) aM ap aN aq:=a8
 obtain⟨aO,ar,aG,au,a9,cj,cl⟩:=am.G 3 13
 have a9:b4.eval (.tmp 13)=vv (cleanV u) aO ar aG au:=a9
 have av:=a3.new_ aP
 have cm:=a4.new_ aP
 have cn:=cc.new_ aP
 obtain⟨dh,bk,bl,aw,ba⟩:=s_many (P:=Tryz.prog) (t:=29) (i:=0) (c7 (cleanV v) aM ap aN aq) Tryz.sizeOf29 rfl rfl rfl av lb
 have co:Blk dh aT 29 (c7 (cleanV v) aM ap aN aq):=bl
 refine st_act rfl rfl fun d0 cp=>a_store' rfl b6 a8 bk (cp _ _ trivial ?_)
 have cq:=ch.fr av aw
 have cr:=ci.fr av aw
 have ct:=cj.fr av aw
 have cw:=cl.fr av aw
 have ax:=ba _ _ _ (fun h=>hne21 h.symm) cm
 have cx:=ba _ _ _ (fun h=>hne22 h.symm) cn
 have cy:=cf.trans aw (fun _ h b=>by subst b; omega)
 obtain⟨di,bm,bn,ay,bb⟩:=s_many (P:=Tryz.prog) (t:=29) (i:=0) (c7 (cleanV u) aO ar aG au) Tryz.sizeOf29 rfl rfl rfl ax lb
 have cz:Blk di aU 29 (c7 (cleanV u) aO ar aG au):=bn
 refine st_act rfl rfl fun d1 cA=>a_store' rfl b7 a9 bm (cA _ _ trivial ?_)
 have cB:=cq.fr ax ay
 have cC:=cr.fr ax ay
 have cD:=ct.fr ax ay
 have cE:=cw.fr ax ay
 have cF:=bb _ _ _ (hne21) co
 have cG:=bb _ _ _ (fun h=>hne23 h.symm) cx
 have cH:=cy.trans ay (fun _ h b=>by subst b; omega)
 refine st_nil (cd _ _ (wp_seq_k fun d2 dH=>?_))
 refine wp_seq_k fun d3 cI=>?_
 refine wp_g0 [true] [] 120
   [ve (.string ⟨#[43]⟩)] a7 (.eq (.nil)) ?_ ?_
 exact .m (fun k=>k.fx 0 b5) .nil
 refine aftI a7 ce cH fun d4 d5 bd cJ bo ai az=>?_
 have dj:=az.fx 0 b5
 have dk:=az.fx 4 b6
 have dl:=az.fx 5 b7
 have dm:=az.fx 6 dg
 have b8:=az.ge 0 14 rfl
 have cK:=cF.new_ ai
 have cL:=cz.new_ ai
 have bp:=cG.new_ ai
 have bq:=cB.new_ ai
 have br:=cC.new_ ai
 have bs:=cD.new_ ai
 have bt:=cE.new_ ai
 refine st_nil (cI _ _ ?_)
 refine wp_block ?_
 refine wp_seq_k fun dI bu=>?_
 refine wp_g0 [true,true] [] 120
   [vT,vT] bd (.eq (.eq (.nil))) ?_ ?_
 exact .t (fun _ w hn k=>⟨_,v_bin rfl (k.fx 14 b8) rfl (fun _=>rfl) (r_eqlS (r:=true) (by kernel_rfl)),rfl⟩)<| .a (fun k=>k.eq1 0 16 rfl) .nil
 refine aftI bd cJ bo fun dJ dK aW bv bw aa ad=>?_
 have cM:=ad.fx 0 dj
 have be:=ad.fx 4 dk
 have bf:=ad.fx 5 dl
 have cN:=ad.fx 6 dm
 have dL:=ad.fx 14 b8
 have cO:=ad.ge 1 15 rfl
 have aX:=cK.new_ aa
 have aY:=cL.new_ aa
 have bx:=bp.new_ aa
 have bz:=bq.new_ aa
 have bA:=br.new_ aa
 have bB:=bs.new_ aa
 have bC:=bt.new_ aa
 refine st_nil (bu _ _ ?_)
 refine wp_cond_true cO ?_
 refine wp_seq_k fun dM bD=>?_
 refine wp_seq_k fun dN bE=>?_
 refine wp_g0 (.replicate 8 true) [] 120
   [ve (pv aT),ve (iv ((cleanV v).k)),ve (.bool (decide (((cleanV v).k)=5))),ve (.bool (decide (((cleanV v).k)=5))),ve (gq (!(decide (((cleanV v).k)=5))) (pv aU)),ve (gq (!(decide (((cleanV v).k)=5))) (iv ((cleanV u).k))),ve (gq (!(decide (((cleanV v).k)=5))) (.bool (decide (((cleanV u).k)=5)))),ve (.bool ((decide (((cleanV v).k)=5)) || (decide (((cleanV u).k)=5))))] aW (.eq (.eq (.eq (.eq (.eq (.eq (.eq (.eq (.nil))))))))) ?_ ?_
 exact .f (fun k=>k.fx 4 be)<| .t (fun _ w hn k=>⟨_,v_load rfl (k.eq1 0 17 rfl) (l_one Tryz.isAgg3 ((aX.new_ hn).cell 0)),rfl⟩)<| .t (fun _ w hn k=>⟨_,v_bin rfl (k.eq1 1 18 rfl) rfl (fun _=>rfl) (r_eql rfl),rfl⟩)<| .m (fun k=>k.eq1 2 19 rfl)<| .o1 (sc (G:=(!(decide (((cleanV v).k)=5)))) rfl rfl rfl (fun _ _ k=>g0' (k.eq1 3 20 rfl)) (fun hG _ w hn k=>v_field rfl (k.fx 5 bf) (fun w=>rfl)))<| .o1 (sc (G:=(!(decide (((cleanV v).k)=5)))) rfl rfl rfl (fun _ _ k=>g0' (k.eq1 3 20 rfl)) (fun hG _ w hn k=>v_load rfl (cT hG (k.eq1 4 21 rfl)) (l_one Tryz.isAgg3 ((aY.new_ hn).cell 0))))<| .o1 (sc (G:=(!(decide (((cleanV v).k)=5)))) rfl rfl rfl (fun _ _ k=>g0' (k.eq1 3 20 rfl)) (fun hG _ w hn k=>v_bin rfl (cT hG (k.eq1 5 22 rfl)) rfl (fun _=>rfl) (r_eql rfl)))<| .t (fun _ w hn k=>⟨_,v_or rfl (k.eq1 3 20 rfl) rfl (fun hg=>(cT (nt hg) (k.eq1 6 23 rfl))),rfl⟩) .nil
 refine aftI aW bv bw fun dO dP aZ bF bG ab aj=>?_
 have cP:=aj.fx 0 cM
 have cQ:=aj.fx 4 be
 have cR:=aj.fx 5 bf
 have cS:=aj.fx 6 cN
 have cU:=aj.ge 7 24 rfl
 have bH:=aX.new_ ab
 have bI:=aY.new_ ab
 have bJ:=bx.new_ ab
 have bK:=bz.new_ ab
 have bL:=bA.new_ ab
 have bM:=bB.new_ ab
 have bN:=bC.new_ ab
 refine st_nil (bE _ _ ?_)
 have aH:(((decide (((cleanV v).k)=5)) || (decide (((cleanV u).k)=5))))=false:=(by rw [show ((decide (((cleanV v).k)=5)))=false from decide_eq_false (hk1),show ((decide (((cleanV u).k)=5)))=false from decide_eq_false (hk2)]; rfl)
 have bO:=hB cU aH
 have bP:(decide (((cleanV v).k)=5))=false:=ol aH
 have dn:=oF bP
 have bQ:(decide (((cleanV u).k)=5))=false:=or_ aH
 have dp:=oF bQ
 refine wp_cond_false bO ?_
 refine wp_skip ?_
 refine bD _ _ ?_
 refine wp_seq_k fun dQ bR=>?_
 refine wp_g0 [true,true,true,true,true,true,false,false] [(6,false),(7,true)] 120
   [ve (.string ⟨#[43]⟩),ve (vv (cleanV v) aM ap aN aq),ve (vv (cleanV u) aO ar aG au),(TP (sumsP (cleanV v) (cleanV u)).1 ((sumsP (cleanV v) (cleanV u)).2)),(fun (v_:Value) (W:World)=>∃ (aA:Option Addr) (aB:Nat) (aC:Option Addr) (aD:Nat),v_=vv (sumsP (cleanV v) (cleanV u)).1 aA aB aC aD∧SRow W .u32 aA ((sumsP (cleanV v) (cleanV u)).1.mag) aB∧SRow W .u16 aC ((sumsP (cleanV v) (cleanV u)).1.s) aD),ve (iv ((sumsP (cleanV v) (cleanV u)).2)),vt,vt] aZ (.eq (.eq (.eq (.cons (fun _ _ _ n ⟨_,_,_,_,e,h,i⟩=>⟨_,_,_,_,e,h.new_ n,i.new_ n⟩) (.cons (fun _ _ _ n ⟨_,_,_,_,e,h,i⟩=>⟨_,_,_,_,e,h.new_ n,i.new_ n⟩) (.eq (.tt (.tt (.nil))))))))) ?_ ?_
 refine .m (fun k=>k.fx 0 cP)<| .t (fun _ w hn k=>⟨_,v_load rfl (k.fx 4 cQ) (l_agg Tryz.isAgg29 Tryz.sizeOf29 (bH.new_ hn) rfl),rfl⟩)<| .t (fun _ w hn k=>⟨_,v_load rfl (k.fx 5 cR) (l_agg Tryz.isAgg29 Tryz.sizeOf29 (bI.new_ hn) rfl),rfl⟩) ?_
 refine .o1 (tkC rfl (noG rfl) rfl fun _ w hn k=>(by
       refine ⟨#[.string ⟨#[43]⟩,vv (cleanV v) aM ap aN aq,vv (cleanV u) aO ar aG au],_,args3 (k.eq1 0 30 rfl) (k.eq1 1 31 rfl) (k.eq1 2 32 rfl),fun w=>by kernel_rfl,sumsPl_c (cleanV v) _ _ _ _ (cleanV u) _ _ _ _ _ (bK.new_ hn) (bL.new_ hn) (bM.new_ hn) (bN.new_ hn) hvv.clean hvu.clean,?_⟩
       rintro e w' ⟨dq,dr,ds,dt,rfl,hmo0,hmo1,hm⟩
       exact⟨_,rfl,hm,⟨dq,dr,ds,dt,rfl,hmo0,hmo1⟩⟩)) ?_
 refine .o1 (tk rfl rfl fun _ w hn k=>(by
       obtain⟨dw,dx,dy,dz,dA,cV,cW⟩:(TP (sumsP (cleanV v) (cleanV u)).1 ((sumsP (cleanV v) (cleanV u)).2)) _ _:=k.dep 3 33 (by kernel_rfl) (by kernel_rfl)
       exact⟨_,v_extract rfl dA rfl,⟨dw,dx,dy,dz,rfl,cV,cW⟩⟩)) ?_
 refine .o1 (tk rfl rfl fun _ w hn k=>(by
       obtain⟨aG,d6,d7,d8,dB,dR,dS⟩:(TP (sumsP (cleanV v) (cleanV u)).1 ((sumsP (cleanV v) (cleanV u)).2)) _ _:=k.dep 3 33 (by kernel_rfl) (by kernel_rfl)
       exact⟨_,v_extract rfl dB rfl,rfl⟩)) ?_
 exact .off<| .off .nil
 refine aftI aZ bF bG fun aQ dT a1 bS bT bU aI=>?_
 have bg:=aI.fx 6 cS
 obtain⟨aE,ak,aF,al,aJ,bV,bW⟩:=aI.G 4 34
 have aJ:aQ.eval (.tmp 34)=vv (sumsP (cleanV v) (cleanV u)).1 aE ak aF al:=aJ
 have bh:=aI.ge 5 35 rfl
 have aK:=bJ.new_ bU
 obtain⟨cX,bi,bj,aL,dC⟩:=s_many (P:=Tryz.prog) (t:=29) (i:=0) (c7 (sumsP (cleanV v) (cleanV u)).1 aE ak aF al) Tryz.sizeOf29 rfl rfl rfl aK lb
 have bX:Blk cX a5 29 (c7 (sumsP (cleanV v) (cleanV u)).1 aE ak aF al):=bj
 refine st_act rfl rfl fun dU bY=>a_store' rfl bg aJ bi (bY _ _ trivial ?_)
 have bZ:=bV.fr aK aL
 have b0:=bW.fr aK aL
 have b1:=bT.trans aL (fun _ h b=>by subst b; omega)
 refine st_take rfl rfl (y_assign (v:=iv ((sumsP (cleanV v) (cleanV u)).2)) rfl bh) rfl ?_
 obtain⟨cY,ac⟩:∃ a',a'=aQ.put (some 7) (iv ((sumsP (cleanV v) (cleanV u)).2)):=⟨_,rfl⟩
 have dD:=pz ac a1
 have b2:=pd ac bS
 have cZ:=pn ac bg (by decide)
 have dV:=pn ac aJ (by decide)
 have dW:=pn ac bh (by decide)
 have c0:cY.eval (.tmp 7)=iv ((sumsP (cleanV v) (cleanV u)).2):=by rw [ac]; exact put_same _ _ _ (by rw [a1]; decide)
 show stepsTo _ _ _ _ _ (aQ.put (some 7) (iv ((sumsP (cleanV v) (cleanV u)).2))) _
 rw [← ac]
 refine st_nil (bR _ _ ?_)
 refine wp_ret (ret_k b2 (v:=.tuple #[vv (sumsP (cleanV v) (cleanV u)).1 aE ak aF al,iv ((sumsP (cleanV v) (cleanV u)).2)]) (res_ct rfl cZ c0 (l_agg Tryz.isAgg29 Tryz.sizeOf29 bX rfl)) ?_)
 exact⟨aE,ak,aF,al,rfl,bZ,b0,b1⟩
def bigsMi_c_P  (a:Bool) (Aa:Option Addr) (ma:List Nat) (ca:Nat) (b:Bool) (Ab:Option Addr) (mb:List Nat) (cb:Nat) (w:World) (en:Ending) (w':World):Prop:=∃ (Ar0:Option Addr) (cr0:Nat) (Ar1:Option Addr) (cr1:Nat),en=.returned (.tuple #[vv (bigZ (goodI a ma - goodI b mb)).1 Ar0 cr0 Ar1 cr1,iv ((bigZ (goodI a ma - goodI b mb)).2)])∧SRow w' .u32 Ar0 ((bigZ (goodI a ma - goodI b mb)).1.mag) cr0∧SRow w' .u16 Ar1 ((bigZ (goodI a ma - goodI b mb)).1.s) cr1∧New w w'
theorem bigsMi_c  (a:Bool) (Aa:Option Addr) (ma:List Nat) (ca:Nat) (b:Bool) (Ab:Option Addr) (mb:List Nat) (cb:Nat) (w:World) (hra:SRow w .u32 Aa ma ca) (hrb:SRow w .u32 Ab mb cb) (ha:Limbs ma) (hb:Limbs mb):Calls Tryz.prog 75 #[.string ⟨#[45]⟩,.agg #[.bool a,sv Aa ma ca],.agg #[.bool b,sv Ab mb cb]] w (bigsMi_c_P a Aa ma ca b Ab mb cb w):=by
 refine enter_abs Tryz.func75 rfl fun a0 aB bF hp=>?_
 have aB:a0.tmps.size=60:=aB
 have aC:New w w:=Upd.refl _ _
 have hp0:a0.eval (.tmp 0)=.string ⟨#[45]⟩:=hp 0 _ rfl
 have hp1:a0.eval (.tmp 1)=.agg #[.bool a,sv Aa ma ca]:=hp 1 _ rfl
 have hp2:a0.eval (.tmp 2)=.agg #[.bool b,sv Ab mb cb]:=hp 2 _ rfl
 refine wp_seq_k fun K1 bG=>?_
 refine wp_g [true,true,true,true] [] [] 60
   [IsNew w 26 [.bool a,sv Aa ma ca],IsNew w 26 [.bool b,sv Ab mb cb],IsNew w 29 z7,ve (iv 0)]
   [0,1,2] (newsCons (fun v w h=>IsNew.old h) (newsCons (fun v w h=>IsNew.old h) (newsCons (fun v w h=>IsNew.old h) newsNil))) aB (.nw (.nw (.nw (.eq (.nil))))) ?_ (fun i h=>by cases h) ?_
 exact .o2 (step_allocN (cs:=[.bool a,sv Aa ma ca]) (t:=26) rfl (noG rfl) (fun _ w hn k=>v_box rfl (k.fx 1 hp1) (fun w=>rfl)) (fun q _ hq hb=>⟨q,rfl,hq,hb⟩))<| .o2 (step_allocN (cs:=[.bool b,sv Ab mb cb]) (t:=26) rfl (noG rfl) (fun _ w hn k=>v_box rfl (k.fx 2 hp2) (fun w=>rfl)) (fun q _ hq hb=>⟨q,rfl,hq,hb⟩))<| .o2 (step_allocN (cs:=z7) (t:=29) rfl (noG rfl) (fun _ w hn k=>rfl) (fun q _ hq hb=>⟨q,rfl,hq,hb⟩))<| .t (fun _ w hn k=>⟨_,v_assign rfl rfl,rfl⟩) .nil
 refine aftI aB bF aC fun a2 w3 aS bH a1 cu ar=>?_
 have h8:=ar.fx 0 hp0
 obtain⟨bI,h9,a3,a4⟩:=ar.G 0 4
 obtain⟨bJ,aT,a5,a6⟩:=ar.G 1 5
 obtain⟨aE,aF,a7,a8⟩:=ar.G 2 6
 have hne21:bI ≠ aE:=ar.ne 0 2 4 6 h9 aF
 have hne22:bJ ≠ aE:=ar.ne 1 2 5 6 aT aF
 have ci:=Nat.le_trans aC.size a3
 have cj:=Nat.le_trans aC.size a5
 have cl:=Nat.le_trans aC.size a7
 refine st_nil (bG _ _ (wp_seq_k fun cv cm=>?_))
 refine wp_seq_k fun cw a9=>?_
 refine wp_g0 [true] [] 60
   [ve (.string ⟨#[45]⟩)] aS (.eq (.nil)) ?_ ?_
 exact .m (fun k=>k.fx 0 h8) .nil
 refine aftI aS bH a1 fun cx cy aG ba bb au aj=>?_
 have bK:=aj.fx 0 h8
 have bL:=aj.fx 4 h9
 have bM:=aj.fx 5 aT
 have bN:=aj.fx 6 aF
 have aU:=aj.ge 0 10 rfl
 have bd:=a4.new_ au
 have be:=a6.new_ au
 have bf:=a8.new_ au
 refine st_nil (a9 _ _ ?_)
 refine wp_block ?_
 refine wp_seq_k fun cz bg=>?_
 refine wp_g0 [true,true] [] 60
   [vF,vF] aG (.eq (.eq (.nil))) ?_ ?_
 exact .t (fun _ w hn k=>⟨_,v_bin rfl (k.fx 10 aU) rfl (fun _=>rfl) (r_eqlS (r:=false) (by kernel_rfl)),rfl⟩)<| .a (fun k=>k.eq1 0 12 rfl) .nil
 refine aftI aG ba bb fun cA cB aH bh bi av ah=>?_
 have bO:=ah.fx 0 bK
 have bP:=ah.fx 4 bL
 have bQ:=ah.fx 5 bM
 have bR:=ah.fx 6 bN
 have aV:=ah.fx 10 aU
 have bS:=ah.ge 1 11 rfl
 have bj:=bd.new_ av
 have bk:=be.new_ av
 have bl:=bf.new_ av
 refine st_nil (bg _ _ ?_)
 refine wp_cond_false bS ?_
 refine wp_seq_k fun cC bm=>?_
 refine wp_g0 [true,true] [] 60
   [vT,vT] aH (.eq (.eq (.nil))) ?_ ?_
 exact .t (fun _ w hn k=>⟨_,v_bin rfl (k.fx 10 aV) rfl (fun _=>rfl) (r_eqlS (r:=true) (by kernel_rfl)),rfl⟩)<| .a (fun k=>k.eq1 0 22 rfl) .nil
 refine aftI aH bh bi fun cD cE aI bn aw ax ai=>?_
 have cF:=ai.fx 0 bO
 have bT:=ai.fx 4 bP
 have bU:=ai.fx 5 bQ
 have bV:=ai.fx 6 bR
 have cG:=ai.fx 10 aV
 have bW:=ai.ge 1 21 rfl
 have bo:=bj.new_ ax
 have bp:=bk.new_ ax
 have bq:=bl.new_ ax
 refine st_nil (bm _ _ ?_)
 refine wp_cond_true bW ?_
 refine wp_seq_k fun cH br=>?_
 refine wp_g0 [true,true,true,true,true,true,true,true,false,false] [(8,false),(9,true)] 60
   [ve (.agg #[.bool a,sv Aa ma ca]),ve (.agg #[.bool b,sv Ab mb cb]),(fun (v_:Value) (W:World)=>∃ (A3:Option Addr) (c4:Nat),v_=.tuple #[.agg #[.bool (decide ((capI (goodI a ma - goodI b mb)) < 0)),sv A3 (canon ((capI (goodI a ma - goodI b mb))).natAbs) c4],.bool (okI (goodI a ma - goodI b mb))]∧SRow W .u32 A3 (canon ((capI (goodI a ma - goodI b mb))).natAbs) c4),(fun (v_:Value) (W:World)=>∃ (A9:Option Addr) (ak:Nat),v_=.agg #[.bool (decide ((capI (goodI a ma - goodI b mb)) < 0)),sv A9 (canon ((capI (goodI a ma - goodI b mb))).natAbs) ak]∧SRow W .u32 A9 (canon ((capI (goodI a ma - goodI b mb))).natAbs) ak),ve (.bool (okI (goodI a ma - goodI b mb))),(TP (biggedV (decide ((capI (goodI a ma - goodI b mb)) < 0)) (canon ((capI (goodI a ma - goodI b mb))).natAbs) (okI (goodI a ma - goodI b mb))).1 ((biggedV (decide ((capI (goodI a ma - goodI b mb)) < 0)) (canon ((capI (goodI a ma - goodI b mb))).natAbs) (okI (goodI a ma - goodI b mb))).2)),(fun (v_:Value) (W:World)=>∃ (al:Option Addr) (am:Nat) (an:Option Addr) (ao:Nat),v_=vv (biggedV (decide ((capI (goodI a ma - goodI b mb)) < 0)) (canon ((capI (goodI a ma - goodI b mb))).natAbs) (okI (goodI a ma - goodI b mb))).1 al am an ao∧SRow W .u32 al ((biggedV (decide ((capI (goodI a ma - goodI b mb)) < 0)) (canon ((capI (goodI a ma - goodI b mb))).natAbs) (okI (goodI a ma - goodI b mb))).1.mag) am∧SRow W .u16 an ((biggedV (decide ((capI (goodI a ma - goodI b mb)) < 0)) (canon ((capI (goodI a ma - goodI b mb))).natAbs) (okI (goodI a ma - goodI b mb))).1.s) ao),ve (iv ((biggedV (decide ((capI (goodI a ma - goodI b mb)) < 0)) (canon ((capI (goodI a ma - goodI b mb))).natAbs) (okI (goodI a ma - goodI b mb))).2)),vt,vt] aI (.eq (.eq (.cons (fun _ _ _ n ⟨_,_,e,h⟩=>⟨_,_,e,h.new_ n⟩) (.cons (fun _ _ _ n ⟨_,_,e,h⟩=>⟨_,_,e,h.new_ n⟩) (.eq (.cons (fun _ _ _ n ⟨_,_,_,_,e,h,i⟩=>⟨_,_,_,_,e,h.new_ n,i.new_ n⟩) (.cons (fun _ _ _ n ⟨_,_,_,_,e,h,i⟩=>⟨_,_,_,_,e,h.new_ n,i.new_ n⟩) (.eq (.tt (.tt (.nil))))))))))) ?_ ?_
 refine .t (fun _ w hn k=>⟨_,v_load rfl (k.fx 4 bT) (l_two Tryz.isAgg26 Tryz.sizeOf26 (bo.new_ hn)),rfl⟩)<| .t (fun _ w hn k=>⟨_,v_load rfl (k.fx 5 bU) (l_two Tryz.isAgg26 Tryz.sizeOf26 (bp.new_ hn)),rfl⟩) ?_
 refine .o1 (tkC rfl (noG rfl) rfl fun _ w hn k=>(by
       refine ⟨#[.agg #[.bool a,sv Aa ma ca],.agg #[.bool b,sv Ab mb cb]],_,args2 (k.eq1 0 23 rfl) (k.eq1 1 24 rfl),fun w=>by kernel_rfl,bSub_c a _ ma _ b _ mb _ _ (hra.new_ (aw.transNew hn)) (hrb.new_ (aw.transNew hn)) ha hb,?_⟩
       rintro e w' ⟨A1,c2,rfl,hmo0,hm⟩
       exact⟨_,rfl,hm,⟨A1,c2,rfl,hmo0⟩⟩)) ?_
 refine .o1 (tk rfl rfl fun _ w hn k=>(by
       obtain⟨A5,c6,e7,bX⟩:(fun (v_:Value) (W:World)=>∃ (A3:Option Addr) (c4:Nat),v_=.tuple #[.agg #[.bool (decide ((capI (goodI a ma - goodI b mb)) < 0)),sv A3 (canon ((capI (goodI a ma - goodI b mb))).natAbs) c4],.bool (okI (goodI a ma - goodI b mb))]∧SRow W .u32 A3 (canon ((capI (goodI a ma - goodI b mb))).natAbs) c4) _ _:=k.dep 2 25 (by kernel_rfl) (by kernel_rfl)
       exact⟨_,v_extract rfl e7 rfl,⟨A5,c6,rfl,bX⟩⟩)) ?_
 refine .o1 (tk rfl rfl fun _ w hn k=>(by
       obtain⟨cI,cJ,bY,cn⟩:(fun (v_:Value) (W:World)=>∃ (A3:Option Addr) (c4:Nat),v_=.tuple #[.agg #[.bool (decide ((capI (goodI a ma - goodI b mb)) < 0)),sv A3 (canon ((capI (goodI a ma - goodI b mb))).natAbs) c4],.bool (okI (goodI a ma - goodI b mb))]∧SRow W .u32 A3 (canon ((capI (goodI a ma - goodI b mb))).natAbs) c4) _ _:=k.dep 2 25 (by kernel_rfl) (by kernel_rfl)
       exact⟨_,v_extract rfl bY rfl,rfl⟩)) ?_
 refine .o1 (tkC rfl (noG rfl) rfl fun _ w hn k=>(by
       obtain⟨bZ,b0,b1,bs⟩:(fun (v_:Value) (W:World)=>∃ (A9:Option Addr) (ak:Nat),v_=.agg #[.bool (decide ((capI (goodI a ma - goodI b mb)) < 0)),sv A9 (canon ((capI (goodI a ma - goodI b mb))).natAbs) ak]∧SRow W .u32 A9 (canon ((capI (goodI a ma - goodI b mb))).natAbs) ak) _ _:=k.dep 3 26 (by kernel_rfl) (by kernel_rfl)
       refine ⟨#[.agg #[.bool (decide ((capI (goodI a ma - goodI b mb)) < 0)),sv bZ (canon ((capI (goodI a ma - goodI b mb))).natAbs) b0],.bool (okI (goodI a ma - goodI b mb))],_,args2 b1 (k.eq1 4 27 rfl),fun w=>by kernel_rfl,bigged_c (decide ((capI (goodI a ma - goodI b mb)) < 0)) _ (canon ((capI (goodI a ma - goodI b mb))).natAbs) _ (okI (goodI a ma - goodI b mb)) _ bs,?_⟩
       rintro e w' ⟨b2,b3,b4,b5,rfl,hmo0,hmo1,hm⟩
       exact⟨_,rfl,hm,⟨b2,b3,b4,b5,rfl,hmo0,hmo1⟩⟩)) ?_
 refine .o1 (tk rfl rfl fun _ w hn k=>(by
       obtain⟨b6,b7,b8,b9,cc,bt,bu⟩:(TP (biggedV (decide ((capI (goodI a ma - goodI b mb)) < 0)) (canon ((capI (goodI a ma - goodI b mb))).natAbs) (okI (goodI a ma - goodI b mb))).1 ((biggedV (decide ((capI (goodI a ma - goodI b mb)) < 0)) (canon ((capI (goodI a ma - goodI b mb))).natAbs) (okI (goodI a ma - goodI b mb))).2)) _ _:=k.dep 5 28 (by kernel_rfl) (by kernel_rfl)
       exact⟨_,v_extract rfl cc rfl,⟨b6,b7,b8,b9,rfl,bt,bu⟩⟩)) ?_
 refine .o1 (tk rfl rfl fun _ w hn k=>(by
       obtain⟨cK,cL,cM,cN,cd,co,cp⟩:(TP (biggedV (decide ((capI (goodI a ma - goodI b mb)) < 0)) (canon ((capI (goodI a ma - goodI b mb))).natAbs) (okI (goodI a ma - goodI b mb))).1 ((biggedV (decide ((capI (goodI a ma - goodI b mb)) < 0)) (canon ((capI (goodI a ma - goodI b mb))).natAbs) (okI (goodI a ma - goodI b mb))).2)) _ _:=k.dep 5 28 (by kernel_rfl) (by kernel_rfl)
       exact⟨_,v_extract rfl cd rfl,rfl⟩)) ?_
 exact .off<| .off .nil
 refine aftI aI bn aw fun aJ cO aK bv bw bx ay=>?_
 have aW:=ay.fx 6 bV
 obtain⟨ap,af,aq,ag,aD,bz,bA⟩:=ay.G 6 29
 have aD:aJ.eval (.tmp 29)=vv (biggedV (decide ((capI (goodI a ma - goodI b mb)) < 0)) (canon ((capI (goodI a ma - goodI b mb))).natAbs) (okI (goodI a ma - goodI b mb))).1 ap af aq ag:=aD
 have aX:=ay.ge 7 30 rfl
 have az:=bq.new_ bx
 obtain⟨ce,aL,aM,aA,cf⟩:=s_many (P:=Tryz.prog) (t:=29) (i:=0) (c7 (biggedV (decide ((capI (goodI a ma - goodI b mb)) < 0)) (canon ((capI (goodI a ma - goodI b mb))).natAbs) (okI (goodI a ma - goodI b mb))).1 ap af aq ag) Tryz.sizeOf29 rfl rfl rfl az lb
 have bB:Blk ce aE 29 (c7 (biggedV (decide ((capI (goodI a ma - goodI b mb)) < 0)) (canon ((capI (goodI a ma - goodI b mb))).natAbs) (okI (goodI a ma - goodI b mb))).1 ap af aq ag):=aM
 refine st_act rfl rfl fun cq aN=>a_store' rfl aW aD aL (aN _ _ trivial ?_)
 have aO:=bz.fr az aA
 have aP:=bA.fr az aA
 have aQ:=bw.trans aA (fun _ h b=>by subst b; omega)
 refine st_take rfl rfl (y_assign (v:=iv ((biggedV (decide ((capI (goodI a ma - goodI b mb)) < 0)) (canon ((capI (goodI a ma - goodI b mb))).natAbs) (okI (goodI a ma - goodI b mb))).2)) rfl aX) rfl ?_
 obtain⟨bC,aa⟩:∃ a',a'=aJ.put (some 7) (iv ((biggedV (decide ((capI (goodI a ma - goodI b mb)) < 0)) (canon ((capI (goodI a ma - goodI b mb))).natAbs) (okI (goodI a ma - goodI b mb))).2)):=⟨_,rfl⟩
 have ch:=pz aa aK
 have aR:=pd aa bv
 have bD:=pn aa aW (by decide)
 have cr:=pn aa aD (by decide)
 have ct:=pn aa aX (by decide)
 have bE:bC.eval (.tmp 7)=iv ((biggedV (decide ((capI (goodI a ma - goodI b mb)) < 0)) (canon ((capI (goodI a ma - goodI b mb))).natAbs) (okI (goodI a ma - goodI b mb))).2):=by rw [aa]; exact put_same _ _ _ (by rw [aK]; decide)
 show stepsTo _ _ _ _ _ (aJ.put (some 7) (iv ((biggedV (decide ((capI (goodI a ma - goodI b mb)) < 0)) (canon ((capI (goodI a ma - goodI b mb))).natAbs) (okI (goodI a ma - goodI b mb))).2))) _
 rw [← aa]
 refine st_nil (br _ _ ?_)
 refine wp_ret (ret_k aR (v:=.tuple #[vv (biggedV (decide ((capI (goodI a ma - goodI b mb)) < 0)) (canon ((capI (goodI a ma - goodI b mb))).natAbs) (okI (goodI a ma - goodI b mb))).1 ap af aq ag,iv ((biggedV (decide ((capI (goodI a ma - goodI b mb)) < 0)) (canon ((capI (goodI a ma - goodI b mb))).natAbs) (okI (goodI a ma - goodI b mb))).2)]) (res_ct rfl bD bE (l_agg Tryz.isAgg29 Tryz.sizeOf29 bB rfl)) ?_)
 have aY:(bigZ (goodI a ma - goodI b mb)).1.mag=(biggedV (decide ((capI (goodI a ma - goodI b mb)) < 0)) (canon ((capI (goodI a ma - goodI b mb))).natAbs) (okI (goodI a ma - goodI b mb))).1.mag:=by first|rfl|(simp only [bigZ,bsm] <;> rfl)|(exfalso; omega)
 have aZ:(bigZ (goodI a ma - goodI b mb)).1.s=(biggedV (decide ((capI (goodI a ma - goodI b mb)) < 0)) (canon ((capI (goodI a ma - goodI b mb))).natAbs) (okI (goodI a ma - goodI b mb))).1.s:=by first|rfl|(simp only [bigZ,bsm] <;> rfl)|(exfalso; omega)
 exact⟨ap,af,aq,ag,(by show Ending.returned (.tuple #[vv (biggedV (decide ((capI (goodI a ma - goodI b mb)) < 0)) (canon ((capI (goodI a ma - goodI b mb))).natAbs) (okI (goodI a ma - goodI b mb))).1 ap af aq ag,iv ((biggedV (decide ((capI (goodI a ma - goodI b mb)) < 0)) (canon ((capI (goodI a ma - goodI b mb))).natAbs) (okI (goodI a ma - goodI b mb))).2)])=Ending.returned (.tuple #[vv (bigZ (goodI a ma - goodI b mb)).1 ap af aq ag,iv ((bigZ (goodI a ma - goodI b mb)).2)]); (first|rfl|(simp only [bigZ,aY,aZ,bsm] <;> rfl)|(exfalso; omega))),(by rw [aY]; exact aO),(by rw [aZ]; exact aP),aQ⟩
def sumsMi_c_P  (v:Vl) (Av:Option Addr) (cv:Nat) (Bv:Option Addr) (dv:Nat) (u:Vl) (Au:Option Addr) (cu:Nat) (Bu:Option Addr) (du:Nat) (w:World) (en:Ending) (w':World):Prop:=∃ (Ar0:Option Addr) (cr0:Nat) (Ar1:Option Addr) (cr1:Nat),en=.returned (.tuple #[vv (sumsM v u).1 Ar0 cr0 Ar1 cr1,iv ((sumsM v u).2)])∧SRow w' .u32 Ar0 ((sumsM v u).1.mag) cr0∧SRow w' .u16 Ar1 ((sumsM v u).1.s) cr1∧New w w'
theorem sumsMi_c  (v:Vl) (Av:Option Addr) (cv:Nat) (Bv:Option Addr) (dv:Nat) (u:Vl) (Au:Option Addr) (cu:Nat) (Bu:Option Addr) (du:Nat) (w:World) (hmv:SRow w .u32 Av v.mag cv) (hsv:SRow w .u16 Bv v.s dv) (hmu:SRow w .u32 Au u.mag cu) (hsu:SRow w .u16 Bu u.s du) (hvv:VOk v) (hvu:VOk u):Calls Tryz.prog 36 #[.string ⟨#[45]⟩,vv v Av cv Bv dv,vv u Au cu Bu du] w (sumsMi_c_P v Av cv Bv dv u Au cu Bu du w):=by
 refine enter_abs Tryz.func36 rfl fun a0 bB ft hp=>?_
 have bB:a0.tmps.size=92:=bB
 have bC:New w w:=Upd.refl _ _
 have hp0:a0.eval (.tmp 0)=.string ⟨#[45]⟩:=hp 0 _ rfl
 have hp1:a0.eval (.tmp 1)=vv v Av cv Bv dv:=hp 1 _ rfl
 have hp2:a0.eval (.tmp 2)=vv u Au cu Bu du:=hp 2 _ rfl
 refine wp_seq_k fun K1 fu=>?_
 refine wp_g [true,true,true,true] [] [] 92
   [IsNew w 29 (c7 v Av cv Bv dv),IsNew w 29 (c7 u Au cu Bu du),IsNew w 29 z7,ve (iv 0)]
   [0,1,2] (newsCons (fun v w h=>IsNew.old h) (newsCons (fun v w h=>IsNew.old h) (newsCons (fun v w h=>IsNew.old h) newsNil))) bB (.nw (.nw (.nw (.eq (.nil))))) ?_ (fun i h=>by cases h) ?_
 exact .o2 (step_allocN (cs:=(c7 v Av cv Bv dv)) (t:=29) rfl (noG rfl) (fun _ w hn k=>v_box rfl (k.fx 1 hp1) (fun w=>rfl)) (fun q _ hq hb=>⟨q,rfl,hq,hb⟩))<| .o2 (step_allocN (cs:=(c7 u Au cu Bu du)) (t:=29) rfl (noG rfl) (fun _ w hn k=>v_box rfl (k.fx 2 hp2) (fun w=>rfl)) (fun q _ hq hb=>⟨q,rfl,hq,hb⟩))<| .o2 (step_allocN (cs:=z7) (t:=29) rfl (noG rfl) (fun _ w hn k=>rfl) (fun q _ hq hb=>⟨q,rfl,hq,hb⟩))<| .t (fun _ w hn k=>⟨_,v_assign rfl rfl,rfl⟩) .nil
 refine aftI bB ft bC fun a2 w3 ee fv aF hh bi=>?_
 have h8:=bi.fx 0 hp0
 obtain⟨fw,h9,ej,ek⟩:=bi.G 0 4
 obtain⟨fy,ef,el,em⟩:=bi.G 1 5
 obtain⟨aT,bX,en,bw⟩:=bi.G 2 6
 have hne21:fw ≠ aT:=bi.ne 0 2 4 6 h9 bX
 have hne22:fy ≠ aT:=bi.ne 1 2 5 6 ef bX
 have gi:=Nat.le_trans bC.size ej
 have gj:=Nat.le_trans bC.size el
 have gk:=Nat.le_trans bC.size en
 refine st_nil (fu _ _ (wp_seq_k fun hi eo=>?_))
 refine wp_gS (fun W=>True) (fun W W' hn h=>trivial) trivial [true,true,true,true,true,true,true,true,true,false,false,false] [5,6] [(9,false),(10,false),(11,true)] 92
   [ve (vv v Av cv Bv dv),ve (vv u Au cu Bu du),(TQ (numericsV v u).1 (numericsV v u).2.1 ((numericsV v u).2.2)),(TQ (numericsV v u).1 (numericsV v u).2.1 ((numericsV v u).2.2)),(fun (v_:Value) (W:World)=>∃ (a3:Option Addr) (a4:Nat) (a5:Option Addr) (a6:Nat),v_=vv (numericsV v u).1 a3 a4 a5 a6∧SRow W .u32 a3 ((numericsV v u).1.mag) a4∧SRow W .u16 a5 ((numericsV v u).1.s) a6),(fun (v_:Value) (W:World)=>∃ (a7:Option Addr) (a8:Nat) (a9:Option Addr) (ba:Nat),v_=vv (numericsV v u).2.1 a7 a8 a9 ba∧SRow W .u32 a7 ((numericsV v u).2.1.mag) a8∧SRow W .u16 a9 ((numericsV v u).2.1.s) ba),ve (iv ((numericsV v u).2.2)),IsNew w3 29 z7,IsNew w3 29 z7,vt,vt,vt]
   [7,8] (newsCons (fun v w h=>IsNew.old h) (newsCons (fun v w h=>IsNew.old h) newsNil)) ee (.eq (.eq (.cons (fun _ _ _ n ⟨_,_,_,_,_,_,_,_,e,h,i,j,l⟩=>⟨_,_,_,_,_,_,_,_,e,h.new_ n,i.new_ n,j.new_ n,l.new_ n⟩) (.cons (fun _ _ _ n ⟨_,_,_,_,_,_,_,_,e,h,i,j,l⟩=>⟨_,_,_,_,_,_,_,_,e,h.new_ n,i.new_ n,j.new_ n,l.new_ n⟩) (.cons (fun _ _ _ n ⟨_,_,_,_,e,h,i⟩=>⟨_,_,_,_,e,h.new_ n,i.new_ n⟩) (.cons (fun _ _ _ n ⟨_,_,_,_,e,h,i⟩=>⟨_,_,_,_,e,h.new_ n,i.new_ n⟩) (.eq (.nw (.nw (.tt (.tt (.tt (.nil))))))))))))) ?_ ?_ ?_
 refine .t (fun _ w hn k=>⟨_,v_load rfl (k.fx 4 h9) (l_agg Tryz.isAgg29 Tryz.sizeOf29 (ek.new_ hn) rfl),rfl⟩)<| .t (fun _ w hn k=>⟨_,v_load rfl (k.fx 5 ef) (l_agg Tryz.isAgg29 Tryz.sizeOf29 (em.new_ hn) rfl),rfl⟩) ?_
 refine .o1 (tkC rfl (noG rfl) rfl fun _ w hn k=>(by
       refine ⟨#[vv v Av cv Bv dv,vv u Au cu Bu du],_,args2 (k.eq1 0 12 rfl) (k.eq1 1 13 rfl),fun w=>by kernel_rfl,numerics_c v _ _ _ _ u _ _ _ _ _ (hmv.new_ (aF.transNew hn)) (hsv.new_ (aF.transNew hn)) (hmu.new_ (aF.transNew hn)) (hsu.new_ (aF.transNew hn)) hvv hvu,?_⟩
       rintro e w' ⟨A1,c2,A3,c4,A5,c6,A7,c8,rfl,hmo0,hmo1,hmo2,hmo3,hm⟩
       exact⟨_,rfl,hm,⟨A1,c2,A3,c4,A5,c6,A7,c8,rfl,hmo0,hmo1,hmo2,hmo3⟩⟩)) ?_
 refine .o1 (tk rfl rfl fun _ w hn k=>(by
       obtain⟨fz,fA,fB,fC,fD,fE,fF,fG,fH,ep,er,es,et⟩:(TQ (numericsV v u).1 (numericsV v u).2.1 ((numericsV v u).2.2)) _ _:=k.dep 2 14 (by kernel_rfl) (by kernel_rfl)
       exact⟨_,v_move rfl fH,⟨fz,fA,fB,fC,fD,fE,fF,fG,rfl,ep,er,es,et⟩⟩)) ?_
 refine .o1 (tk rfl rfl fun _ w hn k=>(by
       obtain⟨fI,fJ,bt,fK,hj,hl,bj,ho,fL,eu,ev,gl,gm⟩:(TQ (numericsV v u).1 (numericsV v u).2.1 ((numericsV v u).2.2)) _ _:=k.dep 3 11 (by kernel_rfl) (by kernel_rfl)
       exact⟨_,v_extract rfl fL rfl,⟨fI,fJ,bt,fK,rfl,eu,ev⟩⟩)) ?_
 refine .o3 ?_
 refine .o3 ?_
 exact .o2 (step_allocN (cs:=z7) (t:=29) rfl (noG rfl) (fun _ w hn k=>rfl) (fun q _ hq hb=>⟨q,rfl,hq,hb⟩))<| .o2 (step_allocN (cs:=z7) (t:=29) rfl (noG rfl) (fun _ w hn k=>rfl) (fun q _ hq hb=>⟨q,rfl,hq,hb⟩))<| .off<| .off<| .off .nil
 intro i h
 simp only [List.contains_eq_mem,List.mem_cons,List.not_mem_nil,or_false,decide_eq_true_eq] at h
 rcases h with rfl|rfl
 exact eager_takeG rfl (noG rfl) fun _ w hn k=>(by
     obtain⟨hr,hs,ht,hu,fM,fN,fO,fP,fQ,gn,go,ew,ex⟩:(TQ (numericsV v u).1 (numericsV v u).2.1 ((numericsV v u).2.2)) _ _:=k.dep 3 11 (by kernel_rfl) (by kernel_rfl)
     exact⟨_,fun w hS=>v_extract rfl fQ rfl,⟨fM,fN,fO,fP,rfl,ew,ex⟩⟩)
 exact eager_takeG rfl (noG rfl) fun _ w hn k=>(by
     obtain⟨hv,hw,hx,hy,hz,hA,hC,hD,fR,gp,gq,gr,gs⟩:(TQ (numericsV v u).1 (numericsV v u).2.1 ((numericsV v u).2.2)) _ _:=k.dep 3 11 (by kernel_rfl) (by kernel_rfl)
     exact⟨_,fun w hS=>v_extract rfl fR rfl,rfl⟩)
 intro bD hE _ bY ap
 obtain⟨bZ,ey,ez⟩:=aft ap ee fv aF bY
 have fS:=ap.fx 0 h8
 have fT:=ap.fx 6 bX
 obtain⟨bu,bb,bt,bx,bE,eA,eB⟩:=ap.G 4 15
 have bE:bD.eval (.tmp 15)=vv (numericsV v u).1 bu bb bt bx:=bE
 obtain⟨bj,bd,b0,bz,bF,eC,eD⟩:=ap.G 5 16
 have bF:bD.eval (.tmp 16)=vv (numericsV v u).2.1 bj bd b0 bz:=bF
 have eg:=ap.ge 6 17 rfl
 obtain⟨bk,b1,b2,be⟩:=ap.G 7 8
 obtain⟨bv,b3,b4,eE⟩:=ap.G 8 9
 have eF:=bw.new_ bY
 have hne60:bk ≠ bv:=ap.ne 7 8 8 9 b1 b3
 have hne61:aT ≠ bk:=by have h1:=bw.lt; have h2:=b2; omega
 have hne62:aT ≠ bv:=by have h1:=bw.lt; have h2:=b4; omega
 have gt:=Nat.le_trans aF.size b2
 have gu:=Nat.le_trans aF.size b4
 obtain⟨fU,cN,cO,bf,b5⟩:=s_many (P:=Tryz.prog) (t:=29) (i:=0) (c7 (numericsV v u).1 bu bb bt bx) Tryz.sizeOf29 rfl rfl rfl be lb
 have eG:Blk fU bk 29 (c7 (numericsV v u).1 bu bb bt bx):=cO
 refine st_act rfl rfl fun hF eH=>a_store' rfl b1 bE cN (eH _ _ trivial ?_)
 have eI:=eA.fr be bf
 have eJ:=eB.fr be bf
 have eK:=eC.fr be bf
 have eL:=eD.fr be bf
 have eM:=b5 _ _ _ (hne61) eF
 have bg:=b5 _ _ _ (fun h=>hne60 h.symm) eE
 have eN:=ez.trans bf (fun _ h b=>by subst b; omega)
 obtain⟨fV,cP,cQ,bh,b6⟩:=s_many (P:=Tryz.prog) (t:=29) (i:=0) (c7 (numericsV v u).2.1 bj bd b0 bz) Tryz.sizeOf29 rfl rfl rfl bg lb
 have b7:Blk fV bv 29 (c7 (numericsV v u).2.1 bj bd b0 bz):=cQ
 refine st_act rfl rfl fun hG eO=>a_store' rfl b3 bF cP (eO _ _ trivial ?_)
 have b8:=eI.fr bg bh
 have b9:=eJ.fr bg bh
 have ca:=eK.fr bg bh
 have cb:=eL.fr bg bh
 have cc:=b6 _ _ _ (hne62) eM
 have cd:=b6 _ _ _ (hne60) eG
 have ce:=eN.trans bh (fun _ h b=>by subst b; omega)
 refine st_take rfl rfl (y_assign (v:=iv ((numericsV v u).2.2)) rfl eg) rfl ?_
 obtain⟨fW,ac⟩:∃ a',a'=bD.put (some 10) (iv ((numericsV v u).2.2)):=⟨_,rfl⟩
 have bl:=pz ac bZ
 have cf:=pd ac ey
 have eh:=pn ac fS (by decide)
 have ei:=pn ac fT (by decide)
 have gv:=pn ac bE (by decide)
 have gw:=pn ac bF (by decide)
 have gx:=pn ac eg (by decide)
 have ch:=pn ac b1 (by decide)
 have ci:=pn ac b3 (by decide)
 have bm:fW.eval (.tmp 10)=iv ((numericsV v u).2.2):=by rw [ac]; exact put_same _ _ _ (by rw [bZ]; decide)
 show stepsTo _ _ _ _ _ (bD.put (some 10) (iv ((numericsV v u).2.2))) _
 rw [← ac]
 refine st_nil (eo _ _ (wp_seq_k fun gy cR=>?_))
 refine wp_block ?_
 refine wp_seq_k fun gz bG=>?_
 rcases bc (decide (((numericsV v u).2.2)=0)) with aa|aa
 have cj:=oT aa
 refine wp_g0 [true,true,true] [] 92
   [ve (iv ((numericsV v u).2.2)),vF,vF] bl (.eq (.eq (.eq (.nil)))) ?_ ?_
 exact .m (fun k=>k.fx 10 bm)<| .t (fun _ w hn k=>⟨_,v_bin rfl (k.eq1 0 19 rfl) rfl (fun _=>rfl) (r_neq aa),rfl⟩)<| .a (fun k=>k.eq1 1 20 rfl) .nil
 refine aftI bl cf ce fun gA gB bH cS cT aq aD=>?_
 have eP:=aD.fx 0 eh
 have eQ:=aD.fx 6 ei
 have cl:=aD.fx 8 ch
 have eR:=aD.fx 9 ci
 have gC:=aD.fx 10 bm
 have eS:=aD.ge 2 18 rfl
 have cU:=cc.new_ aq
 have bI:=cd.new_ aq
 have cV:=b7.new_ aq
 have cW:=b8.new_ aq
 have cX:=b9.new_ aq
 have cY:=ca.new_ aq
 have cZ:=cb.new_ aq
 refine st_nil (bG _ _ ?_)
 refine wp_cond_false eS ?_
 refine wp_seq_k fun gD c0=>?_
 refine wp_g0 [true,true,true,true] [] 92
   [ve (pv bk),ve (iv ((numericsV v u).1.k)),ve (.bool (decide (((numericsV v u).1.k)=4))),ve (.bool (decide (((numericsV v u).1.k)=4)))] bH (.eq (.eq (.eq (.eq (.nil))))) ?_ ?_
 exact .f (fun k=>k.fx 8 cl)<| .t (fun _ w hn k=>⟨_,v_load rfl (k.eq1 0 24 rfl) (l_one Tryz.isAgg3 ((bI.new_ hn).cell 0)),rfl⟩)<| .t (fun _ w hn k=>⟨_,v_bin rfl (k.eq1 1 25 rfl) rfl (fun _=>rfl) (r_eql rfl),rfl⟩)<| .a (fun k=>k.eq1 2 26 rfl) .nil
 refine aftI bH cS cT fun gE gF aR bJ bK ar aM=>?_
 have cm:=aM.fx 0 eP
 have cn:=aM.fx 6 eQ
 have co:=aM.fx 8 cl
 have cp:=aM.fx 9 eR
 have cq:=aM.ge 3 23 rfl
 have bL:=cU.new_ ar
 have bM:=bI.new_ ar
 have bN:=cV.new_ ar
 have bO:=cW.new_ ar
 have c1:=cX.new_ ar
 have bP:=cY.new_ ar
 have c3:=cZ.new_ ar
 refine st_nil (c0 _ _ ?_)
 rcases bc (decide (((numericsV v u).1.k)=4)) with ab|ab
 have cr:=oT ab
 have c5:=hB cq ab
 refine wp_cond_true c5 ?_
 refine wp_seq_k fun gG c9=>?_
 refine wp_g0 [true,true,true,true,true,true,true,true,false,false] [(8,false),(9,true)] 92
   [ve (.string ⟨#[45]⟩),ve (.pointer (some ⟨bk,3,none⟩)),ve (.agg #[.bool ((numericsV v u).1.neg),sv bu ((numericsV v u).1.mag) bb]),ve (.pointer (some ⟨bv,3,none⟩)),ve (.agg #[.bool ((numericsV v u).2.1.neg),sv bj ((numericsV v u).2.1.mag) bd]),(TP (bigZ (goodI ((numericsV v u).1.neg) ((numericsV v u).1.mag) - goodI ((numericsV v u).2.1.neg) ((numericsV v u).2.1.mag))).1 ((bigZ (goodI ((numericsV v u).1.neg) ((numericsV v u).1.mag) - goodI ((numericsV v u).2.1.neg) ((numericsV v u).2.1.mag))).2)),(fun (v_:Value) (W:World)=>∃ (aG:Option Addr) (aH:Nat) (aI:Option Addr) (aJ:Nat),v_=vv (bigZ (goodI ((numericsV v u).1.neg) ((numericsV v u).1.mag) - goodI ((numericsV v u).2.1.neg) ((numericsV v u).2.1.mag))).1 aG aH aI aJ∧SRow W .u32 aG ((bigZ (goodI ((numericsV v u).1.neg) ((numericsV v u).1.mag) - goodI ((numericsV v u).2.1.neg) ((numericsV v u).2.1.mag))).1.mag) aH∧SRow W .u16 aI ((bigZ (goodI ((numericsV v u).1.neg) ((numericsV v u).1.mag) - goodI ((numericsV v u).2.1.neg) ((numericsV v u).2.1.mag))).1.s) aJ),ve (iv ((bigZ (goodI ((numericsV v u).1.neg) ((numericsV v u).1.mag) - goodI ((numericsV v u).2.1.neg) ((numericsV v u).2.1.mag))).2)),vt,vt] aR (.eq (.eq (.eq (.eq (.eq (.cons (fun _ _ _ n ⟨_,_,_,_,e,h,i⟩=>⟨_,_,_,_,e,h.new_ n,i.new_ n⟩) (.cons (fun _ _ _ n ⟨_,_,_,_,e,h,i⟩=>⟨_,_,_,_,e,h.new_ n,i.new_ n⟩) (.eq (.tt (.tt (.nil))))))))))) ?_ ?_
 refine .m (fun k=>k.fx 0 cm)<| .f (fun k=>k.fx 8 co)<| .t (fun _ w hn k=>⟨_,v_load rfl (k.eq1 1 28 rfl) (l_part Tryz.isAgg26 Tryz.sizeOf26 (bM.new_ hn) lb),rfl⟩)<| .f (fun k=>k.fx 9 cp)<| .t (fun _ w hn k=>⟨_,v_load rfl (k.eq1 3 30 rfl) (l_part Tryz.isAgg26 Tryz.sizeOf26 (bN.new_ hn) lb),rfl⟩) ?_
 refine .o1 (tkC rfl (noG rfl) rfl fun _ w hn k=>(by
       refine ⟨#[.string ⟨#[45]⟩,.agg #[.bool ((numericsV v u).1.neg),sv bu ((numericsV v u).1.mag) bb],.agg #[.bool ((numericsV v u).2.1.neg),sv bj ((numericsV v u).2.1.mag) bd]],_,args3 (k.eq1 0 27 rfl) (k.eq1 2 29 rfl) (k.eq1 4 31 rfl),fun w=>by kernel_rfl,bigsMi_c ((numericsV v u).1.neg) _ ((numericsV v u).1.mag) _ ((numericsV v u).2.1.neg) _ ((numericsV v u).2.1.mag) _ _ (bO.new_ hn) (bP.new_ hn) (VOk.numerics1 hvv hvu).limbs (VOk.numerics2 hvv hvu).limbs,?_⟩
       rintro e w' ⟨fX,eT,eU,eV,rfl,hmo0,hmo1,hm⟩
       exact⟨_,rfl,hm,⟨fX,eT,eU,eV,rfl,hmo0,hmo1⟩⟩)) ?_
 refine .o1 (tk rfl rfl fun _ w hn k=>(by
       obtain⟨eW,eX,eY,eZ,e0,da,db⟩:(TP (bigZ (goodI ((numericsV v u).1.neg) ((numericsV v u).1.mag) - goodI ((numericsV v u).2.1.neg) ((numericsV v u).2.1.mag))).1 ((bigZ (goodI ((numericsV v u).1.neg) ((numericsV v u).1.mag) - goodI ((numericsV v u).2.1.neg) ((numericsV v u).2.1.mag))).2)) _ _:=k.dep 5 32 (by kernel_rfl) (by kernel_rfl)
       exact⟨_,v_extract rfl e0 rfl,⟨eW,eX,eY,eZ,rfl,da,db⟩⟩)) ?_
 refine .o1 (tk rfl rfl fun _ w hn k=>(by
       obtain⟨gH,gI,gJ,gK,e1,fY,fZ⟩:(TP (bigZ (goodI ((numericsV v u).1.neg) ((numericsV v u).1.mag) - goodI ((numericsV v u).2.1.neg) ((numericsV v u).2.1.mag))).1 ((bigZ (goodI ((numericsV v u).1.neg) ((numericsV v u).1.mag) - goodI ((numericsV v u).2.1.neg) ((numericsV v u).2.1.mag))).2)) _ _:=k.dep 5 32 (by kernel_rfl) (by kernel_rfl)
       exact⟨_,v_extract rfl e1 rfl,rfl⟩)) ?_
 exact .off<| .off .nil
 refine aftI aR bJ bK fun bA gL bQ dc dd de bn=>?_
 have ct:=bn.fx 6 cn
 obtain⟨aK,au,aL,av,bo,df,dg⟩:=bn.G 6 33
 have bo:bA.eval (.tmp 33)=vv (bigZ (goodI ((numericsV v u).1.neg) ((numericsV v u).1.mag) - goodI ((numericsV v u).2.1.neg) ((numericsV v u).2.1.mag))).1 aK au aL av:=bo
 have cw:=bn.ge 7 34 rfl
 have bp:=bL.new_ de
 obtain⟨e2,cx,cy,bq,f0⟩:=s_many (P:=Tryz.prog) (t:=29) (i:=0) (c7 (bigZ (goodI ((numericsV v u).1.neg) ((numericsV v u).1.mag) - goodI ((numericsV v u).2.1.neg) ((numericsV v u).2.1.mag))).1 aK au aL av) Tryz.sizeOf29 rfl rfl rfl bp lb
 have dh:Blk e2 aT 29 (c7 (bigZ (goodI ((numericsV v u).1.neg) ((numericsV v u).1.mag) - goodI ((numericsV v u).2.1.neg) ((numericsV v u).2.1.mag))).1 aK au aL av):=cy
 refine st_act rfl rfl fun gM di=>a_store' rfl ct bo cx (di _ _ trivial ?_)
 have dj:=df.fr bp bq
 have dk:=dg.fr bp bq
 have dl:=dd.trans bq (fun _ h b=>by subst b; omega)
 refine st_take rfl rfl (y_assign (v:=iv ((bigZ (goodI ((numericsV v u).1.neg) ((numericsV v u).1.mag) - goodI ((numericsV v u).2.1.neg) ((numericsV v u).2.1.mag))).2)) rfl cw) rfl ?_
 obtain⟨e3,aw⟩:∃ a',a'=bA.put (some 7) (iv ((bigZ (goodI ((numericsV v u).1.neg) ((numericsV v u).1.mag) - goodI ((numericsV v u).2.1.neg) ((numericsV v u).2.1.mag))).2)):=⟨_,rfl⟩
 have f1:=pz aw bQ
 have dm:=pd aw dc
 have e4:=pn aw ct (by decide)
 have gN:=pn aw bo (by decide)
 have gO:=pn aw cw (by decide)
 have e5:e3.eval (.tmp 7)=iv ((bigZ (goodI ((numericsV v u).1.neg) ((numericsV v u).1.mag) - goodI ((numericsV v u).2.1.neg) ((numericsV v u).2.1.mag))).2):=by rw [aw]; exact put_same _ _ _ (by rw [bQ]; decide)
 show stepsTo _ _ _ _ _ (bA.put (some 7) (iv ((bigZ (goodI ((numericsV v u).1.neg) ((numericsV v u).1.mag) - goodI ((numericsV v u).2.1.neg) ((numericsV v u).2.1.mag))).2))) _
 rw [← aw]
 refine st_nil (c9 _ _ ?_)
 refine wp_ret (ret_k dm (v:=.tuple #[vv (bigZ (goodI ((numericsV v u).1.neg) ((numericsV v u).1.mag) - goodI ((numericsV v u).2.1.neg) ((numericsV v u).2.1.mag))).1 aK au aL av,iv ((bigZ (goodI ((numericsV v u).1.neg) ((numericsV v u).1.mag) - goodI ((numericsV v u).2.1.neg) ((numericsV v u).2.1.mag))).2)]) (res_ct rfl e4 e5 (l_agg Tryz.isAgg29 Tryz.sizeOf29 dh rfl)) ?_)
 have aP:(sumsM v u).1.mag=(bigZ (goodI ((numericsV v u).1.neg) ((numericsV v u).1.mag) - goodI ((numericsV v u).2.1.neg) ((numericsV v u).2.1.mag))).1.mag:=by first|rfl|(simp only [sumsM,numV,Vl.z,aa,ab,bsm] <;> rfl)|(exfalso; omega)
 have aQ:(sumsM v u).1.s=(bigZ (goodI ((numericsV v u).1.neg) ((numericsV v u).1.mag) - goodI ((numericsV v u).2.1.neg) ((numericsV v u).2.1.mag))).1.s:=by first|rfl|(simp only [sumsM,numV,Vl.z,aa,ab,bsm] <;> rfl)|(exfalso; omega)
 exact⟨aK,au,aL,av,(by show Ending.returned (.tuple #[vv (bigZ (goodI ((numericsV v u).1.neg) ((numericsV v u).1.mag) - goodI ((numericsV v u).2.1.neg) ((numericsV v u).2.1.mag))).1 aK au aL av,iv ((bigZ (goodI ((numericsV v u).1.neg) ((numericsV v u).1.mag) - goodI ((numericsV v u).2.1.neg) ((numericsV v u).2.1.mag))).2)])=Ending.returned (.tuple #[vv (sumsM v u).1 aK au aL av,iv ((sumsM v u).2)]); (first|rfl|(simp only [sumsM,numV,Vl.z,aa,ab,aP,aQ,bsm] <;> rfl)|(exfalso; omega))),(by rw [aP]; exact dj),(by rw [aQ]; exact dk),dl⟩
 have cr:=oF ab
 have dn:=hB cq ab
 refine wp_cond_false dn ?_
 refine wp_skip ?_
 refine cR _ _ ?_
 refine wp_seq_k fun gP f2=>?_
 refine wp_seq_k fun gQ dp=>?_
 refine wp_g0 [true] [] 92
   [ve (.string ⟨#[45]⟩)] aR (.eq (.nil)) ?_ ?_
 exact .m (fun k=>k.fx 0 cm) .nil
 refine aftI aR bJ bK fun gR gS bR dq dr ax aS=>?_
 have e6:=aS.fx 6 cn
 have e7:=aS.fx 8 co
 have e8:=aS.fx 9 cp
 have cz:=aS.ge 0 35 rfl
 have ds:=bL.new_ ax
 have dt:=bM.new_ ax
 have dw:=bN.new_ ax
 have dx:=bO.new_ ax
 have dy:=c1.new_ ax
 have dz:=bP.new_ ax
 have dA:=c3.new_ ax
 refine st_nil (dp _ _ ?_)
 refine wp_block ?_
 refine wp_seq_k fun gT dB=>?_
 refine wp_g0 [true,true] [] 92
   [vF,vF] bR (.eq (.eq (.nil))) ?_ ?_
 exact .t (fun _ w hn k=>⟨_,v_bin rfl (k.fx 35 cz) rfl (fun _=>rfl) (r_eqlS (r:=false) (by kernel_rfl)),rfl⟩)<| .a (fun k=>k.eq1 0 37 rfl) .nil
 refine aftI bR dq dr fun gU gV bS dC dD ay aN=>?_
 have e9:=aN.fx 6 e6
 have fa:=aN.fx 8 e7
 have fb:=aN.fx 9 e8
 have cA:=aN.fx 35 cz
 have fc:=aN.ge 1 36 rfl
 have dE:=ds.new_ ay
 have dF:=dt.new_ ay
 have dG:=dw.new_ ay
 have dH:=dx.new_ ay
 have dI:=dy.new_ ay
 have dJ:=dz.new_ ay
 have dK:=dA.new_ ay
 refine st_nil (dB _ _ ?_)
 refine wp_cond_false fc ?_
 refine wp_seq_k fun gW dL=>?_
 refine wp_g0 [true,true] [] 92
   [vT,vT] bS (.eq (.eq (.nil))) ?_ ?_
 exact .t (fun _ w hn k=>⟨_,v_bin rfl (k.fx 35 cA) rfl (fun _=>rfl) (r_eqlS (r:=true) (by kernel_rfl)),rfl⟩)<| .a (fun k=>k.eq1 0 49 rfl) .nil
 refine aftI bS dC dD fun gX gY bT dM dN az aO=>?_
 have fd:=aO.fx 6 e9
 have fe:=aO.fx 8 fa
 have ff:=aO.fx 9 fb
 have gZ:=aO.fx 35 cA
 have fg:=aO.ge 1 48 rfl
 have dO:=dE.new_ az
 have dP:=dF.new_ az
 have dQ:=dG.new_ az
 have f3:=dH.new_ az
 have f4:=dI.new_ az
 have f5:=dJ.new_ az
 have f6:=dK.new_ az
 refine st_nil (dL _ _ ?_)
 refine wp_cond_true fg ?_
 refine wp_seq_k fun g0 dR=>?_
 refine wp_g0 [true,true,true,true,true,true,true,true,true,true,false,false] [(10,false),(11,true)] 92
   [ve (.pointer (some ⟨bk,1,none⟩)),ve (nv (Nm.mk ((numericsV v u).1.nk) ((numericsV v u).1.nn))),ve (.pointer (some ⟨bv,1,none⟩)),ve (nv (Nm.mk ((numericsV v u).2.1.nk) ((numericsV v u).2.1.nn))),ve (.tuple #[nv ((addM (Nm.mk ((numericsV v u).1.nk) ((numericsV v u).1.nn)) (negM (Nm.mk ((numericsV v u).2.1.nk) ((numericsV v u).2.1.nn)))).1),.bool ((addM (Nm.mk ((numericsV v u).1.nk) ((numericsV v u).1.nn)) (negM (Nm.mk ((numericsV v u).2.1.nk) ((numericsV v u).2.1.nn)))).2)]),ve (nv ((addM (Nm.mk ((numericsV v u).1.nk) ((numericsV v u).1.nn)) (negM (Nm.mk ((numericsV v u).2.1.nk) ((numericsV v u).2.1.nn)))).1)),ve (.bool ((addM (Nm.mk ((numericsV v u).1.nk) ((numericsV v u).1.nn)) (negM (Nm.mk ((numericsV v u).2.1.nk) ((numericsV v u).2.1.nn)))).2)),ve (.tuple #[vv (Vl.mk (numberedV ((addM (Nm.mk ((numericsV v u).1.nk) ((numericsV v u).1.nn)) (negM (Nm.mk ((numericsV v u).2.1.nk) ((numericsV v u).2.1.nn)))).1) ((addM (Nm.mk ((numericsV v u).1.nk) ((numericsV v u).1.nn)) (negM (Nm.mk ((numericsV v u).2.1.nk) ((numericsV v u).2.1.nn)))).2)).1 (numberedV ((addM (Nm.mk ((numericsV v u).1.nk) ((numericsV v u).1.nn)) (negM (Nm.mk ((numericsV v u).2.1.nk) ((numericsV v u).2.1.nn)))).1) ((addM (Nm.mk ((numericsV v u).1.nk) ((numericsV v u).1.nn)) (negM (Nm.mk ((numericsV v u).2.1.nk) ((numericsV v u).2.1.nn)))).2)).2.1.k (numberedV ((addM (Nm.mk ((numericsV v u).1.nk) ((numericsV v u).1.nn)) (negM (Nm.mk ((numericsV v u).2.1.nk) ((numericsV v u).2.1.nn)))).1) ((addM (Nm.mk ((numericsV v u).1.nk) ((numericsV v u).1.nn)) (negM (Nm.mk ((numericsV v u).2.1.nk) ((numericsV v u).2.1.nn)))).2)).2.1.n false [] [] 0) none 0 none 0,iv ((numberedV ((addM (Nm.mk ((numericsV v u).1.nk) ((numericsV v u).1.nn)) (negM (Nm.mk ((numericsV v u).2.1.nk) ((numericsV v u).2.1.nn)))).1) ((addM (Nm.mk ((numericsV v u).1.nk) ((numericsV v u).1.nn)) (negM (Nm.mk ((numericsV v u).2.1.nk) ((numericsV v u).2.1.nn)))).2)).2.2)]),ve (vv (Vl.mk (numberedV ((addM (Nm.mk ((numericsV v u).1.nk) ((numericsV v u).1.nn)) (negM (Nm.mk ((numericsV v u).2.1.nk) ((numericsV v u).2.1.nn)))).1) ((addM (Nm.mk ((numericsV v u).1.nk) ((numericsV v u).1.nn)) (negM (Nm.mk ((numericsV v u).2.1.nk) ((numericsV v u).2.1.nn)))).2)).1 (numberedV ((addM (Nm.mk ((numericsV v u).1.nk) ((numericsV v u).1.nn)) (negM (Nm.mk ((numericsV v u).2.1.nk) ((numericsV v u).2.1.nn)))).1) ((addM (Nm.mk ((numericsV v u).1.nk) ((numericsV v u).1.nn)) (negM (Nm.mk ((numericsV v u).2.1.nk) ((numericsV v u).2.1.nn)))).2)).2.1.k (numberedV ((addM (Nm.mk ((numericsV v u).1.nk) ((numericsV v u).1.nn)) (negM (Nm.mk ((numericsV v u).2.1.nk) ((numericsV v u).2.1.nn)))).1) ((addM (Nm.mk ((numericsV v u).1.nk) ((numericsV v u).1.nn)) (negM (Nm.mk ((numericsV v u).2.1.nk) ((numericsV v u).2.1.nn)))).2)).2.1.n false [] [] 0) none 0 none 0),ve (iv ((numberedV ((addM (Nm.mk ((numericsV v u).1.nk) ((numericsV v u).1.nn)) (negM (Nm.mk ((numericsV v u).2.1.nk) ((numericsV v u).2.1.nn)))).1) ((addM (Nm.mk ((numericsV v u).1.nk) ((numericsV v u).1.nn)) (negM (Nm.mk ((numericsV v u).2.1.nk) ((numericsV v u).2.1.nn)))).2)).2.2)),vt,vt] bT (.eq (.eq (.eq (.eq (.eq (.eq (.eq (.eq (.eq (.eq (.tt (.tt (.nil))))))))))))) ?_ ?_
 exact .f (fun k=>k.fx 8 fe)<| .t (fun _ w hn k=>⟨_,v_load rfl (k.eq1 0 50 rfl) (l_part Tryz.isAgg23 Tryz.sizeOf23 (dP.new_ hn) lb),rfl⟩)<| .f (fun k=>k.fx 9 ff)<| .t (fun _ w hn k=>⟨_,v_load rfl (k.eq1 2 52 rfl) (l_part Tryz.isAgg23 Tryz.sizeOf23 (dQ.new_ hn) lb),rfl⟩)<| .o1 (ck rfl rfl rfl (fun _ w hn k=>⟨#[nv (Nm.mk ((numericsV v u).1.nk) ((numericsV v u).1.nn)),nv (Nm.mk ((numericsV v u).2.1.nk) ((numericsV v u).2.1.nn))],args2 (k.eq1 1 51 rfl) (k.eq1 3 53 rfl),fun _=>by kernel_rfl,nsub_c (Nm.mk ((numericsV v u).1.nk) ((numericsV v u).1.nn)) (Nm.mk ((numericsV v u).2.1.nk) ((numericsV v u).2.1.nn)) _ ⟩) fun _=>rfl)<| .t (fun _ w hn k=>⟨_,v_extract rfl (k.eq1 4 54 rfl) rfl,rfl⟩)<| .t (fun _ w hn k=>⟨_,v_extract rfl (k.eq1 4 54 rfl) rfl,rfl⟩)<| .o1 (ck rfl rfl rfl (fun _ w hn k=>⟨#[nv ((addM (Nm.mk ((numericsV v u).1.nk) ((numericsV v u).1.nn)) (negM (Nm.mk ((numericsV v u).2.1.nk) ((numericsV v u).2.1.nn)))).1),.bool ((addM (Nm.mk ((numericsV v u).1.nk) ((numericsV v u).1.nn)) (negM (Nm.mk ((numericsV v u).2.1.nk) ((numericsV v u).2.1.nn)))).2)],args2 (k.eq1 5 55 rfl) (k.eq1 6 56 rfl),fun _=>by kernel_rfl,numbered_c ((addM (Nm.mk ((numericsV v u).1.nk) ((numericsV v u).1.nn)) (negM (Nm.mk ((numericsV v u).2.1.nk) ((numericsV v u).2.1.nn)))).1) ((addM (Nm.mk ((numericsV v u).1.nk) ((numericsV v u).1.nn)) (negM (Nm.mk ((numericsV v u).2.1.nk) ((numericsV v u).2.1.nn)))).2) _ ⟩) fun _=>rfl)<| .t (fun _ w hn k=>⟨_,v_extract rfl (k.eq1 7 57 rfl) rfl,rfl⟩)<| .t (fun _ w hn k=>⟨_,v_extract rfl (k.eq1 7 57 rfl) rfl,rfl⟩)<| .off<| .off .nil
 refine aftI bT dM dN fun cB g1 bU dS dT dU br=>?_
 have cC:=br.fx 6 fd
 have cD:=br.ge 8 58 rfl
 have cE:=br.ge 9 59 rfl
 have dV:=dO.new_ dU
 obtain⟨fh,cF,cG,dW,f7⟩:=s_many (P:=Tryz.prog) (t:=29) (i:=0) [iv ((numberedV ((addM (Nm.mk ((numericsV v u).1.nk) ((numericsV v u).1.nn)) (negM (Nm.mk ((numericsV v u).2.1.nk) ((numericsV v u).2.1.nn)))).1) ((addM (Nm.mk ((numericsV v u).1.nk) ((numericsV v u).1.nn)) (negM (Nm.mk ((numericsV v u).2.1.nk) ((numericsV v u).2.1.nn)))).2)).1),iv ((numberedV ((addM (Nm.mk ((numericsV v u).1.nk) ((numericsV v u).1.nn)) (negM (Nm.mk ((numericsV v u).2.1.nk) ((numericsV v u).2.1.nn)))).1) ((addM (Nm.mk ((numericsV v u).1.nk) ((numericsV v u).1.nn)) (negM (Nm.mk ((numericsV v u).2.1.nk) ((numericsV v u).2.1.nn)))).2)).2.1.k),iv ((numberedV ((addM (Nm.mk ((numericsV v u).1.nk) ((numericsV v u).1.nn)) (negM (Nm.mk ((numericsV v u).2.1.nk) ((numericsV v u).2.1.nn)))).1) ((addM (Nm.mk ((numericsV v u).1.nk) ((numericsV v u).1.nn)) (negM (Nm.mk ((numericsV v u).2.1.nk) ((numericsV v u).2.1.nn)))).2)).2.1.n),.bool false,sv none ([]) 0,sv none ([]) 0,iv 0] Tryz.sizeOf29 rfl rfl rfl dV lb
 have dX:Blk fh aT 29 [iv ((numberedV ((addM (Nm.mk ((numericsV v u).1.nk) ((numericsV v u).1.nn)) (negM (Nm.mk ((numericsV v u).2.1.nk) ((numericsV v u).2.1.nn)))).1) ((addM (Nm.mk ((numericsV v u).1.nk) ((numericsV v u).1.nn)) (negM (Nm.mk ((numericsV v u).2.1.nk) ((numericsV v u).2.1.nn)))).2)).1),iv ((numberedV ((addM (Nm.mk ((numericsV v u).1.nk) ((numericsV v u).1.nn)) (negM (Nm.mk ((numericsV v u).2.1.nk) ((numericsV v u).2.1.nn)))).1) ((addM (Nm.mk ((numericsV v u).1.nk) ((numericsV v u).1.nn)) (negM (Nm.mk ((numericsV v u).2.1.nk) ((numericsV v u).2.1.nn)))).2)).2.1.k),iv ((numberedV ((addM (Nm.mk ((numericsV v u).1.nk) ((numericsV v u).1.nn)) (negM (Nm.mk ((numericsV v u).2.1.nk) ((numericsV v u).2.1.nn)))).1) ((addM (Nm.mk ((numericsV v u).1.nk) ((numericsV v u).1.nn)) (negM (Nm.mk ((numericsV v u).2.1.nk) ((numericsV v u).2.1.nn)))).2)).2.1.n),.bool false,sv none ([]) 0,sv none ([]) 0,iv 0]:=cG
 refine st_act rfl rfl fun g2 dY=>a_store' rfl cC cD cF (dY _ _ trivial ?_)
 have dZ:=dT.trans dW (fun _ h b=>by subst b; omega)
 refine st_take rfl rfl (y_assign (v:=iv ((numberedV ((addM (Nm.mk ((numericsV v u).1.nk) ((numericsV v u).1.nn)) (negM (Nm.mk ((numericsV v u).2.1.nk) ((numericsV v u).2.1.nn)))).1) ((addM (Nm.mk ((numericsV v u).1.nk) ((numericsV v u).1.nn)) (negM (Nm.mk ((numericsV v u).2.1.nk) ((numericsV v u).2.1.nn)))).2)).2.2)) rfl cE) rfl ?_
 obtain⟨fi,aA⟩:∃ a',a'=cB.put (some 7) (iv ((numberedV ((addM (Nm.mk ((numericsV v u).1.nk) ((numericsV v u).1.nn)) (negM (Nm.mk ((numericsV v u).2.1.nk) ((numericsV v u).2.1.nn)))).1) ((addM (Nm.mk ((numericsV v u).1.nk) ((numericsV v u).1.nn)) (negM (Nm.mk ((numericsV v u).2.1.nk) ((numericsV v u).2.1.nn)))).2)).2.2)):=⟨_,rfl⟩
 have f8:=pz aA bU
 have d0:=pd aA dS
 have fj:=pn aA cC (by decide)
 have g3:=pn aA cD (by decide)
 have g4:=pn aA cE (by decide)
 have fk:fi.eval (.tmp 7)=iv ((numberedV ((addM (Nm.mk ((numericsV v u).1.nk) ((numericsV v u).1.nn)) (negM (Nm.mk ((numericsV v u).2.1.nk) ((numericsV v u).2.1.nn)))).1) ((addM (Nm.mk ((numericsV v u).1.nk) ((numericsV v u).1.nn)) (negM (Nm.mk ((numericsV v u).2.1.nk) ((numericsV v u).2.1.nn)))).2)).2.2):=by rw [aA]; exact put_same _ _ _ (by rw [bU]; decide)
 show stepsTo _ _ _ _ _ (cB.put (some 7) (iv ((numberedV ((addM (Nm.mk ((numericsV v u).1.nk) ((numericsV v u).1.nn)) (negM (Nm.mk ((numericsV v u).2.1.nk) ((numericsV v u).2.1.nn)))).1) ((addM (Nm.mk ((numericsV v u).1.nk) ((numericsV v u).1.nn)) (negM (Nm.mk ((numericsV v u).2.1.nk) ((numericsV v u).2.1.nn)))).2)).2.2))) _
 rw [← aA]
 refine st_nil (dR _ _ ?_)
 refine wp_ret (ret_k d0 (v:=.tuple #[vv (Vl.mk (numberedV ((addM (Nm.mk ((numericsV v u).1.nk) ((numericsV v u).1.nn)) (negM (Nm.mk ((numericsV v u).2.1.nk) ((numericsV v u).2.1.nn)))).1) ((addM (Nm.mk ((numericsV v u).1.nk) ((numericsV v u).1.nn)) (negM (Nm.mk ((numericsV v u).2.1.nk) ((numericsV v u).2.1.nn)))).2)).1 (numberedV ((addM (Nm.mk ((numericsV v u).1.nk) ((numericsV v u).1.nn)) (negM (Nm.mk ((numericsV v u).2.1.nk) ((numericsV v u).2.1.nn)))).1) ((addM (Nm.mk ((numericsV v u).1.nk) ((numericsV v u).1.nn)) (negM (Nm.mk ((numericsV v u).2.1.nk) ((numericsV v u).2.1.nn)))).2)).2.1.k (numberedV ((addM (Nm.mk ((numericsV v u).1.nk) ((numericsV v u).1.nn)) (negM (Nm.mk ((numericsV v u).2.1.nk) ((numericsV v u).2.1.nn)))).1) ((addM (Nm.mk ((numericsV v u).1.nk) ((numericsV v u).1.nn)) (negM (Nm.mk ((numericsV v u).2.1.nk) ((numericsV v u).2.1.nn)))).2)).2.1.n false [] [] 0) none 0 none 0,iv ((numberedV ((addM (Nm.mk ((numericsV v u).1.nk) ((numericsV v u).1.nn)) (negM (Nm.mk ((numericsV v u).2.1.nk) ((numericsV v u).2.1.nn)))).1) ((addM (Nm.mk ((numericsV v u).1.nk) ((numericsV v u).1.nn)) (negM (Nm.mk ((numericsV v u).2.1.nk) ((numericsV v u).2.1.nn)))).2)).2.2)]) (res_ct rfl fj fk (l_agg Tryz.isAgg29 Tryz.sizeOf29 dX rfl)) ?_)
 have aP:(sumsM v u).1.mag=[]:=by first|rfl|(simp only [sumsM,numV,Vl.z,aa,ab,bsm] <;> rfl)|(exfalso; omega)
 have aQ:(sumsM v u).1.s=[]:=by first|rfl|(simp only [sumsM,numV,Vl.z,aa,ab,bsm] <;> rfl)|(exfalso; omega)
 exact⟨none,0,none,0,(by show Ending.returned (.tuple #[vv (Vl.mk (numberedV ((addM (Nm.mk ((numericsV v u).1.nk) ((numericsV v u).1.nn)) (negM (Nm.mk ((numericsV v u).2.1.nk) ((numericsV v u).2.1.nn)))).1) ((addM (Nm.mk ((numericsV v u).1.nk) ((numericsV v u).1.nn)) (negM (Nm.mk ((numericsV v u).2.1.nk) ((numericsV v u).2.1.nn)))).2)).1 (numberedV ((addM (Nm.mk ((numericsV v u).1.nk) ((numericsV v u).1.nn)) (negM (Nm.mk ((numericsV v u).2.1.nk) ((numericsV v u).2.1.nn)))).1) ((addM (Nm.mk ((numericsV v u).1.nk) ((numericsV v u).1.nn)) (negM (Nm.mk ((numericsV v u).2.1.nk) ((numericsV v u).2.1.nn)))).2)).2.1.k (numberedV ((addM (Nm.mk ((numericsV v u).1.nk) ((numericsV v u).1.nn)) (negM (Nm.mk ((numericsV v u).2.1.nk) ((numericsV v u).2.1.nn)))).1) ((addM (Nm.mk ((numericsV v u).1.nk) ((numericsV v u).1.nn)) (negM (Nm.mk ((numericsV v u).2.1.nk) ((numericsV v u).2.1.nn)))).2)).2.1.n false [] [] 0) none 0 none 0,iv ((numberedV ((addM (Nm.mk ((numericsV v u).1.nk) ((numericsV v u).1.nn)) (negM (Nm.mk ((numericsV v u).2.1.nk) ((numericsV v u).2.1.nn)))).1) ((addM (Nm.mk ((numericsV v u).1.nk) ((numericsV v u).1.nn)) (negM (Nm.mk ((numericsV v u).2.1.nk) ((numericsV v u).2.1.nn)))).2)).2.2)])=Ending.returned (.tuple #[vv (sumsM v u).1 none 0 none 0,iv ((sumsM v u).2)]); (first|rfl|(simp only [sumsM,numV,Vl.z,aa,ab,aP,aQ,bsm] <;> rfl)|(exfalso; omega))),(by rw [aP]; exact (SRow.nil _ _)),(by rw [aQ]; exact (SRow.nil _ _)),dZ⟩
 have cj:=oF aa
 refine wp_g0 [true,true,true] [] 92
   [ve (iv ((numericsV v u).2.2)),vT,vT] bl (.eq (.eq (.eq (.nil)))) ?_ ?_
 exact .m (fun k=>k.fx 10 bm)<| .t (fun _ w hn k=>⟨_,v_bin rfl (k.eq1 0 19 rfl) rfl (fun _=>rfl) (r_neq aa),rfl⟩)<| .a (fun k=>k.eq1 1 20 rfl) .nil
 refine aftI bl cf ce fun g5 g6 bV d1 d2 aB aE=>?_
 have g7:=aE.fx 0 eh
 have fl:=aE.fx 6 ei
 have g8:=aE.fx 8 ch
 have g9:=aE.fx 9 ci
 have fm:=aE.fx 10 bm
 have fn:=aE.ge 2 18 rfl
 have d3:=cc.new_ aB
 have f9:=cd.new_ aB
 have ga:=b7.new_ aB
 have gb:=b8.new_ aB
 have gc:=b9.new_ aB
 have gd:=ca.new_ aB
 have gf:=cb.new_ aB
 refine st_nil (bG _ _ ?_)
 refine wp_cond_true fn ?_
 refine wp_seq_k fun ha d4=>?_
 refine wp_g [true,true,false,false] [1] [(2,false),(3,true)] 92
   [ve (vv (Vl.mk 0 0 0 false [] [] 0) none 0 none 0),ve (iv ((numericsV v u).2.2)),vt,vt]
   [] newsNil bV (.eq (.eq (.tt (.tt (.nil))))) ?_ ?_ ?_
 refine .t (fun _ w hn k=>⟨_,v_build (ps:=[]) rfl parts0 (by kernel_rfl),rfl⟩) ?_
 refine .o3 ?_
 exact .off<| .off .nil
 intro i h
 simp only [List.contains_eq_mem,List.mem_cons,List.not_mem_nil,or_false,decide_eq_true_eq] at h
 subst h
 exact eager_take rfl rfl fun _ w hn k=>⟨iv ((numericsV v u).2.2),fun w=>v_move rfl (k.fx 10 fm),rfl⟩
 refine aftI bV d1 d2 fun cH hc bW d5 d6 d7 bs=>?_
 have cI:=bs.fx 6 fl
 have cJ:=bs.ge 0 21 rfl
 have cK:=bs.ge 1 22 rfl
 have d8:=d3.new_ d7
 obtain⟨fo,cL,cM,d9,gg⟩:=s_many (P:=Tryz.prog) (t:=29) (i:=0) z7 Tryz.sizeOf29 rfl rfl rfl d8 lb
 have ea:Blk fo aT 29 z7:=cM
 refine st_act rfl rfl fun hd eb=>a_store' rfl cI cJ cL (eb _ _ trivial ?_)
 have ec:=d6.trans d9 (fun _ h b=>by subst b; omega)
 refine st_take rfl rfl (y_assign (v:=iv ((numericsV v u).2.2)) rfl cK) rfl ?_
 obtain⟨fp,aC⟩:∃ a',a'=cH.put (some 7) (iv ((numericsV v u).2.2)):=⟨_,rfl⟩
 have gh:=pz aC bW
 have ed:=pd aC d5
 have fq:=pn aC cI (by decide)
 have hf:=pn aC cJ (by decide)
 have hg:=pn aC cK (by decide)
 have fs:fp.eval (.tmp 7)=iv ((numericsV v u).2.2):=by rw [aC]; exact put_same _ _ _ (by rw [bW]; decide)
 show stepsTo _ _ _ _ _ (cH.put (some 7) (iv ((numericsV v u).2.2))) _
 rw [← aC]
 refine st_nil (d4 _ _ ?_)
 refine wp_ret (ret_k ed (v:=.tuple #[vv (Vl.mk 0 0 0 false [] [] 0) none 0 none 0,iv ((numericsV v u).2.2)]) (res_ct rfl fq fs (l_agg Tryz.isAgg29 Tryz.sizeOf29 ea rfl)) ?_)
 have aP:(sumsM v u).1.mag=[]:=by first|rfl|(simp only [sumsM,numV,Vl.z,aa,bsm] <;> rfl)|(exfalso; omega)
 have aQ:(sumsM v u).1.s=[]:=by first|rfl|(simp only [sumsM,numV,Vl.z,aa,bsm] <;> rfl)|(exfalso; omega)
 exact⟨none,0,none,0,(by show Ending.returned (.tuple #[vv (Vl.mk 0 0 0 false [] [] 0) none 0 none 0,iv ((numericsV v u).2.2)])=Ending.returned (.tuple #[vv (sumsM v u).1 none 0 none 0,iv ((sumsM v u).2)]); (first|rfl|(simp only [sumsM,numV,Vl.z,aa,aP,aQ,bsm] <;> rfl)|(exfalso; omega))),(by rw [aP]; exact (SRow.nil _ _)),(by rw [aQ]; exact (SRow.nil _ _)),ec⟩
def binMi_c_P  (v:Vl) (Av:Option Addr) (cv:Nat) (Bv:Option Addr) (dv:Nat) (u:Vl) (Au:Option Addr) (cu:Nat) (Bu:Option Addr) (du:Nat) (w:World) (en:Ending) (w':World):Prop:=∃ (Ar0:Option Addr) (cr0:Nat) (Ar1:Option Addr) (cr1:Nat),en=.returned (.tuple #[vv (sumsM (cleanV v) (cleanV u)).1 Ar0 cr0 Ar1 cr1,iv ((sumsM (cleanV v) (cleanV u)).2)])∧SRow w' .u32 Ar0 ((sumsM (cleanV v) (cleanV u)).1.mag) cr0∧SRow w' .u16 Ar1 ((sumsM (cleanV v) (cleanV u)).1.s) cr1∧New w w'
theorem binMi_c  (v:Vl) (Av:Option Addr) (cv:Nat) (Bv:Option Addr) (dv:Nat) (u:Vl) (Au:Option Addr) (cu:Nat) (Bu:Option Addr) (du:Nat) (w:World) (hmv:SRow w .u32 Av v.mag cv) (hsv:SRow w .u16 Bv v.s dv) (hmu:SRow w .u32 Au u.mag cu) (hsu:SRow w .u16 Bu u.s du) (hvv:VOk v) (hvu:VOk u):Calls Tryz.prog 12 #[.string ⟨#[45]⟩,vv v Av cv Bv dv,vv u Au cu Bu du] w (binMi_c_P v Av cv Bv dv u Au cu Bu du w):=by
 refine enter_abs Tryz.func12 rfl fun a0 aQ cX hp=>?_
 have aQ:a0.tmps.size=120:=aQ
 have aR:New w w:=Upd.refl _ _
 have hp0:a0.eval (.tmp 0)=.string ⟨#[45]⟩:=hp 0 _ rfl
 have hp1:a0.eval (.tmp 1)=vv v Av cv Bv dv:=hp 1 _ rfl
 have hp2:a0.eval (.tmp 2)=vv u Au cu Bu du:=hp 2 _ rfl
 refine wp_seq_k fun K1 cY=>?_
 refine wp_g [true,true,true,true] [] [] 120
   [IsNew w 29 (c7 v Av cv Bv dv),IsNew w 29 (c7 u Au cu Bu du),IsNew w 29 z7,ve (iv 0)]
   [0,1,2] (newsCons (fun v w h=>IsNew.old h) (newsCons (fun v w h=>IsNew.old h) (newsCons (fun v w h=>IsNew.old h) newsNil))) aQ (.nw (.nw (.nw (.eq (.nil))))) ?_ (fun i h=>by cases h) ?_
 exact .o2 (step_allocN (cs:=(c7 v Av cv Bv dv)) (t:=29) rfl (noG rfl) (fun _ w hn k=>v_box rfl (k.fx 1 hp1) (fun w=>rfl)) (fun q _ hq hb=>⟨q,rfl,hq,hb⟩))<| .o2 (step_allocN (cs:=(c7 u Au cu Bu du)) (t:=29) rfl (noG rfl) (fun _ w hn k=>v_box rfl (k.fx 2 hp2) (fun w=>rfl)) (fun q _ hq hb=>⟨q,rfl,hq,hb⟩))<| .o2 (step_allocN (cs:=z7) (t:=29) rfl (noG rfl) (fun _ w hn k=>rfl) (fun q _ hq hb=>⟨q,rfl,hq,hb⟩))<| .t (fun _ w hn k=>⟨_,v_assign rfl rfl,rfl⟩) .nil
 refine aftI aQ cX aR fun a2 w3 bZ cZ an dR ao=>?_
 have h8:=ao.fx 0 hp0
 obtain⟨aW,h9,b5,aX⟩:=ao.G 0 4
 obtain⟨aY,aS,b6,aZ⟩:=ao.G 1 5
 obtain⟨a1,a3,b7,b8⟩:=ao.G 2 6
 have hne21:aW ≠ aY:=ao.ne 0 1 4 5 h9 aS
 have hne22:aW ≠ a1:=ao.ne 0 2 4 6 h9 a3
 have hne23:aY ≠ a1:=ao.ne 1 2 5 6 aS a3
 have dy:=Nat.le_trans aR.size b5
 have dz:=Nat.le_trans aR.size b6
 have dA:=Nat.le_trans aR.size b7
 refine st_nil (cY _ _ (wp_seq_k fun dS b9=>?_))
 refine wp_g0 [true,true,true,true,false,false] [(4,false),(5,false)] 120
   [ve (vv v Av cv Bv dv),
    (VP (cleanV v)),ve (vv u Au cu Bu du),
    (VP (cleanV u)),vt,vt] bZ (.eq (.cons (fun _ _ _ n ⟨_,_,_,_,e,h,i⟩=>⟨_,_,_,_,e,h.new_ n,i.new_ n⟩) (.eq (.cons (fun _ _ _ n ⟨_,_,_,_,e,h,i⟩=>⟨_,_,_,_,e,h.new_ n,i.new_ n⟩) (.tt (.tt (.nil))))))) ?_ ?_
 refine .t (fun _ w hn k=>⟨_,v_load rfl (k.fx 4 h9) (l_agg Tryz.isAgg29 Tryz.sizeOf29 (aX.new_ hn) rfl),rfl⟩) ?_
 refine .o1 (tkC rfl (noG rfl) rfl fun _ w hn k=>(by
       refine ⟨#[vv v Av cv Bv dv],_,args1 (k.eq1 0 10 rfl),fun w=>by kernel_rfl,clean_c v _ _ _ _ _ (hmv.new_ (an.transNew hn)) (hsv.new_ (an.transNew hn)),?_⟩
       rintro e w' ⟨A1,c2,A3,c4,rfl,hmo0,hmo1,hm⟩
       exact⟨_,rfl,hm,⟨A1,c2,A3,c4,rfl,hmo0,hmo1⟩⟩)) ?_
 refine .t (fun _ w hn k=>⟨_,v_load rfl (k.fx 5 aS) (l_agg Tryz.isAgg29 Tryz.sizeOf29 (aZ.new_ hn) rfl),rfl⟩) ?_
 refine .o1 (tkC rfl (noG rfl) rfl fun _ w hn k=>(by
       refine ⟨#[vv u Au cu Bu du],_,args1 (k.eq1 2 12 rfl),fun w=>by kernel_rfl,clean_c u _ _ _ _ _ (hmu.new_ (an.transNew hn)) (hsu.new_ (an.transNew hn)),?_⟩
       rintro e w' ⟨A9,c9,da,db,rfl,hmo0,hmo1,hm⟩
       exact⟨_,rfl,hm,⟨A9,c9,da,db,rfl,hmo0,hmo1⟩⟩)) ?_
 exact .off<| .off .nil
 refine aftI bZ cZ an fun b0 dT a4 ca cb aO am=>?_
 have b1:=am.fx 0 h8
 have b2:=am.fx 4 h9
 have b3:=am.fx 5 aS
 have dc:=am.fx 6 a3
 obtain⟨aL,ap,aM,aq,a5,cc,cd⟩:=am.G 1 11
 have a5:b0.eval (.tmp 11)=vv (cleanV v) aL ap aM aq:=a5
 obtain⟨aN,ar,aG,au,a6,ce,cf⟩:=am.G 3 13
 have a6:b0.eval (.tmp 13)=vv (cleanV u) aN ar aG au:=a6
 have av:=aX.new_ aO
 have ch:=aZ.new_ aO
 have ci:=b8.new_ aO
 obtain⟨dd,bh,bi,aw,a7⟩:=s_many (P:=Tryz.prog) (t:=29) (i:=0) (c7 (cleanV v) aL ap aM aq) Tryz.sizeOf29 rfl rfl rfl av lb
 have cj:Blk dd aW 29 (c7 (cleanV v) aL ap aM aq):=bi
 refine st_act rfl rfl fun dU cl=>a_store' rfl b2 a5 bh (cl _ _ trivial ?_)
 have cm:=cc.fr av aw
 have cn:=cd.fr av aw
 have co:=ce.fr av aw
 have cp:=cf.fr av aw
 have ax:=a7 _ _ _ (fun h=>hne21 h.symm) ch
 have cq:=a7 _ _ _ (fun h=>hne22 h.symm) ci
 have cr:=cb.trans aw (fun _ h b=>by subst b; omega)
 obtain⟨de,bj,bk,ay,a8⟩:=s_many (P:=Tryz.prog) (t:=29) (i:=0) (c7 (cleanV u) aN ar aG au) Tryz.sizeOf29 rfl rfl rfl ax lb
 have ct:Blk de aY 29 (c7 (cleanV u) aN ar aG au):=bk
 refine st_act rfl rfl fun dV cw=>a_store' rfl b3 a6 bj (cw _ _ trivial ?_)
 have cx:=cm.fr ax ay
 have cy:=cn.fr ax ay
 have cz:=co.fr ax ay
 have cA:=cp.fr ax ay
 have cB:=a8 _ _ _ (hne21) cj
 have cC:=a8 _ _ _ (fun h=>hne23 h.symm) cq
 have cD:=cr.trans ay (fun _ h b=>by subst b; omega)
 refine st_nil (b9 _ _ (wp_seq_k fun dW dB=>?_))
 refine wp_seq_k fun dX cE=>?_
 refine wp_g0 [true] [] 120
   [ve (.string ⟨#[45]⟩)] a4 (.eq (.nil)) ?_ ?_
 exact .m (fun k=>k.fx 0 b1) .nil
 refine aftI a4 ca cD fun dY dZ a9 cF bl aj az=>?_
 have df:=az.fx 0 b1
 have dg:=az.fx 4 b2
 have dh:=az.fx 5 b3
 have di:=az.fx 6 dc
 have b4:=az.ge 0 14 rfl
 have cG:=cB.new_ aj
 have cH:=ct.new_ aj
 have bm:=cC.new_ aj
 have bn:=cx.new_ aj
 have bo:=cy.new_ aj
 have bp:=cz.new_ aj
 have bq:=cA.new_ aj
 refine st_nil (cE _ _ ?_)
 refine wp_block ?_
 refine wp_seq_k fun dC br=>?_
 refine wp_g0 [true,true] [] 120
   [vF,vF] a9 (.eq (.eq (.nil))) ?_ ?_
 exact .t (fun _ w hn k=>⟨_,v_bin rfl (k.fx 14 b4) rfl (fun _=>rfl) (r_eqlS (r:=false) (by kernel_rfl)),rfl⟩)<| .a (fun k=>k.eq1 0 16 rfl) .nil
 refine aftI a9 cF bl fun dD dE aT bs bt aa ad=>?_
 have cI:=ad.fx 0 df
 have cJ:=ad.fx 4 dg
 have cK:=ad.fx 5 dh
 have cL:=ad.fx 6 di
 have ba:=ad.fx 14 b4
 have cM:=ad.ge 1 15 rfl
 have bu:=cG.new_ aa
 have bv:=cH.new_ aa
 have bw:=bm.new_ aa
 have bx:=bn.new_ aa
 have bz:=bo.new_ aa
 have bA:=bp.new_ aa
 have bB:=bq.new_ aa
 refine st_nil (br _ _ ?_)
 refine wp_cond_false cM ?_
 refine wp_seq_k fun dF bC=>?_
 refine wp_seq_k fun dG bD=>?_
 refine wp_g0 [true,true] [] 120
   [vT,vT] aT (.eq (.eq (.nil))) ?_ ?_
 exact .t (fun _ w hn k=>⟨_,v_bin rfl (k.fx 14 ba) rfl (fun _=>rfl) (r_eqlS (r:=true) (by kernel_rfl)),rfl⟩)<| .a (fun k=>k.eq1 0 37 rfl) .nil
 refine aftI aT bs bt fun dH dI aU bE bF ab ae=>?_
 have cN:=ae.fx 0 cI
 have cO:=ae.fx 4 cJ
 have cP:=ae.fx 5 cK
 have cQ:=ae.fx 6 cL
 have dJ:=ae.fx 14 ba
 have bb:=ae.ge 1 36 rfl
 have bG:=bu.new_ ab
 have bH:=bv.new_ ab
 have bI:=bw.new_ ab
 have bJ:=bx.new_ ab
 have bK:=bz.new_ ab
 have bL:=bA.new_ ab
 have bM:=bB.new_ ab
 refine st_nil (bD _ _ ?_)
 refine wp_cond_true bb ?_
 refine wp_skip ?_
 refine bC _ _ ?_
 refine wp_cond_true bb ?_
 refine wp_seq_k fun dK bN=>?_
 refine wp_g0 [true,true,true,true,true,true,false,false] [(6,false),(7,true)] 120
   [ve (.string ⟨#[45]⟩),ve (vv (cleanV v) aL ap aM aq),ve (vv (cleanV u) aN ar aG au),(TP (sumsM (cleanV v) (cleanV u)).1 ((sumsM (cleanV v) (cleanV u)).2)),(fun (v_:Value) (W:World)=>∃ (aA:Option Addr) (aB:Nat) (aC:Option Addr) (aD:Nat),v_=vv (sumsM (cleanV v) (cleanV u)).1 aA aB aC aD∧SRow W .u32 aA ((sumsM (cleanV v) (cleanV u)).1.mag) aB∧SRow W .u16 aC ((sumsM (cleanV v) (cleanV u)).1.s) aD),ve (iv ((sumsM (cleanV v) (cleanV u)).2)),vt,vt] aU (.eq (.eq (.eq (.cons (fun _ _ _ n ⟨_,_,_,_,e,h,i⟩=>⟨_,_,_,_,e,h.new_ n,i.new_ n⟩) (.cons (fun _ _ _ n ⟨_,_,_,_,e,h,i⟩=>⟨_,_,_,_,e,h.new_ n,i.new_ n⟩) (.eq (.tt (.tt (.nil))))))))) ?_ ?_
 refine .m (fun k=>k.fx 0 cN)<| .t (fun _ w hn k=>⟨_,v_load rfl (k.fx 4 cO) (l_agg Tryz.isAgg29 Tryz.sizeOf29 (bG.new_ hn) rfl),rfl⟩)<| .t (fun _ w hn k=>⟨_,v_load rfl (k.fx 5 cP) (l_agg Tryz.isAgg29 Tryz.sizeOf29 (bH.new_ hn) rfl),rfl⟩) ?_
 refine .o1 (tkC rfl (noG rfl) rfl fun _ w hn k=>(by
       refine ⟨#[.string ⟨#[45]⟩,vv (cleanV v) aL ap aM aq,vv (cleanV u) aN ar aG au],_,args3 (k.eq1 0 41 rfl) (k.eq1 1 42 rfl) (k.eq1 2 43 rfl),fun w=>by kernel_rfl,sumsMi_c (cleanV v) _ _ _ _ (cleanV u) _ _ _ _ _ (bJ.new_ hn) (bK.new_ hn) (bL.new_ hn) (bM.new_ hn) hvv.clean hvu.clean,?_⟩
       rintro e w' ⟨dj,dk,dl,dm,rfl,hmo0,hmo1,hm⟩
       exact⟨_,rfl,hm,⟨dj,dk,dl,dm,rfl,hmo0,hmo1⟩⟩)) ?_
 refine .o1 (tk rfl rfl fun _ w hn k=>(by
       obtain⟨dn,dp,dq,dr,ds,cR,cS⟩:(TP (sumsM (cleanV v) (cleanV u)).1 ((sumsM (cleanV v) (cleanV u)).2)) _ _:=k.dep 3 44 (by kernel_rfl) (by kernel_rfl)
       exact⟨_,v_extract rfl ds rfl,⟨dn,dp,dq,dr,rfl,cR,cS⟩⟩)) ?_
 refine .o1 (tk rfl rfl fun _ w hn k=>(by
       obtain⟨aG,d0,d1,d2,dt,dL,dM⟩:(TP (sumsM (cleanV v) (cleanV u)).1 ((sumsM (cleanV v) (cleanV u)).2)) _ _:=k.dep 3 44 (by kernel_rfl) (by kernel_rfl)
       exact⟨_,v_extract rfl dt rfl,rfl⟩)) ?_
 exact .off<| .off .nil
 refine aftI aU bE bF fun aP dN aV bO bP bQ aH=>?_
 have bd:=aH.fx 6 cQ
 obtain⟨aE,ak,aF,al,aI,bR,bS⟩:=aH.G 4 45
 have aI:aP.eval (.tmp 45)=vv (sumsM (cleanV v) (cleanV u)).1 aE ak aF al:=aI
 have be:=aH.ge 5 46 rfl
 have aJ:=bI.new_ bQ
 obtain⟨cT,bf,bg,aK,dw⟩:=s_many (P:=Tryz.prog) (t:=29) (i:=0) (c7 (sumsM (cleanV v) (cleanV u)).1 aE ak aF al) Tryz.sizeOf29 rfl rfl rfl aJ lb
 have bT:Blk cT a1 29 (c7 (sumsM (cleanV v) (cleanV u)).1 aE ak aF al):=bg
 refine st_act rfl rfl fun dO bU=>a_store' rfl bd aI bf (bU _ _ trivial ?_)
 have bV:=bR.fr aJ aK
 have bW:=bS.fr aJ aK
 have bX:=bP.trans aK (fun _ h b=>by subst b; omega)
 refine st_take rfl rfl (y_assign (v:=iv ((sumsM (cleanV v) (cleanV u)).2)) rfl be) rfl ?_
 obtain⟨cU,ac⟩:∃ a',a'=aP.put (some 7) (iv ((sumsM (cleanV v) (cleanV u)).2)):=⟨_,rfl⟩
 have dx:=pz ac aV
 have bY:=pd ac bO
 have cV:=pn ac bd (by decide)
 have dP:=pn ac aI (by decide)
 have dQ:=pn ac be (by decide)
 have cW:cU.eval (.tmp 7)=iv ((sumsM (cleanV v) (cleanV u)).2):=by rw [ac]; exact put_same _ _ _ (by rw [aV]; decide)
 show stepsTo _ _ _ _ _ (aP.put (some 7) (iv ((sumsM (cleanV v) (cleanV u)).2))) _
 rw [← ac]
 refine st_nil (bN _ _ ?_)
 refine wp_ret (ret_k bY (v:=.tuple #[vv (sumsM (cleanV v) (cleanV u)).1 aE ak aF al,iv ((sumsM (cleanV v) (cleanV u)).2)]) (res_ct rfl cV cW (l_agg Tryz.isAgg29 Tryz.sizeOf29 bT rfl)) ?_)
 exact⟨aE,ak,aF,al,rfl,bV,bW,bX⟩
def step_c_P (v:Vl) (Av:Option Addr) (cv:Nat) (Bv:Option Addr) (dv:Nat) (y:Int) (w:World) (en:Ending) (w':World):Prop:=∃ (Ar0:Option Addr) (cr0:Nat) (Ar1:Option Addr) (cr1:Nat),en=.returned (.tuple #[vv (stepV v y).1 Ar0 cr0 Ar1 cr1,iv ((stepV v y).2)])∧SRow w' .u32 Ar0 ((stepV v y).1.mag) cr0∧SRow w' .u16 Ar1 ((stepV v y).1.s) cr1∧New w w'
theorem step_c (v:Vl) (Av:Option Addr) (cv:Nat) (Bv:Option Addr) (dv:Nat) (y:Int) (w:World) (hmv:SRow w .u32 Av v.mag cv) (hsv:SRow w .u16 Bv v.s dv) (hvv:VOk v) (hlo:-9223372036854775808≤y) (hhi:y≤9223372036854775807):Calls Tryz.prog 25 #[vv v Av cv Bv dv,iv y] w (step_c_P v Av cv Bv dv y w):=by
 refine enter_abs Tryz.func25 rfl fun a0 bY gv hp=>?_
 have bY:a0.tmps.size=50:=bY
 have cn:New w w:=Upd.refl _ _
 have hp0:a0.eval (.tmp 0)=vv v Av cv Bv dv:=hp 0 _ rfl
 have hp1:a0.eval (.tmp 1)=iv y:=hp 1 _ rfl
 have af:=(VOk.numeric hvv).mlen
 refine wp_seq_k fun K1 gw=>?_
 refine wp_g [true,true,true] [] [] 50
   [IsNew w 29 (c7 v Av cv Bv dv),IsNew w 29 z7,ve (iv 0)]
   [0,1] (newsCons (fun v w h=>IsNew.old h) (newsCons (fun v w h=>IsNew.old h) newsNil)) bY (.nw (.nw (.eq (.nil)))) ?_ (fun i h=>by cases h) ?_
 exact .o2 (step_allocN (cs:=(c7 v Av cv Bv dv)) (t:=29) rfl (noG rfl) (fun _ w hn k=>v_box rfl (k.fx 0 hp0) (fun w=>rfl)) (fun q _ hq hb=>⟨q,rfl,hq,hb⟩))<| .o2 (step_allocN (cs:=z7) (t:=29) rfl (noG rfl) (fun _ w hn k=>rfl) (fun q _ hq hb=>⟨q,rfl,hq,hb⟩))<| .t (fun _ w hn k=>⟨_,v_assign rfl rfl,rfl⟩) .nil
 refine aftI bY gv cn fun a2 w3 e4 gx bv iR bZ=>?_
 have h8:=bZ.fx 1 hp1
 obtain⟨gy,h9,fc,fd⟩:=bZ.G 0 2
 obtain⟨a1,e5,fe,co⟩:=bZ.G 1 4
 have hne17:gy ≠ a1:=bZ.ne 0 1 2 4 h9 e5
 have hK:=Nat.le_trans cn.size fc
 have hL:=Nat.le_trans cn.size fe
 refine st_nil (gw _ _ (wp_seq_k fun iS ff=>?_))
 refine wp_gS (fun W=>True) (fun W W' hn h=>trivial) trivial [true,true,true,true,true,true,false,false] [4] [(6,false),(7,true)] 50
   [ve (vv v Av cv Bv dv),(TP (numericV v).1 ((numericV v).2)),(TP (numericV v).1 ((numericV v).2)),(fun (v_:Value) (W:World)=>∃ (bi:Option Addr) (bj:Nat) (bk:Option Addr) (bl:Nat),v_=vv (numericV v).1 bi bj bk bl∧SRow W .u32 bi ((numericV v).1.mag) bj∧SRow W .u16 bk ((numericV v).1.s) bl),ve (iv ((numericV v).2)),IsNew w3 29 z7,vt,vt]
   [5] (newsCons (fun v w h=>IsNew.old h) newsNil) e4 (.eq (.cons (fun _ _ _ n ⟨_,_,_,_,e,h,i⟩=>⟨_,_,_,_,e,h.new_ n,i.new_ n⟩) (.cons (fun _ _ _ n ⟨_,_,_,_,e,h,i⟩=>⟨_,_,_,_,e,h.new_ n,i.new_ n⟩) (.cons (fun _ _ _ n ⟨_,_,_,_,e,h,i⟩=>⟨_,_,_,_,e,h.new_ n,i.new_ n⟩) (.eq (.nw (.tt (.tt (.nil))))))))) ?_ ?_ ?_
 refine .t (fun _ w hn k=>⟨_,v_load rfl (k.fx 2 h9) (l_agg Tryz.isAgg29 Tryz.sizeOf29 (fd.new_ hn) rfl),rfl⟩) ?_
 refine .o1 (tkC rfl (noG rfl) rfl fun _ w hn k=>(by
       refine ⟨#[vv v Av cv Bv dv],_,args1 (k.eq1 0 9 rfl),fun w=>by kernel_rfl,cnumeric_c v _ _ _ _ _ (hmv.new_ (bv.transNew hn)) (hsv.new_ (bv.transNew hn)) hvv,?_⟩
       rintro e w' ⟨A1,c2,A3,c4,rfl,hmo0,hmo1,hm⟩
       exact⟨_,rfl,hm,⟨A1,c2,A3,c4,rfl,hmo0,hmo1⟩⟩)) ?_
 refine .o1 (tk rfl rfl fun _ w hn k=>(by
       obtain⟨A9,gz,gA,gB,gC,fg,fh⟩:(TP (numericV v).1 ((numericV v).2)) _ _:=k.dep 1 10 (by kernel_rfl) (by kernel_rfl)
       exact⟨_,v_move rfl gC,⟨A9,gz,gA,gB,rfl,fg,fh⟩⟩)) ?_
 refine .o1 (tk rfl rfl fun _ w hn k=>(by
       obtain⟨gD,gE,gF,gG,gH,fi,fj⟩:(TP (numericV v).1 ((numericV v).2)) _ _:=k.dep 2 8 (by kernel_rfl) (by kernel_rfl)
       exact⟨_,v_extract rfl gH rfl,⟨gD,gE,gF,gG,rfl,fi,fj⟩⟩)) ?_
 refine .o3 ?_
 exact .o2 (step_allocN (cs:=z7) (t:=29) rfl (noG rfl) (fun _ w hn k=>rfl) (fun q _ hq hb=>⟨q,rfl,hq,hb⟩))<| .off<| .off .nil
 intro i h
 simp only [List.contains_eq_mem,List.mem_cons,List.not_mem_nil,or_false,decide_eq_true_eq] at h
 subst h
 exact eager_takeG rfl (noG rfl) fun _ w hn k=>(by
     obtain⟨a3,iT,iU,iV,gI,hM,hN⟩:(TP (numericV v).1 ((numericV v).2)) _ _:=k.dep 2 8 (by kernel_rfl) (by kernel_rfl)
     exact⟨_,fun w hS=>v_extract rfl gI rfl,rfl⟩)
 intro cp iW _ cq aY
 obtain⟨cr,fk,fl⟩:=aft aY e4 gx bv cq
 have gJ:=aY.fx 1 h8
 have gK:=aY.fx 4 e5
 obtain⟨a3,aL,ct,bM,b0,fm,fn⟩:=aY.G 3 11
 have b0:cp.eval (.tmp 11)=vv (numericV v).1 a3 aL ct bM:=b0
 have e6:=aY.ge 4 12 rfl
 obtain⟨a4,e7,cu,bN⟩:=aY.G 5 6
 have fo:=co.new_ cq
 have hne43:a1 ≠ a4:=by have h1:=co.lt; have h2:=cu; omega
 have hO:=Nat.le_trans bv.size cu
 obtain⟨gL,dw,dx,bO,fp⟩:=s_many (P:=Tryz.prog) (t:=29) (i:=0) (c7 (numericV v).1 a3 aL ct bM) Tryz.sizeOf29 rfl rfl rfl bN lb
 have cw:Blk gL a4 29 (c7 (numericV v).1 a3 aL ct bM):=dx
 refine st_act rfl rfl fun iX fq=>a_store' rfl e7 b0 dw (fq _ _ trivial ?_)
 have cx:=fm.fr bN bO
 have cy:=fn.fr bN bO
 have cz:=fp _ _ _ (hne43) fo
 have cA:=fl.trans bO (fun _ h b=>by subst b; omega)
 refine st_take rfl rfl (y_assign (v:=iv ((numericV v).2)) rfl e6) rfl ?_
 obtain⟨gM,an⟩:∃ a',a'=cp.put (some 7) (iv ((numericV v).2)):=⟨_,rfl⟩
 have bw:=pz an cr
 have cB:=pd an fk
 have e8:=pn an gJ (by decide)
 have e9:=pn an gK (by decide)
 have iY:=pn an b0 (by decide)
 have iZ:=pn an e6 (by decide)
 have fa:=pn an e7 (by decide)
 have b1:gM.eval (.tmp 7)=iv ((numericV v).2):=by rw [an]; exact put_same _ _ _ (by rw [cr]; decide)
 show stepsTo _ _ _ _ _ (cp.put (some 7) (iv ((numericV v).2))) _
 rw [← an]
 refine st_nil (ff _ _ (wp_seq_k fun i0 cC=>?_))
 refine wp_block ?_
 refine wp_seq_k fun i1 cD=>?_
 rcases bc (decide (((numericV v).2)=0)) with aa|aa
 have dy:=oT aa
 refine wp_g0 [true,true,true] [] 50
   [ve (iv ((numericV v).2)),vF,vF] bw (.eq (.eq (.eq (.nil)))) ?_ ?_
 exact .m (fun k=>k.fx 7 b1)<| .t (fun _ w hn k=>⟨_,v_bin rfl (k.eq1 0 14 rfl) rfl (fun _=>rfl) (r_neq aa),rfl⟩)<| .a (fun k=>k.eq1 1 15 rfl) .nil
 refine aftI bw cB cA fun i2 i3 aZ bP bQ bx bm=>?_
 have a5:=bm.fx 1 e8
 have cE:=bm.fx 4 e9
 have cF:=bm.fx 6 fa
 have i4:=bm.fx 7 b1
 have gN:=bm.ge 2 13 rfl
 have bR:=cz.new_ bx
 have bS:=cw.new_ bx
 have bT:=cx.new_ bx
 have bU:=cy.new_ bx
 refine st_nil (cD _ _ ?_)
 refine wp_cond_false gN ?_
 refine wp_seq_k fun i5 bV=>?_
 rcases bc (decide (y=1)) with ab|ab
 have dz:=oT ab
 refine wp_g0 [true,true,true,true,true,true,true] [] 50
   [ve (iv y),vF,vF,vU,vU,vF,vF] aZ (.eq (.eq (.eq (.eq (.eq (.eq (.eq (.nil)))))))) ?_ ?_
 exact .m (fun k=>k.fx 1 a5)<| .t (fun _ w hn k=>⟨_,v_bin rfl (k.eq1 0 19 rfl) rfl (fun _=>rfl) (r_neq ab),rfl⟩)<| .m (fun k=>k.eq1 1 20 rfl)<| .s (fun k=>k.eq1 2 21 rfl)<| .s (fun k=>k.eq1 2 21 rfl)<| .t (fun _ w hn k=>⟨_,v_pickF rfl (k.eq1 2 21 rfl) rfl,rfl⟩)<| .a (fun k=>k.eq1 5 24 rfl) .nil
 refine aftI aZ bP bQ fun i6 i7 cG fs dA bz bA=>?_
 have gO:=bA.fx 1 a5
 have gP:=bA.fx 4 cE
 have fb:=bA.fx 6 cF
 have gQ:=bA.ge 6 18 rfl
 have ft:=bR.new_ bz
 have cH:=bS.new_ bz
 have dB:=bT.new_ bz
 have dC:=bU.new_ bz
 refine st_nil (bV _ _ ?_)
 refine wp_cond_false gQ ?_
 refine wp_seq_k fun hP dD=>?_
 refine wp_g0 [true,true,true,true] [] 50
   [ve (pv a4),ve (iv ((numericV v).1.k)),ve (.bool (decide (((numericV v).1.k)=4))),ve (.bool (decide (((numericV v).1.k)=4)))] cG (.eq (.eq (.eq (.eq (.nil))))) ?_ ?_
 exact .f (fun k=>k.fx 6 fb)<| .t (fun _ w hn k=>⟨_,v_load rfl (k.eq1 0 27 rfl) (l_one Tryz.isAgg3 ((cH.new_ hn).cell 0)),rfl⟩)<| .t (fun _ w hn k=>⟨_,v_bin rfl (k.eq1 1 28 rfl) rfl (fun _=>rfl) (r_eql rfl),rfl⟩)<| .a (fun k=>k.eq1 2 29 rfl) .nil
 refine aftI cG fs dA fun hQ hR a6 b2 b3 a7 a8=>?_
 have cI:=a8.fx 1 gO
 have cJ:=a8.fx 4 gP
 have cK:=a8.fx 6 fb
 have cL:=a8.ge 3 26 rfl
 have b4:=ft.new_ a7
 have b5:=cH.new_ a7
 have dE:=dB.new_ a7
 have hh:=dC.new_ a7
 refine st_nil (dD _ _ ?_)
 rcases bc (decide (((numericV v).1.k)=4)) with ad|ad
 have cM:=oT ad
 have dF:=hB cL ad
 refine wp_cond_true dF ?_
 refine wp_seq_k fun hT dG=>?_
 refine wp_g0 [true,true,true,true,true,true,true,true,true,true,false,false] [(10,false),(11,true)] 50
   [ve (.pointer (some ⟨a4,3,none⟩)),ve (.agg #[.bool ((numericV v).1.neg),sv a3 ((numericV v).1.mag) aL]),ve (iv y),(fun (v_:Value) (W:World)=>∃ (bn:Option Addr) (bo:Nat),v_=.agg #[.bool (decide (y < 0)),sv bn (canon (y).natAbs) bo]∧SRow W .u32 bn (canon (y).natAbs) bo),(fun (v_:Value) (W:World)=>∃ (aF:Option Addr) (aG:Nat),v_=.tuple #[.agg #[.bool (decide ((capI (goodI ((numericV v).1.neg) ((numericV v).1.mag) + goodI (decide (y < 0)) (canon (y).natAbs))) < 0)),sv aF (canon ((capI (goodI ((numericV v).1.neg) ((numericV v).1.mag) + goodI (decide (y < 0)) (canon (y).natAbs)))).natAbs) aG],.bool (okI (goodI ((numericV v).1.neg) ((numericV v).1.mag) + goodI (decide (y < 0)) (canon (y).natAbs)))]∧SRow W .u32 aF (canon ((capI (goodI ((numericV v).1.neg) ((numericV v).1.mag) + goodI (decide (y < 0)) (canon (y).natAbs)))).natAbs) aG),(fun (v_:Value) (W:World)=>∃ (bp:Option Addr) (bq:Nat),v_=.agg #[.bool (decide ((capI (goodI ((numericV v).1.neg) ((numericV v).1.mag) + goodI (decide (y < 0)) (canon (y).natAbs))) < 0)),sv bp (canon ((capI (goodI ((numericV v).1.neg) ((numericV v).1.mag) + goodI (decide (y < 0)) (canon (y).natAbs)))).natAbs) bq]∧SRow W .u32 bp (canon ((capI (goodI ((numericV v).1.neg) ((numericV v).1.mag) + goodI (decide (y < 0)) (canon (y).natAbs)))).natAbs) bq),ve (.bool (okI (goodI ((numericV v).1.neg) ((numericV v).1.mag) + goodI (decide (y < 0)) (canon (y).natAbs)))),(TP (biggedV (decide ((capI (goodI ((numericV v).1.neg) ((numericV v).1.mag) + goodI (decide (y < 0)) (canon (y).natAbs))) < 0)) (canon ((capI (goodI ((numericV v).1.neg) ((numericV v).1.mag) + goodI (decide (y < 0)) (canon (y).natAbs)))).natAbs) (okI (goodI ((numericV v).1.neg) ((numericV v).1.mag) + goodI (decide (y < 0)) (canon (y).natAbs)))).1 ((biggedV (decide ((capI (goodI ((numericV v).1.neg) ((numericV v).1.mag) + goodI (decide (y < 0)) (canon (y).natAbs))) < 0)) (canon ((capI (goodI ((numericV v).1.neg) ((numericV v).1.mag) + goodI (decide (y < 0)) (canon (y).natAbs)))).natAbs) (okI (goodI ((numericV v).1.neg) ((numericV v).1.mag) + goodI (decide (y < 0)) (canon (y).natAbs)))).2)),(fun (v_:Value) (W:World)=>∃ (br:Option Addr) (bs:Nat) (bt:Option Addr) (bu:Nat),v_=vv (biggedV (decide ((capI (goodI ((numericV v).1.neg) ((numericV v).1.mag) + goodI (decide (y < 0)) (canon (y).natAbs))) < 0)) (canon ((capI (goodI ((numericV v).1.neg) ((numericV v).1.mag) + goodI (decide (y < 0)) (canon (y).natAbs)))).natAbs) (okI (goodI ((numericV v).1.neg) ((numericV v).1.mag) + goodI (decide (y < 0)) (canon (y).natAbs)))).1 br bs bt bu∧SRow W .u32 br ((biggedV (decide ((capI (goodI ((numericV v).1.neg) ((numericV v).1.mag) + goodI (decide (y < 0)) (canon (y).natAbs))) < 0)) (canon ((capI (goodI ((numericV v).1.neg) ((numericV v).1.mag) + goodI (decide (y < 0)) (canon (y).natAbs)))).natAbs) (okI (goodI ((numericV v).1.neg) ((numericV v).1.mag) + goodI (decide (y < 0)) (canon (y).natAbs)))).1.mag) bs∧SRow W .u16 bt ((biggedV (decide ((capI (goodI ((numericV v).1.neg) ((numericV v).1.mag) + goodI (decide (y < 0)) (canon (y).natAbs))) < 0)) (canon ((capI (goodI ((numericV v).1.neg) ((numericV v).1.mag) + goodI (decide (y < 0)) (canon (y).natAbs)))).natAbs) (okI (goodI ((numericV v).1.neg) ((numericV v).1.mag) + goodI (decide (y < 0)) (canon (y).natAbs)))).1.s) bu),ve (iv ((biggedV (decide ((capI (goodI ((numericV v).1.neg) ((numericV v).1.mag) + goodI (decide (y < 0)) (canon (y).natAbs))) < 0)) (canon ((capI (goodI ((numericV v).1.neg) ((numericV v).1.mag) + goodI (decide (y < 0)) (canon (y).natAbs)))).natAbs) (okI (goodI ((numericV v).1.neg) ((numericV v).1.mag) + goodI (decide (y < 0)) (canon (y).natAbs)))).2)),vt,vt] a6 (.eq (.eq (.eq (.cons (fun _ _ _ n ⟨_,_,e,h⟩=>⟨_,_,e,h.new_ n⟩) (.cons (fun _ _ _ n ⟨_,_,e,h⟩=>⟨_,_,e,h.new_ n⟩) (.cons (fun _ _ _ n ⟨_,_,e,h⟩=>⟨_,_,e,h.new_ n⟩) (.eq (.cons (fun _ _ _ n ⟨_,_,_,_,e,h,i⟩=>⟨_,_,_,_,e,h.new_ n,i.new_ n⟩) (.cons (fun _ _ _ n ⟨_,_,_,_,e,h,i⟩=>⟨_,_,_,_,e,h.new_ n,i.new_ n⟩) (.eq (.tt (.tt (.nil))))))))))))) ?_ ?_
 refine .f (fun k=>k.fx 6 cK)<| .t (fun _ w hn k=>⟨_,v_load rfl (k.eq1 0 30 rfl) (l_part Tryz.isAgg26 Tryz.sizeOf26 (b5.new_ hn) lb),rfl⟩)<| .m (fun k=>k.fx 1 cI) ?_
 refine .o1 (tkC rfl (noG rfl) rfl fun _ w hn k=>(by
       refine ⟨#[iv y],_,args1 (k.eq1 2 32 rfl),fun w=>by kernel_rfl,bOf_c y _ (by omega) (by omega),?_⟩
       rintro e w' ⟨gR,gS,rfl,hmo0,hm⟩
       exact⟨_,rfl,hm,⟨gR,gS,rfl,hmo0⟩⟩)) ?_
 refine .o1 (tkC rfl (noG rfl) rfl fun _ w hn k=>(by
       obtain⟨gT,gU,gV,fu⟩:(fun (v_:Value) (W:World)=>∃ (bn:Option Addr) (bo:Nat),v_=.agg #[.bool (decide (y < 0)),sv bn (canon (y).natAbs) bo]∧SRow W .u32 bn (canon (y).natAbs) bo) _ _:=k.dep 3 33 (by kernel_rfl) (by kernel_rfl)
       refine ⟨#[.agg #[.bool ((numericV v).1.neg),sv a3 ((numericV v).1.mag) aL],.agg #[.bool (decide (y < 0)),sv gT (canon (y).natAbs) gU]],_,args2 (k.eq1 1 31 rfl) gV,fun w=>by kernel_rfl,bAdd_c ((numericV v).1.neg) _ ((numericV v).1.mag) _ (decide (y < 0)) _ (canon (y).natAbs) _ _ (dE.new_ hn) fu (VOk.numeric hvv).limbs (limbs_canon _),?_⟩
       rintro e w' ⟨gW,gX,rfl,hmo0,hm⟩
       exact⟨_,rfl,hm,⟨gW,gX,rfl,hmo0⟩⟩)) ?_
 refine .o1 (tk rfl rfl fun _ w hn k=>(by
       obtain⟨gY,gZ,g0,fv⟩:(fun (v_:Value) (W:World)=>∃ (aF:Option Addr) (aG:Nat),v_=.tuple #[.agg #[.bool (decide ((capI (goodI ((numericV v).1.neg) ((numericV v).1.mag) + goodI (decide (y < 0)) (canon (y).natAbs))) < 0)),sv aF (canon ((capI (goodI ((numericV v).1.neg) ((numericV v).1.mag) + goodI (decide (y < 0)) (canon (y).natAbs)))).natAbs) aG],.bool (okI (goodI ((numericV v).1.neg) ((numericV v).1.mag) + goodI (decide (y < 0)) (canon (y).natAbs)))]∧SRow W .u32 aF (canon ((capI (goodI ((numericV v).1.neg) ((numericV v).1.mag) + goodI (decide (y < 0)) (canon (y).natAbs)))).natAbs) aG) _ _:=k.dep 4 34 (by kernel_rfl) (by kernel_rfl)
       exact⟨_,v_extract rfl g0 rfl,⟨gY,gZ,rfl,fv⟩⟩)) ?_
 refine .o1 (tk rfl rfl fun _ w hn k=>(by
       obtain⟨i8,i9,g1,hU⟩:(fun (v_:Value) (W:World)=>∃ (aF:Option Addr) (aG:Nat),v_=.tuple #[.agg #[.bool (decide ((capI (goodI ((numericV v).1.neg) ((numericV v).1.mag) + goodI (decide (y < 0)) (canon (y).natAbs))) < 0)),sv aF (canon ((capI (goodI ((numericV v).1.neg) ((numericV v).1.mag) + goodI (decide (y < 0)) (canon (y).natAbs)))).natAbs) aG],.bool (okI (goodI ((numericV v).1.neg) ((numericV v).1.mag) + goodI (decide (y < 0)) (canon (y).natAbs)))]∧SRow W .u32 aF (canon ((capI (goodI ((numericV v).1.neg) ((numericV v).1.mag) + goodI (decide (y < 0)) (canon (y).natAbs)))).natAbs) aG) _ _:=k.dep 4 34 (by kernel_rfl) (by kernel_rfl)
       exact⟨_,v_extract rfl g1 rfl,rfl⟩)) ?_
 refine .o1 (tkC rfl (noG rfl) rfl fun _ w hn k=>(by
       obtain⟨g2,g3,g4,fw⟩:(fun (v_:Value) (W:World)=>∃ (bp:Option Addr) (bq:Nat),v_=.agg #[.bool (decide ((capI (goodI ((numericV v).1.neg) ((numericV v).1.mag) + goodI (decide (y < 0)) (canon (y).natAbs))) < 0)),sv bp (canon ((capI (goodI ((numericV v).1.neg) ((numericV v).1.mag) + goodI (decide (y < 0)) (canon (y).natAbs)))).natAbs) bq]∧SRow W .u32 bp (canon ((capI (goodI ((numericV v).1.neg) ((numericV v).1.mag) + goodI (decide (y < 0)) (canon (y).natAbs)))).natAbs) bq) _ _:=k.dep 5 35 (by kernel_rfl) (by kernel_rfl)
       refine ⟨#[.agg #[.bool (decide ((capI (goodI ((numericV v).1.neg) ((numericV v).1.mag) + goodI (decide (y < 0)) (canon (y).natAbs))) < 0)),sv g2 (canon ((capI (goodI ((numericV v).1.neg) ((numericV v).1.mag) + goodI (decide (y < 0)) (canon (y).natAbs)))).natAbs) g3],.bool (okI (goodI ((numericV v).1.neg) ((numericV v).1.mag) + goodI (decide (y < 0)) (canon (y).natAbs)))],_,args2 g4 (k.eq1 6 36 rfl),fun w=>by kernel_rfl,bigged_c (decide ((capI (goodI ((numericV v).1.neg) ((numericV v).1.mag) + goodI (decide (y < 0)) (canon (y).natAbs))) < 0)) _ (canon ((capI (goodI ((numericV v).1.neg) ((numericV v).1.mag) + goodI (decide (y < 0)) (canon (y).natAbs)))).natAbs) _ (okI (goodI ((numericV v).1.neg) ((numericV v).1.mag) + goodI (decide (y < 0)) (canon (y).natAbs))) _ fw,?_⟩
       rintro e w' ⟨g5,g6,g7,g8,rfl,hmo0,hmo1,hm⟩
       exact⟨_,rfl,hm,⟨g5,g6,g7,g8,rfl,hmo0,hmo1⟩⟩)) ?_
 refine .o1 (tk rfl rfl fun _ w hn k=>(by
       obtain⟨g9,ha,hc,hd,hf,fy,fz⟩:(TP (biggedV (decide ((capI (goodI ((numericV v).1.neg) ((numericV v).1.mag) + goodI (decide (y < 0)) (canon (y).natAbs))) < 0)) (canon ((capI (goodI ((numericV v).1.neg) ((numericV v).1.mag) + goodI (decide (y < 0)) (canon (y).natAbs)))).natAbs) (okI (goodI ((numericV v).1.neg) ((numericV v).1.mag) + goodI (decide (y < 0)) (canon (y).natAbs)))).1 ((biggedV (decide ((capI (goodI ((numericV v).1.neg) ((numericV v).1.mag) + goodI (decide (y < 0)) (canon (y).natAbs))) < 0)) (canon ((capI (goodI ((numericV v).1.neg) ((numericV v).1.mag) + goodI (decide (y < 0)) (canon (y).natAbs)))).natAbs) (okI (goodI ((numericV v).1.neg) ((numericV v).1.mag) + goodI (decide (y < 0)) (canon (y).natAbs)))).2)) _ _:=k.dep 7 37 (by kernel_rfl) (by kernel_rfl)
       exact⟨_,v_extract rfl hf rfl,⟨g9,ha,hc,hd,rfl,fy,fz⟩⟩)) ?_
 refine .o1 (tk rfl rfl fun _ w hn k=>(by
       obtain⟨ja,jb,jc,jd,hg,hV,hW⟩:(TP (biggedV (decide ((capI (goodI ((numericV v).1.neg) ((numericV v).1.mag) + goodI (decide (y < 0)) (canon (y).natAbs))) < 0)) (canon ((capI (goodI ((numericV v).1.neg) ((numericV v).1.mag) + goodI (decide (y < 0)) (canon (y).natAbs)))).natAbs) (okI (goodI ((numericV v).1.neg) ((numericV v).1.mag) + goodI (decide (y < 0)) (canon (y).natAbs)))).1 ((biggedV (decide ((capI (goodI ((numericV v).1.neg) ((numericV v).1.mag) + goodI (decide (y < 0)) (canon (y).natAbs))) < 0)) (canon ((capI (goodI ((numericV v).1.neg) ((numericV v).1.mag) + goodI (decide (y < 0)) (canon (y).natAbs)))).natAbs) (okI (goodI ((numericV v).1.neg) ((numericV v).1.mag) + goodI (decide (y < 0)) (canon (y).natAbs)))).2)) _ _:=k.dep 7 37 (by kernel_rfl) (by kernel_rfl)
       exact⟨_,v_extract rfl hg rfl,rfl⟩)) ?_
 exact .off<| .off .nil
 refine aftI a6 b2 b3 fun bW hX b6 dH dI dJ bB=>?_
 have cN:=bB.fx 4 cJ
 obtain⟨ao,ap,aM,aq,bC,dK,dL⟩:=bB.G 8 38
 have bC:bW.eval (.tmp 38)=vv (biggedV (decide ((capI (goodI ((numericV v).1.neg) ((numericV v).1.mag) + goodI (decide (y < 0)) (canon (y).natAbs))) < 0)) (canon ((capI (goodI ((numericV v).1.neg) ((numericV v).1.mag) + goodI (decide (y < 0)) (canon (y).natAbs)))).natAbs) (okI (goodI ((numericV v).1.neg) ((numericV v).1.mag) + goodI (decide (y < 0)) (canon (y).natAbs)))).1 ao ap aM aq:=bC
 have cO:=bB.ge 9 39 rfl
 have bD:=b4.new_ dJ
 obtain⟨fA,cP,cQ,bE,hi⟩:=s_many (P:=Tryz.prog) (t:=29) (i:=0) (c7 (biggedV (decide ((capI (goodI ((numericV v).1.neg) ((numericV v).1.mag) + goodI (decide (y < 0)) (canon (y).natAbs))) < 0)) (canon ((capI (goodI ((numericV v).1.neg) ((numericV v).1.mag) + goodI (decide (y < 0)) (canon (y).natAbs)))).natAbs) (okI (goodI ((numericV v).1.neg) ((numericV v).1.mag) + goodI (decide (y < 0)) (canon (y).natAbs)))).1 ao ap aM aq) Tryz.sizeOf29 rfl rfl rfl bD lb
 have dM:Blk fA a1 29 (c7 (biggedV (decide ((capI (goodI ((numericV v).1.neg) ((numericV v).1.mag) + goodI (decide (y < 0)) (canon (y).natAbs))) < 0)) (canon ((capI (goodI ((numericV v).1.neg) ((numericV v).1.mag) + goodI (decide (y < 0)) (canon (y).natAbs)))).natAbs) (okI (goodI ((numericV v).1.neg) ((numericV v).1.mag) + goodI (decide (y < 0)) (canon (y).natAbs)))).1 ao ap aM aq):=cQ
 refine st_act rfl rfl fun hY dN=>a_store' rfl cN bC cP (dN _ _ trivial ?_)
 have dO:=dK.fr bD bE
 have dP:=dL.fr bD bE
 have dQ:=dI.trans bE (fun _ h b=>by subst b; omega)
 refine st_take rfl rfl (y_assign (v:=iv ((biggedV (decide ((capI (goodI ((numericV v).1.neg) ((numericV v).1.mag) + goodI (decide (y < 0)) (canon (y).natAbs))) < 0)) (canon ((capI (goodI ((numericV v).1.neg) ((numericV v).1.mag) + goodI (decide (y < 0)) (canon (y).natAbs)))).natAbs) (okI (goodI ((numericV v).1.neg) ((numericV v).1.mag) + goodI (decide (y < 0)) (canon (y).natAbs)))).2)) rfl cO) rfl ?_
 obtain⟨fB,ar⟩:∃ a',a'=bW.put (some 5) (iv ((biggedV (decide ((capI (goodI ((numericV v).1.neg) ((numericV v).1.mag) + goodI (decide (y < 0)) (canon (y).natAbs))) < 0)) (canon ((capI (goodI ((numericV v).1.neg) ((numericV v).1.mag) + goodI (decide (y < 0)) (canon (y).natAbs)))).natAbs) (okI (goodI ((numericV v).1.neg) ((numericV v).1.mag) + goodI (decide (y < 0)) (canon (y).natAbs)))).2)):=⟨_,rfl⟩
 have hj:=pz ar b6
 have dR:=pd ar dH
 have fC:=pn ar cN (by decide)
 have hZ:=pn ar bC (by decide)
 have h3:=pn ar cO (by decide)
 have fD:fB.eval (.tmp 5)=iv ((biggedV (decide ((capI (goodI ((numericV v).1.neg) ((numericV v).1.mag) + goodI (decide (y < 0)) (canon (y).natAbs))) < 0)) (canon ((capI (goodI ((numericV v).1.neg) ((numericV v).1.mag) + goodI (decide (y < 0)) (canon (y).natAbs)))).natAbs) (okI (goodI ((numericV v).1.neg) ((numericV v).1.mag) + goodI (decide (y < 0)) (canon (y).natAbs)))).2):=by rw [ar]; exact put_same _ _ _ (by rw [b6]; decide)
 show stepsTo _ _ _ _ _ (bW.put (some 5) (iv ((biggedV (decide ((capI (goodI ((numericV v).1.neg) ((numericV v).1.mag) + goodI (decide (y < 0)) (canon (y).natAbs))) < 0)) (canon ((capI (goodI ((numericV v).1.neg) ((numericV v).1.mag) + goodI (decide (y < 0)) (canon (y).natAbs)))).natAbs) (okI (goodI ((numericV v).1.neg) ((numericV v).1.mag) + goodI (decide (y < 0)) (canon (y).natAbs)))).2))) _
 rw [← ar]
 refine st_nil (dG _ _ ?_)
 refine wp_ret (ret_k dR (v:=.tuple #[vv (biggedV (decide ((capI (goodI ((numericV v).1.neg) ((numericV v).1.mag) + goodI (decide (y < 0)) (canon (y).natAbs))) < 0)) (canon ((capI (goodI ((numericV v).1.neg) ((numericV v).1.mag) + goodI (decide (y < 0)) (canon (y).natAbs)))).natAbs) (okI (goodI ((numericV v).1.neg) ((numericV v).1.mag) + goodI (decide (y < 0)) (canon (y).natAbs)))).1 ao ap aM aq,iv ((biggedV (decide ((capI (goodI ((numericV v).1.neg) ((numericV v).1.mag) + goodI (decide (y < 0)) (canon (y).natAbs))) < 0)) (canon ((capI (goodI ((numericV v).1.neg) ((numericV v).1.mag) + goodI (decide (y < 0)) (canon (y).natAbs)))).natAbs) (okI (goodI ((numericV v).1.neg) ((numericV v).1.mag) + goodI (decide (y < 0)) (canon (y).natAbs)))).2)]) (res_ct rfl fC fD (l_agg Tryz.isAgg29 Tryz.sizeOf29 dM rfl)) ?_)
 have ag:(stepV v y).1.mag=(biggedV (decide ((capI (goodI ((numericV v).1.neg) ((numericV v).1.mag) + goodI (decide (y < 0)) (canon (y).natAbs))) < 0)) (canon ((capI (goodI ((numericV v).1.neg) ((numericV v).1.mag) + goodI (decide (y < 0)) (canon (y).natAbs)))).natAbs) (okI (goodI ((numericV v).1.neg) ((numericV v).1.mag) + goodI (decide (y < 0)) (canon (y).natAbs)))).1.mag:=by first|rfl|(simp only [stepV,numV,Vl.z,aa,ab,ad,good_canon (z:=y) (by omega),bsm] <;> rfl)|(exfalso; omega)
 have af:(stepV v y).1.s=(biggedV (decide ((capI (goodI ((numericV v).1.neg) ((numericV v).1.mag) + goodI (decide (y < 0)) (canon (y).natAbs))) < 0)) (canon ((capI (goodI ((numericV v).1.neg) ((numericV v).1.mag) + goodI (decide (y < 0)) (canon (y).natAbs)))).natAbs) (okI (goodI ((numericV v).1.neg) ((numericV v).1.mag) + goodI (decide (y < 0)) (canon (y).natAbs)))).1.s:=by first|rfl|(simp only [stepV,numV,Vl.z,aa,ab,ad,good_canon (z:=y) (by omega),bsm] <;> rfl)|(exfalso; omega)
 exact⟨ao,ap,aM,aq,(by show Ending.returned (.tuple #[vv (biggedV (decide ((capI (goodI ((numericV v).1.neg) ((numericV v).1.mag) + goodI (decide (y < 0)) (canon (y).natAbs))) < 0)) (canon ((capI (goodI ((numericV v).1.neg) ((numericV v).1.mag) + goodI (decide (y < 0)) (canon (y).natAbs)))).natAbs) (okI (goodI ((numericV v).1.neg) ((numericV v).1.mag) + goodI (decide (y < 0)) (canon (y).natAbs)))).1 ao ap aM aq,iv ((biggedV (decide ((capI (goodI ((numericV v).1.neg) ((numericV v).1.mag) + goodI (decide (y < 0)) (canon (y).natAbs))) < 0)) (canon ((capI (goodI ((numericV v).1.neg) ((numericV v).1.mag) + goodI (decide (y < 0)) (canon (y).natAbs)))).natAbs) (okI (goodI ((numericV v).1.neg) ((numericV v).1.mag) + goodI (decide (y < 0)) (canon (y).natAbs)))).2)])=Ending.returned (.tuple #[vv (stepV v y).1 ao ap aM aq,iv ((stepV v y).2)]); (first|rfl|(simp only [stepV,numV,Vl.z,aa,ab,ad,ag,af,good_canon (z:=y) (by omega),bsm] <;> rfl)|(exfalso; omega))),(by rw [ag]; exact dO),(by rw [af]; exact dP),dQ⟩
 have cM:=oF ad
 have dS:=hB cL ad
 refine wp_cond_false dS ?_
 refine wp_skip ?_
 refine cC _ _ ?_
 refine wp_seq_k fun h4 dT=>?_
 refine wp_g0 [true,true,true,true,true,true,true,true,true,true,false,false] [(10,false),(11,true)] 50
   [ve (.pointer (some ⟨a4,1,none⟩)),ve (nv (Nm.mk ((numericV v).1.nk) ((numericV v).1.nn))),ve (iv y),ve (nv (Nm.mk 0 y)),ve (.tuple #[nv ((addM (Nm.mk ((numericV v).1.nk) ((numericV v).1.nn)) (Nm.mk 0 y)).1),.bool ((addM (Nm.mk ((numericV v).1.nk) ((numericV v).1.nn)) (Nm.mk 0 y)).2)]),ve (nv ((addM (Nm.mk ((numericV v).1.nk) ((numericV v).1.nn)) (Nm.mk 0 y)).1)),ve (.bool ((addM (Nm.mk ((numericV v).1.nk) ((numericV v).1.nn)) (Nm.mk 0 y)).2)),ve (.tuple #[vv (Vl.mk (numberedV ((addM (Nm.mk ((numericV v).1.nk) ((numericV v).1.nn)) (Nm.mk 0 y)).1) ((addM (Nm.mk ((numericV v).1.nk) ((numericV v).1.nn)) (Nm.mk 0 y)).2)).1 (numberedV ((addM (Nm.mk ((numericV v).1.nk) ((numericV v).1.nn)) (Nm.mk 0 y)).1) ((addM (Nm.mk ((numericV v).1.nk) ((numericV v).1.nn)) (Nm.mk 0 y)).2)).2.1.k (numberedV ((addM (Nm.mk ((numericV v).1.nk) ((numericV v).1.nn)) (Nm.mk 0 y)).1) ((addM (Nm.mk ((numericV v).1.nk) ((numericV v).1.nn)) (Nm.mk 0 y)).2)).2.1.n false [] [] 0) none 0 none 0,iv ((numberedV ((addM (Nm.mk ((numericV v).1.nk) ((numericV v).1.nn)) (Nm.mk 0 y)).1) ((addM (Nm.mk ((numericV v).1.nk) ((numericV v).1.nn)) (Nm.mk 0 y)).2)).2.2)]),ve (vv (Vl.mk (numberedV ((addM (Nm.mk ((numericV v).1.nk) ((numericV v).1.nn)) (Nm.mk 0 y)).1) ((addM (Nm.mk ((numericV v).1.nk) ((numericV v).1.nn)) (Nm.mk 0 y)).2)).1 (numberedV ((addM (Nm.mk ((numericV v).1.nk) ((numericV v).1.nn)) (Nm.mk 0 y)).1) ((addM (Nm.mk ((numericV v).1.nk) ((numericV v).1.nn)) (Nm.mk 0 y)).2)).2.1.k (numberedV ((addM (Nm.mk ((numericV v).1.nk) ((numericV v).1.nn)) (Nm.mk 0 y)).1) ((addM (Nm.mk ((numericV v).1.nk) ((numericV v).1.nn)) (Nm.mk 0 y)).2)).2.1.n false [] [] 0) none 0 none 0),ve (iv ((numberedV ((addM (Nm.mk ((numericV v).1.nk) ((numericV v).1.nn)) (Nm.mk 0 y)).1) ((addM (Nm.mk ((numericV v).1.nk) ((numericV v).1.nn)) (Nm.mk 0 y)).2)).2.2)),vt,vt] a6 (.eq (.eq (.eq (.eq (.eq (.eq (.eq (.eq (.eq (.eq (.tt (.tt (.nil))))))))))))) ?_ ?_
 exact .f (fun k=>k.fx 6 cK)<| .t (fun _ w hn k=>⟨_,v_load rfl (k.eq1 0 40 rfl) (l_part Tryz.isAgg23 Tryz.sizeOf23 (b5.new_ hn) lb),rfl⟩)<| .m (fun k=>k.fx 1 cI)<| .t (fun _ w hn k=>⟨_,v_build (ps:=[(1,iv y)]) rfl (parts1 (k.eq1 2 42 rfl)) (by kernel_rfl),rfl⟩)<| .o1 (ck rfl rfl rfl (fun _ w hn k=>⟨#[nv (Nm.mk ((numericV v).1.nk) ((numericV v).1.nn)),nv (Nm.mk 0 y)],args2 (k.eq1 1 41 rfl) (k.eq1 3 43 rfl),fun _=>by kernel_rfl,nadd_c (Nm.mk ((numericV v).1.nk) ((numericV v).1.nn)) (Nm.mk 0 y) _ ⟩) fun _=>rfl)<| .t (fun _ w hn k=>⟨_,v_extract rfl (k.eq1 4 44 rfl) rfl,rfl⟩)<| .t (fun _ w hn k=>⟨_,v_extract rfl (k.eq1 4 44 rfl) rfl,rfl⟩)<| .o1 (ck rfl rfl rfl (fun _ w hn k=>⟨#[nv ((addM (Nm.mk ((numericV v).1.nk) ((numericV v).1.nn)) (Nm.mk 0 y)).1),.bool ((addM (Nm.mk ((numericV v).1.nk) ((numericV v).1.nn)) (Nm.mk 0 y)).2)],args2 (k.eq1 5 45 rfl) (k.eq1 6 46 rfl),fun _=>by kernel_rfl,numbered_c ((addM (Nm.mk ((numericV v).1.nk) ((numericV v).1.nn)) (Nm.mk 0 y)).1) ((addM (Nm.mk ((numericV v).1.nk) ((numericV v).1.nn)) (Nm.mk 0 y)).2) _ ⟩) fun _=>rfl)<| .t (fun _ w hn k=>⟨_,v_extract rfl (k.eq1 7 47 rfl) rfl,rfl⟩)<| .t (fun _ w hn k=>⟨_,v_extract rfl (k.eq1 7 47 rfl) rfl,rfl⟩)<| .off<| .off .nil
 refine aftI a6 b2 b3 fun cR h5 b7 dU dV dW bF=>?_
 have cS:=bF.fx 4 cJ
 have cT:=bF.ge 8 48 rfl
 have cU:=bF.ge 9 49 rfl
 have dX:=b4.new_ dW
 obtain⟨fE,cV,cW,dY,hl⟩:=s_many (P:=Tryz.prog) (t:=29) (i:=0) [iv ((numberedV ((addM (Nm.mk ((numericV v).1.nk) ((numericV v).1.nn)) (Nm.mk 0 y)).1) ((addM (Nm.mk ((numericV v).1.nk) ((numericV v).1.nn)) (Nm.mk 0 y)).2)).1),iv ((numberedV ((addM (Nm.mk ((numericV v).1.nk) ((numericV v).1.nn)) (Nm.mk 0 y)).1) ((addM (Nm.mk ((numericV v).1.nk) ((numericV v).1.nn)) (Nm.mk 0 y)).2)).2.1.k),iv ((numberedV ((addM (Nm.mk ((numericV v).1.nk) ((numericV v).1.nn)) (Nm.mk 0 y)).1) ((addM (Nm.mk ((numericV v).1.nk) ((numericV v).1.nn)) (Nm.mk 0 y)).2)).2.1.n),.bool false,sv none ([]) 0,sv none ([]) 0,iv 0] Tryz.sizeOf29 rfl rfl rfl dX lb
 have dZ:Blk fE a1 29 [iv ((numberedV ((addM (Nm.mk ((numericV v).1.nk) ((numericV v).1.nn)) (Nm.mk 0 y)).1) ((addM (Nm.mk ((numericV v).1.nk) ((numericV v).1.nn)) (Nm.mk 0 y)).2)).1),iv ((numberedV ((addM (Nm.mk ((numericV v).1.nk) ((numericV v).1.nn)) (Nm.mk 0 y)).1) ((addM (Nm.mk ((numericV v).1.nk) ((numericV v).1.nn)) (Nm.mk 0 y)).2)).2.1.k),iv ((numberedV ((addM (Nm.mk ((numericV v).1.nk) ((numericV v).1.nn)) (Nm.mk 0 y)).1) ((addM (Nm.mk ((numericV v).1.nk) ((numericV v).1.nn)) (Nm.mk 0 y)).2)).2.1.n),.bool false,sv none ([]) 0,sv none ([]) 0,iv 0]:=cW
 refine st_act rfl rfl fun h6 d0=>a_store' rfl cS cT cV (d0 _ _ trivial ?_)
 have d1:=dV.trans dY (fun _ h b=>by subst b; omega)
 refine st_take rfl rfl (y_assign (v:=iv ((numberedV ((addM (Nm.mk ((numericV v).1.nk) ((numericV v).1.nn)) (Nm.mk 0 y)).1) ((addM (Nm.mk ((numericV v).1.nk) ((numericV v).1.nn)) (Nm.mk 0 y)).2)).2.2)) rfl cU) rfl ?_
 obtain⟨fF,au⟩:∃ a',a'=cR.put (some 5) (iv ((numberedV ((addM (Nm.mk ((numericV v).1.nk) ((numericV v).1.nn)) (Nm.mk 0 y)).1) ((addM (Nm.mk ((numericV v).1.nk) ((numericV v).1.nn)) (Nm.mk 0 y)).2)).2.2)):=⟨_,rfl⟩
 have ho:=pz au b7
 have d2:=pd au dU
 have fG:=pn au cS (by decide)
 have h7:=pn au cT (by decide)
 have ia:=pn au cU (by decide)
 have fH:fF.eval (.tmp 5)=iv ((numberedV ((addM (Nm.mk ((numericV v).1.nk) ((numericV v).1.nn)) (Nm.mk 0 y)).1) ((addM (Nm.mk ((numericV v).1.nk) ((numericV v).1.nn)) (Nm.mk 0 y)).2)).2.2):=by rw [au]; exact put_same _ _ _ (by rw [b7]; decide)
 show stepsTo _ _ _ _ _ (cR.put (some 5) (iv ((numberedV ((addM (Nm.mk ((numericV v).1.nk) ((numericV v).1.nn)) (Nm.mk 0 y)).1) ((addM (Nm.mk ((numericV v).1.nk) ((numericV v).1.nn)) (Nm.mk 0 y)).2)).2.2))) _
 rw [← au]
 refine st_nil (dT _ _ ?_)
 refine wp_ret (ret_k d2 (v:=.tuple #[vv (Vl.mk (numberedV ((addM (Nm.mk ((numericV v).1.nk) ((numericV v).1.nn)) (Nm.mk 0 y)).1) ((addM (Nm.mk ((numericV v).1.nk) ((numericV v).1.nn)) (Nm.mk 0 y)).2)).1 (numberedV ((addM (Nm.mk ((numericV v).1.nk) ((numericV v).1.nn)) (Nm.mk 0 y)).1) ((addM (Nm.mk ((numericV v).1.nk) ((numericV v).1.nn)) (Nm.mk 0 y)).2)).2.1.k (numberedV ((addM (Nm.mk ((numericV v).1.nk) ((numericV v).1.nn)) (Nm.mk 0 y)).1) ((addM (Nm.mk ((numericV v).1.nk) ((numericV v).1.nn)) (Nm.mk 0 y)).2)).2.1.n false [] [] 0) none 0 none 0,iv ((numberedV ((addM (Nm.mk ((numericV v).1.nk) ((numericV v).1.nn)) (Nm.mk 0 y)).1) ((addM (Nm.mk ((numericV v).1.nk) ((numericV v).1.nn)) (Nm.mk 0 y)).2)).2.2)]) (res_ct rfl fG fH (l_agg Tryz.isAgg29 Tryz.sizeOf29 dZ rfl)) ?_)
 have ag:(stepV v y).1.mag=[]:=by first|rfl|(simp only [stepV,numV,Vl.z,aa,ab,ad,good_canon (z:=y) (by omega),bsm] <;> rfl)|(exfalso; omega)
 have af:(stepV v y).1.s=[]:=by first|rfl|(simp only [stepV,numV,Vl.z,aa,ab,ad,good_canon (z:=y) (by omega),bsm] <;> rfl)|(exfalso; omega)
 exact⟨none,0,none,0,(by show Ending.returned (.tuple #[vv (Vl.mk (numberedV ((addM (Nm.mk ((numericV v).1.nk) ((numericV v).1.nn)) (Nm.mk 0 y)).1) ((addM (Nm.mk ((numericV v).1.nk) ((numericV v).1.nn)) (Nm.mk 0 y)).2)).1 (numberedV ((addM (Nm.mk ((numericV v).1.nk) ((numericV v).1.nn)) (Nm.mk 0 y)).1) ((addM (Nm.mk ((numericV v).1.nk) ((numericV v).1.nn)) (Nm.mk 0 y)).2)).2.1.k (numberedV ((addM (Nm.mk ((numericV v).1.nk) ((numericV v).1.nn)) (Nm.mk 0 y)).1) ((addM (Nm.mk ((numericV v).1.nk) ((numericV v).1.nn)) (Nm.mk 0 y)).2)).2.1.n false [] [] 0) none 0 none 0,iv ((numberedV ((addM (Nm.mk ((numericV v).1.nk) ((numericV v).1.nn)) (Nm.mk 0 y)).1) ((addM (Nm.mk ((numericV v).1.nk) ((numericV v).1.nn)) (Nm.mk 0 y)).2)).2.2)])=Ending.returned (.tuple #[vv (stepV v y).1 none 0 none 0,iv ((stepV v y).2)]); (first|rfl|(simp only [stepV,numV,Vl.z,aa,ab,ad,ag,af,good_canon (z:=y) (by omega),bsm] <;> rfl)|(exfalso; omega))),(by rw [ag]; exact (SRow.nil _ _)),(by rw [af]; exact (SRow.nil _ _)),d1⟩
 have dz:=oF ab
 rcases bc (decide (y = -1)) with ac|ac
 have cX:=oT ac
 refine wp_g0 [true,true,true,true,true,true,true] [] 50
   [ve (iv y),vT,vT,ve (iv y),vF,vF,vF] aZ (.eq (.eq (.eq (.eq (.eq (.eq (.eq (.nil)))))))) ?_ ?_
 exact .m (fun k=>k.fx 1 a5)<| .t (fun _ w hn k=>⟨_,v_bin rfl (k.eq1 0 19 rfl) rfl (fun _=>rfl) (r_neq ab),rfl⟩)<| .m (fun k=>k.eq1 1 20 rfl)<| .gm (fun k=>k.eq1 2 21 rfl) (fun k=>k.fx 1 a5)<| .g (fun k=>k.eq1 2 21 rfl) (fun _ w hn k=>⟨_,v_bin rfl (k.eq1 3 22 rfl) rfl (fun _=>rfl) (r_neq ac),rfl⟩)<| .t (fun _ w hn k=>⟨_,v_pickT rfl (k.eq1 2 21 rfl) (k.eq1 4 23 rfl),rfl⟩)<| .a (fun k=>k.eq1 5 24 rfl) .nil
 refine aftI aZ bP bQ fun ib ic b8 d3 d4 a9 ba=>?_
 have fI:=ba.fx 1 a5
 have fJ:=ba.fx 4 cE
 have cY:=ba.fx 6 cF
 have fK:=ba.ge 6 18 rfl
 have d5:=bR.new_ a9
 have b9:=bS.new_ a9
 have d6:=bT.new_ a9
 have d7:=bU.new_ a9
 refine st_nil (bV _ _ ?_)
 refine wp_cond_false fK ?_
 refine wp_seq_k fun id d8=>?_
 refine wp_g0 [true,true,true,true] [] 50
   [ve (pv a4),ve (iv ((numericV v).1.k)),ve (.bool (decide (((numericV v).1.k)=4))),ve (.bool (decide (((numericV v).1.k)=4)))] b8 (.eq (.eq (.eq (.eq (.nil))))) ?_ ?_
 exact .f (fun k=>k.fx 6 cY)<| .t (fun _ w hn k=>⟨_,v_load rfl (k.eq1 0 27 rfl) (l_one Tryz.isAgg3 ((b9.new_ hn).cell 0)),rfl⟩)<| .t (fun _ w hn k=>⟨_,v_bin rfl (k.eq1 1 28 rfl) rfl (fun _=>rfl) (r_eql rfl),rfl⟩)<| .a (fun k=>k.eq1 2 29 rfl) .nil
 refine aftI b8 d3 d4 fun ie ig bb ca cb bd be=>?_
 have cZ:=be.fx 1 fI
 have c0:=be.fx 4 fJ
 have c1:=be.fx 6 cY
 have c3:=be.ge 3 26 rfl
 have cc:=d5.new_ bd
 have cd:=b9.new_ bd
 have d9:=d6.new_ bd
 have hr:=d7.new_ bd
 refine st_nil (d8 _ _ ?_)
 rcases bc (decide (((numericV v).1.k)=4)) with ae|ae
 have c5:=oT ae
 have ea:=hB c3 ae
 refine wp_cond_true ea ?_
 refine wp_seq_k fun ih eb=>?_
 refine wp_g0 [true,true,true,true,true,true,true,true,true,true,false,false] [(10,false),(11,true)] 50
   [ve (.pointer (some ⟨a4,3,none⟩)),ve (.agg #[.bool ((numericV v).1.neg),sv a3 ((numericV v).1.mag) aL]),ve (iv y),(fun (v_:Value) (W:World)=>∃ (aN:Option Addr) (aO:Nat),v_=.agg #[.bool (decide (y < 0)),sv aN (canon (y).natAbs) aO]∧SRow W .u32 aN (canon (y).natAbs) aO),(fun (v_:Value) (W:World)=>∃ (ah:Option Addr) (ai:Nat),v_=.tuple #[.agg #[.bool (decide ((capI (goodI ((numericV v).1.neg) ((numericV v).1.mag) + goodI (decide (y < 0)) (canon (y).natAbs))) < 0)),sv ah (canon ((capI (goodI ((numericV v).1.neg) ((numericV v).1.mag) + goodI (decide (y < 0)) (canon (y).natAbs)))).natAbs) ai],.bool (okI (goodI ((numericV v).1.neg) ((numericV v).1.mag) + goodI (decide (y < 0)) (canon (y).natAbs)))]∧SRow W .u32 ah (canon ((capI (goodI ((numericV v).1.neg) ((numericV v).1.mag) + goodI (decide (y < 0)) (canon (y).natAbs)))).natAbs) ai),(fun (v_:Value) (W:World)=>∃ (aP:Option Addr) (aQ:Nat),v_=.agg #[.bool (decide ((capI (goodI ((numericV v).1.neg) ((numericV v).1.mag) + goodI (decide (y < 0)) (canon (y).natAbs))) < 0)),sv aP (canon ((capI (goodI ((numericV v).1.neg) ((numericV v).1.mag) + goodI (decide (y < 0)) (canon (y).natAbs)))).natAbs) aQ]∧SRow W .u32 aP (canon ((capI (goodI ((numericV v).1.neg) ((numericV v).1.mag) + goodI (decide (y < 0)) (canon (y).natAbs)))).natAbs) aQ),ve (.bool (okI (goodI ((numericV v).1.neg) ((numericV v).1.mag) + goodI (decide (y < 0)) (canon (y).natAbs)))),(TP (biggedV (decide ((capI (goodI ((numericV v).1.neg) ((numericV v).1.mag) + goodI (decide (y < 0)) (canon (y).natAbs))) < 0)) (canon ((capI (goodI ((numericV v).1.neg) ((numericV v).1.mag) + goodI (decide (y < 0)) (canon (y).natAbs)))).natAbs) (okI (goodI ((numericV v).1.neg) ((numericV v).1.mag) + goodI (decide (y < 0)) (canon (y).natAbs)))).1 ((biggedV (decide ((capI (goodI ((numericV v).1.neg) ((numericV v).1.mag) + goodI (decide (y < 0)) (canon (y).natAbs))) < 0)) (canon ((capI (goodI ((numericV v).1.neg) ((numericV v).1.mag) + goodI (decide (y < 0)) (canon (y).natAbs)))).natAbs) (okI (goodI ((numericV v).1.neg) ((numericV v).1.mag) + goodI (decide (y < 0)) (canon (y).natAbs)))).2)),(fun (v_:Value) (W:World)=>∃ (aR:Option Addr) (aS:Nat) (aT:Option Addr) (aU:Nat),v_=vv (biggedV (decide ((capI (goodI ((numericV v).1.neg) ((numericV v).1.mag) + goodI (decide (y < 0)) (canon (y).natAbs))) < 0)) (canon ((capI (goodI ((numericV v).1.neg) ((numericV v).1.mag) + goodI (decide (y < 0)) (canon (y).natAbs)))).natAbs) (okI (goodI ((numericV v).1.neg) ((numericV v).1.mag) + goodI (decide (y < 0)) (canon (y).natAbs)))).1 aR aS aT aU∧SRow W .u32 aR ((biggedV (decide ((capI (goodI ((numericV v).1.neg) ((numericV v).1.mag) + goodI (decide (y < 0)) (canon (y).natAbs))) < 0)) (canon ((capI (goodI ((numericV v).1.neg) ((numericV v).1.mag) + goodI (decide (y < 0)) (canon (y).natAbs)))).natAbs) (okI (goodI ((numericV v).1.neg) ((numericV v).1.mag) + goodI (decide (y < 0)) (canon (y).natAbs)))).1.mag) aS∧SRow W .u16 aT ((biggedV (decide ((capI (goodI ((numericV v).1.neg) ((numericV v).1.mag) + goodI (decide (y < 0)) (canon (y).natAbs))) < 0)) (canon ((capI (goodI ((numericV v).1.neg) ((numericV v).1.mag) + goodI (decide (y < 0)) (canon (y).natAbs)))).natAbs) (okI (goodI ((numericV v).1.neg) ((numericV v).1.mag) + goodI (decide (y < 0)) (canon (y).natAbs)))).1.s) aU),ve (iv ((biggedV (decide ((capI (goodI ((numericV v).1.neg) ((numericV v).1.mag) + goodI (decide (y < 0)) (canon (y).natAbs))) < 0)) (canon ((capI (goodI ((numericV v).1.neg) ((numericV v).1.mag) + goodI (decide (y < 0)) (canon (y).natAbs)))).natAbs) (okI (goodI ((numericV v).1.neg) ((numericV v).1.mag) + goodI (decide (y < 0)) (canon (y).natAbs)))).2)),vt,vt] bb (.eq (.eq (.eq (.cons (fun _ _ _ n ⟨_,_,e,h⟩=>⟨_,_,e,h.new_ n⟩) (.cons (fun _ _ _ n ⟨_,_,e,h⟩=>⟨_,_,e,h.new_ n⟩) (.cons (fun _ _ _ n ⟨_,_,e,h⟩=>⟨_,_,e,h.new_ n⟩) (.eq (.cons (fun _ _ _ n ⟨_,_,_,_,e,h,i⟩=>⟨_,_,_,_,e,h.new_ n,i.new_ n⟩) (.cons (fun _ _ _ n ⟨_,_,_,_,e,h,i⟩=>⟨_,_,_,_,e,h.new_ n,i.new_ n⟩) (.eq (.tt (.tt (.nil))))))))))))) ?_ ?_
 refine .f (fun k=>k.fx 6 c1)<| .t (fun _ w hn k=>⟨_,v_load rfl (k.eq1 0 30 rfl) (l_part Tryz.isAgg26 Tryz.sizeOf26 (cd.new_ hn) lb),rfl⟩)<| .m (fun k=>k.fx 1 cZ) ?_
 refine .o1 (tkC rfl (noG rfl) rfl fun _ w hn k=>(by
       refine ⟨#[iv y],_,args1 (k.eq1 2 32 rfl),fun w=>by kernel_rfl,bOf_c y _ (by omega) (by omega),?_⟩
       rintro e w' ⟨fL,fM,rfl,hmo0,hm⟩
       exact⟨_,rfl,hm,⟨fL,fM,rfl,hmo0⟩⟩)) ?_
 refine .o1 (tkC rfl (noG rfl) rfl fun _ w hn k=>(by
       obtain⟨fN,fO,fP,ec⟩:(fun (v_:Value) (W:World)=>∃ (aN:Option Addr) (aO:Nat),v_=.agg #[.bool (decide (y < 0)),sv aN (canon (y).natAbs) aO]∧SRow W .u32 aN (canon (y).natAbs) aO) _ _:=k.dep 3 33 (by kernel_rfl) (by kernel_rfl)
       refine ⟨#[.agg #[.bool ((numericV v).1.neg),sv a3 ((numericV v).1.mag) aL],.agg #[.bool (decide (y < 0)),sv fN (canon (y).natAbs) fO]],_,args2 (k.eq1 1 31 rfl) fP,fun w=>by kernel_rfl,bAdd_c ((numericV v).1.neg) _ ((numericV v).1.mag) _ (decide (y < 0)) _ (canon (y).natAbs) _ _ (d9.new_ hn) ec (VOk.numeric hvv).limbs (limbs_canon _),?_⟩
       rintro e w' ⟨fQ,fR,rfl,hmo0,hm⟩
       exact⟨_,rfl,hm,⟨fQ,fR,rfl,hmo0⟩⟩)) ?_
 refine .o1 (tk rfl rfl fun _ w hn k=>(by
       obtain⟨fS,fT,fU,ed⟩:(fun (v_:Value) (W:World)=>∃ (ah:Option Addr) (ai:Nat),v_=.tuple #[.agg #[.bool (decide ((capI (goodI ((numericV v).1.neg) ((numericV v).1.mag) + goodI (decide (y < 0)) (canon (y).natAbs))) < 0)),sv ah (canon ((capI (goodI ((numericV v).1.neg) ((numericV v).1.mag) + goodI (decide (y < 0)) (canon (y).natAbs)))).natAbs) ai],.bool (okI (goodI ((numericV v).1.neg) ((numericV v).1.mag) + goodI (decide (y < 0)) (canon (y).natAbs)))]∧SRow W .u32 ah (canon ((capI (goodI ((numericV v).1.neg) ((numericV v).1.mag) + goodI (decide (y < 0)) (canon (y).natAbs)))).natAbs) ai) _ _:=k.dep 4 34 (by kernel_rfl) (by kernel_rfl)
       exact⟨_,v_extract rfl fU rfl,⟨fS,fT,rfl,ed⟩⟩)) ?_
 refine .o1 (tk rfl rfl fun _ w hn k=>(by
       obtain⟨ii,ij,fV,hs⟩:(fun (v_:Value) (W:World)=>∃ (ah:Option Addr) (ai:Nat),v_=.tuple #[.agg #[.bool (decide ((capI (goodI ((numericV v).1.neg) ((numericV v).1.mag) + goodI (decide (y < 0)) (canon (y).natAbs))) < 0)),sv ah (canon ((capI (goodI ((numericV v).1.neg) ((numericV v).1.mag) + goodI (decide (y < 0)) (canon (y).natAbs)))).natAbs) ai],.bool (okI (goodI ((numericV v).1.neg) ((numericV v).1.mag) + goodI (decide (y < 0)) (canon (y).natAbs)))]∧SRow W .u32 ah (canon ((capI (goodI ((numericV v).1.neg) ((numericV v).1.mag) + goodI (decide (y < 0)) (canon (y).natAbs)))).natAbs) ai) _ _:=k.dep 4 34 (by kernel_rfl) (by kernel_rfl)
       exact⟨_,v_extract rfl fV rfl,rfl⟩)) ?_
 refine .o1 (tkC rfl (noG rfl) rfl fun _ w hn k=>(by
       obtain⟨fW,fX,fY,ee⟩:(fun (v_:Value) (W:World)=>∃ (aP:Option Addr) (aQ:Nat),v_=.agg #[.bool (decide ((capI (goodI ((numericV v).1.neg) ((numericV v).1.mag) + goodI (decide (y < 0)) (canon (y).natAbs))) < 0)),sv aP (canon ((capI (goodI ((numericV v).1.neg) ((numericV v).1.mag) + goodI (decide (y < 0)) (canon (y).natAbs)))).natAbs) aQ]∧SRow W .u32 aP (canon ((capI (goodI ((numericV v).1.neg) ((numericV v).1.mag) + goodI (decide (y < 0)) (canon (y).natAbs)))).natAbs) aQ) _ _:=k.dep 5 35 (by kernel_rfl) (by kernel_rfl)
       refine ⟨#[.agg #[.bool (decide ((capI (goodI ((numericV v).1.neg) ((numericV v).1.mag) + goodI (decide (y < 0)) (canon (y).natAbs))) < 0)),sv fW (canon ((capI (goodI ((numericV v).1.neg) ((numericV v).1.mag) + goodI (decide (y < 0)) (canon (y).natAbs)))).natAbs) fX],.bool (okI (goodI ((numericV v).1.neg) ((numericV v).1.mag) + goodI (decide (y < 0)) (canon (y).natAbs)))],_,args2 fY (k.eq1 6 36 rfl),fun w=>by kernel_rfl,bigged_c (decide ((capI (goodI ((numericV v).1.neg) ((numericV v).1.mag) + goodI (decide (y < 0)) (canon (y).natAbs))) < 0)) _ (canon ((capI (goodI ((numericV v).1.neg) ((numericV v).1.mag) + goodI (decide (y < 0)) (canon (y).natAbs)))).natAbs) _ (okI (goodI ((numericV v).1.neg) ((numericV v).1.mag) + goodI (decide (y < 0)) (canon (y).natAbs))) _ ee,?_⟩
       rintro e w' ⟨ao,fZ,f0,f1,rfl,hmo0,hmo1,hm⟩
       exact⟨_,rfl,hm,⟨ao,fZ,f0,f1,rfl,hmo0,hmo1⟩⟩)) ?_
 refine .o1 (tk rfl rfl fun _ w hn k=>(by
       obtain⟨f2,f3,f4,f5,f6,ef,eg⟩:(TP (biggedV (decide ((capI (goodI ((numericV v).1.neg) ((numericV v).1.mag) + goodI (decide (y < 0)) (canon (y).natAbs))) < 0)) (canon ((capI (goodI ((numericV v).1.neg) ((numericV v).1.mag) + goodI (decide (y < 0)) (canon (y).natAbs)))).natAbs) (okI (goodI ((numericV v).1.neg) ((numericV v).1.mag) + goodI (decide (y < 0)) (canon (y).natAbs)))).1 ((biggedV (decide ((capI (goodI ((numericV v).1.neg) ((numericV v).1.mag) + goodI (decide (y < 0)) (canon (y).natAbs))) < 0)) (canon ((capI (goodI ((numericV v).1.neg) ((numericV v).1.mag) + goodI (decide (y < 0)) (canon (y).natAbs)))).natAbs) (okI (goodI ((numericV v).1.neg) ((numericV v).1.mag) + goodI (decide (y < 0)) (canon (y).natAbs)))).2)) _ _:=k.dep 7 37 (by kernel_rfl) (by kernel_rfl)
       exact⟨_,v_extract rfl f6 rfl,⟨f2,f3,f4,f5,rfl,ef,eg⟩⟩)) ?_
 refine .o1 (tk rfl rfl fun _ w hn k=>(by
       obtain⟨ik,il,im,io,f7,ht,hu⟩:(TP (biggedV (decide ((capI (goodI ((numericV v).1.neg) ((numericV v).1.mag) + goodI (decide (y < 0)) (canon (y).natAbs))) < 0)) (canon ((capI (goodI ((numericV v).1.neg) ((numericV v).1.mag) + goodI (decide (y < 0)) (canon (y).natAbs)))).natAbs) (okI (goodI ((numericV v).1.neg) ((numericV v).1.mag) + goodI (decide (y < 0)) (canon (y).natAbs)))).1 ((biggedV (decide ((capI (goodI ((numericV v).1.neg) ((numericV v).1.mag) + goodI (decide (y < 0)) (canon (y).natAbs))) < 0)) (canon ((capI (goodI ((numericV v).1.neg) ((numericV v).1.mag) + goodI (decide (y < 0)) (canon (y).natAbs)))).natAbs) (okI (goodI ((numericV v).1.neg) ((numericV v).1.mag) + goodI (decide (y < 0)) (canon (y).natAbs)))).2)) _ _:=k.dep 7 37 (by kernel_rfl) (by kernel_rfl)
       exact⟨_,v_extract rfl f7 rfl,rfl⟩)) ?_
 exact .off<| .off .nil
 refine aftI bb ca cb fun bX ip ce eh ei ej bG=>?_
 have c9:=bG.fx 4 c0
 obtain⟨aV,av,aW,aw,bH,ek,el⟩:=bG.G 8 38
 have bH:bX.eval (.tmp 38)=vv (biggedV (decide ((capI (goodI ((numericV v).1.neg) ((numericV v).1.mag) + goodI (decide (y < 0)) (canon (y).natAbs))) < 0)) (canon ((capI (goodI ((numericV v).1.neg) ((numericV v).1.mag) + goodI (decide (y < 0)) (canon (y).natAbs)))).natAbs) (okI (goodI ((numericV v).1.neg) ((numericV v).1.mag) + goodI (decide (y < 0)) (canon (y).natAbs)))).1 aV av aW aw:=bH
 have da:=bG.ge 9 39 rfl
 have bI:=cc.new_ ej
 obtain⟨f8,db,dc,bJ,hv⟩:=s_many (P:=Tryz.prog) (t:=29) (i:=0) (c7 (biggedV (decide ((capI (goodI ((numericV v).1.neg) ((numericV v).1.mag) + goodI (decide (y < 0)) (canon (y).natAbs))) < 0)) (canon ((capI (goodI ((numericV v).1.neg) ((numericV v).1.mag) + goodI (decide (y < 0)) (canon (y).natAbs)))).natAbs) (okI (goodI ((numericV v).1.neg) ((numericV v).1.mag) + goodI (decide (y < 0)) (canon (y).natAbs)))).1 aV av aW aw) Tryz.sizeOf29 rfl rfl rfl bI lb
 have em:Blk f8 a1 29 (c7 (biggedV (decide ((capI (goodI ((numericV v).1.neg) ((numericV v).1.mag) + goodI (decide (y < 0)) (canon (y).natAbs))) < 0)) (canon ((capI (goodI ((numericV v).1.neg) ((numericV v).1.mag) + goodI (decide (y < 0)) (canon (y).natAbs)))).natAbs) (okI (goodI ((numericV v).1.neg) ((numericV v).1.mag) + goodI (decide (y < 0)) (canon (y).natAbs)))).1 aV av aW aw):=dc
 refine st_act rfl rfl fun iq en=>a_store' rfl c9 bH db (en _ _ trivial ?_)
 have eo:=ek.fr bI bJ
 have ep:=el.fr bI bJ
 have er:=ei.trans bJ (fun _ h b=>by subst b; omega)
 refine st_take rfl rfl (y_assign (v:=iv ((biggedV (decide ((capI (goodI ((numericV v).1.neg) ((numericV v).1.mag) + goodI (decide (y < 0)) (canon (y).natAbs))) < 0)) (canon ((capI (goodI ((numericV v).1.neg) ((numericV v).1.mag) + goodI (decide (y < 0)) (canon (y).natAbs)))).natAbs) (okI (goodI ((numericV v).1.neg) ((numericV v).1.mag) + goodI (decide (y < 0)) (canon (y).natAbs)))).2)) rfl da) rfl ?_
 obtain⟨f9,ax⟩:∃ a',a'=bX.put (some 5) (iv ((biggedV (decide ((capI (goodI ((numericV v).1.neg) ((numericV v).1.mag) + goodI (decide (y < 0)) (canon (y).natAbs))) < 0)) (canon ((capI (goodI ((numericV v).1.neg) ((numericV v).1.mag) + goodI (decide (y < 0)) (canon (y).natAbs)))).natAbs) (okI (goodI ((numericV v).1.neg) ((numericV v).1.mag) + goodI (decide (y < 0)) (canon (y).natAbs)))).2)):=⟨_,rfl⟩
 have hw:=pz ax ce
 have es:=pd ax eh
 have ga:=pn ax c9 (by decide)
 have ir:=pn ax bH (by decide)
 have it:=pn ax da (by decide)
 have gb:f9.eval (.tmp 5)=iv ((biggedV (decide ((capI (goodI ((numericV v).1.neg) ((numericV v).1.mag) + goodI (decide (y < 0)) (canon (y).natAbs))) < 0)) (canon ((capI (goodI ((numericV v).1.neg) ((numericV v).1.mag) + goodI (decide (y < 0)) (canon (y).natAbs)))).natAbs) (okI (goodI ((numericV v).1.neg) ((numericV v).1.mag) + goodI (decide (y < 0)) (canon (y).natAbs)))).2):=by rw [ax]; exact put_same _ _ _ (by rw [ce]; decide)
 show stepsTo _ _ _ _ _ (bX.put (some 5) (iv ((biggedV (decide ((capI (goodI ((numericV v).1.neg) ((numericV v).1.mag) + goodI (decide (y < 0)) (canon (y).natAbs))) < 0)) (canon ((capI (goodI ((numericV v).1.neg) ((numericV v).1.mag) + goodI (decide (y < 0)) (canon (y).natAbs)))).natAbs) (okI (goodI ((numericV v).1.neg) ((numericV v).1.mag) + goodI (decide (y < 0)) (canon (y).natAbs)))).2))) _
 rw [← ax]
 refine st_nil (eb _ _ ?_)
 refine wp_ret (ret_k es (v:=.tuple #[vv (biggedV (decide ((capI (goodI ((numericV v).1.neg) ((numericV v).1.mag) + goodI (decide (y < 0)) (canon (y).natAbs))) < 0)) (canon ((capI (goodI ((numericV v).1.neg) ((numericV v).1.mag) + goodI (decide (y < 0)) (canon (y).natAbs)))).natAbs) (okI (goodI ((numericV v).1.neg) ((numericV v).1.mag) + goodI (decide (y < 0)) (canon (y).natAbs)))).1 aV av aW aw,iv ((biggedV (decide ((capI (goodI ((numericV v).1.neg) ((numericV v).1.mag) + goodI (decide (y < 0)) (canon (y).natAbs))) < 0)) (canon ((capI (goodI ((numericV v).1.neg) ((numericV v).1.mag) + goodI (decide (y < 0)) (canon (y).natAbs)))).natAbs) (okI (goodI ((numericV v).1.neg) ((numericV v).1.mag) + goodI (decide (y < 0)) (canon (y).natAbs)))).2)]) (res_ct rfl ga gb (l_agg Tryz.isAgg29 Tryz.sizeOf29 em rfl)) ?_)
 have ag:(stepV v y).1.mag=(biggedV (decide ((capI (goodI ((numericV v).1.neg) ((numericV v).1.mag) + goodI (decide (y < 0)) (canon (y).natAbs))) < 0)) (canon ((capI (goodI ((numericV v).1.neg) ((numericV v).1.mag) + goodI (decide (y < 0)) (canon (y).natAbs)))).natAbs) (okI (goodI ((numericV v).1.neg) ((numericV v).1.mag) + goodI (decide (y < 0)) (canon (y).natAbs)))).1.mag:=by first|rfl|(simp only [stepV,numV,Vl.z,aa,ab,ac,ae,good_canon (z:=y) (by omega),bsm] <;> rfl)|(exfalso; omega)
 have af:(stepV v y).1.s=(biggedV (decide ((capI (goodI ((numericV v).1.neg) ((numericV v).1.mag) + goodI (decide (y < 0)) (canon (y).natAbs))) < 0)) (canon ((capI (goodI ((numericV v).1.neg) ((numericV v).1.mag) + goodI (decide (y < 0)) (canon (y).natAbs)))).natAbs) (okI (goodI ((numericV v).1.neg) ((numericV v).1.mag) + goodI (decide (y < 0)) (canon (y).natAbs)))).1.s:=by first|rfl|(simp only [stepV,numV,Vl.z,aa,ab,ac,ae,good_canon (z:=y) (by omega),bsm] <;> rfl)|(exfalso; omega)
 exact⟨aV,av,aW,aw,(by show Ending.returned (.tuple #[vv (biggedV (decide ((capI (goodI ((numericV v).1.neg) ((numericV v).1.mag) + goodI (decide (y < 0)) (canon (y).natAbs))) < 0)) (canon ((capI (goodI ((numericV v).1.neg) ((numericV v).1.mag) + goodI (decide (y < 0)) (canon (y).natAbs)))).natAbs) (okI (goodI ((numericV v).1.neg) ((numericV v).1.mag) + goodI (decide (y < 0)) (canon (y).natAbs)))).1 aV av aW aw,iv ((biggedV (decide ((capI (goodI ((numericV v).1.neg) ((numericV v).1.mag) + goodI (decide (y < 0)) (canon (y).natAbs))) < 0)) (canon ((capI (goodI ((numericV v).1.neg) ((numericV v).1.mag) + goodI (decide (y < 0)) (canon (y).natAbs)))).natAbs) (okI (goodI ((numericV v).1.neg) ((numericV v).1.mag) + goodI (decide (y < 0)) (canon (y).natAbs)))).2)])=Ending.returned (.tuple #[vv (stepV v y).1 aV av aW aw,iv ((stepV v y).2)]); (first|rfl|(simp only [stepV,numV,Vl.z,aa,ab,ac,ae,ag,af,good_canon (z:=y) (by omega),bsm] <;> rfl)|(exfalso; omega))),(by rw [ag]; exact eo),(by rw [af]; exact ep),er⟩
 have c5:=oF ae
 have et:=hB c3 ae
 refine wp_cond_false et ?_
 refine wp_skip ?_
 refine cC _ _ ?_
 refine wp_seq_k fun iu eu=>?_
 refine wp_g0 [true,true,true,true,true,true,true,true,true,true,false,false] [(10,false),(11,true)] 50
   [ve (.pointer (some ⟨a4,1,none⟩)),ve (nv (Nm.mk ((numericV v).1.nk) ((numericV v).1.nn))),ve (iv y),ve (nv (Nm.mk 0 y)),ve (.tuple #[nv ((addM (Nm.mk ((numericV v).1.nk) ((numericV v).1.nn)) (Nm.mk 0 y)).1),.bool ((addM (Nm.mk ((numericV v).1.nk) ((numericV v).1.nn)) (Nm.mk 0 y)).2)]),ve (nv ((addM (Nm.mk ((numericV v).1.nk) ((numericV v).1.nn)) (Nm.mk 0 y)).1)),ve (.bool ((addM (Nm.mk ((numericV v).1.nk) ((numericV v).1.nn)) (Nm.mk 0 y)).2)),ve (.tuple #[vv (Vl.mk (numberedV ((addM (Nm.mk ((numericV v).1.nk) ((numericV v).1.nn)) (Nm.mk 0 y)).1) ((addM (Nm.mk ((numericV v).1.nk) ((numericV v).1.nn)) (Nm.mk 0 y)).2)).1 (numberedV ((addM (Nm.mk ((numericV v).1.nk) ((numericV v).1.nn)) (Nm.mk 0 y)).1) ((addM (Nm.mk ((numericV v).1.nk) ((numericV v).1.nn)) (Nm.mk 0 y)).2)).2.1.k (numberedV ((addM (Nm.mk ((numericV v).1.nk) ((numericV v).1.nn)) (Nm.mk 0 y)).1) ((addM (Nm.mk ((numericV v).1.nk) ((numericV v).1.nn)) (Nm.mk 0 y)).2)).2.1.n false [] [] 0) none 0 none 0,iv ((numberedV ((addM (Nm.mk ((numericV v).1.nk) ((numericV v).1.nn)) (Nm.mk 0 y)).1) ((addM (Nm.mk ((numericV v).1.nk) ((numericV v).1.nn)) (Nm.mk 0 y)).2)).2.2)]),ve (vv (Vl.mk (numberedV ((addM (Nm.mk ((numericV v).1.nk) ((numericV v).1.nn)) (Nm.mk 0 y)).1) ((addM (Nm.mk ((numericV v).1.nk) ((numericV v).1.nn)) (Nm.mk 0 y)).2)).1 (numberedV ((addM (Nm.mk ((numericV v).1.nk) ((numericV v).1.nn)) (Nm.mk 0 y)).1) ((addM (Nm.mk ((numericV v).1.nk) ((numericV v).1.nn)) (Nm.mk 0 y)).2)).2.1.k (numberedV ((addM (Nm.mk ((numericV v).1.nk) ((numericV v).1.nn)) (Nm.mk 0 y)).1) ((addM (Nm.mk ((numericV v).1.nk) ((numericV v).1.nn)) (Nm.mk 0 y)).2)).2.1.n false [] [] 0) none 0 none 0),ve (iv ((numberedV ((addM (Nm.mk ((numericV v).1.nk) ((numericV v).1.nn)) (Nm.mk 0 y)).1) ((addM (Nm.mk ((numericV v).1.nk) ((numericV v).1.nn)) (Nm.mk 0 y)).2)).2.2)),vt,vt] bb (.eq (.eq (.eq (.eq (.eq (.eq (.eq (.eq (.eq (.eq (.tt (.tt (.nil))))))))))))) ?_ ?_
 exact .f (fun k=>k.fx 6 c1)<| .t (fun _ w hn k=>⟨_,v_load rfl (k.eq1 0 40 rfl) (l_part Tryz.isAgg23 Tryz.sizeOf23 (cd.new_ hn) lb),rfl⟩)<| .m (fun k=>k.fx 1 cZ)<| .t (fun _ w hn k=>⟨_,v_build (ps:=[(1,iv y)]) rfl (parts1 (k.eq1 2 42 rfl)) (by kernel_rfl),rfl⟩)<| .o1 (ck rfl rfl rfl (fun _ w hn k=>⟨#[nv (Nm.mk ((numericV v).1.nk) ((numericV v).1.nn)),nv (Nm.mk 0 y)],args2 (k.eq1 1 41 rfl) (k.eq1 3 43 rfl),fun _=>by kernel_rfl,nadd_c (Nm.mk ((numericV v).1.nk) ((numericV v).1.nn)) (Nm.mk 0 y) _ ⟩) fun _=>rfl)<| .t (fun _ w hn k=>⟨_,v_extract rfl (k.eq1 4 44 rfl) rfl,rfl⟩)<| .t (fun _ w hn k=>⟨_,v_extract rfl (k.eq1 4 44 rfl) rfl,rfl⟩)<| .o1 (ck rfl rfl rfl (fun _ w hn k=>⟨#[nv ((addM (Nm.mk ((numericV v).1.nk) ((numericV v).1.nn)) (Nm.mk 0 y)).1),.bool ((addM (Nm.mk ((numericV v).1.nk) ((numericV v).1.nn)) (Nm.mk 0 y)).2)],args2 (k.eq1 5 45 rfl) (k.eq1 6 46 rfl),fun _=>by kernel_rfl,numbered_c ((addM (Nm.mk ((numericV v).1.nk) ((numericV v).1.nn)) (Nm.mk 0 y)).1) ((addM (Nm.mk ((numericV v).1.nk) ((numericV v).1.nn)) (Nm.mk 0 y)).2) _ ⟩) fun _=>rfl)<| .t (fun _ w hn k=>⟨_,v_extract rfl (k.eq1 7 47 rfl) rfl,rfl⟩)<| .t (fun _ w hn k=>⟨_,v_extract rfl (k.eq1 7 47 rfl) rfl,rfl⟩)<| .off<| .off .nil
 refine aftI bb ca cb fun dd iw cf ev ew ex bK=>?_
 have de:=bK.fx 4 c0
 have df:=bK.ge 8 48 rfl
 have dg:=bK.ge 9 49 rfl
 have ey:=cc.new_ ex
 obtain⟨gc,dh,di,ez,hx⟩:=s_many (P:=Tryz.prog) (t:=29) (i:=0) [iv ((numberedV ((addM (Nm.mk ((numericV v).1.nk) ((numericV v).1.nn)) (Nm.mk 0 y)).1) ((addM (Nm.mk ((numericV v).1.nk) ((numericV v).1.nn)) (Nm.mk 0 y)).2)).1),iv ((numberedV ((addM (Nm.mk ((numericV v).1.nk) ((numericV v).1.nn)) (Nm.mk 0 y)).1) ((addM (Nm.mk ((numericV v).1.nk) ((numericV v).1.nn)) (Nm.mk 0 y)).2)).2.1.k),iv ((numberedV ((addM (Nm.mk ((numericV v).1.nk) ((numericV v).1.nn)) (Nm.mk 0 y)).1) ((addM (Nm.mk ((numericV v).1.nk) ((numericV v).1.nn)) (Nm.mk 0 y)).2)).2.1.n),.bool false,sv none ([]) 0,sv none ([]) 0,iv 0] Tryz.sizeOf29 rfl rfl rfl ey lb
 have eA:Blk gc a1 29 [iv ((numberedV ((addM (Nm.mk ((numericV v).1.nk) ((numericV v).1.nn)) (Nm.mk 0 y)).1) ((addM (Nm.mk ((numericV v).1.nk) ((numericV v).1.nn)) (Nm.mk 0 y)).2)).1),iv ((numberedV ((addM (Nm.mk ((numericV v).1.nk) ((numericV v).1.nn)) (Nm.mk 0 y)).1) ((addM (Nm.mk ((numericV v).1.nk) ((numericV v).1.nn)) (Nm.mk 0 y)).2)).2.1.k),iv ((numberedV ((addM (Nm.mk ((numericV v).1.nk) ((numericV v).1.nn)) (Nm.mk 0 y)).1) ((addM (Nm.mk ((numericV v).1.nk) ((numericV v).1.nn)) (Nm.mk 0 y)).2)).2.1.n),.bool false,sv none ([]) 0,sv none ([]) 0,iv 0]:=di
 refine st_act rfl rfl fun ix eB=>a_store' rfl de df dh (eB _ _ trivial ?_)
 have eC:=ew.trans ez (fun _ h b=>by subst b; omega)
 refine st_take rfl rfl (y_assign (v:=iv ((numberedV ((addM (Nm.mk ((numericV v).1.nk) ((numericV v).1.nn)) (Nm.mk 0 y)).1) ((addM (Nm.mk ((numericV v).1.nk) ((numericV v).1.nn)) (Nm.mk 0 y)).2)).2.2)) rfl dg) rfl ?_
 obtain⟨gd,ay⟩:∃ a',a'=dd.put (some 5) (iv ((numberedV ((addM (Nm.mk ((numericV v).1.nk) ((numericV v).1.nn)) (Nm.mk 0 y)).1) ((addM (Nm.mk ((numericV v).1.nk) ((numericV v).1.nn)) (Nm.mk 0 y)).2)).2.2)):=⟨_,rfl⟩
 have hy:=pz ay cf
 have eD:=pd ay ev
 have gf:=pn ay de (by decide)
 have iy:=pn ay df (by decide)
 have iz:=pn ay dg (by decide)
 have gg:gd.eval (.tmp 5)=iv ((numberedV ((addM (Nm.mk ((numericV v).1.nk) ((numericV v).1.nn)) (Nm.mk 0 y)).1) ((addM (Nm.mk ((numericV v).1.nk) ((numericV v).1.nn)) (Nm.mk 0 y)).2)).2.2):=by rw [ay]; exact put_same _ _ _ (by rw [cf]; decide)
 show stepsTo _ _ _ _ _ (dd.put (some 5) (iv ((numberedV ((addM (Nm.mk ((numericV v).1.nk) ((numericV v).1.nn)) (Nm.mk 0 y)).1) ((addM (Nm.mk ((numericV v).1.nk) ((numericV v).1.nn)) (Nm.mk 0 y)).2)).2.2))) _
 rw [← ay]
 refine st_nil (eu _ _ ?_)
 refine wp_ret (ret_k eD (v:=.tuple #[vv (Vl.mk (numberedV ((addM (Nm.mk ((numericV v).1.nk) ((numericV v).1.nn)) (Nm.mk 0 y)).1) ((addM (Nm.mk ((numericV v).1.nk) ((numericV v).1.nn)) (Nm.mk 0 y)).2)).1 (numberedV ((addM (Nm.mk ((numericV v).1.nk) ((numericV v).1.nn)) (Nm.mk 0 y)).1) ((addM (Nm.mk ((numericV v).1.nk) ((numericV v).1.nn)) (Nm.mk 0 y)).2)).2.1.k (numberedV ((addM (Nm.mk ((numericV v).1.nk) ((numericV v).1.nn)) (Nm.mk 0 y)).1) ((addM (Nm.mk ((numericV v).1.nk) ((numericV v).1.nn)) (Nm.mk 0 y)).2)).2.1.n false [] [] 0) none 0 none 0,iv ((numberedV ((addM (Nm.mk ((numericV v).1.nk) ((numericV v).1.nn)) (Nm.mk 0 y)).1) ((addM (Nm.mk ((numericV v).1.nk) ((numericV v).1.nn)) (Nm.mk 0 y)).2)).2.2)]) (res_ct rfl gf gg (l_agg Tryz.isAgg29 Tryz.sizeOf29 eA rfl)) ?_)
 have ag:(stepV v y).1.mag=[]:=by first|rfl|(simp only [stepV,numV,Vl.z,aa,ab,ac,ae,good_canon (z:=y) (by omega),bsm] <;> rfl)|(exfalso; omega)
 have af:(stepV v y).1.s=[]:=by first|rfl|(simp only [stepV,numV,Vl.z,aa,ab,ac,ae,good_canon (z:=y) (by omega),bsm] <;> rfl)|(exfalso; omega)
 exact⟨none,0,none,0,(by show Ending.returned (.tuple #[vv (Vl.mk (numberedV ((addM (Nm.mk ((numericV v).1.nk) ((numericV v).1.nn)) (Nm.mk 0 y)).1) ((addM (Nm.mk ((numericV v).1.nk) ((numericV v).1.nn)) (Nm.mk 0 y)).2)).1 (numberedV ((addM (Nm.mk ((numericV v).1.nk) ((numericV v).1.nn)) (Nm.mk 0 y)).1) ((addM (Nm.mk ((numericV v).1.nk) ((numericV v).1.nn)) (Nm.mk 0 y)).2)).2.1.k (numberedV ((addM (Nm.mk ((numericV v).1.nk) ((numericV v).1.nn)) (Nm.mk 0 y)).1) ((addM (Nm.mk ((numericV v).1.nk) ((numericV v).1.nn)) (Nm.mk 0 y)).2)).2.1.n false [] [] 0) none 0 none 0,iv ((numberedV ((addM (Nm.mk ((numericV v).1.nk) ((numericV v).1.nn)) (Nm.mk 0 y)).1) ((addM (Nm.mk ((numericV v).1.nk) ((numericV v).1.nn)) (Nm.mk 0 y)).2)).2.2)])=Ending.returned (.tuple #[vv (stepV v y).1 none 0 none 0,iv ((stepV v y).2)]); (first|rfl|(simp only [stepV,numV,Vl.z,aa,ab,ac,ae,ag,af,good_canon (z:=y) (by omega),bsm] <;> rfl)|(exfalso; omega))),(by rw [ag]; exact (SRow.nil _ _)),(by rw [af]; exact (SRow.nil _ _)),eC⟩
 have cX:=oF ac
 refine wp_g0 [true,true,true,true,true,true,true] [] 50
   [ve (iv y),vT,vT,ve (iv y),vT,vT,vT] aZ (.eq (.eq (.eq (.eq (.eq (.eq (.eq (.nil)))))))) ?_ ?_
 exact .m (fun k=>k.fx 1 a5)<| .t (fun _ w hn k=>⟨_,v_bin rfl (k.eq1 0 19 rfl) rfl (fun _=>rfl) (r_neq ab),rfl⟩)<| .m (fun k=>k.eq1 1 20 rfl)<| .gm (fun k=>k.eq1 2 21 rfl) (fun k=>k.fx 1 a5)<| .g (fun k=>k.eq1 2 21 rfl) (fun _ w hn k=>⟨_,v_bin rfl (k.eq1 3 22 rfl) rfl (fun _=>rfl) (r_neq ac),rfl⟩)<| .t (fun _ w hn k=>⟨_,v_pickT rfl (k.eq1 2 21 rfl) (k.eq1 4 23 rfl),rfl⟩)<| .a (fun k=>k.eq1 5 24 rfl) .nil
 refine aftI aZ bP bQ fun iA iB ch eE eF bf bg=>?_
 have iC:=bg.fx 1 a5
 have gh:=bg.fx 4 cE
 have iD:=bg.fx 6 cF
 have gi:=bg.ge 6 18 rfl
 have eG:=bR.new_ bf
 have hz:=bS.new_ bf
 have hA:=bT.new_ bf
 have hC:=bU.new_ bf
 refine st_nil (bV _ _ ?_)
 refine wp_cond_true gi ?_
 refine wp_seq_k fun iE eH=>?_
 refine wp_g0 [true,false,false] [(1,false),(2,true)] 50
   [ve (vv (Vl.mk 0 0 0 false [] [] 0) none 0 none 0),vt,vt] ch (.eq (.tt (.tt (.nil)))) ?_ ?_
 exact .t (fun _ w hn k=>⟨_,v_build (ps:=[]) rfl parts0 (by kernel_rfl),rfl⟩)<| .off<| .off .nil
 refine aftI ch eE eF fun dj iF ci eI eJ eK cj=>?_
 have dk:=cj.fx 4 gh
 have dl:=cj.ge 0 25 rfl
 have eL:=eG.new_ eK
 obtain⟨gj,dm,dn,eM,hD⟩:=s_many (P:=Tryz.prog) (t:=29) (i:=0) z7 Tryz.sizeOf29 rfl rfl rfl eL lb
 have eN:Blk gj a1 29 z7:=dn
 refine st_act rfl rfl fun iG eO=>a_store' rfl dk dl dm (eO _ _ trivial ?_)
 have eP:=eJ.trans eM (fun _ h b=>by subst b; omega)
 refine st_take rfl rfl (y_assign (v:=iv 3) rfl rfl) rfl ?_
 obtain⟨gk,aA⟩:∃ a',a'=dj.put (some 5) (iv 3):=⟨_,rfl⟩
 have hE:=pz aA ci
 have eQ:=pd aA eI
 have gl:=pn aA dk (by decide)
 have iH:=pn aA dl (by decide)
 have gn:gk.eval (.tmp 5)=iv 3:=by rw [aA]; exact put_same _ _ _ (by rw [ci]; decide)
 show stepsTo _ _ _ _ _ (dj.put (some 5) (iv 3)) _
 rw [← aA]
 refine st_nil (eH _ _ ?_)
 refine wp_ret (ret_k eQ (v:=.tuple #[vv (Vl.mk 0 0 0 false [] [] 0) none 0 none 0,iv 3]) (res_ct rfl gl gn (l_agg Tryz.isAgg29 Tryz.sizeOf29 eN rfl)) ?_)
 have ag:(stepV v y).1.mag=[]:=by first|rfl|(simp only [stepV,numV,Vl.z,aa,ab,ac,good_canon (z:=y) (by omega),bsm] <;> rfl)|(exfalso; omega)
 have af:(stepV v y).1.s=[]:=by first|rfl|(simp only [stepV,numV,Vl.z,aa,ab,ac,good_canon (z:=y) (by omega),bsm] <;> rfl)|(exfalso; omega)
 exact⟨none,0,none,0,(by show Ending.returned (.tuple #[vv (Vl.mk 0 0 0 false [] [] 0) none 0 none 0,iv 3])=Ending.returned (.tuple #[vv (stepV v y).1 none 0 none 0,iv ((stepV v y).2)]); (first|rfl|(simp only [stepV,numV,Vl.z,aa,ab,ac,ag,af,good_canon (z:=y) (by omega),bsm] <;> rfl)|(exfalso; omega))),(by rw [ag]; exact (SRow.nil _ _)),(by rw [af]; exact (SRow.nil _ _)),eP⟩
 have dy:=oF aa
 refine wp_g0 [true,true,true] [] 50
   [ve (iv ((numericV v).2)),vT,vT] bw (.eq (.eq (.eq (.nil)))) ?_ ?_
 exact .m (fun k=>k.fx 7 b1)<| .t (fun _ w hn k=>⟨_,v_bin rfl (k.eq1 0 14 rfl) rfl (fun _=>rfl) (r_neq aa),rfl⟩)<| .a (fun k=>k.eq1 1 15 rfl) .nil
 refine aftI bw cB cA fun iI iJ cl eR eS bh aX=>?_
 have iK:=aX.fx 1 e8
 have go:=aX.fx 4 e9
 have iL:=aX.fx 6 fa
 have gp:=aX.fx 7 b1
 have gq:=aX.ge 2 13 rfl
 have eT:=cz.new_ bh
 have hF:=cw.new_ bh
 have hG:=cx.new_ bh
 have hH:=cy.new_ bh
 refine st_nil (cD _ _ ?_)
 refine wp_cond_true gq ?_
 refine wp_seq_k fun iM eU=>?_
 refine wp_g [true,true,false,false] [1] [(2,false),(3,true)] 50
   [ve (vv (Vl.mk 0 0 0 false [] [] 0) none 0 none 0),ve (iv ((numericV v).2)),vt,vt]
   [] newsNil cl (.eq (.eq (.tt (.tt (.nil))))) ?_ ?_ ?_
 refine .t (fun _ w hn k=>⟨_,v_build (ps:=[]) rfl parts0 (by kernel_rfl),rfl⟩) ?_
 refine .o3 ?_
 exact .off<| .off .nil
 intro i h
 simp only [List.contains_eq_mem,List.mem_cons,List.not_mem_nil,or_false,decide_eq_true_eq] at h
 subst h
 exact eager_take rfl rfl fun _ w hn k=>⟨iv ((numericV v).2),fun w=>v_move rfl (k.fx 7 gp),rfl⟩
 refine aftI cl eR eS fun dp iN cm eV eW eX bL=>?_
 have dq:=bL.fx 4 go
 have dr:=bL.ge 0 16 rfl
 have ds:=bL.ge 1 17 rfl
 have eY:=eT.new_ eX
 obtain⟨gr,dt,du,eZ,hI⟩:=s_many (P:=Tryz.prog) (t:=29) (i:=0) z7 Tryz.sizeOf29 rfl rfl rfl eY lb
 have e0:Blk gr a1 29 z7:=du
 refine st_act rfl rfl fun iO e1=>a_store' rfl dq dr dt (e1 _ _ trivial ?_)
 have e2:=eW.trans eZ (fun _ h b=>by subst b; omega)
 refine st_take rfl rfl (y_assign (v:=iv ((numericV v).2)) rfl ds) rfl ?_
 obtain⟨gs,az⟩:∃ a',a'=dp.put (some 5) (iv ((numericV v).2)):=⟨_,rfl⟩
 have hJ:=pz az cm
 have e3:=pd az eV
 have gt:=pn az dq (by decide)
 have iP:=pn az dr (by decide)
 have iQ:=pn az ds (by decide)
 have gu:gs.eval (.tmp 5)=iv ((numericV v).2):=by rw [az]; exact put_same _ _ _ (by rw [cm]; decide)
 show stepsTo _ _ _ _ _ (dp.put (some 5) (iv ((numericV v).2))) _
 rw [← az]
 refine st_nil (eU _ _ ?_)
 refine wp_ret (ret_k e3 (v:=.tuple #[vv (Vl.mk 0 0 0 false [] [] 0) none 0 none 0,iv ((numericV v).2)]) (res_ct rfl gt gu (l_agg Tryz.isAgg29 Tryz.sizeOf29 e0 rfl)) ?_)
 have ag:(stepV v y).1.mag=[]:=by first|rfl|(simp only [stepV,numV,Vl.z,aa,good_canon (z:=y) (by omega),bsm] <;> rfl)|(exfalso; omega)
 have af:(stepV v y).1.s=[]:=by first|rfl|(simp only [stepV,numV,Vl.z,aa,good_canon (z:=y) (by omega),bsm] <;> rfl)|(exfalso; omega)
 exact⟨none,0,none,0,(by show Ending.returned (.tuple #[vv (Vl.mk 0 0 0 false [] [] 0) none 0 none 0,iv ((numericV v).2)])=Ending.returned (.tuple #[vv (stepV v y).1 none 0 none 0,iv ((stepV v y).2)]); (first|rfl|(simp only [stepV,numV,Vl.z,aa,ag,af,good_canon (z:=y) (by omega),bsm] <;> rfl)|(exfalso; omega))),(by rw [ag]; exact (SRow.nil _ _)),(by rw [af]; exact (SRow.nil _ _)),e2⟩
theorem numeric_clean5 (v:Vl):(cleanV (numericV v).1).k ≠ 5:=by
  rw [clean_of (numeric_may v)]
  unfold numericV
  repeat' split
  all_goals (intro h; cases h)
def stepP (v:Vl) (y:Int) (w:World) (en:Ending) (w':World):Prop:=∃ (A:Option Addr) (c:Nat) (B:Option Addr) (d:Nat),en=.returned (.tuple #[vv (stepV v y).1 A c B d,iv (stepV v y).2])∧SRow w' .u32 A (stepV v y).1.mag c∧SRow w' .u16 B (stepV v y).1.s d∧New w w'
theorem stepBPl_l (v:Vl) (A0:Option Addr) (c0:Nat) (B0:Option Addr) (d0:Nat) (A1:Option Addr) (c1:Nat) (B1:Option Addr) (d1:Nat) (w:World) (hm0:SRow w .u32 A0 (numericV v).1.mag c0) (hs0:SRow w .u16 B0 (numericV v).1.s d0) (hm1:SRow w .u32 A1 [1] c1) (hs1:SRow w .u16 B1 [] d1) (hv:VOk v) (h0:(numericV v).2=0) (hk:(numericV v).1.k=4):Calls Tryz.prog 12 #[.string ⟨#[43]⟩,vv (numericV v).1 A0 c0 B0 d0,vv ⟨4,0,0,false,[1],[],0⟩ A1 c1 B1 d1] w (stepP v 1 w):=by
  have h:=binPl_c (numericV v).1 A0 c0 B0 d0 ⟨4,0,0,false,[1],[],0⟩ A1 c1 B1 d1 w hm0 hs0 hm1 hs1 hv.numeric (VOk.big (by omega)) (numeric_clean5 v) (by decide)
  unfold binPl_c_P at h
  rw [(step_big v h0 hk).1] at h
  exact h
theorem stepBMi_l (v:Vl) (A0:Option Addr) (c0:Nat) (B0:Option Addr) (d0:Nat) (A1:Option Addr) (c1:Nat) (B1:Option Addr) (d1:Nat) (w:World) (hm0:SRow w .u32 A0 (numericV v).1.mag c0) (hs0:SRow w .u16 B0 (numericV v).1.s d0) (hm1:SRow w .u32 A1 [1] c1) (hs1:SRow w .u16 B1 [] d1) (hv:VOk v) (h0:(numericV v).2=0) (hk:(numericV v).1.k=4):Calls Tryz.prog 12 #[.string ⟨#[45]⟩,vv (numericV v).1 A0 c0 B0 d0,vv ⟨4,0,0,false,[1],[],0⟩ A1 c1 B1 d1] w (stepP v (-1) w):=by
  have h:=binMi_c (numericV v).1 A0 c0 B0 d0 ⟨4,0,0,false,[1],[],0⟩ A1 c1 B1 d1 w hm0 hs0 hm1 hs1 hv.numeric (VOk.big (by omega))
  unfold binMi_c_P at h
  rw [(step_big v h0 hk).2] at h
  exact h
theorem stepNPl_l (v:Vl) (A0:Option Addr) (c0:Nat) (B0:Option Addr) (d0:Nat) (A1:Option Addr) (c1:Nat) (B1:Option Addr) (d1:Nat) (w:World) (hm0:SRow w .u32 A0 (numericV v).1.mag c0) (hs0:SRow w .u16 B0 (numericV v).1.s d0) (hm1:SRow w .u32 A1 [] c1) (hs1:SRow w .u16 B1 [] d1) (hv:VOk v) (h0:(numericV v).2=0) (hk:(numericV v).1.k ≠ 4):Calls Tryz.prog 12 #[.string ⟨#[43]⟩,vv (numericV v).1 A0 c0 B0 d0,vv ⟨3,0,1,false,[],[],0⟩ A1 c1 B1 d1] w (stepP v 1 w):=by
  have h:=binPl_c (numericV v).1 A0 c0 B0 d0 ⟨3,0,1,false,[],[],0⟩ A1 c1 B1 d1 w hm0 hs0 hm1 hs1 hv.numeric (VOk.whole (by omega) (by omega)) (numeric_clean5 v) (by decide)
  unfold binPl_c_P at h
  rw [(step_num v h0 hk).1] at h
  exact h
theorem stepNMi_l (v:Vl) (A0:Option Addr) (c0:Nat) (B0:Option Addr) (d0:Nat) (A1:Option Addr) (c1:Nat) (B1:Option Addr) (d1:Nat) (w:World) (hm0:SRow w .u32 A0 (numericV v).1.mag c0) (hs0:SRow w .u16 B0 (numericV v).1.s d0) (hm1:SRow w .u32 A1 [] c1) (hs1:SRow w .u16 B1 [] d1) (hv:VOk v) (h0:(numericV v).2=0) (hk:(numericV v).1.k ≠ 4):Calls Tryz.prog 12 #[.string ⟨#[45]⟩,vv (numericV v).1 A0 c0 B0 d0,vv ⟨3,0,1,false,[],[],0⟩ A1 c1 B1 d1] w (stepP v (-1) w):=by
  have h:=binMi_c (numericV v).1 A0 c0 B0 d0 ⟨3,0,1,false,[],[],0⟩ A1 c1 B1 d1 w hm0 hs0 hm1 hs1 hv.numeric (VOk.whole (by omega) (by omega))
  unfold binMi_c_P at h
  rw [(step_num v h0 hk).2] at h
  exact h
theorem osteps_w (v:Vl) (Av:Option Addr) (cv:Nat) (Bv:Option Addr) (dv:Nat) (w:World) (hmv:SRow w .u32 Av v.mag cv) (hsv:SRow w .u16 Bv v.s dv) (hlv:Limbs v.mag) (huv:U16s v.s) (hbv:-9223372036854775808≤v.nn∧v.nn≤9223372036854775807∧-9223372036854775808≤v.ref∧v.ref≤9223372036854775807) (HT:ItoaOk w):Calls Tryz.prog 9 #[vv v Av cv Bv dv] w (IsRet (.bool true) w):=by
 refine enter_abs Tryz.func9 rfl fun a0 eo py hp=>?_
 have eo:a0.tmps.size=103:=eo
 have k4:New w w:=Upd.refl _ _
 have hp0:a0.eval (.tmp 0)=vv v Av cv Bv dv:=hp 0 _ rfl
 refine wp_seq_k fun K1 pA=>?_
 refine wp_g [true,true] [] [] 103
   [IsNew w 29 (c7 v Av cv Bv dv),vF]
   [0] (newsCons (fun v w h=>IsNew.old h) newsNil) eo (.nw (.eq (.nil))) ?_ (fun i h=>by cases h) ?_
 exact .o2 (step_allocN (cs:=(c7 v Av cv Bv dv)) (t:=29) rfl (noG rfl) (fun _ w hn k=>v_box rfl (k.fx 0 hp0) (fun w=>rfl)) (fun q _ hq hb=>⟨q,rfl,hq,hb⟩))<| .t (fun _ w hn k=>⟨_,v_assign rfl rfl,rfl⟩) .nil
 refine aftI eo py k4 fun a2 w3 k5 pB fv sz pC=>?_
 obtain⟨q9,h8,lf,lg⟩:=pC.G 0 1
 have qY:=Nat.le_trans k4.size lf
 refine st_nil (pA _ _ (wp_seq_k fun sA lh=>?_))
 refine wp_seq_k fun sB li=>?_
 refine wp_g0 [true,true] [] 103
   [vT,vF] k5 (.eq (.eq (.nil))) ?_ ?_
 exact .o1 (ck rfl rfl rfl (fun _ w hn k=>⟨#[],rfl,fun _=>by kernel_rfl,first_c _ (HT.up (fv.transNew hn))⟩) fun _=>rfl)<| .t (fun _ w hn k=>⟨_,v_not rfl (k.eq1 0 16 rfl),rfl⟩) .nil
 refine aftI k5 pB fv fun sC sD fw lj d6 lk fy=>?_
 have k6:=fy.fx 1 h8
 have pD:=fy.ge 1 17 rfl
 have fz:=lg.new_ lk
 refine st_nil (li _ _ ?_)
 refine wp_cond_false pD ?_
 refine wp_skip ?_
 refine lh _ _ ?_
 refine wp_seq_k fun sE ll=>?_
 refine wp_seq_k fun sF lm=>?_
 refine wp_g0 [true,true,true] [] 103
   [ve (vv v Av cv Bv dv),ve (.bool (decide ((v.s.length:Int)≤20000) && decide ((v.mag.length:Int)≤40))),ve (.bool (!(decide ((v.s.length:Int)≤20000) && decide ((v.mag.length:Int)≤40))))] fw (.eq (.eq (.eq (.nil)))) ?_ ?_
 exact .t (fun _ w hn k=>⟨_,v_load rfl (k.fx 1 k6) (l_agg Tryz.isAgg29 Tryz.sizeOf29 (fz.new_ hn) rfl),rfl⟩)<| .o1 (ck rfl rfl rfl (fun _ w hn k=>⟨#[vv v Av cv Bv dv],args1 (k.eq1 0 18 rfl),fun _=>by kernel_rfl,few_c v _ _ _ _ _ (hmv.new_ (d6.transNew hn)) (hsv.new_ (d6.transNew hn))⟩) fun _=>rfl)<| .t (fun _ w hn k=>⟨_,v_not rfl (k.eq1 1 19 rfl),rfl⟩) .nil
 refine aftI fw lj d6 fun k7 pE dD fA cQ ln fB=>?_
 have k8:=fB.fx 1 k6
 have k9:=fB.ge 2 20 rfl
 have d7:=fz.new_ ln
 refine st_nil (lm _ _ ?_)
 rcases bc (decide ((v.s.length:Int)≤20000) && decide ((v.mag.length:Int)≤40)) with db|db
 have lo:k7.eval (.tmp 20)=.bool false:=k9.trans (congrArg Value.bool (by rw [db]; rfl))
 refine wp_cond_false lo ?_
 refine wp_skip ?_
 refine ll _ _ ?_
 refine wp_seq_k fun sG lp=>?_
 have hvv:VOk v:=few_ok (v:=v) (by first|exact db|simpa using db) hlv huv hbv.1 hbv.2.1 hbv.2.2.1 hbv.2.2.2
 refine wp_gS (fun W=>True) (fun W W' hn h=>trivial) trivial [true,true,true,true,true,true,false,false] [4] [(6,false),(7,true)] 103
   [ve (vv v Av cv Bv dv),(TP (numericV v).1 ((numericV v).2)),(TP (numericV v).1 ((numericV v).2)),(fun (v_:Value) (W:World)=>∃ (dc:Option Addr) (dd:Nat) (de:Option Addr) (df:Nat),v_=vv (numericV v).1 dc dd de df∧SRow W .u32 dc ((numericV v).1.mag) dd∧SRow W .u16 de ((numericV v).1.s) df),ve (iv ((numericV v).2)),IsNew pE 29 z7,vt,vt]
   [5] (newsCons (fun v w h=>IsNew.old h) newsNil) dD (.eq (.cons (fun _ _ _ n ⟨_,_,_,_,e,h,i⟩=>⟨_,_,_,_,e,h.new_ n,i.new_ n⟩) (.cons (fun _ _ _ n ⟨_,_,_,_,e,h,i⟩=>⟨_,_,_,_,e,h.new_ n,i.new_ n⟩) (.cons (fun _ _ _ n ⟨_,_,_,_,e,h,i⟩=>⟨_,_,_,_,e,h.new_ n,i.new_ n⟩) (.eq (.nw (.tt (.tt (.nil))))))))) ?_ ?_ ?_
 refine .t (fun _ w hn k=>⟨_,v_load rfl (k.fx 1 k8) (l_agg Tryz.isAgg29 Tryz.sizeOf29 (d7.new_ hn) rfl),rfl⟩) ?_
 refine .o1 (tkC rfl (noG rfl) rfl fun _ w hn k=>(by
       refine ⟨#[vv v Av cv Bv dv],_,args1 (k.eq1 0 23 rfl),fun w=>by kernel_rfl,cnumeric_c v _ _ _ _ _ (hmv.new_ (cQ.transNew hn)) (hsv.new_ (cQ.transNew hn)) hvv,?_⟩
       rintro e w' ⟨A1,c2,A3,c4,rfl,hmo0,hmo1,hm⟩
       exact⟨_,rfl,hm,⟨A1,c2,A3,c4,rfl,hmo0,hmo1⟩⟩)) ?_
 refine .o1 (tk rfl rfl fun _ w hn k=>(by
       obtain⟨A9,pF,pG,pH,pI,lq,lr⟩:(TP (numericV v).1 ((numericV v).2)) _ _:=k.dep 1 24 (by kernel_rfl) (by kernel_rfl)
       exact⟨_,v_move rfl pI,⟨A9,pF,pG,pH,rfl,lq,lr⟩⟩)) ?_
 refine .o1 (tk rfl rfl fun _ w hn k=>(by
       obtain⟨pJ,pK,pL,pM,pN,ls,lu⟩:(TP (numericV v).1 ((numericV v).2)) _ _:=k.dep 2 22 (by kernel_rfl) (by kernel_rfl)
       exact⟨_,v_extract rfl pN rfl,⟨pJ,pK,pL,pM,rfl,ls,lu⟩⟩)) ?_
 refine .o3 ?_
 exact .o2 (step_allocN (cs:=z7) (t:=29) rfl (noG rfl) (fun _ w hn k=>rfl) (fun q _ hq hb=>⟨q,rfl,hq,hb⟩))<| .off<| .off .nil
 intro i h
 simp only [List.contains_eq_mem,List.mem_cons,List.not_mem_nil,or_false,decide_eq_true_eq] at h
 subst h
 exact eager_takeG rfl (noG rfl) fun _ w hn k=>(by
     obtain⟨sH,sI,sJ,sK,pO,qZ,q0⟩:(TP (numericV v).1 ((numericV v).2)) _ _:=k.dep 2 22 (by kernel_rfl) (by kernel_rfl)
     exact⟨_,fun w hS=>v_extract rfl pO rfl,rfl⟩)
 intro fC sL _ fD dg
 obtain⟨fE,lv,lw⟩:=aft dg dD fA cQ fD
 have pP:=dg.fx 1 k8
 obtain⟨ai,aM,bA,aN,ep,lx,ly⟩:=dg.G 3 25
 have ep:fC.eval (.tmp 25)=vv (numericV v).1 ai aM bA aN:=ep
 have la:=dg.ge 4 26 rfl
 obtain⟨cD,lc,fF,d8⟩:=dg.G 5 3
 have lz:=d7.new_ fD
 have hne61:q9 ≠ cD:=by have h1:=d7.lt; have h2:=fF; omega
 have q1:=Nat.le_trans cQ.size fF
 obtain⟨ld,gF,gG,d9,lA⟩:=s_many (P:=Tryz.prog) (t:=29) (i:=0) (c7 (numericV v).1 ai aM bA aN) Tryz.sizeOf29 rfl rfl rfl d8 lb
 have fG:Blk ld cD 29 (c7 (numericV v).1 ai aM bA aN):=gG
 refine st_act rfl rfl fun sM lB=>a_store' rfl lc ep gF (lB _ _ trivial ?_)
 have lC:=lx.fr d8 d9
 have lD:=ly.fr d8 d9
 have ea:=lA _ _ _ (hne61) lz
 have dE:=lw.trans d9 (fun _ h b=>by subst b; omega)
 refine st_take rfl rfl (y_assign (v:=iv ((numericV v).2)) rfl la) rfl ?_
 obtain⟨pQ,bB⟩:∃ a',a'=fC.put (some 4) (iv ((numericV v).2)):=⟨_,rfl⟩
 have fH:=pz bB fE
 have lE:=pd bB lv
 have le:=pn bB pP (by decide)
 have sN:=pn bB ep (by decide)
 have sO:=pn bB la (by decide)
 have pR:=pn bB lc (by decide)
 have pS:pQ.eval (.tmp 4)=iv ((numericV v).2):=by rw [bB]; exact put_same _ _ _ (by rw [fE]; decide)
 show stepsTo _ _ _ _ _ (fC.put (some 4) (iv ((numericV v).2))) _
 rw [← bB]
 refine st_nil (lp _ _ (wp_seq_k fun sP lF=>?_))
 refine wp_gS (fun W=>True) (fun W W' hn h=>trivial) trivial [true,true,true,true,true,true,false,false] [4] [(6,false),(7,true)] 103
   [ve (vv v Av cv Bv dv),(TP (stepV v 1).1 ((stepV v 1).2)),(TP (stepV v 1).1 ((stepV v 1).2)),(fun (v_:Value) (W:World)=>∃ (dk:Option Addr) (dl:Nat) (dm:Option Addr) (dn:Nat),v_=vv (stepV v 1).1 dk dl dm dn∧SRow W .u32 dk ((stepV v 1).1.mag) dl∧SRow W .u16 dm ((stepV v 1).1.s) dn),ve (iv ((stepV v 1).2)),IsNew ld 29 z7,vt,vt]
   [5] (newsCons (fun v w h=>IsNew.old h) newsNil) fH (.eq (.cons (fun _ _ _ n ⟨_,_,_,_,e,h,i⟩=>⟨_,_,_,_,e,h.new_ n,i.new_ n⟩) (.cons (fun _ _ _ n ⟨_,_,_,_,e,h,i⟩=>⟨_,_,_,_,e,h.new_ n,i.new_ n⟩) (.cons (fun _ _ _ n ⟨_,_,_,_,e,h,i⟩=>⟨_,_,_,_,e,h.new_ n,i.new_ n⟩) (.eq (.nw (.tt (.tt (.nil))))))))) ?_ ?_ ?_
 refine .t (fun _ w hn k=>⟨_,v_load rfl (k.fx 1 le) (l_agg Tryz.isAgg29 Tryz.sizeOf29 (ea.new_ hn) rfl),rfl⟩) ?_
 refine .o1 (tkC rfl (noG rfl) rfl fun _ w hn k=>(by
       refine ⟨#[vv v Av cv Bv dv,iv 1],_,args2 (k.eq1 0 28 rfl) rfl,fun w=>by kernel_rfl,step_c v _ _ _ _ 1 _ (hmv.new_ (dE.transNew hn)) (hsv.new_ (dE.transNew hn)) hvv (by omega) (by omega),?_⟩
       rintro e w' ⟨pT,pU,pV,pW,rfl,hmo0,hmo1,hm⟩
       exact⟨_,rfl,hm,⟨pT,pU,pV,pW,rfl,hmo0,hmo1⟩⟩)) ?_
 refine .o1 (tk rfl rfl fun _ w hn k=>(by
       obtain⟨pX,pY,pZ,p0,p1,lG,lH⟩:(TP (stepV v 1).1 ((stepV v 1).2)) _ _:=k.dep 1 29 (by kernel_rfl) (by kernel_rfl)
       exact⟨_,v_move rfl p1,⟨pX,pY,pZ,p0,rfl,lG,lH⟩⟩)) ?_
 refine .o1 (tk rfl rfl fun _ w hn k=>(by
       obtain⟨p2,p3,p4,p5,p6,lI,lJ⟩:(TP (stepV v 1).1 ((stepV v 1).2)) _ _:=k.dep 2 27 (by kernel_rfl) (by kernel_rfl)
       exact⟨_,v_extract rfl p6 rfl,⟨p2,p3,p4,p5,rfl,lI,lJ⟩⟩)) ?_
 refine .o3 ?_
 exact .o2 (step_allocN (cs:=z7) (t:=29) rfl (noG rfl) (fun _ w hn k=>rfl) (fun q _ hq hb=>⟨q,rfl,hq,hb⟩))<| .off<| .off .nil
 intro i h
 simp only [List.contains_eq_mem,List.mem_cons,List.not_mem_nil,or_false,decide_eq_true_eq] at h
 subst h
 exact eager_takeG rfl (noG rfl) fun _ w hn k=>(by
     obtain⟨sQ,sR,sS,sT,p7,q2,q3⟩:(TP (stepV v 1).1 ((stepV v 1).2)) _ _:=k.dep 2 27 (by kernel_rfl) (by kernel_rfl)
     exact⟨_,fun w hS=>v_extract rfl p7 rfl,rfl⟩)
 intro fI sU _ dp bK
 obtain⟨fJ,lK,gH⟩:=aft bK fH lE dE dp
 have p8:=bK.fx 1 le
 have p9:=bK.fx 3 pR
 have qa:=bK.fx 4 pS
 obtain⟨aO,bL,dq,bM,er,lL,gI⟩:=bK.G 3 30
 have er:fI.eval (.tmp 30)=vv (stepV v 1).1 aO bL dq bM:=er
 have fK:=bK.ge 4 31 rfl
 obtain⟨aY,fL,dF,cE⟩:=bK.G 5 5
 have gJ:=ea.new_ dp
 have gK:=fG.new_ dp
 have hne108:q9 ≠ aY:=by have h1:=ea.lt; have h2:=dF; omega
 have hne109:cD ≠ aY:=by have h1:=fG.lt; have h2:=dF; omega
 have qk:=Nat.le_trans dE.size dF
 have gL:=lC.new_ dp
 have gM:=lD.new_ dp
 obtain⟨fM,fN,fO,cF,es⟩:=s_many (P:=Tryz.prog) (t:=29) (i:=0) (c7 (stepV v 1).1 aO bL dq bM) Tryz.sizeOf29 rfl rfl rfl cE lb
 have et:Blk fM aY 29 (c7 (stepV v 1).1 aO bL dq bM):=fO
 refine st_act rfl rfl fun q4 gN=>a_store' rfl fL er fN (gN _ _ trivial ?_)
 have gO:=gL.fr cE cF
 have gP:=gM.fr cE cF
 have gQ:=lL.fr cE cF
 have gR:=gI.fr cE cF
 have dG:=es _ _ _ (hne108) gJ
 have eu:=es _ _ _ (hne109) gK
 have cT:=gH.trans cF (fun _ h b=>by subst b; omega)
 refine st_take rfl rfl (y_assign (v:=iv ((stepV v 1).2)) rfl fK) rfl ?_
 obtain⟨lM,ao⟩:∃ a',a'=fI.put (some 6) (iv ((stepV v 1).2)):=⟨_,rfl⟩
 have ev:=pz ao fJ
 have gS:=pd ao lK
 have fP:=pn ao p8 (by decide)
 have lN:=pn ao p9 (by decide)
 have lO:=pn ao qa (by decide)
 have q5:=pn ao er (by decide)
 have q6:=pn ao fK (by decide)
 have lP:=pn ao fL (by decide)
 have lQ:lM.eval (.tmp 6)=iv ((stepV v 1).2):=by rw [ao]; exact put_same _ _ _ (by rw [fJ]; decide)
 show stepsTo _ _ _ _ _ (fI.put (some 6) (iv ((stepV v 1).2))) _
 rw [← ao]
 refine st_nil (lF _ _ (wp_seq_k fun q7 gT=>?_))
 refine wp_gS (fun W=>True) (fun W W' hn h=>trivial) trivial [true,true,true,true,true,true,false,false] [4] [(6,false),(7,true)] 103
   [ve (vv v Av cv Bv dv),(TP (stepV v (-1)).1 ((stepV v (-1)).2)),(TP (stepV v (-1)).1 ((stepV v (-1)).2)),(fun (v_:Value) (W:World)=>∃ (bN:Option Addr) (bO:Nat) (bP:Option Addr) (bQ:Nat),v_=vv (stepV v (-1)).1 bN bO bP bQ∧SRow W .u32 bN ((stepV v (-1)).1.mag) bO∧SRow W .u16 bP ((stepV v (-1)).1.s) bQ),ve (iv ((stepV v (-1)).2)),IsNew fM 29 z7,vt,vt]
   [5] (newsCons (fun v w h=>IsNew.old h) newsNil) ev (.eq (.cons (fun _ _ _ n ⟨_,_,_,_,e,h,i⟩=>⟨_,_,_,_,e,h.new_ n,i.new_ n⟩) (.cons (fun _ _ _ n ⟨_,_,_,_,e,h,i⟩=>⟨_,_,_,_,e,h.new_ n,i.new_ n⟩) (.cons (fun _ _ _ n ⟨_,_,_,_,e,h,i⟩=>⟨_,_,_,_,e,h.new_ n,i.new_ n⟩) (.eq (.nw (.tt (.tt (.nil))))))))) ?_ ?_ ?_
 refine .t (fun _ w hn k=>⟨_,v_load rfl (k.fx 1 fP) (l_agg Tryz.isAgg29 Tryz.sizeOf29 (dG.new_ hn) rfl),rfl⟩) ?_
 refine .o1 (tkC rfl (noG rfl) rfl fun _ w hn k=>(by
       refine ⟨#[vv v Av cv Bv dv,iv (-1)],_,args2 (k.eq1 0 33 rfl) rfl,fun w=>by kernel_rfl,step_c v _ _ _ _ (-1) _ (hmv.new_ (cT.transNew hn)) (hsv.new_ (cT.transNew hn)) hvv (by omega) (by omega),?_⟩
       rintro e w' ⟨qb,qc,qd,qe,rfl,hmo0,hmo1,hm⟩
       exact⟨_,rfl,hm,⟨qb,qc,qd,qe,rfl,hmo0,hmo1⟩⟩)) ?_
 refine .o1 (tk rfl rfl fun _ w hn k=>(by
       obtain⟨qf,qg,qh,lR,lS,gU,gV⟩:(TP (stepV v (-1)).1 ((stepV v (-1)).2)) _ _:=k.dep 1 34 (by kernel_rfl) (by kernel_rfl)
       exact⟨_,v_move rfl lS,⟨qf,qg,qh,lR,rfl,gU,gV⟩⟩)) ?_
 refine .o1 (tk rfl rfl fun _ w hn k=>(by
       obtain⟨lT,lU,lV,lW,lX,gW,gX⟩:(TP (stepV v (-1)).1 ((stepV v (-1)).2)) _ _:=k.dep 2 32 (by kernel_rfl) (by kernel_rfl)
       exact⟨_,v_extract rfl lX rfl,⟨lT,lU,lV,lW,rfl,gW,gX⟩⟩)) ?_
 refine .o3 ?_
 exact .o2 (step_allocN (cs:=z7) (t:=29) rfl (noG rfl) (fun _ w hn k=>rfl) (fun q _ hq hb=>⟨q,rfl,hq,hb⟩))<| .off<| .off .nil
 intro i h
 simp only [List.contains_eq_mem,List.mem_cons,List.not_mem_nil,or_false,decide_eq_true_eq] at h
 subst h
 exact eager_takeG rfl (noG rfl) fun _ w hn k=>(by
     obtain⟨q8,ra,rb,rc,lY,ql,qm⟩:(TP (stepV v (-1)).1 ((stepV v (-1)).2)) _ _:=k.dep 2 32 (by kernel_rfl) (by kernel_rfl)
     exact⟨_,fun w hS=>v_extract rfl lY rfl,rfl⟩)
 intro eb rd _ aQ az
 obtain⟨ew,gY,gZ⟩:=aft az ev gS cT aQ
 have lZ:=az.fx 1 fP
 have l0:=az.fx 3 lN
 have l1:=az.fx 4 lO
 have l2:=az.fx 5 lP
 have l3:=az.fx 6 lQ
 obtain⟨br,bs,bR,bt,dH,g0,g1⟩:=az.G 3 35
 have dH:eb.eval (.tmp 35)=vv (stepV v (-1)).1 br bs bR bt:=dH
 have fQ:=az.ge 4 36 rfl
 obtain⟨a5,fR,cU,bu⟩:=az.G 5 7
 have g2:=dG.new_ aQ
 have g3:=eu.new_ aQ
 have g4:=et.new_ aQ
 have hne166:q9 ≠ a5:=by have h1:=dG.lt; have h2:=cU; omega
 have hne167:cD ≠ a5:=by have h1:=eu.lt; have h2:=cU; omega
 have hne168:aY ≠ a5:=by have h1:=et.lt; have h2:=cU; omega
 have qn:=Nat.le_trans cT.size cU
 have g5:=gO.new_ aQ
 have g6:=gP.new_ aQ
 have g7:=gQ.new_ aQ
 have g8:=gR.new_ aQ
 obtain⟨fS,fT,fU,bv,dI⟩:=s_many (P:=Tryz.prog) (t:=29) (i:=0) (c7 (stepV v (-1)).1 br bs bR bt) Tryz.sizeOf29 rfl rfl rfl bu lb
 have ex:Blk fS a5 29 (c7 (stepV v (-1)).1 br bs bR bt):=fU
 refine st_act rfl rfl fun re g9=>a_store' rfl fR dH fT (g9 _ _ trivial ?_)
 have ha:=g5.fr bu bv
 have hc:=g6.fr bu bv
 have hd:=g7.fr bu bv
 have hf:=g8.fr bu bv
 have hg:=g0.fr bu bv
 have hh:=g1.fr bu bv
 have hi:=dI _ _ _ (hne166) g2
 have ey:=dI _ _ _ (hne167) g3
 have ez:=dI _ _ _ (hne168) g4
 have cV:=gZ.trans bv (fun _ h b=>by subst b; omega)
 refine st_take rfl rfl (y_assign (v:=iv ((stepV v (-1)).2)) rfl fQ) rfl ?_
 obtain⟨l4,ag⟩:∃ a',a'=eb.put (some 8) (iv ((stepV v (-1)).2)):=⟨_,rfl⟩
 have eA:=pz ag ew
 have hj:=pd ag gY
 have l5:=pn ag lZ (by decide)
 have l6:=pn ag l0 (by decide)
 have l7:=pn ag l1 (by decide)
 have l8:=pn ag l2 (by decide)
 have l9:=pn ag l3 (by decide)
 have rf:=pn ag dH (by decide)
 have rg:=pn ag fQ (by decide)
 have ma:=pn ag fR (by decide)
 have mb:l4.eval (.tmp 8)=iv ((stepV v (-1)).2):=by rw [ag]; exact put_same _ _ _ (by rw [ew]; decide)
 show stepsTo _ _ _ _ _ (eb.put (some 8) (iv ((stepV v (-1)).2))) _
 rw [← ag]
 refine st_nil (gT _ _ (wp_seq_k fun rh hl=>?_))
 refine wp_gS (fun W=>True) (fun W W' hn h=>trivial) trivial [true,true,true,true,true,true,false,false] [4] [(6,false),(7,true)] 103
   [ve (vv v Av cv Bv dv),(TP (stepV v 0).1 ((stepV v 0).2)),(TP (stepV v 0).1 ((stepV v 0).2)),(fun (v_:Value) (W:World)=>∃ (bW:Option Addr) (bX:Nat) (bY:Option Addr) (bZ:Nat),v_=vv (stepV v 0).1 bW bX bY bZ∧SRow W .u32 bW ((stepV v 0).1.mag) bX∧SRow W .u16 bY ((stepV v 0).1.s) bZ),ve (iv ((stepV v 0).2)),IsNew fS 29 z7,vt,vt]
   [5] (newsCons (fun v w h=>IsNew.old h) newsNil) eA (.eq (.cons (fun _ _ _ n ⟨_,_,_,_,e,h,i⟩=>⟨_,_,_,_,e,h.new_ n,i.new_ n⟩) (.cons (fun _ _ _ n ⟨_,_,_,_,e,h,i⟩=>⟨_,_,_,_,e,h.new_ n,i.new_ n⟩) (.cons (fun _ _ _ n ⟨_,_,_,_,e,h,i⟩=>⟨_,_,_,_,e,h.new_ n,i.new_ n⟩) (.eq (.nw (.tt (.tt (.nil))))))))) ?_ ?_ ?_
 refine .t (fun _ w hn k=>⟨_,v_load rfl (k.fx 1 l5) (l_agg Tryz.isAgg29 Tryz.sizeOf29 (hi.new_ hn) rfl),rfl⟩) ?_
 refine .o1 (tkC rfl (noG rfl) rfl fun _ w hn k=>(by
       refine ⟨#[vv v Av cv Bv dv,iv 0],_,args2 (k.eq1 0 38 rfl) rfl,fun w=>by kernel_rfl,step_c v _ _ _ _ 0 _ (hmv.new_ (cV.transNew hn)) (hsv.new_ (cV.transNew hn)) hvv (by omega) (by omega),?_⟩
       rintro e w' ⟨mc,md,me,mf,rfl,hmo0,hmo1,hm⟩
       exact⟨_,rfl,hm,⟨mc,md,me,mf,rfl,hmo0,hmo1⟩⟩)) ?_
 refine .o1 (tk rfl rfl fun _ w hn k=>(by
       obtain⟨mg,mh,mi,mj,ml,ho,hr⟩:(TP (stepV v 0).1 ((stepV v 0).2)) _ _:=k.dep 1 39 (by kernel_rfl) (by kernel_rfl)
       exact⟨_,v_move rfl ml,⟨mg,mh,mi,mj,rfl,ho,hr⟩⟩)) ?_
 refine .o1 (tk rfl rfl fun _ w hn k=>(by
       obtain⟨br,mm,mn,mo,mp,hs,ht⟩:(TP (stepV v 0).1 ((stepV v 0).2)) _ _:=k.dep 2 37 (by kernel_rfl) (by kernel_rfl)
       exact⟨_,v_extract rfl mp rfl,⟨br,mm,mn,mo,rfl,hs,ht⟩⟩)) ?_
 refine .o3 ?_
 exact .o2 (step_allocN (cs:=z7) (t:=29) rfl (noG rfl) (fun _ w hn k=>rfl) (fun q _ hq hb=>⟨q,rfl,hq,hb⟩))<| .off<| .off .nil
 intro i h
 simp only [List.contains_eq_mem,List.mem_cons,List.not_mem_nil,or_false,decide_eq_true_eq] at h
 subst h
 exact eager_takeG rfl (noG rfl) fun _ w hn k=>(by
     obtain⟨ri,rj,rk,rl,mq,qo,qp⟩:(TP (stepV v 0).1 ((stepV v 0).2)) _ _:=k.dep 2 37 (by kernel_rfl) (by kernel_rfl)
     exact⟨_,fun w hS=>v_extract rfl mq rfl,rfl⟩)
 intro ec rm _ ap aq
 obtain⟨eB,hu,hv⟩:=aft aq eA hj cV ap
 have mr:=aq.fx 3 l6
 have ms:=aq.fx 4 l7
 have mt:=aq.fx 5 l8
 have mu:=aq.fx 6 l9
 have mv:=aq.fx 7 ma
 have mw:=aq.fx 8 mb
 obtain⟨aP,dJ,ed,dK,dL,hw,hx⟩:=aq.G 3 40
 have dL:ec.eval (.tmp 40)=vv (stepV v 0).1 aP dJ ed dK:=dL
 have fV:=aq.ge 4 41 rfl
 obtain⟨dM,fW,cW,aA⟩:=aq.G 5 9
 have hy:=ey.new_ ap
 have hz:=ez.new_ ap
 have hA:=ex.new_ ap
 have hne233:cD ≠ dM:=by have h1:=ey.lt; have h2:=cW; omega
 have hne234:aY ≠ dM:=by have h1:=ez.lt; have h2:=cW; omega
 have hne235:a5 ≠ dM:=by have h1:=ex.lt; have h2:=cW; omega
 have qq:=Nat.le_trans cV.size cW
 have hC:=ha.new_ ap
 have hD:=hc.new_ ap
 have hE:=hd.new_ ap
 have hF:=hf.new_ ap
 have hG:=hg.new_ ap
 have hH:=hh.new_ ap
 obtain⟨mx,fX,fY,aB,dN⟩:=s_many (P:=Tryz.prog) (t:=29) (i:=0) (c7 (stepV v 0).1 aP dJ ed dK) Tryz.sizeOf29 rfl rfl rfl aA lb
 have qr:Blk mx dM 29 (c7 (stepV v 0).1 aP dJ ed dK):=fY
 refine st_act rfl rfl fun rn hI=>a_store' rfl fW dL fX (hI _ _ trivial ?_)
 have eC:=hC.fr aA aB
 have eD:=hD.fr aA aB
 have eE:=hE.fr aA aB
 have eF:=hF.fr aA aB
 have eG:=hG.fr aA aB
 have eH:=hH.fr aA aB
 have qs:=hw.fr aA aB
 have qt:=hx.fr aA aB
 have eI:=dN _ _ _ (hne233) hy
 have eJ:=dN _ _ _ (hne234) hz
 have eK:=dN _ _ _ (hne235) hA
 have eL:=hv.trans aB (fun _ h b=>by subst b; omega)
 refine st_take rfl rfl (y_assign (v:=iv ((stepV v 0).2)) rfl fV) rfl ?_
 obtain⟨my,af⟩:∃ a',a'=ec.put (some 10) (iv ((stepV v 0).2)):=⟨_,rfl⟩
 have cX:=pz af eB
 have eM:=pd af hu
 have fZ:=pn af mr (by decide)
 have dO:=pn af ms (by decide)
 have f0:=pn af mt (by decide)
 have f1:=pn af mu (by decide)
 have f2:=pn af mv (by decide)
 have f3:=pn af mw (by decide)
 have ro:=pn af dL (by decide)
 have rp:=pn af fV (by decide)
 have rq:=pn af fW (by decide)
 have f4:my.eval (.tmp 10)=iv ((stepV v 0).2):=by rw [af]; exact put_same _ _ _ (by rw [eB]; decide)
 show stepsTo _ _ _ _ _ (ec.put (some 10) (iv ((stepV v 0).2))) _
 rw [← af]
 refine st_nil (hl _ _ (wp_seq_k fun rr hJ=>?_))
 refine wp_seq_k fun rs eN=>?_
 rcases bc (decide (((numericV v).2)=0)) with aa|aa
 have f5:=oT aa
 refine wp_g0 [true,true] [] 103
   [ve (iv ((numericV v).2)),vF] cX (.eq (.eq (.nil))) ?_ ?_
 exact .m (fun k=>k.fx 4 dO)<| .t (fun _ w hn k=>⟨_,v_bin rfl (k.eq1 0 42 rfl) rfl (fun _=>rfl) (r_neq aa),rfl⟩) .nil
 refine aftI cX eM eL fun rt mz eO hK eP aC aR=>?_
 have mA:=aR.fx 3 fZ
 have ru:=aR.fx 4 dO
 have mB:=aR.fx 5 f0
 have mC:=aR.fx 6 f1
 have mD:=aR.fx 7 f2
 have mE:=aR.fx 8 f3
 have mF:=aR.fx 10 f4
 have mG:=aR.ge 1 43 rfl
 have eQ:=eI.new_ aC
 have eR:=eJ.new_ aC
 have eS:=eK.new_ aC
 have hL:=eC.new_ aC
 have hM:=eD.new_ aC
 have hN:=eE.new_ aC
 have hO:=eF.new_ aC
 have hP:=eG.new_ aC
 have hQ:=eH.new_ aC
 refine st_nil (eN _ _ ?_)
 refine wp_cond_false mG ?_
 refine wp_skip ?_
 refine hJ _ _ ?_
 refine wp_seq_k fun rv hR=>?_
 refine wp_g [true,true,false] [] [(2,false)] 103
   [ve (vv (Vl.mk 3 0 1 false [] [] 0) none 0 none 0),IsNew mz 29 z7,vt]
   [1] (newsCons (fun v w h=>IsNew.old h) newsNil) eO (.eq (.nw (.tt (.nil)))) ?_ (fun i h=>by cases h) ?_
 exact .o1 (ck rfl rfl rfl (fun _ w hn k=>⟨#[iv 1],args1 rfl,fun _=>by kernel_rfl,owhole_c 1 _ ⟩) fun _=>rfl)<| .o2 (step_allocN (cs:=z7) (t:=29) rfl (noG rfl) (fun _ w hn k=>rfl) (fun q _ hq hb=>⟨q,rfl,hq,hb⟩))<| .off .nil
 refine aftI eO hK eP fun rx ry eT hT hU aD aS=>?_
 have f6:=aS.fx 3 mA
 have mH:=aS.fx 5 mB
 have mI:=aS.fx 6 mC
 have mJ:=aS.fx 7 mD
 have mK:=aS.fx 8 mE
 have mL:=aS.fx 10 mF
 have mM:=aS.ge 0 60 rfl
 obtain⟨b0,f7,cY,bw⟩:=aS.G 1 11
 have hV:=eQ.new_ aD
 have hW:=eR.new_ aD
 have hX:=eS.new_ aD
 have hne325:cD ≠ b0:=by have h1:=eQ.lt; have h2:=cY; omega
 have hne326:aY ≠ b0:=by have h1:=eR.lt; have h2:=cY; omega
 have hne327:a5 ≠ b0:=by have h1:=eS.lt; have h2:=cY; omega
 have qu:=Nat.le_trans eP.size cY
 have hY:=hL.new_ aD
 have hZ:=hM.new_ aD
 have h3:=hN.new_ aD
 have h4:=hO.new_ aD
 have h5:=hP.new_ aD
 have h6:=hQ.new_ aD
 obtain⟨mN,f8,f9,bx,dP⟩:=s_many (P:=Tryz.prog) (t:=29) (i:=0) [iv 3,iv 0,iv 1,.bool false,sv none ([]) 0,sv none ([]) 0,iv 0] Tryz.sizeOf29 rfl rfl rfl bw lb
 have h7:Blk mN b0 29 [iv 3,iv 0,iv 1,.bool false,sv none ([]) 0,sv none ([]) 0,iv 0]:=f9
 refine st_act rfl rfl fun rz h9=>a_store' rfl f7 mM f8 (h9 _ _ trivial ?_)
 have ia:=hY.fr bw bx
 have ib:=hZ.fr bw bx
 have ic:=h3.fr bw bx
 have id:=h4.fr bw bx
 have ie:=h5.fr bw bx
 have ig:=h6.fr bw bx
 have eU:=dP _ _ _ (hne325) hV
 have ih:=dP _ _ _ (hne326) hW
 have ii:=dP _ _ _ (hne327) hX
 have ij:=hU.trans bx (fun _ h b=>by subst b; omega)
 refine st_nil (hR _ _ (wp_seq_k fun rA eV=>?_))
 refine wp_seq_k fun rB ik=>?_
 refine wp_g0 [true,true,true] [] 103
   [ve (pv cD),ve (iv ((numericV v).1.k)),ve (.bool (decide (((numericV v).1.k)=4)))] eT (.eq (.eq (.eq (.nil)))) ?_ ?_
 exact .f (fun k=>k.fx 3 f6)<| .t (fun _ w hn k=>⟨_,v_load rfl (k.eq1 0 61 rfl) (l_one Tryz.isAgg3 ((eU.new_ hn).cell 0)),rfl⟩)<| .t (fun _ w hn k=>⟨_,v_bin rfl (k.eq1 1 62 rfl) rfl (fun _=>rfl) (r_eql rfl),rfl⟩) .nil
 refine aftI eT hT ij fun rC ee cZ eW dQ ar aT=>?_
 have ef:=aT.fx 3 f6
 have ga:=aT.fx 5 mH
 have gb:=aT.fx 6 mI
 have gc:=aT.fx 7 mJ
 have gd:=aT.fx 8 mK
 have gf:=aT.fx 10 mL
 have eg:=aT.fx 11 f7
 have gg:=aT.ge 2 63 rfl
 have c0:=eU.new_ ar
 have dR:=ih.new_ ar
 have dS:=ii.new_ ar
 have c1:=h7.new_ ar
 have dT:=ia.new_ ar
 have dU:=ib.new_ ar
 have eX:=ic.new_ ar
 have eY:=id.new_ ar
 have eZ:=ie.new_ ar
 have e0:=ig.new_ ar
 refine st_nil (ik _ _ ?_)
 rcases bc (decide (((numericV v).1.k)=4)) with aE|aE
 have gh:=oT aE
 have il:=hB gg aE
 refine wp_cond_true il ?_
 refine wp_g0 [true,true,false] [(2,false)] 103
   [(OP ee.heap.size 56 .u32 ([1])),(fun (v_:Value) (W:World)=>∃ (b1:Option Addr) (b2:Nat),v_=vv (Vl.mk 4 0 0 false [1] [] 0) b1 b2 none 0∧SRow W .u32 b1 ([1]) b2),vt] cZ (.cons (fun _ _ _ n ⟨_,_,e,h⟩=>⟨_,_,e,h.new_ n⟩) (.cons (fun _ _ _ n ⟨_,_,e,h⟩=>⟨_,_,e,h.new_ n⟩) (.tt (.nil)))) ?_ ?_
 refine .o1 (tkA rfl (noG rfl) fun _ w hn k=>(by
       exact x_bslice (k:=.u32) (ps:=[(0,.int .u32 1)]) [1] rfl (parts1 rfl) elW rfl (by omega) (by omega) (by first|kernel_rfl|(simp only [enc,List.map_cons,List.map_nil,Int.toNat_natCast,Int.toNat_of_nonneg (by omega:(0:Int)≤_)]; kernel_rfl)) fun mQ mR W' hmo=>⟨mQ,mR,rfl,(hmo.more hn.size)⟩)) ?_
 refine .o1 (tkC rfl (noG rfl) rfl fun _ w hn k=>(by
       obtain⟨mS,mT,mU,im⟩:(OP ee.heap.size 56 .u32 ([1])) _ _:=k.dep 0 64 (by kernel_rfl) (by kernel_rfl)
       refine ⟨#[sv mS ([1]) mT],_,args1 mU,fun w=>by kernel_rfl,obig_c _ ([1]) _ _ im.row,?_⟩
       rintro e w' ⟨mV,mW,rfl,hmo0,hm⟩
       exact⟨_,rfl,hm,⟨mV,mW,rfl,hmo0⟩⟩)) ?_
 exact .off .nil
 refine aftI cZ eW dQ fun mX rD e1 io ip au aU=>?_
 have gi:=aU.fx 3 ef
 have mY:=aU.fx 5 ga
 have mZ:=aU.fx 6 gb
 have m0:=aU.fx 7 gc
 have m1:=aU.fx 8 gd
 have m2:=aU.fx 10 gf
 have eh:=aU.fx 11 eg
 obtain⟨b3,bz,ei,iq⟩:=aU.G 1 65
 have ei:mX.eval (.tmp 65)=vv (Vl.mk 4 0 0 false [1] [] 0) b3 bz none 0:=ei
 have ir:=c0.new_ au
 have it:=dR.new_ au
 have iu:=dS.new_ au
 have aV:=c1.new_ au
 have iw:=dT.new_ au
 have ix:=dU.new_ au
 have iy:=eX.new_ au
 have iz:=eY.new_ au
 have iA:=eZ.new_ au
 have iB:=e0.new_ au
 obtain⟨gj,gk,gl,aW,dV⟩:=s_many (P:=Tryz.prog) (t:=29) (i:=0) [iv 4,iv 0,iv 0,.bool false,sv b3 ([1]) bz,sv none ([]) 0,iv 0] Tryz.sizeOf29 rfl rfl rfl aV lb
 have dW:Blk gj b0 29 [iv 4,iv 0,iv 0,.bool false,sv b3 ([1]) bz,sv none ([]) 0,iv 0]:=gl
 refine st_act rfl rfl fun rE iC=>a_store' rfl eh ei gk (iC _ _ trivial ?_)
 have e2:=iw.fr aV aW
 have e3:=ix.fr aV aW
 have iD:=iy.fr aV aW
 have iE:=iz.fr aV aW
 have iF:=iA.fr aV aW
 have iG:=iB.fr aV aW
 have e4:=iq.fr aV aW
 have dX:=dV _ _ _ (hne325) ir
 have e5:=dV _ _ _ (hne326) it
 have e6:=dV _ _ _ (hne327) iu
 have e7:=ip.trans aW (fun _ h b=>by subst b; omega)
 refine st_nil (eV _ _ (wp_seq_k fun rF iH=>?_))
 refine wp_gS (fun W=>True) (fun W W' hn h=>trivial) trivial [true,true,true,true,true,true,true,false,false] [5] [(7,false),(8,true)] 103
   [ve (vv (numericV v).1 ai aM bA aN),ve (vv (Vl.mk 4 0 0 false [1] [] 0) b3 bz none 0),(TP (stepV v 1).1 ((stepV v 1).2)),(TP (stepV v 1).1 ((stepV v 1).2)),(fun (v_:Value) (W:World)=>∃ (aP:Option Addr) (b8:Nat) (b9:Option Addr) (ca:Nat),v_=vv (stepV v 1).1 aP b8 b9 ca∧SRow W .u32 aP ((stepV v 1).1.mag) b8∧SRow W .u16 b9 ((stepV v 1).1.s) ca),ve (iv ((stepV v 1).2)),IsNew gj 29 z7,vt,vt]
   [6] (newsCons (fun v w h=>IsNew.old h) newsNil) e1 (.eq (.eq (.cons (fun _ _ _ n ⟨_,_,_,_,e,h,i⟩=>⟨_,_,_,_,e,h.new_ n,i.new_ n⟩) (.cons (fun _ _ _ n ⟨_,_,_,_,e,h,i⟩=>⟨_,_,_,_,e,h.new_ n,i.new_ n⟩) (.cons (fun _ _ _ n ⟨_,_,_,_,e,h,i⟩=>⟨_,_,_,_,e,h.new_ n,i.new_ n⟩) (.eq (.nw (.tt (.tt (.nil)))))))))) ?_ ?_ ?_
 refine .t (fun _ w hn k=>⟨_,v_load rfl (k.fx 3 gi) (l_agg Tryz.isAgg29 Tryz.sizeOf29 (dX.new_ hn) rfl),rfl⟩)<| .t (fun _ w hn k=>⟨_,v_load rfl (k.fx 11 eh) (l_agg Tryz.isAgg29 Tryz.sizeOf29 (dW.new_ hn) rfl),rfl⟩) ?_
 refine .o1 (tkC rfl (noG rfl) rfl fun _ w hn k=>(by
       refine ⟨#[.string ⟨#[43]⟩,vv (numericV v).1 ai aM bA aN,vv (Vl.mk 4 0 0 false [1] [] 0) b3 bz none 0],_,args3 rfl (k.eq1 0 67 rfl) (k.eq1 1 68 rfl),fun w=>by kernel_rfl,stepBPl_l v _ _ _ _ _ _ _ _ _ (e2.new_ hn) (e3.new_ hn) (e4.new_ hn) (SRow.nil _ _) hvv (oT aa) (oT aE),?_⟩
       rintro e w' ⟨m3,m4,m5,m6,rfl,hmo0,hmo1,hm⟩
       exact⟨_,rfl,hm,⟨m3,m4,m5,m6,rfl,hmo0,hmo1⟩⟩)) ?_
 refine .o1 (tk rfl rfl fun _ w hn k=>(by
       obtain⟨m7,m8,m9,na,nb,iI,iJ⟩:(TP (stepV v 1).1 ((stepV v 1).2)) _ _:=k.dep 2 69 (by kernel_rfl) (by kernel_rfl)
       exact⟨_,v_move rfl nb,⟨m7,m8,m9,na,rfl,iI,iJ⟩⟩)) ?_
 refine .o1 (tk rfl rfl fun _ w hn k=>(by
       obtain⟨nc,nd,ne,nf,ng,iK,iL⟩:(TP (stepV v 1).1 ((stepV v 1).2)) _ _:=k.dep 3 66 (by kernel_rfl) (by kernel_rfl)
       exact⟨_,v_extract rfl ng rfl,⟨nc,nd,ne,nf,rfl,iK,iL⟩⟩)) ?_
 refine .o3 ?_
 exact .o2 (step_allocN (cs:=z7) (t:=29) rfl (noG rfl) (fun _ w hn k=>rfl) (fun q _ hq hb=>⟨q,rfl,hq,hb⟩))<| .off<| .off .nil
 intro i h
 simp only [List.contains_eq_mem,List.mem_cons,List.not_mem_nil,or_false,decide_eq_true_eq] at h
 subst h
 exact eager_takeG rfl (noG rfl) fun _ w hn k=>(by
     obtain⟨rG,rH,rI,rJ,nh,qv,qw⟩:(TP (stepV v 1).1 ((stepV v 1).2)) _ _:=k.dep 3 66 (by kernel_rfl) (by kernel_rfl)
     exact⟨_,fun w hS=>v_extract rfl nh rfl,rfl⟩)
 intro ej rK _ ah aj
 obtain⟨e8,iM,iN⟩:=aft aj e1 io e7 ah
 have ni:=aj.fx 3 gi
 have nj:=aj.fx 5 mY
 have nl:=aj.fx 6 mZ
 have nm:=aj.fx 7 m0
 have np:=aj.fx 8 m1
 have nq:=aj.fx 10 m2
 have nr:=aj.fx 11 eh
 obtain⟨du,cG,dw,cH,dY,iO,iP⟩:=aj.G 4 70
 have dY:ej.eval (.tmp 70)=vv (stepV v 1).1 du cG dw cH:=dY
 have gn:=aj.ge 5 71 rfl
 obtain⟨cR,go,cI,av⟩:=aj.G 6 12
 have iQ:=dX.new_ ah
 have iR:=e5.new_ ah
 have iS:=e6.new_ ah
 have iT:=dW.new_ ah
 have hne458:cD ≠ cR:=by have h1:=dX.lt; have h2:=cI; omega
 have hne459:aY ≠ cR:=by have h1:=e5.lt; have h2:=cI; omega
 have hne460:a5 ≠ cR:=by have h1:=e6.lt; have h2:=cI; omega
 have hne461:b0 ≠ cR:=by have h1:=dW.lt; have h2:=cI; omega
 have qx:=Nat.le_trans e7.size cI
 have iU:=e2.new_ ah
 have iV:=e3.new_ ah
 have iW:=iD.new_ ah
 have iX:=iE.new_ ah
 have iY:=iF.new_ ah
 have iZ:=iG.new_ ah
 have i0:=e4.new_ ah
 obtain⟨gp,gq,gr,aw,c3⟩:=s_many (P:=Tryz.prog) (t:=29) (i:=0) (c7 (stepV v 1).1 du cG dw cH) Tryz.sizeOf29 rfl rfl rfl av lb
 have e9:Blk gp cR 29 (c7 (stepV v 1).1 du cG dw cH):=gr
 refine st_act rfl rfl fun rL i1=>a_store' rfl go dY gq (i1 _ _ trivial ?_)
 have i2:=iU.fr av aw
 have i3:=iV.fr av aw
 have i4:=iW.fr av aw
 have i5:=iX.fr av aw
 have i6:=iY.fr av aw
 have i7:=iZ.fr av aw
 have i8:=i0.fr av aw
 have i9:=iO.fr av aw
 have ja:=iP.fr av aw
 have jb:=c3 _ _ _ (hne458) iQ
 have fa:=c3 _ _ _ (hne459) iR
 have fb:=c3 _ _ _ (hne460) iS
 have jc:=c3 _ _ _ (hne461) iT
 have fc:=iN.trans aw (fun _ h b=>by subst b; omega)
 refine st_take rfl rfl (y_assign (v:=iv ((stepV v 1).2)) rfl gn) rfl ?_
 obtain⟨ns,ab⟩:∃ a',a'=ej.put (some 13) (iv ((stepV v 1).2)):=⟨_,rfl⟩
 have fd:=pz ab e8
 have jd:=pd ab iM
 have nt:=pn ab ni (by decide)
 have nu:=pn ab nj (by decide)
 have nx:=pn ab nl (by decide)
 have ny:=pn ab nm (by decide)
 have nz:=pn ab np (by decide)
 have nA:=pn ab nq (by decide)
 have nB:=pn ab nr (by decide)
 have rM:=pn ab dY (by decide)
 have rN:=pn ab gn (by decide)
 have nC:=pn ab go (by decide)
 have nD:ns.eval (.tmp 13)=iv ((stepV v 1).2):=by rw [ab]; exact put_same _ _ _ (by rw [e8]; decide)
 show stepsTo _ _ _ _ _ (ej.put (some 13) (iv ((stepV v 1).2))) _
 rw [← ab]
 refine st_nil (iH _ _ (wp_seq_k fun rO je=>?_))
 refine wp_gS (fun W=>True) (fun W W' hn h=>trivial) trivial [true,true,true,true,true,true,true,false,false] [5] [(7,false),(8,true)] 103
   [ve (vv (numericV v).1 ai aM bA aN),ve (vv (Vl.mk 4 0 0 false [1] [] 0) b3 bz none 0),(TP (stepV v (-1)).1 ((stepV v (-1)).2)),(TP (stepV v (-1)).1 ((stepV v (-1)).2)),(fun (v_:Value) (W:World)=>∃ (cf:Option Addr) (ch:Nat) (ci:Option Addr) (cj:Nat),v_=vv (stepV v (-1)).1 cf ch ci cj∧SRow W .u32 cf ((stepV v (-1)).1.mag) ch∧SRow W .u16 ci ((stepV v (-1)).1.s) cj),ve (iv ((stepV v (-1)).2)),IsNew gp 29 z7,vt,vt]
   [6] (newsCons (fun v w h=>IsNew.old h) newsNil) fd (.eq (.eq (.cons (fun _ _ _ n ⟨_,_,_,_,e,h,i⟩=>⟨_,_,_,_,e,h.new_ n,i.new_ n⟩) (.cons (fun _ _ _ n ⟨_,_,_,_,e,h,i⟩=>⟨_,_,_,_,e,h.new_ n,i.new_ n⟩) (.cons (fun _ _ _ n ⟨_,_,_,_,e,h,i⟩=>⟨_,_,_,_,e,h.new_ n,i.new_ n⟩) (.eq (.nw (.tt (.tt (.nil)))))))))) ?_ ?_ ?_
 refine .t (fun _ w hn k=>⟨_,v_load rfl (k.fx 3 nt) (l_agg Tryz.isAgg29 Tryz.sizeOf29 (jb.new_ hn) rfl),rfl⟩)<| .t (fun _ w hn k=>⟨_,v_load rfl (k.fx 11 nB) (l_agg Tryz.isAgg29 Tryz.sizeOf29 (jc.new_ hn) rfl),rfl⟩) ?_
 refine .o1 (tkC rfl (noG rfl) rfl fun _ w hn k=>(by
       refine ⟨#[.string ⟨#[45]⟩,vv (numericV v).1 ai aM bA aN,vv (Vl.mk 4 0 0 false [1] [] 0) b3 bz none 0],_,args3 rfl (k.eq1 0 73 rfl) (k.eq1 1 74 rfl),fun w=>by kernel_rfl,stepBMi_l v _ _ _ _ _ _ _ _ _ (i2.new_ hn) (i3.new_ hn) (i8.new_ hn) (SRow.nil _ _) hvv (oT aa) (oT aE),?_⟩
       rintro e w' ⟨nE,nF,nG,nH,rfl,hmo0,hmo1,hm⟩
       exact⟨_,rfl,hm,⟨nE,nF,nG,nH,rfl,hmo0,hmo1⟩⟩)) ?_
 refine .o1 (tk rfl rfl fun _ w hn k=>(by
       obtain⟨nI,nJ,nK,nL,nM,jf,jg⟩:(TP (stepV v (-1)).1 ((stepV v (-1)).2)) _ _:=k.dep 2 75 (by kernel_rfl) (by kernel_rfl)
       exact⟨_,v_move rfl nM,⟨nI,nJ,nK,nL,rfl,jf,jg⟩⟩)) ?_
 refine .o1 (tk rfl rfl fun _ w hn k=>(by
       obtain⟨nN,nO,nP,nQ,nR,jh,ji⟩:(TP (stepV v (-1)).1 ((stepV v (-1)).2)) _ _:=k.dep 3 72 (by kernel_rfl) (by kernel_rfl)
       exact⟨_,v_extract rfl nR rfl,⟨nN,nO,nP,nQ,rfl,jh,ji⟩⟩)) ?_
 refine .o3 ?_
 exact .o2 (step_allocN (cs:=z7) (t:=29) rfl (noG rfl) (fun _ w hn k=>rfl) (fun q _ hq hb=>⟨q,rfl,hq,hb⟩))<| .off<| .off .nil
 intro i h
 simp only [List.contains_eq_mem,List.mem_cons,List.not_mem_nil,or_false,decide_eq_true_eq] at h
 subst h
 exact eager_takeG rfl (noG rfl) fun _ w hn k=>(by
     obtain⟨rP,rQ,rR,rS,nS,qy,qz⟩:(TP (stepV v (-1)).1 ((stepV v (-1)).2)) _ _:=k.dep 3 72 (by kernel_rfl) (by kernel_rfl)
     exact⟨_,fun w hS=>v_extract rfl nS rfl,rfl⟩)
 intro ek rT _ ax ak
 obtain⟨fe,jj,jk⟩:=aft ak fd jd fc ax
 have nT:=ak.fx 5 nu
 have nU:=ak.fx 6 nx
 have nV:=ak.fx 7 ny
 have nW:=ak.fx 8 nz
 have nX:=ak.fx 10 nA
 have nY:=ak.fx 12 nC
 have nZ:=ak.fx 13 nD
 obtain⟨dx,cJ,dy,cK,dZ,jl,jm⟩:=ak.G 4 76
 have dZ:ek.eval (.tmp 76)=vv (stepV v (-1)).1 dx cJ dy cK:=dZ
 have gs:=ak.ge 5 77 rfl
 obtain⟨d0,gt,c5,aF⟩:=ak.G 6 14
 have jn:=fa.new_ ax
 have jo:=fb.new_ ax
 have jp:=e9.new_ ax
 have hne536:aY ≠ d0:=by have h1:=fa.lt; have h2:=c5; omega
 have hne537:a5 ≠ d0:=by have h1:=fb.lt; have h2:=c5; omega
 have hne538:cR ≠ d0:=by have h1:=e9.lt; have h2:=c5; omega
 have qA:=Nat.le_trans fc.size c5
 have jq:=i4.new_ ax
 have jr:=i5.new_ ax
 have js:=i6.new_ ax
 have jt:=i7.new_ ax
 have ju:=i9.new_ ax
 have jv:=ja.new_ ax
 obtain⟨n0,gu,gv,aG,d1⟩:=s_many (P:=Tryz.prog) (t:=29) (i:=0) (c7 (stepV v (-1)).1 dx cJ dy cK) Tryz.sizeOf29 rfl rfl rfl aF lb
 have jw:Blk n0 d0 29 (c7 (stepV v (-1)).1 dx cJ dy cK):=gv
 refine st_act rfl rfl fun rU jx=>a_store' rfl gt dZ gu (jx _ _ trivial ?_)
 have jy:=jq.fr aF aG
 have jz:=jr.fr aF aG
 have jA:=js.fr aF aG
 have jB:=jt.fr aF aG
 have jC:=ju.fr aF aG
 have jD:=jv.fr aF aG
 have jE:=jl.fr aF aG
 have jF:=jm.fr aF aG
 have jG:=d1 _ _ _ (hne536) jn
 have jH:=d1 _ _ _ (hne537) jo
 have jI:=d1 _ _ _ (hne538) jp
 have ff:=jk.trans aG (fun _ h b=>by subst b; omega)
 refine st_take rfl rfl (y_assign (v:=iv ((stepV v (-1)).2)) rfl gs) rfl ?_
 obtain⟨n1,ac⟩:∃ a',a'=ek.put (some 15) (iv ((stepV v (-1)).2)):=⟨_,rfl⟩
 have fg:=pz ac fe
 have jJ:=pd ac jj
 have n2:=pn ac nT (by decide)
 have n3:=pn ac nU (by decide)
 have n4:=pn ac nV (by decide)
 have n5:=pn ac nW (by decide)
 have n6:=pn ac nX (by decide)
 have n7:=pn ac nY (by decide)
 have n8:=pn ac nZ (by decide)
 have rV:=pn ac dZ (by decide)
 have rW:=pn ac gs (by decide)
 have n9:=pn ac gt (by decide)
 have oa:n1.eval (.tmp 15)=iv ((stepV v (-1)).2):=by rw [ac]; exact put_same _ _ _ (by rw [fe]; decide)
 show stepsTo _ _ _ _ _ (ek.put (some 15) (iv ((stepV v (-1)).2))) _
 rw [← ac]
 refine st_nil (je _ _ (wp_seq_k fun rX jK=>?_))
 refine wp_g0 (.replicate 26 true) [] 103
   [vT,vT,ve (iv ((stepV v 1).2)),ve (iv ((stepV v 1).2)),vT,vT,vT,ve (iv ((stepV v (-1)).2)),ve (iv ((stepV v (-1)).2)),vT,vT,vT,ve (vv (stepV v 1).1 aO bL dq bM),ve (vv (stepV v 1).1 du cG dw cH),vT,vT,vT,ve (vv (stepV v (-1)).1 br bs bR bt),ve (vv (stepV v (-1)).1 dx cJ dy cK),vT,vT,vT,ve (iv ((stepV v 0).2)),ve (.bool (decide (((stepV v 0).2)=3))),ve (.bool (decide (((stepV v 0).2)=3))),ve (.bool (decide (((stepV v 0).2)=3)))] fg (.eq (.eq (.eq (.eq (.eq (.eq (.eq (.eq (.eq (.eq (.eq (.eq (.eq (.eq (.eq (.eq (.eq (.eq (.eq (.eq (.eq (.eq (.eq (.eq (.eq (.eq (.nil))))))))))))))))))))))))))) ?_ ?_
 exact .o1 (ck rfl rfl rfl (fun _ w hn k=>⟨#[],rfl,fun _=>by kernel_rfl,first_c _ (HT.up (ff.transNew hn))⟩) fun _=>rfl)<| .m (fun k=>k.eq1 0 78 rfl)<| .gm (fun k=>k.eq1 1 79 rfl) (fun k=>k.fx 6 n3)<| .gm (fun k=>k.eq1 1 79 rfl) (fun k=>k.fx 13 n8)<| .g (fun k=>k.eq1 1 79 rfl) (fun _ w hn k=>⟨_,v_bin rfl (k.eq1 2 80 rfl) (k.eq1 3 81 rfl) (fun _=>rfl) (n_eql_self _ _),rfl⟩)<| .t (fun _ w hn k=>⟨_,v_pickT rfl (k.eq1 1 79 rfl) (k.eq1 4 82 rfl),rfl⟩)<| .m (fun k=>k.eq1 5 83 rfl)<| .gm (fun k=>k.eq1 6 84 rfl) (fun k=>k.fx 8 n5)<| .gm (fun k=>k.eq1 6 84 rfl) (fun k=>k.fx 15 oa)<| .g (fun k=>k.eq1 6 84 rfl) (fun _ w hn k=>⟨_,v_bin rfl (k.eq1 7 85 rfl) (k.eq1 8 86 rfl) (fun _=>rfl) (n_eql_self _ _),rfl⟩)<| .t (fun _ w hn k=>⟨_,v_pickT rfl (k.eq1 6 84 rfl) (k.eq1 9 87 rfl),rfl⟩)<| .m (fun k=>k.eq1 10 88 rfl)<| .g (fun k=>k.eq1 11 89 rfl) (fun _ w hn k=>⟨_,v_load rfl (k.fx 5 n2) (l_agg Tryz.isAgg29 Tryz.sizeOf29 (jG.new_ hn) rfl),rfl⟩)<| .g (fun k=>k.eq1 11 89 rfl) (fun _ w hn k=>⟨_,v_load rfl (k.fx 12 n7) (l_agg Tryz.isAgg29 Tryz.sizeOf29 (jI.new_ hn) rfl),rfl⟩)<| .o1 (cg rfl rfl rfl (fun _ _ k=>k.eq1 11 89 rfl) rfl (fun _ w hn k=>⟨#[vv (stepV v 1).1 aO bL dq bM,vv (stepV v 1).1 du cG dw cH],args2 (k.eq1 12 90 rfl) (k.eq1 13 91 rfl),fun _=>by kernel_rfl,vsame_c ((stepV v 1).1) _ _ _ _ ((stepV v 1).1) _ _ _ _ _ (jy.new_ hn) (jz.new_ hn) (jC.new_ hn) (jD.new_ hn)⟩) fun _=>congrArg Value.bool (sameV_self _))<| .t (fun _ w hn k=>⟨_,v_pickT rfl (k.eq1 11 89 rfl) (k.eq1 14 92 rfl),rfl⟩)<| .m (fun k=>k.eq1 15 93 rfl)<| .g (fun k=>k.eq1 16 94 rfl) (fun _ w hn k=>⟨_,v_load rfl (k.fx 7 n4) (l_agg Tryz.isAgg29 Tryz.sizeOf29 (jH.new_ hn) rfl),rfl⟩)<| .g (fun k=>k.eq1 16 94 rfl) (fun _ w hn k=>⟨_,v_load rfl (k.fx 14 n9) (l_agg Tryz.isAgg29 Tryz.sizeOf29 (jw.new_ hn) rfl),rfl⟩)<| .o1 (cg rfl rfl rfl (fun _ _ k=>k.eq1 16 94 rfl) rfl (fun _ w hn k=>⟨#[vv (stepV v (-1)).1 br bs bR bt,vv (stepV v (-1)).1 dx cJ dy cK],args2 (k.eq1 17 95 rfl) (k.eq1 18 96 rfl),fun _=>by kernel_rfl,vsame_c ((stepV v (-1)).1) _ _ _ _ ((stepV v (-1)).1) _ _ _ _ _ (jA.new_ hn) (jB.new_ hn) (jE.new_ hn) (jF.new_ hn)⟩) fun _=>congrArg Value.bool (sameV_self _))<| .t (fun _ w hn k=>⟨_,v_pickT rfl (k.eq1 16 94 rfl) (k.eq1 19 97 rfl),rfl⟩)<| .m (fun k=>k.eq1 20 98 rfl)<| .gm (fun k=>k.eq1 21 99 rfl) (fun k=>k.fx 10 n6)<| .g (fun k=>k.eq1 21 99 rfl) (fun _ w hn k=>⟨_,v_bin rfl (k.eq1 22 100 rfl) rfl (fun _=>rfl) (r_eql rfl),rfl⟩)<| .t (fun _ w hn k=>⟨_,v_pickT rfl (k.eq1 21 99 rfl) (k.eq1 23 101 rfl),rfl⟩)<| .a (fun k=>k.eq1 24 102 rfl) .nil
 refine aftI fg jJ ff fun rY rZ qB jL jM qC jN=>?_
 have ob:=jN.ge 25 2 rfl
 refine st_nil (jK _ _ ?_)
 refine wp_ret (ret_k jL (v:=.bool (decide (((stepV v 0).2)=3))) (res_t rfl ob _) ?_)
 exact⟨congrArg (fun b=>Ending.returned (.bool b)) (show (decide (((stepV v 0).2)=3))=true from decide_eq_true (step_zero v (oT aa))),jM⟩
 have gh:=oF aE
 have jO:=hB gg aE
 refine wp_cond_false jO ?_
 refine wp_skip ?_
 refine eV _ _ ?_
 refine wp_seq_k fun r0 jP=>?_
 refine wp_gS (fun W=>True) (fun W W' hn h=>trivial) trivial [true,true,true,true,true,true,true,false,false] [5] [(7,false),(8,true)] 103
   [ve (vv (numericV v).1 ai aM bA aN),ve (vv (Vl.mk 3 0 1 false [] [] 0) none 0 none 0),(TP (stepV v 1).1 ((stepV v 1).2)),(TP (stepV v 1).1 ((stepV v 1).2)),(fun (v_:Value) (W:World)=>∃ (cp:Option Addr) (cq:Nat) (cr:Option Addr) (ct:Nat),v_=vv (stepV v 1).1 cp cq cr ct∧SRow W .u32 cp ((stepV v 1).1.mag) cq∧SRow W .u16 cr ((stepV v 1).1.s) ct),ve (iv ((stepV v 1).2)),IsNew ee 29 z7,vt,vt]
   [6] (newsCons (fun v w h=>IsNew.old h) newsNil) cZ (.eq (.eq (.cons (fun _ _ _ n ⟨_,_,_,_,e,h,i⟩=>⟨_,_,_,_,e,h.new_ n,i.new_ n⟩) (.cons (fun _ _ _ n ⟨_,_,_,_,e,h,i⟩=>⟨_,_,_,_,e,h.new_ n,i.new_ n⟩) (.cons (fun _ _ _ n ⟨_,_,_,_,e,h,i⟩=>⟨_,_,_,_,e,h.new_ n,i.new_ n⟩) (.eq (.nw (.tt (.tt (.nil)))))))))) ?_ ?_ ?_
 refine .t (fun _ w hn k=>⟨_,v_load rfl (k.fx 3 ef) (l_agg Tryz.isAgg29 Tryz.sizeOf29 (c0.new_ hn) rfl),rfl⟩)<| .t (fun _ w hn k=>⟨_,v_load rfl (k.fx 11 eg) (l_agg Tryz.isAgg29 Tryz.sizeOf29 (c1.new_ hn) rfl),rfl⟩) ?_
 refine .o1 (tkC rfl (noG rfl) rfl fun _ w hn k=>(by
       refine ⟨#[.string ⟨#[43]⟩,vv (numericV v).1 ai aM bA aN,vv (Vl.mk 3 0 1 false [] [] 0) none 0 none 0],_,args3 rfl (k.eq1 0 67 rfl) (k.eq1 1 68 rfl),fun w=>by kernel_rfl,stepNPl_l v _ _ _ _ _ _ _ _ _ (dT.new_ hn) (dU.new_ hn) (SRow.nil _ _) (SRow.nil _ _) hvv (oT aa) (oF aE),?_⟩
       rintro e w' ⟨oc,od,oe,og,rfl,hmo0,hmo1,hm⟩
       exact⟨_,rfl,hm,⟨oc,od,oe,og,rfl,hmo0,hmo1⟩⟩)) ?_
 refine .o1 (tk rfl rfl fun _ w hn k=>(by
       obtain⟨oh,oi,oj,ok,ol,jQ,jR⟩:(TP (stepV v 1).1 ((stepV v 1).2)) _ _:=k.dep 2 69 (by kernel_rfl) (by kernel_rfl)
       exact⟨_,v_move rfl ol,⟨oh,oi,oj,ok,rfl,jQ,jR⟩⟩)) ?_
 refine .o1 (tk rfl rfl fun _ w hn k=>(by
       obtain⟨om,oo,op,oq,os,jS,jT⟩:(TP (stepV v 1).1 ((stepV v 1).2)) _ _:=k.dep 3 66 (by kernel_rfl) (by kernel_rfl)
       exact⟨_,v_extract rfl os rfl,⟨om,oo,op,oq,rfl,jS,jT⟩⟩)) ?_
 refine .o3 ?_
 exact .o2 (step_allocN (cs:=z7) (t:=29) rfl (noG rfl) (fun _ w hn k=>rfl) (fun q _ hq hb=>⟨q,rfl,hq,hb⟩))<| .off<| .off .nil
 intro i h
 simp only [List.contains_eq_mem,List.mem_cons,List.not_mem_nil,or_false,decide_eq_true_eq] at h
 subst h
 exact eager_takeG rfl (noG rfl) fun _ w hn k=>(by
     obtain⟨r1,r2,r3,r4,ot,qD,qE⟩:(TP (stepV v 1).1 ((stepV v 1).2)) _ _:=k.dep 3 66 (by kernel_rfl) (by kernel_rfl)
     exact⟨_,fun w hS=>v_extract rfl ot rfl,rfl⟩)
 intro el r5 _ al am
 obtain⟨fh,jU,jV⟩:=aft am cZ eW dQ al
 have ou:=am.fx 3 ef
 have ov:=am.fx 5 ga
 have ow:=am.fx 6 gb
 have ox:=am.fx 7 gc
 have oy:=am.fx 8 gd
 have oz:=am.fx 10 gf
 have oA:=am.fx 11 eg
 obtain⟨dz,cL,dA,cM,d2,jW,jX⟩:=am.G 4 70
 have d2:el.eval (.tmp 70)=vv (stepV v 1).1 dz cL dA cM:=d2
 have gw:=am.ge 5 71 rfl
 obtain⟨cS,gx,cN,aH⟩:=am.G 6 12
 have jY:=c0.new_ al
 have jZ:=dR.new_ al
 have j0:=dS.new_ al
 have j1:=c1.new_ al
 have hne621:cD ≠ cS:=by have h1:=c0.lt; have h2:=cN; omega
 have hne622:aY ≠ cS:=by have h1:=dR.lt; have h2:=cN; omega
 have hne623:a5 ≠ cS:=by have h1:=dS.lt; have h2:=cN; omega
 have hne624:b0 ≠ cS:=by have h1:=c1.lt; have h2:=cN; omega
 have qF:=Nat.le_trans dQ.size cN
 have j2:=dT.new_ al
 have j3:=dU.new_ al
 have j4:=eX.new_ al
 have j5:=eY.new_ al
 have j6:=eZ.new_ al
 have j7:=e0.new_ al
 obtain⟨gy,gz,gA,aI,c9⟩:=s_many (P:=Tryz.prog) (t:=29) (i:=0) (c7 (stepV v 1).1 dz cL dA cM) Tryz.sizeOf29 rfl rfl rfl aH lb
 have fi:Blk gy cS 29 (c7 (stepV v 1).1 dz cL dA cM):=gA
 refine st_act rfl rfl fun r6 j8=>a_store' rfl gx d2 gz (j8 _ _ trivial ?_)
 have j9:=j2.fr aH aI
 have ka:=j3.fr aH aI
 have kb:=j4.fr aH aI
 have kc:=j5.fr aH aI
 have kd:=j6.fr aH aI
 have ke:=j7.fr aH aI
 have kf:=jW.fr aH aI
 have kg:=jX.fr aH aI
 have kh:=c9 _ _ _ (hne621) jY
 have fj:=c9 _ _ _ (hne622) jZ
 have fk:=c9 _ _ _ (hne623) j0
 have ki:=c9 _ _ _ (hne624) j1
 have fl:=jV.trans aI (fun _ h b=>by subst b; omega)
 refine st_take rfl rfl (y_assign (v:=iv ((stepV v 1).2)) rfl gw) rfl ?_
 obtain⟨oB,ad⟩:∃ a',a'=el.put (some 13) (iv ((stepV v 1).2)):=⟨_,rfl⟩
 have fm:=pz ad fh
 have kj:=pd ad jU
 have oC:=pn ad ou (by decide)
 have oD:=pn ad ov (by decide)
 have oE:=pn ad ow (by decide)
 have oG:=pn ad ox (by decide)
 have oH:=pn ad oy (by decide)
 have oI:=pn ad oz (by decide)
 have oJ:=pn ad oA (by decide)
 have r7:=pn ad d2 (by decide)
 have r8:=pn ad gw (by decide)
 have oK:=pn ad gx (by decide)
 have oL:oB.eval (.tmp 13)=iv ((stepV v 1).2):=by rw [ad]; exact put_same _ _ _ (by rw [fh]; decide)
 show stepsTo _ _ _ _ _ (el.put (some 13) (iv ((stepV v 1).2))) _
 rw [← ad]
 refine st_nil (jP _ _ (wp_seq_k fun r9 kk=>?_))
 refine wp_gS (fun W=>True) (fun W W' hn h=>trivial) trivial [true,true,true,true,true,true,true,false,false] [5] [(7,false),(8,true)] 103
   [ve (vv (numericV v).1 ai aM bA aN),ve (vv (Vl.mk 3 0 1 false [] [] 0) none 0 none 0),(TP (stepV v (-1)).1 ((stepV v (-1)).2)),(TP (stepV v (-1)).1 ((stepV v (-1)).2)),(fun (v_:Value) (W:World)=>∃ (cz:Option Addr) (cA:Nat) (cB:Option Addr) (cC:Nat),v_=vv (stepV v (-1)).1 cz cA cB cC∧SRow W .u32 cz ((stepV v (-1)).1.mag) cA∧SRow W .u16 cB ((stepV v (-1)).1.s) cC),ve (iv ((stepV v (-1)).2)),IsNew gy 29 z7,vt,vt]
   [6] (newsCons (fun v w h=>IsNew.old h) newsNil) fm (.eq (.eq (.cons (fun _ _ _ n ⟨_,_,_,_,e,h,i⟩=>⟨_,_,_,_,e,h.new_ n,i.new_ n⟩) (.cons (fun _ _ _ n ⟨_,_,_,_,e,h,i⟩=>⟨_,_,_,_,e,h.new_ n,i.new_ n⟩) (.cons (fun _ _ _ n ⟨_,_,_,_,e,h,i⟩=>⟨_,_,_,_,e,h.new_ n,i.new_ n⟩) (.eq (.nw (.tt (.tt (.nil)))))))))) ?_ ?_ ?_
 refine .t (fun _ w hn k=>⟨_,v_load rfl (k.fx 3 oC) (l_agg Tryz.isAgg29 Tryz.sizeOf29 (kh.new_ hn) rfl),rfl⟩)<| .t (fun _ w hn k=>⟨_,v_load rfl (k.fx 11 oJ) (l_agg Tryz.isAgg29 Tryz.sizeOf29 (ki.new_ hn) rfl),rfl⟩) ?_
 refine .o1 (tkC rfl (noG rfl) rfl fun _ w hn k=>(by
       refine ⟨#[.string ⟨#[45]⟩,vv (numericV v).1 ai aM bA aN,vv (Vl.mk 3 0 1 false [] [] 0) none 0 none 0],_,args3 rfl (k.eq1 0 73 rfl) (k.eq1 1 74 rfl),fun w=>by kernel_rfl,stepNMi_l v _ _ _ _ _ _ _ _ _ (j9.new_ hn) (ka.new_ hn) (SRow.nil _ _) (SRow.nil _ _) hvv (oT aa) (oF aE),?_⟩
       rintro e w' ⟨oM,oN,oO,oP,rfl,hmo0,hmo1,hm⟩
       exact⟨_,rfl,hm,⟨oM,oN,oO,oP,rfl,hmo0,hmo1⟩⟩)) ?_
 refine .o1 (tk rfl rfl fun _ w hn k=>(by
       obtain⟨oQ,oR,oS,oU,oV,kl,km⟩:(TP (stepV v (-1)).1 ((stepV v (-1)).2)) _ _:=k.dep 2 75 (by kernel_rfl) (by kernel_rfl)
       exact⟨_,v_move rfl oV,⟨oQ,oR,oS,oU,rfl,kl,km⟩⟩)) ?_
 refine .o1 (tk rfl rfl fun _ w hn k=>(by
       obtain⟨oW,oX,oY,oZ,o0,kn,ko⟩:(TP (stepV v (-1)).1 ((stepV v (-1)).2)) _ _:=k.dep 3 72 (by kernel_rfl) (by kernel_rfl)
       exact⟨_,v_extract rfl o0 rfl,⟨oW,oX,oY,oZ,rfl,kn,ko⟩⟩)) ?_
 refine .o3 ?_
 exact .o2 (step_allocN (cs:=z7) (t:=29) rfl (noG rfl) (fun _ w hn k=>rfl) (fun q _ hq hb=>⟨q,rfl,hq,hb⟩))<| .off<| .off .nil
 intro i h
 simp only [List.contains_eq_mem,List.mem_cons,List.not_mem_nil,or_false,decide_eq_true_eq] at h
 subst h
 exact eager_takeG rfl (noG rfl) fun _ w hn k=>(by
     obtain⟨sa,sb,sc,sd,o4,qG,qH⟩:(TP (stepV v (-1)).1 ((stepV v (-1)).2)) _ _:=k.dep 3 72 (by kernel_rfl) (by kernel_rfl)
     exact⟨_,fun w hS=>v_extract rfl o4 rfl,rfl⟩)
 intro em se _ ay an
 obtain⟨fn,kp,kq⟩:=aft an fm kj fl ay
 have o5:=an.fx 5 oD
 have o6:=an.fx 6 oE
 have o7:=an.fx 7 oG
 have o8:=an.fx 8 oH
 have o9:=an.fx 10 oI
 have pa:=an.fx 12 oK
 have pb:=an.fx 13 oL
 obtain⟨dB,cO,dC,cP,d3,kr,ks⟩:=an.G 4 76
 have d3:em.eval (.tmp 76)=vv (stepV v (-1)).1 dB cO dC cP:=d3
 have gB:=an.ge 5 77 rfl
 obtain⟨d4,gC,da,aJ⟩:=an.G 6 14
 have kt:=fj.new_ ay
 have ku:=fk.new_ ay
 have kv:=fi.new_ ay
 have hne697:aY ≠ d4:=by have h1:=fj.lt; have h2:=da; omega
 have hne698:a5 ≠ d4:=by have h1:=fk.lt; have h2:=da; omega
 have hne699:cS ≠ d4:=by have h1:=fi.lt; have h2:=da; omega
 have qI:=Nat.le_trans fl.size da
 have kw:=kb.new_ ay
 have kx:=kc.new_ ay
 have ky:=kd.new_ ay
 have kz:=ke.new_ ay
 have kA:=kf.new_ ay
 have kB:=kg.new_ ay
 obtain⟨pc,gD,gE,aK,d5⟩:=s_many (P:=Tryz.prog) (t:=29) (i:=0) (c7 (stepV v (-1)).1 dB cO dC cP) Tryz.sizeOf29 rfl rfl rfl aJ lb
 have kC:Blk pc d4 29 (c7 (stepV v (-1)).1 dB cO dC cP):=gE
 refine st_act rfl rfl fun sf kD=>a_store' rfl gC d3 gD (kD _ _ trivial ?_)
 have kE:=kw.fr aJ aK
 have kF:=kx.fr aJ aK
 have kG:=ky.fr aJ aK
 have kH:=kz.fr aJ aK
 have kI:=kA.fr aJ aK
 have kJ:=kB.fr aJ aK
 have kK:=kr.fr aJ aK
 have kL:=ks.fr aJ aK
 have kM:=d5 _ _ _ (hne697) kt
 have kN:=d5 _ _ _ (hne698) ku
 have kO:=d5 _ _ _ (hne699) kv
 have fo:=kq.trans aK (fun _ h b=>by subst b; omega)
 refine st_take rfl rfl (y_assign (v:=iv ((stepV v (-1)).2)) rfl gB) rfl ?_
 obtain⟨pe,ae⟩:∃ a',a'=em.put (some 15) (iv ((stepV v (-1)).2)):=⟨_,rfl⟩
 have fp:=pz ae fn
 have kP:=pd ae kp
 have pf:=pn ae o5 (by decide)
 have pg:=pn ae o6 (by decide)
 have ph:=pn ae o7 (by decide)
 have pi:=pn ae o8 (by decide)
 have pj:=pn ae o9 (by decide)
 have pk:=pn ae pa (by decide)
 have pl:=pn ae pb (by decide)
 have sg:=pn ae d3 (by decide)
 have sh:=pn ae gB (by decide)
 have pm:=pn ae gC (by decide)
 have po:pe.eval (.tmp 15)=iv ((stepV v (-1)).2):=by rw [ae]; exact put_same _ _ _ (by rw [fn]; decide)
 show stepsTo _ _ _ _ _ (em.put (some 15) (iv ((stepV v (-1)).2))) _
 rw [← ae]
 refine st_nil (kk _ _ (wp_seq_k fun si kQ=>?_))
 refine wp_g0 (.replicate 26 true) [] 103
   [vT,vT,ve (iv ((stepV v 1).2)),ve (iv ((stepV v 1).2)),vT,vT,vT,ve (iv ((stepV v (-1)).2)),ve (iv ((stepV v (-1)).2)),vT,vT,vT,ve (vv (stepV v 1).1 aO bL dq bM),ve (vv (stepV v 1).1 dz cL dA cM),vT,vT,vT,ve (vv (stepV v (-1)).1 br bs bR bt),ve (vv (stepV v (-1)).1 dB cO dC cP),vT,vT,vT,ve (iv ((stepV v 0).2)),ve (.bool (decide (((stepV v 0).2)=3))),ve (.bool (decide (((stepV v 0).2)=3))),ve (.bool (decide (((stepV v 0).2)=3)))] fp (.eq (.eq (.eq (.eq (.eq (.eq (.eq (.eq (.eq (.eq (.eq (.eq (.eq (.eq (.eq (.eq (.eq (.eq (.eq (.eq (.eq (.eq (.eq (.eq (.eq (.eq (.nil))))))))))))))))))))))))))) ?_ ?_
 exact .o1 (ck rfl rfl rfl (fun _ w hn k=>⟨#[],rfl,fun _=>by kernel_rfl,first_c _ (HT.up (fo.transNew hn))⟩) fun _=>rfl)<| .m (fun k=>k.eq1 0 78 rfl)<| .gm (fun k=>k.eq1 1 79 rfl) (fun k=>k.fx 6 pg)<| .gm (fun k=>k.eq1 1 79 rfl) (fun k=>k.fx 13 pl)<| .g (fun k=>k.eq1 1 79 rfl) (fun _ w hn k=>⟨_,v_bin rfl (k.eq1 2 80 rfl) (k.eq1 3 81 rfl) (fun _=>rfl) (n_eql_self _ _),rfl⟩)<| .t (fun _ w hn k=>⟨_,v_pickT rfl (k.eq1 1 79 rfl) (k.eq1 4 82 rfl),rfl⟩)<| .m (fun k=>k.eq1 5 83 rfl)<| .gm (fun k=>k.eq1 6 84 rfl) (fun k=>k.fx 8 pi)<| .gm (fun k=>k.eq1 6 84 rfl) (fun k=>k.fx 15 po)<| .g (fun k=>k.eq1 6 84 rfl) (fun _ w hn k=>⟨_,v_bin rfl (k.eq1 7 85 rfl) (k.eq1 8 86 rfl) (fun _=>rfl) (n_eql_self _ _),rfl⟩)<| .t (fun _ w hn k=>⟨_,v_pickT rfl (k.eq1 6 84 rfl) (k.eq1 9 87 rfl),rfl⟩)<| .m (fun k=>k.eq1 10 88 rfl)<| .g (fun k=>k.eq1 11 89 rfl) (fun _ w hn k=>⟨_,v_load rfl (k.fx 5 pf) (l_agg Tryz.isAgg29 Tryz.sizeOf29 (kM.new_ hn) rfl),rfl⟩)<| .g (fun k=>k.eq1 11 89 rfl) (fun _ w hn k=>⟨_,v_load rfl (k.fx 12 pk) (l_agg Tryz.isAgg29 Tryz.sizeOf29 (kO.new_ hn) rfl),rfl⟩)<| .o1 (cg rfl rfl rfl (fun _ _ k=>k.eq1 11 89 rfl) rfl (fun _ w hn k=>⟨#[vv (stepV v 1).1 aO bL dq bM,vv (stepV v 1).1 dz cL dA cM],args2 (k.eq1 12 90 rfl) (k.eq1 13 91 rfl),fun _=>by kernel_rfl,vsame_c ((stepV v 1).1) _ _ _ _ ((stepV v 1).1) _ _ _ _ _ (kE.new_ hn) (kF.new_ hn) (kI.new_ hn) (kJ.new_ hn)⟩) fun _=>congrArg Value.bool (sameV_self _))<| .t (fun _ w hn k=>⟨_,v_pickT rfl (k.eq1 11 89 rfl) (k.eq1 14 92 rfl),rfl⟩)<| .m (fun k=>k.eq1 15 93 rfl)<| .g (fun k=>k.eq1 16 94 rfl) (fun _ w hn k=>⟨_,v_load rfl (k.fx 7 ph) (l_agg Tryz.isAgg29 Tryz.sizeOf29 (kN.new_ hn) rfl),rfl⟩)<| .g (fun k=>k.eq1 16 94 rfl) (fun _ w hn k=>⟨_,v_load rfl (k.fx 14 pm) (l_agg Tryz.isAgg29 Tryz.sizeOf29 (kC.new_ hn) rfl),rfl⟩)<| .o1 (cg rfl rfl rfl (fun _ _ k=>k.eq1 16 94 rfl) rfl (fun _ w hn k=>⟨#[vv (stepV v (-1)).1 br bs bR bt,vv (stepV v (-1)).1 dB cO dC cP],args2 (k.eq1 17 95 rfl) (k.eq1 18 96 rfl),fun _=>by kernel_rfl,vsame_c ((stepV v (-1)).1) _ _ _ _ ((stepV v (-1)).1) _ _ _ _ _ (kG.new_ hn) (kH.new_ hn) (kK.new_ hn) (kL.new_ hn)⟩) fun _=>congrArg Value.bool (sameV_self _))<| .t (fun _ w hn k=>⟨_,v_pickT rfl (k.eq1 16 94 rfl) (k.eq1 19 97 rfl),rfl⟩)<| .m (fun k=>k.eq1 20 98 rfl)<| .gm (fun k=>k.eq1 21 99 rfl) (fun k=>k.fx 10 pj)<| .g (fun k=>k.eq1 21 99 rfl) (fun _ w hn k=>⟨_,v_bin rfl (k.eq1 22 100 rfl) rfl (fun _=>rfl) (r_eql rfl),rfl⟩)<| .t (fun _ w hn k=>⟨_,v_pickT rfl (k.eq1 21 99 rfl) (k.eq1 23 101 rfl),rfl⟩)<| .a (fun k=>k.eq1 24 102 rfl) .nil
 refine aftI fp kP fo fun sj sl qJ kR kS qK kT=>?_
 have pp:=kT.ge 25 2 rfl
 refine st_nil (kQ _ _ ?_)
 refine wp_ret (ret_k kR (v:=.bool (decide (((stepV v 0).2)=3))) (res_t rfl pp _) ?_)
 exact⟨congrArg (fun b=>Ending.returned (.bool b)) (show (decide (((stepV v 0).2)=3))=true from decide_eq_true (step_zero v (oT aa))),kS⟩
 have f5:=oF aa
 refine wp_g0 [true,true] [] 103
   [ve (iv ((numericV v).2)),vT] cX (.eq (.eq (.nil))) ?_ ?_
 exact .m (fun k=>k.fx 4 dO)<| .t (fun _ w hn k=>⟨_,v_bin rfl (k.eq1 0 42 rfl) rfl (fun _=>rfl) (r_neq aa),rfl⟩) .nil
 refine aftI cX eM eL fun sm sn fq kU fs aL aX=>?_
 have so:=aX.fx 3 fZ
 have en:=aX.fx 4 dO
 have sp:=aX.fx 5 f0
 have pq:=aX.fx 6 f1
 have sq:=aX.fx 7 f2
 have pr:=aX.fx 8 f3
 have pt:=aX.fx 10 f4
 have pu:=aX.ge 1 43 rfl
 have qL:=eI.new_ aL
 have qM:=eJ.new_ aL
 have qN:=eK.new_ aL
 have qO:=eC.new_ aL
 have qP:=eD.new_ aL
 have qQ:=eE.new_ aL
 have qR:=eF.new_ aL
 have qS:=eG.new_ aL
 have qT:=eH.new_ aL
 refine st_nil (eN _ _ ?_)
 refine wp_cond_true pu ?_
 refine wp_seq_k fun sr kV=>?_
 have ft:(decide (((stepV v 1).2)=((numericV v).2)))=true:=decide_eq_true (step_sig v 1 (oF aa))
 have qi:=oT ft
 have fu:(decide (((stepV v (-1)).2)=((numericV v).2)))=true:=decide_eq_true (step_sig v (-1) (oF aa))
 have qj:=oT fu
 refine wp_g0 (.replicate 17 true) [] 103
   [vT,vT,ve (iv ((stepV v 1).2)),ve (iv ((numericV v).2)),vT,vT,vT,ve (iv ((stepV v (-1)).2)),ve (iv ((numericV v).2)),vT,vT,vT,ve (iv ((stepV v 0).2)),ve (iv ((numericV v).2)),ve (.bool (decide (((stepV v 0).2)=((numericV v).2)))),ve (.bool (decide (((stepV v 0).2)=((numericV v).2)))),ve (.bool (decide (((stepV v 0).2)=((numericV v).2))))] fq (.eq (.eq (.eq (.eq (.eq (.eq (.eq (.eq (.eq (.eq (.eq (.eq (.eq (.eq (.eq (.eq (.eq (.nil)))))))))))))))))) ?_ ?_
 exact .o1 (ck rfl rfl rfl (fun _ w hn k=>⟨#[],rfl,fun _=>by kernel_rfl,first_c _ (HT.up (fs.transNew hn))⟩) fun _=>rfl)<| .m (fun k=>k.eq1 0 44 rfl)<| .gm (fun k=>k.eq1 1 45 rfl) (fun k=>k.fx 6 pq)<| .gm (fun k=>k.eq1 1 45 rfl) (fun k=>k.fx 4 en)<| .g (fun k=>k.eq1 1 45 rfl) (fun _ w hn k=>⟨_,v_bin rfl (k.eq1 2 46 rfl) (k.eq1 3 47 rfl) (fun _=>rfl) (r_eql ft),rfl⟩)<| .t (fun _ w hn k=>⟨_,v_pickT rfl (k.eq1 1 45 rfl) (k.eq1 4 48 rfl),rfl⟩)<| .m (fun k=>k.eq1 5 49 rfl)<| .gm (fun k=>k.eq1 6 50 rfl) (fun k=>k.fx 8 pr)<| .gm (fun k=>k.eq1 6 50 rfl) (fun k=>k.fx 4 en)<| .g (fun k=>k.eq1 6 50 rfl) (fun _ w hn k=>⟨_,v_bin rfl (k.eq1 7 51 rfl) (k.eq1 8 52 rfl) (fun _=>rfl) (r_eql fu),rfl⟩)<| .t (fun _ w hn k=>⟨_,v_pickT rfl (k.eq1 6 50 rfl) (k.eq1 9 53 rfl),rfl⟩)<| .m (fun k=>k.eq1 10 54 rfl)<| .gm (fun k=>k.eq1 11 55 rfl) (fun k=>k.fx 10 pt)<| .gm (fun k=>k.eq1 11 55 rfl) (fun k=>k.fx 4 en)<| .g (fun k=>k.eq1 11 55 rfl) (fun _ w hn k=>⟨_,v_bin rfl (k.eq1 12 56 rfl) (k.eq1 13 57 rfl) (fun _=>rfl) (r_eql rfl),rfl⟩)<| .t (fun _ w hn k=>⟨_,v_pickT rfl (k.eq1 11 55 rfl) (k.eq1 14 58 rfl),rfl⟩)<| .a (fun k=>k.eq1 15 59 rfl) .nil
 refine aftI fq kU fs fun ss st qU kW kX qV kY=>?_
 have pw:=kY.ge 16 2 rfl
 refine st_nil (kV _ _ ?_)
 refine wp_ret (ret_k kW (v:=.bool (decide (((stepV v 0).2)=((numericV v).2)))) (res_t rfl pw _) ?_)
 exact⟨congrArg (fun b=>Ending.returned (.bool b)) (show (decide (((stepV v 0).2)=((numericV v).2)))=true from decide_eq_true (step_sig v 0 (oF aa))),kX⟩
 have kZ:k7.eval (.tmp 20)=.bool true:=k9.trans (congrArg Value.bool (by rw [db]; rfl))
 refine wp_cond_true kZ ?_
 refine wp_seq_k fun sw k0=>?_
 refine wp_g0 [true,true] [] 103
   [vT,vT] dD (.eq (.eq (.nil))) ?_ ?_
 exact .o1 (ck rfl rfl rfl (fun _ w hn k=>⟨#[],rfl,fun _=>by kernel_rfl,first_c _ (HT.up (cQ.transNew hn))⟩) fun _=>rfl)<| .a (fun k=>k.eq1 0 21 rfl) .nil
 refine aftI dD fA cQ fun sx sy qW k1 k2 qX k3=>?_
 have px:=k3.ge 1 2 rfl
 refine st_nil (k0 _ _ ?_)
 refine wp_ret (ret_k k1 (v:=.bool true) (res_t rfl px _) ?_)
 exact⟨rfl,k2⟩
end Go.Proofs.YtjakfchffigkkaaGreatDoor
