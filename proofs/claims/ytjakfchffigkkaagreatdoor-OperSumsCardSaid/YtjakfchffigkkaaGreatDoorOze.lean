import Derived.Test.YtjakfchffigkkaaGreatDoorOzd
namespace Go.Proofs.YtjakfchffigkkaaGreatDoor
open Go.RowKit
set_option linter.unusedSimpArgs false
set_option linter.unusedVariables false
set_option maxHeartbeats 16000000
set_option maxRecDepth 100000
theorem sumsPl_c  (v:Vl) (Av:Option Addr) (cv:Nat) (Bv:Option Addr) (dv:Nat) (u:Vl) (Au:Option Addr) (cu:Nat) (Bu:Option Addr) (du:Nat) (w:World) (hmv:SRow w .u32 Av v.mag cv) (hsv:SRow w .u16 Bv v.s dv) (hmu:SRow w .u32 Au u.mag cu) (hsu:SRow w .u16 Bu u.s du) (hvv:VOk v) (hvu:VOk u):Calls Tryz.prog 36 #[.string ⟨#[43]⟩,vv v Av cv Bv dv,vv u Au cu Bu du] w (sumsPl_c_P v Av cv Bv dv u Au cu Bu du w):=by
 refine enter_abs Tryz.func36 rfl fun a0 bz fa hp=>?_
 have bz:a0.tmps.size=92:=bz
 have bA:New w w:=Upd.refl _ _
 have hp0:a0.eval (.tmp 0)=.string ⟨#[43]⟩:=hp 0 _ rfl
 have hp1:a0.eval (.tmp 1)=vv v Av cv Bv dv:=hp 1 _ rfl
 have hp2:a0.eval (.tmp 2)=vv u Au cu Bu du:=hp 2 _ rfl
 refine wp_seq_k fun K1 fb=>?_
 refine wp_g [true,true,true,true] [] [] 92
   [IsNew w 29 (c7 v Av cv Bv dv),IsNew w 29 (c7 u Au cu Bu du),IsNew w 29 z7,ve (iv 0)]
   [0,1,2] (newsCons (fun v w h=>IsNew.old h) (newsCons (fun v w h=>IsNew.old h) (newsCons (fun v w h=>IsNew.old h) newsNil))) bz (.nw (.nw (.nw (.eq (.nil))))) ?_ (fun i h=>by cases h) ?_
 exact .o2 (step_allocN (cs:=(c7 v Av cv Bv dv)) (t:=29) rfl (noG rfl) (fun _ w hn k=>v_box rfl (k.fx 1 hp1) (fun w=>rfl)) (fun q _ hq hb=>⟨q,rfl,hq,hb⟩))<| .o2 (step_allocN (cs:=(c7 u Au cu Bu du)) (t:=29) rfl (noG rfl) (fun _ w hn k=>v_box rfl (k.fx 2 hp2) (fun w=>rfl)) (fun q _ hq hb=>⟨q,rfl,hq,hb⟩))<| .o2 (step_allocN (cs:=z7) (t:=29) rfl (noG rfl) (fun _ w hn k=>rfl) (fun q _ hq hb=>⟨q,rfl,hq,hb⟩))<| .t (fun _ w hn k=>⟨_,v_assign rfl rfl,rfl⟩) .nil
 refine aftI bz fa bA fun a2 w3 d0 fc aE gU bg=>?_
 have h8:=bg.fx 0 hp0
 obtain⟨fd,h9,d5,d6⟩:=bg.G 0 4
 obtain⟨fe,d1,d7,d8⟩:=bg.G 1 5
 obtain⟨aR,bU,d9,bu⟩:=bg.G 2 6
 have hne21:fd ≠ aR:=bg.ne 0 2 4 6 h9 bU
 have hne22:fe ≠ aR:=bg.ne 1 2 5 6 d1 bU
 have fZ:=Nat.le_trans bA.size d5
 have f0:=Nat.le_trans bA.size d7
 have f1:=Nat.le_trans bA.size d9
 refine st_nil (fb _ _ (wp_seq_k fun gV ea=>?_))
 refine wp_gS (fun W=>True) (fun W W' hn h=>trivial) trivial [true,true,true,true,true,true,true,true,true,false,false,false] [5,6] [(9,false),(10,false),(11,true)] 92
   [ve (vv v Av cv Bv dv),ve (vv u Au cu Bu du),(TQ (numericsV v u).1 (numericsV v u).2.1 ((numericsV v u).2.2)),(TQ (numericsV v u).1 (numericsV v u).2.1 ((numericsV v u).2.2)),(fun (v_:Value) (W:World)=>∃ (aZ:Option Addr) (a1:Nat) (a3:Option Addr) (a4:Nat),v_=vv (numericsV v u).1 aZ a1 a3 a4∧SRow W .u32 aZ ((numericsV v u).1.mag) a1∧SRow W .u16 a3 ((numericsV v u).1.s) a4),(fun (v_:Value) (W:World)=>∃ (a5:Option Addr) (a6:Nat) (a7:Option Addr) (a8:Nat),v_=vv (numericsV v u).2.1 a5 a6 a7 a8∧SRow W .u32 a5 ((numericsV v u).2.1.mag) a6∧SRow W .u16 a7 ((numericsV v u).2.1.s) a8),ve (iv ((numericsV v u).2.2)),IsNew w3 29 z7,IsNew w3 29 z7,vt,vt,vt]
   [7,8] (newsCons (fun v w h=>IsNew.old h) (newsCons (fun v w h=>IsNew.old h) newsNil)) d0 (.eq (.eq (.cons (fun _ _ _ n ⟨_,_,_,_,_,_,_,_,e,h,i,j,l⟩=>⟨_,_,_,_,_,_,_,_,e,h.new_ n,i.new_ n,j.new_ n,l.new_ n⟩) (.cons (fun _ _ _ n ⟨_,_,_,_,_,_,_,_,e,h,i,j,l⟩=>⟨_,_,_,_,_,_,_,_,e,h.new_ n,i.new_ n,j.new_ n,l.new_ n⟩) (.cons (fun _ _ _ n ⟨_,_,_,_,e,h,i⟩=>⟨_,_,_,_,e,h.new_ n,i.new_ n⟩) (.cons (fun _ _ _ n ⟨_,_,_,_,e,h,i⟩=>⟨_,_,_,_,e,h.new_ n,i.new_ n⟩) (.eq (.nw (.nw (.tt (.tt (.tt (.nil))))))))))))) ?_ ?_ ?_
 refine .t (fun _ w hn k=>⟨_,v_load rfl (k.fx 4 h9) (l_agg Tryz.isAgg29 Tryz.sizeOf29 (d6.new_ hn) rfl),rfl⟩)<| .t (fun _ w hn k=>⟨_,v_load rfl (k.fx 5 d1) (l_agg Tryz.isAgg29 Tryz.sizeOf29 (d8.new_ hn) rfl),rfl⟩) ?_
 refine .o1 (tkC rfl (noG rfl) rfl fun _ w hn k=>(by
       refine ⟨#[vv v Av cv Bv dv,vv u Au cu Bu du],_,args2 (k.eq1 0 12 rfl) (k.eq1 1 13 rfl),fun w=>by kernel_rfl,numerics_c v _ _ _ _ u _ _ _ _ _ (hmv.new_ (aE.transNew hn)) (hsv.new_ (aE.transNew hn)) (hmu.new_ (aE.transNew hn)) (hsu.new_ (aE.transNew hn)) hvv hvu,?_⟩
       rintro e w' ⟨A1,c2,A3,c4,A5,c6,A7,c8,rfl,hmo0,hmo1,hmo2,hmo3,hm⟩
       exact⟨_,rfl,hm,⟨A1,c2,A3,c4,A5,c6,A7,c8,rfl,hmo0,hmo1,hmo2,hmo3⟩⟩)) ?_
 refine .o1 (tk rfl rfl fun _ w hn k=>(by
       obtain⟨ff,fg,fh,fi,fj,fk,fl,fm,fn,eb,ec,ed,ee⟩:(TQ (numericsV v u).1 (numericsV v u).2.1 ((numericsV v u).2.2)) _ _:=k.dep 2 14 (by kernel_rfl) (by kernel_rfl)
       exact⟨_,v_move rfl fn,⟨ff,fg,fh,fi,fj,fk,fl,fm,rfl,eb,ec,ed,ee⟩⟩)) ?_
 refine .o1 (tk rfl rfl fun _ w hn k=>(by
       obtain⟨fo,fp,br,fq,gW,gX,bh,gY,fs,ef,eg,f2,f3⟩:(TQ (numericsV v u).1 (numericsV v u).2.1 ((numericsV v u).2.2)) _ _:=k.dep 3 11 (by kernel_rfl) (by kernel_rfl)
       exact⟨_,v_extract rfl fs rfl,⟨fo,fp,br,fq,rfl,ef,eg⟩⟩)) ?_
 refine .o3 ?_
 refine .o3 ?_
 exact .o2 (step_allocN (cs:=z7) (t:=29) rfl (noG rfl) (fun _ w hn k=>rfl) (fun q _ hq hb=>⟨q,rfl,hq,hb⟩))<| .o2 (step_allocN (cs:=z7) (t:=29) rfl (noG rfl) (fun _ w hn k=>rfl) (fun q _ hq hb=>⟨q,rfl,hq,hb⟩))<| .off<| .off<| .off .nil
 intro i h
 simp only [List.contains_eq_mem,List.mem_cons,List.not_mem_nil,or_false,decide_eq_true_eq] at h
 rcases h with rfl|rfl
 exact eager_takeG rfl (noG rfl) fun _ w hn k=>(by
     obtain⟨gZ,g0,g1,g2,ft,fu,fv,fw,fy,f4,f5,eh,ei⟩:(TQ (numericsV v u).1 (numericsV v u).2.1 ((numericsV v u).2.2)) _ _:=k.dep 3 11 (by kernel_rfl) (by kernel_rfl)
     exact⟨_,fun w hS=>v_extract rfl fy rfl,⟨ft,fu,fv,fw,rfl,eh,ei⟩⟩)
 exact eager_takeG rfl (noG rfl) fun _ w hn k=>(by
     obtain⟨g3,g4,g5,g6,g7,g8,g9,ha,fz,f6,f7,f8,f9⟩:(TQ (numericsV v u).1 (numericsV v u).2.1 ((numericsV v u).2.2)) _ _:=k.dep 3 11 (by kernel_rfl) (by kernel_rfl)
     exact⟨_,fun w hS=>v_extract rfl fz rfl,rfl⟩)
 intro bB hc _ bV ap
 obtain⟨bW,ej,ek⟩:=aft ap d0 fc aE bV
 have fA:=ap.fx 0 h8
 have fB:=ap.fx 6 bU
 obtain⟨bs,a9,br,bv,bC,el,em⟩:=ap.G 4 15
 have bC:bB.eval (.tmp 15)=vv (numericsV v u).1 bs a9 br bv:=bC
 obtain⟨bh,ba,bX,bw,bD,en,eo⟩:=ap.G 5 16
 have bD:bB.eval (.tmp 16)=vv (numericsV v u).2.1 bh ba bX bw:=bD
 have d2:=ap.ge 6 17 rfl
 obtain⟨bi,bY,bZ,bb⟩:=ap.G 7 8
 obtain⟨bt,b0,b1,ep⟩:=ap.G 8 9
 have er:=bu.new_ bV
 have hne60:bi ≠ bt:=ap.ne 7 8 8 9 bY b0
 have hne61:aR ≠ bi:=by have h1:=bu.lt; have h2:=bZ; omega
 have hne62:aR ≠ bt:=by have h1:=bu.lt; have h2:=b1; omega
 have ga:=Nat.le_trans aE.size bZ
 have gb:=Nat.le_trans aE.size b1
 obtain⟨fC,cJ,cK,bd,b2⟩:=s_many (P:=Tryz.prog) (t:=29) (i:=0) (c7 (numericsV v u).1 bs a9 br bv) Tryz.sizeOf29 rfl rfl rfl bb lb
 have es:Blk fC bi 29 (c7 (numericsV v u).1 bs a9 br bv):=cK
 refine st_act rfl rfl fun hd et=>a_store' rfl bY bC cJ (et _ _ trivial ?_)
 have eu:=el.fr bb bd
 have ev:=em.fr bb bd
 have ew:=en.fr bb bd
 have ex:=eo.fr bb bd
 have ey:=b2 _ _ _ (hne61) er
 have be:=b2 _ _ _ (fun h=>hne60 h.symm) ep
 have ez:=ek.trans bd (fun _ h b=>by subst b; omega)
 obtain⟨fD,cL,cM,bf,b3⟩:=s_many (P:=Tryz.prog) (t:=29) (i:=0) (c7 (numericsV v u).2.1 bh ba bX bw) Tryz.sizeOf29 rfl rfl rfl be lb
 have b4:Blk fD bt 29 (c7 (numericsV v u).2.1 bh ba bX bw):=cM
 refine st_act rfl rfl fun hf eA=>a_store' rfl b0 bD cL (eA _ _ trivial ?_)
 have b5:=eu.fr be bf
 have b6:=ev.fr be bf
 have b7:=ew.fr be bf
 have b8:=ex.fr be bf
 have b9:=b3 _ _ _ (hne62) ey
 have ca:=b3 _ _ _ (hne60) es
 have cb:=ez.trans bf (fun _ h b=>by subst b; omega)
 refine st_take rfl rfl (y_assign (v:=iv ((numericsV v u).2.2)) rfl d2) rfl ?_
 obtain⟨fE,ac⟩:∃ a',a'=bB.put (some 10) (iv ((numericsV v u).2.2)):=⟨_,rfl⟩
 have bj:=pz ac bW
 have cc:=pd ac ej
 have d3:=pn ac fA (by decide)
 have d4:=pn ac fB (by decide)
 have gc:=pn ac bC (by decide)
 have gd:=pn ac bD (by decide)
 have gf:=pn ac d2 (by decide)
 have cd:=pn ac bY (by decide)
 have ce:=pn ac b0 (by decide)
 have bk:fE.eval (.tmp 10)=iv ((numericsV v u).2.2):=by rw [ac]; exact put_same _ _ _ (by rw [bW]; decide)
 show stepsTo _ _ _ _ _ (bB.put (some 10) (iv ((numericsV v u).2.2))) _
 rw [← ac]
 refine st_nil (ea _ _ (wp_seq_k fun gg cN=>?_))
 refine wp_block ?_
 refine wp_seq_k fun gh bE=>?_
 rcases bc (decide (((numericsV v u).2.2)=0)) with aa|aa
 have cf:=oT aa
 refine wp_g0 [true,true,true] [] 92
   [ve (iv ((numericsV v u).2.2)),vF,vF] bj (.eq (.eq (.eq (.nil)))) ?_ ?_
 exact .m (fun k=>k.fx 10 bk)<| .t (fun _ w hn k=>⟨_,v_bin rfl (k.eq1 0 19 rfl) rfl (fun _=>rfl) (r_neq aa),rfl⟩)<| .a (fun k=>k.eq1 1 20 rfl) .nil
 refine aftI bj cc cb fun gi gj bF cO cP aq aC=>?_
 have eB:=aC.fx 0 d3
 have eC:=aC.fx 6 d4
 have ch:=aC.fx 8 cd
 have eD:=aC.fx 9 ce
 have gk:=aC.fx 10 bk
 have eE:=aC.ge 2 18 rfl
 have cQ:=b9.new_ aq
 have bG:=ca.new_ aq
 have cR:=b4.new_ aq
 have cS:=b5.new_ aq
 have cT:=b6.new_ aq
 have cU:=b7.new_ aq
 have cV:=b8.new_ aq
 refine st_nil (bE _ _ ?_)
 refine wp_cond_false eE ?_
 refine wp_seq_k fun gl cW=>?_
 refine wp_g0 [true,true,true,true] [] 92
   [ve (pv bi),ve (iv ((numericsV v u).1.k)),ve (.bool (decide (((numericsV v u).1.k)=4))),ve (.bool (decide (((numericsV v u).1.k)=4)))] bF (.eq (.eq (.eq (.eq (.nil))))) ?_ ?_
 exact .f (fun k=>k.fx 8 ch)<| .t (fun _ w hn k=>⟨_,v_load rfl (k.eq1 0 24 rfl) (l_one Tryz.isAgg3 ((bG.new_ hn).cell 0)),rfl⟩)<| .t (fun _ w hn k=>⟨_,v_bin rfl (k.eq1 1 25 rfl) rfl (fun _=>rfl) (r_eql rfl),rfl⟩)<| .a (fun k=>k.eq1 2 26 rfl) .nil
 refine aftI bF cO cP fun gm gn aP bH bI ar aL=>?_
 have ci:=aL.fx 0 eB
 have cj:=aL.fx 6 eC
 have cl:=aL.fx 8 ch
 have cm:=aL.fx 9 eD
 have cn:=aL.ge 3 23 rfl
 have bJ:=cQ.new_ ar
 have bK:=bG.new_ ar
 have bL:=cR.new_ ar
 have bM:=cS.new_ ar
 have cX:=cT.new_ ar
 have bN:=cU.new_ ar
 have cY:=cV.new_ ar
 refine st_nil (cW _ _ ?_)
 rcases bc (decide (((numericsV v u).1.k)=4)) with ab|ab
 have co:=oT ab
 have cZ:=hB cn ab
 refine wp_cond_true cZ ?_
 refine wp_seq_k fun go c0=>?_
 refine wp_g0 [true,true,true,true,true,true,true,true,false,false] [(8,false),(9,true)] 92
   [ve (.string ⟨#[43]⟩),ve (.pointer (some ⟨bi,3,none⟩)),ve (.agg #[.bool ((numericsV v u).1.neg),sv bs ((numericsV v u).1.mag) a9]),ve (.pointer (some ⟨bt,3,none⟩)),ve (.agg #[.bool ((numericsV v u).2.1.neg),sv bh ((numericsV v u).2.1.mag) ba]),(TP (bigZ (goodI ((numericsV v u).1.neg) ((numericsV v u).1.mag) + goodI ((numericsV v u).2.1.neg) ((numericsV v u).2.1.mag))).1 ((bigZ (goodI ((numericsV v u).1.neg) ((numericsV v u).1.mag) + goodI ((numericsV v u).2.1.neg) ((numericsV v u).2.1.mag))).2)),(fun (v_:Value) (W:World)=>∃ (aF:Option Addr) (aG:Nat) (aH:Option Addr) (aI:Nat),v_=vv (bigZ (goodI ((numericsV v u).1.neg) ((numericsV v u).1.mag) + goodI ((numericsV v u).2.1.neg) ((numericsV v u).2.1.mag))).1 aF aG aH aI∧SRow W .u32 aF ((bigZ (goodI ((numericsV v u).1.neg) ((numericsV v u).1.mag) + goodI ((numericsV v u).2.1.neg) ((numericsV v u).2.1.mag))).1.mag) aG∧SRow W .u16 aH ((bigZ (goodI ((numericsV v u).1.neg) ((numericsV v u).1.mag) + goodI ((numericsV v u).2.1.neg) ((numericsV v u).2.1.mag))).1.s) aI),ve (iv ((bigZ (goodI ((numericsV v u).1.neg) ((numericsV v u).1.mag) + goodI ((numericsV v u).2.1.neg) ((numericsV v u).2.1.mag))).2)),vt,vt] aP (.eq (.eq (.eq (.eq (.eq (.cons (fun _ _ _ n ⟨_,_,_,_,e,h,i⟩=>⟨_,_,_,_,e,h.new_ n,i.new_ n⟩) (.cons (fun _ _ _ n ⟨_,_,_,_,e,h,i⟩=>⟨_,_,_,_,e,h.new_ n,i.new_ n⟩) (.eq (.tt (.tt (.nil))))))))))) ?_ ?_
 refine .m (fun k=>k.fx 0 ci)<| .f (fun k=>k.fx 8 cl)<| .t (fun _ w hn k=>⟨_,v_load rfl (k.eq1 1 28 rfl) (l_part Tryz.isAgg26 Tryz.sizeOf26 (bK.new_ hn) lb),rfl⟩)<| .f (fun k=>k.fx 9 cm)<| .t (fun _ w hn k=>⟨_,v_load rfl (k.eq1 3 30 rfl) (l_part Tryz.isAgg26 Tryz.sizeOf26 (bL.new_ hn) lb),rfl⟩) ?_
 refine .o1 (tkC rfl (noG rfl) rfl fun _ w hn k=>(by
       refine ⟨#[.string ⟨#[43]⟩,.agg #[.bool ((numericsV v u).1.neg),sv bs ((numericsV v u).1.mag) a9],.agg #[.bool ((numericsV v u).2.1.neg),sv bh ((numericsV v u).2.1.mag) ba]],_,args3 (k.eq1 0 27 rfl) (k.eq1 2 29 rfl) (k.eq1 4 31 rfl),fun w=>by kernel_rfl,bigsPl_c ((numericsV v u).1.neg) _ ((numericsV v u).1.mag) _ ((numericsV v u).2.1.neg) _ ((numericsV v u).2.1.mag) _ _ (bM.new_ hn) (bN.new_ hn) (VOk.numerics1 hvv hvu).limbs (VOk.numerics2 hvv hvu).limbs,?_⟩
       rintro e w' ⟨fF,eF,eG,eH,rfl,hmo0,hmo1,hm⟩
       exact⟨_,rfl,hm,⟨fF,eF,eG,eH,rfl,hmo0,hmo1⟩⟩)) ?_
 refine .o1 (tk rfl rfl fun _ w hn k=>(by
       obtain⟨eI,eJ,eK,eL,eM,c1,c3⟩:(TP (bigZ (goodI ((numericsV v u).1.neg) ((numericsV v u).1.mag) + goodI ((numericsV v u).2.1.neg) ((numericsV v u).2.1.mag))).1 ((bigZ (goodI ((numericsV v u).1.neg) ((numericsV v u).1.mag) + goodI ((numericsV v u).2.1.neg) ((numericsV v u).2.1.mag))).2)) _ _:=k.dep 5 32 (by kernel_rfl) (by kernel_rfl)
       exact⟨_,v_extract rfl eM rfl,⟨eI,eJ,eK,eL,rfl,c1,c3⟩⟩)) ?_
 refine .o1 (tk rfl rfl fun _ w hn k=>(by
       obtain⟨gp,gq,gr,gs,eN,fG,fH⟩:(TP (bigZ (goodI ((numericsV v u).1.neg) ((numericsV v u).1.mag) + goodI ((numericsV v u).2.1.neg) ((numericsV v u).2.1.mag))).1 ((bigZ (goodI ((numericsV v u).1.neg) ((numericsV v u).1.mag) + goodI ((numericsV v u).2.1.neg) ((numericsV v u).2.1.mag))).2)) _ _:=k.dep 5 32 (by kernel_rfl) (by kernel_rfl)
       exact⟨_,v_extract rfl eN rfl,rfl⟩)) ?_
 exact .off<| .off .nil
 refine aftI aP bH bI fun bx gt bO c5 c9 da bl=>?_
 have cp:=bl.fx 6 cj
 obtain⟨aJ,au,aK,av,bm,db,dc⟩:=bl.G 6 33
 have bm:bx.eval (.tmp 33)=vv (bigZ (goodI ((numericsV v u).1.neg) ((numericsV v u).1.mag) + goodI ((numericsV v u).2.1.neg) ((numericsV v u).2.1.mag))).1 aJ au aK av:=bm
 have cq:=bl.ge 7 34 rfl
 have bn:=bJ.new_ da
 obtain⟨eO,cr,ct,bo,fI⟩:=s_many (P:=Tryz.prog) (t:=29) (i:=0) (c7 (bigZ (goodI ((numericsV v u).1.neg) ((numericsV v u).1.mag) + goodI ((numericsV v u).2.1.neg) ((numericsV v u).2.1.mag))).1 aJ au aK av) Tryz.sizeOf29 rfl rfl rfl bn lb
 have dd:Blk eO aR 29 (c7 (bigZ (goodI ((numericsV v u).1.neg) ((numericsV v u).1.mag) + goodI ((numericsV v u).2.1.neg) ((numericsV v u).2.1.mag))).1 aJ au aK av):=ct
 refine st_act rfl rfl fun gu de=>a_store' rfl cp bm cr (de _ _ trivial ?_)
 have df:=db.fr bn bo
 have dg:=dc.fr bn bo
 have dh:=c9.trans bo (fun _ h b=>by subst b; omega)
 refine st_take rfl rfl (y_assign (v:=iv ((bigZ (goodI ((numericsV v u).1.neg) ((numericsV v u).1.mag) + goodI ((numericsV v u).2.1.neg) ((numericsV v u).2.1.mag))).2)) rfl cq) rfl ?_
 obtain⟨eP,aw⟩:∃ a',a'=bx.put (some 7) (iv ((bigZ (goodI ((numericsV v u).1.neg) ((numericsV v u).1.mag) + goodI ((numericsV v u).2.1.neg) ((numericsV v u).2.1.mag))).2)):=⟨_,rfl⟩
 have fJ:=pz aw bO
 have di:=pd aw c5
 have eQ:=pn aw cp (by decide)
 have gv:=pn aw bm (by decide)
 have gw:=pn aw cq (by decide)
 have eR:eP.eval (.tmp 7)=iv ((bigZ (goodI ((numericsV v u).1.neg) ((numericsV v u).1.mag) + goodI ((numericsV v u).2.1.neg) ((numericsV v u).2.1.mag))).2):=by rw [aw]; exact put_same _ _ _ (by rw [bO]; decide)
 show stepsTo _ _ _ _ _ (bx.put (some 7) (iv ((bigZ (goodI ((numericsV v u).1.neg) ((numericsV v u).1.mag) + goodI ((numericsV v u).2.1.neg) ((numericsV v u).2.1.mag))).2))) _
 rw [← aw]
 refine st_nil (c0 _ _ ?_)
 refine wp_ret (ret_k di (v:=.tuple #[vv (bigZ (goodI ((numericsV v u).1.neg) ((numericsV v u).1.mag) + goodI ((numericsV v u).2.1.neg) ((numericsV v u).2.1.mag))).1 aJ au aK av,iv ((bigZ (goodI ((numericsV v u).1.neg) ((numericsV v u).1.mag) + goodI ((numericsV v u).2.1.neg) ((numericsV v u).2.1.mag))).2)]) (res_ct rfl eQ eR (l_agg Tryz.isAgg29 Tryz.sizeOf29 dd rfl)) ?_)
 have aN:(sumsP v u).1.mag=(bigZ (goodI ((numericsV v u).1.neg) ((numericsV v u).1.mag) + goodI ((numericsV v u).2.1.neg) ((numericsV v u).2.1.mag))).1.mag:=by first|rfl|(simp only [sumsP,numV,Vl.z,aa,ab,bsm] <;> rfl)|(exfalso; omega)
 have aO:(sumsP v u).1.s=(bigZ (goodI ((numericsV v u).1.neg) ((numericsV v u).1.mag) + goodI ((numericsV v u).2.1.neg) ((numericsV v u).2.1.mag))).1.s:=by first|rfl|(simp only [sumsP,numV,Vl.z,aa,ab,bsm] <;> rfl)|(exfalso; omega)
 exact⟨aJ,au,aK,av,(by show Ending.returned (.tuple #[vv (bigZ (goodI ((numericsV v u).1.neg) ((numericsV v u).1.mag) + goodI ((numericsV v u).2.1.neg) ((numericsV v u).2.1.mag))).1 aJ au aK av,iv ((bigZ (goodI ((numericsV v u).1.neg) ((numericsV v u).1.mag) + goodI ((numericsV v u).2.1.neg) ((numericsV v u).2.1.mag))).2)])=Ending.returned (.tuple #[vv (sumsP v u).1 aJ au aK av,iv ((sumsP v u).2)]); (first|rfl|(simp only [sumsP,numV,Vl.z,aa,ab,aN,aO,bsm] <;> rfl)|(exfalso; omega))),(by rw [aN]; exact df),(by rw [aO]; exact dg),dh⟩
 have co:=oF ab
 have dj:=hB cn ab
 refine wp_cond_false dj ?_
 refine wp_skip ?_
 refine cN _ _ ?_
 refine wp_seq_k fun gx fK=>?_
 refine wp_seq_k fun gy dk=>?_
 refine wp_g0 [true] [] 92
   [ve (.string ⟨#[43]⟩)] aP (.eq (.nil)) ?_ ?_
 exact .m (fun k=>k.fx 0 ci) .nil
 refine aftI aP bH bI fun gz gA bP dl dm ax aQ=>?_
 have eS:=aQ.fx 6 cj
 have eT:=aQ.fx 8 cl
 have eU:=aQ.fx 9 cm
 have cw:=aQ.ge 0 35 rfl
 have dn:=bJ.new_ ax
 have dp:=bK.new_ ax
 have dq:=bL.new_ ax
 have dr:=bM.new_ ax
 have ds:=cX.new_ ax
 have dt:=bN.new_ ax
 have dw:=cY.new_ ax
 refine st_nil (dk _ _ ?_)
 refine wp_block ?_
 refine wp_seq_k fun gB dx=>?_
 refine wp_g0 [true,true] [] 92
   [vT,vT] bP (.eq (.eq (.nil))) ?_ ?_
 exact .t (fun _ w hn k=>⟨_,v_bin rfl (k.fx 35 cw) rfl (fun _=>rfl) (r_eqlS (r:=true) (by kernel_rfl)),rfl⟩)<| .a (fun k=>k.eq1 0 37 rfl) .nil
 refine aftI bP dl dm fun gC gD bQ dy dz ay aM=>?_
 have eV:=aM.fx 6 eS
 have eW:=aM.fx 8 eT
 have eX:=aM.fx 9 eU
 have gE:=aM.fx 35 cw
 have eY:=aM.ge 1 36 rfl
 have dA:=dn.new_ ay
 have dB:=dp.new_ ay
 have dC:=dq.new_ ay
 have fL:=dr.new_ ay
 have fM:=ds.new_ ay
 have fN:=dt.new_ ay
 have fO:=dw.new_ ay
 refine st_nil (dx _ _ ?_)
 refine wp_cond_true eY ?_
 refine wp_seq_k fun gF dD=>?_
 refine wp_g0 [true,true,true,true,true,true,true,true,true,true,false,false] [(10,false),(11,true)] 92
   [ve (.pointer (some ⟨bi,1,none⟩)),ve (nv (Nm.mk ((numericsV v u).1.nk) ((numericsV v u).1.nn))),ve (.pointer (some ⟨bt,1,none⟩)),ve (nv (Nm.mk ((numericsV v u).2.1.nk) ((numericsV v u).2.1.nn))),ve (.tuple #[nv ((addM (Nm.mk ((numericsV v u).1.nk) ((numericsV v u).1.nn)) (Nm.mk ((numericsV v u).2.1.nk) ((numericsV v u).2.1.nn))).1),.bool ((addM (Nm.mk ((numericsV v u).1.nk) ((numericsV v u).1.nn)) (Nm.mk ((numericsV v u).2.1.nk) ((numericsV v u).2.1.nn))).2)]),ve (nv ((addM (Nm.mk ((numericsV v u).1.nk) ((numericsV v u).1.nn)) (Nm.mk ((numericsV v u).2.1.nk) ((numericsV v u).2.1.nn))).1)),ve (.bool ((addM (Nm.mk ((numericsV v u).1.nk) ((numericsV v u).1.nn)) (Nm.mk ((numericsV v u).2.1.nk) ((numericsV v u).2.1.nn))).2)),ve (.tuple #[vv (Vl.mk (numberedV ((addM (Nm.mk ((numericsV v u).1.nk) ((numericsV v u).1.nn)) (Nm.mk ((numericsV v u).2.1.nk) ((numericsV v u).2.1.nn))).1) ((addM (Nm.mk ((numericsV v u).1.nk) ((numericsV v u).1.nn)) (Nm.mk ((numericsV v u).2.1.nk) ((numericsV v u).2.1.nn))).2)).1 (numberedV ((addM (Nm.mk ((numericsV v u).1.nk) ((numericsV v u).1.nn)) (Nm.mk ((numericsV v u).2.1.nk) ((numericsV v u).2.1.nn))).1) ((addM (Nm.mk ((numericsV v u).1.nk) ((numericsV v u).1.nn)) (Nm.mk ((numericsV v u).2.1.nk) ((numericsV v u).2.1.nn))).2)).2.1.k (numberedV ((addM (Nm.mk ((numericsV v u).1.nk) ((numericsV v u).1.nn)) (Nm.mk ((numericsV v u).2.1.nk) ((numericsV v u).2.1.nn))).1) ((addM (Nm.mk ((numericsV v u).1.nk) ((numericsV v u).1.nn)) (Nm.mk ((numericsV v u).2.1.nk) ((numericsV v u).2.1.nn))).2)).2.1.n false [] [] 0) none 0 none 0,iv ((numberedV ((addM (Nm.mk ((numericsV v u).1.nk) ((numericsV v u).1.nn)) (Nm.mk ((numericsV v u).2.1.nk) ((numericsV v u).2.1.nn))).1) ((addM (Nm.mk ((numericsV v u).1.nk) ((numericsV v u).1.nn)) (Nm.mk ((numericsV v u).2.1.nk) ((numericsV v u).2.1.nn))).2)).2.2)]),ve (vv (Vl.mk (numberedV ((addM (Nm.mk ((numericsV v u).1.nk) ((numericsV v u).1.nn)) (Nm.mk ((numericsV v u).2.1.nk) ((numericsV v u).2.1.nn))).1) ((addM (Nm.mk ((numericsV v u).1.nk) ((numericsV v u).1.nn)) (Nm.mk ((numericsV v u).2.1.nk) ((numericsV v u).2.1.nn))).2)).1 (numberedV ((addM (Nm.mk ((numericsV v u).1.nk) ((numericsV v u).1.nn)) (Nm.mk ((numericsV v u).2.1.nk) ((numericsV v u).2.1.nn))).1) ((addM (Nm.mk ((numericsV v u).1.nk) ((numericsV v u).1.nn)) (Nm.mk ((numericsV v u).2.1.nk) ((numericsV v u).2.1.nn))).2)).2.1.k (numberedV ((addM (Nm.mk ((numericsV v u).1.nk) ((numericsV v u).1.nn)) (Nm.mk ((numericsV v u).2.1.nk) ((numericsV v u).2.1.nn))).1) ((addM (Nm.mk ((numericsV v u).1.nk) ((numericsV v u).1.nn)) (Nm.mk ((numericsV v u).2.1.nk) ((numericsV v u).2.1.nn))).2)).2.1.n false [] [] 0) none 0 none 0),ve (iv ((numberedV ((addM (Nm.mk ((numericsV v u).1.nk) ((numericsV v u).1.nn)) (Nm.mk ((numericsV v u).2.1.nk) ((numericsV v u).2.1.nn))).1) ((addM (Nm.mk ((numericsV v u).1.nk) ((numericsV v u).1.nn)) (Nm.mk ((numericsV v u).2.1.nk) ((numericsV v u).2.1.nn))).2)).2.2)),vt,vt] bQ (.eq (.eq (.eq (.eq (.eq (.eq (.eq (.eq (.eq (.eq (.tt (.tt (.nil))))))))))))) ?_ ?_
 exact .f (fun k=>k.fx 8 eW)<| .t (fun _ w hn k=>⟨_,v_load rfl (k.eq1 0 38 rfl) (l_part Tryz.isAgg23 Tryz.sizeOf23 (dB.new_ hn) lb),rfl⟩)<| .f (fun k=>k.fx 9 eX)<| .t (fun _ w hn k=>⟨_,v_load rfl (k.eq1 2 40 rfl) (l_part Tryz.isAgg23 Tryz.sizeOf23 (dC.new_ hn) lb),rfl⟩)<| .o1 (ck rfl rfl rfl (fun _ w hn k=>⟨#[nv (Nm.mk ((numericsV v u).1.nk) ((numericsV v u).1.nn)),nv (Nm.mk ((numericsV v u).2.1.nk) ((numericsV v u).2.1.nn))],args2 (k.eq1 1 39 rfl) (k.eq1 3 41 rfl),fun _=>by kernel_rfl,nadd_c (Nm.mk ((numericsV v u).1.nk) ((numericsV v u).1.nn)) (Nm.mk ((numericsV v u).2.1.nk) ((numericsV v u).2.1.nn)) _ ⟩) fun _=>rfl)<| .t (fun _ w hn k=>⟨_,v_extract rfl (k.eq1 4 42 rfl) rfl,rfl⟩)<| .t (fun _ w hn k=>⟨_,v_extract rfl (k.eq1 4 42 rfl) rfl,rfl⟩)<| .o1 (ck rfl rfl rfl (fun _ w hn k=>⟨#[nv ((addM (Nm.mk ((numericsV v u).1.nk) ((numericsV v u).1.nn)) (Nm.mk ((numericsV v u).2.1.nk) ((numericsV v u).2.1.nn))).1),.bool ((addM (Nm.mk ((numericsV v u).1.nk) ((numericsV v u).1.nn)) (Nm.mk ((numericsV v u).2.1.nk) ((numericsV v u).2.1.nn))).2)],args2 (k.eq1 5 43 rfl) (k.eq1 6 44 rfl),fun _=>by kernel_rfl,numbered_c ((addM (Nm.mk ((numericsV v u).1.nk) ((numericsV v u).1.nn)) (Nm.mk ((numericsV v u).2.1.nk) ((numericsV v u).2.1.nn))).1) ((addM (Nm.mk ((numericsV v u).1.nk) ((numericsV v u).1.nn)) (Nm.mk ((numericsV v u).2.1.nk) ((numericsV v u).2.1.nn))).2) _ ⟩) fun _=>rfl)<| .t (fun _ w hn k=>⟨_,v_extract rfl (k.eq1 7 45 rfl) rfl,rfl⟩)<| .t (fun _ w hn k=>⟨_,v_extract rfl (k.eq1 7 45 rfl) rfl,rfl⟩)<| .off<| .off .nil
 refine aftI bQ dy dz fun cx gG bR dE dF dG bp=>?_
 have cy:=bp.fx 6 eV
 have cz:=bp.ge 8 46 rfl
 have cA:=bp.ge 9 47 rfl
 have dH:=dA.new_ dG
 obtain⟨eZ,cB,cC,dI,fP⟩:=s_many (P:=Tryz.prog) (t:=29) (i:=0) [iv ((numberedV ((addM (Nm.mk ((numericsV v u).1.nk) ((numericsV v u).1.nn)) (Nm.mk ((numericsV v u).2.1.nk) ((numericsV v u).2.1.nn))).1) ((addM (Nm.mk ((numericsV v u).1.nk) ((numericsV v u).1.nn)) (Nm.mk ((numericsV v u).2.1.nk) ((numericsV v u).2.1.nn))).2)).1),iv ((numberedV ((addM (Nm.mk ((numericsV v u).1.nk) ((numericsV v u).1.nn)) (Nm.mk ((numericsV v u).2.1.nk) ((numericsV v u).2.1.nn))).1) ((addM (Nm.mk ((numericsV v u).1.nk) ((numericsV v u).1.nn)) (Nm.mk ((numericsV v u).2.1.nk) ((numericsV v u).2.1.nn))).2)).2.1.k),iv ((numberedV ((addM (Nm.mk ((numericsV v u).1.nk) ((numericsV v u).1.nn)) (Nm.mk ((numericsV v u).2.1.nk) ((numericsV v u).2.1.nn))).1) ((addM (Nm.mk ((numericsV v u).1.nk) ((numericsV v u).1.nn)) (Nm.mk ((numericsV v u).2.1.nk) ((numericsV v u).2.1.nn))).2)).2.1.n),.bool false,sv none ([]) 0,sv none ([]) 0,iv 0] Tryz.sizeOf29 rfl rfl rfl dH lb
 have dJ:Blk eZ aR 29 [iv ((numberedV ((addM (Nm.mk ((numericsV v u).1.nk) ((numericsV v u).1.nn)) (Nm.mk ((numericsV v u).2.1.nk) ((numericsV v u).2.1.nn))).1) ((addM (Nm.mk ((numericsV v u).1.nk) ((numericsV v u).1.nn)) (Nm.mk ((numericsV v u).2.1.nk) ((numericsV v u).2.1.nn))).2)).1),iv ((numberedV ((addM (Nm.mk ((numericsV v u).1.nk) ((numericsV v u).1.nn)) (Nm.mk ((numericsV v u).2.1.nk) ((numericsV v u).2.1.nn))).1) ((addM (Nm.mk ((numericsV v u).1.nk) ((numericsV v u).1.nn)) (Nm.mk ((numericsV v u).2.1.nk) ((numericsV v u).2.1.nn))).2)).2.1.k),iv ((numberedV ((addM (Nm.mk ((numericsV v u).1.nk) ((numericsV v u).1.nn)) (Nm.mk ((numericsV v u).2.1.nk) ((numericsV v u).2.1.nn))).1) ((addM (Nm.mk ((numericsV v u).1.nk) ((numericsV v u).1.nn)) (Nm.mk ((numericsV v u).2.1.nk) ((numericsV v u).2.1.nn))).2)).2.1.n),.bool false,sv none ([]) 0,sv none ([]) 0,iv 0]:=cC
 refine st_act rfl rfl fun gH dK=>a_store' rfl cy cz cB (dK _ _ trivial ?_)
 have dL:=dF.trans dI (fun _ h b=>by subst b; omega)
 refine st_take rfl rfl (y_assign (v:=iv ((numberedV ((addM (Nm.mk ((numericsV v u).1.nk) ((numericsV v u).1.nn)) (Nm.mk ((numericsV v u).2.1.nk) ((numericsV v u).2.1.nn))).1) ((addM (Nm.mk ((numericsV v u).1.nk) ((numericsV v u).1.nn)) (Nm.mk ((numericsV v u).2.1.nk) ((numericsV v u).2.1.nn))).2)).2.2)) rfl cA) rfl ?_
 obtain⟨e0,az⟩:∃ a',a'=cx.put (some 7) (iv ((numberedV ((addM (Nm.mk ((numericsV v u).1.nk) ((numericsV v u).1.nn)) (Nm.mk ((numericsV v u).2.1.nk) ((numericsV v u).2.1.nn))).1) ((addM (Nm.mk ((numericsV v u).1.nk) ((numericsV v u).1.nn)) (Nm.mk ((numericsV v u).2.1.nk) ((numericsV v u).2.1.nn))).2)).2.2)):=⟨_,rfl⟩
 have fQ:=pz az bR
 have dM:=pd az dE
 have e1:=pn az cy (by decide)
 have gI:=pn az cz (by decide)
 have gJ:=pn az cA (by decide)
 have e2:e0.eval (.tmp 7)=iv ((numberedV ((addM (Nm.mk ((numericsV v u).1.nk) ((numericsV v u).1.nn)) (Nm.mk ((numericsV v u).2.1.nk) ((numericsV v u).2.1.nn))).1) ((addM (Nm.mk ((numericsV v u).1.nk) ((numericsV v u).1.nn)) (Nm.mk ((numericsV v u).2.1.nk) ((numericsV v u).2.1.nn))).2)).2.2):=by rw [az]; exact put_same _ _ _ (by rw [bR]; decide)
 show stepsTo _ _ _ _ _ (cx.put (some 7) (iv ((numberedV ((addM (Nm.mk ((numericsV v u).1.nk) ((numericsV v u).1.nn)) (Nm.mk ((numericsV v u).2.1.nk) ((numericsV v u).2.1.nn))).1) ((addM (Nm.mk ((numericsV v u).1.nk) ((numericsV v u).1.nn)) (Nm.mk ((numericsV v u).2.1.nk) ((numericsV v u).2.1.nn))).2)).2.2))) _
 rw [← az]
 refine st_nil (dD _ _ ?_)
 refine wp_ret (ret_k dM (v:=.tuple #[vv (Vl.mk (numberedV ((addM (Nm.mk ((numericsV v u).1.nk) ((numericsV v u).1.nn)) (Nm.mk ((numericsV v u).2.1.nk) ((numericsV v u).2.1.nn))).1) ((addM (Nm.mk ((numericsV v u).1.nk) ((numericsV v u).1.nn)) (Nm.mk ((numericsV v u).2.1.nk) ((numericsV v u).2.1.nn))).2)).1 (numberedV ((addM (Nm.mk ((numericsV v u).1.nk) ((numericsV v u).1.nn)) (Nm.mk ((numericsV v u).2.1.nk) ((numericsV v u).2.1.nn))).1) ((addM (Nm.mk ((numericsV v u).1.nk) ((numericsV v u).1.nn)) (Nm.mk ((numericsV v u).2.1.nk) ((numericsV v u).2.1.nn))).2)).2.1.k (numberedV ((addM (Nm.mk ((numericsV v u).1.nk) ((numericsV v u).1.nn)) (Nm.mk ((numericsV v u).2.1.nk) ((numericsV v u).2.1.nn))).1) ((addM (Nm.mk ((numericsV v u).1.nk) ((numericsV v u).1.nn)) (Nm.mk ((numericsV v u).2.1.nk) ((numericsV v u).2.1.nn))).2)).2.1.n false [] [] 0) none 0 none 0,iv ((numberedV ((addM (Nm.mk ((numericsV v u).1.nk) ((numericsV v u).1.nn)) (Nm.mk ((numericsV v u).2.1.nk) ((numericsV v u).2.1.nn))).1) ((addM (Nm.mk ((numericsV v u).1.nk) ((numericsV v u).1.nn)) (Nm.mk ((numericsV v u).2.1.nk) ((numericsV v u).2.1.nn))).2)).2.2)]) (res_ct rfl e1 e2 (l_agg Tryz.isAgg29 Tryz.sizeOf29 dJ rfl)) ?_)
 have aN:(sumsP v u).1.mag=[]:=by first|rfl|(simp only [sumsP,numV,Vl.z,aa,ab,bsm] <;> rfl)|(exfalso; omega)
 have aO:(sumsP v u).1.s=[]:=by first|rfl|(simp only [sumsP,numV,Vl.z,aa,ab,bsm] <;> rfl)|(exfalso; omega)
 exact⟨none,0,none,0,(by show Ending.returned (.tuple #[vv (Vl.mk (numberedV ((addM (Nm.mk ((numericsV v u).1.nk) ((numericsV v u).1.nn)) (Nm.mk ((numericsV v u).2.1.nk) ((numericsV v u).2.1.nn))).1) ((addM (Nm.mk ((numericsV v u).1.nk) ((numericsV v u).1.nn)) (Nm.mk ((numericsV v u).2.1.nk) ((numericsV v u).2.1.nn))).2)).1 (numberedV ((addM (Nm.mk ((numericsV v u).1.nk) ((numericsV v u).1.nn)) (Nm.mk ((numericsV v u).2.1.nk) ((numericsV v u).2.1.nn))).1) ((addM (Nm.mk ((numericsV v u).1.nk) ((numericsV v u).1.nn)) (Nm.mk ((numericsV v u).2.1.nk) ((numericsV v u).2.1.nn))).2)).2.1.k (numberedV ((addM (Nm.mk ((numericsV v u).1.nk) ((numericsV v u).1.nn)) (Nm.mk ((numericsV v u).2.1.nk) ((numericsV v u).2.1.nn))).1) ((addM (Nm.mk ((numericsV v u).1.nk) ((numericsV v u).1.nn)) (Nm.mk ((numericsV v u).2.1.nk) ((numericsV v u).2.1.nn))).2)).2.1.n false [] [] 0) none 0 none 0,iv ((numberedV ((addM (Nm.mk ((numericsV v u).1.nk) ((numericsV v u).1.nn)) (Nm.mk ((numericsV v u).2.1.nk) ((numericsV v u).2.1.nn))).1) ((addM (Nm.mk ((numericsV v u).1.nk) ((numericsV v u).1.nn)) (Nm.mk ((numericsV v u).2.1.nk) ((numericsV v u).2.1.nn))).2)).2.2)])=Ending.returned (.tuple #[vv (sumsP v u).1 none 0 none 0,iv ((sumsP v u).2)]); (first|rfl|(simp only [sumsP,numV,Vl.z,aa,ab,aN,aO,bsm] <;> rfl)|(exfalso; omega))),(by rw [aN]; exact (SRow.nil _ _)),(by rw [aO]; exact (SRow.nil _ _)),dL⟩
 have cf:=oF aa
 refine wp_g0 [true,true,true] [] 92
   [ve (iv ((numericsV v u).2.2)),vT,vT] bj (.eq (.eq (.eq (.nil)))) ?_ ?_
 exact .m (fun k=>k.fx 10 bk)<| .t (fun _ w hn k=>⟨_,v_bin rfl (k.eq1 0 19 rfl) rfl (fun _=>rfl) (r_neq aa),rfl⟩)<| .a (fun k=>k.eq1 1 20 rfl) .nil
 refine aftI bj cc cb fun gK gL bS dN dO aA aD=>?_
 have gM:=aD.fx 0 d3
 have e3:=aD.fx 6 d4
 have gN:=aD.fx 8 cd
 have gO:=aD.fx 9 ce
 have e4:=aD.fx 10 bk
 have e5:=aD.ge 2 18 rfl
 have dP:=b9.new_ aA
 have fR:=ca.new_ aA
 have fS:=b4.new_ aA
 have fT:=b5.new_ aA
 have fU:=b6.new_ aA
 have fV:=b7.new_ aA
 have fW:=b8.new_ aA
 refine st_nil (bE _ _ ?_)
 refine wp_cond_true e5 ?_
 refine wp_seq_k fun gP dQ=>?_
 refine wp_g [true,true,false,false] [1] [(2,false),(3,true)] 92
   [ve (vv (Vl.mk 0 0 0 false [] [] 0) none 0 none 0),ve (iv ((numericsV v u).2.2)),vt,vt]
   [] newsNil bS (.eq (.eq (.tt (.tt (.nil))))) ?_ ?_ ?_
 refine .t (fun _ w hn k=>⟨_,v_build (ps:=[]) rfl parts0 (by kernel_rfl),rfl⟩) ?_
 refine .o3 ?_
 exact .off<| .off .nil
 intro i h
 simp only [List.contains_eq_mem,List.mem_cons,List.not_mem_nil,or_false,decide_eq_true_eq] at h
 subst h
 exact eager_take rfl rfl fun _ w hn k=>⟨iv ((numericsV v u).2.2),fun w=>v_move rfl (k.fx 10 e4),rfl⟩
 refine aftI bS dN dO fun cD gQ bT dR dS dT bq=>?_
 have cE:=bq.fx 6 e3
 have cF:=bq.ge 0 21 rfl
 have cG:=bq.ge 1 22 rfl
 have dU:=dP.new_ dT
 obtain⟨e6,cH,cI,dV,fX⟩:=s_many (P:=Tryz.prog) (t:=29) (i:=0) z7 Tryz.sizeOf29 rfl rfl rfl dU lb
 have dW:Blk e6 aR 29 z7:=cI
 refine st_act rfl rfl fun gR dX=>a_store' rfl cE cF cH (dX _ _ trivial ?_)
 have dY:=dS.trans dV (fun _ h b=>by subst b; omega)
 refine st_take rfl rfl (y_assign (v:=iv ((numericsV v u).2.2)) rfl cG) rfl ?_
 obtain⟨e7,aB⟩:∃ a',a'=cD.put (some 7) (iv ((numericsV v u).2.2)):=⟨_,rfl⟩
 have fY:=pz aB bT
 have dZ:=pd aB dR
 have e8:=pn aB cE (by decide)
 have gS:=pn aB cF (by decide)
 have gT:=pn aB cG (by decide)
 have e9:e7.eval (.tmp 7)=iv ((numericsV v u).2.2):=by rw [aB]; exact put_same _ _ _ (by rw [bT]; decide)
 show stepsTo _ _ _ _ _ (cD.put (some 7) (iv ((numericsV v u).2.2))) _
 rw [← aB]
 refine st_nil (dQ _ _ ?_)
 refine wp_ret (ret_k dZ (v:=.tuple #[vv (Vl.mk 0 0 0 false [] [] 0) none 0 none 0,iv ((numericsV v u).2.2)]) (res_ct rfl e8 e9 (l_agg Tryz.isAgg29 Tryz.sizeOf29 dW rfl)) ?_)
 have aN:(sumsP v u).1.mag=[]:=by first|rfl|(simp only [sumsP,numV,Vl.z,aa,bsm] <;> rfl)|(exfalso; omega)
 have aO:(sumsP v u).1.s=[]:=by first|rfl|(simp only [sumsP,numV,Vl.z,aa,bsm] <;> rfl)|(exfalso; omega)
 exact⟨none,0,none,0,(by show Ending.returned (.tuple #[vv (Vl.mk 0 0 0 false [] [] 0) none 0 none 0,iv ((numericsV v u).2.2)])=Ending.returned (.tuple #[vv (sumsP v u).1 none 0 none 0,iv ((sumsP v u).2)]); (first|rfl|(simp only [sumsP,numV,Vl.z,aa,aN,aO,bsm] <;> rfl)|(exfalso; omega))),(by rw [aN]; exact (SRow.nil _ _)),(by rw [aO]; exact (SRow.nil _ _)),dY⟩
def binPl_c_P  (v:Vl) (Av:Option Addr) (cv:Nat) (Bv:Option Addr) (dv:Nat) (u:Vl) (Au:Option Addr) (cu:Nat) (Bu:Option Addr) (du:Nat) (w:World) (en:Ending) (w':World):Prop:=∃ (Ar0:Option Addr) (cr0:Nat) (Ar1:Option Addr) (cr1:Nat),en=.returned (.tuple #[vv (sumsP (cleanV v) (cleanV u)).1 Ar0 cr0 Ar1 cr1,iv ((sumsP (cleanV v) (cleanV u)).2)])∧SRow w' .u32 Ar0 ((sumsP (cleanV v) (cleanV u)).1.mag) cr0∧SRow w' .u16 Ar1 ((sumsP (cleanV v) (cleanV u)).1.s) cr1∧New w w'
theorem binPl_c  (v:Vl) (Av:Option Addr) (cv:Nat) (Bv:Option Addr) (dv:Nat) (u:Vl) (Au:Option Addr) (cu:Nat) (Bu:Option Addr) (du:Nat) (w:World) (hmv:SRow w .u32 Av v.mag cv) (hsv:SRow w .u16 Bv v.s dv) (hmu:SRow w .u32 Au u.mag cu) (hsu:SRow w .u16 Bu u.s du) (hvv:VOk v) (hvu:VOk u) (hk1:(cleanV v).k ≠ 5) (hk2:(cleanV u).k ≠ 5):Calls Tryz.prog 12 #[.string ⟨#[43]⟩,vv v Av cv Bv dv,vv u Au cu Bu du] w (binPl_c_P v Av cv Bv dv u Au cu Bu du w):=by
 refine enter_abs Tryz.func12 rfl fun a0 aR c1 hp=>?_
 have aR:a0.tmps.size=120:=aR
 have aS:New w w:=Upd.refl _ _
 have hp0:a0.eval (.tmp 0)=.string ⟨#[43]⟩:=hp 0 _ rfl
 have hp1:a0.eval (.tmp 1)=vv v Av cv Bv dv:=hp 1 _ rfl
 have hp2:a0.eval (.tmp 2)=vv u Au cu Bu du:=hp 2 _ rfl
 refine wp_seq_k fun K1 c3=>?_
 refine wp_g [true,true,true,true] [] [] 120
   [IsNew w 29 (c7 v Av cv Bv dv),IsNew w 29 (c7 u Au cu Bu du),IsNew w 29 z7,ve (iv 0)]
   [0,1,2] (newsCons (fun v w h=>IsNew.old h) (newsCons (fun v w h=>IsNew.old h) (newsCons (fun v w h=>IsNew.old h) newsNil))) aR (.nw (.nw (.nw (.eq (.nil))))) ?_ (fun i h=>by cases h) ?_
 exact .o2 (step_allocN (cs:=(c7 v Av cv Bv dv)) (t:=29) rfl (noG rfl) (fun _ w hn k=>v_box rfl (k.fx 1 hp1) (fun w=>rfl)) (fun q _ hq hb=>⟨q,rfl,hq,hb⟩))<| .o2 (step_allocN (cs:=(c7 u Au cu Bu du)) (t:=29) rfl (noG rfl) (fun _ w hn k=>v_box rfl (k.fx 2 hp2) (fun w=>rfl)) (fun q _ hq hb=>⟨q,rfl,hq,hb⟩))<| .o2 (step_allocN (cs:=z7) (t:=29) rfl (noG rfl) (fun _ w hn k=>rfl) (fun q _ hq hb=>⟨q,rfl,hq,hb⟩))<| .t (fun _ w hn k=>⟨_,v_assign rfl rfl,rfl⟩) .nil
 refine aftI aR c1 aS fun a2 w3 b3 c5 an dX ao=>?_
 have h8:=ao.fx 0 hp0
 obtain⟨aT,h9,b9,a3⟩:=ao.G 0 4
 obtain⟨aU,aV,ca,a4⟩:=ao.G 1 5
 obtain⟨a5,a6,cb,cc⟩:=ao.G 2 6
 have hne21:aT ≠ aU:=ao.ne 0 1 4 5 h9 aV
 have hne22:aT ≠ a5:=ao.ne 0 2 4 6 h9 a6
 have hne23:aU ≠ a5:=ao.ne 1 2 5 6 aV a6
 have dE:=Nat.le_trans aS.size b9
 have dF:=Nat.le_trans aS.size ca
 have dG:=Nat.le_trans aS.size cb
 refine st_nil (c3 _ _ (wp_seq_k fun dY cd=>?_))
 refine wp_g0 [true,true,true,true,false,false] [(4,false),(5,false)] 120
   [ve (vv v Av cv Bv dv),
    (VP (cleanV v)),ve (vv u Au cu Bu du),
    (VP (cleanV u)),vt,vt] b3 (.eq (.cons (fun _ _ _ n ⟨_,_,_,_,e,h,i⟩=>⟨_,_,_,_,e,h.new_ n,i.new_ n⟩) (.eq (.cons (fun _ _ _ n ⟨_,_,_,_,e,h,i⟩=>⟨_,_,_,_,e,h.new_ n,i.new_ n⟩) (.tt (.tt (.nil))))))) ?_ ?_
 refine .t (fun _ w hn k=>⟨_,v_load rfl (k.fx 4 h9) (l_agg Tryz.isAgg29 Tryz.sizeOf29 (a3.new_ hn) rfl),rfl⟩) ?_
 refine .o1 (tkC rfl (noG rfl) rfl fun _ w hn k=>(by
       refine ⟨#[vv v Av cv Bv dv],_,args1 (k.eq1 0 10 rfl),fun w=>by kernel_rfl,clean_c v _ _ _ _ _ (hmv.new_ (an.transNew hn)) (hsv.new_ (an.transNew hn)),?_⟩
       rintro e w' ⟨A1,c2,A3,c4,rfl,hmo0,hmo1,hm⟩
       exact⟨_,rfl,hm,⟨A1,c2,A3,c4,rfl,hmo0,hmo1⟩⟩)) ?_
 refine .t (fun _ w hn k=>⟨_,v_load rfl (k.fx 5 aV) (l_agg Tryz.isAgg29 Tryz.sizeOf29 (a4.new_ hn) rfl),rfl⟩) ?_
 refine .o1 (tkC rfl (noG rfl) rfl fun _ w hn k=>(by
       refine ⟨#[vv u Au cu Bu du],_,args1 (k.eq1 2 12 rfl),fun w=>by kernel_rfl,clean_c u _ _ _ _ _ (hmu.new_ (an.transNew hn)) (hsu.new_ (an.transNew hn)),?_⟩
       rintro e w' ⟨A9,dd,de,df,rfl,hmo0,hmo1,hm⟩
       exact⟨_,rfl,hm,⟨A9,dd,de,df,rfl,hmo0,hmo1⟩⟩)) ?_
 exact .off<| .off .nil
 refine aftI b3 c5 an fun b4 dZ a7 ce cf aP am=>?_
 have b5:=am.fx 0 h8
 have b6:=am.fx 4 h9
 have b7:=am.fx 5 aV
 have dg:=am.fx 6 a6
 obtain⟨aM,ap,aN,aq,a8,ch,ci⟩:=am.G 1 11
 have a8:b4.eval (.tmp 11)=vv (cleanV v) aM ap aN aq:=a8
 obtain⟨aO,ar,aG,au,a9,cj,cl⟩:=am.G 3 13
 have a9:b4.eval (.tmp 13)=vv (cleanV u) aO ar aG au:=a9
 have av:=a3.new_ aP
 have cm:=a4.new_ aP
 have cn:=cc.new_ aP
 obtain⟨dh,bk,bl,aw,ba⟩:=s_many (P:=Tryz.prog) (t:=29) (i:=0) (c7 (cleanV v) aM ap aN aq) Tryz.sizeOf29 rfl rfl rfl av lb
 have co:Blk dh aT 29 (c7 (cleanV v) aM ap aN aq):=bl
 refine st_act rfl rfl fun d0 cp=>a_store' rfl b6 a8 bk (cp _ _ trivial ?_)
 have cq:=ch.fr av aw
 have cr:=ci.fr av aw
 have ct:=cj.fr av aw
 have cw:=cl.fr av aw
 have ax:=ba _ _ _ (fun h=>hne21 h.symm) cm
 have cx:=ba _ _ _ (fun h=>hne22 h.symm) cn
 have cy:=cf.trans aw (fun _ h b=>by subst b; omega)
 obtain⟨di,bm,bn,ay,bb⟩:=s_many (P:=Tryz.prog) (t:=29) (i:=0) (c7 (cleanV u) aO ar aG au) Tryz.sizeOf29 rfl rfl rfl ax lb
 have cz:Blk di aU 29 (c7 (cleanV u) aO ar aG au):=bn
 refine st_act rfl rfl fun d1 cA=>a_store' rfl b7 a9 bm (cA _ _ trivial ?_)
 have cB:=cq.fr ax ay
 have cC:=cr.fr ax ay
 have cD:=ct.fr ax ay
 have cE:=cw.fr ax ay
 have cF:=bb _ _ _ (hne21) co
 have cG:=bb _ _ _ (fun h=>hne23 h.symm) cx
 have cH:=cy.trans ay (fun _ h b=>by subst b; omega)
 refine st_nil (cd _ _ (wp_seq_k fun d2 dH=>?_))
 refine wp_seq_k fun d3 cI=>?_
 refine wp_g0 [true] [] 120
   [ve (.string ⟨#[43]⟩)] a7 (.eq (.nil)) ?_ ?_
 exact .m (fun k=>k.fx 0 b5) .nil
 refine aftI a7 ce cH fun d4 d5 bd cJ bo ai az=>?_
 have dj:=az.fx 0 b5
 have dk:=az.fx 4 b6
 have dl:=az.fx 5 b7
 have dm:=az.fx 6 dg
 have b8:=az.ge 0 14 rfl
 have cK:=cF.new_ ai
 have cL:=cz.new_ ai
 have bp:=cG.new_ ai
 have bq:=cB.new_ ai
 have br:=cC.new_ ai
 have bs:=cD.new_ ai
 have bt:=cE.new_ ai
 refine st_nil (cI _ _ ?_)
 refine wp_block ?_
 refine wp_seq_k fun dI bu=>?_
 refine wp_g0 [true,true] [] 120
   [vT,vT] bd (.eq (.eq (.nil))) ?_ ?_
 exact .t (fun _ w hn k=>⟨_,v_bin rfl (k.fx 14 b8) rfl (fun _=>rfl) (r_eqlS (r:=true) (by kernel_rfl)),rfl⟩)<| .a (fun k=>k.eq1 0 16 rfl) .nil
 refine aftI bd cJ bo fun dJ dK aW bv bw aa ad=>?_
 have cM:=ad.fx 0 dj
 have be:=ad.fx 4 dk
 have bf:=ad.fx 5 dl
 have cN:=ad.fx 6 dm
 have dL:=ad.fx 14 b8
 have cO:=ad.ge 1 15 rfl
 have aX:=cK.new_ aa
 have aY:=cL.new_ aa
 have bx:=bp.new_ aa
 have bz:=bq.new_ aa
 have bA:=br.new_ aa
 have bB:=bs.new_ aa
 have bC:=bt.new_ aa
 refine st_nil (bu _ _ ?_)
 refine wp_cond_true cO ?_
 refine wp_seq_k fun dM bD=>?_
 refine wp_seq_k fun dN bE=>?_
 refine wp_g0 (.replicate 8 true) [] 120
   [ve (pv aT),ve (iv ((cleanV v).k)),ve (.bool (decide (((cleanV v).k)=5))),ve (.bool (decide (((cleanV v).k)=5))),ve (gq (!(decide (((cleanV v).k)=5))) (pv aU)),ve (gq (!(decide (((cleanV v).k)=5))) (iv ((cleanV u).k))),ve (gq (!(decide (((cleanV v).k)=5))) (.bool (decide (((cleanV u).k)=5)))),ve (.bool ((decide (((cleanV v).k)=5)) || (decide (((cleanV u).k)=5))))] aW (.eq (.eq (.eq (.eq (.eq (.eq (.eq (.eq (.nil))))))))) ?_ ?_
 exact .f (fun k=>k.fx 4 be)<| .t (fun _ w hn k=>⟨_,v_load rfl (k.eq1 0 17 rfl) (l_one Tryz.isAgg3 ((aX.new_ hn).cell 0)),rfl⟩)<| .t (fun _ w hn k=>⟨_,v_bin rfl (k.eq1 1 18 rfl) rfl (fun _=>rfl) (r_eql rfl),rfl⟩)<| .m (fun k=>k.eq1 2 19 rfl)<| .o1 (sc (G:=(!(decide (((cleanV v).k)=5)))) rfl rfl rfl (fun _ _ k=>g0' (k.eq1 3 20 rfl)) (fun hG _ w hn k=>v_field rfl (k.fx 5 bf) (fun w=>rfl)))<| .o1 (sc (G:=(!(decide (((cleanV v).k)=5)))) rfl rfl rfl (fun _ _ k=>g0' (k.eq1 3 20 rfl)) (fun hG _ w hn k=>v_load rfl (cT hG (k.eq1 4 21 rfl)) (l_one Tryz.isAgg3 ((aY.new_ hn).cell 0))))<| .o1 (sc (G:=(!(decide (((cleanV v).k)=5)))) rfl rfl rfl (fun _ _ k=>g0' (k.eq1 3 20 rfl)) (fun hG _ w hn k=>v_bin rfl (cT hG (k.eq1 5 22 rfl)) rfl (fun _=>rfl) (r_eql rfl)))<| .t (fun _ w hn k=>⟨_,v_or rfl (k.eq1 3 20 rfl) rfl (fun hg=>(cT (nt hg) (k.eq1 6 23 rfl))),rfl⟩) .nil
 refine aftI aW bv bw fun dO dP aZ bF bG ab aj=>?_
 have cP:=aj.fx 0 cM
 have cQ:=aj.fx 4 be
 have cR:=aj.fx 5 bf
 have cS:=aj.fx 6 cN
 have cU:=aj.ge 7 24 rfl
 have bH:=aX.new_ ab
 have bI:=aY.new_ ab
 have bJ:=bx.new_ ab
 have bK:=bz.new_ ab
 have bL:=bA.new_ ab
 have bM:=bB.new_ ab
 have bN:=bC.new_ ab
 refine st_nil (bE _ _ ?_)
 have aH:(((decide (((cleanV v).k)=5)) || (decide (((cleanV u).k)=5))))=false:=(by rw [show ((decide (((cleanV v).k)=5)))=false from decide_eq_false (hk1),show ((decide (((cleanV u).k)=5)))=false from decide_eq_false (hk2)]; rfl)
 have bO:=hB cU aH
 have bP:(decide (((cleanV v).k)=5))=false:=ol aH
 have dn:=oF bP
 have bQ:(decide (((cleanV u).k)=5))=false:=or_ aH
 have dp:=oF bQ
 refine wp_cond_false bO ?_
 refine wp_skip ?_
 refine bD _ _ ?_
 refine wp_seq_k fun dQ bR=>?_
 refine wp_g0 [true,true,true,true,true,true,false,false] [(6,false),(7,true)] 120
   [ve (.string ⟨#[43]⟩),ve (vv (cleanV v) aM ap aN aq),ve (vv (cleanV u) aO ar aG au),(TP (sumsP (cleanV v) (cleanV u)).1 ((sumsP (cleanV v) (cleanV u)).2)),(fun (v_:Value) (W:World)=>∃ (aA:Option Addr) (aB:Nat) (aC:Option Addr) (aD:Nat),v_=vv (sumsP (cleanV v) (cleanV u)).1 aA aB aC aD∧SRow W .u32 aA ((sumsP (cleanV v) (cleanV u)).1.mag) aB∧SRow W .u16 aC ((sumsP (cleanV v) (cleanV u)).1.s) aD),ve (iv ((sumsP (cleanV v) (cleanV u)).2)),vt,vt] aZ (.eq (.eq (.eq (.cons (fun _ _ _ n ⟨_,_,_,_,e,h,i⟩=>⟨_,_,_,_,e,h.new_ n,i.new_ n⟩) (.cons (fun _ _ _ n ⟨_,_,_,_,e,h,i⟩=>⟨_,_,_,_,e,h.new_ n,i.new_ n⟩) (.eq (.tt (.tt (.nil))))))))) ?_ ?_
 refine .m (fun k=>k.fx 0 cP)<| .t (fun _ w hn k=>⟨_,v_load rfl (k.fx 4 cQ) (l_agg Tryz.isAgg29 Tryz.sizeOf29 (bH.new_ hn) rfl),rfl⟩)<| .t (fun _ w hn k=>⟨_,v_load rfl (k.fx 5 cR) (l_agg Tryz.isAgg29 Tryz.sizeOf29 (bI.new_ hn) rfl),rfl⟩) ?_
 refine .o1 (tkC rfl (noG rfl) rfl fun _ w hn k=>(by
       refine ⟨#[.string ⟨#[43]⟩,vv (cleanV v) aM ap aN aq,vv (cleanV u) aO ar aG au],_,args3 (k.eq1 0 30 rfl) (k.eq1 1 31 rfl) (k.eq1 2 32 rfl),fun w=>by kernel_rfl,sumsPl_c (cleanV v) _ _ _ _ (cleanV u) _ _ _ _ _ (bK.new_ hn) (bL.new_ hn) (bM.new_ hn) (bN.new_ hn) hvv.clean hvu.clean,?_⟩
       rintro e w' ⟨dq,dr,ds,dt,rfl,hmo0,hmo1,hm⟩
       exact⟨_,rfl,hm,⟨dq,dr,ds,dt,rfl,hmo0,hmo1⟩⟩)) ?_
 refine .o1 (tk rfl rfl fun _ w hn k=>(by
       obtain⟨dw,dx,dy,dz,dA,cV,cW⟩:(TP (sumsP (cleanV v) (cleanV u)).1 ((sumsP (cleanV v) (cleanV u)).2)) _ _:=k.dep 3 33 (by kernel_rfl) (by kernel_rfl)
       exact⟨_,v_extract rfl dA rfl,⟨dw,dx,dy,dz,rfl,cV,cW⟩⟩)) ?_
 refine .o1 (tk rfl rfl fun _ w hn k=>(by
       obtain⟨aG,d6,d7,d8,dB,dR,dS⟩:(TP (sumsP (cleanV v) (cleanV u)).1 ((sumsP (cleanV v) (cleanV u)).2)) _ _:=k.dep 3 33 (by kernel_rfl) (by kernel_rfl)
       exact⟨_,v_extract rfl dB rfl,rfl⟩)) ?_
 exact .off<| .off .nil
 refine aftI aZ bF bG fun aQ dT a1 bS bT bU aI=>?_
 have bg:=aI.fx 6 cS
 obtain⟨aE,ak,aF,al,aJ,bV,bW⟩:=aI.G 4 34
 have aJ:aQ.eval (.tmp 34)=vv (sumsP (cleanV v) (cleanV u)).1 aE ak aF al:=aJ
 have bh:=aI.ge 5 35 rfl
 have aK:=bJ.new_ bU
 obtain⟨cX,bi,bj,aL,dC⟩:=s_many (P:=Tryz.prog) (t:=29) (i:=0) (c7 (sumsP (cleanV v) (cleanV u)).1 aE ak aF al) Tryz.sizeOf29 rfl rfl rfl aK lb
 have bX:Blk cX a5 29 (c7 (sumsP (cleanV v) (cleanV u)).1 aE ak aF al):=bj
 refine st_act rfl rfl fun dU bY=>a_store' rfl bg aJ bi (bY _ _ trivial ?_)
 have bZ:=bV.fr aK aL
 have b0:=bW.fr aK aL
 have b1:=bT.trans aL (fun _ h b=>by subst b; omega)
 refine st_take rfl rfl (y_assign (v:=iv ((sumsP (cleanV v) (cleanV u)).2)) rfl bh) rfl ?_
 obtain⟨cY,ac⟩:∃ a',a'=aQ.put (some 7) (iv ((sumsP (cleanV v) (cleanV u)).2)):=⟨_,rfl⟩
 have dD:=pz ac a1
 have b2:=pd ac bS
 have cZ:=pn ac bg (by decide)
 have dV:=pn ac aJ (by decide)
 have dW:=pn ac bh (by decide)
 have c0:cY.eval (.tmp 7)=iv ((sumsP (cleanV v) (cleanV u)).2):=by rw [ac]; exact put_same _ _ _ (by rw [a1]; decide)
 show stepsTo _ _ _ _ _ (aQ.put (some 7) (iv ((sumsP (cleanV v) (cleanV u)).2))) _
 rw [← ac]
 refine st_nil (bR _ _ ?_)
 refine wp_ret (ret_k b2 (v:=.tuple #[vv (sumsP (cleanV v) (cleanV u)).1 aE ak aF al,iv ((sumsP (cleanV v) (cleanV u)).2)]) (res_ct rfl cZ c0 (l_agg Tryz.isAgg29 Tryz.sizeOf29 bX rfl)) ?_)
 exact⟨aE,ak,aF,al,rfl,bZ,b0,b1⟩
def bigsMi_c_P  (a:Bool) (Aa:Option Addr) (ma:List Nat) (ca:Nat) (b:Bool) (Ab:Option Addr) (mb:List Nat) (cb:Nat) (w:World) (en:Ending) (w':World):Prop:=∃ (Ar0:Option Addr) (cr0:Nat) (Ar1:Option Addr) (cr1:Nat),en=.returned (.tuple #[vv (bigZ (goodI a ma - goodI b mb)).1 Ar0 cr0 Ar1 cr1,iv ((bigZ (goodI a ma - goodI b mb)).2)])∧SRow w' .u32 Ar0 ((bigZ (goodI a ma - goodI b mb)).1.mag) cr0∧SRow w' .u16 Ar1 ((bigZ (goodI a ma - goodI b mb)).1.s) cr1∧New w w'
theorem bigsMi_c  (a:Bool) (Aa:Option Addr) (ma:List Nat) (ca:Nat) (b:Bool) (Ab:Option Addr) (mb:List Nat) (cb:Nat) (w:World) (hra:SRow w .u32 Aa ma ca) (hrb:SRow w .u32 Ab mb cb) (ha:Limbs ma) (hb:Limbs mb):Calls Tryz.prog 75 #[.string ⟨#[45]⟩,.agg #[.bool a,sv Aa ma ca],.agg #[.bool b,sv Ab mb cb]] w (bigsMi_c_P a Aa ma ca b Ab mb cb w):=by
 refine enter_abs Tryz.func75 rfl fun a0 aB bF hp=>?_
 have aB:a0.tmps.size=60:=aB
 have aC:New w w:=Upd.refl _ _
 have hp0:a0.eval (.tmp 0)=.string ⟨#[45]⟩:=hp 0 _ rfl
 have hp1:a0.eval (.tmp 1)=.agg #[.bool a,sv Aa ma ca]:=hp 1 _ rfl
 have hp2:a0.eval (.tmp 2)=.agg #[.bool b,sv Ab mb cb]:=hp 2 _ rfl
 refine wp_seq_k fun K1 bG=>?_
 refine wp_g [true,true,true,true] [] [] 60
   [IsNew w 26 [.bool a,sv Aa ma ca],IsNew w 26 [.bool b,sv Ab mb cb],IsNew w 29 z7,ve (iv 0)]
   [0,1,2] (newsCons (fun v w h=>IsNew.old h) (newsCons (fun v w h=>IsNew.old h) (newsCons (fun v w h=>IsNew.old h) newsNil))) aB (.nw (.nw (.nw (.eq (.nil))))) ?_ (fun i h=>by cases h) ?_
 exact .o2 (step_allocN (cs:=[.bool a,sv Aa ma ca]) (t:=26) rfl (noG rfl) (fun _ w hn k=>v_box rfl (k.fx 1 hp1) (fun w=>rfl)) (fun q _ hq hb=>⟨q,rfl,hq,hb⟩))<| .o2 (step_allocN (cs:=[.bool b,sv Ab mb cb]) (t:=26) rfl (noG rfl) (fun _ w hn k=>v_box rfl (k.fx 2 hp2) (fun w=>rfl)) (fun q _ hq hb=>⟨q,rfl,hq,hb⟩))<| .o2 (step_allocN (cs:=z7) (t:=29) rfl (noG rfl) (fun _ w hn k=>rfl) (fun q _ hq hb=>⟨q,rfl,hq,hb⟩))<| .t (fun _ w hn k=>⟨_,v_assign rfl rfl,rfl⟩) .nil
 refine aftI aB bF aC fun a2 w3 aS bH a1 cu ar=>?_
 have h8:=ar.fx 0 hp0
 obtain⟨bI,h9,a3,a4⟩:=ar.G 0 4
 obtain⟨bJ,aT,a5,a6⟩:=ar.G 1 5
 obtain⟨aE,aF,a7,a8⟩:=ar.G 2 6
 have hne21:bI ≠ aE:=ar.ne 0 2 4 6 h9 aF
 have hne22:bJ ≠ aE:=ar.ne 1 2 5 6 aT aF
 have ci:=Nat.le_trans aC.size a3
 have cj:=Nat.le_trans aC.size a5
 have cl:=Nat.le_trans aC.size a7
 refine st_nil (bG _ _ (wp_seq_k fun cv cm=>?_))
 refine wp_seq_k fun cw a9=>?_
 refine wp_g0 [true] [] 60
   [ve (.string ⟨#[45]⟩)] aS (.eq (.nil)) ?_ ?_
 exact .m (fun k=>k.fx 0 h8) .nil
 refine aftI aS bH a1 fun cx cy aG ba bb au aj=>?_
 have bK:=aj.fx 0 h8
 have bL:=aj.fx 4 h9
 have bM:=aj.fx 5 aT
 have bN:=aj.fx 6 aF
 have aU:=aj.ge 0 10 rfl
 have bd:=a4.new_ au
 have be:=a6.new_ au
 have bf:=a8.new_ au
 refine st_nil (a9 _ _ ?_)
 refine wp_block ?_
 refine wp_seq_k fun cz bg=>?_
 refine wp_g0 [true,true] [] 60
   [vF,vF] aG (.eq (.eq (.nil))) ?_ ?_
 exact .t (fun _ w hn k=>⟨_,v_bin rfl (k.fx 10 aU) rfl (fun _=>rfl) (r_eqlS (r:=false) (by kernel_rfl)),rfl⟩)<| .a (fun k=>k.eq1 0 12 rfl) .nil
 refine aftI aG ba bb fun cA cB aH bh bi av ah=>?_
 have bO:=ah.fx 0 bK
 have bP:=ah.fx 4 bL
 have bQ:=ah.fx 5 bM
 have bR:=ah.fx 6 bN
 have aV:=ah.fx 10 aU
 have bS:=ah.ge 1 11 rfl
 have bj:=bd.new_ av
 have bk:=be.new_ av
 have bl:=bf.new_ av
 refine st_nil (bg _ _ ?_)
 refine wp_cond_false bS ?_
 refine wp_seq_k fun cC bm=>?_
 refine wp_g0 [true,true] [] 60
   [vT,vT] aH (.eq (.eq (.nil))) ?_ ?_
 exact .t (fun _ w hn k=>⟨_,v_bin rfl (k.fx 10 aV) rfl (fun _=>rfl) (r_eqlS (r:=true) (by kernel_rfl)),rfl⟩)<| .a (fun k=>k.eq1 0 22 rfl) .nil
 refine aftI aH bh bi fun cD cE aI bn aw ax ai=>?_
 have cF:=ai.fx 0 bO
 have bT:=ai.fx 4 bP
 have bU:=ai.fx 5 bQ
 have bV:=ai.fx 6 bR
 have cG:=ai.fx 10 aV
 have bW:=ai.ge 1 21 rfl
 have bo:=bj.new_ ax
 have bp:=bk.new_ ax
 have bq:=bl.new_ ax
 refine st_nil (bm _ _ ?_)
 refine wp_cond_true bW ?_
 refine wp_seq_k fun cH br=>?_
 refine wp_g0 [true,true,true,true,true,true,true,true,false,false] [(8,false),(9,true)] 60
   [ve (.agg #[.bool a,sv Aa ma ca]),ve (.agg #[.bool b,sv Ab mb cb]),(fun (v_:Value) (W:World)=>∃ (A3:Option Addr) (c4:Nat),v_=.tuple #[.agg #[.bool (decide ((capI (goodI a ma - goodI b mb)) < 0)),sv A3 (canon ((capI (goodI a ma - goodI b mb))).natAbs) c4],.bool (okI (goodI a ma - goodI b mb))]∧SRow W .u32 A3 (canon ((capI (goodI a ma - goodI b mb))).natAbs) c4),(fun (v_:Value) (W:World)=>∃ (A9:Option Addr) (ak:Nat),v_=.agg #[.bool (decide ((capI (goodI a ma - goodI b mb)) < 0)),sv A9 (canon ((capI (goodI a ma - goodI b mb))).natAbs) ak]∧SRow W .u32 A9 (canon ((capI (goodI a ma - goodI b mb))).natAbs) ak),ve (.bool (okI (goodI a ma - goodI b mb))),(TP (biggedV (decide ((capI (goodI a ma - goodI b mb)) < 0)) (canon ((capI (goodI a ma - goodI b mb))).natAbs) (okI (goodI a ma - goodI b mb))).1 ((biggedV (decide ((capI (goodI a ma - goodI b mb)) < 0)) (canon ((capI (goodI a ma - goodI b mb))).natAbs) (okI (goodI a ma - goodI b mb))).2)),(fun (v_:Value) (W:World)=>∃ (al:Option Addr) (am:Nat) (an:Option Addr) (ao:Nat),v_=vv (biggedV (decide ((capI (goodI a ma - goodI b mb)) < 0)) (canon ((capI (goodI a ma - goodI b mb))).natAbs) (okI (goodI a ma - goodI b mb))).1 al am an ao∧SRow W .u32 al ((biggedV (decide ((capI (goodI a ma - goodI b mb)) < 0)) (canon ((capI (goodI a ma - goodI b mb))).natAbs) (okI (goodI a ma - goodI b mb))).1.mag) am∧SRow W .u16 an ((biggedV (decide ((capI (goodI a ma - goodI b mb)) < 0)) (canon ((capI (goodI a ma - goodI b mb))).natAbs) (okI (goodI a ma - goodI b mb))).1.s) ao),ve (iv ((biggedV (decide ((capI (goodI a ma - goodI b mb)) < 0)) (canon ((capI (goodI a ma - goodI b mb))).natAbs) (okI (goodI a ma - goodI b mb))).2)),vt,vt] aI (.eq (.eq (.cons (fun _ _ _ n ⟨_,_,e,h⟩=>⟨_,_,e,h.new_ n⟩) (.cons (fun _ _ _ n ⟨_,_,e,h⟩=>⟨_,_,e,h.new_ n⟩) (.eq (.cons (fun _ _ _ n ⟨_,_,_,_,e,h,i⟩=>⟨_,_,_,_,e,h.new_ n,i.new_ n⟩) (.cons (fun _ _ _ n ⟨_,_,_,_,e,h,i⟩=>⟨_,_,_,_,e,h.new_ n,i.new_ n⟩) (.eq (.tt (.tt (.nil))))))))))) ?_ ?_
 refine .t (fun _ w hn k=>⟨_,v_load rfl (k.fx 4 bT) (l_two Tryz.isAgg26 Tryz.sizeOf26 (bo.new_ hn)),rfl⟩)<| .t (fun _ w hn k=>⟨_,v_load rfl (k.fx 5 bU) (l_two Tryz.isAgg26 Tryz.sizeOf26 (bp.new_ hn)),rfl⟩) ?_
 refine .o1 (tkC rfl (noG rfl) rfl fun _ w hn k=>(by
       refine ⟨#[.agg #[.bool a,sv Aa ma ca],.agg #[.bool b,sv Ab mb cb]],_,args2 (k.eq1 0 23 rfl) (k.eq1 1 24 rfl),fun w=>by kernel_rfl,bSub_c a _ ma _ b _ mb _ _ (hra.new_ (aw.transNew hn)) (hrb.new_ (aw.transNew hn)) ha hb,?_⟩
       rintro e w' ⟨A1,c2,rfl,hmo0,hm⟩
       exact⟨_,rfl,hm,⟨A1,c2,rfl,hmo0⟩⟩)) ?_
 refine .o1 (tk rfl rfl fun _ w hn k=>(by
       obtain⟨A5,c6,e7,bX⟩:(fun (v_:Value) (W:World)=>∃ (A3:Option Addr) (c4:Nat),v_=.tuple #[.agg #[.bool (decide ((capI (goodI a ma - goodI b mb)) < 0)),sv A3 (canon ((capI (goodI a ma - goodI b mb))).natAbs) c4],.bool (okI (goodI a ma - goodI b mb))]∧SRow W .u32 A3 (canon ((capI (goodI a ma - goodI b mb))).natAbs) c4) _ _:=k.dep 2 25 (by kernel_rfl) (by kernel_rfl)
       exact⟨_,v_extract rfl e7 rfl,⟨A5,c6,rfl,bX⟩⟩)) ?_
 refine .o1 (tk rfl rfl fun _ w hn k=>(by
       obtain⟨cI,cJ,bY,cn⟩:(fun (v_:Value) (W:World)=>∃ (A3:Option Addr) (c4:Nat),v_=.tuple #[.agg #[.bool (decide ((capI (goodI a ma - goodI b mb)) < 0)),sv A3 (canon ((capI (goodI a ma - goodI b mb))).natAbs) c4],.bool (okI (goodI a ma - goodI b mb))]∧SRow W .u32 A3 (canon ((capI (goodI a ma - goodI b mb))).natAbs) c4) _ _:=k.dep 2 25 (by kernel_rfl) (by kernel_rfl)
       exact⟨_,v_extract rfl bY rfl,rfl⟩)) ?_
 refine .o1 (tkC rfl (noG rfl) rfl fun _ w hn k=>(by
       obtain⟨bZ,b0,b1,bs⟩:(fun (v_:Value) (W:World)=>∃ (A9:Option Addr) (ak:Nat),v_=.agg #[.bool (decide ((capI (goodI a ma - goodI b mb)) < 0)),sv A9 (canon ((capI (goodI a ma - goodI b mb))).natAbs) ak]∧SRow W .u32 A9 (canon ((capI (goodI a ma - goodI b mb))).natAbs) ak) _ _:=k.dep 3 26 (by kernel_rfl) (by kernel_rfl)
       refine ⟨#[.agg #[.bool (decide ((capI (goodI a ma - goodI b mb)) < 0)),sv bZ (canon ((capI (goodI a ma - goodI b mb))).natAbs) b0],.bool (okI (goodI a ma - goodI b mb))],_,args2 b1 (k.eq1 4 27 rfl),fun w=>by kernel_rfl,bigged_c (decide ((capI (goodI a ma - goodI b mb)) < 0)) _ (canon ((capI (goodI a ma - goodI b mb))).natAbs) _ (okI (goodI a ma - goodI b mb)) _ bs,?_⟩
       rintro e w' ⟨b2,b3,b4,b5,rfl,hmo0,hmo1,hm⟩
       exact⟨_,rfl,hm,⟨b2,b3,b4,b5,rfl,hmo0,hmo1⟩⟩)) ?_
 refine .o1 (tk rfl rfl fun _ w hn k=>(by
       obtain⟨b6,b7,b8,b9,cc,bt,bu⟩:(TP (biggedV (decide ((capI (goodI a ma - goodI b mb)) < 0)) (canon ((capI (goodI a ma - goodI b mb))).natAbs) (okI (goodI a ma - goodI b mb))).1 ((biggedV (decide ((capI (goodI a ma - goodI b mb)) < 0)) (canon ((capI (goodI a ma - goodI b mb))).natAbs) (okI (goodI a ma - goodI b mb))).2)) _ _:=k.dep 5 28 (by kernel_rfl) (by kernel_rfl)
       exact⟨_,v_extract rfl cc rfl,⟨b6,b7,b8,b9,rfl,bt,bu⟩⟩)) ?_
 refine .o1 (tk rfl rfl fun _ w hn k=>(by
       obtain⟨cK,cL,cM,cN,cd,co,cp⟩:(TP (biggedV (decide ((capI (goodI a ma - goodI b mb)) < 0)) (canon ((capI (goodI a ma - goodI b mb))).natAbs) (okI (goodI a ma - goodI b mb))).1 ((biggedV (decide ((capI (goodI a ma - goodI b mb)) < 0)) (canon ((capI (goodI a ma - goodI b mb))).natAbs) (okI (goodI a ma - goodI b mb))).2)) _ _:=k.dep 5 28 (by kernel_rfl) (by kernel_rfl)
       exact⟨_,v_extract rfl cd rfl,rfl⟩)) ?_
 exact .off<| .off .nil
 refine aftI aI bn aw fun aJ cO aK bv bw bx ay=>?_
 have aW:=ay.fx 6 bV
 obtain⟨ap,af,aq,ag,aD,bz,bA⟩:=ay.G 6 29
 have aD:aJ.eval (.tmp 29)=vv (biggedV (decide ((capI (goodI a ma - goodI b mb)) < 0)) (canon ((capI (goodI a ma - goodI b mb))).natAbs) (okI (goodI a ma - goodI b mb))).1 ap af aq ag:=aD
 have aX:=ay.ge 7 30 rfl
 have az:=bq.new_ bx
 obtain⟨ce,aL,aM,aA,cf⟩:=s_many (P:=Tryz.prog) (t:=29) (i:=0) (c7 (biggedV (decide ((capI (goodI a ma - goodI b mb)) < 0)) (canon ((capI (goodI a ma - goodI b mb))).natAbs) (okI (goodI a ma - goodI b mb))).1 ap af aq ag) Tryz.sizeOf29 rfl rfl rfl az lb
 have bB:Blk ce aE 29 (c7 (biggedV (decide ((capI (goodI a ma - goodI b mb)) < 0)) (canon ((capI (goodI a ma - goodI b mb))).natAbs) (okI (goodI a ma - goodI b mb))).1 ap af aq ag):=aM
 refine st_act rfl rfl fun cq aN=>a_store' rfl aW aD aL (aN _ _ trivial ?_)
 have aO:=bz.fr az aA
 have aP:=bA.fr az aA
 have aQ:=bw.trans aA (fun _ h b=>by subst b; omega)
 refine st_take rfl rfl (y_assign (v:=iv ((biggedV (decide ((capI (goodI a ma - goodI b mb)) < 0)) (canon ((capI (goodI a ma - goodI b mb))).natAbs) (okI (goodI a ma - goodI b mb))).2)) rfl aX) rfl ?_
 obtain⟨bC,aa⟩:∃ a',a'=aJ.put (some 7) (iv ((biggedV (decide ((capI (goodI a ma - goodI b mb)) < 0)) (canon ((capI (goodI a ma - goodI b mb))).natAbs) (okI (goodI a ma - goodI b mb))).2)):=⟨_,rfl⟩
 have ch:=pz aa aK
 have aR:=pd aa bv
 have bD:=pn aa aW (by decide)
 have cr:=pn aa aD (by decide)
 have ct:=pn aa aX (by decide)
 have bE:bC.eval (.tmp 7)=iv ((biggedV (decide ((capI (goodI a ma - goodI b mb)) < 0)) (canon ((capI (goodI a ma - goodI b mb))).natAbs) (okI (goodI a ma - goodI b mb))).2):=by rw [aa]; exact put_same _ _ _ (by rw [aK]; decide)
 show stepsTo _ _ _ _ _ (aJ.put (some 7) (iv ((biggedV (decide ((capI (goodI a ma - goodI b mb)) < 0)) (canon ((capI (goodI a ma - goodI b mb))).natAbs) (okI (goodI a ma - goodI b mb))).2))) _
 rw [← aa]
 refine st_nil (br _ _ ?_)
 refine wp_ret (ret_k aR (v:=.tuple #[vv (biggedV (decide ((capI (goodI a ma - goodI b mb)) < 0)) (canon ((capI (goodI a ma - goodI b mb))).natAbs) (okI (goodI a ma - goodI b mb))).1 ap af aq ag,iv ((biggedV (decide ((capI (goodI a ma - goodI b mb)) < 0)) (canon ((capI (goodI a ma - goodI b mb))).natAbs) (okI (goodI a ma - goodI b mb))).2)]) (res_ct rfl bD bE (l_agg Tryz.isAgg29 Tryz.sizeOf29 bB rfl)) ?_)
 have aY:(bigZ (goodI a ma - goodI b mb)).1.mag=(biggedV (decide ((capI (goodI a ma - goodI b mb)) < 0)) (canon ((capI (goodI a ma - goodI b mb))).natAbs) (okI (goodI a ma - goodI b mb))).1.mag:=by first|rfl|(simp only [bigZ,bsm] <;> rfl)|(exfalso; omega)
 have aZ:(bigZ (goodI a ma - goodI b mb)).1.s=(biggedV (decide ((capI (goodI a ma - goodI b mb)) < 0)) (canon ((capI (goodI a ma - goodI b mb))).natAbs) (okI (goodI a ma - goodI b mb))).1.s:=by first|rfl|(simp only [bigZ,bsm] <;> rfl)|(exfalso; omega)
 exact⟨ap,af,aq,ag,(by show Ending.returned (.tuple #[vv (biggedV (decide ((capI (goodI a ma - goodI b mb)) < 0)) (canon ((capI (goodI a ma - goodI b mb))).natAbs) (okI (goodI a ma - goodI b mb))).1 ap af aq ag,iv ((biggedV (decide ((capI (goodI a ma - goodI b mb)) < 0)) (canon ((capI (goodI a ma - goodI b mb))).natAbs) (okI (goodI a ma - goodI b mb))).2)])=Ending.returned (.tuple #[vv (bigZ (goodI a ma - goodI b mb)).1 ap af aq ag,iv ((bigZ (goodI a ma - goodI b mb)).2)]); (first|rfl|(simp only [bigZ,aY,aZ,bsm] <;> rfl)|(exfalso; omega))),(by rw [aY]; exact aO),(by rw [aZ]; exact aP),aQ⟩
def sumsMi_c_P  (v:Vl) (Av:Option Addr) (cv:Nat) (Bv:Option Addr) (dv:Nat) (u:Vl) (Au:Option Addr) (cu:Nat) (Bu:Option Addr) (du:Nat) (w:World) (en:Ending) (w':World):Prop:=∃ (Ar0:Option Addr) (cr0:Nat) (Ar1:Option Addr) (cr1:Nat),en=.returned (.tuple #[vv (sumsM v u).1 Ar0 cr0 Ar1 cr1,iv ((sumsM v u).2)])∧SRow w' .u32 Ar0 ((sumsM v u).1.mag) cr0∧SRow w' .u16 Ar1 ((sumsM v u).1.s) cr1∧New w w'
theorem sumsMi_c  (v:Vl) (Av:Option Addr) (cv:Nat) (Bv:Option Addr) (dv:Nat) (u:Vl) (Au:Option Addr) (cu:Nat) (Bu:Option Addr) (du:Nat) (w:World) (hmv:SRow w .u32 Av v.mag cv) (hsv:SRow w .u16 Bv v.s dv) (hmu:SRow w .u32 Au u.mag cu) (hsu:SRow w .u16 Bu u.s du) (hvv:VOk v) (hvu:VOk u):Calls Tryz.prog 36 #[.string ⟨#[45]⟩,vv v Av cv Bv dv,vv u Au cu Bu du] w (sumsMi_c_P v Av cv Bv dv u Au cu Bu du w):=by
 refine enter_abs Tryz.func36 rfl fun a0 bB ft hp=>?_
 have bB:a0.tmps.size=92:=bB
 have bC:New w w:=Upd.refl _ _
 have hp0:a0.eval (.tmp 0)=.string ⟨#[45]⟩:=hp 0 _ rfl
 have hp1:a0.eval (.tmp 1)=vv v Av cv Bv dv:=hp 1 _ rfl
 have hp2:a0.eval (.tmp 2)=vv u Au cu Bu du:=hp 2 _ rfl
 refine wp_seq_k fun K1 fu=>?_
 refine wp_g [true,true,true,true] [] [] 92
   [IsNew w 29 (c7 v Av cv Bv dv),IsNew w 29 (c7 u Au cu Bu du),IsNew w 29 z7,ve (iv 0)]
   [0,1,2] (newsCons (fun v w h=>IsNew.old h) (newsCons (fun v w h=>IsNew.old h) (newsCons (fun v w h=>IsNew.old h) newsNil))) bB (.nw (.nw (.nw (.eq (.nil))))) ?_ (fun i h=>by cases h) ?_
 exact .o2 (step_allocN (cs:=(c7 v Av cv Bv dv)) (t:=29) rfl (noG rfl) (fun _ w hn k=>v_box rfl (k.fx 1 hp1) (fun w=>rfl)) (fun q _ hq hb=>⟨q,rfl,hq,hb⟩))<| .o2 (step_allocN (cs:=(c7 u Au cu Bu du)) (t:=29) rfl (noG rfl) (fun _ w hn k=>v_box rfl (k.fx 2 hp2) (fun w=>rfl)) (fun q _ hq hb=>⟨q,rfl,hq,hb⟩))<| .o2 (step_allocN (cs:=z7) (t:=29) rfl (noG rfl) (fun _ w hn k=>rfl) (fun q _ hq hb=>⟨q,rfl,hq,hb⟩))<| .t (fun _ w hn k=>⟨_,v_assign rfl rfl,rfl⟩) .nil
 refine aftI bB ft bC fun a2 w3 ee fv aF hh bi=>?_
 have h8:=bi.fx 0 hp0
 obtain⟨fw,h9,ej,ek⟩:=bi.G 0 4
 obtain⟨fy,ef,el,em⟩:=bi.G 1 5
 obtain⟨aT,bX,en,bw⟩:=bi.G 2 6
 have hne21:fw ≠ aT:=bi.ne 0 2 4 6 h9 bX
 have hne22:fy ≠ aT:=bi.ne 1 2 5 6 ef bX
 have gi:=Nat.le_trans bC.size ej
 have gj:=Nat.le_trans bC.size el
 have gk:=Nat.le_trans bC.size en
 refine st_nil (fu _ _ (wp_seq_k fun hi eo=>?_))
 refine wp_gS (fun W=>True) (fun W W' hn h=>trivial) trivial [true,true,true,true,true,true,true,true,true,false,false,false] [5,6] [(9,false),(10,false),(11,true)] 92
   [ve (vv v Av cv Bv dv),ve (vv u Au cu Bu du),(TQ (numericsV v u).1 (numericsV v u).2.1 ((numericsV v u).2.2)),(TQ (numericsV v u).1 (numericsV v u).2.1 ((numericsV v u).2.2)),(fun (v_:Value) (W:World)=>∃ (a3:Option Addr) (a4:Nat) (a5:Option Addr) (a6:Nat),v_=vv (numericsV v u).1 a3 a4 a5 a6∧SRow W .u32 a3 ((numericsV v u).1.mag) a4∧SRow W .u16 a5 ((numericsV v u).1.s) a6),(fun (v_:Value) (W:World)=>∃ (a7:Option Addr) (a8:Nat) (a9:Option Addr) (ba:Nat),v_=vv (numericsV v u).2.1 a7 a8 a9 ba∧SRow W .u32 a7 ((numericsV v u).2.1.mag) a8∧SRow W .u16 a9 ((numericsV v u).2.1.s) ba),ve (iv ((numericsV v u).2.2)),IsNew w3 29 z7,IsNew w3 29 z7,vt,vt,vt]
   [7,8] (newsCons (fun v w h=>IsNew.old h) (newsCons (fun v w h=>IsNew.old h) newsNil)) ee (.eq (.eq (.cons (fun _ _ _ n ⟨_,_,_,_,_,_,_,_,e,h,i,j,l⟩=>⟨_,_,_,_,_,_,_,_,e,h.new_ n,i.new_ n,j.new_ n,l.new_ n⟩) (.cons (fun _ _ _ n ⟨_,_,_,_,_,_,_,_,e,h,i,j,l⟩=>⟨_,_,_,_,_,_,_,_,e,h.new_ n,i.new_ n,j.new_ n,l.new_ n⟩) (.cons (fun _ _ _ n ⟨_,_,_,_,e,h,i⟩=>⟨_,_,_,_,e,h.new_ n,i.new_ n⟩) (.cons (fun _ _ _ n ⟨_,_,_,_,e,h,i⟩=>⟨_,_,_,_,e,h.new_ n,i.new_ n⟩) (.eq (.nw (.nw (.tt (.tt (.tt (.nil))))))))))))) ?_ ?_ ?_
 refine .t (fun _ w hn k=>⟨_,v_load rfl (k.fx 4 h9) (l_agg Tryz.isAgg29 Tryz.sizeOf29 (ek.new_ hn) rfl),rfl⟩)<| .t (fun _ w hn k=>⟨_,v_load rfl (k.fx 5 ef) (l_agg Tryz.isAgg29 Tryz.sizeOf29 (em.new_ hn) rfl),rfl⟩) ?_
 refine .o1 (tkC rfl (noG rfl) rfl fun _ w hn k=>(by
       refine ⟨#[vv v Av cv Bv dv,vv u Au cu Bu du],_,args2 (k.eq1 0 12 rfl) (k.eq1 1 13 rfl),fun w=>by kernel_rfl,numerics_c v _ _ _ _ u _ _ _ _ _ (hmv.new_ (aF.transNew hn)) (hsv.new_ (aF.transNew hn)) (hmu.new_ (aF.transNew hn)) (hsu.new_ (aF.transNew hn)) hvv hvu,?_⟩
       rintro e w' ⟨A1,c2,A3,c4,A5,c6,A7,c8,rfl,hmo0,hmo1,hmo2,hmo3,hm⟩
       exact⟨_,rfl,hm,⟨A1,c2,A3,c4,A5,c6,A7,c8,rfl,hmo0,hmo1,hmo2,hmo3⟩⟩)) ?_
 refine .o1 (tk rfl rfl fun _ w hn k=>(by
       obtain⟨fz,fA,fB,fC,fD,fE,fF,fG,fH,ep,er,es,et⟩:(TQ (numericsV v u).1 (numericsV v u).2.1 ((numericsV v u).2.2)) _ _:=k.dep 2 14 (by kernel_rfl) (by kernel_rfl)
       exact⟨_,v_move rfl fH,⟨fz,fA,fB,fC,fD,fE,fF,fG,rfl,ep,er,es,et⟩⟩)) ?_
 refine .o1 (tk rfl rfl fun _ w hn k=>(by
       obtain⟨fI,fJ,bt,fK,hj,hl,bj,ho,fL,eu,ev,gl,gm⟩:(TQ (numericsV v u).1 (numericsV v u).2.1 ((numericsV v u).2.2)) _ _:=k.dep 3 11 (by kernel_rfl) (by kernel_rfl)
       exact⟨_,v_extract rfl fL rfl,⟨fI,fJ,bt,fK,rfl,eu,ev⟩⟩)) ?_
 refine .o3 ?_
 refine .o3 ?_
 exact .o2 (step_allocN (cs:=z7) (t:=29) rfl (noG rfl) (fun _ w hn k=>rfl) (fun q _ hq hb=>⟨q,rfl,hq,hb⟩))<| .o2 (step_allocN (cs:=z7) (t:=29) rfl (noG rfl) (fun _ w hn k=>rfl) (fun q _ hq hb=>⟨q,rfl,hq,hb⟩))<| .off<| .off<| .off .nil
 intro i h
 simp only [List.contains_eq_mem,List.mem_cons,List.not_mem_nil,or_false,decide_eq_true_eq] at h
 rcases h with rfl|rfl
 exact eager_takeG rfl (noG rfl) fun _ w hn k=>(by
     obtain⟨hr,hs,ht,hu,fM,fN,fO,fP,fQ,gn,go,ew,ex⟩:(TQ (numericsV v u).1 (numericsV v u).2.1 ((numericsV v u).2.2)) _ _:=k.dep 3 11 (by kernel_rfl) (by kernel_rfl)
     exact⟨_,fun w hS=>v_extract rfl fQ rfl,⟨fM,fN,fO,fP,rfl,ew,ex⟩⟩)
 exact eager_takeG rfl (noG rfl) fun _ w hn k=>(by
     obtain⟨hv,hw,hx,hy,hz,hA,hC,hD,fR,gp,gq,gr,gs⟩:(TQ (numericsV v u).1 (numericsV v u).2.1 ((numericsV v u).2.2)) _ _:=k.dep 3 11 (by kernel_rfl) (by kernel_rfl)
     exact⟨_,fun w hS=>v_extract rfl fR rfl,rfl⟩)
 intro bD hE _ bY ap
 obtain⟨bZ,ey,ez⟩:=aft ap ee fv aF bY
 have fS:=ap.fx 0 h8
 have fT:=ap.fx 6 bX
 obtain⟨bu,bb,bt,bx,bE,eA,eB⟩:=ap.G 4 15
 have bE:bD.eval (.tmp 15)=vv (numericsV v u).1 bu bb bt bx:=bE
 obtain⟨bj,bd,b0,bz,bF,eC,eD⟩:=ap.G 5 16
 have bF:bD.eval (.tmp 16)=vv (numericsV v u).2.1 bj bd b0 bz:=bF
 have eg:=ap.ge 6 17 rfl
 obtain⟨bk,b1,b2,be⟩:=ap.G 7 8
 obtain⟨bv,b3,b4,eE⟩:=ap.G 8 9
 have eF:=bw.new_ bY
 have hne60:bk ≠ bv:=ap.ne 7 8 8 9 b1 b3
 have hne61:aT ≠ bk:=by have h1:=bw.lt; have h2:=b2; omega
 have hne62:aT ≠ bv:=by have h1:=bw.lt; have h2:=b4; omega
 have gt:=Nat.le_trans aF.size b2
 have gu:=Nat.le_trans aF.size b4
 obtain⟨fU,cN,cO,bf,b5⟩:=s_many (P:=Tryz.prog) (t:=29) (i:=0) (c7 (numericsV v u).1 bu bb bt bx) Tryz.sizeOf29 rfl rfl rfl be lb
 have eG:Blk fU bk 29 (c7 (numericsV v u).1 bu bb bt bx):=cO
 refine st_act rfl rfl fun hF eH=>a_store' rfl b1 bE cN (eH _ _ trivial ?_)
 have eI:=eA.fr be bf
 have eJ:=eB.fr be bf
 have eK:=eC.fr be bf
 have eL:=eD.fr be bf
 have eM:=b5 _ _ _ (hne61) eF
 have bg:=b5 _ _ _ (fun h=>hne60 h.symm) eE
 have eN:=ez.trans bf (fun _ h b=>by subst b; omega)
 obtain⟨fV,cP,cQ,bh,b6⟩:=s_many (P:=Tryz.prog) (t:=29) (i:=0) (c7 (numericsV v u).2.1 bj bd b0 bz) Tryz.sizeOf29 rfl rfl rfl bg lb
 have b7:Blk fV bv 29 (c7 (numericsV v u).2.1 bj bd b0 bz):=cQ
 refine st_act rfl rfl fun hG eO=>a_store' rfl b3 bF cP (eO _ _ trivial ?_)
 have b8:=eI.fr bg bh
 have b9:=eJ.fr bg bh
 have ca:=eK.fr bg bh
 have cb:=eL.fr bg bh
 have cc:=b6 _ _ _ (hne62) eM
 have cd:=b6 _ _ _ (hne60) eG
 have ce:=eN.trans bh (fun _ h b=>by subst b; omega)
 refine st_take rfl rfl (y_assign (v:=iv ((numericsV v u).2.2)) rfl eg) rfl ?_
 obtain⟨fW,ac⟩:∃ a',a'=bD.put (some 10) (iv ((numericsV v u).2.2)):=⟨_,rfl⟩
 have bl:=pz ac bZ
 have cf:=pd ac ey
 have eh:=pn ac fS (by decide)
 have ei:=pn ac fT (by decide)
 have gv:=pn ac bE (by decide)
 have gw:=pn ac bF (by decide)
 have gx:=pn ac eg (by decide)
 have ch:=pn ac b1 (by decide)
 have ci:=pn ac b3 (by decide)
 have bm:fW.eval (.tmp 10)=iv ((numericsV v u).2.2):=by rw [ac]; exact put_same _ _ _ (by rw [bZ]; decide)
 show stepsTo _ _ _ _ _ (bD.put (some 10) (iv ((numericsV v u).2.2))) _
 rw [← ac]
 refine st_nil (eo _ _ (wp_seq_k fun gy cR=>?_))
 refine wp_block ?_
 refine wp_seq_k fun gz bG=>?_
 rcases bc (decide (((numericsV v u).2.2)=0)) with aa|aa
 have cj:=oT aa
 refine wp_g0 [true,true,true] [] 92
   [ve (iv ((numericsV v u).2.2)),vF,vF] bl (.eq (.eq (.eq (.nil)))) ?_ ?_
 exact .m (fun k=>k.fx 10 bm)<| .t (fun _ w hn k=>⟨_,v_bin rfl (k.eq1 0 19 rfl) rfl (fun _=>rfl) (r_neq aa),rfl⟩)<| .a (fun k=>k.eq1 1 20 rfl) .nil
 refine aftI bl cf ce fun gA gB bH cS cT aq aD=>?_
 have eP:=aD.fx 0 eh
 have eQ:=aD.fx 6 ei
 have cl:=aD.fx 8 ch
 have eR:=aD.fx 9 ci
 have gC:=aD.fx 10 bm
 have eS:=aD.ge 2 18 rfl
 have cU:=cc.new_ aq
 have bI:=cd.new_ aq
 have cV:=b7.new_ aq
 have cW:=b8.new_ aq
 have cX:=b9.new_ aq
 have cY:=ca.new_ aq
 have cZ:=cb.new_ aq
 refine st_nil (bG _ _ ?_)
 refine wp_cond_false eS ?_
 refine wp_seq_k fun gD c0=>?_
 refine wp_g0 [true,true,true,true] [] 92
   [ve (pv bk),ve (iv ((numericsV v u).1.k)),ve (.bool (decide (((numericsV v u).1.k)=4))),ve (.bool (decide (((numericsV v u).1.k)=4)))] bH (.eq (.eq (.eq (.eq (.nil))))) ?_ ?_
 exact .f (fun k=>k.fx 8 cl)<| .t (fun _ w hn k=>⟨_,v_load rfl (k.eq1 0 24 rfl) (l_one Tryz.isAgg3 ((bI.new_ hn).cell 0)),rfl⟩)<| .t (fun _ w hn k=>⟨_,v_bin rfl (k.eq1 1 25 rfl) rfl (fun _=>rfl) (r_eql rfl),rfl⟩)<| .a (fun k=>k.eq1 2 26 rfl) .nil
 refine aftI bH cS cT fun gE gF aR bJ bK ar aM=>?_
 have cm:=aM.fx 0 eP
 have cn:=aM.fx 6 eQ
 have co:=aM.fx 8 cl
 have cp:=aM.fx 9 eR
 have cq:=aM.ge 3 23 rfl
 have bL:=cU.new_ ar
 have bM:=bI.new_ ar
 have bN:=cV.new_ ar
 have bO:=cW.new_ ar
 have c1:=cX.new_ ar
 have bP:=cY.new_ ar
 have c3:=cZ.new_ ar
 refine st_nil (c0 _ _ ?_)
 rcases bc (decide (((numericsV v u).1.k)=4)) with ab|ab
 have cr:=oT ab
 have c5:=hB cq ab
 refine wp_cond_true c5 ?_
 refine wp_seq_k fun gG c9=>?_
 refine wp_g0 [true,true,true,true,true,true,true,true,false,false] [(8,false),(9,true)] 92
   [ve (.string ⟨#[45]⟩),ve (.pointer (some ⟨bk,3,none⟩)),ve (.agg #[.bool ((numericsV v u).1.neg),sv bu ((numericsV v u).1.mag) bb]),ve (.pointer (some ⟨bv,3,none⟩)),ve (.agg #[.bool ((numericsV v u).2.1.neg),sv bj ((numericsV v u).2.1.mag) bd]),(TP (bigZ (goodI ((numericsV v u).1.neg) ((numericsV v u).1.mag) - goodI ((numericsV v u).2.1.neg) ((numericsV v u).2.1.mag))).1 ((bigZ (goodI ((numericsV v u).1.neg) ((numericsV v u).1.mag) - goodI ((numericsV v u).2.1.neg) ((numericsV v u).2.1.mag))).2)),(fun (v_:Value) (W:World)=>∃ (aG:Option Addr) (aH:Nat) (aI:Option Addr) (aJ:Nat),v_=vv (bigZ (goodI ((numericsV v u).1.neg) ((numericsV v u).1.mag) - goodI ((numericsV v u).2.1.neg) ((numericsV v u).2.1.mag))).1 aG aH aI aJ∧SRow W .u32 aG ((bigZ (goodI ((numericsV v u).1.neg) ((numericsV v u).1.mag) - goodI ((numericsV v u).2.1.neg) ((numericsV v u).2.1.mag))).1.mag) aH∧SRow W .u16 aI ((bigZ (goodI ((numericsV v u).1.neg) ((numericsV v u).1.mag) - goodI ((numericsV v u).2.1.neg) ((numericsV v u).2.1.mag))).1.s) aJ),ve (iv ((bigZ (goodI ((numericsV v u).1.neg) ((numericsV v u).1.mag) - goodI ((numericsV v u).2.1.neg) ((numericsV v u).2.1.mag))).2)),vt,vt] aR (.eq (.eq (.eq (.eq (.eq (.cons (fun _ _ _ n ⟨_,_,_,_,e,h,i⟩=>⟨_,_,_,_,e,h.new_ n,i.new_ n⟩) (.cons (fun _ _ _ n ⟨_,_,_,_,e,h,i⟩=>⟨_,_,_,_,e,h.new_ n,i.new_ n⟩) (.eq (.tt (.tt (.nil))))))))))) ?_ ?_
 refine .m (fun k=>k.fx 0 cm)<| .f (fun k=>k.fx 8 co)<| .t (fun _ w hn k=>⟨_,v_load rfl (k.eq1 1 28 rfl) (l_part Tryz.isAgg26 Tryz.sizeOf26 (bM.new_ hn) lb),rfl⟩)<| .f (fun k=>k.fx 9 cp)<| .t (fun _ w hn k=>⟨_,v_load rfl (k.eq1 3 30 rfl) (l_part Tryz.isAgg26 Tryz.sizeOf26 (bN.new_ hn) lb),rfl⟩) ?_
 refine .o1 (tkC rfl (noG rfl) rfl fun _ w hn k=>(by
       refine ⟨#[.string ⟨#[45]⟩,.agg #[.bool ((numericsV v u).1.neg),sv bu ((numericsV v u).1.mag) bb],.agg #[.bool ((numericsV v u).2.1.neg),sv bj ((numericsV v u).2.1.mag) bd]],_,args3 (k.eq1 0 27 rfl) (k.eq1 2 29 rfl) (k.eq1 4 31 rfl),fun w=>by kernel_rfl,bigsMi_c ((numericsV v u).1.neg) _ ((numericsV v u).1.mag) _ ((numericsV v u).2.1.neg) _ ((numericsV v u).2.1.mag) _ _ (bO.new_ hn) (bP.new_ hn) (VOk.numerics1 hvv hvu).limbs (VOk.numerics2 hvv hvu).limbs,?_⟩
       rintro e w' ⟨fX,eT,eU,eV,rfl,hmo0,hmo1,hm⟩
       exact⟨_,rfl,hm,⟨fX,eT,eU,eV,rfl,hmo0,hmo1⟩⟩)) ?_
 refine .o1 (tk rfl rfl fun _ w hn k=>(by
       obtain⟨eW,eX,eY,eZ,e0,da,db⟩:(TP (bigZ (goodI ((numericsV v u).1.neg) ((numericsV v u).1.mag) - goodI ((numericsV v u).2.1.neg) ((numericsV v u).2.1.mag))).1 ((bigZ (goodI ((numericsV v u).1.neg) ((numericsV v u).1.mag) - goodI ((numericsV v u).2.1.neg) ((numericsV v u).2.1.mag))).2)) _ _:=k.dep 5 32 (by kernel_rfl) (by kernel_rfl)
       exact⟨_,v_extract rfl e0 rfl,⟨eW,eX,eY,eZ,rfl,da,db⟩⟩)) ?_
 refine .o1 (tk rfl rfl fun _ w hn k=>(by
       obtain⟨gH,gI,gJ,gK,e1,fY,fZ⟩:(TP (bigZ (goodI ((numericsV v u).1.neg) ((numericsV v u).1.mag) - goodI ((numericsV v u).2.1.neg) ((numericsV v u).2.1.mag))).1 ((bigZ (goodI ((numericsV v u).1.neg) ((numericsV v u).1.mag) - goodI ((numericsV v u).2.1.neg) ((numericsV v u).2.1.mag))).2)) _ _:=k.dep 5 32 (by kernel_rfl) (by kernel_rfl)
       exact⟨_,v_extract rfl e1 rfl,rfl⟩)) ?_
 exact .off<| .off .nil
 refine aftI aR bJ bK fun bA gL bQ dc dd de bn=>?_
 have ct:=bn.fx 6 cn
 obtain⟨aK,au,aL,av,bo,df,dg⟩:=bn.G 6 33
 have bo:bA.eval (.tmp 33)=vv (bigZ (goodI ((numericsV v u).1.neg) ((numericsV v u).1.mag) - goodI ((numericsV v u).2.1.neg) ((numericsV v u).2.1.mag))).1 aK au aL av:=bo
 have cw:=bn.ge 7 34 rfl
 have bp:=bL.new_ de
 obtain⟨e2,cx,cy,bq,f0⟩:=s_many (P:=Tryz.prog) (t:=29) (i:=0) (c7 (bigZ (goodI ((numericsV v u).1.neg) ((numericsV v u).1.mag) - goodI ((numericsV v u).2.1.neg) ((numericsV v u).2.1.mag))).1 aK au aL av) Tryz.sizeOf29 rfl rfl rfl bp lb
 have dh:Blk e2 aT 29 (c7 (bigZ (goodI ((numericsV v u).1.neg) ((numericsV v u).1.mag) - goodI ((numericsV v u).2.1.neg) ((numericsV v u).2.1.mag))).1 aK au aL av):=cy
 refine st_act rfl rfl fun gM di=>a_store' rfl ct bo cx (di _ _ trivial ?_)
 have dj:=df.fr bp bq
 have dk:=dg.fr bp bq
 have dl:=dd.trans bq (fun _ h b=>by subst b; omega)
 refine st_take rfl rfl (y_assign (v:=iv ((bigZ (goodI ((numericsV v u).1.neg) ((numericsV v u).1.mag) - goodI ((numericsV v u).2.1.neg) ((numericsV v u).2.1.mag))).2)) rfl cw) rfl ?_
 obtain⟨e3,aw⟩:∃ a',a'=bA.put (some 7) (iv ((bigZ (goodI ((numericsV v u).1.neg) ((numericsV v u).1.mag) - goodI ((numericsV v u).2.1.neg) ((numericsV v u).2.1.mag))).2)):=⟨_,rfl⟩
 have f1:=pz aw bQ
 have dm:=pd aw dc
 have e4:=pn aw ct (by decide)
 have gN:=pn aw bo (by decide)
 have gO:=pn aw cw (by decide)
 have e5:e3.eval (.tmp 7)=iv ((bigZ (goodI ((numericsV v u).1.neg) ((numericsV v u).1.mag) - goodI ((numericsV v u).2.1.neg) ((numericsV v u).2.1.mag))).2):=by rw [aw]; exact put_same _ _ _ (by rw [bQ]; decide)
 show stepsTo _ _ _ _ _ (bA.put (some 7) (iv ((bigZ (goodI ((numericsV v u).1.neg) ((numericsV v u).1.mag) - goodI ((numericsV v u).2.1.neg) ((numericsV v u).2.1.mag))).2))) _
 rw [← aw]
 refine st_nil (c9 _ _ ?_)
 refine wp_ret (ret_k dm (v:=.tuple #[vv (bigZ (goodI ((numericsV v u).1.neg) ((numericsV v u).1.mag) - goodI ((numericsV v u).2.1.neg) ((numericsV v u).2.1.mag))).1 aK au aL av,iv ((bigZ (goodI ((numericsV v u).1.neg) ((numericsV v u).1.mag) - goodI ((numericsV v u).2.1.neg) ((numericsV v u).2.1.mag))).2)]) (res_ct rfl e4 e5 (l_agg Tryz.isAgg29 Tryz.sizeOf29 dh rfl)) ?_)
 have aP:(sumsM v u).1.mag=(bigZ (goodI ((numericsV v u).1.neg) ((numericsV v u).1.mag) - goodI ((numericsV v u).2.1.neg) ((numericsV v u).2.1.mag))).1.mag:=by first|rfl|(simp only [sumsM,numV,Vl.z,aa,ab,bsm] <;> rfl)|(exfalso; omega)
 have aQ:(sumsM v u).1.s=(bigZ (goodI ((numericsV v u).1.neg) ((numericsV v u).1.mag) - goodI ((numericsV v u).2.1.neg) ((numericsV v u).2.1.mag))).1.s:=by first|rfl|(simp only [sumsM,numV,Vl.z,aa,ab,bsm] <;> rfl)|(exfalso; omega)
 exact⟨aK,au,aL,av,(by show Ending.returned (.tuple #[vv (bigZ (goodI ((numericsV v u).1.neg) ((numericsV v u).1.mag) - goodI ((numericsV v u).2.1.neg) ((numericsV v u).2.1.mag))).1 aK au aL av,iv ((bigZ (goodI ((numericsV v u).1.neg) ((numericsV v u).1.mag) - goodI ((numericsV v u).2.1.neg) ((numericsV v u).2.1.mag))).2)])=Ending.returned (.tuple #[vv (sumsM v u).1 aK au aL av,iv ((sumsM v u).2)]); (first|rfl|(simp only [sumsM,numV,Vl.z,aa,ab,aP,aQ,bsm] <;> rfl)|(exfalso; omega))),(by rw [aP]; exact dj),(by rw [aQ]; exact dk),dl⟩
 have cr:=oF ab
 have dn:=hB cq ab
 refine wp_cond_false dn ?_
 refine wp_skip ?_
 refine cR _ _ ?_
 refine wp_seq_k fun gP f2=>?_
 refine wp_seq_k fun gQ dp=>?_
 refine wp_g0 [true] [] 92
   [ve (.string ⟨#[45]⟩)] aR (.eq (.nil)) ?_ ?_
 exact .m (fun k=>k.fx 0 cm) .nil
 refine aftI aR bJ bK fun gR gS bR dq dr ax aS=>?_
 have e6:=aS.fx 6 cn
 have e7:=aS.fx 8 co
 have e8:=aS.fx 9 cp
 have cz:=aS.ge 0 35 rfl
 have ds:=bL.new_ ax
 have dt:=bM.new_ ax
 have dw:=bN.new_ ax
 have dx:=bO.new_ ax
 have dy:=c1.new_ ax
 have dz:=bP.new_ ax
 have dA:=c3.new_ ax
 refine st_nil (dp _ _ ?_)
 refine wp_block ?_
 refine wp_seq_k fun gT dB=>?_
 refine wp_g0 [true,true] [] 92
   [vF,vF] bR (.eq (.eq (.nil))) ?_ ?_
 exact .t (fun _ w hn k=>⟨_,v_bin rfl (k.fx 35 cz) rfl (fun _=>rfl) (r_eqlS (r:=false) (by kernel_rfl)),rfl⟩)<| .a (fun k=>k.eq1 0 37 rfl) .nil
 refine aftI bR dq dr fun gU gV bS dC dD ay aN=>?_
 have e9:=aN.fx 6 e6
 have fa:=aN.fx 8 e7
 have fb:=aN.fx 9 e8
 have cA:=aN.fx 35 cz
 have fc:=aN.ge 1 36 rfl
 have dE:=ds.new_ ay
 have dF:=dt.new_ ay
 have dG:=dw.new_ ay
 have dH:=dx.new_ ay
 have dI:=dy.new_ ay
 have dJ:=dz.new_ ay
 have dK:=dA.new_ ay
 refine st_nil (dB _ _ ?_)
 refine wp_cond_false fc ?_
 refine wp_seq_k fun gW dL=>?_
 refine wp_g0 [true,true] [] 92
   [vT,vT] bS (.eq (.eq (.nil))) ?_ ?_
 exact .t (fun _ w hn k=>⟨_,v_bin rfl (k.fx 35 cA) rfl (fun _=>rfl) (r_eqlS (r:=true) (by kernel_rfl)),rfl⟩)<| .a (fun k=>k.eq1 0 49 rfl) .nil
 refine aftI bS dC dD fun gX gY bT dM dN az aO=>?_
 have fd:=aO.fx 6 e9
 have fe:=aO.fx 8 fa
 have ff:=aO.fx 9 fb
 have gZ:=aO.fx 35 cA
 have fg:=aO.ge 1 48 rfl
 have dO:=dE.new_ az
 have dP:=dF.new_ az
 have dQ:=dG.new_ az
 have f3:=dH.new_ az
 have f4:=dI.new_ az
 have f5:=dJ.new_ az
 have f6:=dK.new_ az
 refine st_nil (dL _ _ ?_)
 refine wp_cond_true fg ?_
 refine wp_seq_k fun g0 dR=>?_
 refine wp_g0 [true,true,true,true,true,true,true,true,true,true,false,false] [(10,false),(11,true)] 92
   [ve (.pointer (some ⟨bk,1,none⟩)),ve (nv (Nm.mk ((numericsV v u).1.nk) ((numericsV v u).1.nn))),ve (.pointer (some ⟨bv,1,none⟩)),ve (nv (Nm.mk ((numericsV v u).2.1.nk) ((numericsV v u).2.1.nn))),ve (.tuple #[nv ((addM (Nm.mk ((numericsV v u).1.nk) ((numericsV v u).1.nn)) (negM (Nm.mk ((numericsV v u).2.1.nk) ((numericsV v u).2.1.nn)))).1),.bool ((addM (Nm.mk ((numericsV v u).1.nk) ((numericsV v u).1.nn)) (negM (Nm.mk ((numericsV v u).2.1.nk) ((numericsV v u).2.1.nn)))).2)]),ve (nv ((addM (Nm.mk ((numericsV v u).1.nk) ((numericsV v u).1.nn)) (negM (Nm.mk ((numericsV v u).2.1.nk) ((numericsV v u).2.1.nn)))).1)),ve (.bool ((addM (Nm.mk ((numericsV v u).1.nk) ((numericsV v u).1.nn)) (negM (Nm.mk ((numericsV v u).2.1.nk) ((numericsV v u).2.1.nn)))).2)),ve (.tuple #[vv (Vl.mk (numberedV ((addM (Nm.mk ((numericsV v u).1.nk) ((numericsV v u).1.nn)) (negM (Nm.mk ((numericsV v u).2.1.nk) ((numericsV v u).2.1.nn)))).1) ((addM (Nm.mk ((numericsV v u).1.nk) ((numericsV v u).1.nn)) (negM (Nm.mk ((numericsV v u).2.1.nk) ((numericsV v u).2.1.nn)))).2)).1 (numberedV ((addM (Nm.mk ((numericsV v u).1.nk) ((numericsV v u).1.nn)) (negM (Nm.mk ((numericsV v u).2.1.nk) ((numericsV v u).2.1.nn)))).1) ((addM (Nm.mk ((numericsV v u).1.nk) ((numericsV v u).1.nn)) (negM (Nm.mk ((numericsV v u).2.1.nk) ((numericsV v u).2.1.nn)))).2)).2.1.k (numberedV ((addM (Nm.mk ((numericsV v u).1.nk) ((numericsV v u).1.nn)) (negM (Nm.mk ((numericsV v u).2.1.nk) ((numericsV v u).2.1.nn)))).1) ((addM (Nm.mk ((numericsV v u).1.nk) ((numericsV v u).1.nn)) (negM (Nm.mk ((numericsV v u).2.1.nk) ((numericsV v u).2.1.nn)))).2)).2.1.n false [] [] 0) none 0 none 0,iv ((numberedV ((addM (Nm.mk ((numericsV v u).1.nk) ((numericsV v u).1.nn)) (negM (Nm.mk ((numericsV v u).2.1.nk) ((numericsV v u).2.1.nn)))).1) ((addM (Nm.mk ((numericsV v u).1.nk) ((numericsV v u).1.nn)) (negM (Nm.mk ((numericsV v u).2.1.nk) ((numericsV v u).2.1.nn)))).2)).2.2)]),ve (vv (Vl.mk (numberedV ((addM (Nm.mk ((numericsV v u).1.nk) ((numericsV v u).1.nn)) (negM (Nm.mk ((numericsV v u).2.1.nk) ((numericsV v u).2.1.nn)))).1) ((addM (Nm.mk ((numericsV v u).1.nk) ((numericsV v u).1.nn)) (negM (Nm.mk ((numericsV v u).2.1.nk) ((numericsV v u).2.1.nn)))).2)).1 (numberedV ((addM (Nm.mk ((numericsV v u).1.nk) ((numericsV v u).1.nn)) (negM (Nm.mk ((numericsV v u).2.1.nk) ((numericsV v u).2.1.nn)))).1) ((addM (Nm.mk ((numericsV v u).1.nk) ((numericsV v u).1.nn)) (negM (Nm.mk ((numericsV v u).2.1.nk) ((numericsV v u).2.1.nn)))).2)).2.1.k (numberedV ((addM (Nm.mk ((numericsV v u).1.nk) ((numericsV v u).1.nn)) (negM (Nm.mk ((numericsV v u).2.1.nk) ((numericsV v u).2.1.nn)))).1) ((addM (Nm.mk ((numericsV v u).1.nk) ((numericsV v u).1.nn)) (negM (Nm.mk ((numericsV v u).2.1.nk) ((numericsV v u).2.1.nn)))).2)).2.1.n false [] [] 0) none 0 none 0),ve (iv ((numberedV ((addM (Nm.mk ((numericsV v u).1.nk) ((numericsV v u).1.nn)) (negM (Nm.mk ((numericsV v u).2.1.nk) ((numericsV v u).2.1.nn)))).1) ((addM (Nm.mk ((numericsV v u).1.nk) ((numericsV v u).1.nn)) (negM (Nm.mk ((numericsV v u).2.1.nk) ((numericsV v u).2.1.nn)))).2)).2.2)),vt,vt] bT (.eq (.eq (.eq (.eq (.eq (.eq (.eq (.eq (.eq (.eq (.tt (.tt (.nil))))))))))))) ?_ ?_
 exact .f (fun k=>k.fx 8 fe)<| .t (fun _ w hn k=>⟨_,v_load rfl (k.eq1 0 50 rfl) (l_part Tryz.isAgg23 Tryz.sizeOf23 (dP.new_ hn) lb),rfl⟩)<| .f (fun k=>k.fx 9 ff)<| .t (fun _ w hn k=>⟨_,v_load rfl (k.eq1 2 52 rfl) (l_part Tryz.isAgg23 Tryz.sizeOf23 (dQ.new_ hn) lb),rfl⟩)<| .o1 (ck rfl rfl rfl (fun _ w hn k=>⟨#[nv (Nm.mk ((numericsV v u).1.nk) ((numericsV v u).1.nn)),nv (Nm.mk ((numericsV v u).2.1.nk) ((numericsV v u).2.1.nn))],args2 (k.eq1 1 51 rfl) (k.eq1 3 53 rfl),fun _=>by kernel_rfl,nsub_c (Nm.mk ((numericsV v u).1.nk) ((numericsV v u).1.nn)) (Nm.mk ((numericsV v u).2.1.nk) ((numericsV v u).2.1.nn)) _ ⟩) fun _=>rfl)<| .t (fun _ w hn k=>⟨_,v_extract rfl (k.eq1 4 54 rfl) rfl,rfl⟩)<| .t (fun _ w hn k=>⟨_,v_extract rfl (k.eq1 4 54 rfl) rfl,rfl⟩)<| .o1 (ck rfl rfl rfl (fun _ w hn k=>⟨#[nv ((addM (Nm.mk ((numericsV v u).1.nk) ((numericsV v u).1.nn)) (negM (Nm.mk ((numericsV v u).2.1.nk) ((numericsV v u).2.1.nn)))).1),.bool ((addM (Nm.mk ((numericsV v u).1.nk) ((numericsV v u).1.nn)) (negM (Nm.mk ((numericsV v u).2.1.nk) ((numericsV v u).2.1.nn)))).2)],args2 (k.eq1 5 55 rfl) (k.eq1 6 56 rfl),fun _=>by kernel_rfl,numbered_c ((addM (Nm.mk ((numericsV v u).1.nk) ((numericsV v u).1.nn)) (negM (Nm.mk ((numericsV v u).2.1.nk) ((numericsV v u).2.1.nn)))).1) ((addM (Nm.mk ((numericsV v u).1.nk) ((numericsV v u).1.nn)) (negM (Nm.mk ((numericsV v u).2.1.nk) ((numericsV v u).2.1.nn)))).2) _ ⟩) fun _=>rfl)<| .t (fun _ w hn k=>⟨_,v_extract rfl (k.eq1 7 57 rfl) rfl,rfl⟩)<| .t (fun _ w hn k=>⟨_,v_extract rfl (k.eq1 7 57 rfl) rfl,rfl⟩)<| .off<| .off .nil
 refine aftI bT dM dN fun cB g1 bU dS dT dU br=>?_
 have cC:=br.fx 6 fd
 have cD:=br.ge 8 58 rfl
 have cE:=br.ge 9 59 rfl
 have dV:=dO.new_ dU
 obtain⟨fh,cF,cG,dW,f7⟩:=s_many (P:=Tryz.prog) (t:=29) (i:=0) [iv ((numberedV ((addM (Nm.mk ((numericsV v u).1.nk) ((numericsV v u).1.nn)) (negM (Nm.mk ((numericsV v u).2.1.nk) ((numericsV v u).2.1.nn)))).1) ((addM (Nm.mk ((numericsV v u).1.nk) ((numericsV v u).1.nn)) (negM (Nm.mk ((numericsV v u).2.1.nk) ((numericsV v u).2.1.nn)))).2)).1),iv ((numberedV ((addM (Nm.mk ((numericsV v u).1.nk) ((numericsV v u).1.nn)) (negM (Nm.mk ((numericsV v u).2.1.nk) ((numericsV v u).2.1.nn)))).1) ((addM (Nm.mk ((numericsV v u).1.nk) ((numericsV v u).1.nn)) (negM (Nm.mk ((numericsV v u).2.1.nk) ((numericsV v u).2.1.nn)))).2)).2.1.k),iv ((numberedV ((addM (Nm.mk ((numericsV v u).1.nk) ((numericsV v u).1.nn)) (negM (Nm.mk ((numericsV v u).2.1.nk) ((numericsV v u).2.1.nn)))).1) ((addM (Nm.mk ((numericsV v u).1.nk) ((numericsV v u).1.nn)) (negM (Nm.mk ((numericsV v u).2.1.nk) ((numericsV v u).2.1.nn)))).2)).2.1.n),.bool false,sv none ([]) 0,sv none ([]) 0,iv 0] Tryz.sizeOf29 rfl rfl rfl dV lb
 have dX:Blk fh aT 29 [iv ((numberedV ((addM (Nm.mk ((numericsV v u).1.nk) ((numericsV v u).1.nn)) (negM (Nm.mk ((numericsV v u).2.1.nk) ((numericsV v u).2.1.nn)))).1) ((addM (Nm.mk ((numericsV v u).1.nk) ((numericsV v u).1.nn)) (negM (Nm.mk ((numericsV v u).2.1.nk) ((numericsV v u).2.1.nn)))).2)).1),iv ((numberedV ((addM (Nm.mk ((numericsV v u).1.nk) ((numericsV v u).1.nn)) (negM (Nm.mk ((numericsV v u).2.1.nk) ((numericsV v u).2.1.nn)))).1) ((addM (Nm.mk ((numericsV v u).1.nk) ((numericsV v u).1.nn)) (negM (Nm.mk ((numericsV v u).2.1.nk) ((numericsV v u).2.1.nn)))).2)).2.1.k),iv ((numberedV ((addM (Nm.mk ((numericsV v u).1.nk) ((numericsV v u).1.nn)) (negM (Nm.mk ((numericsV v u).2.1.nk) ((numericsV v u).2.1.nn)))).1) ((addM (Nm.mk ((numericsV v u).1.nk) ((numericsV v u).1.nn)) (negM (Nm.mk ((numericsV v u).2.1.nk) ((numericsV v u).2.1.nn)))).2)).2.1.n),.bool false,sv none ([]) 0,sv none ([]) 0,iv 0]:=cG
 refine st_act rfl rfl fun g2 dY=>a_store' rfl cC cD cF (dY _ _ trivial ?_)
 have dZ:=dT.trans dW (fun _ h b=>by subst b; omega)
 refine st_take rfl rfl (y_assign (v:=iv ((numberedV ((addM (Nm.mk ((numericsV v u).1.nk) ((numericsV v u).1.nn)) (negM (Nm.mk ((numericsV v u).2.1.nk) ((numericsV v u).2.1.nn)))).1) ((addM (Nm.mk ((numericsV v u).1.nk) ((numericsV v u).1.nn)) (negM (Nm.mk ((numericsV v u).2.1.nk) ((numericsV v u).2.1.nn)))).2)).2.2)) rfl cE) rfl ?_
 obtain⟨fi,aA⟩:∃ a',a'=cB.put (some 7) (iv ((numberedV ((addM (Nm.mk ((numericsV v u).1.nk) ((numericsV v u).1.nn)) (negM (Nm.mk ((numericsV v u).2.1.nk) ((numericsV v u).2.1.nn)))).1) ((addM (Nm.mk ((numericsV v u).1.nk) ((numericsV v u).1.nn)) (negM (Nm.mk ((numericsV v u).2.1.nk) ((numericsV v u).2.1.nn)))).2)).2.2)):=⟨_,rfl⟩
 have f8:=pz aA bU
 have d0:=pd aA dS
 have fj:=pn aA cC (by decide)
 have g3:=pn aA cD (by decide)
 have g4:=pn aA cE (by decide)
 have fk:fi.eval (.tmp 7)=iv ((numberedV ((addM (Nm.mk ((numericsV v u).1.nk) ((numericsV v u).1.nn)) (negM (Nm.mk ((numericsV v u).2.1.nk) ((numericsV v u).2.1.nn)))).1) ((addM (Nm.mk ((numericsV v u).1.nk) ((numericsV v u).1.nn)) (negM (Nm.mk ((numericsV v u).2.1.nk) ((numericsV v u).2.1.nn)))).2)).2.2):=by rw [aA]; exact put_same _ _ _ (by rw [bU]; decide)
 show stepsTo _ _ _ _ _ (cB.put (some 7) (iv ((numberedV ((addM (Nm.mk ((numericsV v u).1.nk) ((numericsV v u).1.nn)) (negM (Nm.mk ((numericsV v u).2.1.nk) ((numericsV v u).2.1.nn)))).1) ((addM (Nm.mk ((numericsV v u).1.nk) ((numericsV v u).1.nn)) (negM (Nm.mk ((numericsV v u).2.1.nk) ((numericsV v u).2.1.nn)))).2)).2.2))) _
 rw [← aA]
 refine st_nil (dR _ _ ?_)
 refine wp_ret (ret_k d0 (v:=.tuple #[vv (Vl.mk (numberedV ((addM (Nm.mk ((numericsV v u).1.nk) ((numericsV v u).1.nn)) (negM (Nm.mk ((numericsV v u).2.1.nk) ((numericsV v u).2.1.nn)))).1) ((addM (Nm.mk ((numericsV v u).1.nk) ((numericsV v u).1.nn)) (negM (Nm.mk ((numericsV v u).2.1.nk) ((numericsV v u).2.1.nn)))).2)).1 (numberedV ((addM (Nm.mk ((numericsV v u).1.nk) ((numericsV v u).1.nn)) (negM (Nm.mk ((numericsV v u).2.1.nk) ((numericsV v u).2.1.nn)))).1) ((addM (Nm.mk ((numericsV v u).1.nk) ((numericsV v u).1.nn)) (negM (Nm.mk ((numericsV v u).2.1.nk) ((numericsV v u).2.1.nn)))).2)).2.1.k (numberedV ((addM (Nm.mk ((numericsV v u).1.nk) ((numericsV v u).1.nn)) (negM (Nm.mk ((numericsV v u).2.1.nk) ((numericsV v u).2.1.nn)))).1) ((addM (Nm.mk ((numericsV v u).1.nk) ((numericsV v u).1.nn)) (negM (Nm.mk ((numericsV v u).2.1.nk) ((numericsV v u).2.1.nn)))).2)).2.1.n false [] [] 0) none 0 none 0,iv ((numberedV ((addM (Nm.mk ((numericsV v u).1.nk) ((numericsV v u).1.nn)) (negM (Nm.mk ((numericsV v u).2.1.nk) ((numericsV v u).2.1.nn)))).1) ((addM (Nm.mk ((numericsV v u).1.nk) ((numericsV v u).1.nn)) (negM (Nm.mk ((numericsV v u).2.1.nk) ((numericsV v u).2.1.nn)))).2)).2.2)]) (res_ct rfl fj fk (l_agg Tryz.isAgg29 Tryz.sizeOf29 dX rfl)) ?_)
 have aP:(sumsM v u).1.mag=[]:=by first|rfl|(simp only [sumsM,numV,Vl.z,aa,ab,bsm] <;> rfl)|(exfalso; omega)
 have aQ:(sumsM v u).1.s=[]:=by first|rfl|(simp only [sumsM,numV,Vl.z,aa,ab,bsm] <;> rfl)|(exfalso; omega)
 exact⟨none,0,none,0,(by show Ending.returned (.tuple #[vv (Vl.mk (numberedV ((addM (Nm.mk ((numericsV v u).1.nk) ((numericsV v u).1.nn)) (negM (Nm.mk ((numericsV v u).2.1.nk) ((numericsV v u).2.1.nn)))).1) ((addM (Nm.mk ((numericsV v u).1.nk) ((numericsV v u).1.nn)) (negM (Nm.mk ((numericsV v u).2.1.nk) ((numericsV v u).2.1.nn)))).2)).1 (numberedV ((addM (Nm.mk ((numericsV v u).1.nk) ((numericsV v u).1.nn)) (negM (Nm.mk ((numericsV v u).2.1.nk) ((numericsV v u).2.1.nn)))).1) ((addM (Nm.mk ((numericsV v u).1.nk) ((numericsV v u).1.nn)) (negM (Nm.mk ((numericsV v u).2.1.nk) ((numericsV v u).2.1.nn)))).2)).2.1.k (numberedV ((addM (Nm.mk ((numericsV v u).1.nk) ((numericsV v u).1.nn)) (negM (Nm.mk ((numericsV v u).2.1.nk) ((numericsV v u).2.1.nn)))).1) ((addM (Nm.mk ((numericsV v u).1.nk) ((numericsV v u).1.nn)) (negM (Nm.mk ((numericsV v u).2.1.nk) ((numericsV v u).2.1.nn)))).2)).2.1.n false [] [] 0) none 0 none 0,iv ((numberedV ((addM (Nm.mk ((numericsV v u).1.nk) ((numericsV v u).1.nn)) (negM (Nm.mk ((numericsV v u).2.1.nk) ((numericsV v u).2.1.nn)))).1) ((addM (Nm.mk ((numericsV v u).1.nk) ((numericsV v u).1.nn)) (negM (Nm.mk ((numericsV v u).2.1.nk) ((numericsV v u).2.1.nn)))).2)).2.2)])=Ending.returned (.tuple #[vv (sumsM v u).1 none 0 none 0,iv ((sumsM v u).2)]); (first|rfl|(simp only [sumsM,numV,Vl.z,aa,ab,aP,aQ,bsm] <;> rfl)|(exfalso; omega))),(by rw [aP]; exact (SRow.nil _ _)),(by rw [aQ]; exact (SRow.nil _ _)),dZ⟩
 have cj:=oF aa
 refine wp_g0 [true,true,true] [] 92
   [ve (iv ((numericsV v u).2.2)),vT,vT] bl (.eq (.eq (.eq (.nil)))) ?_ ?_
 exact .m (fun k=>k.fx 10 bm)<| .t (fun _ w hn k=>⟨_,v_bin rfl (k.eq1 0 19 rfl) rfl (fun _=>rfl) (r_neq aa),rfl⟩)<| .a (fun k=>k.eq1 1 20 rfl) .nil
 refine aftI bl cf ce fun g5 g6 bV d1 d2 aB aE=>?_
 have g7:=aE.fx 0 eh
 have fl:=aE.fx 6 ei
 have g8:=aE.fx 8 ch
 have g9:=aE.fx 9 ci
 have fm:=aE.fx 10 bm
 have fn:=aE.ge 2 18 rfl
 have d3:=cc.new_ aB
 have f9:=cd.new_ aB
 have ga:=b7.new_ aB
 have gb:=b8.new_ aB
 have gc:=b9.new_ aB
 have gd:=ca.new_ aB
 have gf:=cb.new_ aB
 refine st_nil (bG _ _ ?_)
 refine wp_cond_true fn ?_
 refine wp_seq_k fun ha d4=>?_
 refine wp_g [true,true,false,false] [1] [(2,false),(3,true)] 92
   [ve (vv (Vl.mk 0 0 0 false [] [] 0) none 0 none 0),ve (iv ((numericsV v u).2.2)),vt,vt]
   [] newsNil bV (.eq (.eq (.tt (.tt (.nil))))) ?_ ?_ ?_
 refine .t (fun _ w hn k=>⟨_,v_build (ps:=[]) rfl parts0 (by kernel_rfl),rfl⟩) ?_
 refine .o3 ?_
 exact .off<| .off .nil
 intro i h
 simp only [List.contains_eq_mem,List.mem_cons,List.not_mem_nil,or_false,decide_eq_true_eq] at h
 subst h
 exact eager_take rfl rfl fun _ w hn k=>⟨iv ((numericsV v u).2.2),fun w=>v_move rfl (k.fx 10 fm),rfl⟩
 refine aftI bV d1 d2 fun cH hc bW d5 d6 d7 bs=>?_
 have cI:=bs.fx 6 fl
 have cJ:=bs.ge 0 21 rfl
 have cK:=bs.ge 1 22 rfl
 have d8:=d3.new_ d7
 obtain⟨fo,cL,cM,d9,gg⟩:=s_many (P:=Tryz.prog) (t:=29) (i:=0) z7 Tryz.sizeOf29 rfl rfl rfl d8 lb
 have ea:Blk fo aT 29 z7:=cM
 refine st_act rfl rfl fun hd eb=>a_store' rfl cI cJ cL (eb _ _ trivial ?_)
 have ec:=d6.trans d9 (fun _ h b=>by subst b; omega)
 refine st_take rfl rfl (y_assign (v:=iv ((numericsV v u).2.2)) rfl cK) rfl ?_
 obtain⟨fp,aC⟩:∃ a',a'=cH.put (some 7) (iv ((numericsV v u).2.2)):=⟨_,rfl⟩
 have gh:=pz aC bW
 have ed:=pd aC d5
 have fq:=pn aC cI (by decide)
 have hf:=pn aC cJ (by decide)
 have hg:=pn aC cK (by decide)
 have fs:fp.eval (.tmp 7)=iv ((numericsV v u).2.2):=by rw [aC]; exact put_same _ _ _ (by rw [bW]; decide)
 show stepsTo _ _ _ _ _ (cH.put (some 7) (iv ((numericsV v u).2.2))) _
 rw [← aC]
 refine st_nil (d4 _ _ ?_)
 refine wp_ret (ret_k ed (v:=.tuple #[vv (Vl.mk 0 0 0 false [] [] 0) none 0 none 0,iv ((numericsV v u).2.2)]) (res_ct rfl fq fs (l_agg Tryz.isAgg29 Tryz.sizeOf29 ea rfl)) ?_)
 have aP:(sumsM v u).1.mag=[]:=by first|rfl|(simp only [sumsM,numV,Vl.z,aa,bsm] <;> rfl)|(exfalso; omega)
 have aQ:(sumsM v u).1.s=[]:=by first|rfl|(simp only [sumsM,numV,Vl.z,aa,bsm] <;> rfl)|(exfalso; omega)
 exact⟨none,0,none,0,(by show Ending.returned (.tuple #[vv (Vl.mk 0 0 0 false [] [] 0) none 0 none 0,iv ((numericsV v u).2.2)])=Ending.returned (.tuple #[vv (sumsM v u).1 none 0 none 0,iv ((sumsM v u).2)]); (first|rfl|(simp only [sumsM,numV,Vl.z,aa,aP,aQ,bsm] <;> rfl)|(exfalso; omega))),(by rw [aP]; exact (SRow.nil _ _)),(by rw [aQ]; exact (SRow.nil _ _)),ec⟩
def binMi_c_P  (v:Vl) (Av:Option Addr) (cv:Nat) (Bv:Option Addr) (dv:Nat) (u:Vl) (Au:Option Addr) (cu:Nat) (Bu:Option Addr) (du:Nat) (w:World) (en:Ending) (w':World):Prop:=∃ (Ar0:Option Addr) (cr0:Nat) (Ar1:Option Addr) (cr1:Nat),en=.returned (.tuple #[vv (sumsM (cleanV v) (cleanV u)).1 Ar0 cr0 Ar1 cr1,iv ((sumsM (cleanV v) (cleanV u)).2)])∧SRow w' .u32 Ar0 ((sumsM (cleanV v) (cleanV u)).1.mag) cr0∧SRow w' .u16 Ar1 ((sumsM (cleanV v) (cleanV u)).1.s) cr1∧New w w'
theorem binMi_c  (v:Vl) (Av:Option Addr) (cv:Nat) (Bv:Option Addr) (dv:Nat) (u:Vl) (Au:Option Addr) (cu:Nat) (Bu:Option Addr) (du:Nat) (w:World) (hmv:SRow w .u32 Av v.mag cv) (hsv:SRow w .u16 Bv v.s dv) (hmu:SRow w .u32 Au u.mag cu) (hsu:SRow w .u16 Bu u.s du) (hvv:VOk v) (hvu:VOk u):Calls Tryz.prog 12 #[.string ⟨#[45]⟩,vv v Av cv Bv dv,vv u Au cu Bu du] w (binMi_c_P v Av cv Bv dv u Au cu Bu du w):=by
 refine enter_abs Tryz.func12 rfl fun a0 aQ cX hp=>?_
 have aQ:a0.tmps.size=120:=aQ
 have aR:New w w:=Upd.refl _ _
 have hp0:a0.eval (.tmp 0)=.string ⟨#[45]⟩:=hp 0 _ rfl
 have hp1:a0.eval (.tmp 1)=vv v Av cv Bv dv:=hp 1 _ rfl
 have hp2:a0.eval (.tmp 2)=vv u Au cu Bu du:=hp 2 _ rfl
 refine wp_seq_k fun K1 cY=>?_
 refine wp_g [true,true,true,true] [] [] 120
   [IsNew w 29 (c7 v Av cv Bv dv),IsNew w 29 (c7 u Au cu Bu du),IsNew w 29 z7,ve (iv 0)]
   [0,1,2] (newsCons (fun v w h=>IsNew.old h) (newsCons (fun v w h=>IsNew.old h) (newsCons (fun v w h=>IsNew.old h) newsNil))) aQ (.nw (.nw (.nw (.eq (.nil))))) ?_ (fun i h=>by cases h) ?_
 exact .o2 (step_allocN (cs:=(c7 v Av cv Bv dv)) (t:=29) rfl (noG rfl) (fun _ w hn k=>v_box rfl (k.fx 1 hp1) (fun w=>rfl)) (fun q _ hq hb=>⟨q,rfl,hq,hb⟩))<| .o2 (step_allocN (cs:=(c7 u Au cu Bu du)) (t:=29) rfl (noG rfl) (fun _ w hn k=>v_box rfl (k.fx 2 hp2) (fun w=>rfl)) (fun q _ hq hb=>⟨q,rfl,hq,hb⟩))<| .o2 (step_allocN (cs:=z7) (t:=29) rfl (noG rfl) (fun _ w hn k=>rfl) (fun q _ hq hb=>⟨q,rfl,hq,hb⟩))<| .t (fun _ w hn k=>⟨_,v_assign rfl rfl,rfl⟩) .nil
 refine aftI aQ cX aR fun a2 w3 bZ cZ an dR ao=>?_
 have h8:=ao.fx 0 hp0
 obtain⟨aW,h9,b5,aX⟩:=ao.G 0 4
 obtain⟨aY,aS,b6,aZ⟩:=ao.G 1 5
 obtain⟨a1,a3,b7,b8⟩:=ao.G 2 6
 have hne21:aW ≠ aY:=ao.ne 0 1 4 5 h9 aS
 have hne22:aW ≠ a1:=ao.ne 0 2 4 6 h9 a3
 have hne23:aY ≠ a1:=ao.ne 1 2 5 6 aS a3
 have dy:=Nat.le_trans aR.size b5
 have dz:=Nat.le_trans aR.size b6
 have dA:=Nat.le_trans aR.size b7
 refine st_nil (cY _ _ (wp_seq_k fun dS b9=>?_))
 refine wp_g0 [true,true,true,true,false,false] [(4,false),(5,false)] 120
   [ve (vv v Av cv Bv dv),
    (VP (cleanV v)),ve (vv u Au cu Bu du),
    (VP (cleanV u)),vt,vt] bZ (.eq (.cons (fun _ _ _ n ⟨_,_,_,_,e,h,i⟩=>⟨_,_,_,_,e,h.new_ n,i.new_ n⟩) (.eq (.cons (fun _ _ _ n ⟨_,_,_,_,e,h,i⟩=>⟨_,_,_,_,e,h.new_ n,i.new_ n⟩) (.tt (.tt (.nil))))))) ?_ ?_
 refine .t (fun _ w hn k=>⟨_,v_load rfl (k.fx 4 h9) (l_agg Tryz.isAgg29 Tryz.sizeOf29 (aX.new_ hn) rfl),rfl⟩) ?_
 refine .o1 (tkC rfl (noG rfl) rfl fun _ w hn k=>(by
       refine ⟨#[vv v Av cv Bv dv],_,args1 (k.eq1 0 10 rfl),fun w=>by kernel_rfl,clean_c v _ _ _ _ _ (hmv.new_ (an.transNew hn)) (hsv.new_ (an.transNew hn)),?_⟩
       rintro e w' ⟨A1,c2,A3,c4,rfl,hmo0,hmo1,hm⟩
       exact⟨_,rfl,hm,⟨A1,c2,A3,c4,rfl,hmo0,hmo1⟩⟩)) ?_
 refine .t (fun _ w hn k=>⟨_,v_load rfl (k.fx 5 aS) (l_agg Tryz.isAgg29 Tryz.sizeOf29 (aZ.new_ hn) rfl),rfl⟩) ?_
 refine .o1 (tkC rfl (noG rfl) rfl fun _ w hn k=>(by
       refine ⟨#[vv u Au cu Bu du],_,args1 (k.eq1 2 12 rfl),fun w=>by kernel_rfl,clean_c u _ _ _ _ _ (hmu.new_ (an.transNew hn)) (hsu.new_ (an.transNew hn)),?_⟩
       rintro e w' ⟨A9,c9,da,db,rfl,hmo0,hmo1,hm⟩
       exact⟨_,rfl,hm,⟨A9,c9,da,db,rfl,hmo0,hmo1⟩⟩)) ?_
 exact .off<| .off .nil
 refine aftI bZ cZ an fun b0 dT a4 ca cb aO am=>?_
 have b1:=am.fx 0 h8
 have b2:=am.fx 4 h9
 have b3:=am.fx 5 aS
 have dc:=am.fx 6 a3
 obtain⟨aL,ap,aM,aq,a5,cc,cd⟩:=am.G 1 11
 have a5:b0.eval (.tmp 11)=vv (cleanV v) aL ap aM aq:=a5
 obtain⟨aN,ar,aG,au,a6,ce,cf⟩:=am.G 3 13
 have a6:b0.eval (.tmp 13)=vv (cleanV u) aN ar aG au:=a6
 have av:=aX.new_ aO
 have ch:=aZ.new_ aO
 have ci:=b8.new_ aO
 obtain⟨dd,bh,bi,aw,a7⟩:=s_many (P:=Tryz.prog) (t:=29) (i:=0) (c7 (cleanV v) aL ap aM aq) Tryz.sizeOf29 rfl rfl rfl av lb
 have cj:Blk dd aW 29 (c7 (cleanV v) aL ap aM aq):=bi
 refine st_act rfl rfl fun dU cl=>a_store' rfl b2 a5 bh (cl _ _ trivial ?_)
 have cm:=cc.fr av aw
 have cn:=cd.fr av aw
 have co:=ce.fr av aw
 have cp:=cf.fr av aw
 have ax:=a7 _ _ _ (fun h=>hne21 h.symm) ch
 have cq:=a7 _ _ _ (fun h=>hne22 h.symm) ci
 have cr:=cb.trans aw (fun _ h b=>by subst b; omega)
 obtain⟨de,bj,bk,ay,a8⟩:=s_many (P:=Tryz.prog) (t:=29) (i:=0) (c7 (cleanV u) aN ar aG au) Tryz.sizeOf29 rfl rfl rfl ax lb
 have ct:Blk de aY 29 (c7 (cleanV u) aN ar aG au):=bk
 refine st_act rfl rfl fun dV cw=>a_store' rfl b3 a6 bj (cw _ _ trivial ?_)
 have cx:=cm.fr ax ay
 have cy:=cn.fr ax ay
 have cz:=co.fr ax ay
 have cA:=cp.fr ax ay
 have cB:=a8 _ _ _ (hne21) cj
 have cC:=a8 _ _ _ (fun h=>hne23 h.symm) cq
 have cD:=cr.trans ay (fun _ h b=>by subst b; omega)
 refine st_nil (b9 _ _ (wp_seq_k fun dW dB=>?_))
 refine wp_seq_k fun dX cE=>?_
 refine wp_g0 [true] [] 120
   [ve (.string ⟨#[45]⟩)] a4 (.eq (.nil)) ?_ ?_
 exact .m (fun k=>k.fx 0 b1) .nil
 refine aftI a4 ca cD fun dY dZ a9 cF bl aj az=>?_
 have df:=az.fx 0 b1
 have dg:=az.fx 4 b2
 have dh:=az.fx 5 b3
 have di:=az.fx 6 dc
 have b4:=az.ge 0 14 rfl
 have cG:=cB.new_ aj
 have cH:=ct.new_ aj
 have bm:=cC.new_ aj
 have bn:=cx.new_ aj
 have bo:=cy.new_ aj
 have bp:=cz.new_ aj
 have bq:=cA.new_ aj
 refine st_nil (cE _ _ ?_)
 refine wp_block ?_
 refine wp_seq_k fun dC br=>?_
 refine wp_g0 [true,true] [] 120
   [vF,vF] a9 (.eq (.eq (.nil))) ?_ ?_
 exact .t (fun _ w hn k=>⟨_,v_bin rfl (k.fx 14 b4) rfl (fun _=>rfl) (r_eqlS (r:=false) (by kernel_rfl)),rfl⟩)<| .a (fun k=>k.eq1 0 16 rfl) .nil
 refine aftI a9 cF bl fun dD dE aT bs bt aa ad=>?_
 have cI:=ad.fx 0 df
 have cJ:=ad.fx 4 dg
 have cK:=ad.fx 5 dh
 have cL:=ad.fx 6 di
 have ba:=ad.fx 14 b4
 have cM:=ad.ge 1 15 rfl
 have bu:=cG.new_ aa
 have bv:=cH.new_ aa
 have bw:=bm.new_ aa
 have bx:=bn.new_ aa
 have bz:=bo.new_ aa
 have bA:=bp.new_ aa
 have bB:=bq.new_ aa
 refine st_nil (br _ _ ?_)
 refine wp_cond_false cM ?_
 refine wp_seq_k fun dF bC=>?_
 refine wp_seq_k fun dG bD=>?_
 refine wp_g0 [true,true] [] 120
   [vT,vT] aT (.eq (.eq (.nil))) ?_ ?_
 exact .t (fun _ w hn k=>⟨_,v_bin rfl (k.fx 14 ba) rfl (fun _=>rfl) (r_eqlS (r:=true) (by kernel_rfl)),rfl⟩)<| .a (fun k=>k.eq1 0 37 rfl) .nil
 refine aftI aT bs bt fun dH dI aU bE bF ab ae=>?_
 have cN:=ae.fx 0 cI
 have cO:=ae.fx 4 cJ
 have cP:=ae.fx 5 cK
 have cQ:=ae.fx 6 cL
 have dJ:=ae.fx 14 ba
 have bb:=ae.ge 1 36 rfl
 have bG:=bu.new_ ab
 have bH:=bv.new_ ab
 have bI:=bw.new_ ab
 have bJ:=bx.new_ ab
 have bK:=bz.new_ ab
 have bL:=bA.new_ ab
 have bM:=bB.new_ ab
 refine st_nil (bD _ _ ?_)
 refine wp_cond_true bb ?_
 refine wp_skip ?_
 refine bC _ _ ?_
 refine wp_cond_true bb ?_
 refine wp_seq_k fun dK bN=>?_
 refine wp_g0 [true,true,true,true,true,true,false,false] [(6,false),(7,true)] 120
   [ve (.string ⟨#[45]⟩),ve (vv (cleanV v) aL ap aM aq),ve (vv (cleanV u) aN ar aG au),(TP (sumsM (cleanV v) (cleanV u)).1 ((sumsM (cleanV v) (cleanV u)).2)),(fun (v_:Value) (W:World)=>∃ (aA:Option Addr) (aB:Nat) (aC:Option Addr) (aD:Nat),v_=vv (sumsM (cleanV v) (cleanV u)).1 aA aB aC aD∧SRow W .u32 aA ((sumsM (cleanV v) (cleanV u)).1.mag) aB∧SRow W .u16 aC ((sumsM (cleanV v) (cleanV u)).1.s) aD),ve (iv ((sumsM (cleanV v) (cleanV u)).2)),vt,vt] aU (.eq (.eq (.eq (.cons (fun _ _ _ n ⟨_,_,_,_,e,h,i⟩=>⟨_,_,_,_,e,h.new_ n,i.new_ n⟩) (.cons (fun _ _ _ n ⟨_,_,_,_,e,h,i⟩=>⟨_,_,_,_,e,h.new_ n,i.new_ n⟩) (.eq (.tt (.tt (.nil))))))))) ?_ ?_
 refine .m (fun k=>k.fx 0 cN)<| .t (fun _ w hn k=>⟨_,v_load rfl (k.fx 4 cO) (l_agg Tryz.isAgg29 Tryz.sizeOf29 (bG.new_ hn) rfl),rfl⟩)<| .t (fun _ w hn k=>⟨_,v_load rfl (k.fx 5 cP) (l_agg Tryz.isAgg29 Tryz.sizeOf29 (bH.new_ hn) rfl),rfl⟩) ?_
 refine .o1 (tkC rfl (noG rfl) rfl fun _ w hn k=>(by
       refine ⟨#[.string ⟨#[45]⟩,vv (cleanV v) aL ap aM aq,vv (cleanV u) aN ar aG au],_,args3 (k.eq1 0 41 rfl) (k.eq1 1 42 rfl) (k.eq1 2 43 rfl),fun w=>by kernel_rfl,sumsMi_c (cleanV v) _ _ _ _ (cleanV u) _ _ _ _ _ (bJ.new_ hn) (bK.new_ hn) (bL.new_ hn) (bM.new_ hn) hvv.clean hvu.clean,?_⟩
       rintro e w' ⟨dj,dk,dl,dm,rfl,hmo0,hmo1,hm⟩
       exact⟨_,rfl,hm,⟨dj,dk,dl,dm,rfl,hmo0,hmo1⟩⟩)) ?_
 refine .o1 (tk rfl rfl fun _ w hn k=>(by
       obtain⟨dn,dp,dq,dr,ds,cR,cS⟩:(TP (sumsM (cleanV v) (cleanV u)).1 ((sumsM (cleanV v) (cleanV u)).2)) _ _:=k.dep 3 44 (by kernel_rfl) (by kernel_rfl)
       exact⟨_,v_extract rfl ds rfl,⟨dn,dp,dq,dr,rfl,cR,cS⟩⟩)) ?_
 refine .o1 (tk rfl rfl fun _ w hn k=>(by
       obtain⟨aG,d0,d1,d2,dt,dL,dM⟩:(TP (sumsM (cleanV v) (cleanV u)).1 ((sumsM (cleanV v) (cleanV u)).2)) _ _:=k.dep 3 44 (by kernel_rfl) (by kernel_rfl)
       exact⟨_,v_extract rfl dt rfl,rfl⟩)) ?_
 exact .off<| .off .nil
 refine aftI aU bE bF fun aP dN aV bO bP bQ aH=>?_
 have bd:=aH.fx 6 cQ
 obtain⟨aE,ak,aF,al,aI,bR,bS⟩:=aH.G 4 45
 have aI:aP.eval (.tmp 45)=vv (sumsM (cleanV v) (cleanV u)).1 aE ak aF al:=aI
 have be:=aH.ge 5 46 rfl
 have aJ:=bI.new_ bQ
 obtain⟨cT,bf,bg,aK,dw⟩:=s_many (P:=Tryz.prog) (t:=29) (i:=0) (c7 (sumsM (cleanV v) (cleanV u)).1 aE ak aF al) Tryz.sizeOf29 rfl rfl rfl aJ lb
 have bT:Blk cT a1 29 (c7 (sumsM (cleanV v) (cleanV u)).1 aE ak aF al):=bg
 refine st_act rfl rfl fun dO bU=>a_store' rfl bd aI bf (bU _ _ trivial ?_)
 have bV:=bR.fr aJ aK
 have bW:=bS.fr aJ aK
 have bX:=bP.trans aK (fun _ h b=>by subst b; omega)
 refine st_take rfl rfl (y_assign (v:=iv ((sumsM (cleanV v) (cleanV u)).2)) rfl be) rfl ?_
 obtain⟨cU,ac⟩:∃ a',a'=aP.put (some 7) (iv ((sumsM (cleanV v) (cleanV u)).2)):=⟨_,rfl⟩
 have dx:=pz ac aV
 have bY:=pd ac bO
 have cV:=pn ac bd (by decide)
 have dP:=pn ac aI (by decide)
 have dQ:=pn ac be (by decide)
 have cW:cU.eval (.tmp 7)=iv ((sumsM (cleanV v) (cleanV u)).2):=by rw [ac]; exact put_same _ _ _ (by rw [aV]; decide)
 show stepsTo _ _ _ _ _ (aP.put (some 7) (iv ((sumsM (cleanV v) (cleanV u)).2))) _
 rw [← ac]
 refine st_nil (bN _ _ ?_)
 refine wp_ret (ret_k bY (v:=.tuple #[vv (sumsM (cleanV v) (cleanV u)).1 aE ak aF al,iv ((sumsM (cleanV v) (cleanV u)).2)]) (res_ct rfl cV cW (l_agg Tryz.isAgg29 Tryz.sizeOf29 bT rfl)) ?_)
 exact⟨aE,ak,aF,al,rfl,bV,bW,bX⟩
def step_c_P (v:Vl) (Av:Option Addr) (cv:Nat) (Bv:Option Addr) (dv:Nat) (y:Int) (w:World) (en:Ending) (w':World):Prop:=∃ (Ar0:Option Addr) (cr0:Nat) (Ar1:Option Addr) (cr1:Nat),en=.returned (.tuple #[vv (stepV v y).1 Ar0 cr0 Ar1 cr1,iv ((stepV v y).2)])∧SRow w' .u32 Ar0 ((stepV v y).1.mag) cr0∧SRow w' .u16 Ar1 ((stepV v y).1.s) cr1∧New w w'
theorem step_c (v:Vl) (Av:Option Addr) (cv:Nat) (Bv:Option Addr) (dv:Nat) (y:Int) (w:World) (hmv:SRow w .u32 Av v.mag cv) (hsv:SRow w .u16 Bv v.s dv) (hvv:VOk v) (hlo:-9223372036854775808≤y) (hhi:y≤9223372036854775807):Calls Tryz.prog 25 #[vv v Av cv Bv dv,iv y] w (step_c_P v Av cv Bv dv y w):=by
 refine enter_abs Tryz.func25 rfl fun a0 bm eg hp=>?_
 have bm:a0.tmps.size=50:=bm
 have bC:New w w:=Upd.refl _ _
 have hp0:a0.eval (.tmp 0)=vv v Av cv Bv dv:=hp 0 _ rfl
 have hp1:a0.eval (.tmp 1)=iv y:=hp 1 _ rfl
 have ap:=(VOk.numeric hvv).mlen
 refine wp_seq_k fun K1 eh=>?_
 refine wp_g [true,true,true] [] [] 50
   [IsNew w 29 (c7 v Av cv Bv dv),IsNew w 29 z7,ve (iv 0)]
   [0,1] (newsCons (fun v w h=>IsNew.old h) (newsCons (fun v w h=>IsNew.old h) newsNil)) bm (.nw (.nw (.eq (.nil)))) ?_ (fun i h=>by cases h) ?_
 exact .o2 (step_allocN (cs:=(c7 v Av cv Bv dv)) (t:=29) rfl (noG rfl) (fun _ w hn k=>v_box rfl (k.fx 0 hp0) (fun w=>rfl)) (fun q _ hq hb=>⟨q,rfl,hq,hb⟩))<| .o2 (step_allocN (cs:=z7) (t:=29) rfl (noG rfl) (fun _ w hn k=>rfl) (fun q _ hq hb=>⟨q,rfl,hq,hb⟩))<| .t (fun _ w hn k=>⟨_,v_assign rfl rfl,rfl⟩) .nil
 refine aftI bm eg bC fun a2 w3 db ei a7 fM bn=>?_
 have h8:=bn.fx 1 hp1
 obtain⟨ej,h9,dm,dn⟩:=bn.G 0 2
 obtain⟨a5,dc,dp,bD⟩:=bn.G 1 4
 have hne17:ej ≠ a5:=bn.ne 0 1 2 4 h9 dc
 have ff:=Nat.le_trans bC.size dm
 have fg:=Nat.le_trans bC.size dp
 refine st_nil (eh _ _ (wp_seq_k fun fN dq=>?_))
 refine wp_gS (fun W=>True) (fun W W' hn h=>trivial) trivial [true,true,true,true,true,true,false,false] [4] [(6,false),(7,true)] 50
   [ve (vv v Av cv Bv dv),(TP (numericV v).1 ((numericV v).2)),(TP (numericV v).1 ((numericV v).2)),(fun (v_:Value) (W:World)=>∃ (aP:Option Addr) (aQ:Nat) (aR:Option Addr) (aS:Nat),v_=vv (numericV v).1 aP aQ aR aS∧SRow W .u32 aP ((numericV v).1.mag) aQ∧SRow W .u16 aR ((numericV v).1.s) aS),ve (iv ((numericV v).2)),IsNew w3 29 z7,vt,vt]
   [5] (newsCons (fun v w h=>IsNew.old h) newsNil) db (.eq (.cons (fun _ _ _ n ⟨_,_,_,_,e,h,i⟩=>⟨_,_,_,_,e,h.new_ n,i.new_ n⟩) (.cons (fun _ _ _ n ⟨_,_,_,_,e,h,i⟩=>⟨_,_,_,_,e,h.new_ n,i.new_ n⟩) (.cons (fun _ _ _ n ⟨_,_,_,_,e,h,i⟩=>⟨_,_,_,_,e,h.new_ n,i.new_ n⟩) (.eq (.nw (.tt (.tt (.nil))))))))) ?_ ?_ ?_
 refine .t (fun _ w hn k=>⟨_,v_load rfl (k.fx 2 h9) (l_agg Tryz.isAgg29 Tryz.sizeOf29 (dn.new_ hn) rfl),rfl⟩) ?_
 refine .o1 (tkC rfl (noG rfl) rfl fun _ w hn k=>(by
       refine ⟨#[vv v Av cv Bv dv],_,args1 (k.eq1 0 9 rfl),fun w=>by kernel_rfl,cnumeric_c v _ _ _ _ _ (hmv.new_ (a7.transNew hn)) (hsv.new_ (a7.transNew hn)) hvv,?_⟩
       rintro e w' ⟨A1,c2,A3,c4,rfl,hmo0,hmo1,hm⟩
       exact⟨_,rfl,hm,⟨A1,c2,A3,c4,rfl,hmo0,hmo1⟩⟩)) ?_
 refine .o1 (tk rfl rfl fun _ w hn k=>(by
       obtain⟨A9,ek,el,em,en,dr,ds⟩:(TP (numericV v).1 ((numericV v).2)) _ _:=k.dep 1 10 (by kernel_rfl) (by kernel_rfl)
       exact⟨_,v_move rfl en,⟨A9,ek,el,em,rfl,dr,ds⟩⟩)) ?_
 refine .o1 (tk rfl rfl fun _ w hn k=>(by
       obtain⟨eo,ep,er,es,et,dt,du⟩:(TP (numericV v).1 ((numericV v).2)) _ _:=k.dep 2 8 (by kernel_rfl) (by kernel_rfl)
       exact⟨_,v_extract rfl et rfl,⟨eo,ep,er,es,rfl,dt,du⟩⟩)) ?_
 refine .o3 ?_
 exact .o2 (step_allocN (cs:=z7) (t:=29) rfl (noG rfl) (fun _ w hn k=>rfl) (fun q _ hq hb=>⟨q,rfl,hq,hb⟩))<| .off<| .off .nil
 intro i h
 simp only [List.contains_eq_mem,List.mem_cons,List.not_mem_nil,or_false,decide_eq_true_eq] at h
 subst h
 exact eager_takeG rfl (noG rfl) fun _ w hn k=>(by
     obtain⟨a6,fO,fP,fQ,eu,fh,fi⟩:(TP (numericV v).1 ((numericV v).2)) _ _:=k.dep 2 8 (by kernel_rfl) (by kernel_rfl)
     exact⟨_,fun w hS=>v_extract rfl eu rfl,rfl⟩)
 intro bE fR _ bF aI
 obtain⟨bG,dw,dx⟩:=aft aI db ei a7 bF
 have ev:=aI.fx 1 h8
 have ew:=aI.fx 4 dc
 obtain⟨a6,aT,bH,bh,bo,dy,dz⟩:=aI.G 3 11
 have bo:bE.eval (.tmp 11)=vv (numericV v).1 a6 aT bH bh:=bo
 have dd:=aI.ge 4 12 rfl
 obtain⟨bg,de,bI,bi⟩:=aI.G 5 6
 have dA:=bD.new_ bF
 have hne43:a5 ≠ bg:=by have h1:=bD.lt; have h2:=bI; omega
 have fj:=Nat.le_trans a7.size bI
 obtain⟨ex,ce,cf,bj,dB⟩:=s_many (P:=Tryz.prog) (t:=29) (i:=0) (c7 (numericV v).1 a6 aT bH bh) Tryz.sizeOf29 rfl rfl rfl bi lb
 have dC:Blk ex bg 29 (c7 (numericV v).1 a6 aT bH bh):=cf
 refine st_act rfl rfl fun fS dD=>a_store' rfl de bo ce (dD _ _ trivial ?_)
 have dE:=dy.fr bi bj
 have dF:=dz.fr bi bj
 have dG:=dB _ _ _ (hne43) dA
 have dH:=dx.trans bj (fun _ h b=>by subst b; omega)
 refine st_take rfl rfl (y_assign (v:=iv ((numericV v).2)) rfl dd) rfl ?_
 obtain⟨ey,ae⟩:∃ a',a'=bE.put (some 7) (iv ((numericV v).2)):=⟨_,rfl⟩
 have bJ:=pz ae bG
 have dI:=pd ae dw
 have ez:=pn ae ev (by decide)
 have eA:=pn ae ew (by decide)
 have fT:=pn ae bo (by decide)
 have fU:=pn ae dd (by decide)
 have eB:=pn ae de (by decide)
 have df:ey.eval (.tmp 7)=iv ((numericV v).2):=by rw [ae]; exact put_same _ _ _ (by rw [bG]; decide)
 show stepsTo _ _ _ _ _ (bE.put (some 7) (iv ((numericV v).2))) _
 rw [← ae]
 refine st_nil (dq _ _ (wp_seq_k fun fV dJ=>?_))
 refine wp_block ?_
 refine wp_seq_k fun fW dK=>?_
 refine wp_g0 [true,true,true] [] 50
   [ve (iv ((numericV v).2)),ve (.bool (!decide (((numericV v).2)=0))),ve (.bool (!decide (((numericV v).2)=0)))] bJ (.eq (.eq (.eq (.nil)))) ?_ ?_
 exact .m (fun k=>k.fx 7 df)<| .t (fun _ w hn k=>⟨_,v_bin rfl (k.eq1 0 14 rfl) rfl (fun _=>rfl) (r_neq rfl),rfl⟩)<| .a (fun k=>k.eq1 1 15 rfl) .nil
 refine aftI bJ dI dH fun fX fY a8 bK bL a9 aU=>?_
 have bM:=aU.fx 1 ez
 have dg:=aU.fx 4 eA
 have eC:=aU.fx 6 eB
 have eD:=aU.fx 7 df
 have dh:=aU.ge 2 13 rfl
 have bN:=dG.new_ a9
 have dL:=dC.new_ a9
 have dM:=dE.new_ a9
 have dN:=dF.new_ a9
 refine st_nil (dK _ _ ?_)
 rcases bc ((!decide (((numericV v).2)=0))) with ac|ac
 have dO:=hB dh ac
 have aF:(decide (((numericV v).2)=0))=false:=nF ac
 have e5:=oF aF
 refine wp_cond_true dO ?_
 refine wp_seq_k fun fZ dP=>?_
 refine wp_g [true,true,false,false] [1] [(2,false),(3,true)] 50
   [ve (vv (Vl.mk 0 0 0 false [] [] 0) none 0 none 0),ve (iv ((numericV v).2)),vt,vt]
   [] newsNil a8 (.eq (.eq (.tt (.tt (.nil))))) ?_ ?_ ?_
 refine .t (fun _ w hn k=>⟨_,v_build (ps:=[]) rfl parts0 (by kernel_rfl),rfl⟩) ?_
 refine .o3 ?_
 exact .off<| .off .nil
 intro i h
 simp only [List.contains_eq_mem,List.mem_cons,List.not_mem_nil,or_false,decide_eq_true_eq] at h
 subst h
 exact eager_take rfl rfl fun _ w hn k=>⟨iv ((numericV v).2),fun w=>v_move rfl (k.fx 7 eD),rfl⟩
 refine aftI a8 bK bL fun di f0 bO dQ dR dS bk=>?_
 have dj:=bk.fx 4 dg
 have dk:=bk.ge 0 16 rfl
 have dl:=bk.ge 1 17 rfl
 have dT:=bN.new_ dS
 obtain⟨dU,bP,bQ,ch,e6⟩:=s_many (P:=Tryz.prog) (t:=29) (i:=0) z7 Tryz.sizeOf29 rfl rfl rfl dT lb
 have ci:Blk dU a5 29 z7:=bQ
 refine st_act rfl rfl fun fk cj=>a_store' rfl dj dk bP (cj _ _ trivial ?_)
 have cl:=dR.trans ch (fun _ h b=>by subst b; omega)
 refine st_take rfl rfl (y_assign (v:=iv ((numericV v).2)) rfl dl) rfl ?_
 obtain⟨dV,af⟩:∃ a',a'=di.put (some 5) (iv ((numericV v).2)):=⟨_,rfl⟩
 have e7:=pz af bO
 have cm:=pd af dQ
 have dW:=pn af dj (by decide)
 have fl:=pn af dk (by decide)
 have fm:=pn af dl (by decide)
 have dX:dV.eval (.tmp 5)=iv ((numericV v).2):=by rw [af]; exact put_same _ _ _ (by rw [bO]; decide)
 show stepsTo _ _ _ _ _ (di.put (some 5) (iv ((numericV v).2))) _
 rw [← af]
 refine st_nil (dP _ _ ?_)
 refine wp_ret (ret_k cm (v:=.tuple #[vv (Vl.mk 0 0 0 false [] [] 0) none 0 none 0,iv ((numericV v).2)]) (res_ct rfl dW dX (l_agg Tryz.isAgg29 Tryz.sizeOf29 ci rfl)) ?_)
 have aq:(stepV v y).1.mag=[]:=by first|rfl|(simp only [stepV,numV,Vl.z,ac,aF,aF,good_canon (z:=y) (by omega),bsm] <;> rfl)|(exfalso; omega)
 have ap:(stepV v y).1.s=[]:=by first|rfl|(simp only [stepV,numV,Vl.z,ac,aF,aF,good_canon (z:=y) (by omega),bsm] <;> rfl)|(exfalso; omega)
 exact⟨none,0,none,0,(by show Ending.returned (.tuple #[vv (Vl.mk 0 0 0 false [] [] 0) none 0 none 0,iv ((numericV v).2)])=Ending.returned (.tuple #[vv (stepV v y).1 none 0 none 0,iv ((stepV v y).2)]); (first|rfl|(simp only [stepV,numV,Vl.z,ac,aF,aF,aq,ap,good_canon (z:=y) (by omega),bsm] <;> rfl)|(exfalso; omega))),(by rw [aq]; exact (SRow.nil _ _)),(by rw [ap]; exact (SRow.nil _ _)),cl⟩
 have cn:=hB dh ac
 have aa:(decide (((numericV v).2)=0))=true:=nT ac
 have eE:=oT aa
 refine wp_cond_false cn ?_
 refine wp_seq_k fun fn co=>?_
 refine wp_g0 [true,true,true,true,true,true,true] [] 50
   [ve (iv y),ve (.bool (!decide (y=1))),ve (.bool (!decide (y=1))),ve (gq (!decide (y=1)) (iv y)),ve (gq (!decide (y=1)) (.bool (!decide (y = -1)))),ve (.bool ((!decide (y=1)) && (!decide (y = -1)))),ve (.bool ((!decide (y=1)) && (!decide (y = -1))))] a8 (.eq (.eq (.eq (.eq (.eq (.eq (.eq (.nil)))))))) ?_ ?_
 exact .m (fun k=>k.fx 1 bM)<| .t (fun _ w hn k=>⟨_,v_bin rfl (k.eq1 0 19 rfl) rfl (fun _=>rfl) (r_neq rfl),rfl⟩)<| .m (fun k=>k.eq1 1 20 rfl)<| .o1 (sc (G:=(!decide (y=1))) rfl rfl rfl (fun _ _ k=>g0 (k.eq1 2 21 rfl)) (fun hG _ w hn k=>v_move rfl (k.fx 1 bM)))<| .o1 (sc (G:=(!decide (y=1))) rfl rfl rfl (fun _ _ k=>g0 (k.eq1 2 21 rfl)) (fun hG _ w hn k=>v_bin rfl (cT hG (k.eq1 3 22 rfl)) rfl (fun _=>rfl) (r_neq rfl)))<| .t (fun _ w hn k=>⟨_,v_and rfl (k.eq1 2 21 rfl) (fun hg=>(cT hg (k.eq1 4 23 rfl))) rfl,rfl⟩)<| .a (fun k=>k.eq1 5 24 rfl) .nil
 refine aftI a8 bK bL fun fo fp aJ bp bq aK aL=>?_
 have dY:=aL.fx 1 bM
 have bR:=aL.fx 4 dg
 have bS:=aL.fx 6 eC
 have bT:=aL.ge 6 18 rfl
 have br:=bN.new_ aK
 have bs:=dL.new_ aK
 have cp:=dM.new_ aK
 have cq:=dN.new_ aK
 refine st_nil (co _ _ ?_)
 rcases bc (((!decide (y=1)) && (!decide (y = -1)))) with ab|ab
 have cr:=hB bT ab
 have ag:(!decide (y=1))=true:=al ab
 have ah:(decide (y=1))=false:=nF ag
 have eF:=oF ah
 have ai:(!decide (y = -1))=true:=ar ab
 have aj:(decide (y = -1))=false:=nF ai
 have eG:=oF aj
 refine wp_cond_true cr ?_
 refine wp_seq_k fun fq ct=>?_
 refine wp_g0 [true,false,false] [(1,false),(2,true)] 50
   [ve (vv (Vl.mk 0 0 0 false [] [] 0) none 0 none 0),vt,vt] aJ (.eq (.tt (.tt (.nil)))) ?_ ?_
 exact .t (fun _ w hn k=>⟨_,v_build (ps:=[]) rfl parts0 (by kernel_rfl),rfl⟩)<| .off<| .off .nil
 refine aftI aJ bp bq fun bU fs bt cu cw cx bu=>?_
 have bV:=bu.fx 4 bR
 have bW:=bu.ge 0 25 rfl
 have cy:=br.new_ cx
 obtain⟨dZ,bX,bY,cz,e8⟩:=s_many (P:=Tryz.prog) (t:=29) (i:=0) z7 Tryz.sizeOf29 rfl rfl rfl cy lb
 have cA:Blk dZ a5 29 z7:=bY
 refine st_act rfl rfl fun ft cB=>a_store' rfl bV bW bX (cB _ _ trivial ?_)
 have cC:=cw.trans cz (fun _ h b=>by subst b; omega)
 refine st_take rfl rfl (y_assign (v:=iv 3) rfl rfl) rfl ?_
 obtain⟨d0,au⟩:∃ a',a'=bU.put (some 5) (iv 3):=⟨_,rfl⟩
 have e9:=pz au bt
 have cD:=pd au cu
 have d1:=pn au bV (by decide)
 have fu:=pn au bW (by decide)
 have d2:d0.eval (.tmp 5)=iv 3:=by rw [au]; exact put_same _ _ _ (by rw [bt]; decide)
 show stepsTo _ _ _ _ _ (bU.put (some 5) (iv 3)) _
 rw [← au]
 refine st_nil (ct _ _ ?_)
 refine wp_ret (ret_k cD (v:=.tuple #[vv (Vl.mk 0 0 0 false [] [] 0) none 0 none 0,iv 3]) (res_ct rfl d1 d2 (l_agg Tryz.isAgg29 Tryz.sizeOf29 cA rfl)) ?_)
 have aq:(stepV v y).1.mag=[]:=by first|rfl|(simp only [stepV,numV,Vl.z,ac,aa,aa,ab,ag,ag,ah,ah,ai,ai,aj,aj,good_canon (z:=y) (by omega),bsm] <;> rfl)|(exfalso; omega)
 have ap:(stepV v y).1.s=[]:=by first|rfl|(simp only [stepV,numV,Vl.z,ac,aa,aa,ab,ag,ag,ah,ah,ai,ai,aj,aj,good_canon (z:=y) (by omega),bsm] <;> rfl)|(exfalso; omega)
 exact⟨none,0,none,0,(by show Ending.returned (.tuple #[vv (Vl.mk 0 0 0 false [] [] 0) none 0 none 0,iv 3])=Ending.returned (.tuple #[vv (stepV v y).1 none 0 none 0,iv ((stepV v y).2)]); (first|rfl|(simp only [stepV,numV,Vl.z,ac,aa,aa,ab,ag,ag,ah,ah,ai,ai,aj,aj,aq,ap,good_canon (z:=y) (by omega),bsm] <;> rfl)|(exfalso; omega))),(by rw [aq]; exact (SRow.nil _ _)),(by rw [ap]; exact (SRow.nil _ _)),cC⟩
 have cE:=hB bT ab
 refine wp_cond_false cE ?_
 refine wp_seq_k fun fv cF=>?_
 refine wp_g0 [true,true,true,true] [] 50
   [ve (pv bg),ve (iv ((numericV v).1.k)),ve (.bool (decide (((numericV v).1.k)=4))),ve (.bool (decide (((numericV v).1.k)=4)))] aJ (.eq (.eq (.eq (.eq (.nil))))) ?_ ?_
 exact .f (fun k=>k.fx 6 bS)<| .t (fun _ w hn k=>⟨_,v_load rfl (k.eq1 0 27 rfl) (l_one Tryz.isAgg3 ((bs.new_ hn).cell 0)),rfl⟩)<| .t (fun _ w hn k=>⟨_,v_bin rfl (k.eq1 1 28 rfl) rfl (fun _=>rfl) (r_eql rfl),rfl⟩)<| .a (fun k=>k.eq1 2 29 rfl) .nil
 refine aftI aJ bp bq fun fw fy aM bv bw aN aO=>?_
 have bZ:=aO.fx 1 dY
 have b0:=aO.fx 4 bR
 have b1:=aO.fx 6 bS
 have b2:=aO.ge 3 26 rfl
 have bx:=br.new_ aN
 have bz:=bs.new_ aN
 have cG:=cp.new_ aN
 have fa:=cq.new_ aN
 refine st_nil (cF _ _ ?_)
 rcases bc (decide (((numericV v).1.k)=4)) with ad|ad
 have b3:=oT ad
 have cH:=hB b2 ad
 refine wp_cond_true cH ?_
 refine wp_seq_k fun fz cI=>?_
 refine wp_g0 [true,true,true,true,true,true,true,true,true,true,false,false] [(10,false),(11,true)] 50
   [ve (.pointer (some ⟨bg,3,none⟩)),ve (.agg #[.bool ((numericV v).1.neg),sv a6 ((numericV v).1.mag) aT]),ve (iv y),(fun (v_:Value) (W:World)=>∃ (aV:Option Addr) (aW:Nat),v_=.agg #[.bool (decide (y < 0)),sv aV (canon (y).natAbs) aW]∧SRow W .u32 aV (canon (y).natAbs) aW),(fun (v_:Value) (W:World)=>∃ (az:Option Addr) (aA:Nat),v_=.tuple #[.agg #[.bool (decide ((capI (goodI ((numericV v).1.neg) ((numericV v).1.mag) + goodI (decide (y < 0)) (canon (y).natAbs))) < 0)),sv az (canon ((capI (goodI ((numericV v).1.neg) ((numericV v).1.mag) + goodI (decide (y < 0)) (canon (y).natAbs)))).natAbs) aA],.bool (okI (goodI ((numericV v).1.neg) ((numericV v).1.mag) + goodI (decide (y < 0)) (canon (y).natAbs)))]∧SRow W .u32 az (canon ((capI (goodI ((numericV v).1.neg) ((numericV v).1.mag) + goodI (decide (y < 0)) (canon (y).natAbs)))).natAbs) aA),(fun (v_:Value) (W:World)=>∃ (aX:Option Addr) (aY:Nat),v_=.agg #[.bool (decide ((capI (goodI ((numericV v).1.neg) ((numericV v).1.mag) + goodI (decide (y < 0)) (canon (y).natAbs))) < 0)),sv aX (canon ((capI (goodI ((numericV v).1.neg) ((numericV v).1.mag) + goodI (decide (y < 0)) (canon (y).natAbs)))).natAbs) aY]∧SRow W .u32 aX (canon ((capI (goodI ((numericV v).1.neg) ((numericV v).1.mag) + goodI (decide (y < 0)) (canon (y).natAbs)))).natAbs) aY),ve (.bool (okI (goodI ((numericV v).1.neg) ((numericV v).1.mag) + goodI (decide (y < 0)) (canon (y).natAbs)))),(TP (biggedV (decide ((capI (goodI ((numericV v).1.neg) ((numericV v).1.mag) + goodI (decide (y < 0)) (canon (y).natAbs))) < 0)) (canon ((capI (goodI ((numericV v).1.neg) ((numericV v).1.mag) + goodI (decide (y < 0)) (canon (y).natAbs)))).natAbs) (okI (goodI ((numericV v).1.neg) ((numericV v).1.mag) + goodI (decide (y < 0)) (canon (y).natAbs)))).1 ((biggedV (decide ((capI (goodI ((numericV v).1.neg) ((numericV v).1.mag) + goodI (decide (y < 0)) (canon (y).natAbs))) < 0)) (canon ((capI (goodI ((numericV v).1.neg) ((numericV v).1.mag) + goodI (decide (y < 0)) (canon (y).natAbs)))).natAbs) (okI (goodI ((numericV v).1.neg) ((numericV v).1.mag) + goodI (decide (y < 0)) (canon (y).natAbs)))).2)),(fun (v_:Value) (W:World)=>∃ (aZ:Option Addr) (a1:Nat) (a3:Option Addr) (a4:Nat),v_=vv (biggedV (decide ((capI (goodI ((numericV v).1.neg) ((numericV v).1.mag) + goodI (decide (y < 0)) (canon (y).natAbs))) < 0)) (canon ((capI (goodI ((numericV v).1.neg) ((numericV v).1.mag) + goodI (decide (y < 0)) (canon (y).natAbs)))).natAbs) (okI (goodI ((numericV v).1.neg) ((numericV v).1.mag) + goodI (decide (y < 0)) (canon (y).natAbs)))).1 aZ a1 a3 a4∧SRow W .u32 aZ ((biggedV (decide ((capI (goodI ((numericV v).1.neg) ((numericV v).1.mag) + goodI (decide (y < 0)) (canon (y).natAbs))) < 0)) (canon ((capI (goodI ((numericV v).1.neg) ((numericV v).1.mag) + goodI (decide (y < 0)) (canon (y).natAbs)))).natAbs) (okI (goodI ((numericV v).1.neg) ((numericV v).1.mag) + goodI (decide (y < 0)) (canon (y).natAbs)))).1.mag) a1∧SRow W .u16 a3 ((biggedV (decide ((capI (goodI ((numericV v).1.neg) ((numericV v).1.mag) + goodI (decide (y < 0)) (canon (y).natAbs))) < 0)) (canon ((capI (goodI ((numericV v).1.neg) ((numericV v).1.mag) + goodI (decide (y < 0)) (canon (y).natAbs)))).natAbs) (okI (goodI ((numericV v).1.neg) ((numericV v).1.mag) + goodI (decide (y < 0)) (canon (y).natAbs)))).1.s) a4),ve (iv ((biggedV (decide ((capI (goodI ((numericV v).1.neg) ((numericV v).1.mag) + goodI (decide (y < 0)) (canon (y).natAbs))) < 0)) (canon ((capI (goodI ((numericV v).1.neg) ((numericV v).1.mag) + goodI (decide (y < 0)) (canon (y).natAbs)))).natAbs) (okI (goodI ((numericV v).1.neg) ((numericV v).1.mag) + goodI (decide (y < 0)) (canon (y).natAbs)))).2)),vt,vt] aM (.eq (.eq (.eq (.cons (fun _ _ _ n ⟨_,_,e,h⟩=>⟨_,_,e,h.new_ n⟩) (.cons (fun _ _ _ n ⟨_,_,e,h⟩=>⟨_,_,e,h.new_ n⟩) (.cons (fun _ _ _ n ⟨_,_,e,h⟩=>⟨_,_,e,h.new_ n⟩) (.eq (.cons (fun _ _ _ n ⟨_,_,_,_,e,h,i⟩=>⟨_,_,_,_,e,h.new_ n,i.new_ n⟩) (.cons (fun _ _ _ n ⟨_,_,_,_,e,h,i⟩=>⟨_,_,_,_,e,h.new_ n,i.new_ n⟩) (.eq (.tt (.tt (.nil))))))))))))) ?_ ?_
 refine .f (fun k=>k.fx 6 b1)<| .t (fun _ w hn k=>⟨_,v_load rfl (k.eq1 0 30 rfl) (l_part Tryz.isAgg26 Tryz.sizeOf26 (bz.new_ hn) lb),rfl⟩)<| .m (fun k=>k.fx 1 bZ) ?_
 refine .o1 (tkC rfl (noG rfl) rfl fun _ w hn k=>(by
       refine ⟨#[iv y],_,args1 (k.eq1 2 32 rfl),fun w=>by kernel_rfl,bOf_c y _ (by omega) (by omega),?_⟩
       rintro e w' ⟨eH,eI,rfl,hmo0,hm⟩
       exact⟨_,rfl,hm,⟨eH,eI,rfl,hmo0⟩⟩)) ?_
 refine .o1 (tkC rfl (noG rfl) rfl fun _ w hn k=>(by
       obtain⟨eJ,eK,eL,d3⟩:(fun (v_:Value) (W:World)=>∃ (aV:Option Addr) (aW:Nat),v_=.agg #[.bool (decide (y < 0)),sv aV (canon (y).natAbs) aW]∧SRow W .u32 aV (canon (y).natAbs) aW) _ _:=k.dep 3 33 (by kernel_rfl) (by kernel_rfl)
       refine ⟨#[.agg #[.bool ((numericV v).1.neg),sv a6 ((numericV v).1.mag) aT],.agg #[.bool (decide (y < 0)),sv eJ (canon (y).natAbs) eK]],_,args2 (k.eq1 1 31 rfl) eL,fun w=>by kernel_rfl,bAdd_c ((numericV v).1.neg) _ ((numericV v).1.mag) _ (decide (y < 0)) _ (canon (y).natAbs) _ _ (cG.new_ hn) d3 (VOk.numeric hvv).limbs (limbs_canon _),?_⟩
       rintro e w' ⟨eM,eN,rfl,hmo0,hm⟩
       exact⟨_,rfl,hm,⟨eM,eN,rfl,hmo0⟩⟩)) ?_
 refine .o1 (tk rfl rfl fun _ w hn k=>(by
       obtain⟨eO,eP,eQ,d4⟩:(fun (v_:Value) (W:World)=>∃ (az:Option Addr) (aA:Nat),v_=.tuple #[.agg #[.bool (decide ((capI (goodI ((numericV v).1.neg) ((numericV v).1.mag) + goodI (decide (y < 0)) (canon (y).natAbs))) < 0)),sv az (canon ((capI (goodI ((numericV v).1.neg) ((numericV v).1.mag) + goodI (decide (y < 0)) (canon (y).natAbs)))).natAbs) aA],.bool (okI (goodI ((numericV v).1.neg) ((numericV v).1.mag) + goodI (decide (y < 0)) (canon (y).natAbs)))]∧SRow W .u32 az (canon ((capI (goodI ((numericV v).1.neg) ((numericV v).1.mag) + goodI (decide (y < 0)) (canon (y).natAbs)))).natAbs) aA) _ _:=k.dep 4 34 (by kernel_rfl) (by kernel_rfl)
       exact⟨_,v_extract rfl eQ rfl,⟨eO,eP,rfl,d4⟩⟩)) ?_
 refine .o1 (tk rfl rfl fun _ w hn k=>(by
       obtain⟨f1,f2,eR,fA⟩:(fun (v_:Value) (W:World)=>∃ (az:Option Addr) (aA:Nat),v_=.tuple #[.agg #[.bool (decide ((capI (goodI ((numericV v).1.neg) ((numericV v).1.mag) + goodI (decide (y < 0)) (canon (y).natAbs))) < 0)),sv az (canon ((capI (goodI ((numericV v).1.neg) ((numericV v).1.mag) + goodI (decide (y < 0)) (canon (y).natAbs)))).natAbs) aA],.bool (okI (goodI ((numericV v).1.neg) ((numericV v).1.mag) + goodI (decide (y < 0)) (canon (y).natAbs)))]∧SRow W .u32 az (canon ((capI (goodI ((numericV v).1.neg) ((numericV v).1.mag) + goodI (decide (y < 0)) (canon (y).natAbs)))).natAbs) aA) _ _:=k.dep 4 34 (by kernel_rfl) (by kernel_rfl)
       exact⟨_,v_extract rfl eR rfl,rfl⟩)) ?_
 refine .o1 (tkC rfl (noG rfl) rfl fun _ w hn k=>(by
       obtain⟨eS,eT,eU,d5⟩:(fun (v_:Value) (W:World)=>∃ (aX:Option Addr) (aY:Nat),v_=.agg #[.bool (decide ((capI (goodI ((numericV v).1.neg) ((numericV v).1.mag) + goodI (decide (y < 0)) (canon (y).natAbs))) < 0)),sv aX (canon ((capI (goodI ((numericV v).1.neg) ((numericV v).1.mag) + goodI (decide (y < 0)) (canon (y).natAbs)))).natAbs) aY]∧SRow W .u32 aX (canon ((capI (goodI ((numericV v).1.neg) ((numericV v).1.mag) + goodI (decide (y < 0)) (canon (y).natAbs)))).natAbs) aY) _ _:=k.dep 5 35 (by kernel_rfl) (by kernel_rfl)
       refine ⟨#[.agg #[.bool (decide ((capI (goodI ((numericV v).1.neg) ((numericV v).1.mag) + goodI (decide (y < 0)) (canon (y).natAbs))) < 0)),sv eS (canon ((capI (goodI ((numericV v).1.neg) ((numericV v).1.mag) + goodI (decide (y < 0)) (canon (y).natAbs)))).natAbs) eT],.bool (okI (goodI ((numericV v).1.neg) ((numericV v).1.mag) + goodI (decide (y < 0)) (canon (y).natAbs)))],_,args2 eU (k.eq1 6 36 rfl),fun w=>by kernel_rfl,bigged_c (decide ((capI (goodI ((numericV v).1.neg) ((numericV v).1.mag) + goodI (decide (y < 0)) (canon (y).natAbs))) < 0)) _ (canon ((capI (goodI ((numericV v).1.neg) ((numericV v).1.mag) + goodI (decide (y < 0)) (canon (y).natAbs)))).natAbs) _ (okI (goodI ((numericV v).1.neg) ((numericV v).1.mag) + goodI (decide (y < 0)) (canon (y).natAbs))) _ d5,?_⟩
       rintro e w' ⟨eV,eW,eX,eY,rfl,hmo0,hmo1,hm⟩
       exact⟨_,rfl,hm,⟨eV,eW,eX,eY,rfl,hmo0,hmo1⟩⟩)) ?_
 refine .o1 (tk rfl rfl fun _ w hn k=>(by
       obtain⟨eZ,e0,e1,e2,e3,d6,d7⟩:(TP (biggedV (decide ((capI (goodI ((numericV v).1.neg) ((numericV v).1.mag) + goodI (decide (y < 0)) (canon (y).natAbs))) < 0)) (canon ((capI (goodI ((numericV v).1.neg) ((numericV v).1.mag) + goodI (decide (y < 0)) (canon (y).natAbs)))).natAbs) (okI (goodI ((numericV v).1.neg) ((numericV v).1.mag) + goodI (decide (y < 0)) (canon (y).natAbs)))).1 ((biggedV (decide ((capI (goodI ((numericV v).1.neg) ((numericV v).1.mag) + goodI (decide (y < 0)) (canon (y).natAbs))) < 0)) (canon ((capI (goodI ((numericV v).1.neg) ((numericV v).1.mag) + goodI (decide (y < 0)) (canon (y).natAbs)))).natAbs) (okI (goodI ((numericV v).1.neg) ((numericV v).1.mag) + goodI (decide (y < 0)) (canon (y).natAbs)))).2)) _ _:=k.dep 7 37 (by kernel_rfl) (by kernel_rfl)
       exact⟨_,v_extract rfl e3 rfl,⟨eZ,e0,e1,e2,rfl,d6,d7⟩⟩)) ?_
 refine .o1 (tk rfl rfl fun _ w hn k=>(by
       obtain⟨f3,f4,f5,f6,e4,fB,fC⟩:(TP (biggedV (decide ((capI (goodI ((numericV v).1.neg) ((numericV v).1.mag) + goodI (decide (y < 0)) (canon (y).natAbs))) < 0)) (canon ((capI (goodI ((numericV v).1.neg) ((numericV v).1.mag) + goodI (decide (y < 0)) (canon (y).natAbs)))).natAbs) (okI (goodI ((numericV v).1.neg) ((numericV v).1.mag) + goodI (decide (y < 0)) (canon (y).natAbs)))).1 ((biggedV (decide ((capI (goodI ((numericV v).1.neg) ((numericV v).1.mag) + goodI (decide (y < 0)) (canon (y).natAbs))) < 0)) (canon ((capI (goodI ((numericV v).1.neg) ((numericV v).1.mag) + goodI (decide (y < 0)) (canon (y).natAbs)))).natAbs) (okI (goodI ((numericV v).1.neg) ((numericV v).1.mag) + goodI (decide (y < 0)) (canon (y).natAbs)))).2)) _ _:=k.dep 7 37 (by kernel_rfl) (by kernel_rfl)
       exact⟨_,v_extract rfl e4 rfl,rfl⟩)) ?_
 exact .off<| .off .nil
 refine aftI aM bv bw fun bl fD bA cJ cK cL ba=>?_
 have b4:=ba.fx 4 b0
 obtain⟨aG,ak,aH,am,bb,cM,cN⟩:=ba.G 8 38
 have bb:bl.eval (.tmp 38)=vv (biggedV (decide ((capI (goodI ((numericV v).1.neg) ((numericV v).1.mag) + goodI (decide (y < 0)) (canon (y).natAbs))) < 0)) (canon ((capI (goodI ((numericV v).1.neg) ((numericV v).1.mag) + goodI (decide (y < 0)) (canon (y).natAbs)))).natAbs) (okI (goodI ((numericV v).1.neg) ((numericV v).1.mag) + goodI (decide (y < 0)) (canon (y).natAbs)))).1 aG ak aH am:=bb
 have b5:=ba.ge 9 39 rfl
 have bd:=bx.new_ cL
 obtain⟨d8,b6,b7,be,fb⟩:=s_many (P:=Tryz.prog) (t:=29) (i:=0) (c7 (biggedV (decide ((capI (goodI ((numericV v).1.neg) ((numericV v).1.mag) + goodI (decide (y < 0)) (canon (y).natAbs))) < 0)) (canon ((capI (goodI ((numericV v).1.neg) ((numericV v).1.mag) + goodI (decide (y < 0)) (canon (y).natAbs)))).natAbs) (okI (goodI ((numericV v).1.neg) ((numericV v).1.mag) + goodI (decide (y < 0)) (canon (y).natAbs)))).1 aG ak aH am) Tryz.sizeOf29 rfl rfl rfl bd lb
 have cO:Blk d8 a5 29 (c7 (biggedV (decide ((capI (goodI ((numericV v).1.neg) ((numericV v).1.mag) + goodI (decide (y < 0)) (canon (y).natAbs))) < 0)) (canon ((capI (goodI ((numericV v).1.neg) ((numericV v).1.mag) + goodI (decide (y < 0)) (canon (y).natAbs)))).natAbs) (okI (goodI ((numericV v).1.neg) ((numericV v).1.mag) + goodI (decide (y < 0)) (canon (y).natAbs)))).1 aG ak aH am):=b7
 refine st_act rfl rfl fun fE cP=>a_store' rfl b4 bb b6 (cP _ _ trivial ?_)
 have cQ:=cM.fr bd be
 have cR:=cN.fr bd be
 have cS:=cK.trans be (fun _ h b=>by subst b; omega)
 refine st_take rfl rfl (y_assign (v:=iv ((biggedV (decide ((capI (goodI ((numericV v).1.neg) ((numericV v).1.mag) + goodI (decide (y < 0)) (canon (y).natAbs))) < 0)) (canon ((capI (goodI ((numericV v).1.neg) ((numericV v).1.mag) + goodI (decide (y < 0)) (canon (y).natAbs)))).natAbs) (okI (goodI ((numericV v).1.neg) ((numericV v).1.mag) + goodI (decide (y < 0)) (canon (y).natAbs)))).2)) rfl b5) rfl ?_
 obtain⟨d9,an⟩:∃ a',a'=bl.put (some 5) (iv ((biggedV (decide ((capI (goodI ((numericV v).1.neg) ((numericV v).1.mag) + goodI (decide (y < 0)) (canon (y).natAbs))) < 0)) (canon ((capI (goodI ((numericV v).1.neg) ((numericV v).1.mag) + goodI (decide (y < 0)) (canon (y).natAbs)))).natAbs) (okI (goodI ((numericV v).1.neg) ((numericV v).1.mag) + goodI (decide (y < 0)) (canon (y).natAbs)))).2)):=⟨_,rfl⟩
 have fc:=pz an bA
 have cU:=pd an cJ
 have ea:=pn an b4 (by decide)
 have fF:=pn an bb (by decide)
 have fG:=pn an b5 (by decide)
 have eb:d9.eval (.tmp 5)=iv ((biggedV (decide ((capI (goodI ((numericV v).1.neg) ((numericV v).1.mag) + goodI (decide (y < 0)) (canon (y).natAbs))) < 0)) (canon ((capI (goodI ((numericV v).1.neg) ((numericV v).1.mag) + goodI (decide (y < 0)) (canon (y).natAbs)))).natAbs) (okI (goodI ((numericV v).1.neg) ((numericV v).1.mag) + goodI (decide (y < 0)) (canon (y).natAbs)))).2):=by rw [an]; exact put_same _ _ _ (by rw [bA]; decide)
 show stepsTo _ _ _ _ _ (bl.put (some 5) (iv ((biggedV (decide ((capI (goodI ((numericV v).1.neg) ((numericV v).1.mag) + goodI (decide (y < 0)) (canon (y).natAbs))) < 0)) (canon ((capI (goodI ((numericV v).1.neg) ((numericV v).1.mag) + goodI (decide (y < 0)) (canon (y).natAbs)))).natAbs) (okI (goodI ((numericV v).1.neg) ((numericV v).1.mag) + goodI (decide (y < 0)) (canon (y).natAbs)))).2))) _
 rw [← an]
 refine st_nil (cI _ _ ?_)
 refine wp_ret (ret_k cU (v:=.tuple #[vv (biggedV (decide ((capI (goodI ((numericV v).1.neg) ((numericV v).1.mag) + goodI (decide (y < 0)) (canon (y).natAbs))) < 0)) (canon ((capI (goodI ((numericV v).1.neg) ((numericV v).1.mag) + goodI (decide (y < 0)) (canon (y).natAbs)))).natAbs) (okI (goodI ((numericV v).1.neg) ((numericV v).1.mag) + goodI (decide (y < 0)) (canon (y).natAbs)))).1 aG ak aH am,iv ((biggedV (decide ((capI (goodI ((numericV v).1.neg) ((numericV v).1.mag) + goodI (decide (y < 0)) (canon (y).natAbs))) < 0)) (canon ((capI (goodI ((numericV v).1.neg) ((numericV v).1.mag) + goodI (decide (y < 0)) (canon (y).natAbs)))).natAbs) (okI (goodI ((numericV v).1.neg) ((numericV v).1.mag) + goodI (decide (y < 0)) (canon (y).natAbs)))).2)]) (res_ct rfl ea eb (l_agg Tryz.isAgg29 Tryz.sizeOf29 cO rfl)) ?_)
 have aq:(stepV v y).1.mag=(biggedV (decide ((capI (goodI ((numericV v).1.neg) ((numericV v).1.mag) + goodI (decide (y < 0)) (canon (y).natAbs))) < 0)) (canon ((capI (goodI ((numericV v).1.neg) ((numericV v).1.mag) + goodI (decide (y < 0)) (canon (y).natAbs)))).natAbs) (okI (goodI ((numericV v).1.neg) ((numericV v).1.mag) + goodI (decide (y < 0)) (canon (y).natAbs)))).1.mag:=by first|rfl|(simp only [stepV,numV,Vl.z,ac,aa,aa,ab,ad,good_canon (z:=y) (by omega),bsm] <;> rfl)|(exfalso; omega)
 have ap:(stepV v y).1.s=(biggedV (decide ((capI (goodI ((numericV v).1.neg) ((numericV v).1.mag) + goodI (decide (y < 0)) (canon (y).natAbs))) < 0)) (canon ((capI (goodI ((numericV v).1.neg) ((numericV v).1.mag) + goodI (decide (y < 0)) (canon (y).natAbs)))).natAbs) (okI (goodI ((numericV v).1.neg) ((numericV v).1.mag) + goodI (decide (y < 0)) (canon (y).natAbs)))).1.s:=by first|rfl|(simp only [stepV,numV,Vl.z,ac,aa,aa,ab,ad,good_canon (z:=y) (by omega),bsm] <;> rfl)|(exfalso; omega)
 exact⟨aG,ak,aH,am,(by show Ending.returned (.tuple #[vv (biggedV (decide ((capI (goodI ((numericV v).1.neg) ((numericV v).1.mag) + goodI (decide (y < 0)) (canon (y).natAbs))) < 0)) (canon ((capI (goodI ((numericV v).1.neg) ((numericV v).1.mag) + goodI (decide (y < 0)) (canon (y).natAbs)))).natAbs) (okI (goodI ((numericV v).1.neg) ((numericV v).1.mag) + goodI (decide (y < 0)) (canon (y).natAbs)))).1 aG ak aH am,iv ((biggedV (decide ((capI (goodI ((numericV v).1.neg) ((numericV v).1.mag) + goodI (decide (y < 0)) (canon (y).natAbs))) < 0)) (canon ((capI (goodI ((numericV v).1.neg) ((numericV v).1.mag) + goodI (decide (y < 0)) (canon (y).natAbs)))).natAbs) (okI (goodI ((numericV v).1.neg) ((numericV v).1.mag) + goodI (decide (y < 0)) (canon (y).natAbs)))).2)])=Ending.returned (.tuple #[vv (stepV v y).1 aG ak aH am,iv ((stepV v y).2)]); (first|rfl|(simp only [stepV,numV,Vl.z,ac,aa,aa,ab,ad,aq,ap,good_canon (z:=y) (by omega),bsm] <;> rfl)|(exfalso; omega))),(by rw [aq]; exact cQ),(by rw [ap]; exact cR),cS⟩
 have b3:=oF ad
 have cV:=hB b2 ad
 refine wp_cond_false cV ?_
 refine wp_skip ?_
 refine dJ _ _ ?_
 refine wp_seq_k fun fH cW=>?_
 refine wp_g0 [true,true,true,true,true,true,true,true,true,true,false,false] [(10,false),(11,true)] 50
   [ve (.pointer (some ⟨bg,1,none⟩)),ve (nv (Nm.mk ((numericV v).1.nk) ((numericV v).1.nn))),ve (iv y),ve (nv (Nm.mk 0 y)),ve (.tuple #[nv ((addM (Nm.mk ((numericV v).1.nk) ((numericV v).1.nn)) (Nm.mk 0 y)).1),.bool ((addM (Nm.mk ((numericV v).1.nk) ((numericV v).1.nn)) (Nm.mk 0 y)).2)]),ve (nv ((addM (Nm.mk ((numericV v).1.nk) ((numericV v).1.nn)) (Nm.mk 0 y)).1)),ve (.bool ((addM (Nm.mk ((numericV v).1.nk) ((numericV v).1.nn)) (Nm.mk 0 y)).2)),ve (.tuple #[vv (Vl.mk (numberedV ((addM (Nm.mk ((numericV v).1.nk) ((numericV v).1.nn)) (Nm.mk 0 y)).1) ((addM (Nm.mk ((numericV v).1.nk) ((numericV v).1.nn)) (Nm.mk 0 y)).2)).1 (numberedV ((addM (Nm.mk ((numericV v).1.nk) ((numericV v).1.nn)) (Nm.mk 0 y)).1) ((addM (Nm.mk ((numericV v).1.nk) ((numericV v).1.nn)) (Nm.mk 0 y)).2)).2.1.k (numberedV ((addM (Nm.mk ((numericV v).1.nk) ((numericV v).1.nn)) (Nm.mk 0 y)).1) ((addM (Nm.mk ((numericV v).1.nk) ((numericV v).1.nn)) (Nm.mk 0 y)).2)).2.1.n false [] [] 0) none 0 none 0,iv ((numberedV ((addM (Nm.mk ((numericV v).1.nk) ((numericV v).1.nn)) (Nm.mk 0 y)).1) ((addM (Nm.mk ((numericV v).1.nk) ((numericV v).1.nn)) (Nm.mk 0 y)).2)).2.2)]),ve (vv (Vl.mk (numberedV ((addM (Nm.mk ((numericV v).1.nk) ((numericV v).1.nn)) (Nm.mk 0 y)).1) ((addM (Nm.mk ((numericV v).1.nk) ((numericV v).1.nn)) (Nm.mk 0 y)).2)).1 (numberedV ((addM (Nm.mk ((numericV v).1.nk) ((numericV v).1.nn)) (Nm.mk 0 y)).1) ((addM (Nm.mk ((numericV v).1.nk) ((numericV v).1.nn)) (Nm.mk 0 y)).2)).2.1.k (numberedV ((addM (Nm.mk ((numericV v).1.nk) ((numericV v).1.nn)) (Nm.mk 0 y)).1) ((addM (Nm.mk ((numericV v).1.nk) ((numericV v).1.nn)) (Nm.mk 0 y)).2)).2.1.n false [] [] 0) none 0 none 0),ve (iv ((numberedV ((addM (Nm.mk ((numericV v).1.nk) ((numericV v).1.nn)) (Nm.mk 0 y)).1) ((addM (Nm.mk ((numericV v).1.nk) ((numericV v).1.nn)) (Nm.mk 0 y)).2)).2.2)),vt,vt] aM (.eq (.eq (.eq (.eq (.eq (.eq (.eq (.eq (.eq (.eq (.tt (.tt (.nil))))))))))))) ?_ ?_
 exact .f (fun k=>k.fx 6 b1)<| .t (fun _ w hn k=>⟨_,v_load rfl (k.eq1 0 40 rfl) (l_part Tryz.isAgg23 Tryz.sizeOf23 (bz.new_ hn) lb),rfl⟩)<| .m (fun k=>k.fx 1 bZ)<| .t (fun _ w hn k=>⟨_,v_build (ps:=[(1,iv y)]) rfl (parts1 (k.eq1 2 42 rfl)) (by kernel_rfl),rfl⟩)<| .o1 (ck rfl rfl rfl (fun _ w hn k=>⟨#[nv (Nm.mk ((numericV v).1.nk) ((numericV v).1.nn)),nv (Nm.mk 0 y)],args2 (k.eq1 1 41 rfl) (k.eq1 3 43 rfl),fun _=>by kernel_rfl,nadd_c (Nm.mk ((numericV v).1.nk) ((numericV v).1.nn)) (Nm.mk 0 y) _ ⟩) fun _=>rfl)<| .t (fun _ w hn k=>⟨_,v_extract rfl (k.eq1 4 44 rfl) rfl,rfl⟩)<| .t (fun _ w hn k=>⟨_,v_extract rfl (k.eq1 4 44 rfl) rfl,rfl⟩)<| .o1 (ck rfl rfl rfl (fun _ w hn k=>⟨#[nv ((addM (Nm.mk ((numericV v).1.nk) ((numericV v).1.nn)) (Nm.mk 0 y)).1),.bool ((addM (Nm.mk ((numericV v).1.nk) ((numericV v).1.nn)) (Nm.mk 0 y)).2)],args2 (k.eq1 5 45 rfl) (k.eq1 6 46 rfl),fun _=>by kernel_rfl,numbered_c ((addM (Nm.mk ((numericV v).1.nk) ((numericV v).1.nn)) (Nm.mk 0 y)).1) ((addM (Nm.mk ((numericV v).1.nk) ((numericV v).1.nn)) (Nm.mk 0 y)).2) _ ⟩) fun _=>rfl)<| .t (fun _ w hn k=>⟨_,v_extract rfl (k.eq1 7 47 rfl) rfl,rfl⟩)<| .t (fun _ w hn k=>⟨_,v_extract rfl (k.eq1 7 47 rfl) rfl,rfl⟩)<| .off<| .off .nil
 refine aftI aM bv bw fun b8 fI bB cX cY cZ bf=>?_
 have b9:=bf.fx 4 b0
 have ca:=bf.ge 8 48 rfl
 have cb:=bf.ge 9 49 rfl
 have c0:=bx.new_ cZ
 obtain⟨ec,cc,cd,c1,fd⟩:=s_many (P:=Tryz.prog) (t:=29) (i:=0) [iv ((numberedV ((addM (Nm.mk ((numericV v).1.nk) ((numericV v).1.nn)) (Nm.mk 0 y)).1) ((addM (Nm.mk ((numericV v).1.nk) ((numericV v).1.nn)) (Nm.mk 0 y)).2)).1),iv ((numberedV ((addM (Nm.mk ((numericV v).1.nk) ((numericV v).1.nn)) (Nm.mk 0 y)).1) ((addM (Nm.mk ((numericV v).1.nk) ((numericV v).1.nn)) (Nm.mk 0 y)).2)).2.1.k),iv ((numberedV ((addM (Nm.mk ((numericV v).1.nk) ((numericV v).1.nn)) (Nm.mk 0 y)).1) ((addM (Nm.mk ((numericV v).1.nk) ((numericV v).1.nn)) (Nm.mk 0 y)).2)).2.1.n),.bool false,sv none ([]) 0,sv none ([]) 0,iv 0] Tryz.sizeOf29 rfl rfl rfl c0 lb
 have c3:Blk ec a5 29 [iv ((numberedV ((addM (Nm.mk ((numericV v).1.nk) ((numericV v).1.nn)) (Nm.mk 0 y)).1) ((addM (Nm.mk ((numericV v).1.nk) ((numericV v).1.nn)) (Nm.mk 0 y)).2)).1),iv ((numberedV ((addM (Nm.mk ((numericV v).1.nk) ((numericV v).1.nn)) (Nm.mk 0 y)).1) ((addM (Nm.mk ((numericV v).1.nk) ((numericV v).1.nn)) (Nm.mk 0 y)).2)).2.1.k),iv ((numberedV ((addM (Nm.mk ((numericV v).1.nk) ((numericV v).1.nn)) (Nm.mk 0 y)).1) ((addM (Nm.mk ((numericV v).1.nk) ((numericV v).1.nn)) (Nm.mk 0 y)).2)).2.1.n),.bool false,sv none ([]) 0,sv none ([]) 0,iv 0]:=cd
 refine st_act rfl rfl fun fJ c5=>a_store' rfl b9 ca cc (c5 _ _ trivial ?_)
 have c9:=cY.trans c1 (fun _ h b=>by subst b; omega)
 refine st_take rfl rfl (y_assign (v:=iv ((numberedV ((addM (Nm.mk ((numericV v).1.nk) ((numericV v).1.nn)) (Nm.mk 0 y)).1) ((addM (Nm.mk ((numericV v).1.nk) ((numericV v).1.nn)) (Nm.mk 0 y)).2)).2.2)) rfl cb) rfl ?_
 obtain⟨ed,ao⟩:∃ a',a'=b8.put (some 5) (iv ((numberedV ((addM (Nm.mk ((numericV v).1.nk) ((numericV v).1.nn)) (Nm.mk 0 y)).1) ((addM (Nm.mk ((numericV v).1.nk) ((numericV v).1.nn)) (Nm.mk 0 y)).2)).2.2)):=⟨_,rfl⟩
 have fe:=pz ao bB
 have da:=pd ao cX
 have ee:=pn ao b9 (by decide)
 have fK:=pn ao ca (by decide)
 have fL:=pn ao cb (by decide)
 have ef:ed.eval (.tmp 5)=iv ((numberedV ((addM (Nm.mk ((numericV v).1.nk) ((numericV v).1.nn)) (Nm.mk 0 y)).1) ((addM (Nm.mk ((numericV v).1.nk) ((numericV v).1.nn)) (Nm.mk 0 y)).2)).2.2):=by rw [ao]; exact put_same _ _ _ (by rw [bB]; decide)
 show stepsTo _ _ _ _ _ (b8.put (some 5) (iv ((numberedV ((addM (Nm.mk ((numericV v).1.nk) ((numericV v).1.nn)) (Nm.mk 0 y)).1) ((addM (Nm.mk ((numericV v).1.nk) ((numericV v).1.nn)) (Nm.mk 0 y)).2)).2.2))) _
 rw [← ao]
 refine st_nil (cW _ _ ?_)
 refine wp_ret (ret_k da (v:=.tuple #[vv (Vl.mk (numberedV ((addM (Nm.mk ((numericV v).1.nk) ((numericV v).1.nn)) (Nm.mk 0 y)).1) ((addM (Nm.mk ((numericV v).1.nk) ((numericV v).1.nn)) (Nm.mk 0 y)).2)).1 (numberedV ((addM (Nm.mk ((numericV v).1.nk) ((numericV v).1.nn)) (Nm.mk 0 y)).1) ((addM (Nm.mk ((numericV v).1.nk) ((numericV v).1.nn)) (Nm.mk 0 y)).2)).2.1.k (numberedV ((addM (Nm.mk ((numericV v).1.nk) ((numericV v).1.nn)) (Nm.mk 0 y)).1) ((addM (Nm.mk ((numericV v).1.nk) ((numericV v).1.nn)) (Nm.mk 0 y)).2)).2.1.n false [] [] 0) none 0 none 0,iv ((numberedV ((addM (Nm.mk ((numericV v).1.nk) ((numericV v).1.nn)) (Nm.mk 0 y)).1) ((addM (Nm.mk ((numericV v).1.nk) ((numericV v).1.nn)) (Nm.mk 0 y)).2)).2.2)]) (res_ct rfl ee ef (l_agg Tryz.isAgg29 Tryz.sizeOf29 c3 rfl)) ?_)
 have aq:(stepV v y).1.mag=[]:=by first|rfl|(simp only [stepV,numV,Vl.z,ac,aa,aa,ab,ad,good_canon (z:=y) (by omega),bsm] <;> rfl)|(exfalso; omega)
 have ap:(stepV v y).1.s=[]:=by first|rfl|(simp only [stepV,numV,Vl.z,ac,aa,aa,ab,ad,good_canon (z:=y) (by omega),bsm] <;> rfl)|(exfalso; omega)
 exact⟨none,0,none,0,(by show Ending.returned (.tuple #[vv (Vl.mk (numberedV ((addM (Nm.mk ((numericV v).1.nk) ((numericV v).1.nn)) (Nm.mk 0 y)).1) ((addM (Nm.mk ((numericV v).1.nk) ((numericV v).1.nn)) (Nm.mk 0 y)).2)).1 (numberedV ((addM (Nm.mk ((numericV v).1.nk) ((numericV v).1.nn)) (Nm.mk 0 y)).1) ((addM (Nm.mk ((numericV v).1.nk) ((numericV v).1.nn)) (Nm.mk 0 y)).2)).2.1.k (numberedV ((addM (Nm.mk ((numericV v).1.nk) ((numericV v).1.nn)) (Nm.mk 0 y)).1) ((addM (Nm.mk ((numericV v).1.nk) ((numericV v).1.nn)) (Nm.mk 0 y)).2)).2.1.n false [] [] 0) none 0 none 0,iv ((numberedV ((addM (Nm.mk ((numericV v).1.nk) ((numericV v).1.nn)) (Nm.mk 0 y)).1) ((addM (Nm.mk ((numericV v).1.nk) ((numericV v).1.nn)) (Nm.mk 0 y)).2)).2.2)])=Ending.returned (.tuple #[vv (stepV v y).1 none 0 none 0,iv ((stepV v y).2)]); (first|rfl|(simp only [stepV,numV,Vl.z,ac,aa,aa,ab,ad,aq,ap,good_canon (z:=y) (by omega),bsm] <;> rfl)|(exfalso; omega))),(by rw [aq]; exact (SRow.nil _ _)),(by rw [ap]; exact (SRow.nil _ _)),c9⟩
def addV_P (v u:Vl) (w:World) (en:Ending) (w':World):Prop:=∃ (A:Option Addr) (c:Nat) (B:Option Addr) (d:Nat),en=.returned (.tuple #[vv (addV v u).1 A c B d,iv (addV v u).2])∧SRow w' .u32 A (addV v u).1.mag c∧SRow w' .u16 B (addV v u).1.s d∧New w w'
theorem addV_l (v:Vl) (A0:Option Addr) (c0:Nat) (B0:Option Addr) (d0:Nat) (u:Vl) (A1:Option Addr) (c1:Nat) (B1:Option Addr) (d1:Nat) (w:World) (hm0:SRow w .u32 A0 v.mag c0) (hs0:SRow w .u16 B0 v.s d0) (hm1:SRow w .u32 A1 u.mag c1) (hs1:SRow w .u16 B1 u.s d1) (hvv:VOk v) (hvu:VOk u) (hk1:(cleanV v).k ≠ 5) (hk2:(cleanV u).k ≠ 5):Calls Tryz.prog 12 #[.string ⟨#[43]⟩,vv v A0 c0 B0 d0,vv u A1 c1 B1 d1] w (addV_P v u w):=binPl_c v A0 c0 B0 d0 u A1 c1 B1 d1 w hm0 hs0 hm1 hs1 hvv hvu hk1 hk2
def subV_P (v u:Vl) (w:World) (en:Ending) (w':World):Prop:=∃ (A:Option Addr) (c:Nat) (B:Option Addr) (d:Nat),en=.returned (.tuple #[vv (subV v u).1 A c B d,iv (subV v u).2])∧SRow w' .u32 A (subV v u).1.mag c∧SRow w' .u16 B (subV v u).1.s d∧New w w'
theorem subV_l (v:Vl) (A0:Option Addr) (c0:Nat) (B0:Option Addr) (d0:Nat) (u:Vl) (A1:Option Addr) (c1:Nat) (B1:Option Addr) (d1:Nat) (w:World) (hm0:SRow w .u32 A0 v.mag c0) (hs0:SRow w .u16 B0 v.s d0) (hm1:SRow w .u32 A1 u.mag c1) (hs1:SRow w .u16 B1 u.s d1) (hvv:VOk v) (hvu:VOk u):Calls Tryz.prog 12 #[.string ⟨#[45]⟩,vv v A0 c0 B0 d0,vv u A1 c1 B1 d1] w (subV_P v u w):=binMi_c v A0 c0 B0 d0 u A1 c1 B1 d1 w hm0 hs0 hm1 hs1 hvv hvu
theorem ofew_c (o:ByteArray) (v:Vl) (Av:Option Addr) (cv:Nat) (Bv:Option Addr) (dv:Nat) (u:Vl) (Au:Option Addr) (cu:Nat) (Bu:Option Addr) (du:Nat) (w:World) (hmv:SRow w .u32 Av v.mag cv) (hsv:SRow w .u16 Bv v.s dv) (hmu:SRow w .u32 Au u.mag cu) (hsu:SRow w .u16 Bu u.s du):Calls Tryz.prog 11 #[.string o,vv v Av cv Bv dv,vv u Au cu Bu du] w (IsRet (.bool (fewV o v u)) w):=by
 refine enter_abs Tryz.func11 rfl fun a0 ab an hp=>?_
 have ab:a0.tmps.size=18:=ab
 have ac:New w w:=Upd.refl _ _
 have hp0:a0.eval (.tmp 0)=.string o:=hp 0 _ rfl
 have hp1:a0.eval (.tmp 1)=vv v Av cv Bv dv:=hp 1 _ rfl
 have hp2:a0.eval (.tmp 2)=vv u Au cu Bu du:=hp 2 _ rfl
 refine wp_seq_k fun K1 ao=>?_
 refine wp_g [true,true,true] [] [] 18
   [IsNew w 29 (c7 v Av cv Bv dv),IsNew w 29 (c7 u Au cu Bu du),vF]
   [0,1] (newsCons (fun v w h=>IsNew.old h) (newsCons (fun v w h=>IsNew.old h) newsNil)) ab (.nw (.nw (.eq (.nil)))) ?_ (fun i h=>by cases h) ?_
 exact .o2 (step_allocN (cs:=(c7 v Av cv Bv dv)) (t:=29) rfl (noG rfl) (fun _ w hn k=>v_box rfl (k.fx 1 hp1) (fun w=>rfl)) (fun q _ hq hb=>⟨q,rfl,hq,hb⟩))<| .o2 (step_allocN (cs:=(c7 u Au cu Bu du)) (t:=29) rfl (noG rfl) (fun _ w hn k=>v_box rfl (k.fx 2 hp2) (fun w=>rfl)) (fun q _ hq hb=>⟨q,rfl,hq,hb⟩))<| .t (fun _ w hn k=>⟨_,v_assign rfl rfl,rfl⟩) .nil
 refine aftI ab an ac fun a2 w3 ae ap aa ay ad=>?_
 have h8:=ad.fx 0 hp0
 obtain⟨az,h9,af,ag⟩:=ad.G 0 4
 obtain⟨aA,aq,ah,ai⟩:=ad.G 1 5
 have au:=Nat.le_trans ac.size af
 have av:=Nat.le_trans ac.size ah
 refine st_nil (ao _ _ (wp_seq_k fun aB aj=>?_))
 refine wp_g0 (.replicate 12 true) [] 18
   [ve (.string o),ve (iv (o.size:Int)),ve (.bool (decide ((o.size:Int)≤100))),ve (.bool (decide ((o.size:Int)≤100))),ve (gq (decide ((o.size:Int)≤100)) (vv v Av cv Bv dv)),ve (gq (decide ((o.size:Int)≤100)) (.bool (decide ((v.s.length:Int)≤20000) && decide ((v.mag.length:Int)≤40)))),ve (.bool ((decide ((o.size:Int)≤100)) && (decide ((v.s.length:Int)≤20000) && decide ((v.mag.length:Int)≤40)))),ve (.bool ((decide ((o.size:Int)≤100)) && (decide ((v.s.length:Int)≤20000) && decide ((v.mag.length:Int)≤40)))),ve (gq ((decide ((o.size:Int)≤100)) && (decide ((v.s.length:Int)≤20000) && decide ((v.mag.length:Int)≤40))) (vv u Au cu Bu du)),ve (gq ((decide ((o.size:Int)≤100)) && (decide ((v.s.length:Int)≤20000) && decide ((v.mag.length:Int)≤40))) (.bool (decide ((u.s.length:Int)≤20000) && decide ((u.mag.length:Int)≤40)))),ve (.bool (((decide ((o.size:Int)≤100)) && (decide ((v.s.length:Int)≤20000) && decide ((v.mag.length:Int)≤40))) && (decide ((u.s.length:Int)≤20000) && decide ((u.mag.length:Int)≤40)))),ve (.bool (((decide ((o.size:Int)≤100)) && (decide ((v.s.length:Int)≤20000) && decide ((v.mag.length:Int)≤40))) && (decide ((u.s.length:Int)≤20000) && decide ((u.mag.length:Int)≤40))))] ae (.eq (.eq (.eq (.eq (.eq (.eq (.eq (.eq (.eq (.eq (.eq (.eq (.nil))))))))))))) ?_ ?_
 exact .m (fun k=>k.fx 0 h8)<| .t (fun _ w hn k=>⟨_,v_lenS rfl (k.eq1 0 7 rfl) (by kernel_rfl),rfl⟩)<| .t (fun _ w hn k=>⟨_,v_bin rfl (k.eq1 1 8 rfl) rfl (fun _=>rfl) (r_leqK rfl),rfl⟩)<| .m (fun k=>k.eq1 2 9 rfl)<| .o1 (sc (G:=(decide ((o.size:Int)≤100))) rfl rfl rfl (fun _ _ k=>g0 (k.eq1 3 10 rfl)) (fun hG _ w hn k=>v_load rfl (k.fx 4 h9) (l_agg Tryz.isAgg29 Tryz.sizeOf29 (ag.new_ hn) rfl)))<| .o1 (scC (G:=(decide ((o.size:Int)≤100))) rfl rfl rfl (fun _ _ k=>g0 (k.eq1 3 10 rfl)) rfl (fun hG _ w hn k=>⟨#[vv v Av cv Bv dv],args1 (cT hG (k.eq1 4 11 rfl)),fun _=>by kernel_rfl,few_c v _ _ _ _ _ (hmv.new_ (aa.transNew hn)) (hsv.new_ (aa.transNew hn))⟩))<| .t (fun _ w hn k=>⟨_,v_and rfl (k.eq1 3 10 rfl) (fun hg=>(cT hg (k.eq1 5 12 rfl))) rfl,rfl⟩)<| .m (fun k=>k.eq1 6 13 rfl)<| .o1 (sc (G:=((decide ((o.size:Int)≤100)) && (decide ((v.s.length:Int)≤20000) && decide ((v.mag.length:Int)≤40)))) rfl rfl rfl (fun _ _ k=>g0 (k.eq1 7 14 rfl)) (fun hG _ w hn k=>v_load rfl (k.fx 5 aq) (l_agg Tryz.isAgg29 Tryz.sizeOf29 (ai.new_ hn) rfl)))<| .o1 (scC (G:=((decide ((o.size:Int)≤100)) && (decide ((v.s.length:Int)≤20000) && decide ((v.mag.length:Int)≤40)))) rfl rfl rfl (fun _ _ k=>g0 (k.eq1 7 14 rfl)) rfl (fun hG _ w hn k=>⟨#[vv u Au cu Bu du],args1 (cT hG (k.eq1 8 15 rfl)),fun _=>by kernel_rfl,few_c u _ _ _ _ _ (hmu.new_ (aa.transNew hn)) (hsu.new_ (aa.transNew hn))⟩))<| .t (fun _ w hn k=>⟨_,v_and rfl (k.eq1 7 14 rfl) (fun hg=>(cT hg (k.eq1 9 16 rfl))) rfl,rfl⟩)<| .a (fun k=>k.eq1 10 17 rfl) .nil
 refine aftI ae ap aa fun aC aD aw ak al ax am=>?_
 have ar:=am.ge 11 6 rfl
 refine st_nil (aj _ _ ?_)
 refine wp_ret (ret_k ak (v:=.bool (((decide ((o.size:Int)≤100)) && (decide ((v.s.length:Int)≤20000) && decide ((v.mag.length:Int)≤40))) && (decide ((u.s.length:Int)≤20000) && decide ((u.mag.length:Int)≤40)))) (res_t rfl ar _) ?_)
 refine ⟨?_,al⟩
 show Ending.returned (.bool (((decide ((o.size:Int)≤100)) && (decide ((v.s.length:Int)≤20000) && decide ((v.mag.length:Int)≤40))) && (decide ((u.s.length:Int)≤20000) && decide ((u.mag.length:Int)≤40))))=Ending.returned (.bool (fewV o v u))
 first|rfl|(simp only [fewV,bsm] <;> rfl)|(exfalso; omega)
theorem osums_w (v:Vl) (Av:Option Addr) (cv:Nat) (Bv:Option Addr) (dv:Nat) (u:Vl) (Au:Option Addr) (cu:Nat) (Bu:Option Addr) (du:Nat) (w:World) (hmv:SRow w .u32 Av v.mag cv) (hsv:SRow w .u16 Bv v.s dv) (hmu:SRow w .u32 Au u.mag cu) (hsu:SRow w .u16 Bu u.s du) (hlv:Limbs v.mag) (huv:U16s v.s) (hbv:-9223372036854775808≤v.nn∧v.nn≤9223372036854775807∧-9223372036854775808≤v.ref∧v.ref≤9223372036854775807) (hlu:Limbs u.mag) (huu:U16s u.s) (hbu:-9223372036854775808≤u.nn∧u.nn≤9223372036854775807∧-9223372036854775808≤u.ref∧u.ref≤9223372036854775807) (HT:ItoaOk w):Calls Tryz.prog 8 #[vv v Av cv Bv dv,vv u Au cu Bu du] w (IsRet (.bool true) w):=by
 refine enter_abs Tryz.func8 rfl fun a0 b2 fP hp=>?_
 have b2:a0.tmps.size=121:=b2
 have cp:New w w:=Upd.refl _ _
 have hp0:a0.eval (.tmp 0)=vv v Av cv Bv dv:=hp 0 _ rfl
 have hp1:a0.eval (.tmp 1)=vv u Au cu Bu du:=hp 1 _ rfl
 refine wp_seq_k fun K1 fQ=>?_
 refine wp_g [true,true,true] [] [] 121
   [IsNew w 29 (c7 v Av cv Bv dv),IsNew w 29 (c7 u Au cu Bu du),vF]
   [0,1] (newsCons (fun v w h=>IsNew.old h) (newsCons (fun v w h=>IsNew.old h) newsNil)) b2 (.nw (.nw (.eq (.nil)))) ?_ (fun i h=>by cases h) ?_
 exact .o2 (step_allocN (cs:=(c7 v Av cv Bv dv)) (t:=29) rfl (noG rfl) (fun _ w hn k=>v_box rfl (k.fx 0 hp0) (fun w=>rfl)) (fun q _ hq hb=>⟨q,rfl,hq,hb⟩))<| .o2 (step_allocN (cs:=(c7 u Au cu Bu du)) (t:=29) rfl (noG rfl) (fun _ w hn k=>v_box rfl (k.fx 1 hp1) (fun w=>rfl)) (fun q _ hq hb=>⟨q,rfl,hq,hb⟩))<| .t (fun _ w hn k=>⟨_,v_assign rfl rfl,rfl⟩) .nil
 refine aftI b2 fP cp fun a2 w3 d9 fR cq ht ea=>?_
 obtain⟨q9,h8,eg,eh⟩:=ea.G 0 2
 obtain⟨b3,fS,ei,ej⟩:=ea.G 1 3
 have gH:=Nat.le_trans cp.size eg
 have gI:=Nat.le_trans cp.size ei
 refine st_nil (fQ _ _ (wp_seq_k fun hu ek=>?_))
 refine wp_seq_k fun hv el=>?_
 refine wp_g0 [true,true] [] 121
   [vT,vF] d9 (.eq (.eq (.nil))) ?_ ?_
 exact .o1 (ck rfl rfl rfl (fun _ w hn k=>⟨#[],rfl,fun _=>by kernel_rfl,first_c _ (HT.up (cq.transNew hn))⟩) fun _=>rfl)<| .t (fun _ w hn k=>⟨_,v_not rfl (k.eq1 0 13 rfl),rfl⟩) .nil
 refine aftI d9 fR cq fun hw hx cr em ap ct bO=>?_
 have a6:=bO.fx 2 h8
 have bL:=bO.fx 3 fS
 have fT:=bO.ge 1 14 rfl
 have aq:=eh.new_ ct
 have a9:=ej.new_ ct
 refine st_nil (el _ _ ?_)
 refine wp_cond_false fT ?_
 refine wp_skip ?_
 refine ek _ _ ?_
 refine wp_seq_k fun hy en=>?_
 refine wp_seq_k fun hz eo=>?_
 refine wp_g0 (.replicate 48 true) [] 121
   [ve (vv v Av cv Bv dv),ve (vv u Au cu Bu du),ve (.bool (fewV ⟨#[]⟩ v u)),ve (.bool (!(fewV ⟨#[]⟩ v u))),ve (.bool (!(fewV ⟨#[]⟩ v u))),ve (gq (!(!(fewV ⟨#[]⟩ v u))) (vv v Av cv Bv dv)),ve (gq (!(!(fewV ⟨#[]⟩ v u))) (.bool (mayV v))),ve (gq (!(!(fewV ⟨#[]⟩ v u))) (.bool (!(mayV v)))),ve (.bool ((!(fewV ⟨#[]⟩ v u)) || (!(mayV v)))),ve (.bool ((!(fewV ⟨#[]⟩ v u)) || (!(mayV v)))),ve (gq (!((!(fewV ⟨#[]⟩ v u)) || (!(mayV v)))) (vv u Au cu Bu du)),ve (gq (!((!(fewV ⟨#[]⟩ v u)) || (!(mayV v)))) (.bool (mayV u))),ve (gq (!((!(fewV ⟨#[]⟩ v u)) || (!(mayV v)))) (.bool (!(mayV u)))),ve (.bool (((!(fewV ⟨#[]⟩ v u)) || (!(mayV v))) || (!(mayV u)))),ve (.bool (((!(fewV ⟨#[]⟩ v u)) || (!(mayV v))) || (!(mayV u)))),ve (gq (!(((!(fewV ⟨#[]⟩ v u)) || (!(mayV v))) || (!(mayV u)))) (pv q9)),ve (gq (!(((!(fewV ⟨#[]⟩ v u)) || (!(mayV v))) || (!(mayV u)))) (iv v.k)),ve (gq (!(((!(fewV ⟨#[]⟩ v u)) || (!(mayV v))) || (!(mayV u)))) (pv b3)),ve (gq (!(((!(fewV ⟨#[]⟩ v u)) || (!(mayV v))) || (!(mayV u)))) (iv u.k)),ve (gq (!(((!(fewV ⟨#[]⟩ v u)) || (!(mayV v))) || (!(mayV u)))) (.bool (!decide (v.k=u.k)))),ve (.bool ((((!(fewV ⟨#[]⟩ v u)) || (!(mayV v))) || (!(mayV u))) || (!decide (v.k=u.k)))),ve (.bool ((((!(fewV ⟨#[]⟩ v u)) || (!(mayV v))) || (!(mayV u))) || (!decide (v.k=u.k)))),ve (gq (!((((!(fewV ⟨#[]⟩ v u)) || (!(mayV v))) || (!(mayV u))) || (!decide (v.k=u.k)))) (pv q9)),ve (gq (!((((!(fewV ⟨#[]⟩ v u)) || (!(mayV v))) || (!(mayV u))) || (!decide (v.k=u.k)))) (iv v.k)),ve (gq (!((((!(fewV ⟨#[]⟩ v u)) || (!(mayV v))) || (!(mayV u))) || (!decide (v.k=u.k)))) (.bool (!decide (v.k=3)))),ve (gq (!((((!(fewV ⟨#[]⟩ v u)) || (!(mayV v))) || (!(mayV u))) || (!decide (v.k=u.k)))) (.bool (!decide (v.k=3)))),ve (gq ((!((((!(fewV ⟨#[]⟩ v u)) || (!(mayV v))) || (!(mayV u))) || (!decide (v.k=u.k)))) && (!decide (v.k=3))) (pv q9)),ve (gq ((!((((!(fewV ⟨#[]⟩ v u)) || (!(mayV v))) || (!(mayV u))) || (!decide (v.k=u.k)))) && (!decide (v.k=3))) (iv v.k)),ve (gq ((!((((!(fewV ⟨#[]⟩ v u)) || (!(mayV v))) || (!(mayV u))) || (!decide (v.k=u.k)))) && (!decide (v.k=3))) (.bool (!decide (v.k=4)))),ve (gq (!((((!(fewV ⟨#[]⟩ v u)) || (!(mayV v))) || (!(mayV u))) || (!decide (v.k=u.k)))) (.bool ((!decide (v.k=3)) && (!decide (v.k=4))))),ve (.bool (((((!(fewV ⟨#[]⟩ v u)) || (!(mayV v))) || (!(mayV u))) || (!decide (v.k=u.k))) || ((!decide (v.k=3)) && (!decide (v.k=4))))),ve (.bool (((((!(fewV ⟨#[]⟩ v u)) || (!(mayV v))) || (!(mayV u))) || (!decide (v.k=u.k))) || ((!decide (v.k=3)) && (!decide (v.k=4))))),ve (gq (!(((((!(fewV ⟨#[]⟩ v u)) || (!(mayV v))) || (!(mayV u))) || (!decide (v.k=u.k))) || ((!decide (v.k=3)) && (!decide (v.k=4))))) (pv q9)),ve (gq (!(((((!(fewV ⟨#[]⟩ v u)) || (!(mayV v))) || (!(mayV u))) || (!decide (v.k=u.k))) || ((!decide (v.k=3)) && (!decide (v.k=4))))) (iv v.k)),ve (gq (!(((((!(fewV ⟨#[]⟩ v u)) || (!(mayV v))) || (!(mayV u))) || (!decide (v.k=u.k))) || ((!decide (v.k=3)) && (!decide (v.k=4))))) (.bool (decide (v.k=3)))),ve (gq (!(((((!(fewV ⟨#[]⟩ v u)) || (!(mayV v))) || (!(mayV u))) || (!decide (v.k=u.k))) || ((!decide (v.k=3)) && (!decide (v.k=4))))) (.bool (decide (v.k=3)))),ve (gq ((!(((((!(fewV ⟨#[]⟩ v u)) || (!(mayV v))) || (!(mayV u))) || (!decide (v.k=u.k))) || ((!decide (v.k=3)) && (!decide (v.k=4))))) && (decide (v.k=3))) (.pointer (some ⟨q9,1,none⟩))),ve (gq ((!(((((!(fewV ⟨#[]⟩ v u)) || (!(mayV v))) || (!(mayV u))) || (!decide (v.k=u.k))) || ((!decide (v.k=3)) && (!decide (v.k=4))))) && (decide (v.k=3))) (.pointer (some ⟨q9,1,none⟩))),ve (gq ((!(((((!(fewV ⟨#[]⟩ v u)) || (!(mayV v))) || (!(mayV u))) || (!decide (v.k=u.k))) || ((!decide (v.k=3)) && (!decide (v.k=4))))) && (decide (v.k=3))) (iv v.nk)),ve (gq ((!(((((!(fewV ⟨#[]⟩ v u)) || (!(mayV v))) || (!(mayV u))) || (!decide (v.k=u.k))) || ((!decide (v.k=3)) && (!decide (v.k=4))))) && (decide (v.k=3))) (.bool (!decide (v.nk=0)))),ve (gq ((!(((((!(fewV ⟨#[]⟩ v u)) || (!(mayV v))) || (!(mayV u))) || (!decide (v.k=u.k))) || ((!decide (v.k=3)) && (!decide (v.k=4))))) && (decide (v.k=3))) (.bool (!decide (v.nk=0)))),ve (gq (((!(((((!(fewV ⟨#[]⟩ v u)) || (!(mayV v))) || (!(mayV u))) || (!decide (v.k=u.k))) || ((!decide (v.k=3)) && (!decide (v.k=4))))) && (decide (v.k=3))) && (!(!decide (v.nk=0)))) (.pointer (some ⟨b3,1,none⟩))),ve (gq (((!(((((!(fewV ⟨#[]⟩ v u)) || (!(mayV v))) || (!(mayV u))) || (!decide (v.k=u.k))) || ((!decide (v.k=3)) && (!decide (v.k=4))))) && (decide (v.k=3))) && (!(!decide (v.nk=0)))) (.pointer (some ⟨b3,1,none⟩))),ve (gq (((!(((((!(fewV ⟨#[]⟩ v u)) || (!(mayV v))) || (!(mayV u))) || (!decide (v.k=u.k))) || ((!decide (v.k=3)) && (!decide (v.k=4))))) && (decide (v.k=3))) && (!(!decide (v.nk=0)))) (iv u.nk)),ve (gq (((!(((((!(fewV ⟨#[]⟩ v u)) || (!(mayV v))) || (!(mayV u))) || (!decide (v.k=u.k))) || ((!decide (v.k=3)) && (!decide (v.k=4))))) && (decide (v.k=3))) && (!(!decide (v.nk=0)))) (.bool (!decide (u.nk=0)))),ve (gq ((!(((((!(fewV ⟨#[]⟩ v u)) || (!(mayV v))) || (!(mayV u))) || (!decide (v.k=u.k))) || ((!decide (v.k=3)) && (!decide (v.k=4))))) && (decide (v.k=3))) (.bool ((!decide (v.nk=0)) || (!decide (u.nk=0))))),ve (gq (!(((((!(fewV ⟨#[]⟩ v u)) || (!(mayV v))) || (!(mayV u))) || (!decide (v.k=u.k))) || ((!decide (v.k=3)) && (!decide (v.k=4))))) (.bool ((decide (v.k=3)) && ((!decide (v.nk=0)) || (!decide (u.nk=0)))))),ve (.bool ((((((!(fewV ⟨#[]⟩ v u)) || (!(mayV v))) || (!(mayV u))) || (!decide (v.k=u.k))) || ((!decide (v.k=3)) && (!decide (v.k=4)))) || ((decide (v.k=3)) && ((!decide (v.nk=0)) || (!decide (u.nk=0))))))] cr (.eq (.eq (.eq (.eq (.eq (.eq (.eq (.eq (.eq (.eq (.eq (.eq (.eq (.eq (.eq (.eq (.eq (.eq (.eq (.eq (.eq (.eq (.eq (.eq (.eq (.eq (.eq (.eq (.eq (.eq (.eq (.eq (.eq (.eq (.eq (.eq (.eq (.eq (.eq (.eq (.eq (.eq (.eq (.eq (.eq (.eq (.eq (.eq (.nil))))))))))))))))))))))))))))))))))))))))))))))))) ?_ ?_
 exact .t (fun _ w hn k=>⟨_,v_load rfl (k.fx 2 a6) (l_agg Tryz.isAgg29 Tryz.sizeOf29 (aq.new_ hn) rfl),rfl⟩)<| .t (fun _ w hn k=>⟨_,v_load rfl (k.fx 3 bL) (l_agg Tryz.isAgg29 Tryz.sizeOf29 (a9.new_ hn) rfl),rfl⟩)<| .o1 (ck rfl rfl rfl (fun _ w hn k=>⟨#[.string ⟨#[]⟩,vv v Av cv Bv dv,vv u Au cu Bu du],args3 rfl (k.eq1 0 15 rfl) (k.eq1 1 16 rfl),fun _=>by kernel_rfl,ofew_c ⟨#[]⟩ v _ _ _ _ u _ _ _ _ _ (hmv.new_ (ap.transNew hn)) (hsv.new_ (ap.transNew hn)) (hmu.new_ (ap.transNew hn)) (hsu.new_ (ap.transNew hn))⟩) fun _=>rfl)<| .t (fun _ w hn k=>⟨_,v_not rfl (k.eq1 2 17 rfl),rfl⟩)<| .m (fun k=>k.eq1 3 18 rfl)<| .o1 (sc (G:=(!(!(fewV ⟨#[]⟩ v u)))) rfl rfl rfl (fun _ _ k=>g0' (k.eq1 4 19 rfl)) (fun hG _ w hn k=>v_load rfl (k.fx 2 a6) (l_agg Tryz.isAgg29 Tryz.sizeOf29 (aq.new_ hn) rfl)))<| .o1 (scC (G:=(!(!(fewV ⟨#[]⟩ v u)))) rfl rfl rfl (fun _ _ k=>g0' (k.eq1 4 19 rfl)) rfl (fun hG _ w hn k=>⟨#[vv v Av cv Bv dv],args1 (cT hG (k.eq1 5 20 rfl)),fun _=>by kernel_rfl,vmay_c v _ _ _ _ _ (hmv.new_ (ap.transNew hn)) (hsv.new_ (ap.transNew hn))⟩))<| .o1 (sc (G:=(!(!(fewV ⟨#[]⟩ v u)))) rfl rfl rfl (fun _ _ k=>g0' (k.eq1 4 19 rfl)) (fun hG _ w hn k=>v_not rfl (cT hG (k.eq1 6 21 rfl))))<| .t (fun _ w hn k=>⟨_,v_or rfl (k.eq1 4 19 rfl) rfl (fun hg=>(cT (nt hg) (k.eq1 7 22 rfl))),rfl⟩)<| .m (fun k=>k.eq1 8 23 rfl)<| .o1 (sc (G:=(!((!(fewV ⟨#[]⟩ v u)) || (!(mayV v))))) rfl rfl rfl (fun _ _ k=>g0' (k.eq1 9 24 rfl)) (fun hG _ w hn k=>v_load rfl (k.fx 3 bL) (l_agg Tryz.isAgg29 Tryz.sizeOf29 (a9.new_ hn) rfl)))<| .o1 (scC (G:=(!((!(fewV ⟨#[]⟩ v u)) || (!(mayV v))))) rfl rfl rfl (fun _ _ k=>g0' (k.eq1 9 24 rfl)) rfl (fun hG _ w hn k=>⟨#[vv u Au cu Bu du],args1 (cT hG (k.eq1 10 25 rfl)),fun _=>by kernel_rfl,vmay_c u _ _ _ _ _ (hmu.new_ (ap.transNew hn)) (hsu.new_ (ap.transNew hn))⟩))<| .o1 (sc (G:=(!((!(fewV ⟨#[]⟩ v u)) || (!(mayV v))))) rfl rfl rfl (fun _ _ k=>g0' (k.eq1 9 24 rfl)) (fun hG _ w hn k=>v_not rfl (cT hG (k.eq1 11 26 rfl))))<| .t (fun _ w hn k=>⟨_,v_or rfl (k.eq1 9 24 rfl) rfl (fun hg=>(cT (nt hg) (k.eq1 12 27 rfl))),rfl⟩)<| .m (fun k=>k.eq1 13 28 rfl)<| .o1 (sc (G:=(!(((!(fewV ⟨#[]⟩ v u)) || (!(mayV v))) || (!(mayV u))))) rfl rfl rfl (fun _ _ k=>g0' (k.eq1 14 29 rfl)) (fun hG _ w hn k=>v_field rfl (k.fx 2 a6) (fun w=>rfl)))<| .o1 (sc (G:=(!(((!(fewV ⟨#[]⟩ v u)) || (!(mayV v))) || (!(mayV u))))) rfl rfl rfl (fun _ _ k=>g0' (k.eq1 14 29 rfl)) (fun hG _ w hn k=>v_load rfl (cT hG (k.eq1 15 30 rfl)) (l_one Tryz.isAgg3 ((aq.new_ hn).cell 0))))<| .o1 (sc (G:=(!(((!(fewV ⟨#[]⟩ v u)) || (!(mayV v))) || (!(mayV u))))) rfl rfl rfl (fun _ _ k=>g0' (k.eq1 14 29 rfl)) (fun hG _ w hn k=>v_field rfl (k.fx 3 bL) (fun w=>rfl)))<| .o1 (sc (G:=(!(((!(fewV ⟨#[]⟩ v u)) || (!(mayV v))) || (!(mayV u))))) rfl rfl rfl (fun _ _ k=>g0' (k.eq1 14 29 rfl)) (fun hG _ w hn k=>v_load rfl (cT hG (k.eq1 17 32 rfl)) (l_one Tryz.isAgg3 ((a9.new_ hn).cell 0))))<| .o1 (sc (G:=(!(((!(fewV ⟨#[]⟩ v u)) || (!(mayV v))) || (!(mayV u))))) rfl rfl rfl (fun _ _ k=>g0' (k.eq1 14 29 rfl)) (fun hG _ w hn k=>v_bin rfl (cT hG (k.eq1 16 31 rfl)) (cT hG (k.eq1 18 33 rfl)) (fun _=>rfl) (r_neq rfl)))<| .t (fun _ w hn k=>⟨_,v_or rfl (k.eq1 14 29 rfl) rfl (fun hg=>(cT (nt hg) (k.eq1 19 34 rfl))),rfl⟩)<| .m (fun k=>k.eq1 20 35 rfl)<| .o1 (sc (G:=(!((((!(fewV ⟨#[]⟩ v u)) || (!(mayV v))) || (!(mayV u))) || (!decide (v.k=u.k))))) rfl rfl rfl (fun _ _ k=>g0' (k.eq1 21 36 rfl)) (fun hG _ w hn k=>v_field rfl (k.fx 2 a6) (fun w=>rfl)))<| .o1 (sc (G:=(!((((!(fewV ⟨#[]⟩ v u)) || (!(mayV v))) || (!(mayV u))) || (!decide (v.k=u.k))))) rfl rfl rfl (fun _ _ k=>g0' (k.eq1 21 36 rfl)) (fun hG _ w hn k=>v_load rfl (cT hG (k.eq1 22 37 rfl)) (l_one Tryz.isAgg3 ((aq.new_ hn).cell 0))))<| .o1 (sc (G:=(!((((!(fewV ⟨#[]⟩ v u)) || (!(mayV v))) || (!(mayV u))) || (!decide (v.k=u.k))))) rfl rfl rfl (fun _ _ k=>g0' (k.eq1 21 36 rfl)) (fun hG _ w hn k=>v_bin rfl (cT hG (k.eq1 23 38 rfl)) rfl (fun _=>rfl) (r_neq rfl)))<| .o1 (sc (G:=(!((((!(fewV ⟨#[]⟩ v u)) || (!(mayV v))) || (!(mayV u))) || (!decide (v.k=u.k))))) rfl rfl rfl (fun _ _ k=>g0' (k.eq1 21 36 rfl)) (fun hG _ w hn k=>v_move rfl (cT hG (k.eq1 24 39 rfl))))<| .o1 (sc (G:=((!((((!(fewV ⟨#[]⟩ v u)) || (!(mayV v))) || (!(mayV u))) || (!decide (v.k=u.k)))) && (!decide (v.k=3)))) rfl rfl rfl (fun _ _ k=>g1 (k.eq1 25 40 rfl)) (fun hG _ w hn k=>v_field rfl (k.fx 2 a6) (fun w=>rfl)))<| .o1 (sc (G:=((!((((!(fewV ⟨#[]⟩ v u)) || (!(mayV v))) || (!(mayV u))) || (!decide (v.k=u.k)))) && (!decide (v.k=3)))) rfl rfl rfl (fun _ _ k=>g1 (k.eq1 25 40 rfl)) (fun hG _ w hn k=>v_load rfl (cT hG (k.eq1 26 41 rfl)) (l_one Tryz.isAgg3 ((aq.new_ hn).cell 0))))<| .o1 (sc (G:=((!((((!(fewV ⟨#[]⟩ v u)) || (!(mayV v))) || (!(mayV u))) || (!decide (v.k=u.k)))) && (!decide (v.k=3)))) rfl rfl rfl (fun _ _ k=>g1 (k.eq1 25 40 rfl)) (fun hG _ w hn k=>v_bin rfl (cT hG (k.eq1 27 42 rfl)) rfl (fun _=>rfl) (r_neq rfl)))<| .o1 (sc (G:=(!((((!(fewV ⟨#[]⟩ v u)) || (!(mayV v))) || (!(mayV u))) || (!decide (v.k=u.k))))) rfl rfl rfl (fun _ _ k=>g0' (k.eq1 21 36 rfl)) (fun hG _ w hn k=>v_and rfl (cT hG (k.eq1 25 40 rfl)) (fun hg=>(cT (aj hG hg) (k.eq1 28 43 rfl))) rfl))<| .t (fun _ w hn k=>⟨_,v_or rfl (k.eq1 21 36 rfl) rfl (fun hg=>(cT (nt hg) (k.eq1 29 44 rfl))),rfl⟩)<| .m (fun k=>k.eq1 30 45 rfl)<| .o1 (sc (G:=(!(((((!(fewV ⟨#[]⟩ v u)) || (!(mayV v))) || (!(mayV u))) || (!decide (v.k=u.k))) || ((!decide (v.k=3)) && (!decide (v.k=4)))))) rfl rfl rfl (fun _ _ k=>g0' (k.eq1 31 46 rfl)) (fun hG _ w hn k=>v_field rfl (k.fx 2 a6) (fun w=>rfl)))<| .o1 (sc (G:=(!(((((!(fewV ⟨#[]⟩ v u)) || (!(mayV v))) || (!(mayV u))) || (!decide (v.k=u.k))) || ((!decide (v.k=3)) && (!decide (v.k=4)))))) rfl rfl rfl (fun _ _ k=>g0' (k.eq1 31 46 rfl)) (fun hG _ w hn k=>v_load rfl (cT hG (k.eq1 32 47 rfl)) (l_one Tryz.isAgg3 ((aq.new_ hn).cell 0))))<| .o1 (sc (G:=(!(((((!(fewV ⟨#[]⟩ v u)) || (!(mayV v))) || (!(mayV u))) || (!decide (v.k=u.k))) || ((!decide (v.k=3)) && (!decide (v.k=4)))))) rfl rfl rfl (fun _ _ k=>g0' (k.eq1 31 46 rfl)) (fun hG _ w hn k=>v_bin rfl (cT hG (k.eq1 33 48 rfl)) rfl (fun _=>rfl) (r_eql rfl)))<| .o1 (sc (G:=(!(((((!(fewV ⟨#[]⟩ v u)) || (!(mayV v))) || (!(mayV u))) || (!decide (v.k=u.k))) || ((!decide (v.k=3)) && (!decide (v.k=4)))))) rfl rfl rfl (fun _ _ k=>g0' (k.eq1 31 46 rfl)) (fun hG _ w hn k=>v_move rfl (cT hG (k.eq1 34 49 rfl))))<| .o1 (sc (G:=((!(((((!(fewV ⟨#[]⟩ v u)) || (!(mayV v))) || (!(mayV u))) || (!decide (v.k=u.k))) || ((!decide (v.k=3)) && (!decide (v.k=4))))) && (decide (v.k=3)))) rfl rfl rfl (fun _ _ k=>g1 (k.eq1 35 50 rfl)) (fun hG _ w hn k=>v_field rfl (k.fx 2 a6) (fun w=>rfl)))<| .o1 (sc (G:=((!(((((!(fewV ⟨#[]⟩ v u)) || (!(mayV v))) || (!(mayV u))) || (!decide (v.k=u.k))) || ((!decide (v.k=3)) && (!decide (v.k=4))))) && (decide (v.k=3)))) rfl rfl rfl (fun _ _ k=>g1 (k.eq1 35 50 rfl)) (fun hG _ w hn k=>v_field rfl (cT hG (k.eq1 36 51 rfl)) (fun w=>rfl)))<| .o1 (sc (G:=((!(((((!(fewV ⟨#[]⟩ v u)) || (!(mayV v))) || (!(mayV u))) || (!decide (v.k=u.k))) || ((!decide (v.k=3)) && (!decide (v.k=4))))) && (decide (v.k=3)))) rfl rfl rfl (fun _ _ k=>g1 (k.eq1 35 50 rfl)) (fun hG _ w hn k=>v_load rfl (cT hG (k.eq1 37 52 rfl)) (l_one Tryz.isAgg3 ((aq.new_ hn).cell 1))))<| .o1 (sc (G:=((!(((((!(fewV ⟨#[]⟩ v u)) || (!(mayV v))) || (!(mayV u))) || (!decide (v.k=u.k))) || ((!decide (v.k=3)) && (!decide (v.k=4))))) && (decide (v.k=3)))) rfl rfl rfl (fun _ _ k=>g1 (k.eq1 35 50 rfl)) (fun hG _ w hn k=>v_bin rfl (cT hG (k.eq1 38 53 rfl)) rfl (fun _=>rfl) (r_neq rfl)))<| .o1 (sc (G:=((!(((((!(fewV ⟨#[]⟩ v u)) || (!(mayV v))) || (!(mayV u))) || (!decide (v.k=u.k))) || ((!decide (v.k=3)) && (!decide (v.k=4))))) && (decide (v.k=3)))) rfl rfl rfl (fun _ _ k=>g1 (k.eq1 35 50 rfl)) (fun hG _ w hn k=>v_move rfl (cT hG (k.eq1 39 54 rfl))))<| .o1 (sc (G:=(((!(((((!(fewV ⟨#[]⟩ v u)) || (!(mayV v))) || (!(mayV u))) || (!decide (v.k=u.k))) || ((!decide (v.k=3)) && (!decide (v.k=4))))) && (decide (v.k=3))) && (!(!decide (v.nk=0))))) rfl rfl rfl (fun _ _ k=>g1' (k.eq1 40 55 rfl)) (fun hG _ w hn k=>v_field rfl (k.fx 3 bL) (fun w=>rfl)))<| .o1 (sc (G:=(((!(((((!(fewV ⟨#[]⟩ v u)) || (!(mayV v))) || (!(mayV u))) || (!decide (v.k=u.k))) || ((!decide (v.k=3)) && (!decide (v.k=4))))) && (decide (v.k=3))) && (!(!decide (v.nk=0))))) rfl rfl rfl (fun _ _ k=>g1' (k.eq1 40 55 rfl)) (fun hG _ w hn k=>v_field rfl (cT hG (k.eq1 41 56 rfl)) (fun w=>rfl)))<| .o1 (sc (G:=(((!(((((!(fewV ⟨#[]⟩ v u)) || (!(mayV v))) || (!(mayV u))) || (!decide (v.k=u.k))) || ((!decide (v.k=3)) && (!decide (v.k=4))))) && (decide (v.k=3))) && (!(!decide (v.nk=0))))) rfl rfl rfl (fun _ _ k=>g1' (k.eq1 40 55 rfl)) (fun hG _ w hn k=>v_load rfl (cT hG (k.eq1 42 57 rfl)) (l_one Tryz.isAgg3 ((a9.new_ hn).cell 1))))<| .o1 (sc (G:=(((!(((((!(fewV ⟨#[]⟩ v u)) || (!(mayV v))) || (!(mayV u))) || (!decide (v.k=u.k))) || ((!decide (v.k=3)) && (!decide (v.k=4))))) && (decide (v.k=3))) && (!(!decide (v.nk=0))))) rfl rfl rfl (fun _ _ k=>g1' (k.eq1 40 55 rfl)) (fun hG _ w hn k=>v_bin rfl (cT hG (k.eq1 43 58 rfl)) rfl (fun _=>rfl) (r_neq rfl)))<| .o1 (sc (G:=((!(((((!(fewV ⟨#[]⟩ v u)) || (!(mayV v))) || (!(mayV u))) || (!decide (v.k=u.k))) || ((!decide (v.k=3)) && (!decide (v.k=4))))) && (decide (v.k=3)))) rfl rfl rfl (fun _ _ k=>g1 (k.eq1 35 50 rfl)) (fun hG _ w hn k=>v_or rfl (cT hG (k.eq1 40 55 rfl)) rfl (fun hg=>(cT (aj hG (nt hg)) (k.eq1 44 59 rfl)))))<| .o1 (sc (G:=(!(((((!(fewV ⟨#[]⟩ v u)) || (!(mayV v))) || (!(mayV u))) || (!decide (v.k=u.k))) || ((!decide (v.k=3)) && (!decide (v.k=4)))))) rfl rfl rfl (fun _ _ k=>g0' (k.eq1 31 46 rfl)) (fun hG _ w hn k=>v_and rfl (cT hG (k.eq1 35 50 rfl)) (fun hg=>(cT (aj hG hg) (k.eq1 45 60 rfl))) rfl))<| .t (fun _ w hn k=>⟨_,v_or rfl (k.eq1 31 46 rfl) rfl (fun hg=>(cT (nt hg) (k.eq1 46 61 rfl))),rfl⟩) .nil
 refine aftI cr em ap fun hA fU bA cw ar cx bP=>?_
 have eb:=bP.fx 2 a6
 have ec:=bP.fx 3 bL
 have ed:=bP.ge 47 62 rfl
 have bQ:=aq.new_ cx
 have bR:=a9.new_ cx
 refine st_nil (eo _ _ ?_)
 rcases bc (((((((!(fewV ⟨#[]⟩ v u)) || (!(mayV v))) || (!(mayV u))) || (!decide (v.k=u.k))) || ((!decide (v.k=3)) && (!decide (v.k=4)))) || ((decide (v.k=3)) && ((!decide (v.nk=0)) || (!decide (u.nk=0)))))) with ba|ba
 have ep:=hB ed ba
 refine wp_cond_true ep ?_
 refine wp_seq_k fun hC er=>?_
 refine wp_g0 [true,true] [] 121
   [vT,vT] bA (.eq (.eq (.nil))) ?_ ?_
 exact .o1 (ck rfl rfl rfl (fun _ w hn k=>⟨#[],rfl,fun _=>by kernel_rfl,first_c _ (HT.up (ar.transNew hn))⟩) fun _=>rfl)<| .a (fun k=>k.eq1 0 63 rfl) .nil
 refine aftI bA cw ar fun hD hE gJ es et gK eu=>?_
 have fV:=eu.ge 1 4 rfl
 refine st_nil (er _ _ ?_)
 refine wp_ret (ret_k es (v:=.bool true) (res_t rfl fV _) ?_)
 exact⟨rfl,et⟩
 have ev:=hB ed ba
 have cy:(((((!(fewV ⟨#[]⟩ v u)) || (!(mayV v))) || (!(mayV u))) || (!decide (v.k=u.k))) || ((!decide (v.k=3)) && (!decide (v.k=4))))=false:=ol ba
 have cz:((((!(fewV ⟨#[]⟩ v u)) || (!(mayV v))) || (!(mayV u))) || (!decide (v.k=u.k)))=false:=ol cy
 have cA:(((!(fewV ⟨#[]⟩ v u)) || (!(mayV v))) || (!(mayV u)))=false:=ol cz
 have cB:((!(fewV ⟨#[]⟩ v u)) || (!(mayV v)))=false:=ol cA
 have ew:(!(fewV ⟨#[]⟩ v u))=false:=ol cB
 have ex:(fewV ⟨#[]⟩ v u)=true:=nT ew
 have ey:(!(mayV v))=false:=or_ cB
 have cC:(mayV v)=true:=nT ey
 have ez:(!(mayV u))=false:=or_ cA
 have cD:(mayV u)=true:=nT ez
 have eA:(!decide (v.k=u.k))=false:=or_ cz
 have bS:(decide (v.k=u.k))=true:=nT eA
 have gx:=oT bS
 have eB:((!decide (v.k=3)) && (!decide (v.k=4)))=false:=or_ cy
 have eC:((decide (v.k=3)) && ((!decide (v.nk=0)) || (!decide (u.nk=0))))=false:=or_ ba
 refine wp_cond_false ev ?_
 refine wp_skip ?_
 refine en _ _ ?_
 refine wp_seq_k fun hF eD=>?_
 have hfw:=few_two ex
 have hvv:VOk v:=few_ok hfw.1 hlv huv hbv.1 hbv.2.1 hbv.2.2.1 hbv.2.2.2
 have hvu:VOk u:=few_ok hfw.2.1 hlu huu hbu.1 hbu.2.1 hbu.2.2.1 hbu.2.2.2
 have hP:=plain_of bS eB eC
 have hk1:=plain_k5 cC hP.1
 have hk2:=plain_k5 cD hP.2
 refine wp_gS (fun W=>True) (fun W W' hn h=>trivial) trivial [true,true,true,true,true,true,true,false,false] [5] [(7,false),(8,true)] 121
   [ve (vv v Av cv Bv dv),ve (vv u Au cu Bu du),(TP (addV v u).1 ((addV v u).2)),(TP (addV v u).1 ((addV v u).2)),(fun (v_:Value) (W:World)=>∃ (bb:Option Addr) (bd:Nat) (be:Option Addr) (bf:Nat),v_=vv (addV v u).1 bb bd be bf∧SRow W .u32 bb ((addV v u).1.mag) bd∧SRow W .u16 be ((addV v u).1.s) bf),ve (iv ((addV v u).2)),IsNew fU 29 z7,vt,vt]
   [6] (newsCons (fun v w h=>IsNew.old h) newsNil) bA (.eq (.eq (.cons (fun _ _ _ n ⟨_,_,_,_,e,h,i⟩=>⟨_,_,_,_,e,h.new_ n,i.new_ n⟩) (.cons (fun _ _ _ n ⟨_,_,_,_,e,h,i⟩=>⟨_,_,_,_,e,h.new_ n,i.new_ n⟩) (.cons (fun _ _ _ n ⟨_,_,_,_,e,h,i⟩=>⟨_,_,_,_,e,h.new_ n,i.new_ n⟩) (.eq (.nw (.tt (.tt (.nil)))))))))) ?_ ?_ ?_
 refine .t (fun _ w hn k=>⟨_,v_load rfl (k.fx 2 eb) (l_agg Tryz.isAgg29 Tryz.sizeOf29 (bQ.new_ hn) rfl),rfl⟩)<| .t (fun _ w hn k=>⟨_,v_load rfl (k.fx 3 ec) (l_agg Tryz.isAgg29 Tryz.sizeOf29 (bR.new_ hn) rfl),rfl⟩) ?_
 refine .o1 (tkC rfl (noG rfl) rfl fun _ w hn k=>(by
       refine ⟨#[.string ⟨#[43]⟩,vv v Av cv Bv dv,vv u Au cu Bu du],_,args3 rfl (k.eq1 0 65 rfl) (k.eq1 1 66 rfl),fun w=>by kernel_rfl,addV_l v _ _ _ _ u _ _ _ _ _ (hmv.new_ (ar.transNew hn)) (hsv.new_ (ar.transNew hn)) (hmu.new_ (ar.transNew hn)) (hsu.new_ (ar.transNew hn)) hvv hvu hk1 hk2,?_⟩
       rintro e w' ⟨A1,c2,A3,c4,rfl,hmo0,hmo1,hm⟩
       exact⟨_,rfl,hm,⟨A1,c2,A3,c4,rfl,hmo0,hmo1⟩⟩)) ?_
 refine .o1 (tk rfl rfl fun _ w hn k=>(by
       obtain⟨A9,fW,fX,fY,fZ,eE,eF⟩:(TP (addV v u).1 ((addV v u).2)) _ _:=k.dep 2 67 (by kernel_rfl) (by kernel_rfl)
       exact⟨_,v_move rfl fZ,⟨A9,fW,fX,fY,rfl,eE,eF⟩⟩)) ?_
 refine .o1 (tk rfl rfl fun _ w hn k=>(by
       obtain⟨f0,f1,f2,f3,f4,eG,eH⟩:(TP (addV v u).1 ((addV v u).2)) _ _:=k.dep 3 64 (by kernel_rfl) (by kernel_rfl)
       exact⟨_,v_extract rfl f4 rfl,⟨f0,f1,f2,f3,rfl,eG,eH⟩⟩)) ?_
 refine .o3 ?_
 exact .o2 (step_allocN (cs:=z7) (t:=29) rfl (noG rfl) (fun _ w hn k=>rfl) (fun q _ hq hb=>⟨q,rfl,hq,hb⟩))<| .off<| .off .nil
 intro i h
 simp only [List.contains_eq_mem,List.mem_cons,List.not_mem_nil,or_false,decide_eq_true_eq] at h
 subst h
 exact eager_takeG rfl (noG rfl) fun _ w hn k=>(by
     obtain⟨hH,hI,hJ,hK,f5,gL,gM⟩:(TP (addV v u).1 ((addV v u).2)) _ _:=k.dep 3 64 (by kernel_rfl) (by kernel_rfl)
     exact⟨_,fun w hS=>v_extract rfl f5 rfl,rfl⟩)
 intro cE hL _ bT a5
 obtain⟨cF,eI,eJ⟩:=aft a5 bA cw ar bT
 have f6:=a5.fx 2 eb
 have f7:=a5.fx 3 ec
 obtain⟨bM,bg,bN,bh,b4,eK,eL⟩:=a5.G 4 68
 have b4:cE.eval (.tmp 68)=vv (addV v u).1 bM bg bN bh:=b4
 have ee:=a5.ge 5 69 rfl
 obtain⟨cG,ef,bU,bV⟩:=a5.G 6 5
 have eM:=bQ.new_ bT
 have eN:=bR.new_ bT
 have hne96:q9 ≠ cG:=by have h1:=bQ.lt; have h2:=bU; omega
 have hne97:b3 ≠ cG:=by have h1:=bR.lt; have h2:=bU; omega
 have gN:=Nat.le_trans ar.size bU
 obtain⟨cH,cI,cJ,bB,b5⟩:=s_many (P:=Tryz.prog) (t:=29) (i:=0) (c7 (addV v u).1 bM bg bN bh) Tryz.sizeOf29 rfl rfl rfl bV lb
 have c1:Blk cH cG 29 (c7 (addV v u).1 bM bg bN bh):=cJ
 refine st_act rfl rfl fun gO c3=>a_store' rfl ef b4 cI (c3 _ _ trivial ?_)
 have c5:=eK.fr bV bB
 have c9:=eL.fr bV bB
 have b6:=b5 _ _ _ (hne96) eM
 have da:=b5 _ _ _ (hne97) eN
 have a7:=eJ.trans bB (fun _ h b=>by subst b; omega)
 refine st_take rfl rfl (y_assign (v:=iv ((addV v u).2)) rfl ee) rfl ?_
 obtain⟨eO,ac⟩:∃ a',a'=cE.put (some 6) (iv ((addV v u).2)):=⟨_,rfl⟩
 have b7:=pz ac cF
 have db:=pd ac eI
 have eP:=pn ac f6 (by decide)
 have eQ:=pn ac f7 (by decide)
 have gP:=pn ac b4 (by decide)
 have gQ:=pn ac ee (by decide)
 have eR:=pn ac ef (by decide)
 have eS:eO.eval (.tmp 6)=iv ((addV v u).2):=by rw [ac]; exact put_same _ _ _ (by rw [cF]; decide)
 show stepsTo _ _ _ _ _ (cE.put (some 6) (iv ((addV v u).2))) _
 rw [← ac]
 refine st_nil (eD _ _ (wp_seq_k fun gR dc=>?_))
 refine wp_gS (fun W=>True) (fun W W' hn h=>trivial) trivial [true,true,true,true,true,true,true,false,false] [5] [(7,false),(8,true)] 121
   [ve (vv (addV v u).1 bM bg bN bh),ve (vv u Au cu Bu du),(TP (subV ((addV v u).1) u).1 ((subV ((addV v u).1) u).2)),(TP (subV ((addV v u).1) u).1 ((subV ((addV v u).1) u).2)),(fun (v_:Value) (W:World)=>∃ (bm:Option Addr) (bn:Nat) (bo:Option Addr) (bp:Nat),v_=vv (subV ((addV v u).1) u).1 bm bn bo bp∧SRow W .u32 bm ((subV ((addV v u).1) u).1.mag) bn∧SRow W .u16 bo ((subV ((addV v u).1) u).1.s) bp),ve (iv ((subV ((addV v u).1) u).2)),IsNew cH 29 z7,vt,vt]
   [6] (newsCons (fun v w h=>IsNew.old h) newsNil) b7 (.eq (.eq (.cons (fun _ _ _ n ⟨_,_,_,_,e,h,i⟩=>⟨_,_,_,_,e,h.new_ n,i.new_ n⟩) (.cons (fun _ _ _ n ⟨_,_,_,_,e,h,i⟩=>⟨_,_,_,_,e,h.new_ n,i.new_ n⟩) (.cons (fun _ _ _ n ⟨_,_,_,_,e,h,i⟩=>⟨_,_,_,_,e,h.new_ n,i.new_ n⟩) (.eq (.nw (.tt (.tt (.nil)))))))))) ?_ ?_ ?_
 refine .t (fun _ w hn k=>⟨_,v_load rfl (k.fx 5 eR) (l_agg Tryz.isAgg29 Tryz.sizeOf29 (c1.new_ hn) rfl),rfl⟩)<| .t (fun _ w hn k=>⟨_,v_load rfl (k.fx 3 eQ) (l_agg Tryz.isAgg29 Tryz.sizeOf29 (da.new_ hn) rfl),rfl⟩) ?_
 refine .o1 (tkC rfl (noG rfl) rfl fun _ w hn k=>(by
       refine ⟨#[.string ⟨#[45]⟩,vv (addV v u).1 bM bg bN bh,vv u Au cu Bu du],_,args3 rfl (k.eq1 0 71 rfl) (k.eq1 1 72 rfl),fun w=>by kernel_rfl,subV_l ((addV v u).1) _ _ _ _ u _ _ _ _ _ (c5.new_ hn) (c9.new_ hn) (hmu.new_ (a7.transNew hn)) (hsu.new_ (a7.transNew hn)) (VOk.addV v u) hvu,?_⟩
       rintro e w' ⟨f8,f9,ga,gb,rfl,hmo0,hmo1,hm⟩
       exact⟨_,rfl,hm,⟨f8,f9,ga,gb,rfl,hmo0,hmo1⟩⟩)) ?_
 refine .o1 (tk rfl rfl fun _ w hn k=>(by
       obtain⟨gc,gd,gf,gg,gh,eT,eU⟩:(TP (subV ((addV v u).1) u).1 ((subV ((addV v u).1) u).2)) _ _:=k.dep 2 73 (by kernel_rfl) (by kernel_rfl)
       exact⟨_,v_move rfl gh,⟨gc,gd,gf,gg,rfl,eT,eU⟩⟩)) ?_
 refine .o1 (tk rfl rfl fun _ w hn k=>(by
       obtain⟨gi,gj,gk,gl,gn,eV,eW⟩:(TP (subV ((addV v u).1) u).1 ((subV ((addV v u).1) u).2)) _ _:=k.dep 3 70 (by kernel_rfl) (by kernel_rfl)
       exact⟨_,v_extract rfl gn rfl,⟨gi,gj,gk,gl,rfl,eV,eW⟩⟩)) ?_
 refine .o3 ?_
 exact .o2 (step_allocN (cs:=z7) (t:=29) rfl (noG rfl) (fun _ w hn k=>rfl) (fun q _ hq hb=>⟨q,rfl,hq,hb⟩))<| .off<| .off .nil
 intro i h
 simp only [List.contains_eq_mem,List.mem_cons,List.not_mem_nil,or_false,decide_eq_true_eq] at h
 subst h
 exact eager_takeG rfl (noG rfl) fun _ w hn k=>(by
     obtain⟨hM,hN,hO,hQ,go,gS,gT⟩:(TP (subV ((addV v u).1) u).1 ((subV ((addV v u).1) u).2)) _ _:=k.dep 3 70 (by kernel_rfl) (by kernel_rfl)
     exact⟨_,fun w hS=>v_extract rfl go rfl,rfl⟩)
 intro bW gU _ b8 au
 obtain⟨b9,dd,de⟩:=aft au b7 db a7 b8
 have eX:=au.fx 2 eP
 have eY:=au.fx 6 eS
 obtain⟨bq,aR,aE,aS,bC,df,dg⟩:=au.G 4 74
 have bC:bW.eval (.tmp 74)=vv (subV ((addV v u).1) u).1 bq aR aE aS:=bC
 have cK:=au.ge 5 75 rfl
 obtain⟨bD,cL,ca,bE⟩:=au.G 6 7
 have dh:=b6.new_ b8
 have hne144:q9 ≠ bD:=by have h1:=b6.lt; have h2:=ca; omega
 have gy:=Nat.le_trans a7.size ca
 obtain⟨cM,cN,cO,bF,di⟩:=s_many (P:=Tryz.prog) (t:=29) (i:=0) (c7 (subV ((addV v u).1) u).1 bq aR aE aS) Tryz.sizeOf29 rfl rfl rfl bE lb
 have cb:Blk cM bD 29 (c7 (subV ((addV v u).1) u).1 bq aR aE aS):=cO
 refine st_act rfl rfl fun gV dj=>a_store' rfl cL bC cN (dj _ _ trivial ?_)
 have dk:=df.fr bE bF
 have dl:=dg.fr bE bF
 have bG:=di _ _ _ (hne144) dh
 have a8:=de.trans bF (fun _ h b=>by subst b; omega)
 refine st_take rfl rfl (y_assign (v:=iv ((subV ((addV v u).1) u).2)) rfl cK) rfl ?_
 obtain⟨eZ,ad⟩:∃ a',a'=bW.put (some 8) (iv ((subV ((addV v u).1) u).2)):=⟨_,rfl⟩
 have cc:=pz ad b9
 have dm:=pd ad dd
 have cP:=pn ad eX (by decide)
 have e0:=pn ad eY (by decide)
 have gW:=pn ad bC (by decide)
 have gX:=pn ad cK (by decide)
 have e1:=pn ad cL (by decide)
 have e2:eZ.eval (.tmp 8)=iv ((subV ((addV v u).1) u).2):=by rw [ad]; exact put_same _ _ _ (by rw [b9]; decide)
 show stepsTo _ _ _ _ _ (bW.put (some 8) (iv ((subV ((addV v u).1) u).2))) _
 rw [← ad]
 refine st_nil (dc _ _ (wp_seq_k fun gY dn=>?_))
 refine wp_gS (fun W=>True) (fun W W' hn h=>trivial) trivial [true,true,true,true,true,true,false,false] [4] [(6,false),(7,true)] 121
   [ve (vv v Av cv Bv dv),(TP (stepV v 1).1 ((stepV v 1).2)),(TP (stepV v 1).1 ((stepV v 1).2)),(fun (v_:Value) (W:World)=>∃ (aF:Option Addr) (aG:Nat) (aH:Option Addr) (aI:Nat),v_=vv (stepV v 1).1 aF aG aH aI∧SRow W .u32 aF ((stepV v 1).1.mag) aG∧SRow W .u16 aH ((stepV v 1).1.s) aI),ve (iv ((stepV v 1).2)),IsNew cM 29 z7,vt,vt]
   [5] (newsCons (fun v w h=>IsNew.old h) newsNil) cc (.eq (.cons (fun _ _ _ n ⟨_,_,_,_,e,h,i⟩=>⟨_,_,_,_,e,h.new_ n,i.new_ n⟩) (.cons (fun _ _ _ n ⟨_,_,_,_,e,h,i⟩=>⟨_,_,_,_,e,h.new_ n,i.new_ n⟩) (.cons (fun _ _ _ n ⟨_,_,_,_,e,h,i⟩=>⟨_,_,_,_,e,h.new_ n,i.new_ n⟩) (.eq (.nw (.tt (.tt (.nil))))))))) ?_ ?_ ?_
 refine .t (fun _ w hn k=>⟨_,v_load rfl (k.fx 2 cP) (l_agg Tryz.isAgg29 Tryz.sizeOf29 (bG.new_ hn) rfl),rfl⟩) ?_
 refine .o1 (tkC rfl (noG rfl) rfl fun _ w hn k=>(by
       refine ⟨#[vv v Av cv Bv dv,iv 1],_,args2 (k.eq1 0 77 rfl) rfl,fun w=>by kernel_rfl,step_c v _ _ _ _ 1 _ (hmv.new_ (a8.transNew hn)) (hsv.new_ (a8.transNew hn)) hvv (by omega) (by omega),?_⟩
       rintro e w' ⟨gp,gr,gs,gt,rfl,hmo0,hmo1,hm⟩
       exact⟨_,rfl,hm,⟨gp,gr,gs,gt,rfl,hmo0,hmo1⟩⟩)) ?_
 refine .o1 (tk rfl rfl fun _ w hn k=>(by
       obtain⟨gu,gv,gw,e3,e4,dp,dq⟩:(TP (stepV v 1).1 ((stepV v 1).2)) _ _:=k.dep 1 78 (by kernel_rfl) (by kernel_rfl)
       exact⟨_,v_move rfl e4,⟨gu,gv,gw,e3,rfl,dp,dq⟩⟩)) ?_
 refine .o1 (tk rfl rfl fun _ w hn k=>(by
       obtain⟨e5,e6,e7,e8,e9,dr,ds⟩:(TP (stepV v 1).1 ((stepV v 1).2)) _ _:=k.dep 2 76 (by kernel_rfl) (by kernel_rfl)
       exact⟨_,v_extract rfl e9 rfl,⟨e5,e6,e7,e8,rfl,dr,ds⟩⟩)) ?_
 refine .o3 ?_
 exact .o2 (step_allocN (cs:=z7) (t:=29) rfl (noG rfl) (fun _ w hn k=>rfl) (fun q _ hq hb=>⟨q,rfl,hq,hb⟩))<| .off<| .off .nil
 intro i h
 simp only [List.contains_eq_mem,List.mem_cons,List.not_mem_nil,or_false,decide_eq_true_eq] at h
 subst h
 exact eager_takeG rfl (noG rfl) fun _ w hn k=>(by
     obtain⟨gZ,g2,g3,g4,fa,gz,gA⟩:(TP (stepV v 1).1 ((stepV v 1).2)) _ _:=k.dep 2 76 (by kernel_rfl) (by kernel_rfl)
     exact⟨_,fun w hS=>v_extract rfl fa rfl,rfl⟩)
 intro bX g5 _ aT af
 obtain⟨cd,dt,dw⟩:=aft af cc dm a8 aT
 have fb:=af.fx 2 cP
 have fc:=af.fx 6 e0
 have fd:=af.fx 7 e1
 have fe:=af.fx 8 e2
 obtain⟨bv,aU,bw,aV,bH,dx,dy⟩:=af.G 3 79
 have bH:bX.eval (.tmp 79)=vv (stepV v 1).1 bv aU bw aV:=bH
 have cQ:=af.ge 4 80 rfl
 obtain⟨bY,cR,bI,aW⟩:=af.G 5 9
 have dz:=bG.new_ aT
 have dA:=cb.new_ aT
 have hne193:q9 ≠ bY:=by have h1:=bG.lt; have h2:=bI; omega
 have hne194:bD ≠ bY:=by have h1:=cb.lt; have h2:=bI; omega
 have gB:=Nat.le_trans a8.size bI
 have dB:=dk.new_ aT
 have dC:=dl.new_ aT
 obtain⟨cS,cU,cV,aX,ce⟩:=s_many (P:=Tryz.prog) (t:=29) (i:=0) (c7 (stepV v 1).1 bv aU bw aV) Tryz.sizeOf29 rfl rfl rfl aW lb
 have dD:Blk cS bY 29 (c7 (stepV v 1).1 bv aU bw aV):=cV
 refine st_act rfl rfl fun g6 dE=>a_store' rfl cR bH cU (dE _ _ trivial ?_)
 have dF:=dB.fr aW aX
 have dG:=dC.fr aW aX
 have dH:=dx.fr aW aX
 have dI:=dy.fr aW aX
 have cf:=ce _ _ _ (hne193) dz
 have ch:=ce _ _ _ (hne194) dA
 have ci:=dw.trans aX (fun _ h b=>by subst b; omega)
 refine st_take rfl rfl (y_assign (v:=iv ((stepV v 1).2)) rfl cQ) rfl ?_
 obtain⟨ff,ab⟩:∃ a',a'=bX.put (some 10) (iv ((stepV v 1).2)):=⟨_,rfl⟩
 have cj:=pz ab cd
 have dJ:=pd ab dt
 have fg:=pn ab fb (by decide)
 have fh:=pn ab fc (by decide)
 have fi:=pn ab fd (by decide)
 have fj:=pn ab fe (by decide)
 have g7:=pn ab bH (by decide)
 have g8:=pn ab cQ (by decide)
 have fk:=pn ab cR (by decide)
 have fl:ff.eval (.tmp 10)=iv ((stepV v 1).2):=by rw [ab]; exact put_same _ _ _ (by rw [cd]; decide)
 show stepsTo _ _ _ _ _ (bX.put (some 10) (iv ((stepV v 1).2))) _
 rw [← ab]
 refine st_nil (dn _ _ (wp_seq_k fun g9 dK=>?_))
 refine wp_gS (fun W=>True) (fun W W' hn h=>trivial) trivial [true,true,true,true,true,true,false,false] [4] [(6,false),(7,true)] 121
   [ve (vv (stepV v 1).1 bv aU bw aV),(TP (stepV ((stepV v 1).1) (-1)).1 ((stepV ((stepV v 1).1) (-1)).2)),(TP (stepV ((stepV v 1).1) (-1)).1 ((stepV ((stepV v 1).1) (-1)).2)),(fun (v_:Value) (W:World)=>∃ (aN:Option Addr) (aO:Nat) (aP:Option Addr) (aQ:Nat),v_=vv (stepV ((stepV v 1).1) (-1)).1 aN aO aP aQ∧SRow W .u32 aN ((stepV ((stepV v 1).1) (-1)).1.mag) aO∧SRow W .u16 aP ((stepV ((stepV v 1).1) (-1)).1.s) aQ),ve (iv ((stepV ((stepV v 1).1) (-1)).2)),IsNew cS 29 z7,vt,vt]
   [5] (newsCons (fun v w h=>IsNew.old h) newsNil) cj (.eq (.cons (fun _ _ _ n ⟨_,_,_,_,e,h,i⟩=>⟨_,_,_,_,e,h.new_ n,i.new_ n⟩) (.cons (fun _ _ _ n ⟨_,_,_,_,e,h,i⟩=>⟨_,_,_,_,e,h.new_ n,i.new_ n⟩) (.cons (fun _ _ _ n ⟨_,_,_,_,e,h,i⟩=>⟨_,_,_,_,e,h.new_ n,i.new_ n⟩) (.eq (.nw (.tt (.tt (.nil))))))))) ?_ ?_ ?_
 refine .t (fun _ w hn k=>⟨_,v_load rfl (k.fx 9 fk) (l_agg Tryz.isAgg29 Tryz.sizeOf29 (dD.new_ hn) rfl),rfl⟩) ?_
 refine .o1 (tkC rfl (noG rfl) rfl fun _ w hn k=>(by
       refine ⟨#[vv (stepV v 1).1 bv aU bw aV,iv (-1)],_,args2 (k.eq1 0 82 rfl) rfl,fun w=>by kernel_rfl,step_c ((stepV v 1).1) _ _ _ _ (-1) _ (dH.new_ hn) (dI.new_ hn) (VOk.stepV v 1) (by omega) (by omega),?_⟩
       rintro e w' ⟨fm,fn,aE,fo,rfl,hmo0,hmo1,hm⟩
       exact⟨_,rfl,hm,⟨fm,fn,aE,fo,rfl,hmo0,hmo1⟩⟩)) ?_
 refine .o1 (tk rfl rfl fun _ w hn k=>(by
       obtain⟨fp,fq,fs,ft,fu,dL,dM⟩:(TP (stepV ((stepV v 1).1) (-1)).1 ((stepV ((stepV v 1).1) (-1)).2)) _ _:=k.dep 1 83 (by kernel_rfl) (by kernel_rfl)
       exact⟨_,v_move rfl fu,⟨fp,fq,fs,ft,rfl,dL,dM⟩⟩)) ?_
 refine .o1 (tk rfl rfl fun _ w hn k=>(by
       obtain⟨fv,fw,fy,fz,fA,dN,dO⟩:(TP (stepV ((stepV v 1).1) (-1)).1 ((stepV ((stepV v 1).1) (-1)).2)) _ _:=k.dep 2 81 (by kernel_rfl) (by kernel_rfl)
       exact⟨_,v_extract rfl fA rfl,⟨fv,fw,fy,fz,rfl,dN,dO⟩⟩)) ?_
 refine .o3 ?_
 exact .o2 (step_allocN (cs:=z7) (t:=29) rfl (noG rfl) (fun _ w hn k=>rfl) (fun q _ hq hb=>⟨q,rfl,hq,hb⟩))<| .off<| .off .nil
 intro i h
 simp only [List.contains_eq_mem,List.mem_cons,List.not_mem_nil,or_false,decide_eq_true_eq] at h
 subst h
 exact eager_takeG rfl (noG rfl) fun _ w hn k=>(by
     obtain⟨ha,hc,hd,hf,fB,gC,gD⟩:(TP (stepV ((stepV v 1).1) (-1)).1 ((stepV ((stepV v 1).1) (-1)).2)) _ _:=k.dep 2 81 (by kernel_rfl) (by kernel_rfl)
     exact⟨_,fun w hS=>v_extract rfl fB rfl,rfl⟩)
 intro bZ hh _ aY ae
 obtain⟨cl,dP,dQ⟩:=aft ae cj dJ ci aY
 have fC:=ae.fx 2 fg
 have fD:=ae.fx 6 fh
 have fE:=ae.fx 7 fi
 have fF:=ae.fx 8 fj
 have fG:=ae.fx 10 fl
 obtain⟨bx,aZ,bz,a1,bJ,dR,dS⟩:=ae.G 3 84
 have bJ:bZ.eval (.tmp 84)=vv (stepV ((stepV v 1).1) (-1)).1 bx aZ bz a1:=bJ
 have cW:=ae.ge 4 85 rfl
 obtain⟨b0,cX,bK,a3⟩:=ae.G 5 11
 have dT:=cf.new_ aY
 have dU:=ch.new_ aY
 have hne251:q9 ≠ b0:=by have h1:=cf.lt; have h2:=bK; omega
 have hne252:bD ≠ b0:=by have h1:=ch.lt; have h2:=bK; omega
 have gE:=Nat.le_trans ci.size bK
 have dV:=dF.new_ aY
 have dW:=dG.new_ aY
 obtain⟨fH,cY,cZ,a4,cm⟩:=s_many (P:=Tryz.prog) (t:=29) (i:=0) (c7 (stepV ((stepV v 1).1) (-1)).1 bx aZ bz a1) Tryz.sizeOf29 rfl rfl rfl a3 lb
 have dX:Blk fH b0 29 (c7 (stepV ((stepV v 1).1) (-1)).1 bx aZ bz a1):=cZ
 refine st_act rfl rfl fun hi dY=>a_store' rfl cX bJ cY (dY _ _ trivial ?_)
 have dZ:=dV.fr a3 a4
 have d0:=dW.fr a3 a4
 have d1:=dR.fr a3 a4
 have d2:=dS.fr a3 a4
 have cn:=cm _ _ _ (hne251) dT
 have d3:=cm _ _ _ (hne252) dU
 have av:=dQ.trans a4 (fun _ h b=>by subst b; omega)
 refine st_take rfl rfl (y_assign (v:=iv ((stepV ((stepV v 1).1) (-1)).2)) rfl cW) rfl ?_
 obtain⟨fI,aa⟩:∃ a',a'=bZ.put (some 12) (iv ((stepV ((stepV v 1).1) (-1)).2)):=⟨_,rfl⟩
 have co:=pz aa cl
 have d4:=pd aa dP
 have c0:=pn aa fC (by decide)
 have b1:=pn aa fD (by decide)
 have fJ:=pn aa fE (by decide)
 have fK:=pn aa fF (by decide)
 have fL:=pn aa fG (by decide)
 have hj:=pn aa bJ (by decide)
 have hl:=pn aa cW (by decide)
 have fM:=pn aa cX (by decide)
 have fN:fI.eval (.tmp 12)=iv ((stepV ((stepV v 1).1) (-1)).2):=by rw [aa]; exact put_same _ _ _ (by rw [cl]; decide)
 show stepsTo _ _ _ _ _ (bZ.put (some 12) (iv ((stepV ((stepV v 1).1) (-1)).2))) _
 rw [← aa]
 refine st_nil (dK _ _ (wp_seq_k fun ho d5=>?_))
 refine wp_g0 (.replicate 36 true) [] 121
   [vT,vT,ve (iv ((addV v u).2)),ve (.bool (!decide (((addV v u).2)=0))),ve (.bool (!decide (((addV v u).2)=0))),ve (gq (!(!decide (((addV v u).2)=0))) (iv ((subV ((addV v u).1) u).2))),ve (gq (!(!decide (((addV v u).2)=0))) (.bool (decide (((subV ((addV v u).1) u).2)=0)))),ve (gq (!(!decide (((addV v u).2)=0))) (.bool (decide (((subV ((addV v u).1) u).2)=0)))),ve (gq ((!(!decide (((addV v u).2)=0))) && (decide (((subV ((addV v u).1) u).2)=0))) (vv (subV ((addV v u).1) u).1 bq aR aE aS)),ve (gq ((!(!decide (((addV v u).2)=0))) && (decide (((subV ((addV v u).1) u).2)=0))) (vv v Av cv Bv dv)),ve (gq ((!(!decide (((addV v u).2)=0))) && (decide (((subV ((addV v u).1) u).2)=0))) (.bool (strictV ((subV ((addV v u).1) u).1) v))),ve (gq (!(!decide (((addV v u).2)=0))) (.bool ((decide (((subV ((addV v u).1) u).2)=0)) && (strictV ((subV ((addV v u).1) u).1) v)))),ve (.bool ((!decide (((addV v u).2)=0)) || ((decide (((subV ((addV v u).1) u).2)=0)) && (strictV ((subV ((addV v u).1) u).1) v)))),ve (.bool ((!decide (((addV v u).2)=0)) || ((decide (((subV ((addV v u).1) u).2)=0)) && (strictV ((subV ((addV v u).1) u).1) v)))),ve (.bool ((!decide (((addV v u).2)=0)) || ((decide (((subV ((addV v u).1) u).2)=0)) && (strictV ((subV ((addV v u).1) u).1) v)))),ve (gq ((!decide (((addV v u).2)=0)) || ((decide (((subV ((addV v u).1) u).2)=0)) && (strictV ((subV ((addV v u).1) u).1) v))) (iv ((stepV v 1).2))),ve (gq ((!decide (((addV v u).2)=0)) || ((decide (((subV ((addV v u).1) u).2)=0)) && (strictV ((subV ((addV v u).1) u).1) v))) (.bool (!decide (((stepV v 1).2)=0)))),ve (gq ((!decide (((addV v u).2)=0)) || ((decide (((subV ((addV v u).1) u).2)=0)) && (strictV ((subV ((addV v u).1) u).1) v))) (.bool (!decide (((stepV v 1).2)=0)))),ve (gq (((!decide (((addV v u).2)=0)) || ((decide (((subV ((addV v u).1) u).2)=0)) && (strictV ((subV ((addV v u).1) u).1) v))) && (!(!decide (((stepV v 1).2)=0)))) (iv ((stepV ((stepV v 1).1) (-1)).2))),ve (gq (((!decide (((addV v u).2)=0)) || ((decide (((subV ((addV v u).1) u).2)=0)) && (strictV ((subV ((addV v u).1) u).1) v))) && (!(!decide (((stepV v 1).2)=0)))) (.bool (decide (((stepV ((stepV v 1).1) (-1)).2)=0)))),ve (gq (((!decide (((addV v u).2)=0)) || ((decide (((subV ((addV v u).1) u).2)=0)) && (strictV ((subV ((addV v u).1) u).1) v))) && (!(!decide (((stepV v 1).2)=0)))) (.bool (decide (((stepV ((stepV v 1).1) (-1)).2)=0)))),ve (gq ((((!decide (((addV v u).2)=0)) || ((decide (((subV ((addV v u).1) u).2)=0)) && (strictV ((subV ((addV v u).1) u).1) v))) && (!(!decide (((stepV v 1).2)=0)))) && (decide (((stepV ((stepV v 1).1) (-1)).2)=0))) (vv (stepV ((stepV v 1).1) (-1)).1 bx aZ bz a1)),ve (gq ((((!decide (((addV v u).2)=0)) || ((decide (((subV ((addV v u).1) u).2)=0)) && (strictV ((subV ((addV v u).1) u).1) v))) && (!(!decide (((stepV v 1).2)=0)))) && (decide (((stepV ((stepV v 1).1) (-1)).2)=0))) (vv v Av cv Bv dv)),ve (gq ((((!decide (((addV v u).2)=0)) || ((decide (((subV ((addV v u).1) u).2)=0)) && (strictV ((subV ((addV v u).1) u).1) v))) && (!(!decide (((stepV v 1).2)=0)))) && (decide (((stepV ((stepV v 1).1) (-1)).2)=0))) (.bool (strictV ((stepV ((stepV v 1).1) (-1)).1) v))),ve (gq (((!decide (((addV v u).2)=0)) || ((decide (((subV ((addV v u).1) u).2)=0)) && (strictV ((subV ((addV v u).1) u).1) v))) && (!(!decide (((stepV v 1).2)=0)))) (.bool ((decide (((stepV ((stepV v 1).1) (-1)).2)=0)) && (strictV ((stepV ((stepV v 1).1) (-1)).1) v)))),ve (gq ((!decide (((addV v u).2)=0)) || ((decide (((subV ((addV v u).1) u).2)=0)) && (strictV ((subV ((addV v u).1) u).1) v))) (.bool ((!decide (((stepV v 1).2)=0)) || ((decide (((stepV ((stepV v 1).1) (-1)).2)=0)) && (strictV ((stepV ((stepV v 1).1) (-1)).1) v))))),ve (.bool (((!decide (((addV v u).2)=0)) || ((decide (((subV ((addV v u).1) u).2)=0)) && (strictV ((subV ((addV v u).1) u).1) v))) && ((!decide (((stepV v 1).2)=0)) || ((decide (((stepV ((stepV v 1).1) (-1)).2)=0)) && (strictV ((stepV ((stepV v 1).1) (-1)).1) v))))),ve (.bool (((!decide (((addV v u).2)=0)) || ((decide (((subV ((addV v u).1) u).2)=0)) && (strictV ((subV ((addV v u).1) u).1) v))) && ((!decide (((stepV v 1).2)=0)) || ((decide (((stepV ((stepV v 1).1) (-1)).2)=0)) && (strictV ((stepV ((stepV v 1).1) (-1)).1) v))))),ve (gq (((!decide (((addV v u).2)=0)) || ((decide (((subV ((addV v u).1) u).2)=0)) && (strictV ((subV ((addV v u).1) u).1) v))) && ((!decide (((stepV v 1).2)=0)) || ((decide (((stepV ((stepV v 1).1) (-1)).2)=0)) && (strictV ((stepV ((stepV v 1).1) (-1)).1) v)))) (iv ((addV v u).2))),ve (gq (((!decide (((addV v u).2)=0)) || ((decide (((subV ((addV v u).1) u).2)=0)) && (strictV ((subV ((addV v u).1) u).1) v))) && ((!decide (((stepV v 1).2)=0)) || ((decide (((stepV ((stepV v 1).1) (-1)).2)=0)) && (strictV ((stepV ((stepV v 1).1) (-1)).1) v)))) (.bool (decide (((addV v u).2)=0)))),ve (gq (((!decide (((addV v u).2)=0)) || ((decide (((subV ((addV v u).1) u).2)=0)) && (strictV ((subV ((addV v u).1) u).1) v))) && ((!decide (((stepV v 1).2)=0)) || ((decide (((stepV ((stepV v 1).1) (-1)).2)=0)) && (strictV ((stepV ((stepV v 1).1) (-1)).1) v)))) (.bool (decide (((addV v u).2)=0)))),ve (gq ((((!decide (((addV v u).2)=0)) || ((decide (((subV ((addV v u).1) u).2)=0)) && (strictV ((subV ((addV v u).1) u).1) v))) && ((!decide (((stepV v 1).2)=0)) || ((decide (((stepV ((stepV v 1).1) (-1)).2)=0)) && (strictV ((stepV ((stepV v 1).1) (-1)).1) v)))) && (!(decide (((addV v u).2)=0)))) (iv ((addV v u).2))),ve (gq ((((!decide (((addV v u).2)=0)) || ((decide (((subV ((addV v u).1) u).2)=0)) && (strictV ((subV ((addV v u).1) u).1) v))) && ((!decide (((stepV v 1).2)=0)) || ((decide (((stepV ((stepV v 1).1) (-1)).2)=0)) && (strictV ((stepV ((stepV v 1).1) (-1)).1) v)))) && (!(decide (((addV v u).2)=0)))) (.bool (decide (((addV v u).2)=3)))),ve (gq (((!decide (((addV v u).2)=0)) || ((decide (((subV ((addV v u).1) u).2)=0)) && (strictV ((subV ((addV v u).1) u).1) v))) && ((!decide (((stepV v 1).2)=0)) || ((decide (((stepV ((stepV v 1).1) (-1)).2)=0)) && (strictV ((stepV ((stepV v 1).1) (-1)).1) v)))) (.bool ((decide (((addV v u).2)=0)) || (decide (((addV v u).2)=3))))),ve (.bool ((((!decide (((addV v u).2)=0)) || ((decide (((subV ((addV v u).1) u).2)=0)) && (strictV ((subV ((addV v u).1) u).1) v))) && ((!decide (((stepV v 1).2)=0)) || ((decide (((stepV ((stepV v 1).1) (-1)).2)=0)) && (strictV ((stepV ((stepV v 1).1) (-1)).1) v)))) && ((decide (((addV v u).2)=0)) || (decide (((addV v u).2)=3))))),ve (.bool ((((!decide (((addV v u).2)=0)) || ((decide (((subV ((addV v u).1) u).2)=0)) && (strictV ((subV ((addV v u).1) u).1) v))) && ((!decide (((stepV v 1).2)=0)) || ((decide (((stepV ((stepV v 1).1) (-1)).2)=0)) && (strictV ((stepV ((stepV v 1).1) (-1)).1) v)))) && ((decide (((addV v u).2)=0)) || (decide (((addV v u).2)=3)))))] co (.eq (.eq (.eq (.eq (.eq (.eq (.eq (.eq (.eq (.eq (.eq (.eq (.eq (.eq (.eq (.eq (.eq (.eq (.eq (.eq (.eq (.eq (.eq (.eq (.eq (.eq (.eq (.eq (.eq (.eq (.eq (.eq (.eq (.eq (.eq (.eq (.nil))))))))))))))))))))))))))))))))))))) ?_ ?_
 exact .o1 (ck rfl rfl rfl (fun _ w hn k=>⟨#[],rfl,fun _=>by kernel_rfl,first_c _ (HT.up (av.transNew hn))⟩) fun _=>rfl)<| .m (fun k=>k.eq1 0 86 rfl)<| .gm (fun k=>k.eq1 1 87 rfl) (fun k=>k.fx 6 b1)<| .g (fun k=>k.eq1 1 87 rfl) (fun _ w hn k=>⟨_,v_bin rfl (k.eq1 2 88 rfl) rfl (fun _=>rfl) (r_neq rfl),rfl⟩)<| .gm (fun k=>k.eq1 1 87 rfl) (fun k=>k.eq1 3 89 rfl)<| .o1 (sc (G:=(!(!decide (((addV v u).2)=0)))) rfl rfl rfl (fun _ _ k=>g0' (k.eq1 4 90 rfl)) (fun hG _ w hn k=>v_move rfl (k.fx 8 fK)))<| .o1 (sc (G:=(!(!decide (((addV v u).2)=0)))) rfl rfl rfl (fun _ _ k=>g0' (k.eq1 4 90 rfl)) (fun hG _ w hn k=>v_bin rfl (cT hG (k.eq1 5 91 rfl)) rfl (fun _=>rfl) (r_eql rfl)))<| .o1 (sc (G:=(!(!decide (((addV v u).2)=0)))) rfl rfl rfl (fun _ _ k=>g0' (k.eq1 4 90 rfl)) (fun hG _ w hn k=>v_move rfl (cT hG (k.eq1 6 92 rfl))))<| .o1 (sc (G:=((!(!decide (((addV v u).2)=0))) && (decide (((subV ((addV v u).1) u).2)=0)))) rfl rfl rfl (fun _ _ k=>g1 (k.eq1 7 93 rfl)) (fun hG _ w hn k=>v_load rfl (k.fx 7 fJ) (l_agg Tryz.isAgg29 Tryz.sizeOf29 (d3.new_ hn) rfl)))<| .o1 (sc (G:=((!(!decide (((addV v u).2)=0))) && (decide (((subV ((addV v u).1) u).2)=0)))) rfl rfl rfl (fun _ _ k=>g1 (k.eq1 7 93 rfl)) (fun hG _ w hn k=>v_load rfl (k.fx 2 c0) (l_agg Tryz.isAgg29 Tryz.sizeOf29 (cn.new_ hn) rfl)))<| .o1 (scC (G:=((!(!decide (((addV v u).2)=0))) && (decide (((subV ((addV v u).1) u).2)=0)))) rfl rfl rfl (fun _ _ k=>g1 (k.eq1 7 93 rfl)) rfl (fun hG _ w hn k=>⟨#[vv (subV ((addV v u).1) u).1 bq aR aE aS,vv v Av cv Bv dv],args2 (cT hG (k.eq1 8 94 rfl)) (cT hG (k.eq1 9 95 rfl)),fun _=>by kernel_rfl,cstrict_c ((subV ((addV v u).1) u).1) _ _ _ _ v _ _ _ _ _ (dZ.new_ hn) (d0.new_ hn) (hmv.new_ (av.transNew hn)) (hsv.new_ (av.transNew hn))⟩))<| .o1 (sc (G:=(!(!decide (((addV v u).2)=0)))) rfl rfl rfl (fun _ _ k=>g0' (k.eq1 4 90 rfl)) (fun hG _ w hn k=>v_and rfl (cT hG (k.eq1 7 93 rfl)) (fun hg=>(cT (aj hG hg) (k.eq1 10 96 rfl))) rfl))<| .g (fun k=>k.eq1 1 87 rfl) (fun _ w hn k=>⟨_,v_or rfl (k.eq1 4 90 rfl) rfl (fun hg=>(cT (nt hg) (k.eq1 11 97 rfl))),rfl⟩)<| .t (fun _ w hn k=>⟨_,v_pickT rfl (k.eq1 1 87 rfl) (k.eq1 12 98 rfl),rfl⟩)<| .m (fun k=>k.eq1 13 99 rfl)<| .o1 (sc (G:=((!decide (((addV v u).2)=0)) || ((decide (((subV ((addV v u).1) u).2)=0)) && (strictV ((subV ((addV v u).1) u).1) v)))) rfl rfl rfl (fun _ _ k=>g0 (k.eq1 14 100 rfl)) (fun hG _ w hn k=>v_move rfl (k.fx 10 fL)))<| .o1 (sc (G:=((!decide (((addV v u).2)=0)) || ((decide (((subV ((addV v u).1) u).2)=0)) && (strictV ((subV ((addV v u).1) u).1) v)))) rfl rfl rfl (fun _ _ k=>g0 (k.eq1 14 100 rfl)) (fun hG _ w hn k=>v_bin rfl (cT hG (k.eq1 15 101 rfl)) rfl (fun _=>rfl) (r_neq rfl)))<| .o1 (sc (G:=((!decide (((addV v u).2)=0)) || ((decide (((subV ((addV v u).1) u).2)=0)) && (strictV ((subV ((addV v u).1) u).1) v)))) rfl rfl rfl (fun _ _ k=>g0 (k.eq1 14 100 rfl)) (fun hG _ w hn k=>v_move rfl (cT hG (k.eq1 16 102 rfl))))<| .o1 (sc (G:=(((!decide (((addV v u).2)=0)) || ((decide (((subV ((addV v u).1) u).2)=0)) && (strictV ((subV ((addV v u).1) u).1) v))) && (!(!decide (((stepV v 1).2)=0))))) rfl rfl rfl (fun _ _ k=>g1' (k.eq1 17 103 rfl)) (fun hG _ w hn k=>v_move rfl (k.fx 12 fN)))<| .o1 (sc (G:=(((!decide (((addV v u).2)=0)) || ((decide (((subV ((addV v u).1) u).2)=0)) && (strictV ((subV ((addV v u).1) u).1) v))) && (!(!decide (((stepV v 1).2)=0))))) rfl rfl rfl (fun _ _ k=>g1' (k.eq1 17 103 rfl)) (fun hG _ w hn k=>v_bin rfl (cT hG (k.eq1 18 104 rfl)) rfl (fun _=>rfl) (r_eql rfl)))<| .o1 (sc (G:=(((!decide (((addV v u).2)=0)) || ((decide (((subV ((addV v u).1) u).2)=0)) && (strictV ((subV ((addV v u).1) u).1) v))) && (!(!decide (((stepV v 1).2)=0))))) rfl rfl rfl (fun _ _ k=>g1' (k.eq1 17 103 rfl)) (fun hG _ w hn k=>v_move rfl (cT hG (k.eq1 19 105 rfl))))<| .o1 (sc (G:=((((!decide (((addV v u).2)=0)) || ((decide (((subV ((addV v u).1) u).2)=0)) && (strictV ((subV ((addV v u).1) u).1) v))) && (!(!decide (((stepV v 1).2)=0)))) && (decide (((stepV ((stepV v 1).1) (-1)).2)=0)))) rfl rfl rfl (fun _ _ k=>g1 (k.eq1 20 106 rfl)) (fun hG _ w hn k=>v_load rfl (k.fx 11 fM) (l_agg Tryz.isAgg29 Tryz.sizeOf29 (dX.new_ hn) rfl)))<| .o1 (sc (G:=((((!decide (((addV v u).2)=0)) || ((decide (((subV ((addV v u).1) u).2)=0)) && (strictV ((subV ((addV v u).1) u).1) v))) && (!(!decide (((stepV v 1).2)=0)))) && (decide (((stepV ((stepV v 1).1) (-1)).2)=0)))) rfl rfl rfl (fun _ _ k=>g1 (k.eq1 20 106 rfl)) (fun hG _ w hn k=>v_load rfl (k.fx 2 c0) (l_agg Tryz.isAgg29 Tryz.sizeOf29 (cn.new_ hn) rfl)))<| .o1 (scC (G:=((((!decide (((addV v u).2)=0)) || ((decide (((subV ((addV v u).1) u).2)=0)) && (strictV ((subV ((addV v u).1) u).1) v))) && (!(!decide (((stepV v 1).2)=0)))) && (decide (((stepV ((stepV v 1).1) (-1)).2)=0)))) rfl rfl rfl (fun _ _ k=>g1 (k.eq1 20 106 rfl)) rfl (fun hG _ w hn k=>⟨#[vv (stepV ((stepV v 1).1) (-1)).1 bx aZ bz a1,vv v Av cv Bv dv],args2 (cT hG (k.eq1 21 107 rfl)) (cT hG (k.eq1 22 108 rfl)),fun _=>by kernel_rfl,cstrict_c ((stepV ((stepV v 1).1) (-1)).1) _ _ _ _ v _ _ _ _ _ (d1.new_ hn) (d2.new_ hn) (hmv.new_ (av.transNew hn)) (hsv.new_ (av.transNew hn))⟩))<| .o1 (sc (G:=(((!decide (((addV v u).2)=0)) || ((decide (((subV ((addV v u).1) u).2)=0)) && (strictV ((subV ((addV v u).1) u).1) v))) && (!(!decide (((stepV v 1).2)=0))))) rfl rfl rfl (fun _ _ k=>g1' (k.eq1 17 103 rfl)) (fun hG _ w hn k=>v_and rfl (cT hG (k.eq1 20 106 rfl)) (fun hg=>(cT (aj hG hg) (k.eq1 23 109 rfl))) rfl))<| .o1 (sc (G:=((!decide (((addV v u).2)=0)) || ((decide (((subV ((addV v u).1) u).2)=0)) && (strictV ((subV ((addV v u).1) u).1) v)))) rfl rfl rfl (fun _ _ k=>g0 (k.eq1 14 100 rfl)) (fun hG _ w hn k=>v_or rfl (cT hG (k.eq1 17 103 rfl)) rfl (fun hg=>(cT (aj hG (nt hg)) (k.eq1 24 110 rfl)))))<| .t (fun _ w hn k=>⟨_,v_and rfl (k.eq1 14 100 rfl) (fun hg=>(cT hg (k.eq1 25 111 rfl))) rfl,rfl⟩)<| .m (fun k=>k.eq1 26 112 rfl)<| .o1 (sc (G:=(((!decide (((addV v u).2)=0)) || ((decide (((subV ((addV v u).1) u).2)=0)) && (strictV ((subV ((addV v u).1) u).1) v))) && ((!decide (((stepV v 1).2)=0)) || ((decide (((stepV ((stepV v 1).1) (-1)).2)=0)) && (strictV ((stepV ((stepV v 1).1) (-1)).1) v))))) rfl rfl rfl (fun _ _ k=>g0 (k.eq1 27 113 rfl)) (fun hG _ w hn k=>v_move rfl (k.fx 6 b1)))<| .o1 (sc (G:=(((!decide (((addV v u).2)=0)) || ((decide (((subV ((addV v u).1) u).2)=0)) && (strictV ((subV ((addV v u).1) u).1) v))) && ((!decide (((stepV v 1).2)=0)) || ((decide (((stepV ((stepV v 1).1) (-1)).2)=0)) && (strictV ((stepV ((stepV v 1).1) (-1)).1) v))))) rfl rfl rfl (fun _ _ k=>g0 (k.eq1 27 113 rfl)) (fun hG _ w hn k=>v_bin rfl (cT hG (k.eq1 28 114 rfl)) rfl (fun _=>rfl) (r_eql rfl)))<| .o1 (sc (G:=(((!decide (((addV v u).2)=0)) || ((decide (((subV ((addV v u).1) u).2)=0)) && (strictV ((subV ((addV v u).1) u).1) v))) && ((!decide (((stepV v 1).2)=0)) || ((decide (((stepV ((stepV v 1).1) (-1)).2)=0)) && (strictV ((stepV ((stepV v 1).1) (-1)).1) v))))) rfl rfl rfl (fun _ _ k=>g0 (k.eq1 27 113 rfl)) (fun hG _ w hn k=>v_move rfl (cT hG (k.eq1 29 115 rfl))))<| .o1 (sc (G:=((((!decide (((addV v u).2)=0)) || ((decide (((subV ((addV v u).1) u).2)=0)) && (strictV ((subV ((addV v u).1) u).1) v))) && ((!decide (((stepV v 1).2)=0)) || ((decide (((stepV ((stepV v 1).1) (-1)).2)=0)) && (strictV ((stepV ((stepV v 1).1) (-1)).1) v)))) && (!(decide (((addV v u).2)=0))))) rfl rfl rfl (fun _ _ k=>g1' (k.eq1 30 116 rfl)) (fun hG _ w hn k=>v_move rfl (k.fx 6 b1)))<| .o1 (sc (G:=((((!decide (((addV v u).2)=0)) || ((decide (((subV ((addV v u).1) u).2)=0)) && (strictV ((subV ((addV v u).1) u).1) v))) && ((!decide (((stepV v 1).2)=0)) || ((decide (((stepV ((stepV v 1).1) (-1)).2)=0)) && (strictV ((stepV ((stepV v 1).1) (-1)).1) v)))) && (!(decide (((addV v u).2)=0))))) rfl rfl rfl (fun _ _ k=>g1' (k.eq1 30 116 rfl)) (fun hG _ w hn k=>v_bin rfl (cT hG (k.eq1 31 117 rfl)) rfl (fun _=>rfl) (r_eql rfl)))<| .o1 (sc (G:=(((!decide (((addV v u).2)=0)) || ((decide (((subV ((addV v u).1) u).2)=0)) && (strictV ((subV ((addV v u).1) u).1) v))) && ((!decide (((stepV v 1).2)=0)) || ((decide (((stepV ((stepV v 1).1) (-1)).2)=0)) && (strictV ((stepV ((stepV v 1).1) (-1)).1) v))))) rfl rfl rfl (fun _ _ k=>g0 (k.eq1 27 113 rfl)) (fun hG _ w hn k=>v_or rfl (cT hG (k.eq1 30 116 rfl)) rfl (fun hg=>(cT (aj hG (nt hg)) (k.eq1 32 118 rfl)))))<| .t (fun _ w hn k=>⟨_,v_and rfl (k.eq1 27 113 rfl) (fun hg=>(cT hg (k.eq1 33 119 rfl))) rfl,rfl⟩)<| .a (fun k=>k.eq1 34 120 rfl) .nil
 refine aftI co d4 av fun hr hs gF d6 d7 gG d8=>?_
 have fO:=d8.ge 35 4 rfl
 refine st_nil (d5 _ _ ?_)
 refine wp_ret (ret_k d6 (v:=.bool ((((!decide (((addV v u).2)=0)) || ((decide (((subV ((addV v u).1) u).2)=0)) && (strictV ((subV ((addV v u).1) u).1) v))) && ((!decide (((stepV v 1).2)=0)) || ((decide (((stepV ((stepV v 1).1) (-1)).2)=0)) && (strictV ((stepV ((stepV v 1).1) (-1)).1) v)))) && ((decide (((addV v u).2)=0)) || (decide (((addV v u).2)=3))))) (res_t rfl fO _) ?_)
 exact⟨congrArg (fun b=>Ending.returned (.bool b)) (show (((((!decide (((addV v u).2)=0)) || ((decide (((subV ((addV v u).1) u).2)=0)) && (strictV ((subV ((addV v u).1) u).1) v))) && ((!decide (((stepV v 1).2)=0)) || ((decide (((stepV ((stepV v 1).1) (-1)).2)=0)) && (strictV ((stepV ((stepV v 1).1) (-1)).1) v)))) && ((decide (((addV v u).2)=0)) || (decide (((addV v u).2)=3)))))=true from sums_leaf cC cD bS hP hvv),d7⟩
end Go.Proofs.YtjakfchffigkkaaGreatDoor
