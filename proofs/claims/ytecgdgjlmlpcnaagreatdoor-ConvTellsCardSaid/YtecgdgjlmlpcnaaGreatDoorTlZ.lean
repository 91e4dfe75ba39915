import Derived.WalkKit
import Derived.Deep.AppendLies
import Derived.Maps.AppendAt
import Derived.Deep.Draws
import Derived.OrdersHeld
import Derived.KernelRfl
import Derived.Laws.BytesArg
import Derived.Laws.Tables
import Derived.LoopN
import Derived.Tactics
import Derived.Great.BuildSlice
import Derived.Laws.OwnMore
import Derived.Laws.MakeOwn
import Derived.Laws.CopyRow
import Derived.Test.YtecgdgjlmlpcnaaGreatDoorProg
import Derived.WalkSpells
import Derived.Laws.StructEq
import Derived.Tactics2
import Derived.StillTactics
set_option linter.unusedSimpArgs false
set_option linter.unusedVariables false
namespace Go.Proofs.YtecgdgjlmlpcnaaGreatDoor
open Go.RowKit
structure Upd (F:Nat→Prop) (w w':World):Prop where
  os:w'.os=w.os
  tape:w'.tape=w.tape
  output:w'.output=w.output
  size:w.heap.size≤w'.heap.size
  block:∀ k,k < w.heap.size→¬ F k→w'.heap[k]?=w.heap[k]?
abbrev New (w w':World):Prop:=Upd (fun _=>False) w w'
namespace Upd
variable {F G:Nat→Prop} {a b c w w':World}
theorem refl (F:Nat→Prop) (w:World):Upd F w w:=⟨rfl,rfl,rfl,Nat.le_refl _,fun _ _ _=>rfl⟩
theorem mono (h:Upd F w w') (hG:∀ k,k < w.heap.size→F k→G k):Upd G w w' :=
  ⟨h.os,h.tape,h.output,h.size,fun k hk hn=>h.block k hk fun hf=>hn (hG k hk hf)⟩
theorem trans (h:Upd F a b) (k:Upd G b c) (hG:∀ i,i < a.heap.size→G i→F i):Upd F a c :=
  ⟨k.os.trans h.os,k.tape.trans h.tape,k.output.trans h.output,Nat.le_trans h.size k.size,fun i hi hn =>
    (k.block i (Nat.lt_of_lt_of_le hi h.size) fun hg=>hn (hG i hi hg)).trans (h.block i hi hn)⟩
theorem transNew (h:Upd F a b) (k:New b c):Upd F a c:=h.trans k fun _ _ hf=>hf.elim
theorem drew (h:Upd F a w):Upd F a w.drew:=⟨h.os,h.tape,h.output,h.size,h.block⟩
theorem drewN (h:Upd F a w) (n:Nat):Upd F a (w.drewN n):=⟨h.os,h.tape,h.output,h.size,h.block⟩
theorem alloc (h:Upd F a w) (o:Obj):Upd F a (w.alloc o) :=
  ⟨h.os,h.tape,h.output,Nat.le_trans h.size (by simp),fun i hi hn=>(Below.heap_alloc w o i (Nat.lt_of_lt_of_le hi h.size)).trans (h.block i hi hn)⟩
theorem setCell (h:Upd F a w) {p:Addr} (hp:F p.block ∨ a.heap.size≤p.block) (u:Value):Upd F a (w.setCell p u) :=
  ⟨h.os,h.tape,h.output,by simpa [World.setCell] using h.size,fun i hi hn=>(Below.heap_setCell w p u i (by
    rintro rfl
    rcases hp with hp | hp
    · exact hn hp
    · omega)).trans (h.block i hi hn)⟩
theorem grown {row:Option Nat} (h:Upd F a w) (hg:w.grownBy w' row) (hr:∀ k,row=some k→F k ∨ a.heap.size≤k):Upd F a w' :=
  ⟨hg.os.trans h.os,hg.tape.trans h.tape,hg.output.trans h.output,Nat.le_trans h.size hg.size,fun i hi hn =>
    (hg.block i (Nat.lt_of_lt_of_le hi h.size) (fun e=>by
      rcases hr i e.symm with hf | hf
      · exact hn hf
      · omega)).trans (h.block i hi hn)⟩
theorem below (h:New w w'):Below w.heap.size w w':=⟨h.os,h.tape,h.output,h.size,fun k hk=>h.block k hk (fun hf=>hf)⟩
theorem ofBelow (h:Below w.heap.size w w'):New w w':=⟨h.os,h.tape,h.output,h.size,fun k hk _=>h.block k hk⟩
theorem cell (h:Upd F w w') {p:Addr} (hp:p.block < w.heap.size) (hF:¬ F p.block):w'.cell? p=w.cell? p:=World.cell?_of_block (w:=w) (h.block p.block hp hF)
theorem frozen (h:Upd F w w') {p:Addr} (hp:p.block < w.heap.size) (hF:¬ F p.block):w'.frozen? p=w.frozen? p:=World.frozen?_of_block (w:=w) (h.block p.block hp hF)
theorem cellN (h:New w w') {p:Addr} (hp:p.block < w.heap.size):w'.cell? p=w.cell? p:=h.cell hp (fun hf=>hf)
end Upd
def Blk (w:World) (g:Nat) (t:TypeId) (cs:List Value):Prop:=w.heap[g]?=some (.cells cs.toArray t (0,0))
namespace Blk
variable {w w':World} {g:Nat} {t:TypeId} {cs:List Value}
theorem lt (h:Blk w g t cs):g < w.heap.size:=by
  rcases Nat.lt_or_ge g w.heap.size with hlt | hge
  · exact hlt
  · unfold Blk at h; rw [Array.getElem?_eq_none hge] at h; cases h
theorem cell (h:Blk w g t cs) (i:Nat):w.cell? ⟨g,i,none⟩=cs[i]?:=by
  have:=cell_of_row w g i cs.toArray t (0,0) h
  simpa using this
theorem frozen (h:Blk w g t cs) (i:Nat):w.frozen? ⟨g,i,none⟩=false:=by
  unfold Blk at h
  simp [World.frozen?,h]
theorem new (w:World) (t:TypeId) (cs:List Value):Blk (w.alloc (.cells cs.toArray t)) w.heap.size t cs:=heap_alloc_new w _
theorem drew (h:Blk w g t cs):Blk w.drew g t cs:=h
theorem drewN (h:Blk w g t cs) (n:Nat):Blk (w.drewN n) g t cs:=h
theorem alloc (h:Blk w g t cs) (o:Obj):Blk (w.alloc o) g t cs:=(Below.heap_alloc w o g h.lt).trans h
theorem set_ (h:Blk w g t cs) (i:Nat) (u:Value):Blk (w.setCell ⟨g,i,none⟩ u) g t (cs.set i u):=by
  unfold Blk at h ⊢
  simp [World.setCell,Array.getElem?_modify,h]
theorem far (h:Blk w g t cs) {p:Addr} (hp:g ≠ p.block) (u:Value):Blk (w.setCell p u) g t cs:=(Below.heap_setCell w p u g hp).trans h
theorem upd {F:Nat→Prop} (h:Blk w g t cs) (hb:Upd F w w') (hF:¬ F g):Blk w' g t cs:=(hb.block g h.lt hF).trans h
theorem new_ (h:Blk w g t cs) (hb:New w w'):Blk w' g t cs:=h.upd hb (fun hf=>hf)
theorem grown {row:Option Nat} (h:Blk w g t cs) (hb:w.grownBy w' row) (hg:some g ≠ row):Blk w' g t cs:=(hb.block g h.lt hg).trans h
end Blk
def RowAt (w:World) (size:Nat) (v:Value) (n:Nat) (xs:List Value):Prop :=
  xs.length=n * size∧((n=0∧∃ A c,v=.slice A 0 c) ∨
    ∃ b off c,v=.slice (some ⟨b,off,none⟩) n c∧n≤c∧c≤maxLen∧b < w.heap.size∧∀ j u,xs[j]?=some u→w.cell? ⟨b,off + j,none⟩=some u)
namespace RowAt
variable {F:Nat→Prop} {w w':World} {size n:Nat} {v:Value} {xs:List Value}
theorem upd (h:RowAt w size v n xs) (hu:Upd F w w') (hF:∀ b off c,v=.slice (some ⟨b,off,none⟩) n c→¬ F b):RowAt w' size v n xs:=by
  refine ⟨h.1,?_⟩
  rcases h.2 with h0 | ⟨b,off,c,hv,hc,hm,hb,hx⟩
  · exact .inl h0
  · exact .inr ⟨b,off,c,hv,hc,hm,Nat.lt_of_lt_of_le hb hu.size,fun j u hj=>(hu.cell (p:=⟨b,off + j,none⟩) hb (hF b off c hv)).trans (hx j u hj)⟩
theorem new_ (h:RowAt w size v n xs) (hu:New w w'):RowAt w' size v n xs:=h.upd hu fun _ _ _ _ hf=>hf
theorem form (h:RowAt w size v n xs):∃ A c,v=.slice A n c:=by
  rcases h.2 with ⟨rfl,A,c,rfl⟩ | ⟨b,off,c,rfl,_⟩
  · exact⟨A,c,rfl⟩
  · exact⟨_,c,rfl⟩
end RowAt
def Own (w:World) (base:Nat) (e:TypeId) (size:Nat) (v:Value) (n:Nat) (xs:List Value):Prop :=
  w.ownsRow base e size v n xs ∨ (n=0∧xs=[]∧∃ A,v=.slice A 0 0)
def ownB:Value→Option Nat
  | .slice (some a) _ (_ + 1)=>some a.block
  | _=>none
theorem ownB_le {v:Value} {k:Nat} (h:ownB v=some k):v.ownBlock=some k:=by
  unfold ownB at h
  split at h
  · simpa [Value.ownBlock] using h
  · cases h
namespace Own
variable {F:Nat→Prop} {w w':World} {base:Nat} {e:TypeId} {size n:Nat} {v:Value} {xs:List Value}
theorem nil_ (w:World) (base:Nat) (e:TypeId) (size:Nat):Own w base e size (.slice none 0 0) 0 []:=.inl (World.ownsRow_nil w base e size)
theorem len (h:Own w base e size v n xs):xs.length=n * size:=by
  rcases h with h | ⟨rfl,rfl,_⟩
  · exact h.1
  · simp
theorem lt (h:Own w base e size v n xs):∀ k,ownB v=some k→base≤k∧k < w.heap.size:=by
  intro k hk
  rcases h with h | ⟨rfl,rfl,A,rfl⟩
  · exact h.lt k (ownB_le hk)
  · cases A <;> simp [ownB] at hk
theorem kept (h:Own w base e size v n xs) (hk:∀ k,ownB v=some k→w'.heap[k]?=w.heap[k]?):Own w' base e size v n xs:=by
  rcases h with ⟨h1,h2⟩ | h
  · rcases h2 with h2 | ⟨g,cap,cur,rfl,hb,hg,hn,hm,hs,ht⟩
    · exact .inl ⟨h1,.inl h2⟩
    · cases cap with
      | zero =>
        obtain rfl:n=0:=by omega
        exact .inr ⟨rfl,List.eq_nil_of_length_eq_zero (by simpa using h1),_,rfl⟩
      | succ cap=>exact .inl ⟨h1,.inr ⟨g,cap + 1,cur,rfl,hb,(hk g rfl).trans hg,hn,hm,hs,ht⟩⟩
  · exact .inr h
theorem upd (h:Own w base e size v n xs) (hu:Upd F w w') (hF:∀ k,ownB v=some k→¬ F k):Own w' base e size v n xs :=
  h.kept fun k hk=>hu.block k (h.lt k hk).2 (hF k hk)
theorem new_ (h:Own w base e size v n xs) (hu:New w w'):Own w' base e size v n xs:=h.upd hu fun _ _ hf=>hf
theorem row (h:Own w base e size v n xs):RowAt w size v n xs:=by
  refine ⟨h.len,?_⟩
  rcases h with ⟨h1,h2⟩ | ⟨rfl,rfl,A,rfl⟩
  · rcases h2 with ⟨rfl,rfl⟩ | ⟨g,cap,cur,rfl,hb,hg,hn,hm,hs,ht⟩
    · exact .inl ⟨rfl,none,0,rfl⟩
    · refine .inr ⟨g,0,cap,rfl,hn,hm,(Array.getElem?_eq_some_iff.1 hg).1,fun j u hj=>?_⟩
      have:=World.ownsRow.cells (base:=base) (e:=e) (size:=size) (w:=w) (v:=.slice (some ⟨g,0,none⟩) n cap) (n:=n) (xs:=xs) ⟨h1,.inr ⟨g,cap,cur,rfl,hb,hg,hn,hm,hs,ht⟩⟩ (g:=g) rfl j u hj
      have hadd:(⟨g,0,none⟩:Addr).add j=⟨g,0 + j,none⟩:=by unfold Addr.add; split <;> simp_all
      rw [← hadd]; exact this
  · exact .inl ⟨rfl,A,0,rfl⟩
theorem more (h:Own w base e size v n xs) {base':Nat} (hb':base'≤base):Own w base' e size v n xs:=by
  rcases h with ⟨h1,h2⟩ | h
  · rcases h2 with h2 | ⟨g,cap,cur,rfl,hb,r⟩
    · exact .inl ⟨h1,.inl h2⟩
    · exact .inl ⟨h1,.inr ⟨g,cap,cur,rfl,by omega,r⟩⟩
  · exact .inr h
end Own
theorem Own.ne_blk {w:World} {base:Nat} {e:TypeId} {size n:Nat} {v:Value} {xs:List Value} {g:Nat} {t:TypeId} {cs:List Value} (h:Own w base e size v n xs) (hg:Blk w g t cs) (hne:e ≠ t):∀ k,ownB v=some k→k ≠ g:=by
  intro k hk hkg
  subst hkg
  rcases h with ⟨_,⟨rfl,_⟩ | ⟨g',cap,cur,rfl,_,hh,_⟩⟩ | ⟨_,_,A,rfl⟩
  · cases hk
  · have:g'=k:=by simpa [Value.ownBlock] using ownB_le hk
    subst this
    unfold Blk at hg
    rw [hh] at hg
    injection hg with hg
    injection hg with _ ht
    exact hne ht
  · cases A <;> cases hk
theorem Own.ne_own {w:World} {base base':Nat} {e e':TypeId} {size size' n n':Nat} {v v':Value} {xs xs':List Value} (h:Own w base e size v n xs) (h':Own w base' e' size' v' n' xs') (hne:e ≠ e'):∀ k,ownB v=some k→ownB v' ≠ some k:=by
  intro k hk hk'
  rcases h' with ⟨_,⟨rfl,_⟩ | ⟨g',cap,cur,rfl,_,hh,_⟩⟩ | ⟨_,_,A,rfl⟩
  · cases hk'
  · have:g'=k:=by simpa [Value.ownBlock] using ownB_le hk'
    subst this
    exact h.ne_blk (cs:=cur.toList) (by unfold Blk; simpa using hh) hne _ hk rfl
  · cases A <;> cases hk'
theorem Upd.cellAt (w:World) (p:Addr) (v:Value):Upd (fun b=>b=p.block) w (w.setCell p v):=(Upd.refl (fun b=>b=p.block) w).setCell (.inl rfl) v
section
variable {P:Program} (w:World)
theorem run_append_row (base:Nat) (t ty e:TypeId) (i:TypeInfo) (z:Value) (size bytes:Nat) (ht:P.underlying t=some (.slice e)) (hi:P.info? e=some i) (hz:i.zero=some z)
    (hsize:i.size=size) (hby:i.bytes=bytes) (hzs:z.cells.size=size) (hsz:0 < size)
    (v:Value) (n:Nat) (xs:List Value) (hown:Own w base e size v n xs)
    (s:Value) (m:Nat) (news:List Value) (hr:RowAt w size s m news) (h1:∀ u ∈ news,u.oneCell'=true)
    (h63:n + m≤maxLen) (hbytes:(n + m) * bytes≤140737488355328) (hbase:base≤w.heap.size) :
    ∃ v' w',(Builtin.append_ #[t,t] ty #[v,s]).run P w=.ok v' w'∧Own w' base e size v' (n + m) (xs ++ news)∧w.grownBy w' (ownB v) ∧
      (ownB v'=ownB v ∨ ownB v'=some w.heap.size):=by
  have hnone:∀ (A:Option Addr) (c:Nat),∃ w',(Builtin.append_ #[t,t] ty #[v,.slice A 0 c]).run P w=.ok v w'∧w'=w:=by
    intro A c
    refine ⟨w,?_,rfl⟩
    have hlc:∀ a:Addr,(loadCells a 0).run P w=.ok #[] w:=by intro a; simp [loadCells,loadCellsFrom]
    rcases hown with ⟨h1',h2⟩ | ⟨rfl,rfl,A',rfl⟩
    · rcases h2 with ⟨rfl,rfl⟩ | ⟨g,cap,cur,rfl,hb,hg,hn,hm,hs,ht'⟩
      · cases A <;> simp [Builtin.append_,run_underlying ht,sizeOf,typeInfo,hi,Builtin.lenOf,Builtin.firstCells,hlc]
      · cases A <;> simp [Builtin.append_,run_underlying ht,sizeOf,typeInfo,hi,Builtin.lenOf,Builtin.firstCells,hn,storeCells,hlc]
    · cases A <;> cases A' <;> simp [Builtin.append_,run_underlying ht,sizeOf,typeInfo,hi,Builtin.lenOf,Builtin.firstCells,storeCells,hlc]
  rcases Nat.eq_zero_or_pos m with rfl | hm
  · obtain⟨A,c,rfl⟩:=hr.form
    obtain⟨w',hrun,rfl⟩:=hnone A c
    have hn:news=[]:=List.eq_nil_of_length_eq_zero (by simpa using hr.1)
    subst hn
    exact⟨v,w',hrun,by simpa using hown,⟨rfl,rfl,rfl,Nat.le_refl _,fun _ _ _=>rfl⟩,.inl rfl⟩
  · obtain⟨b,off,c,rfl,hc,hcm,hb,hx⟩:∃ b off c,s=.slice (some ⟨b,off,none⟩) m c∧m≤c∧c≤maxLen∧b < w.heap.size∧∀ j u,news[j]?=some u→w.cell? ⟨b,off + j,none⟩=some u:=by
      rcases hr.2 with ⟨h0,_⟩ | h
      · omega
      · exact h
    have hnews:∀ j u,news[j]?=some u→w.cell? ((⟨b,off,none⟩:Addr).add j)=some u:=by
      intro j u hj
      have hadd:(⟨b,off,none⟩:Addr).add j=⟨b,off + j,none⟩:=by unfold Addr.add; split <;> simp_all
      rw [hadd]; exact hx j u hj
    have fresh:∀ (cap:Nat) (row:Option Nat),
        Own (w.drew.alloc (.cells (xs.toArray ++ news.toArray ++ Builtin.zeroCells z.cells (grownCap w (n + m) cap e - (n + m))) e)) base e size
          (.slice (some ⟨w.heap.size,0,none⟩) (n + m) (grownCap w (n + m) cap e)) (n + m) (xs ++ news) ∧
        w.grownBy (w.drew.alloc (.cells (xs.toArray ++ news.toArray ++ Builtin.zeroCells z.cells (grownCap w (n + m) cap e - (n + m))) e)) row ∧
        ownB (.slice (some ⟨w.heap.size,0,none⟩) (n + m) (grownCap w (n + m) cap e))=some w.heap.size:=by
      intro cap row
      have hlen:(xs ++ news).length=(n + m) * size:=by rw [List.length_append,hown.len,hr.1,Nat.add_mul]
      have hge:=grownCap_ge w (n + m) cap e
      have hcm':grownCap w (n + m) cap e≤maxLen:=grownCap_le_maxLen w (n + m) cap e h63
      refine ⟨.inl ⟨hlen,.inr ⟨w.heap.size,_,_,rfl,hbase,heap_alloc_new w.drew _,hge,hcm',?_,?_⟩⟩,⟨rfl,rfl,rfl,by simp,fun k hk _=>Below.heap_alloc w.drew _ k hk⟩,?_⟩
      · simp only [Array.size_append,List.size_toArray,size_zeroCells,hzs,hown.len,hr.1,← Nat.add_mul]
        congr 1
        omega
      · simp only [Array.toList_append,List.append_assoc]
        rw [← List.append_assoc,← hlen]
        exact List.take_left
      · obtain⟨q,hq⟩:∃ q,grownCap w (n + m) cap e=q + 1:=⟨grownCap w (n + m) cap e - 1,by omega⟩
        rw [hq]; rfl
    have hfit0:∀ cap,cap < n + m→Builtin.nextslicecap (n + m) cap * i.bytes≤281474976710656:=fun cap hc=>growslice_fits hc (by rw [hby]; exact hbytes)
    have h63':((n + m:Nat):Int)≤9223372036854775807:=by simp only [maxLen] at h63; omega
    have zcap:n=0→xs=[]→∀ A,v=.slice A 0 0→∃ v' w',(Builtin.append_ #[t,t] ty #[v,.slice (some ⟨b,off,none⟩) m c]).run P w=.ok v' w'∧Own w' base e size v' (n + m) (xs ++ news)∧w.grownBy w' (ownB v) ∧
      (ownB v'=ownB v ∨ ownB v'=some w.heap.size):=by
      rintro hn0 hxs A rfl
      subst hn0
      subst hxs
      obtain⟨f1,f2,f3⟩:=fresh 0 (ownB (.slice A 0 0))
      have hl':news.length=m * i.size:=by rw [hsize]; exact hr.1
      cases A with
      | none =>
        have hrun:=run_append_nil (P:=P) w t ty e i z ht hi hz ⟨b,off,none⟩ m c news hl' hnews hm (by simpa using h63') (by rw [hby]; simp at hbytes; omega)
        simp only [Nat.zero_add,List.nil_append,Array.empty_append] at f1 f2 f3 ⊢
        exact⟨_,_,hrun,f1,f2,.inr f3⟩
      | some a =>
        have hrun:=run_append_grow (P:=P) w t ty e i z ht hi hz a 0 0 [] (by simp) (by simp) ⟨b,off,none⟩ m c news hl' hnews (by omega) h63' (hfit0 0 (by omega))
        exact⟨_,_,hrun,f1,f2,.inr f3⟩
    rcases hown with ⟨h1',⟨rfl,rfl⟩ | ⟨g,cap,cur,rfl,hbg,hg,hn,hm',hs,ht'⟩⟩ | ⟨h0,hxs,A,hv⟩
    · exact zcap rfl (List.eq_nil_of_length_eq_zero (by simpa using h1')) none rfl
    · rcases Nat.eq_zero_or_pos cap with rfl | hcap
      · have h0:n=0:=by omega
        subst h0
        exact zcap rfl (List.eq_nil_of_length_eq_zero (by simpa using h1')) _ rfl
      · have hown':w.ownsRow base e size (.slice (some ⟨g,0,none⟩) n cap) n xs:=⟨h1',.inr ⟨g,cap,cur,rfl,hbg,hg,hn,hm',hs,ht'⟩⟩
        obtain⟨q,rfl⟩:∃ q,cap=q + 1:=⟨cap - 1,by omega⟩
        obtain⟨v',w',hrun,h2,h3,_,h5⟩:=run_append_own_at (P:=P) w base t ty e i z size bytes ht hi hz hsize hby hzs hsz _ n xs hown' ⟨b,off,none⟩ m c news hr.1 hnews h1 h63 hbytes hbase
        refine ⟨v',w',hrun,.inl h2,h3,?_⟩
        have hq:ownB v'=v'.ownBlock:=by
          rcases h2.2 with ⟨_,h0⟩ | ⟨g',cap',cur',rfl,_,_,hn',_⟩
          · omega
          · obtain⟨r,rfl⟩:∃ r,cap'=r + 1:=⟨cap' - 1,by omega⟩
            rfl
        rw [hq]
        exact h5
    · exact zcap h0 hxs A hv
def ElemT (P:Program) (t e:TypeId) (z:Value) (size bytes:Nat):Prop :=
  P.underlying t=some (.slice e)∧(P.info? e).map (fun i=>(i.zero,i.size,i.bytes))=some (some z,size,bytes)∧z.cells.size=size∧0 < size
theorem run_append_e {t e:TypeId} {z:Value} {size bytes:Nat} (hE:ElemT P t e z size bytes) (ty base:Nat)
    (v:Value) (n:Nat) (xs:List Value) (hown:Own w base e size v n xs)
    (s:Value) (m:Nat) (news:List Value) (hr:RowAt w size s m news) (h1:∀ u ∈ news,u.oneCell'=true)
    (hbytes:(n + m) * bytes≤140737488355328) (h63:n + m≤maxLen) (hbase:base≤w.heap.size) :
    ∃ v' w',(Builtin.append_ #[t,t] ty #[v,s]).run P w=.ok v' w'∧Own w' base e size v' (n + m) (xs ++ news)∧w.grownBy w' (ownB v) ∧
      (ownB v'=ownB v ∨ ownB v'=some w.heap.size):=by
  obtain⟨ht,hinfo,hzs,hsz⟩:=hE
  obtain⟨i,hi,hz,hsize,hby⟩:=info_parts hinfo
  exact run_append_row w base t ty e i z size bytes ht hi hz hsize hby hzs hsz v n xs hown s m news hr h1 h63 hbytes hbase
theorem wp_append_row {o:Oper} {a:Act} {K:Act→World→Prop} {Q:Exit→Act→World→Prop} (s x:Operand) {t e:TypeId} {z:Value} {size bytes:Nat} (hE:ElemT P t e z size bytes)
    (ho:o.op=.call { callee:=.builtin .append,args:=#[s,x],argTypes:=#[t,t] })
    (base:Nat) (v:Value) (n:Nat) (xs:List Value) (hs:a.eval s=v) (hown:Own w base e size v n xs)
    (sv:Value) (m:Nat) (news:List Value) (hx:a.eval x=sv) (hr:RowAt w size sv m news) (h1:∀ u ∈ news,u.oneCell'=true)
    (hbytes:(n + m) * bytes≤140737488355328) (h63:n + m≤maxLen) (hbase:base≤w.heap.size)
    (h:∀ v' w',Own w' base e size v' (n + m) (xs ++ news)→w.grownBy w' (ownB v)→(ownB v'=ownB v ∨ ownB v'=some w.heap.size)→K (a.put o.dst v') w'):o.wp P a w K Q:=by
  obtain⟨v',w',hrun,h2,h3,h4⟩:=run_append_e (P:=P) w hE o.type base v n xs hown sv m news hr h1 hbytes h63 hbase
  unfold Oper.wp execOp
  simp only [ho,resolve,invoke,builtin,Sem.run_bind,Sem.run_pure,Result.andThen_ok,List.map_toArray,List.map_cons,List.map_nil,hs,hx,hrun]
  exact h v' w' h2 h3 h4
theorem wpList_append_row {ops:Array Oper} {rest:List Oper} {o:Oper} {a:Act} {Q:Exit→Act→World→Prop} (hgd:o.guard=none) (s x:Operand) {t e:TypeId} {z:Value} {size bytes:Nat} (hE:ElemT P t e z size bytes)
    (ho:o.op=.call { callee:=.builtin .append,args:=#[s,x],argTypes:=#[t,t] })
    (base:Nat) (v:Value) (n:Nat) (xs:List Value) (hs:a.eval s=v) (hown:Own w base e size v n xs)
    (sv:Value) (m:Nat) (news:List Value) (hx:a.eval x=sv) (hr:RowAt w size sv m news) (h1:∀ u ∈ news,u.oneCell'=true)
    (hbytes:(n + m) * bytes≤140737488355328) (h63:n + m≤maxLen) (hbase:base≤w.heap.size)
    (h:∀ v' w',Own w' base e size v' (n + m) (xs ++ news)→w.grownBy w' (ownB v)→(ownB v'=ownB v ∨ ownB v'=some w.heap.size)→wpList P ops Q rest (a.put o.dst v') w'):wpList P ops Q (o :: rest) a w :=
  wpList_plain hgd fun _ hK=>wp_append_row w s x hE ho base v n xs hs hown sv m news hx hr h1 hbytes h63 hbase fun v' w' h2 h3 h4=>hK _ _ (h v' w' h2 h3 h4)
end
theorem hide {p:Prop} (h:p):Hid p:=h
namespace RowAt
variable {F:Nat→Prop} {w w':World} {size n:Nat} {v:Value} {xs:List Value}
theorem fresh (w:World) (t:TypeId) (cs:List Value) (n c:Nat) (hl:cs.length=n * size) (hn:n≤c) (hc:c≤maxLen):RowAt (w.alloc (.cells cs.toArray t)) size (.slice (some ⟨w.heap.size,0,none⟩) n c) n cs:=by
  refine ⟨hl,.inr ⟨_,0,c,rfl,hn,hc,by simp,fun j u hj=>?_⟩⟩
  rw [Nat.zero_add,(Blk.new w t cs).cell j,hj]
end RowAt
section
variable {P:Program} {md:Region.Mode} {ops:Array Oper} {Q:Exit→Act→World→Prop} {S:World→Prop} {e:Nat}
def wpJ (P:Program) (md:Region.Mode) (ops:Array Oper) (Q:Exit→Act→World→Prop) (S:World→Prop) (e:Nat):Nat→Array Bool→Act→World→Prop
  | 0,l,a,w=>Region.ready md ops l=[]∧Q .normal a w
  | n + 1,l,a,w=>(Region.ready md ops l=[]→Q .normal a w) ∧
      ∀ i ∈ Region.ready md ops l,wpOp P ops Q i (fun a' w'=>(i=e ∨ S w')∧wpJ P md ops Q S e n (l.setIfInBounds i true) a' w') a w
theorem wpAny_of_J:∀ (n:Nat) (l:Array Bool) (a:Act) (w:World),wpJ P md ops Q S e n l a w→wpAny P md ops Q n l a w
  | 0,_,_,_,h=>h
  | n + 1,_,_,_,h=>⟨h.1,fun i hi=>wpOp_mono (fun a' w' h'=>wpAny_of_J n _ a' w' h'.2) (h.2 i hi)⟩
theorem wpJ_first {i:Nat} {oi:Oper} {v:Value} (hi:ops[i]?=some oi) (hsel:∀ (j:Nat) (o:Oper) cs b,ops[j]?=some o→o.op ≠ .select cs b)
    (hQ:∀ c a w,Q (.panic c) (a.put oi.dst v) w→Q (.panic c) a w)
    (hlast:∀ oe,ops[e]?=some oe→∃ ed ∈ oe.after,Region.binds md ed=true∧ed.on=i) :
    ∀ (n:Nat) (l:Array Bool) (a:Act) (w:World),
      (∀ j oj,ops[j]?=some oj→j ≠ i→l.getD j true=false→(∀ ed ∈ oj.after,Region.binds md ed=true→ed.on ≠ i)→oi.apart ops oj=true) →
      i ∈ Region.ready md ops l→YieldsIf P ops S oi v a→S w →
      wpJ P md ops Q S e n (l.setIfInBounds i true) (a.put oi.dst v) w→wpJ P md ops Q S e (n + 1) l a w:=by
  intro n
  induction n with
  | zero =>
    intro l a w _ hr hy hS H
    refine ⟨fun h=>(by rw [h] at hr; cases hr),fun j hj=>?_⟩
    rcases Nat.decEq j i with hji | rfl
    · have:=ready_mono hj hji
      rw [H.1] at this
      cases this
    · exact hy.wpOp hi hS ⟨.inr hS,H⟩
  | succ n ih =>
    intro l a w hfree hr hy hS H
    refine ⟨fun h=>(by rw [h] at hr; cases hr),fun j hj=>?_⟩
    rcases Nat.decEq j i with hji | rfl
    · have h1:=H.2 j (ready_mono hj hji)
      obtain⟨hjun,oj,hoj,hall⟩:=mem_ready.1 hj
      have hnot:∀ ed ∈ oj.after,Region.binds md ed=true→ed.on ≠ i:=fun ed he hb heq=>by
        have g1:=hall ed he hb
        have g0:=(mem_ready.1 hr).1
        rw [heq] at g1
        rcases Nat.lt_or_ge i l.size with hs | hs
        · simp [hs] at g0 g1
          rw [g0] at g1
          cases g1
        · simp [Array.getElem?_eq_none hs] at g1
      have hje:j ≠ e:=by
        rintro rfl
        obtain⟨ed,hed,hb,hon⟩:=hlast oj hoj
        exact hnot ed hed hb hon
      have h2:=wpOp_putIf hoj (hfree j oj hoj hji hjun hnot) (fun cs b=>hsel i oi cs b hi) (fun cs b=>hsel j oj cs b hoj) hQ hy h1
      have hr':i ∈ Region.ready md ops (l.setIfInBounds j true):=ready_mono hr (Ne.symm hji)
      have hfree':∀ k ok,ops[k]?=some ok→k ≠ i→(l.setIfInBounds j true).getD k true=false →
          (∀ ed ∈ ok.after,Region.binds md ed=true→ed.on ≠ i)→oi.apart ops ok=true:=fun k ok hk hki hun hno=>by
        refine hfree k ok hk hki ?_ hno
        by_cases hjk:j=k
        · subst hjk; exact hjun
        · rw [getD_set_ne true hjk] at hun; exact hun
      refine wpOp_mono (fun a' w' h3=>?_) h2
      obtain⟨hy',hS',h4⟩:=h3
      have hSw:=hS'.resolve_left hje
      refine ⟨.inr hSw,ih (l.setIfInBounds j true) a' w' hfree' hr' hy' hSw ?_⟩
      rw [Array.setIfInBounds_comm _ _ hji]
      exact h4
    · exact hy.wpOp hi hS ⟨.inr hS,H⟩
section
variable {a:Act} {o:Oper}
theorem y_move {x:Operand} {v:Value} (ho:o.op=.move x) (hx:a.eval x=v):∀ w,S w→(execOp a.eval o).run P w=.ok (.value v) w:=by
  intro w _; simp [execOp,ho,hx]
theorem y_assign {x:Operand} {v:Value} (ho:o.op=.assign x) (hx:a.eval x=v):∀ w,S w→(execOp a.eval o).run P w=.ok (.value v) w:=by
  intro w _; simp [execOp,ho,hx]
theorem y_field {s:TypeId} {x:Operand} {f:Nat} {p p':Addr} (ho:o.op=.fieldAddr s x f) (hx:a.eval x=.pointer (some p))
    (hf:∀ w,(Instr.fieldAt s (.pointer (some p)) f).run P w=.ok (.pointer (some p')) w):∀ w,S w→(execOp a.eval o).run P w=.ok (.value (.pointer (some p'))) w:=by
  intro w _; simp [execOp,ho,hx,hf]
theorem y_max {x y:Operand} {ats:Array TypeId} {k k':IntKind} {m n:Int} {v:Value} (ho:o.op=.call { callee:=.builtin .max,args:=#[x,y],argTypes:=ats }) (hx:a.eval x=.int k m) (hy:a.eval y=.int k' n)
    (hv:.int k (if n > m then n else m)=v):∀ w,S w→(execOp a.eval o).run P w=.ok (.value v) w:=by
  intro w _; subst hv; simp [execOp,ho,resolve,invoke,builtin,hx,hy,Builtin.max_,Builtin.max2]
theorem y_min {x y:Operand} {ats:Array TypeId} {k k':IntKind} {m n:Int} {v:Value} (ho:o.op=.call { callee:=.builtin .min,args:=#[x,y],argTypes:=ats }) (hx:a.eval x=.int k m) (hy:a.eval y=.int k' n)
    (hv:.int k (if n < m then n else m)=v):∀ w,S w→(execOp a.eval o).run P w=.ok (.value v) w:=by
  intro w _; subst hv; simp [execOp,ho,resolve,invoke,builtin,hx,hy,Builtin.min_,Builtin.min2]
theorem y_bin {op:BinOp} {t t':TypeId} {x y:Operand} {k:IntKind} {m n:Int} {v:Value} (ho:o.op=.binOp op t x y t') (hx:a.eval x=.int k m) (hy:a.eval y=.int k n)
    (hr:∀ w,(binOp op t (.int k m) (.int k n)).run P w=.ok v w):∀ w,S w→(execOp a.eval o).run P w=.ok (.value v) w:=by
  intro w _; simp [execOp,ho,hx,hy,eqGuard,hr]
theorem r_add {t:TypeId} {x y r:Int} (h:x + y=r) (hr:-9223372036854775808≤r∧r≤9223372036854775807):∀ w,(binOp .add t (.int .i64 x) (.int .i64 y)).run P w=.ok (.int .i64 r) w:=by
  intro w; simp [binOp,Op.intArith,h,IntWalk.i64_in r hr]
theorem r_sub {t:TypeId} {x y r:Int} (h:x - y=r) (hr:-9223372036854775808≤r∧r≤9223372036854775807):∀ w,(binOp .sub t (.int .i64 x) (.int .i64 y)).run P w=.ok (.int .i64 r) w:=by
  intro w; simp [binOp,Op.intArith,h,IntWalk.i64_in r hr]
theorem a_call {f:FuncId} {xs:Array Operand} {ats:Array TypeId} {args:Array Value} {K:Act→World→Prop} {w:World} {R:Ending→World→Prop} (ho:o.op=.call { callee:=.value (.func f),args:=xs,argTypes:=ats })
    (hx0:xs.toList.map a.eval=args.toList) (hcf:∀ w,(callFunc f args).run P w=.ok (.enter f args) w) (hc:Calls P f args w R) (h:∀ e w',R e w'→∃ v,e=.returned v∧K (a.put o.dst v) w'):o.wp P a w K Q:=by
  have hx:xs.map a.eval=args:=by apply Array.ext'; rw [Array.toList_map]; exact hx0
  have hrun:(execOp a.eval o).run P w=.ok (.enter f args) w:=by
    simp [execOp,ho,resolve,invoke,hx,Act.eval,Deferred.ofValue,hcf]
  unfold Oper.wp
  rw [hrun]
  refine hc.mono fun e w' he=>?_
  obtain⟨v,rfl,hk⟩:=h e w' he
  exact hk
end
end
section
variable {P:Program} {ops:Array Oper} {S:World→Prop} {Q:Exit→Act→World→Prop} {e:Nat}
def chkM (md:Region.Mode) (ops:Array Oper):List (Nat × Bool)→Array Bool→Bool
  | [],l=>Region.ready md ops l == []
  | (i,true) :: r,l=>Region.free md ops l i && (Region.ready md ops l).contains i && chkM md ops r (l.setIfInBounds i true)
  | (j,false) :: r,l=>Region.ready md ops l == [j] && chkM md ops r (l.setIfInBounds j true)
def stepsTo (P:Program) (ops:Array Oper) (S:World→Prop) (Q:Exit→Act→World→Prop):List (Nat × Bool)→Act→World→Prop
  | [],a,w=>Q .normal a w
  | (i,true) :: r,a,w=>∃ o v,ops[i]?=some o∧YieldsIf P ops S o v a∧stepsTo P ops S Q r (a.put o.dst v) w
  | (j,false) :: r,a,w=>wpOp P ops Q j (fun a' w'=>S w'∧stepsTo P ops S Q r a' w') a w
theorem wpJ_steps {md:Region.Mode} (hs:Region.noSelect ops=true) (h1000:ops.size < 1000) (hQ:∀ c a d v w,Q (.panic c) (a.put d v) w→Q (.panic c) a w) :
    ∀ (R:List (Nat × Bool)) (l:Array Bool) (a:Act) (w:World),chkM md ops R l=true→S w→stepsTo P ops S Q R a w→wpJ P md ops Q S 1000 R.length l a w
  | [],l,a,w,hc,_,h=>⟨by simpa [chkM] using hc,h⟩
  | (i,true) :: r,l,a,w,hc,hS,h=>by
    obtain⟨o,v,hi,hy,h'⟩:=h
    simp only [chkM,Bool.and_eq_true] at hc
    obtain⟨⟨hf,hrd⟩,hc'⟩:=hc
    rw [List.length_cons]
    refine wpJ_first hi (Region.noSelect_spec hs) (fun c a w=>hQ c a _ _ w) ?_ _ l a w (Region.free_spec hi hf) (by simpa using hrd) hy hS (wpJ_steps hs h1000 hQ r _ _ w hc' hS h')
    intro oe hoe
    rw [Array.getElem?_eq_none (by omega)] at hoe
    cases hoe
  | (j,false) :: r,l,a,w,hc,hS,h=>by
    simp only [chkM,Bool.and_eq_true,beq_iff_eq] at hc
    refine ⟨fun h0=>(by rw [hc.1] at h0; cases h0),fun i hi=>?_⟩
    rw [hc.1] at hi
    obtain rfl:i=j:=by simpa using hi
    exact wpOp_mono (fun a' w' h'=>⟨.inr h'.1,wpJ_steps hs h1000 hQ r _ a' w' hc.2 h'.1 h'.2⟩) h
theorem st_take {i:Nat} {r:List (Nat × Bool)} {a a':Act} {w:World} {o:Oper} {v:Value} (hi:ops.toList[i]?=some o) (hw:Region.wanted o (yielded ops a.tmps)=true)
    (hy:∀ w,S w→(execOp a.eval o).run P w=.ok (.value v) w) (ha:a.put o.dst v=a') (h:stepsTo P ops S Q r a' w):stepsTo P ops S Q ((i,true) :: r) a w :=
  ⟨o,v,by rw [← Array.getElem?_toList]; exact hi,.inl ⟨hw,hy⟩,by rw [ha]; exact h⟩
theorem st_act {j:Nat} {r:List (Nat × Bool)} {a:Act} {w:World} {o:Oper} (hi0:ops.toList[j]?=some o) (hw:Region.wanted o (yielded ops a.tmps)=true)
    (h:∀ K:Act→World→Prop,(∀ a' w',S w'→stepsTo P ops S Q r a' w'→K a' w')→o.wp P a w K Q):stepsTo P ops S Q ((j,false) :: r) a w:=by
  have hi:ops[j]?=some o:=by rw [← Array.getElem?_toList]; exact hi0
  unfold stepsTo wpOp
  simp only [hi,hw,if_true]
  exact .inl (h _ fun _ _ h1 h2=>⟨h1,h2⟩)
theorem st_nil {a:Act} {w:World} (h:Q .normal a w):stepsTo P ops S Q [] a w:=h
theorem y_notb {a:Act} {o:Oper} {t:TypeId} {x:Operand} {b:Bool} (ho:o.op=.unOp .not t x) (hx:a.eval x=.bool b) :
    ∀ w,S w→(execOp a.eval o).run P w=.ok (.value (.bool (!b))) w:=by
  intro w _
  simp [execOp,ho,hx,Op.unary,asBool]
theorem y_extract {a:Act} {o:Oper} {x:Operand} {k:Nat} {vs:Array Value} {v:Value} (ho:o.op=.extract x k) (hx:a.eval x=.tuple vs) (hv:vs[k]?=some v) :
    ∀ w,S w→(execOp a.eval o).run P w=.ok (.value v) w:=by
  intro w _
  simp [execOp,ho,hx,Instr.extract,hv]
theorem y_pick {a:Act} {o:Oper} {c x y:Operand} {b:Bool} {v:Value} (ho:o.op=.pick c x y) (hc:a.eval c=.bool b) (hv:(if b then a.eval x else a.eval y)=v) :
    ∀ w,S w→(execOp a.eval o).run P w=.ok (.value v) w:=by
  intro w _
  subst hv
  cases b <;> simp [execOp,ho,hc,asBool]
end
section
variable {P:Program} {ops:Array Oper} {Q:Exit→Act→World→Prop}
theorem put_size (a:Act) (d:Option Tmp) (v:Value):(a.put d v).tmps.size=a.tmps.size:=by cases d <;> simp [Act.put]
theorem put_defers (a:Act) (d:Option Tmp) (v:Value):(a.put d v).defers=a.defers:=by cases d <;> rfl
theorem put_same (a:Act) (d:Nat) (v:Value) (h:d < a.tmps.size):(a.put (some d) v).eval (.tmp d)=v:=by simp [Act.put,Act.eval,Array.getD,h]
theorem put_ne (a:Act) (d j:Nat) (v:Value) (h:d ≠ j):(a.put (some d) v).eval (.tmp j)=a.eval (.tmp j):=by simp [Act.put,Act.eval,Array.getElem?_setIfInBounds_ne h]
def cntU (F l:Array Bool):Nat→Nat
  | 0=>0
  | n + 1=>cntU F l n + if F.getD n false && !l.getD n false then 1 else 0
theorem cntU_far (F l:Array Bool) {i n:Nat} (h:n≤i):cntU F (l.setIfInBounds i true) n=cntU F l n:=by
  induction n with
  | zero=>rfl
  | succ n ih=>rw [cntU,cntU,ih (by omega),getD_set_ne false (by omega)]
theorem cntU_set (F l:Array Bool) {i n:Nat} (h:i < n) (hF:F.getD i false=true) (hl:l.getD i false=false) (hs:i < l.size):cntU F (l.setIfInBounds i true) n + 1=cntU F l n:=by
  induction n with
  | zero=>omega
  | succ n ih =>
    rw [cntU,cntU]
    by_cases hin:i=n
    · subst hin
      rw [cntU_far F l (Nat.le_refl _),hF,hl]
      simp [hs]
    · rw [getD_set_ne false (by omega),← ih (by omega)]
      omega
theorem cntU_zero (F l:Array Bool) {n:Nat} (h:cntU F l n=0):∀ i,i < n→F.getD i false=true→l.getD i false=true:=by
  induction n with
  | zero=>intro i hi; omega
  | succ n ih =>
    rw [cntU] at h
    intro i hi hF
    by_cases hin:i=n
    · subst hin
      cases hb:l.getD i false with
      | true=>rfl
      | false=>rw [hF,hb] at h; simp at h
    · exact ih (by omega) i (by omega) hF
def inUp (ops:Array Oper):Nat→Nat→Nat→Bool
  | 0,_,_=>false
  | n + 1,j,f=>match ops[j]? with
    | none=>false
    | some o=>o.after.any fun e=>Region.binds .any e && (e.on == f || inUp ops n e.on f)
def dstsOk (ops:Array Oper) (N:Nat):Bool :=
  (List.range ops.size).all fun i=>match (ops[i]?).bind (·.dst) with
    | none=>true
    | some d=>decide (d < N) && (List.range ops.size).all fun j=>i == j || !((ops[j]?).bind (·.dst) == some d)
def freeAll (ops:Array Oper) (i:Nat):Bool :=
  match ops[i]? with
  | none=>false
  | some oi=>(List.range ops.size).all fun j=>match ops[j]? with
    | none=>true
    | some oj=>j == i || inUp ops 6 i j || oj.after.any (fun e=>Region.binds .any e && e.on == i) || oi.apart ops oj
def invCheck (ops:Array Oper) (F:Array Bool) (E:List Nat) (R:List (Nat × Bool)) (N:Nat):Bool :=
  Region.noSelect ops && (F.size == ops.size) && decide (ops.size < 1000) && (cntU F (Array.replicate ops.size false) ops.size + R.length == ops.size) && dstsOk ops N
    && ((List.range ops.size).all fun i=>match ops[i]? with
      | none=>true
      | some o=>o.after.all fun e=>!Region.binds .any e || (decide (e.on < i) && (!F.getD i false || F.getD e.on false)))
    && ((List.range ops.size).all fun j=>F.getD j false || (List.range ops.size).all fun f=>!F.getD f false || E.contains f || inUp ops 6 j f)
    && (E.all fun i=>F.getD i false && freeAll ops i)
    && chkM .any ops R F
def putAll (F:Array Bool) (vals:Nat→Value):List Oper→Nat→Act→Act
  | [],_,a=>a
  | o :: r,i,a=>putAll F vals r (i + 1) (if F.getD i false then a.put o.dst (vals i) else a)
structure Shape (ops:Array Oper) (a0:Act) (vals:Nat→Value) (l:Array Bool) (a:Act):Prop where
  size:a.tmps.size=a0.tmps.size
  defers:a.defers=a0.defers
  got:∀ i o d,ops[i]?=some o→o.dst=some d→l.getD i false=true→a.tmps.getD d undef=vals i
  rest:∀ d,(∀ i o,ops[i]?=some o→l.getD i false=true→o.dst ≠ some d)→a.tmps.getD d undef=a0.tmps.getD d undef
def upd1 (vals:Nat→Value) (i:Nat) (v:Value):Nat→Value:=fun k=>if k=i then v else vals k
theorem dsts_spec {N:Nat} (h:dstsOk ops N=true) {i:Nat} {o:Oper} {d:Nat} (hi:ops[i]?=some o) (hd:o.dst=some d):d < N∧∀ j oj,ops[j]?=some oj→oj.dst=some d→i=j:=by
  have hlt:i < ops.size:=by rw [Array.getElem?_eq_some_iff] at hi; exact hi.1
  unfold dstsOk at h
  rw [List.all_eq_true] at h
  have h1:=h i (List.mem_range.2 hlt)
  rw [hi] at h1
  simp only [Option.bind_some,hd,Bool.and_eq_true,decide_eq_true_eq,List.all_eq_true] at h1
  refine ⟨h1.1,fun j oj hj hdj=>?_⟩
  have hltj:j < ops.size:=by rw [Array.getElem?_eq_some_iff] at hj; exact hj.1
  have h2:=h1.2 j (List.mem_range.2 hltj)
  rw [hj] at h2
  simp only [Option.bind_some,hdj,beq_self_eq_true,Bool.not_true,Bool.or_false,beq_iff_eq] at h2
  exact h2
theorem Shape.put {a0 a:Act} {vals:Nat→Value} {l:Array Bool} (h:Shape ops a0 vals l a) {N:Nat} (hN:a0.tmps.size=N) (hd:dstsOk ops N=true) {i:Nat} {o:Oper} (hi:ops[i]?=some o) (hl:l.getD i false=false) (hs:i < l.size) (v:Value) :
    Shape ops a0 (upd1 vals i v) (l.setIfInBounds i true) (a.put o.dst v):=by
  have hone:∀ j,(l.setIfInBounds i true).getD j false=if j=i then true else l.getD j false:=fun j=>by
    by_cases hj:j=i
    · subst hj; simp [hs]
    · rw [if_neg hj,getD_set_ne false (fun h=>hj h.symm)]
  refine ⟨by rw [put_size]; exact h.size,by rw [put_defers]; exact h.defers,?_,?_⟩
  · intro j oj d hj hdj hlj
    rw [hone] at hlj
    by_cases hji:j=i
    · subst hji
      obtain rfl:oj=o:=by rw [hi] at hj; cases hj; rfl
      rw [hdj,upd1,if_pos rfl]
      exact put_same a d v (by rw [h.size,hN]; exact (dsts_spec hd hj hdj).1)
    · rw [if_neg hji] at hlj
      rw [upd1,if_neg hji,← h.got j oj d hj hdj hlj]
      cases hdo:o.dst with
      | none=>rfl
      | some d' =>
        exact put_ne a d' d v (fun he=>hji ((dsts_spec hd hj hdj).2 i o hi (by rw [hdo,he])))
  · intro d hno
    have h1:=hno i o hi (by rw [hone,if_pos rfl])
    rw [← h.rest d fun j oj hj hlj=>hno j oj hj (by rw [hone]; split; rfl; exact hlj)]
    cases hdo:o.dst with
    | none=>rfl
    | some d'=>exact put_ne a d' d v (fun he=>h1 (by rw [hdo,he]))
theorem Act.ext_eval {a b:Act} (hs:a.tmps.size=b.tmps.size) (hd:a.defers=b.defers) (h:∀ d,a.tmps.getD d undef=b.tmps.getD d undef):a=b:=by
  cases a with | mk t ds=>cases b with | mk t' ds' =>
    simp only at hs hd h
    subst hd
    congr 1
    apply Array.ext hs
    intro i h1 h2
    have:=h i
    simpa [Array.getD,h1,h2] using this
theorem putAll_size (F:Array Bool) (vals:Nat→Value):∀ (os:List Oper) (k:Nat) (a:Act),(putAll F vals os k a).tmps.size=a.tmps.size
  | [],_,_=>rfl
  | o :: r,k,a=>by
    rw [putAll,putAll_size F vals r]
    split
    · rw [put_size]
    · rfl
theorem putAll_defers (F:Array Bool) (vals:Nat→Value):∀ (os:List Oper) (k:Nat) (a:Act),(putAll F vals os k a).defers=a.defers
  | [],_,_=>rfl
  | o :: r,k,a=>by
    rw [putAll,putAll_defers F vals r]
    split
    · rw [put_defers]
    · rfl
theorem putAll_far (F:Array Bool) (vals:Nat→Value) (d:Nat):∀ (os:List Oper) (k:Nat) (a:Act),(∀ i o,os[i]?=some o→F.getD (k + i) false=true→o.dst ≠ some d)→(putAll F vals os k a).tmps.getD d undef=a.tmps.getD d undef
  | [],_,_,_=>rfl
  | o :: r,k,a,h=>by
    rw [putAll,putAll_far F vals d r (k + 1) _ fun i o' hi hF=>h (i + 1) o' (by simpa using hi) (by rw [← hF]; congr 1; omega)]
    split
    · rename_i hF
      have h0:=h 0 o rfl hF
      cases hdo:o.dst with
      | none=>rfl
      | some d'=>exact put_ne a d' d _ (fun he=>h0 (by rw [hdo,he]))
    · rfl
theorem putAll_got (F:Array Bool) (vals:Nat→Value) (N d:Nat) (hd:d < N):∀ (os:List Oper) (k:Nat) (a:Act),a.tmps.size=N→∀ i o,os[i]?=some o→F.getD (k + i) false=true→o.dst=some d→(∀ j oj,os[j]?=some oj→oj.dst=some d→i=j)→(putAll F vals os k a).tmps.getD d undef=vals (k + i)
  | [],_,_,_,i,o,hi,_,_,_=>by simp at hi
  | x :: r,k,a,hN,0,o,hi,hF,hdo,hone=>by
    obtain rfl:x=o:=by simpa using hi
    rw [putAll,putAll_far F vals d r (k + 1) _ fun j oj hj _ hdj=>by have:=hone (j + 1) oj (by simpa using hj) hdj; omega]
    rw [Nat.add_zero] at hF ⊢
    rw [if_pos hF,hdo]
    exact put_same a d _ (by omega)
  | x :: r,k,a,hN,i + 1,o,hi,hF,hdo,hone=>by
    rw [putAll,putAll_got F vals N d hd r (k + 1) _ (by split <;> first | (rw [put_size]; exact hN) | exact hN) i o (by simpa using hi) (by rw [← hF]; congr 1; omega) hdo fun j oj hj hdj=>by have:=hone (j + 1) oj (by simpa using hj) hdj; omega]
    congr 1
    omega
theorem Shape.all {a0 a:Act} {vals:Nat→Value} {F:Array Bool} (h:Shape ops a0 vals F a) {N:Nat} (hN:a0.tmps.size=N) (hd:dstsOk ops N=true):a=putAll F vals ops.toList 0 a0:=by
  refine Act.ext_eval (by rw [h.size,putAll_size]) (by rw [h.defers,putAll_defers]) fun d=>?_
  by_cases hx:∃ i o,ops[i]?=some o∧F.getD i false=true∧o.dst=some d
  · obtain⟨i,o,hi,hF,hdo⟩:=hx
    rw [h.got i o d hi hdo hF,putAll_got F vals N d (dsts_spec hd hi hdo).1 ops.toList 0 a0 hN i o (by simpa using hi) (by simpa using hF) hdo fun j oj hj hdj=>(dsts_spec hd hi hdo).2 j oj (by simpa using hj) hdj]
    simp
  · rw [h.rest d fun i o hi hF hdo=>hx ⟨i,o,hi,hF,hdo⟩,putAll_far F vals d ops.toList 0 a0 fun i o hi hF hdo=>hx ⟨i,o,by simpa using hi,by simpa using hF,hdo⟩]
theorem inUp_listed {l:Array Bool} (hcl:∀ i o,ops[i]?=some o→l.getD i false=true→∀ e ∈ o.after,Region.binds .any e=true→l.getD e.on false=true) :
    ∀ (n j f:Nat),inUp ops n j f=true→(∀ o,ops[j]?=some o→∀ e ∈ o.after,Region.binds .any e=true→l.getD e.on false=true)→l.getD f false=true
  | 0,_,_,h,_=>by simp [inUp] at h
  | n + 1,j,f,h,hj=>by
    rw [inUp] at h
    split at h
    · cases h
    · rename_i o ho
      rw [Array.any_eq_true] at h
      obtain⟨k,hk,he⟩:=h
      simp only [Bool.and_eq_true,Bool.or_eq_true,beq_iff_eq] at he
      have h1:=hj o ho _ (Array.getElem_mem hk) he.1
      rcases he.2 with he2 | he2
      · rw [he2] at h1; exact h1
      · exact inUp_listed hcl n _ f he2 fun o' ho'=>hcl _ o' ho' h1
theorem freeAll_spec {i:Nat} {oi:Oper} (hi:ops[i]?=some oi) (h:freeAll ops i=true):∀ j oj,ops[j]?=some oj→j ≠ i→inUp ops 6 i j=false→(∀ ed ∈ oj.after,Region.binds .any ed=true→ed.on ≠ i)→oi.apart ops oj=true:=by
  unfold freeAll at h
  rw [hi] at h
  intro j oj hj hji hnu hno
  have hlt:j < ops.size:=by rw [Array.getElem?_eq_some_iff] at hj; exact hj.1
  have h1:=(List.all_eq_true.1 h) j (List.mem_range.2 hlt)
  rw [hj] at h1
  rw [hnu] at h1
  simp only [Bool.or_eq_true,Bool.false_eq_true,or_false,beq_iff_eq] at h1
  rcases h1 with (h1 | h1) | h1
  · exact absurd h1 hji
  · rw [Array.any_eq_true] at h1
    obtain⟨k,hk,he⟩:=h1
    simp only [Bool.and_eq_true,beq_iff_eq] at he
    exact absurd he.2 (hno _ (Array.getElem_mem hk) he.1)
  · exact h1
def afterOf (ops:Array Oper) (i:Nat):List Nat:=match ops[i]? with
  | none=>[]
  | some o=>(o.after.toList.filter fun e=>Region.binds .any e).map (·.on)
def fixedB (ops:Array Oper) (F:Array Bool) (d:Nat):Bool:=(List.range ops.size).all fun k=>!F.getD k false || !((ops[k]?).bind (·.dst) == some d)
structure Known (ops:Array Oper) (F:Array Bool) (T:Nat→Value→World→Prop) (a0:Act) (i:Nat) (a:Act) (w:World):Prop where
  dep:∀ k d,(afterOf ops i).contains k=true→(ops[k]?).bind (·.dst)=some d→T k (a.eval (.tmp d)) w
  fix:∀ d,fixedB ops F d=true→a.eval (.tmp d)=a0.eval (.tmp d)
def StepOk (P:Program) (ops:Array Oper) (Q:Exit→Act→World→Prop) (F:Array Bool) (T:Nat→Value→World→Prop) (a0:Act) (w0:World) (i:Nat):Prop :=
  ∃ o,ops.toList[i]?=some o∧∀ a w,New w0 w→Known ops F T a0 i a w→wpOp P ops Q i (fun a' w'=>∃ v,a'=a.put o.dst v∧New w w'∧T i v w') a w
def NewPtr (v:Value) (w:World):Prop:=∃ q,v=.pointer (some ⟨q,0,none⟩)∧w.heap.size≤q
def OldPtr (v:Value) (w:World):Prop:=∃ q,v=.pointer (some ⟨q,0,none⟩)∧q < w.heap.size
def StepOkN (P:Program) (ops:Array Oper) (Q:Exit→Act→World→Prop) (F:Array Bool) (T:Nat→Value→World→Prop) (a0:Act) (w0:World) (i:Nat):Prop :=
  ∃ o,ops.toList[i]?=some o∧∀ a w,New w0 w→Known ops F T a0 i a w→wpOp P ops Q i (fun a' w'=>∃ v,a'=a.put o.dst v∧New w w'∧T i v w'∧NewPtr v w) a w
def StepG (P:Program) (ops:Array Oper) (Q:Exit→Act→World→Prop) (F:Array Bool) (T:Nat→Value→World→Prop) (a0:Act) (w0:World) (news:List Nat) (i:Nat):Prop :=
  (news.contains i=false∧StepOk P ops Q F T a0 w0 i) ∨ StepOkN P ops Q F T a0 w0 i
def EagerOk (P:Program) (ops:Array Oper) (F:Array Bool) (T:Nat→Value→World→Prop) (a0:Act) (w0:World) (i:Nat):Prop :=
  ∃ o,ops.toList[i]?=some o∧∀ a w,New w0 w→Known ops F T a0 i a w→∃ v,YieldsIf P ops (fun _=>True) o v a∧T i v w
theorem wpJ_inv {a0:Act} {w0:World} {F:Array Bool} {E:List Nat} {R:List (Nat × Bool)} {N:Nat} (T:Nat→Value→World→Prop) (news:List Nat) (hEN:∀ i,E.contains i=true→news.contains i=false) (hold:∀ j,news.contains j=true→∀ v w,T j v w→OldPtr v w) (hc:invCheck ops F E R N=true) (hN:a0.tmps.size=N)
    (hQ:∀ c a d v w,Q (.panic c) (a.put d v) w→Q (.panic c) a w)
    (hT:∀ i v w w',New w w'→T i v w→T i v w')
    (hstep:∀ i,F.getD i false=true→E.contains i=false→StepG P ops Q F T a0 w0 news i) (heager:∀ i,E.contains i=true→EagerOk P ops F T a0 w0 i)
    (hend:∀ vals w,New w0 w→(∀ i,F.getD i false=true→T i (vals i) w)→(∀ i j,F.getD i false=true→F.getD j false=true→news.contains i=true→news.contains j=true→i ≠ j→vals i ≠ vals j)→stepsTo P ops (fun _=>True) Q R (putAll F vals ops.toList 0 a0) w) :
    ∀ (n:Nat) (l:Array Bool) (vals:Nat→Value) (a:Act) (w:World),cntU F l ops.size=n→l.size=ops.size→(∀ i,l.getD i false=true→F.getD i false=true) →
      (∀ i o,ops[i]?=some o→l.getD i false=true→∀ e ∈ o.after,Region.binds .any e=true→l.getD e.on false=true) →
      Shape ops a0 vals l a→New w0 w→(∀ i,l.getD i false=true→T i (vals i) w) →
      (∀ i j,l.getD i false=true→l.getD j false=true→news.contains i=true→news.contains j=true→i ≠ j→vals i ≠ vals j)→wpJ P .any ops Q (fun _=>True) 1000 (n + R.length) l a w:=by
  have hc0:=hc
  simp only [invCheck,Bool.and_eq_true,beq_iff_eq,decide_eq_true_eq] at hc
  obtain⟨⟨⟨⟨⟨⟨⟨⟨hsel,hFs⟩,h1000⟩,hcnt⟩,hdst⟩,hlow⟩,hup⟩,hE⟩,hM⟩:=hc
  rw [List.all_eq_true] at hE
  have hEF:∀ i,E.contains i=true→F.getD i false=true∧freeAll ops i=true:=fun i hi=>by
    have:=hE i (by simpa using hi)
    simpa using this
  intro n
  induction n with
  | zero =>
    intro l vals a w hn hls hlF hcl hsh hw hTl hD
    obtain rfl:l=F:=by
      apply Array.ext (by rw [hls,hFs])
      intro i h1 h2
      have e1:l.getD i false=l[i]:=by simp [Array.getD,h1]
      have e2:F.getD i false=F[i]:=by simp [Array.getD,h2]
      rw [← e1,← e2]
      cases hb:F.getD i false with
      | true=>exact cntU_zero F l hn i (by omega) hb
      | false=>cases hb2:l.getD i false with
        | false=>rfl
        | true=>rw [hlF i hb2] at hb; cases hb
    rw [Nat.zero_add,hsh.all hN hdst]
    exact wpJ_steps hsel h1000 hQ R _ _ w hM trivial (hend vals w hw hTl hD)
  | succ n ih =>
    intro l vals a w hn hls hlF hcl hsh hw hTl hD
    have hknown:∀ i o,ops[i]?=some o→(∀ e ∈ o.after,Region.binds .any e=true→l.getD e.on false=true)→Known ops F T a0 i a w:=by
      intro i o ho hall
      refine ⟨fun k d hk hd=>?_,fun d hd=>?_⟩
      · have hmem:∃ e ∈ o.after,Region.binds .any e=true∧e.on=k:=by
          unfold afterOf at hk
          rw [ho] at hk
          simp only [List.contains_eq_mem,List.mem_map,List.mem_filter,Array.mem_toList_iff,decide_eq_true_eq] at hk
          obtain⟨e,⟨h1,h2⟩,h3⟩:=hk
          exact⟨e,h1,h2,h3⟩
        obtain⟨e,he,hb,rfl⟩:=hmem
        have hle:=hall e he hb
        cases hok:ops[e.on]? with
        | none=>rw [hok] at hd; simp at hd
        | some ok =>
          rw [hok] at hd
          have:=hsh.got e.on ok d hok (by simpa using hd) hle
          show T e.on (a.tmps.getD d undef) w
          rw [this]
          exact hTl e.on hle
      · refine hsh.rest d fun k ok hk hlk hdk=>?_
        unfold fixedB at hd
        have hlt:k < ops.size:=by rw [Array.getElem?_eq_some_iff] at hk; exact hk.1
        have:=(List.all_eq_true.1 hd) k (List.mem_range.2 hlt)
        rw [hlF k hlk,hk] at this
        simp [hdk] at this
    have hgo:∀ i o,ops[i]?=some o→F.getD i false=true→l.getD i false=false→(∀ e ∈ o.after,Region.binds .any e=true→l.getD e.on false=true) →
        ∀ v w',New w w'→T i v w'→(news.contains i=true→NewPtr v w)→wpJ P .any ops Q (fun _=>True) 1000 (n + R.length) (l.setIfInBounds i true) (a.put o.dst v) w':=by
      intro i o ho hF hl0 hall v w' hnw hTv hNv
      have hlt:i < ops.size:=by rw [Array.getElem?_eq_some_iff] at ho; exact ho.1
      refine ih (l.setIfInBounds i true) (upd1 vals i v) _ w' ?_ (by simpa using hls) ?_ ?_ (hsh.put hN hdst ho hl0 (by omega) v) (hw.transNew hnw) ?_ ?_
      · have:=cntU_set F l hlt hF hl0 (by omega); omega
      · intro j hj
        by_cases hji:j=i
        · rw [hji]; exact hF
        · rw [getD_set_ne false (fun h=>hji h.symm)] at hj; exact hlF j hj
      · intro j oj hoj hj e he hb
        by_cases hji:j=i
        · subst hji
          rw [ho] at hoj; cases hoj
          exact getD_set_true (hall e he hb)
        · rw [getD_set_ne false (fun h=>hji h.symm)] at hj
          exact getD_set_true (hcl j oj hoj hj e he hb)
      · intro j hj
        unfold upd1
        by_cases hji:j=i
        · rw [if_pos hji,hji]; exact hTv
        · rw [if_neg hji]
          rw [getD_set_ne false (fun h=>hji h.symm)] at hj
          exact hT j _ _ _ hnw (hTl j hj)
      · have hne:∀ j,j ≠ i→(l.setIfInBounds i true).getD j false=true→news.contains i=true→news.contains j=true→v ≠ vals j:=by
          intro j hji hj hni hnj
          rw [getD_set_ne false (fun h=>hji h.symm)] at hj
          obtain⟨q,rfl,hq⟩:=hNv hni
          obtain⟨q',hq',hlt'⟩:=hold j hnj _ _ (hTl j hj)
          rw [hq']
          intro he
          injection he with he
          injection he with he
          injection he with he _ _
          omega
        intro j k hj hk hnj hnk hjk
        unfold upd1
        by_cases hji:j=i
        · subst hji
          rw [if_pos rfl,if_neg (fun h=>hjk h.symm)]
          exact hne k (fun h=>hjk h.symm) hk hnj hnk
        · rw [if_neg hji]
          by_cases hki:k=i
          · subst hki
            rw [if_pos rfl]
            exact fun h=>hne j hji hj hnk hnj h.symm
          · rw [if_neg hki]
            rw [getD_set_ne false (fun h=>hji h.symm)] at hj
            rw [getD_set_ne false (fun h=>hki h.symm)] at hk
            exact hD j k hj hk hnj hnk hjk
    have hrdy:∀ i o,ops[i]?=some o→l.getD i false=false→(∀ e ∈ o.after,Region.binds .any e=true→l.getD e.on false=true)→i ∈ Region.ready .any ops l:=by
      intro i o ho hl0 hall
      have hlt:i < l.size:=by rw [Array.getElem?_eq_some_iff] at ho; obtain⟨h,_⟩:=ho; omega
      refine mem_ready.2 ⟨?_,o,ho,hall⟩
      simp [Array.getD,hlt] at hl0 ⊢
      exact hl0
    rw [Nat.succ_add]
    by_cases heag:∃ i o,E.contains i=true∧ops[i]?=some o∧l.getD i false=false∧∀ e ∈ o.after,Region.binds .any e=true→l.getD e.on false=true
    · obtain⟨i,o,hEi,ho,hl0,hall⟩:=heag
      obtain⟨o',ho',hy⟩:=heager i hEi
      obtain rfl:o=o':=by rw [Array.getElem?_toList,ho] at ho'; cases ho'; rfl
      obtain⟨v,hyv,hTv⟩:=hy a w hw (hknown i o ho hall)
      refine wpJ_first ho (Region.noSelect_spec hsel) (fun c a w=>hQ c a _ _ w) ?_ _ l a w (fun j oj hj hji hun hno=>freeAll_spec ho (hEF i hEi).2 j oj hj hji (by
        cases hu:inUp ops 6 i j with
        | false=>rfl
        | true =>
          have h4:=inUp_listed hcl 6 i j hu fun o' ho'=>by rw [ho] at ho'; cases ho'; exact hall
          have hlt:j < l.size:=by rw [Array.getElem?_eq_some_iff] at hj; obtain⟨h,_⟩:=hj; omega
          simp [Array.getD,hlt] at hun h4
          rw [h4] at hun
          cases hun) hno) (hrdy i o ho hl0 hall) hyv trivial (hgo i o ho (hEF i hEi).1 hl0 hall v w (Upd.refl _ _) hTv (fun h=>by rw [hEN i hEi] at h; cases h))
      intro oe hoe
      rw [Array.getElem?_eq_none (by omega)] at hoe
      cases hoe
    · have hfull:(∀ i,i < ops.size→F.getD i false=true→l.getD i false=true)→False:=by
        intro hall
        have hz:∀ m,m≤ops.size→cntU F l m=0:=by
          intro m
          induction m with
          | zero=>intro _; rfl
          | succ m ihm =>
            intro hm
            rw [cntU,ihm (by omega)]
            cases hFm:F.getD m false with
            | false=>simp
            | true=>rw [hall m (by omega) hFm]; simp
        rw [hz _ (Nat.le_refl _)] at hn
        omega
      have hlowest:(∀ i o,ops[i]?=some o→F.getD i false=true→l.getD i false=false→(∀ e ∈ o.after,Region.binds .any e=true→l.getD e.on false=true)→False)→False:=by
        intro hno
        refine hfull ?_
        have:∀ m i,i < m→i < ops.size→F.getD i false=true→l.getD i false=true:=by
          intro m
          induction m with
          | zero=>intro i hi; omega
          | succ m ihm =>
            intro i hi hlt hF
            cases hb:l.getD i false with
            | true=>rfl
            | false =>
              exfalso
              have ho:ops[i]?=some ops[i]:=Array.getElem?_eq_getElem hlt
              have h2:=(List.all_eq_true.1 hlow) i (List.mem_range.2 hlt)
              rw [ho] at h2
              refine hno i ops[i] ho hF hb fun e he hbd=>?_
              obtain⟨k,hk,rfl⟩:=Array.getElem_of_mem he
              have h3:=(Array.all_eq_true.1 h2) k hk
              rw [hbd,hF] at h3
              simp only [Bool.not_true,Bool.false_or,Bool.and_eq_true,decide_eq_true_eq] at h3
              exact ihm _ (by omega) (by omega) h3.2
        exact fun i hi hF=>this (i + 1) i (by omega) hi hF
      have key:∀ i ∈ Region.ready .any ops l,F.getD i false=true∧E.contains i=false:=by
        intro i hi
        obtain⟨hun,o,ho,hall⟩:=mem_ready.1 hi
        have hlt:i < ops.size:=by rw [Array.getElem?_eq_some_iff] at ho; exact ho.1
        have hl0:l.getD i false=false:=by
          have:i < l.size:=by omega
          simp [Array.getD,this] at hun ⊢
          exact hun
        have h2:=(List.all_eq_true.1 hup) i (List.mem_range.2 hlt)
        refine ⟨?_,?_⟩
        · cases hF:F.getD i false with
          | true=>rfl
          | false =>
            rw [hF,Bool.false_or,List.all_eq_true] at h2
            exfalso
            refine hlowest fun k ok hok hFk hlk hallk=>?_
            have hltk:k < ops.size:=by rw [Array.getElem?_eq_some_iff] at hok; exact hok.1
            have h3:=h2 k (List.mem_range.2 hltk)
            rw [hFk] at h3
            cases hEk:E.contains k with
            | true=>exact heag ⟨k,ok,hEk,hok,hlk,hallk⟩
            | false =>
              rw [hEk] at h3
              have h4:=inUp_listed hcl 6 i k (by simpa using h3) fun o' ho'=>by rw [ho] at ho'; cases ho'; exact hall
              rw [h4] at hlk; cases hlk
        · cases hEi:E.contains i with
          | false=>rfl
          | true=>exact absurd ⟨i,o,hEi,ho,hl0,hall⟩ heag
      refine ⟨fun hr=>?_,fun i hi=>?_⟩
      · exfalso
        refine hlowest fun k ok hok hFk hlk hallk=>?_
        have:=hrdy k ok hok hlk hallk
        rw [hr] at this
        cases this
      · obtain⟨hun,o,ho,hall⟩:=mem_ready.1 hi
        have hlt:i < ops.size:=by rw [Array.getElem?_eq_some_iff] at ho; exact ho.1
        have hl0:l.getD i false=false:=by
          have:i < l.size:=by omega
          simp [Array.getD,this] at hun ⊢
          exact hun
        rcases hstep i (key i hi).1 (key i hi).2 with ⟨hni,o',ho',hst⟩ | ⟨o',ho',hst⟩
        · obtain rfl:o=o':=by rw [Array.getElem?_toList,ho] at ho'; cases ho'; rfl
          refine wpOp_mono ?_ (hst a w hw (hknown i o ho hall))
          rintro a' w' ⟨v,rfl,hnw,hTv⟩
          exact⟨.inr trivial,hgo i o ho (key i hi).1 hl0 hall v w' hnw hTv (fun h=>by rw [hni] at h; cases h)⟩
        · obtain rfl:o=o':=by rw [Array.getElem?_toList,ho] at ho'; cases ho'; rfl
          refine wpOp_mono ?_ (hst a w hw (hknown i o ho hall))
          rintro a' w' ⟨v,rfl,hnw,hTv,hNv⟩
          exact⟨.inr trivial,hgo i o ho (key i hi).1 hl0 hall v w' hnw hTv (fun _=>hNv)⟩
theorem cntU_none:∀ i,(Array.replicate ops.size false).getD i false=false:=fun i=>by
  simp only [Array.getD]
  split
  · simp
  · rfl
def putL (vals:Nat→Value):List Bool→List Oper→Nat→Act→Act
  | true :: fs,o :: r,i,a=>putL vals fs r (i + 1) (a.put o.dst (vals i))
  | false :: fs,_ :: r,i,a=>putL vals fs r (i + 1) a
  | _,_,_,a=>a
theorem putAll_putL (F:Array Bool) (vals:Nat→Value):∀ (os:List Oper) (fs:List Bool) (i:Nat) (a:Act),fs.length=os.length→(∀ k,k < fs.length→fs[k]?=some (F.getD (i + k) false))→putAll F vals os i a=putL vals fs os i a
  | [],[],_,_,_,_=>rfl
  | o :: r,f :: fs,i,a,hl,h=>by
    have h0:=h 0 (by simp)
    simp only [List.getElem?_cons_zero,Nat.add_zero,Option.some.injEq] at h0
    have ih:=fun b=>putAll_putL F vals r fs (i + 1) b (by simpa using hl) fun k hk=>by
      have:=h (k + 1) (by simpa using hk)
      rw [List.getElem?_cons_succ] at this
      rw [this]
      congr 2
      omega
    rw [putAll,← h0]
    cases f
    · rw [putL,if_neg (by simp)]; exact ih _
    · rw [putL,if_pos rfl]; exact ih _
  | [],_ :: _,_,_,hl,_=>by simp at hl
  | _ :: _,[],_,_,hl,_=>by simp at hl
theorem wp_region_inv {id:Nat} {a0:Act} {w0:World} (fs:List Bool) (E:List Nat) (R:List (Nat × Bool)) (N:Nat) (T:Nat→Value→World→Prop) (hm:P.follows .mixedOrders=true) (hc:invCheck ops fs.toArray E R N=true) (hN:a0.tmps.size=N)
    (hQ:∀ c a d v w,Q (.panic c) (a.put d v) w→Q (.panic c) a w)
    (hT:∀ i v w w',New w w'→T i v w→T i v w')
    (hstep:∀ i,fs.getD i false=true→E.contains i=false→StepOk P ops Q fs.toArray T a0 w0 i) (heager:∀ i,E.contains i=true→EagerOk P ops fs.toArray T a0 w0 i)
    (hend:∀ vals w,New w0 w→(∀ i,fs.getD i false=true→T i (vals i) w)→stepsTo P ops (fun _=>True) Q R (putL vals fs ops.toList 0 a0) w):(Code.region id ops true).wp P Q a0 w0:=by
  have hget:∀ i,fs.toArray.getD i false=fs.getD i false:=fun i=>by simp [Array.getD,List.getD]; split <;> simp [*]
  have hc0:=hc
  simp only [invCheck,Bool.and_eq_true,beq_iff_eq,decide_eq_true_eq] at hc0
  obtain⟨⟨⟨⟨⟨⟨⟨⟨hsel,hFs⟩,h1000⟩,hcnt⟩,hdst⟩,hlow⟩,hup⟩,hE⟩,hM⟩:=hc0
  refine wp_region_any hm ?_
  have hgo:=wpJ_inv (w0:=w0) (Q:=Q) T [] (fun _ _=>rfl) (fun j h=>by simp at h) hc hN hQ hT (fun i h1 h2=>.inl ⟨rfl,hstep i (by rw [← hget]; exact h1) h2⟩) heager ?_ _ (Array.replicate ops.size false) (fun _=>undef) a0 { w0 with drawn:=w0.drawn + 1 } rfl (by simp) (fun i h=>?_) (fun i o _ h=>?_) ⟨rfl,rfl,fun i o d _ _ h=>?_,fun _ _=>rfl⟩ (Upd.refl _ _).drew (fun i h=>?_) (fun i j h=>?_)
  · rw [hcnt] at hgo; exact wpAny_of_J _ _ _ _ hgo
  · intro vals w hw hTl _
    rw [putAll_putL fs.toArray vals ops.toList fs 0 a0 (by simpa using hFs) fun k hk=>by rw [Nat.zero_add,hget]; simp [List.getD,hk]]
    exact hend vals w hw fun i hi=>hTl i (by rw [hget]; exact hi)
  all_goals
    rw [cntU_none (ops:=ops) i] at h
    cases h
theorem step_take {T:Nat→Value→World→Prop} {F:Array Bool} {a0:Act} {w0:World} {i:Nat} {o:Oper} (hi:ops.toList[i]?=some o) (hg:o.guard=none)
    (h:∀ a w,New w0 w→Known ops F T a0 i a w→∃ v,(execOp a.eval o).run P w=.ok (.value v) w∧T i v w):StepOk P ops Q F T a0 w0 i:=by
  refine ⟨o,hi,fun a w hw hk=>?_⟩
  obtain⟨v,hv,hT⟩:=h a w hw hk
  have hi':ops[i]?=some o:=by rw [← Array.getElem?_toList]; exact hi
  have hwt:Region.wanted o (yielded ops a.tmps)=true:=by simp [Region.wanted,hg]
  unfold wpOp
  simp only [hi',hwt,if_true,Oper.wp,hv,Oper.upon]
  exact .inl ⟨v,rfl,Upd.refl _ _,hT⟩
theorem step_call {T:Nat→Value→World→Prop} {F:Array Bool} {a0:Act} {w0:World} {i:Nat} {o:Oper} {f:FuncId} {xs:Array Operand} {ats:Array TypeId} (hi:ops.toList[i]?=some o) (hg:o.guard=none)
    (ho:o.op=.call { callee:=.value (.func f),args:=xs,argTypes:=ats })
    (h:∀ a w,New w0 w→Known ops F T a0 i a w→∃ (args:Array Value) (R:Ending→World→Prop),xs.toList.map a.eval=args.toList∧(∀ w,(callFunc f args).run P w=.ok (.enter f args) w)∧Calls P f args w R∧∀ e w',R e w'→∃ v,e=.returned v∧New w w'∧T i v w'):StepOk P ops Q F T a0 w0 i:=by
  refine ⟨o,hi,fun a w hw hk=>?_⟩
  obtain⟨args,R,hx,hcf,hc,hR⟩:=h a w hw hk
  have hi':ops[i]?=some o:=by rw [← Array.getElem?_toList]; exact hi
  have hwt:Region.wanted o (yielded ops a.tmps)=true:=by simp [Region.wanted,hg]
  unfold wpOp
  simp only [hi',hwt,if_true]
  refine .inl (a_call ho hx hcf hc fun e w' he=>?_)
  obtain⟨v,rfl,hn,hT⟩:=hR e w' he
  exact⟨v,rfl,v,rfl,hn,hT⟩
theorem eager_take {T:Nat→Value→World→Prop} {F:Array Bool} {a0:Act} {w0:World} {i:Nat} {o:Oper} (hi:ops.toList[i]?=some o) (hg:o.guard=none)
    (h:∀ a w,New w0 w→Known ops F T a0 i a w→∃ v,(∀ w,(execOp a.eval o).run P w=.ok (.value v) w)∧T i v w):EagerOk P ops F T a0 w0 i:=by
  refine ⟨o,hi,fun a w hw hk=>?_⟩
  obtain⟨v,hv,hT⟩:=h a w hw hk
  exact⟨v,.inl ⟨by simp [Region.wanted,hg],fun w _=>hv w⟩,hT⟩
end
section
variable {P:Program} {ops:Array Oper} {Q:Exit→Act→World→Prop}
theorem enter_abs {f:FuncId} {fn:Func} {c:Code} {args:Array Value} {w:World} {R:Ending→World→Prop} (hf:P.funcs[f]?=some fn) (hb:fn.body=some c)
    (h:∀ a:Act,a.tmps.size=args.size + (fn.ntmps - args.size)→a.defers=[]→(∀ i v,args.toList[i]?=some v→a.eval (.tmp i)=v)→c.wp P (bodyPost P fn R) a w):Calls P f args w R:=by
  refine calls_of_wp hf hb (h _ (by simp) rfl fun i v hi=>?_)
  have hlt:i < args.size:=by rw [List.getElem?_eq_some_iff] at hi; obtain⟨h,_⟩:=hi; simpa using h
  have hv:args[i]?=some v:=by rw [← Array.getElem?_toList]; exact hi
  simp only [Act.eval,Array.getD_eq_getD_getElem?]
  rw [Array.getElem?_append_left hlt,hv]
  rfl
theorem ret_k {fn:Func} {R:Ending→World→Prop} {a:Act} {w:World} {v:Value} (hd:a.defers=[]) (hr:(results fn a.tmps).run P w=.ok v w) (h:R (.returned v) w):bodyPost P fn R .ret a w:=⟨hd,v,hr,h⟩
theorem res_t {fn:Func} {t:Tmp} {a:Act} {v:Value} (hf:fn.results=#[.tmp t]) (h:a.eval (.tmp t)=v) (w:World):(results fn a.tmps).run P w=.ok v w:=by
  have h':a.tmps.getD t undef=v:=h
  simp only [Array.getD_eq_getD_getElem?] at h'
  simp [results,hf,h']
theorem res_tt {fn:Func} {t u:Tmp} {a:Act} {v x:Value} (hf:fn.results=#[.tmp t,.tmp u]) (h:a.eval (.tmp t)=v) (h2:a.eval (.tmp u)=x) (w:World):(results fn a.tmps).run P w=.ok (.tuple #[v,x]) w:=by
  have h':a.tmps.getD t undef=v:=h
  have h2':a.tmps.getD u undef=x:=h2
  simp only [Array.getD_eq_getD_getElem?] at h' h2'
  simp [results,hf,h',h2']
theorem res_c {fn:Func} {t:Tmp} {ty:TypeId} {p:Addr} {a:Act} {v:Value} {w:World} (hf:fn.results=#[.cell t ty]) (h:a.eval (.tmp t)=.pointer (some p)) (hl:(loadVar ty p).run P w=.ok v w):(results fn a.tmps).run P w=.ok v w:=by
  have h':a.tmps.getD t undef=.pointer (some p):=h
  simp only [Array.getD_eq_getD_getElem?] at h'
  simp [results,hf,h',asAddr,hl]
theorem res_ct {fn:Func} {t u:Tmp} {ty:TypeId} {p:Addr} {a:Act} {v x:Value} {w:World} (hf:fn.results=#[.cell t ty,.tmp u]) (h:a.eval (.tmp t)=.pointer (some p)) (h2:a.eval (.tmp u)=x) (hl:(loadVar ty p).run P w=.ok v w):(results fn a.tmps).run P w=.ok (.tuple #[v,x]) w:=by
  have h':a.tmps.getD t undef=.pointer (some p):=h
  have h2':a.tmps.getD u undef=x:=h2
  simp only [Array.getD_eq_getD_getElem?] at h' h2'
  simp [results,hf,h',h2',asAddr,hl]
def TL (Ts:List (Value→World→Prop)) (i:Nat) (v:Value) (w:World):Prop:=(Ts.getD i fun _ _=>True) v w
inductive Monos:List (Value→World→Prop)→Prop
  | nil:Monos []
  | cons {p:Value→World→Prop} {ps:List (Value→World→Prop)} (h:∀ v w w',New w w'→p v w→p v w') (t:Monos ps):Monos (p :: ps)
theorem Monos.eq {X:Value} {ps:List (Value→World→Prop)} (t:Monos ps):Monos ((fun v _=>v=X) :: ps):=.cons (fun _ _ _ _ h=>h) t
theorem Monos.new_:∀ {Ts:List (Value→World→Prop)},Monos Ts→∀ (i:Nat) (v:Value) (w w':World),New w w'→TL Ts i v w→TL Ts i v w'
  | [],_,_,_,_,_,_,_=>trivial
  | _ :: _,.cons h _,0,v,w,w',hn,hp=>h v w w' hn hp
  | _ :: _,.cons _ t,i + 1,v,w,w',hn,hp=>t.new_ i v w w' hn hp
def AllAt (p:Nat→Prop):List Bool→Nat→Prop
  | [],_=>True
  | true :: r,i=>p i∧AllAt p r (i + 1)
  | false :: r,i=>AllAt p r (i + 1)
theorem AllAt.get {p:Nat→Prop}:∀ {fs:List Bool} {k:Nat},AllAt p fs k→∀ i,fs.getD i false=true→p (k + i)
  | true :: _,_,h,0,_=>h.1
  | false :: _,_,_,0,hi=>by simp at hi
  | true :: r,k,h,i + 1,hi=>by
    have:=AllAt.get (fs:=r) h.2 i (by simpa using hi)
    rw [show k + (i + 1)=k + 1 + i by omega]; exact this
  | false :: r,k,h,i + 1,hi=>by
    have:=AllAt.get (fs:=r) (k:=k + 1) h i (by simpa using hi)
    rw [show k + (i + 1)=k + 1 + i by omega]; exact this
  | [],_,_,_,hi=>by simp at hi
theorem AllAt.on {p:Nat→Prop} {r:List Bool} {i:Nat} (h:p i) (t:AllAt p r (i + 1)):AllAt p (true :: r) i:=⟨h,t⟩
theorem AllAt.off {p:Nat→Prop} {r:List Bool} {i:Nat} (t:AllAt p r (i + 1)):AllAt p (false :: r) i:=t
theorem AllAt.nil {p:Nat→Prop} {i:Nat}:AllAt p [] i:=trivial
theorem Known.eq {F:Array Bool} {Ts:List (Value→World→Prop)} {a0 a:Act} {i:Nat} {w:World} (hk:Known ops F (TL Ts) a0 i a w) (k d:Nat) (X:Value) (h1:(afterOf ops i).contains k=true) (h2:(ops[k]?).bind (·.dst)=some d) (h3:Ts[k]?=some fun v _=>v=X):a.eval (.tmp d)=X:=by
  have h:=hk.dep k d h1 h2
  unfold TL at h
  rw [List.getD_eq_getElem?_getD,h3] at h
  exact h
def IsNew (w0:World) (T:TypeId) (cs:List Value) (v:Value) (w:World):Prop:=∃ q,v=.pointer (some ⟨q,0,none⟩)∧w0.heap.size≤q∧Blk w q T cs
theorem IsNew.old {w0:World} {T:TypeId} {cs:List Value} {v:Value} {w:World} (h:IsNew w0 T cs v w):OldPtr v w:=by
  obtain⟨q,he,hq,hb⟩:=h; exact⟨q,he,hb.lt⟩
theorem IsNew.new_ {w0:World} {T:TypeId} {cs:List Value} {v:Value} {w w':World} (h:IsNew w0 T cs v w) (hn:New w w'):IsNew w0 T cs v w':=by
  obtain⟨q,he,hq,hb⟩:=h; exact⟨q,he,hq,hb.new_ hn⟩
structure After (ops:Array Oper) (F:Array Bool) (news:List Nat) (T:Nat→Value→World→Prop) (a0 a:Act) (w:World):Prop where
  size:a.tmps.size=a0.tmps.size
  defers:a.defers=a0.defers
  fix:∀ d,fixedB ops F d=true→a.eval (.tmp d)=a0.eval (.tmp d)
  got:∀ i d,F.getD i false=true→(ops[i]?).bind (·.dst)=some d→T i (a.eval (.tmp d)) w
  far:∀ i j d e,(F.getD i false && F.getD j false && news.contains i && news.contains j && !(i == j))=true→(ops[i]?).bind (·.dst)=some d→(ops[j]?).bind (·.dst)=some e→a.eval (.tmp d) ≠ a.eval (.tmp e)
theorem wpJ_gen {a0:Act} {w0:World} {F:Array Bool} {E:List Nat} {R:List (Nat × Bool)} {N:Nat} (T:Nat→Value→World→Prop) (news:List Nat) (hEN:∀ i,E.contains i=true→news.contains i=false) (hold:∀ j,news.contains j=true→∀ v w,T j v w→OldPtr v w) (hc:invCheck ops F E R N=true) (hN:a0.tmps.size=N)
    (hQ:∀ c a d v w,Q (.panic c) (a.put d v) w→Q (.panic c) a w)
    (hT:∀ i v w w',New w w'→T i v w→T i v w')
    (hstep:∀ i,F.getD i false=true→E.contains i=false→StepG P ops Q F T a0 w0 news i) (heager:∀ i,E.contains i=true→EagerOk P ops F T a0 w0 i)
    (hend:∀ a w,New w0 w→After ops F news T a0 a w→stepsTo P ops (fun _=>True) Q R a w) :
    ∀ (n:Nat) (l:Array Bool) (vals:Nat→Value) (a:Act) (w:World),cntU F l ops.size=n→l.size=ops.size→(∀ i,l.getD i false=true→F.getD i false=true) →
      (∀ i o,ops[i]?=some o→l.getD i false=true→∀ e ∈ o.after,Region.binds .any e=true→l.getD e.on false=true) →
      Shape ops a0 vals l a→New w0 w→(∀ i,l.getD i false=true→T i (vals i) w) →
      (∀ i j,l.getD i false=true→l.getD j false=true→news.contains i=true→news.contains j=true→i ≠ j→vals i ≠ vals j)→wpJ P .any ops Q (fun _=>True) 1000 (n + R.length) l a w:=by
  have hdst:dstsOk ops N=true:=by
    simp only [invCheck,Bool.and_eq_true,beq_iff_eq,decide_eq_true_eq] at hc
    exact hc.1.1.1.1.2
  have hval:∀ vals i d,F.getD i false=true→(ops[i]?).bind (·.dst)=some d→(putAll F vals ops.toList 0 a0).tmps.getD d undef=vals i:=by
    intro vals i d hF hdo
    cases ho:ops[i]? with
    | none=>rw [ho] at hdo; simp at hdo
    | some o =>
      rw [ho] at hdo
      have hdo':o.dst=some d:=by simpa using hdo
      have h1:=putAll_got F vals N d (dsts_spec hdst ho hdo').1 ops.toList 0 a0 hN i o (by simpa using ho) (by simpa using hF) hdo' fun j oj hj hdj=>(dsts_spec hdst ho hdo').2 j oj (by simpa using hj) hdj
      rw [Nat.zero_add] at h1
      exact h1
  refine wpJ_inv T news hEN hold hc hN hQ hT hstep heager fun vals w hw hTl hD=>hend _ w hw ⟨putAll_size ..,putAll_defers ..,fun d hd=>?_,fun i d hF hdo=>?_,fun i j d e hc hdo heo=>?_⟩
  · refine putAll_far F vals d ops.toList 0 a0 fun k ok hk hFk hdk=>?_
    unfold fixedB at hd
    have hk':ops[k]?=some ok:=by simpa using hk
    have hlt:k < ops.size:=by rw [Array.getElem?_eq_some_iff] at hk'; exact hk'.1
    have:=(List.all_eq_true.1 hd) k (List.mem_range.2 hlt)
    rw [Nat.zero_add] at hFk
    rw [hFk,hk'] at this
    simp [hdk] at this
  · show T i ((putAll F vals ops.toList 0 a0).tmps.getD d undef) w
    rw [hval vals i d hF hdo]
    exact hTl i hF
  · simp only [Bool.and_eq_true,Bool.not_eq_true',beq_eq_false_iff_ne] at hc
    show (putAll F vals ops.toList 0 a0).tmps.getD d undef ≠ (putAll F vals ops.toList 0 a0).tmps.getD e undef
    rw [hval vals i d hc.1.1.1.1 hdo,hval vals j e hc.1.1.1.2 heo]
    exact hD i j hc.1.1.1.1 hc.1.1.1.2 hc.1.1.2 hc.1.2 hc.2
theorem wpOps_of_any (hlow:∀ i o,ops[i]?=some o→∀ e ∈ o.after,Region.binds .any e=true→e.on < i):∀ (n k:Nat) (l:Array Bool) (a:Act) (w:World),k + n=ops.size→l.size=ops.size→(∀ i,l.getD i false=decide (i < k)) →
    wpAny P .any ops Q n l a w→wpOps P ops Q (List.range' k n) a w
  | 0,k,l,a,w,_,_,_,h=>h.2
  | n + 1,k,l,a,w,hk,hls,hl,h=>by
    rw [List.range'_succ,wpOps_cons]
    have hlt:k < ops.size:=by omega
    have ho:ops[k]?=some ops[k]:=Array.getElem?_eq_getElem hlt
    have hr:k ∈ Region.ready .any ops l:=by
      refine mem_ready.2 ⟨?_,ops[k],ho,fun e he hb=>?_⟩
      · have h1:=hl k
        have hlt':k < l.size:=by omega
        simp [Array.getD,hlt'] at h1 ⊢
        exact h1
      · rw [hl]
        have:=hlow k ops[k] ho e he hb
        simpa using this
    refine wpOp_mono (fun a' w' h'=>wpOps_of_any hlow n (k + 1) (l.setIfInBounds k true) a' w' (by omega) (by simpa using hls) (fun i=>?_) h') (h.2 k hr)
    by_cases hik:i=k
    · subst hik
      have hlt':i < l.size:=by omega
      simp [hlt']
    · rw [getD_set_ne false (fun h=>hik h.symm),hl]
      rw [decide_eq_decide]
      omega
theorem wp_gen {id:Nat} {dr:Bool} {a0:Act} {w0:World} (fs:List Bool) (E:List Nat) (R:List (Nat × Bool)) (N:Nat) (Ts:List (Value→World→Prop)) (news:List Nat) (hEN:(E.all fun i=>!news.contains i)=true) (hold:∀ j,j ∈ news→∀ v w,TL Ts j v w→OldPtr v w) (hm:P.follows .mixedOrders=true) (hc:invCheck ops fs.toArray E R N=true) (hN:a0.tmps.size=N)
    (hQ:∀ c a d v w,Q (.panic c) (a.put d v) w→Q (.panic c) a w) (hT:Monos Ts)
    (hstep:AllAt (fun i=>E.contains i=false→StepG P ops Q fs.toArray (TL Ts) a0 w0 news i) fs 0) (heager:∀ i,E.contains i=true→EagerOk P ops fs.toArray (TL Ts) a0 w0 i)
    (hend:∀ a w,New w0 w→After ops fs.toArray news (TL Ts) a0 a w→stepsTo P ops (fun _=>True) Q R a w):(Code.region id ops dr).wp P Q a0 w0:=by
  have hget:∀ i,fs.toArray.getD i false=fs.getD i false:=fun i=>by simp [Array.getD,List.getD]; split <;> simp [*]
  have hc0:=hc
  simp only [invCheck,Bool.and_eq_true,beq_iff_eq,decide_eq_true_eq] at hc0
  obtain⟨⟨⟨⟨⟨⟨⟨⟨hsel,hFs⟩,h1000⟩,hcnt⟩,hdst⟩,hlow⟩,hup⟩,hE⟩,hM⟩:=hc0
  have hgo:∀ w1,New w0 w1→wpAny P .any ops Q ops.size (Array.replicate ops.size false) a0 w1:=by
    intro w1 hw1
    have hgo:=wpJ_gen (w0:=w0) (Q:=Q) (TL Ts) news (fun i hi=>(by have:=(List.all_eq_true.1 hEN) i (by simpa using hi); simpa using this)) (fun j hj=>hold j (by simpa using hj)) hc hN hQ hT.new_ (fun i h1 h2=>(by have:=AllAt.get hstep i (by rw [← hget]; exact h1); rw [Nat.zero_add] at this; exact this h2)) heager hend _ (Array.replicate ops.size false) (fun _=>undef) a0 w1 rfl (by simp) (fun i h=>?_) (fun i o _ h=>?_) ⟨rfl,rfl,fun i o d _ _ h=>?_,fun _ _=>rfl⟩ hw1 (fun i h=>?_) (fun i j h=>?_)
    · rw [hcnt] at hgo; exact wpAny_of_J _ _ _ _ hgo
    all_goals
      rw [cntU_none (ops:=ops) i] at h
      cases h
  cases dr with
  | true=>exact wp_region_any hm (hgo _ (Upd.refl _ _).drew)
  | false =>
    refine wp_region ?_
    rw [List.range_eq_range']
    refine wpOps_of_any (fun i o ho e he hb=>?_) ops.size 0 (Array.replicate ops.size false) a0 w0 (by omega) (by simp) (fun i=>by rw [cntU_none]; simp) (hgo w0 (Upd.refl _ _))
    have hlt:i < ops.size:=by rw [Array.getElem?_eq_some_iff] at ho; exact ho.1
    have h2:=(List.all_eq_true.1 hlow) i (List.mem_range.2 hlt)
    rw [ho] at h2
    obtain⟨k,hk,rfl⟩:=Array.getElem_of_mem he
    have h3:=(Array.all_eq_true.1 h2) k hk
    rw [hb] at h3
    simp only [Bool.not_true,Bool.false_or,Bool.and_eq_true,decide_eq_true_eq] at h3
    exact h3.1
theorem wanted_of {o:Oper} {a:Act} {j d:Nat} {want b:Bool} (hg:o.guard=some (j,want)) (hj:(ops[j]?).bind (·.dst)=some d) (hv:a.eval (.tmp d)=.bool b):Region.wanted o (yielded ops a.tmps)=(b == want):=by
  have hv':a.tmps.getD d undef=.bool b:=hv
  have h1:a.tmps[d]?=some (.bool b):=by
    rw [Array.getD_eq_getD_getElem?] at hv'
    cases h:a.tmps[d]? with
    | none=>rw [h] at hv'; simp [undef] at hv'
    | some x=>rw [h] at hv'; simpa using hv'
  have hy:yielded ops a.tmps j=some b:=by
    unfold yielded
    rw [hj]
    simp [h1]
  simp [Region.wanted,hg,hy]
variable {T:Nat→Value→World→Prop} {F:Array Bool} {a0:Act} {w0:World}
theorem g_skip {i:Nat} {o:Oper} {j d:Nat} {want:Bool} (hi:ops.toList[i]?=some o) (hg:o.guard=some (j,want)) (hj:(ops[j]?).bind (·.dst)=some d)
    (hv:∀ a w,New w0 w→Known ops F T a0 i a w→a.eval (.tmp d)=.bool (!want) ∨ a.eval (.tmp d)=undef) (hT:∀ w,T i undef w):StepOk P ops Q F T a0 w0 i:=by
  refine ⟨o,hi,fun a w hw hk=>?_⟩
  have hi':ops[i]?=some o:=by rw [← Array.getElem?_toList]; exact hi
  have hwt:Region.wanted o (yielded ops a.tmps)=false:=by
    rcases hv a w hw hk with h | h
    · rw [wanted_of hg hj h]; cases want <;> rfl
    · have h':a.tmps.getD d undef=undef:=h
      have hy:yielded ops a.tmps j=none:=by
        unfold yielded
        rw [hj]
        simp only [Option.bind_some]
        rw [Array.getD_eq_getD_getElem?] at h'
        cases hx:a.tmps[d]? with
        | none=>rfl
        | some x=>rw [hx] at h'; simp only [Option.getD_some] at h'; subst h'; rfl
      simp [Region.wanted,hg,hy]
  unfold wpOp
  simp only [hi',hwt,Bool.false_eq_true,if_false]
  exact⟨undef,rfl,Upd.refl _ _,hT w⟩
theorem step_takeG {i:Nat} {o:Oper} (hi:ops.toList[i]?=some o) (hw:∀ a w,New w0 w→Known ops F T a0 i a w→Region.wanted o (yielded ops a.tmps)=true)
    (h:∀ a w,New w0 w→Known ops F T a0 i a w→∃ v,(execOp a.eval o).run P w=.ok (.value v) w∧T i v w):StepOk P ops Q F T a0 w0 i:=by
  refine ⟨o,hi,fun a w hn hk=>?_⟩
  obtain⟨v,hv,hT⟩:=h a w hn hk
  have hi':ops[i]?=some o:=by rw [← Array.getElem?_toList]; exact hi
  unfold wpOp
  simp only [hi',hw a w hn hk,if_true,Oper.wp,hv,Oper.upon]
  exact .inl ⟨v,rfl,Upd.refl _ _,hT⟩
theorem step_callG {i:Nat} {o:Oper} {f:FuncId} {xs:Array Operand} {ats:Array TypeId} (hi:ops.toList[i]?=some o) (hw:∀ a w,New w0 w→Known ops F T a0 i a w→Region.wanted o (yielded ops a.tmps)=true)
    (ho:o.op=.call { callee:=.value (.func f),args:=xs,argTypes:=ats })
    (h:∀ a w,New w0 w→Known ops F T a0 i a w→∃ (args:Array Value) (R:Ending→World→Prop),xs.toList.map a.eval=args.toList∧(∀ w,(callFunc f args).run P w=.ok (.enter f args) w)∧Calls P f args w R∧∀ e w',R e w'→∃ v,e=.returned v∧New w w'∧T i v w'):StepOk P ops Q F T a0 w0 i:=by
  refine ⟨o,hi,fun a w hn hk=>?_⟩
  obtain⟨args,R,hx,hcf,hc,hR⟩:=h a w hn hk
  have hi':ops[i]?=some o:=by rw [← Array.getElem?_toList]; exact hi
  unfold wpOp
  simp only [hi',hw a w hn hk,if_true]
  refine .inl (a_call ho hx hcf hc fun e w' he=>?_)
  obtain⟨v,rfl,hn,hT⟩:=hR e w' he
  exact⟨v,rfl,v,rfl,hn,hT⟩
theorem newsNil {Ts:List (Value→World→Prop)}:∀ j,j ∈ ([]:List Nat)→∀ v w,TL Ts j v w→OldPtr v w:=fun _ h=>by cases h
theorem newsCons {Ts:List (Value→World→Prop)} {k:Nat} {l:List Nat} (h:∀ v w,TL Ts k v w→OldPtr v w) (t:∀ j,j ∈ l→∀ v w,TL Ts j v w→OldPtr v w):∀ j,j ∈ k :: l→∀ v w,TL Ts j v w→OldPtr v w:=fun j hj=>by
  rcases List.mem_cons.1 hj with rfl | hj
  · exact h
  · exact t j hj
theorem step_allocN {i:Nat} {o:Oper} {t:TypeId} {cs:List Value} (hi:ops.toList[i]?=some o) (hw:∀ a w,New w0 w→Known ops F T a0 i a w→Region.wanted o (yielded ops a.tmps)=true)
    (hrun:∀ a w,New w0 w→Known ops F T a0 i a w→(execOp (Act.eval a) o).run P w=.ok (.value (.pointer (some ⟨w.heap.size,0,none⟩))) (w.alloc (.cells cs.toArray t)))
    (hT:∀ q w,w0.heap.size≤q→Blk w q t cs→T i (.pointer (some ⟨q,0,none⟩)) w):StepOkN P ops Q F T a0 w0 i:=by
  refine ⟨o,hi,fun a w hn hk=>?_⟩
  have hi':ops[i]?=some o:=by rw [← Array.getElem?_toList]; exact hi
  unfold wpOp
  simp only [hi',hw a w hn hk,if_true,Oper.wp,hrun a w hn hk,Oper.upon]
  exact .inl ⟨_,rfl,(Upd.refl _ _).alloc _,hT _ _ hn.size (Blk.new w t cs),w.heap.size,rfl,Nat.le_refl _⟩
theorem ptr_ne {a:Act} {d e:Nat} {q r:Nat} (h:a.eval (.tmp d) ≠ a.eval (.tmp e)) (h1:a.eval (.tmp d)=.pointer (some ⟨q,0,none⟩)) (h2:a.eval (.tmp e)=.pointer (some ⟨r,0,none⟩)):q ≠ r:=fun he=>h (by rw [h1,h2,he])
theorem noG {i:Nat} {o:Oper} (hg:o.guard=none):∀ (a:Act) (w:World),New w0 w→Known ops F T a0 i a w→Region.wanted o (yielded ops a.tmps)=true:=fun a w _ _=>by simp [Region.wanted,hg]
theorem onG {i:Nat} {o:Oper} {j d:Nat} {want:Bool} (hg:o.guard=some (j,want)) (hj:(ops[j]?).bind (·.dst)=some d) (hv:∀ a w,Known ops F T a0 i a w→a.eval (.tmp d)=.bool want):∀ (a:Act) (w:World),New w0 w→Known ops F T a0 i a w→Region.wanted o (yielded ops a.tmps)=true:=fun a w _ hk=>by
  rw [wanted_of hg hj (hv a w hk)]; cases want <;> rfl
end
section
variable {P:Program} {ops:Array Oper} {Q:Exit→Act→World→Prop} {T:Nat→Value→World→Prop} {F:Array Bool} {a0 a:Act} {w0 w:World} {Ts:List (Value→World→Prop)} {news E:List Nat} {r:List Bool} {i:Nat}
theorem AllAt.o1 (h:StepOk P ops Q F T a0 w0 i) (t:AllAt (fun i=>E.contains i=false→StepG P ops Q F T a0 w0 news i) r (i + 1)) (hn:news.contains i=false:=by rfl):AllAt (fun i=>E.contains i=false→StepG P ops Q F T a0 w0 news i) (true :: r) i:=⟨fun _=>.inl ⟨hn,h⟩,t⟩
theorem AllAt.o2 (h:StepOkN P ops Q F T a0 w0 i) (t:AllAt (fun i=>E.contains i=false→StepG P ops Q F T a0 w0 news i) r (i + 1)):AllAt (fun i=>E.contains i=false→StepG P ops Q F T a0 w0 news i) (true :: r) i:=⟨fun _=>.inr h,t⟩
theorem AllAt.o3 (t:AllAt (fun i=>E.contains i=false→StepG P ops Q F T a0 w0 news i) r (i + 1)) (hn:E.contains i=true:=by rfl):AllAt (fun i=>E.contains i=false→StepG P ops Q F T a0 w0 news i) (true :: r) i:=⟨fun h=>(by rw [hn] at h; cases h),t⟩
theorem Known.eq1 (hk:Known ops F (TL Ts) a0 i a w) (k d:Nat) {X:Value} (h3:Ts[k]?=some fun v _=>v=X) (h1:(afterOf ops i).contains k=true:=by kernel_rfl) (h2:(ops[k]?).bind (·.dst)=some d:=by kernel_rfl):a.eval (.tmp d)=X:=hk.eq k d X h1 h2 h3
theorem Known.fx (hk:Known ops F (TL Ts) a0 i a w) (d:Nat) {X:Value} (h:a0.eval (.tmp d)=X) (h1:fixedB ops F d=true:=by kernel_rfl):a.eval (.tmp d)=X:=(hk.fix d h1).trans h
theorem After.fx (ha:After ops F news (TL Ts) a0 a w) (d:Nat) {X:Value} (h:a0.eval (.tmp d)=X) (h1:fixedB ops F d=true:=by kernel_rfl):a.eval (.tmp d)=X:=(ha.fix d h1).trans h
theorem After.ge (ha:After ops F news (TL Ts) a0 a w) (k d:Nat) {X:Value} (h3:Ts[k]?=some fun v _=>v=X) (h1:F.getD k false=true:=by rfl) (h2:(ops[k]?).bind (·.dst)=some d:=by kernel_rfl):a.eval (.tmp d)=X:=by
  have h:=ha.got k d h1 h2
  unfold TL at h
  rw [List.getD_eq_getElem?_getD,h3] at h
  exact h
theorem tk {o:Oper} (hi:ops.toList[i]?=some o) (hg:o.guard=none) (h:∀ a w,New w0 w→Known ops F T a0 i a w→∃ v,(execOp a.eval o).run P w=.ok (.value v) w∧T i v w):StepOk P ops Q F T a0 w0 i:=step_takeG hi (noG hg) h
theorem tg {o:Oper} {j d:Nat} {want:Bool} (hi:ops.toList[i]?=some o) (hg:o.guard=some (j,want)) (hj:(ops[j]?).bind (·.dst)=some d) (hv:∀ a w,Known ops F T a0 i a w→a.eval (.tmp d)=.bool want)
    (h:∀ a w,New w0 w→Known ops F T a0 i a w→∃ v,(execOp a.eval o).run P w=.ok (.value v) w∧T i v w):StepOk P ops Q F T a0 w0 i:=step_takeG hi (onG hg hj hv) h
theorem ck {o:Oper} {f:FuncId} {xs:Array Operand} {ats:Array TypeId} {V:Value} (hi:ops.toList[i]?=some o) (hg:o.guard=none) (ho:o.op=.call { callee:=.value (.func f),args:=xs,argTypes:=ats })
    (h:∀ a w,New w0 w→Known ops F T a0 i a w→∃ args:Array Value,xs.toList.map a.eval=args.toList∧(∀ w,(callFunc f args).run P w=.ok (.enter f args) w)∧Calls P f args w (fun e w'=>e=.returned V∧New w w')) (ht:∀ w,T i V w):StepOk P ops Q F T a0 w0 i :=
  step_callG hi (noG hg) ho fun a w hn hk=>by
    obtain⟨args,h1,h2,h3⟩:=h a w hn hk
    exact⟨args,_,h1,h2,h3,fun e w' ⟨he,hn'⟩=>⟨V,he,hn',ht w'⟩⟩
theorem cg {o:Oper} {f:FuncId} {xs:Array Operand} {ats:Array TypeId} {V:Value} {j d:Nat} {want:Bool} (hi:ops.toList[i]?=some o) (hg:o.guard=some (j,want)) (hj:(ops[j]?).bind (·.dst)=some d) (hv:∀ a w,Known ops F T a0 i a w→a.eval (.tmp d)=.bool want) (ho:o.op=.call { callee:=.value (.func f),args:=xs,argTypes:=ats })
    (h:∀ a w,New w0 w→Known ops F T a0 i a w→∃ args:Array Value,xs.toList.map a.eval=args.toList∧(∀ w,(callFunc f args).run P w=.ok (.enter f args) w)∧Calls P f args w (fun e w'=>e=.returned V∧New w w')) (ht:∀ w,T i V w):StepOk P ops Q F T a0 w0 i :=
  step_callG hi (onG hg hj hv) ho fun a w hn hk=>by
    obtain⟨args,h1,h2,h3⟩:=h a w hn hk
    exact⟨args,_,h1,h2,h3,fun e w' ⟨he,hn'⟩=>⟨V,he,hn',ht w'⟩⟩
theorem sk {o:Oper} {j d:Nat} {want:Bool} (hi:ops.toList[i]?=some o) (hg:o.guard=some (j,want)) (hj:(ops[j]?).bind (·.dst)=some d) (hv:∀ a w,New w0 w→Known ops F T a0 i a w→a.eval (.tmp d)=.bool (!want)) (hT:∀ w,T i undef w):StepOk P ops Q F T a0 w0 i:=g_skip hi hg hj (fun a w h1 h2=>.inl (hv a w h1 h2)) hT
theorem su {o:Oper} {j d:Nat} {want:Bool} (hi:ops.toList[i]?=some o) (hg:o.guard=some (j,want)) (hj:(ops[j]?).bind (·.dst)=some d) (hv:∀ a w,New w0 w→Known ops F T a0 i a w→a.eval (.tmp d)=undef) (hT:∀ w,T i undef w):StepOk P ops Q F T a0 w0 i:=g_skip hi hg hj (fun a w h1 h2=>.inr (hv a w h1 h2)) hT
end
section
variable {P:Program} {ops:Array Oper} {Q:Exit→Act→World→Prop}
abbrev ve (X:Value):Value→World→Prop:=fun v _=>v=X
abbrev vt:Value→World→Prop:=fun _ _=>True
abbrev iv (n:Int):Value:=.int .i64 n
abbrev pv (q:Nat):Value:=.pointer (some ⟨q,0,none⟩)
theorem Monos.tt {ps:List (Value→World→Prop)} (t:Monos ps):Monos (vt :: ps):=.cons (fun _ _ _ _ h=>h) t
theorem Monos.nw {w0:World} {T:TypeId} {cs:List Value} {ps:List (Value→World→Prop)} (t:Monos ps):Monos (IsNew w0 T cs :: ps):=.cons (fun _ _ _ hn h=>IsNew.new_ h hn) t
theorem After.ne {F:Array Bool} {news:List Nat} {T:Nat→Value→World→Prop} {a0 a:Act} {w:World} (ha:After ops F news T a0 a w) (i j d e:Nat) {q r:Nat} (h1:a.eval (.tmp d)=.pointer (some ⟨q,0,none⟩)) (h2:a.eval (.tmp e)=.pointer (some ⟨r,0,none⟩))
    (c1:(F.getD i false && F.getD j false && news.contains i && news.contains j && !(i == j))=true:=by rfl) (c2:(ops[i]?).bind (·.dst)=some d:=by kernel_rfl) (c3:(ops[j]?).bind (·.dst)=some e:=by kernel_rfl):q ≠ r:=ptr_ne (ha.far i j d e c1 c2 c3) h1 h2
theorem wp_g {id:Nat} {dr:Bool} {a0:Act} {w0:World} (fs:List Bool) (E:List Nat) (R:List (Nat × Bool)) (N:Nat) (Ts:List (Value→World→Prop)) (news:List Nat) (hold:∀ j,j ∈ news→∀ v w,TL Ts j v w→OldPtr v w) (hN:a0.tmps.size=N) (hT:Monos Ts)
    (hstep:AllAt (fun i=>E.contains i=false→StepG P ops Q fs.toArray (TL Ts) a0 w0 news i) fs 0) (heager:∀ i,E.contains i=true→EagerOk P ops fs.toArray (TL Ts) a0 w0 i)
    (hend:∀ a w,New w0 w→After ops fs.toArray news (TL Ts) a0 a w→stepsTo P ops (fun _=>True) Q R a w)
    (hEN:(E.all fun i=>!news.contains i)=true:=by kernel_rfl) (hm:P.follows .mixedOrders=true:=by kernel_rfl) (hc:invCheck ops fs.toArray E R N=true:=by kernel_rfl)
    (hQ:∀ c a d v w,Q (.panic c) (a.put d v) w→Q (.panic c) a w:=by (intro _ _ d _ _ h; cases d <;> exact h)):(Code.region id ops dr).wp P Q a0 w0:=wp_gen fs E R N Ts news hEN hold hm hc hN hQ hT hstep heager hend
theorem wp_g0 {id:Nat} {dr:Bool} {a0:Act} {w0:World} (fs:List Bool) (R:List (Nat × Bool)) (N:Nat) (Ts:List (Value→World→Prop)) (hN:a0.tmps.size=N) (hT:Monos Ts)
    (hstep:AllAt (fun i=>([]:List Nat).contains i=false→StepG P ops Q fs.toArray (TL Ts) a0 w0 [] i) fs 0)
    (hend:∀ a w,New w0 w→After ops fs.toArray [] (TL Ts) a0 a w→stepsTo P ops (fun _=>True) Q R a w)
    (hm:P.follows .mixedOrders=true:=by kernel_rfl) (hc:invCheck ops fs.toArray [] R N=true:=by kernel_rfl)
    (hQ:∀ c a d v w,Q (.panic c) (a.put d v) w→Q (.panic c) a w:=by (intro _ _ d _ _ h; cases d <;> exact h)):(Code.region id ops dr).wp P Q a0 w0:=wp_gen fs [] R N Ts [] rfl newsNil hm hc hN hQ hT hstep (fun i h=>by cases h) hend
end
section
variable {P:Program} {o:Oper} {a:Act} {w:World}
theorem v_move {x:Operand} {v:Value} (ho:o.op=.move x) (hx:a.eval x=v):(execOp a.eval o).run P w=.ok (.value v) w:=y_move (S:=fun _=>True) ho hx w trivial
theorem v_assign {x:Operand} {v:Value} (ho:o.op=.assign x) (hx:a.eval x=v):(execOp a.eval o).run P w=.ok (.value v) w:=y_assign (S:=fun _=>True) ho hx w trivial
theorem v_field {s:TypeId} {x:Operand} {f:Nat} {p p':Addr} (ho:o.op=.fieldAddr s x f) (hx:a.eval x=.pointer (some p)) (hp:∀ w,(Instr.fieldAt s (.pointer (some p)) f).run P w=.ok (.pointer (some p')) w):(execOp a.eval o).run P w=.ok (.value (.pointer (some p'))) w:=y_field (S:=fun _=>True) ho hx hp w trivial
theorem v_extract {x:Operand} {k:Nat} {vs:Array Value} {v:Value} (ho:o.op=.extract x k) (hx:a.eval x=.tuple vs) (hv:vs[k]?=some v):(execOp a.eval o).run P w=.ok (.value v) w:=y_extract (S:=fun _=>True) ho hx hv w trivial
theorem v_not {t:TypeId} {x:Operand} {b:Bool} (ho:o.op=.unOp .not t x) (hx:a.eval x=.bool b):(execOp a.eval o).run P w=.ok (.value (.bool (!b))) w:=y_notb (S:=fun _=>True) ho hx w trivial
theorem v_pick {c x y:Operand} {b:Bool} {v:Value} (ho:o.op=.pick c x y) (hc:a.eval c=.bool b) (hv:(if b then a.eval x else a.eval y)=v):(execOp a.eval o).run P w=.ok (.value v) w:=y_pick (S:=fun _=>True) ho hc hv w trivial
theorem v_pickT {c x y:Operand} {v:Value} (ho:o.op=.pick c x y) (hc:a.eval c=.bool true) (hv:a.eval x=v):(execOp a.eval o).run P w=.ok (.value v) w:=v_pick ho hc (by rw [if_pos rfl]; exact hv)
theorem v_pickF {c x y:Operand} {v:Value} (ho:o.op=.pick c x y) (hc:a.eval c=.bool false) (hv:a.eval y=v):(execOp a.eval o).run P w=.ok (.value v) w:=v_pick ho hc (by rw [if_neg (by simp)]; exact hv)
theorem v_max {x y:Operand} {ats:Array TypeId} {k k':IntKind} {m n:Int} (ho:o.op=.call { callee:=.builtin .max,args:=#[x,y],argTypes:=ats }) (hx:a.eval x=.int k m) (hy:a.eval y=.int k' n):(execOp a.eval o).run P w=.ok (.value (.int k (max m n))) w:=y_max (S:=fun _=>True) ho hx hy (by simp [Int.max_def]; split <;> (try split) <;> omega) w trivial
theorem v_min {x y:Operand} {ats:Array TypeId} {k k':IntKind} {m n:Int} (ho:o.op=.call { callee:=.builtin .min,args:=#[x,y],argTypes:=ats }) (hx:a.eval x=.int k m) (hy:a.eval y=.int k' n):(execOp a.eval o).run P w=.ok (.value (.int k (min m n))) w:=y_min (S:=fun _=>True) ho hx hy (by simp [Int.min_def]; split <;> (try split) <;> omega) w trivial
theorem v_box {t:TypeId} {x:Operand} {u:Value} {cs:List Value} (ho:o.op=.box t x) (hx:a.eval x=u) (h:∀ w,(Instr.box t u).run P w=.ok (.pointer (some ⟨w.heap.size,0,none⟩)) (w.alloc (.cells cs.toArray t))):(execOp a.eval o).run P w=.ok (.value (.pointer (some ⟨w.heap.size,0,none⟩))) (w.alloc (.cells cs.toArray t)):=by
  simp [execOp,ho,hx,h]
theorem args1 {x:Operand} {u:Value} (h:a.eval x=u):(#[x]:Array Operand).toList.map a.eval=(#[u]:Array Value).toList:=by simp [h]
theorem args2 {x y:Operand} {u v:Value} (h:a.eval x=u) (h2:a.eval y=v):(#[x,y]:Array Operand).toList.map a.eval=(#[u,v]:Array Value).toList:=by simp [h,h2]
theorem v_build {t:TypeId} {parts:Array (Nat × Operand)} {ps:List (Nat × Value)} {cells:Array Value} (ho:o.op=.build t parts) (hp:(parts.map fun (i,x)=>(i,a.eval x))=ps.toArray) (h:P.built t ps=some cells):(execOp a.eval o).run P w=.ok (.value (.agg cells)) w:=by
  simp only [execOp,ho,hp,Sem.run_bind,run_build w t ps.toArray cells h,Result.andThen_ok]
  rfl
theorem parts0:((#[]:Array (Nat × Operand)).map fun (i,x)=>(i,a.eval x))=([]:List (Nat × Value)).toArray:=by simp
theorem parts1 {i:Nat} {x:Operand} {u:Value} (h:a.eval x=u):((#[(i,x)]:Array (Nat × Operand)).map fun (i,x)=>(i,a.eval x))=[(i,u)].toArray:=by simp [h]
theorem parts2 {i j:Nat} {x y:Operand} {u v:Value} (h:a.eval x=u) (h2:a.eval y=v):((#[(i,x),(j,y)]:Array (Nat × Operand)).map fun (i,x)=>(i,a.eval x))=[(i,u),(j,v)].toArray:=by simp [h,h2]
theorem v_neg {t:TypeId} {x:Operand} {m:Int} (ho:o.op=.unOp .neg t x) (hx:a.eval x=.int .i64 m) (hr:-9223372036854775808≤-m∧-m≤9223372036854775807):(execOp a.eval o).run P w=.ok (.value (.int .i64 (-m))) w:=by
  simp [execOp,ho,hx,Op.unary,Op.intArith,IntWalk.i64_in (-m) hr]
theorem v_conv {s d:TypeId} {x:Operand} {u v:Value} (ho:o.op=.convert s d x) (hx:a.eval x=u) (h:(convert s d u).run P w=.ok v w):(execOp a.eval o).run P w=.ok (.value v) w:=by
  simp [execOp,ho,hx,h]
theorem v_bin {op:BinOp} {t t':TypeId} {x y:Operand} {u v r:Value} (ho:o.op=.binOp op t x y t') (hx:a.eval x=u) (hy:a.eval y=v) (hg:∀ w,(eqGuard op t x y u v).run P w=.ok () w) (h:∀ w,(binOp op t u v).run P w=.ok r w):(execOp a.eval o).run P w=.ok (.value r) w:=by
  simp [execOp,ho,hx,hy,hg,h]
theorem v_load {t:TypeId} {x:Operand} {p:Addr} {v:Value} (ho:o.op=.load t x) (hx:a.eval x=.pointer (some p)) (hl:(loadVar t p).run P w=.ok v w):(execOp a.eval o).run P w=.ok (.value v) w:=by
  simp [execOp,ho,hx,Instr.loadAt,Instr.sureAddr,hl]
theorem l_one {t:TypeId} {p:Addr} {v:Value} (ht:∀ w,(isAgg t).run P w=.ok false w) (hc:w.cell? p=some v):(loadVar t p).run P w=.ok v w:=by
  simp [loadVar,ht,load,Sem.run,hc]
theorem l_two {t tt:TypeId} {b:Nat} {v0 v1:Value} (ht:∀ w,(isAgg t).run P w=.ok true w) (hs:∀ w,(sizeOf t).run P w=.ok 2 w) (hc:Blk w b tt [v0,v1]):(loadVar t ⟨b,0,none⟩).run P w=.ok (.agg #[v0,v1]) w:=by
  have h0:w.cell? ⟨b,0,none⟩=some v0:=hc.cell 0
  have h1:w.cell? ⟨b,1,none⟩=some v1:=hc.cell 1
  have hadd:(⟨b,0,none⟩:Addr).add 1=⟨b,1,none⟩:=by simp [Addr.add]
  have hadd0:(⟨b,0,none⟩:Addr).add 0=⟨b,0,none⟩:=by simp [Addr.add]
  simp [loadVar,ht,hs,loadCells,loadCellsFrom,load,Sem.run,hadd,hadd0,h0,h1]
theorem a_store' {t:TypeId} {x y:Operand} {p:Addr} {v:Value} {K:Act→World→Prop} {Q:Exit→Act→World→Prop} {w':World} (ho:o.op=.store t x y) (hx:a.eval x=.pointer (some p)) (hy:a.eval y=v) (hs:(storeVar t p v).run P w=.ok () w') (h:K (a.put o.dst undef) w'):o.wp P a w K Q:=by
  unfold Oper.wp
  simp [execOp,ho,hx,hy,Instr.storeAt,Instr.sureAddr,hs,Oper.upon_skip,h]
theorem s_two {t tt:TypeId} {b:Nat} {u0 u1 v0 v1:Value} (hs:∀ w,(sizeOf t).run P w=.ok 2 w) (hv:(Value.agg #[v0,v1]).cells=#[v0,v1]) (h0:v0.oneCell'=true) (h1:v1.oneCell'=true) (hb:Blk w b tt [u0,u1]) :
    ∃ w',w'=(w.setCell ⟨b,0,none⟩ v0).setCell ⟨b,1,none⟩ v1∧(storeVar t ⟨b,0,none⟩ (.agg #[v0,v1])).run P w=.ok () w'∧Blk w' b tt [v0,v1]∧Upd (fun k=>k=b) w w'∧∀ g s cs,g ≠ b→Blk w g s cs→Blk w' g s cs:=by
  have hb1:=hb.set_ 0 v0
  have hst0:(store ⟨b,0,none⟩ v0).run P w=.ok () (w.setCell ⟨b,0,none⟩ v0):=by
    rw [run_store P w _ v0 _ h0]
    have:=hb.cell 0
    simp [this,hb.frozen 0]
  have hst1:(store ⟨b,1,none⟩ v1).run P (w.setCell ⟨b,0,none⟩ v0)=.ok () ((w.setCell ⟨b,0,none⟩ v0).setCell ⟨b,1,none⟩ v1):=by
    rw [run_store P _ _ v1 _ h1]
    have:=hb1.cell 1
    simp [this,hb1.frozen 1]
  have hadd:(⟨b,0,none⟩:Addr).add 1=⟨b,1,none⟩:=by simp [Addr.add]
  have hadd0:(⟨b,0,none⟩:Addr).add 0=⟨b,0,none⟩:=by simp [Addr.add]
  refine ⟨_,rfl,?_,(hb.set_ 0 v0).set_ 1 v1,((Upd.refl (fun k=>k=b) w).setCell (.inl rfl) v0).setCell (.inl rfl) v1,fun g s cs hg h=>(h.far hg _).far hg _⟩
  simp [storeVar,hs,hv,storeCells,hadd,hadd0,hst0,hst1]
theorem s_one {t tt:TypeId} {b i:Nat} {cs:List Value} {v:Value} (hs:∀ w,(sizeOf t).run P w=.ok 1 w) (hv:v.cells=#[v]) (h1:v.oneCell'=true) (hb:Blk w b tt cs) (hi:i < cs.length) :
    ∃ w',w'=w.setCell ⟨b,i,none⟩ v∧(storeVar t ⟨b,i,none⟩ v).run P w=.ok () w'∧Blk w' b tt (cs.set i v)∧Upd (fun k=>k=b) w w'∧∀ g s cs,g ≠ b→Blk w g s cs→Blk w' g s cs:=by
  have hst:(store ⟨b,i,none⟩ v).run P w=.ok () (w.setCell ⟨b,i,none⟩ v):=by
    rw [run_store P w _ v _ h1]
    have:=hb.cell i
    rw [List.getElem?_eq_getElem hi] at this
    simp [this,hb.frozen i]
  have hadd0:(⟨b,i,none⟩:Addr).add 0=⟨b,i,none⟩:=by simp [Addr.add]
  refine ⟨_,rfl,?_,hb.set_ i v,(Upd.refl (fun k=>k=b) w).setCell (.inl rfl) v,fun g s cs hg h=>h.far hg _⟩
  simp [storeVar,hs,hv,storeCells,hadd0,hst]
end
section
variable {P:Program} {t:TypeId} {k:IntKind} {x y:Int} {r:Bool}
theorem r_eql (h:decide (x=y)=r):∀ w,(binOp .eql t (.int k x) (.int k y)).run P w=.ok (.bool r) w:=by
  intro w; subst h; simp [binOp,Op.intCmp]; rfl
theorem r_neq (h:decide (x=y)=r):∀ w,(binOp .neq t (.int k x) (.int k y)).run P w=.ok (.bool (!r)) w:=by
  intro w; subst h; simp [binOp,Op.intCmp]; rfl
theorem r_lssK (h:decide (x < y)=r):∀ w,(binOp .lss t (.int k x) (.int k y)).run P w=.ok (.bool r) w:=by
  intro w; subst h; simp [binOp,Op.intCmp]
theorem r_geqK (h:decide (x < y)=r):∀ w,(binOp .geq t (.int k x) (.int k y)).run P w=.ok (.bool (!r)) w:=by
  intro w; subst h; simp [binOp,Op.intCmp]; rw [← decide_not]; congr 1; simp
theorem r_leqK (h:decide (x≤y)=r):∀ w,(binOp .leq t (.int k x) (.int k y)).run P w=.ok (.bool r) w:=by
  intro w; subst h; simp [binOp,Op.intCmp]
theorem r_gtrK (h:decide (x≤y)=r):∀ w,(binOp .gtr t (.int k x) (.int k y)).run P w=.ok (.bool (!r)) w:=by
  intro w; subst h; simp [binOp,Op.intCmp]; rw [← decide_not]; congr 1; simp
end
def strEq (a b:ByteArray):Bool:=a.toList == b.toList
theorem r_eqlS {P:Program} {t:TypeId} {a b:ByteArray} {r:Bool} (h:strEq a b=r):∀ w,(binOp .eql t (.string a) (.string b)).run P w=.ok (.bool r) w:=by
  intro w; subst h; simp [binOp,Op.stringOp]; rfl
def IsRet (v:Value) (w:World) (e:Ending) (w':World):Prop:=e=.returned v∧New w w'
theorem then_n {I:Act→World→Prop} {Q:Exit→Act→World→Prop} {a:Act} {w:World} (h:I a w):Exit.then I Q .normal a w:=h
theorem rounds_of {P:Program} {ι:Type} {c:Code} {Q:Exit→Act→World→Prop} (I:ι→Act→World→Prop) (m:ι→Nat)
    (round:∀ x a w,I x a w→c.wp P (Exit.then (fun a' w'=>∃ y,I y a' w'∧m y < m x) Q) a w):∀ n x a w,m x≤n→I x a w→Code.rounds P c Q (n + 1) a w
  | 0,x,a,w,hm,hI=>wp_mono (round x a w hI) fun e a' w' h=>by
    cases e with
    | normal=>obtain⟨y,-,hy⟩:=h; omega
    | _=>exact h
  | n + 1,x,a,w,hm,hI=>wp_mono (round x a w hI) fun e a' w' h=>by
    cases e with
    | normal=>obtain⟨y,hy,hlt⟩:=h; exact rounds_of I m round n y a' w' (by omega) hy
    | _=>exact h
theorem wp_loopX {P:Program} {ι:Type} {c:Code} {Q:Exit→Act→World→Prop} {a:Act} {w:World} (I:ι→Act→World→Prop) (m:ι→Nat) (h0:∃ x,I x a w)
    (round:∀ x a w,I x a w→c.wp P (Exit.then (fun a' w'=>∃ y,I y a' w'∧m y < m x) Q) a w):(Code.loop c).wp P Q a w:=by
  obtain⟨x,hx⟩:=h0
  exact wp_loop_rounds _ (rounds_of I m round _ x a w (Nat.le_refl _) hx)
def enc (k:IntKind) (xs:List Nat):List Value:=xs.map fun x:Nat=>.int k (x:Int)
theorem enc_get (k:IntKind) (xs:List Nat) (i:Nat) (h:i < xs.length):(enc k xs)[i]?=some (.int k ((xs.getD i 0:Nat):Int)):=by simp [enc,List.getD,h]
theorem enc_one (k:IntKind) (xs:List Nat):∀ u ∈ enc k xs,u.oneCell'=true:=by
  intro u hu
  obtain⟨x,_,rfl⟩:=List.mem_map.1 hu
  rfl
abbrev sv (A:Option Addr) (xs:List Nat) (c:Nat):Value:=.slice A xs.length c
def SRow (w:World) (k:IntKind) (A:Option Addr) (xs:List Nat) (c:Nat):Prop:=RowAt w 1 (sv A xs c) xs.length (enc k xs)
def SOwn (w:World) (b:Nat) (e:TypeId) (k:IntKind) (A:Option Addr) (xs:List Nat) (c:Nat):Prop:=Own w b e 1 (sv A xs c) xs.length (enc k xs)
def SElem (w:World) (b o:Nat) (X:Value):Prop:=w.cell? ⟨b,o,none⟩=some X∧b < w.heap.size
def notK (k:IntKind):Value→Bool
  | .int k' _=>decide (k ≠ k')
  | _=>true
section
variable {w w':World} {k:IntKind} {A:Option Addr} {xs:List Nat} {c b q:Nat} {e T:TypeId} {cs:List Value} {X:Value}
theorem SRow.new_ (h:SRow w k A xs c) (hn:New w w'):SRow w' k A xs c:=RowAt.new_ h hn
theorem SOwn.new_ (h:SOwn w b e k A xs c) (hn:New w w'):SOwn w' b e k A xs c:=Own.new_ h hn
theorem SElem.new_ {o:Nat} (h:SElem w b o X) (hn:New w w'):SElem w' b o X:=⟨(hn.cellN (p:=⟨b,o,none⟩) h.2).trans h.1,Nat.lt_of_lt_of_le h.2 hn.size⟩
theorem SOwn.row (h:SOwn w b e k A xs c):SRow w k A xs c:=Own.row h
theorem SOwn.more (h:SOwn w b e k A xs c) {b':Nat} (hb:b'≤b):SOwn w b' e k A xs c:=Own.more h hb
theorem SRow.nil (w:World) (k:IntKind):SRow w k none [] 0:=⟨rfl,.inl ⟨rfl,none,0,rfl⟩⟩
theorem SOwn.nil (w:World) (b:Nat) (e:TypeId) (k:IntKind):SOwn w b e k none [] 0:=Own.nil_ w b e 1
theorem SRow.at (h:SRow w k A xs c) {i:Nat} (hi:i < xs.length):∃ b o,A=some ⟨b,o,none⟩∧SElem w b (o + i) (.int k ((xs.getD i 0:Nat):Int)):=by
  rcases h.2 with ⟨h0,_⟩ | ⟨b,o,c',hv,hc,hm,hb,hx⟩
  · omega
  · injection hv with hA _ _
    exact⟨b,o,hA,hx i _ (enc_get k xs i hi),hb⟩
theorem SRow.max (h:SRow w k A xs c):(xs.length:Int)≤9223372036854775807:=by
  rcases h.2 with ⟨h0,_⟩ | ⟨_,_,c',_,hc,hm,_⟩
  · omega
  · unfold maxLen at hm; omega
theorem SRow.far (h:SRow w k A xs c) (hb:Blk w q T cs) (hu:Upd (fun b=>b=q) w w') (hn:cs.all (notK k)=true):SRow w' k A xs c:=by
  refine ⟨h.1,?_⟩
  rcases h.2 with h0 | ⟨b,off,c',hv,hc,hm,hbs,hx⟩
  · exact .inl h0
  · rcases Nat.eq_zero_or_pos xs.length with h0 | hn0
    · exact .inl ⟨h0,A,c,by unfold sv; rw [h0]⟩
    · refine .inr ⟨b,off,c',hv,hc,hm,Nat.lt_of_lt_of_le hbs hu.size,fun j y hj=>(hu.cell (p:=⟨b,off + j,none⟩) hbs ?_).trans (hx j y hj)⟩
      rintro rfl
      have h0:=hx 0 _ (enc_get k xs 0 hn0)
      rw [hb.cell (off + 0)] at h0
      have:=List.all_eq_true.1 hn _ (List.mem_of_getElem? h0)
      simp [notK] at this
theorem SOwn.far (h:SOwn w b e k A xs c) (hb:Blk w q T cs) (hu:Upd (fun b=>b=q) w w') (hne:e ≠ T):SOwn w' b e k A xs c:=Own.upd h hu fun k hk=>Own.ne_blk h hb hne k hk
theorem SOwn.head (h:SOwn w b e k A xs c) (hp:0 < xs.length):∃ g,A=some ⟨g,0,none⟩∧b≤g:=by
  rcases h with h | ⟨h0,_⟩
  · rcases h.2 with ⟨_,h0⟩ | ⟨g,cap,cur,hv,hb,_⟩
    · omega
    · injection hv with hA _ _
      exact⟨g,hA,hb⟩
  · omega
theorem SOwn.blk (h:SOwn w b e k (some ⟨q,0,none⟩) xs c) (hp:0 < xs.length):b≤q∧∃ cur,w.heap[q]?=some (.cells cur e (0,0)):=by
  rcases h with h | ⟨h0,_⟩
  · rcases h.2 with ⟨_,h0⟩ | ⟨g,cap,cur,hv,hb,hg,_⟩
    · omega
    · injection hv with hA _ _
      injection hA with hA
      injection hA with hA _ _
      subst hA
      exact⟨hb,cur,hg⟩
  · omega
theorem SOwn.glt (h:SOwn w b e k (some ⟨q,0,none⟩) xs c) (hp:0 < xs.length):q < w.heap.size:=by
  obtain⟨_,cur,hg⟩:=h.blk hp
  exact (Array.getElem?_eq_some_iff.1 hg).1
theorem SOwn.above (h:SOwn w (q + 1) e k A xs c) (hu:Upd (fun b=>b=q) w w'):SOwn w' (q + 1) e k A xs c:=Own.upd h hu fun i hi he=>by
  have:=(Own.lt h i hi).1
  omega
theorem s_elem {P:Program} {t:TypeId} {g i:Nat} (y:Int) (hs:∀ w,(sizeOf t).run P w=.ok 1 w) (h:SOwn w b e k (some ⟨g,0,none⟩) xs c) (hi:i < xs.length) (hy:0≤y) :
    ∃ w',w'=w.setCell ⟨g,i,none⟩ (.int k y)∧(storeVar t ⟨g,i,none⟩ (.int k y)).run P w=.ok () w'∧SOwn w' b e k (some ⟨g,0,none⟩) (xs.set i y.toNat) c∧b≤g∧Upd (fun q=>q=g) w w' ∧
      ∀ q T cs,e ≠ T→Blk w q T cs→Blk w' q T cs:=by
  obtain⟨hbg,cur,hg⟩:=h.blk (by omega)
  have hrow:=h.row
  obtain⟨b',o,hA,hel⟩:=hrow.at hi
  injection hA with hA
  injection hA with hA ho _
  subst hA ho
  have hst:(store ⟨g,i,none⟩ (.int k y)).run P w=.ok () (w.setCell ⟨g,i,none⟩ (.int k y)):=by
    rw [run_store P w _ _ _ rfl]
    have h1:=hel.1
    rw [Nat.zero_add] at h1
    rw [h1]
    have:w.frozen? ⟨g,i,none⟩=false:=by simp [World.frozen?,hg]
    simp [this]
  have hadd0:(⟨g,i,none⟩:Addr).add 0=⟨g,i,none⟩:=by simp [Addr.add]
  have hu:Upd (fun q=>q=g) w (w.setCell ⟨g,i,none⟩ (.int k y)):=(Upd.refl (fun k=>k=g) w).setCell (.inl rfl) _
  refine ⟨_,rfl,?_,?_,hbg,hu,fun q T cs hne hb=>hb.far (p:=⟨g,i,none⟩) (by
    rintro rfl
    unfold Blk at hb
    rw [hg] at hb
    injection hb with hb
    injection hb with _ hb _
    exact hne hb) _⟩
  · simp [storeVar,hs,show (Value.int k y).cells=#[.int k y] from rfl,storeCells,hadd0,hst]
  · rcases h with h | ⟨h0,_⟩
    · have h2:=(World.ownsRow.stored h i (.int k y)).1
      unfold SOwn sv
      rw [List.length_set]
      refine .inl ?_
      have e2:enc k (xs.set i y.toNat)=(enc k xs).set i (.int k y):=by
        unfold enc
        rw [List.map_set,Int.toNat_of_nonneg hy]
      rw [e2]
      exact h2
    · omega
theorem sv_set (A:Option Addr) (xs:List Nat) (c i y:Nat):sv A xs c=sv A (xs.set i y) c:=by simp [sv]
end
section
variable {P:Program} {o:Oper} {a:Act} {w:World} {t e:TypeId} {z:Value} {by_:Nat} {k:IntKind} {A B:Option Addr} {xs ys:List Nat} {c d b:Nat}
theorem v_lenR {x:Operand} (ho:o.op=.call { callee:=.builtin .len,args:=#[x],argTypes:=#[t] }) (hE:ElemT P t e z 1 by_) (hx:a.eval x=sv A xs c):(execOp a.eval o).run P w=.ok (.value (.int .i64 (xs.length:Int))) w:=by
  have h:(Builtin.len_ #[t] o.type #[.slice A xs.length c]).run P w=.ok (goInt xs.length) w:=by simp [Builtin.len_,run_underlying hE.1]
  simp [execOp,ho,resolve,invoke,builtin,hx,h,goInt]
theorem v_eaddr {x y:Operand} {k':IntKind} {i:Int} (ho:o.op=.indexAddr t x y) (hE:ElemT P t e z 1 by_) (hx:a.eval x=sv A xs c) (hy:a.eval y=.int k' i) (hr:SRow w k A xs c) (hi:0≤i∧i < xs.length) :
    ∃ b o',(execOp a.eval o).run P w=.ok (.value (.pointer (some ⟨b,o',none⟩))) w∧SElem w b o' (.int k ((xs.getD i.toNat 0:Nat):Int)):=by
  obtain⟨ht,hinfo,_,_⟩:=hE
  obtain⟨it,hit,_,hsize,_⟩:=info_parts hinfo
  obtain⟨b,o',rfl,he⟩:=hr.at (i:=i.toNat) (by omega)
  refine ⟨b,o' + i.toNat,?_,he⟩
  have hadd:(⟨b,o',none⟩:Addr).add i.toNat=⟨b,o' + i.toNat,none⟩:=by unfold Addr.add; split <;> simp_all
  simp [execOp,ho,hx,hy,Instr.indexAt,run_underlying ht,asIntOf,sizeOf,typeInfo,hit,hsize,hi,hadd]
theorem v_eptr {x y:Operand} {k':IntKind} {i:Int} {g:Nat} (ho:o.op=.indexAddr t x y) (hE:ElemT P t e z 1 by_) (hx:a.eval x=sv (some ⟨g,0,none⟩) xs c) (hy:a.eval y=.int k' i) (hi:0≤i∧i < xs.length) :
    (execOp a.eval o).run P w=.ok (.value (.pointer (some ⟨g,i.toNat,none⟩))) w:=by
  obtain⟨ht,hinfo,_,_⟩:=hE
  obtain⟨it,hit,_,hsize,_⟩:=info_parts hinfo
  have hadd:(⟨g,0,none⟩:Addr).add i.toNat=⟨g,i.toNat,none⟩:=by unfold Addr.add; split <;> simp_all
  simp [execOp,ho,hx,hy,Instr.indexAt,run_underlying ht,asIntOf,sizeOf,typeInfo,hit,hsize,hi,hadd]
theorem l_own {g i:Nat} {t':TypeId} (ht:∀ w,(isAgg t').run P w=.ok false w) (h:SRow w k (some ⟨g,0,none⟩) xs c) (hi:i < xs.length):(loadVar t' ⟨g,i,none⟩).run P w=.ok (.int k ((xs.getD i 0:Nat):Int)) w:=by
  obtain⟨b,o',hA,he⟩:=h.at hi
  injection hA with hA
  injection hA with hA ho _
  subst hA ho
  rw [Nat.zero_add] at he
  exact l_one ht he.1
theorem cut_row (h:SRow w k A xs c) {l hh:Nat} (h1:l≤hh) (h2:hh≤xs.length) :
    ∃ A' ,Go.sliced A l hh c 1=sv A' ((xs.take hh).drop l) (c - l)∧SRow w k A' ((xs.take hh).drop l) (c - l):=by
  have hlen:((xs.take hh).drop l).length=hh - l:=by simp; omega
  refine ⟨if c=l then A else A.map (·.add (l * 1)),?_,?_⟩
  · unfold Go.sliced sv; rw [hlen]
  · refine ⟨by simp [enc],?_⟩
    rw [hlen]
    rcases Nat.lt_or_ge l hh with hlt | hge
    · rcases h.2 with ⟨h0,_⟩ | ⟨b,off,c',hv,hc,hm,hb,hx⟩
      · omega
      · injection hv with hA _ hc'
        subst hA hc'
        rw [if_neg (by omega)]
        have hadd:(⟨b,off,none⟩:Addr).add (l * 1)=⟨b,off + l,none⟩:=by unfold Addr.add; split <;> simp_all
        refine .inr ⟨b,off + l,c - l,by simp only [Option.map_some,hadd,sv,hlen],by omega,by omega,hb,fun j u hj=>?_⟩
        rw [Nat.add_assoc]
        refine hx _ u ?_
        simp only [enc,List.getElem?_map,List.getElem?_drop,List.getElem?_take] at hj ⊢
        split at hj
        · exact hj
        · simp at hj
    · exact .inl ⟨by omega,_,_,by unfold sv; rw [hlen,show hh - l=0 by omega]⟩
theorem v_cutLH {x y y':Operand} {k1 k2:IntKind} {l hh:Int} (ho:o.op=.slice t x (some y) (some y') none) (hE:ElemT P t e z 1 by_) (hx:a.eval x=sv A xs c) (hy:a.eval y=.int k1 l) (hy':a.eval y'=.int k2 hh) (hr:SRow w k A xs c) (hl:0≤l∧l≤hh∧hh≤xs.length) :
    ∃ A' c',(execOp a.eval o).run P w=.ok (.value (sv A' ((xs.take hh.toNat).drop l.toNat) c')) w∧SRow w k A' ((xs.take hh.toNat).drop l.toNat) c':=by
  obtain⟨ht,hinfo,_,_⟩:=hE
  obtain⟨it,hit,_,hsize,_⟩:=info_parts hinfo
  obtain⟨A',hs,hr'⟩:=cut_row hr (l:=l.toNat) (hh:=hh.toNat) (by omega) (by omega)
  refine ⟨A',_,?_,hr'⟩
  have hc:xs.length≤c:=by
    rcases hr.2 with ⟨h0,_⟩ | ⟨_,_,c',hv,hc,_⟩
    · omega
    · injection hv with _ _ h3; omega
  have e1:(hh.toNat:Int)=hh:=Int.toNat_of_nonneg (by omega)
  have e2:(l.toNat:Int)=l:=Int.toNat_of_nonneg (by omega)
  rw [← hs]
  simp [execOp,ho,hx,hy,hy',Instr.sliceAt,Instr.slice,run_underlying ht,Instr.sliceBounds,Instr.sliceBound,asIntOf,sizeOf,typeInfo,hit,hsize,Go.sliced,show 0≤hh by omega,show hh≤(c:Int) by omega,hl.1,hl.2.1,e1]
theorem v_cutH {x y':Operand} {k2:IntKind} {hh:Int} (ho:o.op=.slice t x none (some y') none) (hE:ElemT P t e z 1 by_) (hx:a.eval x=sv A xs c) (hy':a.eval y'=.int k2 hh) (hr:SRow w k A xs c) (hl:0≤hh∧hh≤xs.length) :
    ∃ A' c',(execOp a.eval o).run P w=.ok (.value (sv A' (xs.take hh.toNat) c')) w∧SRow w k A' (xs.take hh.toNat) c':=by
  obtain⟨ht,hinfo,_,_⟩:=hE
  obtain⟨it,hit,_,hsize,_⟩:=info_parts hinfo
  obtain⟨A',hs,hr'⟩:=cut_row hr (l:=0) (hh:=hh.toNat) (by omega) (by omega)
  rw [List.drop_zero] at hs hr'
  refine ⟨A',_,?_,hr'⟩
  have hc:xs.length≤c ∨ xs.length=0:=by
    rcases hr.2 with ⟨h0,_⟩ | ⟨_,_,c',hv,hc,_⟩
    · exact .inr h0
    · injection hv with _ _ h3; omega
  have e1:(hh.toNat:Int)=hh:=Int.toNat_of_nonneg (by omega)
  rw [← hs]
  simp [execOp,ho,hx,hy',Instr.sliceAt,Instr.slice,run_underlying ht,Instr.sliceBounds,Instr.sliceBound,asIntOf,sizeOf,typeInfo,hit,hsize,Go.sliced,hl.1,show hh≤(c:Int) by omega,e1]
theorem v_cutL {x y:Operand} {k1:IntKind} {l:Int} (ho:o.op=.slice t x (some y) none none) (hE:ElemT P t e z 1 by_) (hx:a.eval x=sv A xs c) (hy:a.eval y=.int k1 l) (hr:SRow w k A xs c) (hl:0≤l∧l≤xs.length) :
    ∃ A' c',(execOp a.eval o).run P w=.ok (.value (sv A' (xs.drop l.toNat) c')) w∧SRow w k A' (xs.drop l.toNat) c':=by
  obtain⟨ht,hinfo,_,_⟩:=hE
  obtain⟨it,hit,_,hsize,_⟩:=info_parts hinfo
  obtain⟨A',hs,hr'⟩:=cut_row hr (l:=l.toNat) (hh:=xs.length) (by omega) (by omega)
  rw [List.take_length] at hs hr'
  refine ⟨A',_,?_,hr'⟩
  have e2:(l.toNat:Int)=l:=Int.toNat_of_nonneg (by omega)
  rw [← hs]
  simp [execOp,ho,hx,hy,Instr.sliceAt,Instr.slice,run_underlying ht,Instr.sliceBounds,Instr.sliceBound,asIntOf,sizeOf,typeInfo,hit,hsize,Go.sliced,hl.1,hl.2]
theorem own_fresh (w:World) (k:IntKind) (e:TypeId) (ys:List Nat) (hm:ys.length≤maxLen):SOwn (w.alloc (.cells (enc k ys).toArray e)) w.heap.size e k (some ⟨w.heap.size,0,none⟩) ys ys.length:=by
  refine .inl ⟨by simp [enc],.inr ⟨w.heap.size,_,_,rfl,Nat.le_refl _,heap_alloc_new w _,Nat.le_refl _,hm,by simp [enc],?_⟩⟩
  rw [Nat.mul_one]
  exact List.take_of_length_le (by simp [enc])
theorem v_bslice {parts:Array (Nat × Operand)} {n:Nat} {ps:List (Nat × Value)} (ys:List Nat) (ho:o.op=.buildSlice t n parts) (hp:(parts.map fun (i,x)=>(i,a.eval x))=ps.toArray) (hE:ElemT P t e z 1 by_) (hn:n=ys.length) (hn0:0 < n) (hsm:n≤1000000)
    (hf:Instr.fill (fun i=>some (i * 1,1)) ((Array.range (n * 1)).map (z.cells[· % z.cells.size]!)) ps=some (enc k ys).toArray) :
    ∃ A' c' w',(execOp a.eval o).run P w=.ok (.value (sv A' ys c')) w'∧New w w'∧SOwn w' w.heap.size e k A' ys c':=by
  obtain⟨ht,hinfo,_,_⟩:=hE
  obtain⟨it,hit,hz,hsize,_⟩:=info_parts hinfo
  refine ⟨some ⟨w.heap.size,0,none⟩,ys.length,w.alloc (.cells (enc k ys).toArray e),?_,(Upd.refl _ _).alloc _,own_fresh w k e ys (by unfold maxLen; omega)⟩
  have h:=run_buildSlice (P:=P) w t e n ps.toArray (enc k ys).toArray it z ht hit hz (by rw [hsize]; omega) (by rw [hsize]; omega) (by rw [hsize]; exact hf)
  simp only [execOp,ho,hp,Sem.run_bind,h,Result.andThen_ok]
  rw [hn]
  rfl
theorem v_bslice0 {parts:Array (Nat × Operand)} (k:IntKind) (ho:o.op=.buildSlice t 0 parts) (hp:(parts.map fun (i,x)=>(i,a.eval x))=([]:List (Nat × Value)).toArray) (hE:ElemT P t e z 1 by_) :
    ∃ A' c' w',(execOp a.eval o).run P w=.ok (.value (sv A' [] c')) w'∧New w w'∧SOwn w' w.heap.size e k A' [] c':=by
  obtain⟨ht,hinfo,_,_⟩:=hE
  obtain⟨it,hit,hz,hsize,_⟩:=info_parts hinfo
  refine ⟨some ⟨w.heap.size,0,none⟩,0,w.alloc (.cells (enc k []).toArray e),?_,(Upd.refl _ _).alloc _,own_fresh w k e [] (by simp)⟩
  simp only [execOp,ho,hp]
  simp [Instr.buildSlice,run_underlying ht,sizeOf,typeInfo,hit,hsize,Instr.fill,newRow,enc,sv,Array.range_zero']
theorem enc_rep (k:IntKind) (n:Nat):enc k (List.replicate n 0)=List.replicate n (.int k 0):=by simp [enc]
theorem v_make {x y:Operand} {kl:IntKind} {n:Int} (k:IntKind) (ho:o.op=.makeSlice t x y) (hx:a.eval x=.int kl n) (hy:a.eval y=.int kl n) (hE:ElemT P t e (.int k 0) 1 by_) (h0:0≤n) (hb:(by_:Int) * n≤281474976710656) (h63:n≤4611686018427387904) :
    ∃ A' c' w',(execOp a.eval o).run P w=.ok (.value (sv A' (List.replicate n.toNat 0) c')) w'∧New w w'∧SOwn w' w.heap.size e k A' (List.replicate n.toNat 0) c':=by
  obtain⟨ht,hinfo,_,_⟩:=hE
  obtain⟨it,hit,hz,hsize,hby⟩:=info_parts hinfo
  have h:=run_make (P:=P) w t e it (.int k 0) ht hit hz kl kl n n h0 (Int.le_refl _) (by rw [hby]; exact hb) (by omega)
  have hcs:madeCells (Value.int k 0).cells (n.toNat * it.size)=(enc k (List.replicate n.toNat 0)).toArray:=by
    apply Array.ext'
    rw [hsize,Nat.mul_one,enc_rep,show (Value.int k 0).cells=#[Value.int k 0] from rfl,toList_madeCells_one]
  rw [hcs] at h
  have ho2:=own_fresh w k e (List.replicate n.toNat 0) (by simp [maxLen]; omega)
  refine ⟨some ⟨w.heap.size,0,none⟩,(List.replicate n.toNat 0).length,w.alloc (.cells (enc k (List.replicate n.toNat 0)).toArray e),?_,(Upd.refl _ _).alloc _,ho2⟩
  unfold sv
  rw [List.length_replicate]
  simp only [execOp,ho,hx,hy,Sem.run_bind,h,Result.andThen_ok]
  rfl
theorem a_append {K:Act→World→Prop} {Q:Exit→Act→World→Prop} {s x:Operand} (ho:o.op=.call { callee:=.builtin .append,args:=#[s,x],argTypes:=#[t,t] }) (hE:ElemT P t e z 1 by_) (hs:a.eval s=sv A xs c) (hown:SOwn w b e k A xs c) (hx:a.eval x=sv B ys d) (hr:SRow w k B ys d)
    (hby:(xs.length + ys.length) * by_≤140737488355328) (h63:xs.length + ys.length≤4611686018427387904) (hb:b≤w.heap.size)
    (h:∀ A' c' w',SOwn w' b e k A' (xs ++ ys) c'→w.grownBy w' (ownB (sv A xs c))→K (a.put o.dst (sv A' (xs ++ ys) c')) w'):o.wp P a w K Q:=by
  refine wp_append_row w s x hE ho b (sv A xs c) xs.length (enc k xs) hs hown (sv B ys d) ys.length (enc k ys) hx hr (enc_one k ys) hby (by unfold maxLen; omega) hb fun v' w' h2 h3 h4=>?_
  obtain⟨A',c',rfl⟩:=h2.row.form
  have h5:SOwn w' b e k A' (xs ++ ys) c':=by
    unfold SOwn sv
    rw [List.length_append,show enc k (xs ++ ys)=enc k xs ++ enc k ys by simp [enc]]
    exact h2
  have h6:=h A' c' w' h5 h3
  unfold sv at h6
  rw [List.length_append] at h6
  exact h6
theorem Upd.ownGrown {w0 w w':World} {A:Option Addr} {xs:List Nat} {c:Nat} (hN:New w0 w) (hown:SOwn w w0.heap.size e k A xs c) (hg:w.grownBy w' (ownB (sv A xs c))):New w0 w':=hN.grown hg fun k hk=>.inr (Own.lt hown k hk).1
theorem Blk.ownGrown {w w':World} {q:Nat} {T:TypeId} {cs:List Value} (hb:Blk w q T cs) (hown:SOwn w b e k A xs c) (hne:e ≠ T) (hg:w.grownBy w' (ownB (sv A xs c))):Blk w' q T cs:=hb.grown hg fun he=>Own.ne_blk hown hb hne q he.symm rfl
end
section
variable {P:Program}
section
variable {o:Oper} {a:Act} {w:World} {t e:TypeId} {z:Value} {by_:Nat} {k:IntKind} {A B:Option Addr} {xs ys:List Nat} {c d b:Nat} {T:Value→World→Prop}
theorem x_eaddr {x y:Operand} {k':IntKind} {i:Int} (ho:o.op=.indexAddr t x y) (hE:ElemT P t e z 1 by_) (hx:a.eval x=sv A xs c) (hy:a.eval y=.int k' i) (hr:SRow w k A xs c) (hi:0≤i∧i < xs.length)
    (h:∀ b o',SElem w b o' (.int k ((xs.getD i.toNat 0:Nat):Int))→T (.pointer (some ⟨b,o',none⟩)) w):∃ v,(execOp a.eval o).run P w=.ok (.value v) w∧T v w:=by
  obtain⟨b,o',hrun,he⟩:=v_eaddr ho hE hx hy hr hi
  exact⟨_,hrun,h _ _ he⟩
theorem x_cutLH {x y y':Operand} {k1 k2:IntKind} {l hh:Int} (ho:o.op=.slice t x (some y) (some y') none) (hE:ElemT P t e z 1 by_) (hx:a.eval x=sv A xs c) (hy:a.eval y=.int k1 l) (hy':a.eval y'=.int k2 hh) (hr:SRow w k A xs c) (hl:0≤l∧l≤hh∧hh≤xs.length)
    (h:∀ A' c',SRow w k A' ((xs.take hh.toNat).drop l.toNat) c'→T (sv A' ((xs.take hh.toNat).drop l.toNat) c') w):∃ v,(execOp a.eval o).run P w=.ok (.value v) w∧T v w:=by
  obtain⟨A',c',hrun,he⟩:=v_cutLH ho hE hx hy hy' hr hl
  exact⟨_,hrun,h _ _ he⟩
theorem x_cutH {x y':Operand} {k2:IntKind} {hh:Int} (ho:o.op=.slice t x none (some y') none) (hE:ElemT P t e z 1 by_) (hx:a.eval x=sv A xs c) (hy':a.eval y'=.int k2 hh) (hr:SRow w k A xs c) (hl:0≤hh∧hh≤xs.length)
    (h:∀ A' c',SRow w k A' (xs.take hh.toNat) c'→T (sv A' (xs.take hh.toNat) c') w):∃ v,(execOp a.eval o).run P w=.ok (.value v) w∧T v w:=by
  obtain⟨A',c',hrun,he⟩:=v_cutH ho hE hx hy' hr hl
  exact⟨_,hrun,h _ _ he⟩
theorem x_cutL {x y:Operand} {k1:IntKind} {l:Int} (ho:o.op=.slice t x (some y) none none) (hE:ElemT P t e z 1 by_) (hx:a.eval x=sv A xs c) (hy:a.eval y=.int k1 l) (hr:SRow w k A xs c) (hl:0≤l∧l≤xs.length)
    (h:∀ A' c',SRow w k A' (xs.drop l.toNat) c'→T (sv A' (xs.drop l.toNat) c') w):∃ v,(execOp a.eval o).run P w=.ok (.value v) w∧T v w:=by
  obtain⟨A',c',hrun,he⟩:=v_cutL ho hE hx hy hr hl
  exact⟨_,hrun,h _ _ he⟩
theorem x_bslice {parts:Array (Nat × Operand)} {n:Nat} {ps:List (Nat × Value)} (ys:List Nat) (ho:o.op=.buildSlice t n parts) (hp:(parts.map fun (i,x)=>(i,a.eval x))=ps.toArray) (hE:ElemT P t e z 1 by_) (hn:n=ys.length) (hn0:0 < n) (hsm:n≤1000000)
    (hf:Instr.fill (fun i=>some (i * 1,1)) ((Array.range (n * 1)).map (z.cells[· % z.cells.size]!)) ps=some (enc k ys).toArray)
    (h:∀ A' c' w',SOwn w' w.heap.size e k A' ys c'→T (sv A' ys c') w'):∃ v w',(execOp a.eval o).run P w=.ok (.value v) w'∧New w w'∧T v w':=by
  obtain⟨A',c',w',hrun,hn,he⟩:=v_bslice ys ho hp hE hn hn0 hsm hf
  exact⟨_,_,hrun,hn,h _ _ _ he⟩
theorem x_bslice0 {parts:Array (Nat × Operand)} (k:IntKind) (ho:o.op=.buildSlice t 0 parts) (hp:(parts.map fun (i,x)=>(i,a.eval x))=([]:List (Nat × Value)).toArray) (hE:ElemT P t e z 1 by_)
    (h:∀ A' c' w',SOwn w' w.heap.size e k A' [] c'→T (sv A' [] c') w'):∃ v w',(execOp a.eval o).run P w=.ok (.value v) w'∧New w w'∧T v w':=by
  obtain⟨A',c',w',hrun,hn,he⟩:=v_bslice0 k ho hp hE
  exact⟨_,_,hrun,hn,h _ _ _ he⟩
theorem x_make {x y:Operand} {kl:IntKind} {n:Int} (k:IntKind) (ho:o.op=.makeSlice t x y) (hx:a.eval x=.int kl n) (hy:a.eval y=.int kl n) (hE:ElemT P t e (.int k 0) 1 by_) (h0:0≤n) (hb:(by_:Int) * n≤281474976710656) (h63:n≤4611686018427387904)
    (h:∀ A' c' w',SOwn w' w.heap.size e k A' (List.replicate n.toNat 0) c'→T (sv A' (List.replicate n.toNat 0) c') w'):∃ v w',(execOp a.eval o).run P w=.ok (.value v) w'∧New w w'∧T v w':=by
  obtain⟨A',c',w',hrun,hn,he⟩:=v_make k ho hx hy hE h0 hb h63
  exact⟨_,_,hrun,hn,h _ _ _ he⟩
end
end
section
variable {P:Program} {ops:Array Oper} {Q:Exit→Act→World→Prop} {T:Nat→Value→World→Prop} {F:Array Bool} {a0:Act} {w0:World} {i:Nat}
theorem tkA {o:Oper} (hi:ops.toList[i]?=some o) (hw:∀ a w,New w0 w→Known ops F T a0 i a w→Region.wanted o (yielded ops a.tmps)=true)
    (h:∀ a w,New w0 w→Known ops F T a0 i a w→∃ v w',(execOp a.eval o).run P w=.ok (.value v) w'∧New w w'∧T i v w'):StepOk P ops Q F T a0 w0 i:=by
  refine ⟨o,hi,fun a w hn hk=>?_⟩
  obtain⟨v,w',hv,hn',hT⟩:=h a w hn hk
  have hi':ops[i]?=some o:=by rw [← Array.getElem?_toList]; exact hi
  unfold wpOp
  simp only [hi',hw a w hn hk,if_true,Oper.wp,hv,Oper.upon]
  exact .inl ⟨v,rfl,hn',hT⟩
theorem tkC {o:Oper} {f:FuncId} {xs:Array Operand} {ats:Array TypeId} (hi:ops.toList[i]?=some o) (hw:∀ a w,New w0 w→Known ops F T a0 i a w→Region.wanted o (yielded ops a.tmps)=true)
    (ho:o.op=.call { callee:=.value (.func f),args:=xs,argTypes:=ats })
    (h:∀ a w,New w0 w→Known ops F T a0 i a w→∃ (args:Array Value) (R:Ending→World→Prop),xs.toList.map a.eval=args.toList∧(∀ w,(callFunc f args).run P w=.ok (.enter f args) w)∧Calls P f args w R∧∀ e w',R e w'→∃ v,e=.returned v∧New w w'∧T i v w'):StepOk P ops Q F T a0 w0 i:=step_callG hi hw ho h
end
def RetS (T:TypeId) (k:IntKind) (xs:List Nat) (w:World) (en:Ending) (w':World):Prop:=∃ A c,en=.returned (sv A xs c)∧SOwn w' w.heap.size T k A xs c∧New w w'
theorem wp_seq_j {P:Program} {c d:Code} {Q:Exit→Act→World→Prop} {a:Act} {w:World} (J:Act→World→Prop) (hr:∀ a w,J a w→d.wp P Q a w) (h:∀ K:Act→World→Prop,(∀ a w,J a w→K a w)→c.wp P (Exit.then K Q) a w):(Code.seq c d).wp P Q a w:=wp_seq_k fun K hK=>h K fun a w hj=>hK a w (hr a w hj)
theorem blk_n {n:Nat} {Q:Exit→Act→World→Prop} {a:Act} {w:World} (h:Q .normal a w):Exit.inBlock n Q .normal a w:=h
section
variable {P:Program} {t:TypeId} {k:IntKind} {x y r:Int}
theorem n_add (h:x + y=r) (hw:k.wrap r=r):∀ w,(binOp .add t (.int k x) (.int k y)).run P w=.ok (.int k r) w:=by
  intro w; subst h; simp [binOp,Op.intArith,hw]
theorem n_sub (h:x - y=r) (hw:k.wrap r=r):∀ w,(binOp .sub t (.int k x) (.int k y)).run P w=.ok (.int k r) w:=by
  intro w; subst h; simp [binOp,Op.intArith,hw]
theorem n_mul (h:x * y=r) (hw:k.wrap r=r):∀ w,(binOp .mul t (.int k x) (.int k y)).run P w=.ok (.int k r) w:=by
  intro w; subst h; simp [binOp,Op.intArith,hw]
theorem n_quo (h:x.tdiv y=r) (hy:y ≠ 0) (hw:k.wrap r=r):∀ w,(binOp .quo t (.int k x) (.int k y)).run P w=.ok (.int k r) w:=by
  intro w; simp [binOp,Op.intDiv,h,hy,hw]
theorem n_rem (h:x.tmod y=r) (hy:y ≠ 0):∀ w,(binOp .rem t (.int k x) (.int k y)).run P w=.ok (.int k r) w:=by
  intro w; simp [binOp,Op.intDiv,h,hy]
theorem n_quoN (n m:Nat) (hm:0 < m) (hw:k.wrap ((n / m:Nat):Int)=((n / m:Nat):Int)):∀ w,(binOp .quo t (.int k (n:Int)) (.int k (m:Int))).run P w=.ok (.int k ((n / m:Nat):Int)) w:=n_quo rfl (by omega) hw
theorem n_remN (n m:Nat) (hm:0 < m):∀ w,(binOp .rem t (.int k (n:Int)) (.int k (m:Int))).run P w=.ok (.int k ((n % m:Nat):Int)) w:=n_rem rfl (by omega)
theorem n_conv {s d:TypeId} {k kd:IntKind} {n m:Int} {w:World} (hs:(P.underlying s).isSome=true) (hd:P.underlying d=some (.int (P.intKind d))) (hk:P.intKind d=kd) (hr:kd.wrap n=m):(convert s d (.int k n)).run P w=.ok (.int kd m) w:=by
  rw [run_convert_int (src:=s) (dst:=d) (k:=k) (n:=n) (hs:=hs) (hd:=hd),hk,hr]
theorem n_wrap32 (n:Nat):IntKind.u32.wrap (n:Int)=((n % 4294967296:Nat):Int):=by simp [IntKind.wrap,IntKind.bits,IntKind.signed]
theorem n_wrap8 (n:Nat):IntKind.u8.wrap (n:Int)=((n % 256:Nat):Int):=by simp [IntKind.wrap,IntKind.bits,IntKind.signed]
theorem n_bits (k:IntKind) (n:Nat) (hn:n < 2 ^ k.bits):(BitVec.ofInt k.bits (n:Int)).toNat=n:=by
  rw [BitVec.ofInt_natCast,BitVec.toNat_ofNat,Nat.mod_eq_of_lt hn]
theorem n_and (n m:Nat) (hn:n < 2 ^ k.bits) (hm:m < 2 ^ k.bits) (hw:k.wrap ((n &&& m:Nat):Int)=((n &&& m:Nat):Int)):∀ w,(binOp .and t (.int k (n:Int)) (.int k (m:Int))).run P w=.ok (.int k ((n &&& m:Nat):Int)) w:=by
  intro w
  simp only [binOp,Op.intBits,BitVec.toNat_and,n_bits k n hn,n_bits k m hm,hw]
  simp
theorem n_or (n m:Nat) (hn:n < 2 ^ k.bits) (hm:m < 2 ^ k.bits) (hw:k.wrap ((n ||| m:Nat):Int)=((n ||| m:Nat):Int)):∀ w,(binOp .or t (.int k (n:Int)) (.int k (m:Int))).run P w=.ok (.int k ((n ||| m:Nat):Int)) w:=by
  intro w
  simp only [binOp,Op.intBits,BitVec.toNat_or,n_bits k n hn,n_bits k m hm,hw]
  simp
theorem n_andU64 (n m:Nat) (hn:n < 18446744073709551616) (hm:m < 18446744073709551616):∀ w,(binOp .and t (.int .u64 (n:Int)) (.int .u64 (m:Int))).run P w=.ok (.int .u64 ((n &&& m:Nat):Int)) w :=
  n_and n m hn hm (IntWalk.u64_in _ (by have:=Nat.and_le_left (n:=n) (m:=m); omega))
theorem n_andU32 (n m:Nat) (hn:n < 4294967296) (hm:m < 4294967296):∀ w,(binOp .and t (.int .u32 (n:Int)) (.int .u32 (m:Int))).run P w=.ok (.int .u32 ((n &&& m:Nat):Int)) w :=
  n_and n m hn hm (IntWalk.u32_in _ (by have:=Nat.and_le_left (n:=n) (m:=m); omega))
theorem n_orU32 (n m:Nat) (hn:n < 4294967296) (hm:m < 4294967296):∀ w,(binOp .or t (.int .u32 (n:Int)) (.int .u32 (m:Int))).run P w=.ok (.int .u32 ((n ||| m:Nat):Int)) w :=
  n_or n m hn hm (IntWalk.u32_in _ (by have:n ||| m < 2 ^ 32:=Nat.or_lt_two_pow hn hm; omega))
theorem n_bit32 (n:Nat) (hn:n < 4294967296):∀ w,(binOp .and t (.int .u32 (n:Int)) (.int .u32 1)).run P w=.ok (.int .u32 ((n % 2:Nat):Int)) w:=by
  have h:=n_andU32 (P:=P) (t:=t) n 1 hn (by omega)
  rw [show n &&& 1=n % 2 from Nat.and_two_pow_sub_one_eq_mod n 1] at h
  exact h
theorem n_andMask64 (n:Nat) (hn:n < 18446744073709551616):∀ w,(binOp .and t (.int .u64 (n:Int)) (.int .u64 4294967295)).run P w=.ok (.int .u64 ((n % 4294967296:Nat):Int)) w:=by
  have h:=n_andU64 (P:=P) (t:=t) n 4294967295 hn (by omega)
  rw [show n &&& 4294967295=n % 4294967296 from Nat.and_two_pow_sub_one_eq_mod n 32] at h
  exact h
theorem n_shr {kk:IntKind} (n s:Nat) (hs:s < k.bits):∀ w,(binOp .shr t (.int k (n:Int)) (.int kk (s:Int))).run P w=.ok (.int k ((n / 2 ^ s:Nat):Int)) w:=by
  intro w
  have h1:¬ (s:Int) < 0:=by omega
  have h2:min s k.bits=s:=by omega
  have h3:(n:Int).fdiv (2 ^ s)=((n / 2 ^ s:Nat):Int):=by
    rw [Int.fdiv_eq_ediv_of_nonneg _ (Int.le_of_lt (Int.pow_pos (by omega)))]
    simp
  simp [binOp,Op.shift,h1,h2,h3]
theorem n_shl {kk:IntKind} (n s:Nat) (hs:s < k.bits) (hw:k.wrap ((n * 2 ^ s:Nat):Int)=((n * 2 ^ s:Nat):Int)):∀ w,(binOp .shl t (.int k (n:Int)) (.int kk (s:Int))).run P w=.ok (.int k ((n * 2 ^ s:Nat):Int)) w:=by
  intro w
  have h1:¬ (s:Int) < 0:=by omega
  have h2:min s k.bits=s:=by omega
  have h3:((n * 2 ^ s:Nat):Int)=(n:Int) * 2 ^ s:=by simp
  rw [h3] at hw
  simp [binOp,Op.shift,h1,h2,hw,h3]
theorem pow_wrap32 (s:Nat) (hs:s < 32):IntKind.u32.wrap ((1 * 2 ^ s:Nat):Int)=((1 * 2 ^ s:Nat):Int):=by
  have:2 ^ s < 2 ^ 32:=Nat.pow_lt_pow_right (by omega) hs
  exact IntWalk.u32_in _ (by omega)
end
section
variable {w:World} {o:Oper} {a:Act} {P:Program}
theorem v_adds {t t':TypeId} {x y:Operand} {s s':ByteArray} (ho:o.op=.binOp .add t x y t') (hx:a.eval x=.string s) (hy:a.eval y=.string s') (hl:s.size + s'.size≤9223372036854775807):(execOp a.eval o).run P w=.ok (.value (.string (s ++ s'))) w:=by
  simp [execOp,ho,hx,hy,binOp,eqGuard,Op.stringOp]; omega
end
section
variable {P:Program} {ops:Array Oper} {Q:Exit→Act→World→Prop}
def EagerOkS (P:Program) (ops:Array Oper) (S:World→Prop) (F:Array Bool) (T:Nat→Value→World→Prop) (a0:Act) (w0:World) (i:Nat):Prop :=
  ∃ o,ops.toList[i]?=some o∧∀ a w,New w0 w→Known ops F T a0 i a w→∃ v,YieldsIf P ops S o v a∧T i v w
theorem wpJ_invS {S:World→Prop} (hSn:∀ w w',New w w'→S w→S w') {a0:Act} {w0:World} {F:Array Bool} {E:List Nat} {R:List (Nat × Bool)} {N:Nat} (T:Nat→Value→World→Prop) (news:List Nat) (hEN:∀ i,E.contains i=true→news.contains i=false) (hold:∀ j,news.contains j=true→∀ v w,T j v w→OldPtr v w) (hc:invCheck ops F E R N=true) (hN:a0.tmps.size=N)
    (hQ:∀ c a d v w,Q (.panic c) (a.put d v) w→Q (.panic c) a w)
    (hT:∀ i v w w',New w w'→T i v w→T i v w')
    (hstep:∀ i,F.getD i false=true→E.contains i=false→StepG P ops Q F T a0 w0 news i) (heager:∀ i,E.contains i=true→EagerOkS P ops S F T a0 w0 i)
    (hend:∀ vals w,S w→New w0 w→(∀ i,F.getD i false=true→T i (vals i) w)→(∀ i j,F.getD i false=true→F.getD j false=true→news.contains i=true→news.contains j=true→i ≠ j→vals i ≠ vals j)→stepsTo P ops S Q R (putAll F vals ops.toList 0 a0) w) :
    ∀ (n:Nat) (l:Array Bool) (vals:Nat→Value) (a:Act) (w:World),cntU F l ops.size=n→l.size=ops.size→(∀ i,l.getD i false=true→F.getD i false=true) →
      (∀ i o,ops[i]?=some o→l.getD i false=true→∀ e ∈ o.after,Region.binds .any e=true→l.getD e.on false=true) →
      Shape ops a0 vals l a→S w→New w0 w→(∀ i,l.getD i false=true→T i (vals i) w) →
      (∀ i j,l.getD i false=true→l.getD j false=true→news.contains i=true→news.contains j=true→i ≠ j→vals i ≠ vals j)→wpJ P .any ops Q S 1000 (n + R.length) l a w:=by
  have hc0:=hc
  simp only [invCheck,Bool.and_eq_true,beq_iff_eq,decide_eq_true_eq] at hc
  obtain⟨⟨⟨⟨⟨⟨⟨⟨hsel,hFs⟩,h1000⟩,hcnt⟩,hdst⟩,hlow⟩,hup⟩,hE⟩,hM⟩:=hc
  rw [List.all_eq_true] at hE
  have hEF:∀ i,E.contains i=true→F.getD i false=true∧freeAll ops i=true:=fun i hi=>by
    have:=hE i (by simpa using hi)
    simpa using this
  intro n
  induction n with
  | zero =>
    intro l vals a w hn hls hlF hcl hsh hS hw hTl hD
    obtain rfl:l=F:=by
      apply Array.ext (by rw [hls,hFs])
      intro i h1 h2
      have e1:l.getD i false=l[i]:=by simp [Array.getD,h1]
      have e2:F.getD i false=F[i]:=by simp [Array.getD,h2]
      rw [← e1,← e2]
      cases hb:F.getD i false with
      | true=>exact cntU_zero F l hn i (by omega) hb
      | false=>cases hb2:l.getD i false with
        | false=>rfl
        | true=>rw [hlF i hb2] at hb; cases hb
    rw [Nat.zero_add,hsh.all hN hdst]
    exact wpJ_steps hsel h1000 hQ R _ _ w hM hS (hend vals w hS hw hTl hD)
  | succ n ih =>
    intro l vals a w hn hls hlF hcl hsh hS hw hTl hD
    have hknown:∀ i o,ops[i]?=some o→(∀ e ∈ o.after,Region.binds .any e=true→l.getD e.on false=true)→Known ops F T a0 i a w:=by
      intro i o ho hall
      refine ⟨fun k d hk hd=>?_,fun d hd=>?_⟩
      · have hmem:∃ e ∈ o.after,Region.binds .any e=true∧e.on=k:=by
          unfold afterOf at hk
          rw [ho] at hk
          simp only [List.contains_eq_mem,List.mem_map,List.mem_filter,Array.mem_toList_iff,decide_eq_true_eq] at hk
          obtain⟨e,⟨h1,h2⟩,h3⟩:=hk
          exact⟨e,h1,h2,h3⟩
        obtain⟨e,he,hb,rfl⟩:=hmem
        have hle:=hall e he hb
        cases hok:ops[e.on]? with
        | none=>rw [hok] at hd; simp at hd
        | some ok =>
          rw [hok] at hd
          have:=hsh.got e.on ok d hok (by simpa using hd) hle
          show T e.on (a.tmps.getD d undef) w
          rw [this]
          exact hTl e.on hle
      · refine hsh.rest d fun k ok hk hlk hdk=>?_
        unfold fixedB at hd
        have hlt:k < ops.size:=by rw [Array.getElem?_eq_some_iff] at hk; exact hk.1
        have:=(List.all_eq_true.1 hd) k (List.mem_range.2 hlt)
        rw [hlF k hlk,hk] at this
        simp [hdk] at this
    have hgo:∀ i o,ops[i]?=some o→F.getD i false=true→l.getD i false=false→(∀ e ∈ o.after,Region.binds .any e=true→l.getD e.on false=true) →
        ∀ v w',New w w'→T i v w'→(news.contains i=true→NewPtr v w)→wpJ P .any ops Q S 1000 (n + R.length) (l.setIfInBounds i true) (a.put o.dst v) w':=by
      intro i o ho hF hl0 hall v w' hnw hTv hNv
      have hlt:i < ops.size:=by rw [Array.getElem?_eq_some_iff] at ho; exact ho.1
      refine ih (l.setIfInBounds i true) (upd1 vals i v) _ w' ?_ (by simpa using hls) ?_ ?_ (hsh.put hN hdst ho hl0 (by omega) v) (hSn _ _ hnw hS) (hw.transNew hnw) ?_ ?_
      · have:=cntU_set F l hlt hF hl0 (by omega); omega
      · intro j hj
        by_cases hji:j=i
        · rw [hji]; exact hF
        · rw [getD_set_ne false (fun h=>hji h.symm)] at hj; exact hlF j hj
      · intro j oj hoj hj e he hb
        by_cases hji:j=i
        · subst hji
          rw [ho] at hoj; cases hoj
          exact getD_set_true (hall e he hb)
        · rw [getD_set_ne false (fun h=>hji h.symm)] at hj
          exact getD_set_true (hcl j oj hoj hj e he hb)
      · intro j hj
        unfold upd1
        by_cases hji:j=i
        · rw [if_pos hji,hji]; exact hTv
        · rw [if_neg hji]
          rw [getD_set_ne false (fun h=>hji h.symm)] at hj
          exact hT j _ _ _ hnw (hTl j hj)
      · have hne:∀ j,j ≠ i→(l.setIfInBounds i true).getD j false=true→news.contains i=true→news.contains j=true→v ≠ vals j:=by
          intro j hji hj hni hnj
          rw [getD_set_ne false (fun h=>hji h.symm)] at hj
          obtain⟨q,rfl,hq⟩:=hNv hni
          obtain⟨q',hq',hlt'⟩:=hold j hnj _ _ (hTl j hj)
          rw [hq']
          intro he
          injection he with he
          injection he with he
          injection he with he _ _
          omega
        intro j k hj hk hnj hnk hjk
        unfold upd1
        by_cases hji:j=i
        · subst hji
          rw [if_pos rfl,if_neg (fun h=>hjk h.symm)]
          exact hne k (fun h=>hjk h.symm) hk hnj hnk
        · rw [if_neg hji]
          by_cases hki:k=i
          · subst hki
            rw [if_pos rfl]
            exact fun h=>hne j hji hj hnk hnj h.symm
          · rw [if_neg hki]
            rw [getD_set_ne false (fun h=>hji h.symm)] at hj
            rw [getD_set_ne false (fun h=>hki h.symm)] at hk
            exact hD j k hj hk hnj hnk hjk
    have hrdy:∀ i o,ops[i]?=some o→l.getD i false=false→(∀ e ∈ o.after,Region.binds .any e=true→l.getD e.on false=true)→i ∈ Region.ready .any ops l:=by
      intro i o ho hl0 hall
      have hlt:i < l.size:=by rw [Array.getElem?_eq_some_iff] at ho; obtain⟨h,_⟩:=ho; omega
      refine mem_ready.2 ⟨?_,o,ho,hall⟩
      simp [Array.getD,hlt] at hl0 ⊢
      exact hl0
    rw [Nat.succ_add]
    by_cases heag:∃ i o,E.contains i=true∧ops[i]?=some o∧l.getD i false=false∧∀ e ∈ o.after,Region.binds .any e=true→l.getD e.on false=true
    · obtain⟨i,o,hEi,ho,hl0,hall⟩:=heag
      obtain⟨o',ho',hy⟩:=heager i hEi
      obtain rfl:o=o':=by rw [Array.getElem?_toList,ho] at ho'; cases ho'; rfl
      obtain⟨v,hyv,hTv⟩:=hy a w hw (hknown i o ho hall)
      refine wpJ_first ho (Region.noSelect_spec hsel) (fun c a w=>hQ c a _ _ w) ?_ _ l a w (fun j oj hj hji hun hno=>freeAll_spec ho (hEF i hEi).2 j oj hj hji (by
        cases hu:inUp ops 6 i j with
        | false=>rfl
        | true =>
          have h4:=inUp_listed hcl 6 i j hu fun o' ho'=>by rw [ho] at ho'; cases ho'; exact hall
          have hlt:j < l.size:=by rw [Array.getElem?_eq_some_iff] at hj; obtain⟨h,_⟩:=hj; omega
          simp [Array.getD,hlt] at hun h4
          rw [h4] at hun
          cases hun) hno) (hrdy i o ho hl0 hall) hyv hS (hgo i o ho (hEF i hEi).1 hl0 hall v w (Upd.refl _ _) hTv (fun h=>by rw [hEN i hEi] at h; cases h))
      intro oe hoe
      rw [Array.getElem?_eq_none (by omega)] at hoe
      cases hoe
    · have hfull:(∀ i,i < ops.size→F.getD i false=true→l.getD i false=true)→False:=by
        intro hall
        have hz:∀ m,m≤ops.size→cntU F l m=0:=by
          intro m
          induction m with
          | zero=>intro _; rfl
          | succ m ihm =>
            intro hm
            rw [cntU,ihm (by omega)]
            cases hFm:F.getD m false with
            | false=>simp
            | true=>rw [hall m (by omega) hFm]; simp
        rw [hz _ (Nat.le_refl _)] at hn
        omega
      have hlowest:(∀ i o,ops[i]?=some o→F.getD i false=true→l.getD i false=false→(∀ e ∈ o.after,Region.binds .any e=true→l.getD e.on false=true)→False)→False:=by
        intro hno
        refine hfull ?_
        have:∀ m i,i < m→i < ops.size→F.getD i false=true→l.getD i false=true:=by
          intro m
          induction m with
          | zero=>intro i hi; omega
          | succ m ihm =>
            intro i hi hlt hF
            cases hb:l.getD i false with
            | true=>rfl
            | false =>
              exfalso
              have ho:ops[i]?=some ops[i]:=Array.getElem?_eq_getElem hlt
              have h2:=(List.all_eq_true.1 hlow) i (List.mem_range.2 hlt)
              rw [ho] at h2
              refine hno i ops[i] ho hF hb fun e he hbd=>?_
              obtain⟨k,hk,rfl⟩:=Array.getElem_of_mem he
              have h3:=(Array.all_eq_true.1 h2) k hk
              rw [hbd,hF] at h3
              simp only [Bool.not_true,Bool.false_or,Bool.and_eq_true,decide_eq_true_eq] at h3
              exact ihm _ (by omega) (by omega) h3.2
        exact fun i hi hF=>this (i + 1) i (by omega) hi hF
      have key:∀ i ∈ Region.ready .any ops l,F.getD i false=true∧E.contains i=false:=by
        intro i hi
        obtain⟨hun,o,ho,hall⟩:=mem_ready.1 hi
        have hlt:i < ops.size:=by rw [Array.getElem?_eq_some_iff] at ho; exact ho.1
        have hl0:l.getD i false=false:=by
          have:i < l.size:=by omega
          simp [Array.getD,this] at hun ⊢
          exact hun
        have h2:=(List.all_eq_true.1 hup) i (List.mem_range.2 hlt)
        refine ⟨?_,?_⟩
        · cases hF:F.getD i false with
          | true=>rfl
          | false =>
            rw [hF,Bool.false_or,List.all_eq_true] at h2
            exfalso
            refine hlowest fun k ok hok hFk hlk hallk=>?_
            have hltk:k < ops.size:=by rw [Array.getElem?_eq_some_iff] at hok; exact hok.1
            have h3:=h2 k (List.mem_range.2 hltk)
            rw [hFk] at h3
            cases hEk:E.contains k with
            | true=>exact heag ⟨k,ok,hEk,hok,hlk,hallk⟩
            | false =>
              rw [hEk] at h3
              have h4:=inUp_listed hcl 6 i k (by simpa using h3) fun o' ho'=>by rw [ho] at ho'; cases ho'; exact hall
              rw [h4] at hlk; cases hlk
        · cases hEi:E.contains i with
          | false=>rfl
          | true=>exact absurd ⟨i,o,hEi,ho,hl0,hall⟩ heag
      refine ⟨fun hr=>?_,fun i hi=>?_⟩
      · exfalso
        refine hlowest fun k ok hok hFk hlk hallk=>?_
        have:=hrdy k ok hok hlk hallk
        rw [hr] at this
        cases this
      · obtain⟨hun,o,ho,hall⟩:=mem_ready.1 hi
        have hlt:i < ops.size:=by rw [Array.getElem?_eq_some_iff] at ho; exact ho.1
        have hl0:l.getD i false=false:=by
          have:i < l.size:=by omega
          simp [Array.getD,this] at hun ⊢
          exact hun
        rcases hstep i (key i hi).1 (key i hi).2 with ⟨hni,o',ho',hst⟩ | ⟨o',ho',hst⟩
        · obtain rfl:o=o':=by rw [Array.getElem?_toList,ho] at ho'; cases ho'; rfl
          refine wpOp_mono ?_ (hst a w hw (hknown i o ho hall))
          rintro a' w' ⟨v,rfl,hnw,hTv⟩
          exact⟨.inr (hSn _ _ hnw hS),hgo i o ho (key i hi).1 hl0 hall v w' hnw hTv (fun h=>by rw [hni] at h; cases h)⟩
        · obtain rfl:o=o':=by rw [Array.getElem?_toList,ho] at ho'; cases ho'; rfl
          refine wpOp_mono ?_ (hst a w hw (hknown i o ho hall))
          rintro a' w' ⟨v,rfl,hnw,hTv,hNv⟩
          exact⟨.inr (hSn _ _ hnw hS),hgo i o ho (key i hi).1 hl0 hall v w' hnw hTv (fun _=>hNv)⟩
end
section
variable {P:Program} {ops:Array Oper} {Q:Exit→Act→World→Prop}
theorem wpJ_genS {S:World→Prop} (hSn:∀ w w',New w w'→S w→S w') {a0:Act} {w0:World} {F:Array Bool} {E:List Nat} {R:List (Nat × Bool)} {N:Nat} (T:Nat→Value→World→Prop) (news:List Nat) (hEN:∀ i,E.contains i=true→news.contains i=false) (hold:∀ j,news.contains j=true→∀ v w,T j v w→OldPtr v w) (hc:invCheck ops F E R N=true) (hN:a0.tmps.size=N)
    (hQ:∀ c a d v w,Q (.panic c) (a.put d v) w→Q (.panic c) a w)
    (hT:∀ i v w w',New w w'→T i v w→T i v w')
    (hstep:∀ i,F.getD i false=true→E.contains i=false→StepG P ops Q F T a0 w0 news i) (heager:∀ i,E.contains i=true→EagerOkS P ops S F T a0 w0 i)
    (hend:∀ a w,S w→New w0 w→After ops F news T a0 a w→stepsTo P ops S Q R a w) :
    ∀ (n:Nat) (l:Array Bool) (vals:Nat→Value) (a:Act) (w:World),cntU F l ops.size=n→l.size=ops.size→(∀ i,l.getD i false=true→F.getD i false=true) →
      (∀ i o,ops[i]?=some o→l.getD i false=true→∀ e ∈ o.after,Region.binds .any e=true→l.getD e.on false=true) →
      Shape ops a0 vals l a→S w→New w0 w→(∀ i,l.getD i false=true→T i (vals i) w) →
      (∀ i j,l.getD i false=true→l.getD j false=true→news.contains i=true→news.contains j=true→i ≠ j→vals i ≠ vals j)→wpJ P .any ops Q S 1000 (n + R.length) l a w:=by
  have hdst:dstsOk ops N=true:=by
    simp only [invCheck,Bool.and_eq_true,beq_iff_eq,decide_eq_true_eq] at hc
    exact hc.1.1.1.1.2
  have hval:∀ vals i d,F.getD i false=true→(ops[i]?).bind (·.dst)=some d→(putAll F vals ops.toList 0 a0).tmps.getD d undef=vals i:=by
    intro vals i d hF hdo
    cases ho:ops[i]? with
    | none=>rw [ho] at hdo; simp at hdo
    | some o =>
      rw [ho] at hdo
      have hdo':o.dst=some d:=by simpa using hdo
      have h1:=putAll_got F vals N d (dsts_spec hdst ho hdo').1 ops.toList 0 a0 hN i o (by simpa using ho) (by simpa using hF) hdo' fun j oj hj hdj=>(dsts_spec hdst ho hdo').2 j oj (by simpa using hj) hdj
      rw [Nat.zero_add] at h1
      exact h1
  refine wpJ_invS hSn T news hEN hold hc hN hQ hT hstep heager fun vals w hS hw hTl hD=>hend _ w hS hw ⟨putAll_size ..,putAll_defers ..,fun d hd=>?_,fun i d hF hdo=>?_,fun i j d e hc hdo heo=>?_⟩
  · refine putAll_far F vals d ops.toList 0 a0 fun k ok hk hFk hdk=>?_
    unfold fixedB at hd
    have hk':ops[k]?=some ok:=by simpa using hk
    have hlt:k < ops.size:=by rw [Array.getElem?_eq_some_iff] at hk'; exact hk'.1
    have:=(List.all_eq_true.1 hd) k (List.mem_range.2 hlt)
    rw [Nat.zero_add] at hFk
    rw [hFk,hk'] at this
    simp [hdk] at this
  · show T i ((putAll F vals ops.toList 0 a0).tmps.getD d undef) w
    rw [hval vals i d hF hdo]
    exact hTl i hF
  · simp only [Bool.and_eq_true,Bool.not_eq_true',beq_eq_false_iff_ne] at hc
    show (putAll F vals ops.toList 0 a0).tmps.getD d undef ≠ (putAll F vals ops.toList 0 a0).tmps.getD e undef
    rw [hval vals i d hc.1.1.1.1 hdo,hval vals j e hc.1.1.1.2 heo]
    exact hD i j hc.1.1.1.1 hc.1.1.1.2 hc.1.1.2 hc.1.2 hc.2
theorem wp_genS {S:World→Prop} (hSn:∀ w w',New w w'→S w→S w') {id:Nat} {dr:Bool} {a0:Act} {w0:World} (fs:List Bool) (E:List Nat) (R:List (Nat × Bool)) (N:Nat) (Ts:List (Value→World→Prop)) (news:List Nat) (hEN:(E.all fun i=>!news.contains i)=true) (hold:∀ j,j ∈ news→∀ v w,TL Ts j v w→OldPtr v w) (hS0:S w0) (hm:P.follows .mixedOrders=true) (hc:invCheck ops fs.toArray E R N=true) (hN:a0.tmps.size=N)
    (hQ:∀ c a d v w,Q (.panic c) (a.put d v) w→Q (.panic c) a w) (hT:Monos Ts)
    (hstep:AllAt (fun i=>E.contains i=false→StepG P ops Q fs.toArray (TL Ts) a0 w0 news i) fs 0) (heager:∀ i,E.contains i=true→EagerOkS P ops S fs.toArray (TL Ts) a0 w0 i)
    (hend:∀ a w,S w→New w0 w→After ops fs.toArray news (TL Ts) a0 a w→stepsTo P ops S Q R a w):(Code.region id ops dr).wp P Q a0 w0:=by
  have hget:∀ i,fs.toArray.getD i false=fs.getD i false:=fun i=>by simp [Array.getD,List.getD]; split <;> simp [*]
  have hc0:=hc
  simp only [invCheck,Bool.and_eq_true,beq_iff_eq,decide_eq_true_eq] at hc0
  obtain⟨⟨⟨⟨⟨⟨⟨⟨hsel,hFs⟩,h1000⟩,hcnt⟩,hdst⟩,hlow⟩,hup⟩,hE⟩,hM⟩:=hc0
  have hgo:∀ w1,New w0 w1→wpAny P .any ops Q ops.size (Array.replicate ops.size false) a0 w1:=by
    intro w1 hw1
    have hgo:=wpJ_genS hSn (w0:=w0) (Q:=Q) (TL Ts) news (fun i hi=>(by have:=(List.all_eq_true.1 hEN) i (by simpa using hi); simpa using this)) (fun j hj=>hold j (by simpa using hj)) hc hN hQ hT.new_ (fun i h1 h2=>(by have:=AllAt.get hstep i (by rw [← hget]; exact h1); rw [Nat.zero_add] at this; exact this h2)) heager hend _ (Array.replicate ops.size false) (fun _=>undef) a0 w1 rfl (by simp) (fun i h=>?_) (fun i o _ h=>?_) ⟨rfl,rfl,fun i o d _ _ h=>?_,fun _ _=>rfl⟩ (hSn _ _ hw1 hS0) hw1 (fun i h=>?_) (fun i j h=>?_)
    · rw [hcnt] at hgo; exact wpAny_of_J _ _ _ _ hgo
    all_goals
      rw [cntU_none (ops:=ops) i] at h
      cases h
  cases dr with
  | true=>exact wp_region_any hm (hgo _ (Upd.refl _ _).drew)
  | false =>
    refine wp_region ?_
    rw [List.range_eq_range']
    refine wpOps_of_any (fun i o ho e he hb=>?_) ops.size 0 (Array.replicate ops.size false) a0 w0 (by omega) (by simp) (fun i=>by rw [cntU_none]; simp) (hgo w0 (Upd.refl _ _))
    have hlt:i < ops.size:=by rw [Array.getElem?_eq_some_iff] at ho; exact ho.1
    have h2:=(List.all_eq_true.1 hlow) i (List.mem_range.2 hlt)
    rw [ho] at h2
    obtain⟨k,hk,rfl⟩:=Array.getElem_of_mem he
    have h3:=(Array.all_eq_true.1 h2) k hk
    rw [hb] at h3
    simp only [Bool.not_true,Bool.false_or,Bool.and_eq_true,decide_eq_true_eq] at h3
    exact h3.1
end
section
variable {P:Program} {ops:Array Oper} {Q:Exit→Act→World→Prop}
theorem wp_gS {id:Nat} {dr:Bool} {a0:Act} {w0:World} (S:World→Prop) (hSn:∀ w w',New w w'→S w→S w') (hS0:S w0) (fs:List Bool) (E:List Nat) (R:List (Nat × Bool)) (N:Nat) (Ts:List (Value→World→Prop)) (news:List Nat) (hold:∀ j,j ∈ news→∀ v w,TL Ts j v w→OldPtr v w) (hN:a0.tmps.size=N) (hT:Monos Ts)
    (hstep:AllAt (fun i=>E.contains i=false→StepG P ops Q fs.toArray (TL Ts) a0 w0 news i) fs 0) (heager:∀ i,E.contains i=true→EagerOkS P ops S fs.toArray (TL Ts) a0 w0 i)
    (hend:∀ a w,S w→New w0 w→After ops fs.toArray news (TL Ts) a0 a w→stepsTo P ops S Q R a w)
    (hEN:(E.all fun i=>!news.contains i)=true:=by kernel_rfl) (hm:P.follows .mixedOrders=true:=by kernel_rfl) (hc:invCheck ops fs.toArray E R N=true:=by kernel_rfl)
    (hQ:∀ c a d v w,Q (.panic c) (a.put d v) w→Q (.panic c) a w:=by (intro _ _ d _ _ h; cases d <;> exact h)):(Code.region id ops dr).wp P Q a0 w0:=wp_genS hSn fs E R N Ts news hEN hold hS0 hm hc hN hQ hT hstep heager hend
variable {T:Nat→Value→World→Prop} {F:Array Bool} {a0:Act} {w0:World} {S:World→Prop}
theorem eager_takeG {i:Nat} {o:Oper} (hi:ops.toList[i]?=some o) (hw:∀ a w,New w0 w→Known ops F T a0 i a w→Region.wanted o (yielded ops a.tmps)=true)
    (h:∀ a w,New w0 w→Known ops F T a0 i a w→∃ v,(∀ w,S w→(execOp a.eval o).run P w=.ok (.value v) w)∧T i v w):EagerOkS P ops S F T a0 w0 i:=by
  refine ⟨o,hi,fun a w hn hk=>?_⟩
  obtain⟨v,hv,hT⟩:=h a w hn hk
  exact⟨v,.inl ⟨hw a w hn hk,hv⟩,hT⟩
end
def bAt (s:ByteArray) (i:Nat):Nat:=(s.data.toList.getD i 0).toNat
theorem bAt_lt (s:ByteArray) (i:Nat):bAt s i < 256:=(s.data.toList.getD i 0).toNat_lt
def strN (xs:List Nat):ByteArray:=⟨(xs.map UInt8.ofNat).toArray⟩
theorem strN_size (xs:List Nat):(strN xs).size=xs.length:=by simp [strN,ByteArray.size]
theorem strN_app (xs ys:List Nat):strN xs ++ strN ys=strN (xs ++ ys):=by
  apply ByteArray.ext
  simp [strN]
theorem strN_nums (xs:List Nat):strOfNums (xs.map fun x:Nat=>(x:Int))=strN xs:=by
  unfold strOfNums strN
  congr 1
  rw [List.map_map]
  congr 1
theorem s_len (s:ByteArray):s.data.toList.length=s.size:=Array.length_toList
section
variable {P:Program} {o:Oper} {a:Act} {w:World}
theorem v_idxN {t:TypeId} {x y:Operand} {s:ByteArray} {k:IntKind} {i:Int} (ho:o.op=.index t x y) (hx:a.eval x=.string s) (hy:a.eval y=.int k i) (hu:P.underlying t=some .string) (hb:0≤i∧i < s.size) :
    (execOp a.eval o).run P w=.ok (.value (.int .u8 ((bAt s i.toNat:Nat):Int))) w:=by
  have h:=run_index_string w t s k i hu
  rw [dif_pos hb] at h
  have e:bAt s i.toNat=(s[i.toNat]'(by omega)).toNat:=by
    have e2:=s_len s
    have hl:i.toNat < s.data.toList.length:=by omega
    unfold bAt
    rw [List.getD_eq_getElem?_getD,List.getElem?_eq_getElem hl]; rfl
  rw [e]
  simp [execOp,ho,hx,hy,h]
theorem v_lenS {x:Operand} {ty:TypeId} {s:ByteArray} (ho:o.op=.call { callee:=.builtin .len,args:=#[x],argTypes:=#[ty] }) (hx:a.eval x=.string s) (hu:P.underlying ty=some .string):(execOp a.eval o).run P w=.ok (.value (.int .i64 (s.size:Int))) w:=by
  have h:=run_len_string w ty o.type s hu
  simp [execOp,ho,resolve,invoke,builtin,hx,h,goInt]
theorem v_tailS {t:TypeId} {x y:Operand} {k:IntKind} {l:Int} {s:ByteArray} (ho:o.op=.slice t x (some y) none none) (hx:a.eval x=.string s) (hy:a.eval y=.int k l) (hu:P.underlying t=some .string) (hl:0≤l∧l≤s.size) :
    (execOp a.eval o).run P w=.ok (.value (.string (s.extract l.toNat s.size))) w:=by
  have h:=run_slice_string_l (P:=P) w t s hu k l hl.1 hl.2
  have h2:=run_sliceAt_string (P:=P) w t (.string s) (some (.int k l)) none none hu
  simp [execOp,ho,hx,hy,h2,h]
theorem ext_size (s:ByteArray) (l:Nat) (h:l≤s.size):(s.extract l s.size).size=s.size - l:=by simp
theorem v_strB {src e dst:TypeId} {x:Operand} {A:Option Addr} {xs:List Nat} {c:Nat} (ho:o.op=.convert src dst x) (hx:a.eval x=sv A xs c) (hr:SRow w .u8 A xs c) (hs:P.underlying src=some (.slice e)) (he:P.underlying e=some (.int .u8)) (hd:P.underlying dst=some .string) :
    (execOp a.eval o).run P w=.ok (.value (.string (strN xs))) w:=by
  have h:(convert src dst (sv A xs c)).run P w=.ok (.string (strN xs)) w:=by
    cases A with
    | none =>
      have h0:xs=[]:=by
        rcases hr.2 with ⟨h0,_⟩ | ⟨b,off,c',hv,_⟩
        · exact List.eq_nil_of_length_eq_zero h0
        · cases hv
      subst h0
      exact run_convert_bytes_nil w src e hs he 0 c dst hd
    | some ad =>
      rcases hr.2 with ⟨h0,_⟩ | ⟨b,off,c',hv,hc,hm,hb,hxx⟩
      · have h1:=List.eq_nil_of_length_eq_zero h0
        subst h1
        obtain⟨b,off,m⟩:=ad
        have hl:(loadCells ⟨b,off,m⟩ 0).run P w=.ok #[] w:=by simp [loadCells,loadCellsFrom]
        show (convert src dst (.slice (some ⟨b,off,m⟩) 0 c)).run P w=_
        rw [run_convert_bytes_string w src dst e _ 0 c hs he hd,run_bytesToString w _ 0 c [] hl]
        rfl
      · injection hv with hA _ _
        injection hA with hA
        subst hA
        have:=run_convert_bytes_arg w src e hs he b off xs.length c (xs.map fun x:Nat=>(x:Int)) (by simp) (fun i hi=>by
          have h2:=hxx i _ (enc_get .u8 xs i hi)
          rw [h2]
          simp [List.getD,hi]) dst hd
        rw [strN_nums] at this
        exact this
  simp [execOp,ho,hx,h]
end
theorem str_self (s:ByteArray):strEq s s=true:=by simp [strEq]
theorem strEq_iff {a b:ByteArray}:strEq a b=true ↔ a=b:=by
  unfold strEq
  rw [beq_iff_eq,ByteArray.toList_eq,ByteArray.toList_eq]
  constructor
  · intro h
    apply ByteArray.ext
    exact Array.toList_inj.1 h
  · rintro rfl; rfl
theorem strN_nil {xs:List Nat}:strEq (strN xs) ⟨#[]⟩=decide (xs=[]):=by
  by_cases h:xs=[]
  · subst h; rw [decide_eq_true rfl]; exact str_self _
  · rw [decide_eq_false h]
    cases hb:strEq (strN xs) ⟨#[]⟩ with
    | false=>rfl
    | true =>
      have h1:=congrArg ByteArray.size (strEq_iff.1 hb)
      rw [strN_size] at h1
      exact absurd (List.eq_nil_of_length_eq_zero h1) h
theorem str_size0 {s:ByteArray}:strEq s ⟨#[]⟩=decide (s.size=0):=by
  cases hb:strEq s ⟨#[]⟩ with
  | true=>rw [strEq_iff.1 hb]; rfl
  | false =>
    refine (decide_eq_false fun h=>?_).symm
    have:s=⟨#[]⟩:=by
      apply ByteArray.ext
      have h2:=s_len s
      rw [h] at h2
      exact Array.toList_inj.1 (List.eq_nil_of_length_eq_zero h2)
    rw [this,str_self] at hb
    cases hb
def val:List Nat→Nat
  | []=>0
  | x :: l=>x + 4294967296 * val l
def Limbs (l:List Nat):Prop:=∀ x ∈ l,x < 4294967296
theorem Limbs.nil:Limbs []:=fun _ h=>by cases h
theorem Limbs.cons {x:Nat} {l:List Nat} (hx:x < 4294967296) (h:Limbs l):Limbs (x :: l):=fun y hy=>by
  rcases List.mem_cons.1 hy with rfl | hy
  · exact hx
  · exact h y hy
theorem Limbs.app {a b:List Nat} (ha:Limbs a) (hb:Limbs b):Limbs (a ++ b):=fun y hy=>by
  rcases List.mem_append.1 hy with hy | hy
  · exact ha y hy
  · exact hb y hy
theorem Limbs.take {l:List Nat} (h:Limbs l) (k:Nat):Limbs (l.take k):=fun y hy=>h y (List.mem_of_mem_take hy)
theorem Limbs.set {l:List Nat} (h:Limbs l) (k:Nat) {x:Nat} (hx:x < 4294967296):Limbs (l.set k x):=fun y hy=>by
  rcases List.mem_or_eq_of_mem_set hy with hy | rfl
  · exact h y hy
  · exact hx
theorem Limbs.at {l:List Nat} (h:Limbs l) (k:Nat):l.getD k 0 < 4294967296:=by
  simp only [List.getD]
  cases hk:l[k]? with
  | none=>simp
  | some x=>simpa using h x (List.mem_of_getElem? hk)
theorem Limbs.rep (n:Nat):Limbs (List.replicate n 0):=fun y hy=>by
  have:=(List.mem_replicate.1 hy).2
  omega
theorem val_app (a b:List Nat):val (a ++ b)=val a + 4294967296 ^ a.length * val b:=by
  induction a with
  | nil=>simp [val]
  | cons x a ih =>
    simp only [List.cons_append,val,ih,List.length_cons,Nat.pow_succ]
    grind
theorem val_one (x:Nat):val [x]=x:=by simp [val]
theorem val_snoc (a:List Nat) (x:Nat):val (a ++ [x])=val a + 4294967296 ^ a.length * x:=by rw [val_app,val_one]
theorem val_rep (n:Nat):val (List.replicate n 0)=0:=by
  induction n with
  | zero=>rfl
  | succ n ih=>simp [List.replicate_succ,val,ih]
theorem val_lt {l:List Nat} (h:Limbs l):val l < 4294967296 ^ l.length:=by
  induction l with
  | nil=>simp [val]
  | cons x l ih =>
    have hx:=h x (by simp)
    have:=ih fun y hy=>h y (by simp [hy])
    simp only [val,List.length_cons,Nat.pow_succ]
    omega
theorem val_take (l:List Nat) (k:Nat):val (l.take (k + 1))=val (l.take k) + 4294967296 ^ k * l.getD k 0:=by
  induction l generalizing k with
  | nil=>simp [val]
  | cons x l ih =>
    cases k with
    | zero=>simp [val]
    | succ k =>
      simp only [List.take_succ_cons,val,ih k,List.getD_cons_succ,Nat.pow_succ]
      grind
theorem val_take_lt {l:List Nat} (h:Limbs l) (k:Nat):val (l.take k) < 4294967296 ^ k:=by
  have h1:=val_lt (h.take k)
  have h2:4294967296 ^ (l.take k).length≤4294967296 ^ k:=Nat.pow_le_pow_right (by omega) (List.length_take_le _ _)
  omega
theorem val_set (l:List Nat) (k x:Nat) (hk:k < l.length):val (l.set k x) + 4294967296 ^ k * l.getD k 0=val l + 4294967296 ^ k * x:=by
  induction l generalizing k with
  | nil=>simp at hk
  | cons y l ih =>
    cases k with
    | zero=>simp [val]; omega
    | succ k =>
      have:=ih k (by simpa using hk)
      simp only [List.set_cons_succ,val,List.getD_cons_succ,Nat.pow_succ]
      grind
def canon (n:Nat):List Nat:=if h:n=0 then [] else n % 4294967296 :: canon (n / 4294967296)
termination_by n
decreasing_by omega
theorem canon_zero:canon 0=[]:=by unfold canon; simp
theorem canon_pos {n:Nat} (h:0 < n):canon n=n % 4294967296 :: canon (n / 4294967296):=by
  conv=>lhs; unfold canon
  rw [dif_neg (by omega)]
theorem val_canon (n:Nat):val (canon n)=n:=by
  induction n using Nat.strongRecOn with
  | ind n ih =>
    rcases Nat.eq_zero_or_pos n with rfl | h
    · rw [canon_zero]; rfl
    · rw [canon_pos h]
      simp only [val]
      rw [ih _ (by omega)]
      omega
theorem limbs_canon (n:Nat):Limbs (canon n):=by
  induction n using Nat.strongRecOn with
  | ind n ih =>
    rcases Nat.eq_zero_or_pos n with rfl | h
    · rw [canon_zero]; exact Limbs.nil
    · rw [canon_pos h]
      exact Limbs.cons (by omega) (ih _ (by omega))
def Trim (l:List Nat):Prop:=l=[] ∨ 0 < l.getD (l.length - 1) 0
theorem trim_canon (n:Nat):Trim (canon n):=by
  induction n using Nat.strongRecOn with
  | ind n ih =>
    rcases Nat.eq_zero_or_pos n with rfl | h
    · rw [canon_zero]; exact .inl rfl
    · refine .inr ?_
      rw [canon_pos h]
      rcases Nat.eq_zero_or_pos (n / 4294967296) with h0 | h1
      · rw [h0,canon_zero]
        simp
        omega
      · rcases ih _ (by omega:n / 4294967296 < n) with h2 | h2
        · rw [canon_pos h1] at h2; cases h2
        · have hl:0 < (canon (n / 4294967296)).length:=by rw [canon_pos h1]; simp
          rw [List.length_cons,show (canon (n / 4294967296)).length + 1 - 1=((canon (n / 4294967296)).length - 1) + 1 by omega,List.getD_cons_succ]
          exact h2
theorem canon_val {l:List Nat} (h:Limbs l) (ht:Trim l):l=canon (val l):=by
  induction l with
  | nil=>rw [val,canon_zero]
  | cons x l ih =>
    have hx:=h x (by simp)
    have hl:Limbs l:=fun y hy=>h y (by simp [hy])
    have htl:Trim l:=by
      rcases ht with ht | ht
      · cases ht
      · cases l with
        | nil=>exact .inl rfl
        | cons y l=>exact .inr (by simpa using ht)
    have hpos:0 < val (x :: l):=by
      rcases ht with ht | ht
      · cases ht
      · cases l with
        | nil=>simpa [val] using ht
        | cons y l =>
          have h1:=ih hl htl
          have:val (y :: l) ≠ 0:=fun h0=>by rw [h0,canon_zero] at h1; cases h1
          simp only [val] at this ⊢
          omega
    rw [canon_pos hpos]
    have h1:val (x :: l) % 4294967296=x:=by simp only [val]; omega
    have h2:val (x :: l) / 4294967296=val l:=by simp only [val]; omega
    rw [h1,h2,← ih hl htl]
theorem canon_nil {n:Nat}:canon n=[] ↔ n=0 :=
  ⟨fun h=>by rw [← val_canon n,h]; rfl,fun h=>by rw [h,canon_zero]⟩
theorem canon_len_le {n k:Nat} (h:n < 4294967296 ^ k):(canon n).length≤k:=by
  induction k generalizing n with
  | zero =>
    have:n=0:=by simpa using h
    rw [this,canon_zero]; simp
  | succ k ih =>
    rcases Nat.eq_zero_or_pos n with rfl | h0
    · rw [canon_zero]; simp
    · rw [canon_pos h0,List.length_cons]
      have:n / 4294967296 < 4294967296 ^ k:=by
        rw [Nat.pow_succ] at h
        exact Nat.div_lt_of_lt_mul (by rw [Nat.mul_comm]; exact h)
      have:=ih this
      omega
theorem canon_len_gt {n k:Nat} (h:(canon n).length≤k):n < 4294967296 ^ k:=by
  have h1:=val_lt (limbs_canon n)
  rw [val_canon] at h1
  have h2:4294967296 ^ (canon n).length≤4294967296 ^ k:=Nat.pow_le_pow_right (by omega) h
  omega
theorem canon_len8 (n:Nat):(canon n).length≤8 ↔ n < 2 ^ 256:=by
  constructor
  · intro h
    have:=canon_len_gt h
    have e:4294967296 ^ 8=2 ^ 256:=by decide
    omega
  · intro h
    refine canon_len_le ?_
    have e:4294967296 ^ 8=2 ^ 256:=by decide
    omega
theorem trim_step (l:List Nat) (h:l ≠ []) (h0:l.getD (l.length - 1) 0=0):val (l.take (l.length - 1))=val l:=by
  obtain⟨n,hn⟩:∃ n,l.length=n + 1:=⟨l.length - 1,by cases l <;> simp_all⟩
  have h1:=val_take l n
  rw [hn] at h0 ⊢
  simp only [Nat.add_sub_cancel] at h0 ⊢
  rw [h0,List.take_of_length_le (by omega)] at h1
  omega
theorem val_inj:∀ a b:List Nat,a.length=b.length→Limbs a→Limbs b→val a=val b→a=b:=by
  intro a
  induction a with
  | nil=>intro b hb _ _ _; exact (List.eq_nil_of_length_eq_zero hb.symm).symm
  | cons x a ih =>
    intro b hb ha hb' hv
    cases b with
    | nil=>simp at hb
    | cons y b =>
      have hx:=ha x (by simp)
      have hy:=hb' y (by simp)
      simp only [val] at hv
      rw [ih b (by simpa using hb) (fun z hz=>ha z (by simp [hz])) (fun z hz=>hb' z (by simp [hz])) (by omega),show x=y by omega]
theorem take_canon {m:List Nat} (hl:Limbs m):m.take (canon (val m)).length=canon (val m):=by
  have hk:(canon (val m)).length≤m.length:=canon_len_le (val_lt hl)
  have h1:val (m.take (canon (val m)).length)=val m:=by
    have h2:=val_lt (limbs_canon (val m))
    rw [val_canon] at h2
    have h5:val m=val (m.take (canon (val m)).length) + 4294967296 ^ (canon (val m)).length * val (m.drop (canon (val m)).length):=by
      have:=val_app (m.take (canon (val m)).length) (m.drop (canon (val m)).length)
      rw [List.take_append_drop,List.length_take,Nat.min_eq_left (by omega)] at this
      exact this
    rcases Nat.eq_zero_or_pos (val (m.drop (canon (val m)).length)) with h6 | h6
    · rw [h6] at h5; omega
    · have:4294967296 ^ (canon (val m)).length≤4294967296 ^ (canon (val m)).length * val (m.drop (canon (val m)).length):=Nat.le_mul_of_pos_right _ h6
      omega
  exact val_inj _ _ (by rw [List.length_take]; omega) (hl.take _) (limbs_canon _) (by rw [h1,val_canon])
theorem val_lt_of_top {a b:List Nat} (ha:Limbs a) {k:Nat} (h:a.getD k 0 < b.getD k 0):val (a.take (k + 1)) < val (b.take (k + 1)):=by
  have h1:=val_take a k
  have h2:=val_take b k
  have h3:=val_take_lt ha k
  obtain⟨d,hd⟩:∃ d,b.getD k 0=a.getD k 0 + 1 + d:=⟨b.getD k 0 - a.getD k 0 - 1,by omega⟩
  rw [h1,h2,hd,Nat.mul_add,Nat.mul_add,Nat.mul_one]
  omega
def Above (a b:List Nat) (k:Nat):Prop:=∀ j,k≤j→a.getD j 0=b.getD j 0
theorem above_lt {a b:List Nat} {k:Nat} (h:Above a b k) (hlt:val (a.take k) < val (b.take k)):∀ n,k≤n→val (a.take n) < val (b.take n):=by
  intro n hn
  induction n with
  | zero => obtain rfl : k = 0 := by omega
            exact hlt
  | succ n ih =>
    rcases Nat.lt_or_ge n k with h1 | h1
    · obtain rfl:k=n + 1:=by omega
      exact hlt
    · have:=ih h1
      rw [val_take,val_take,h n h1]
      omega
theorem lt_of_diff {a b:List Nat} (ha:Limbs a) {k:Nat} (h:Above a b (k + 1)) (hlt:a.getD k 0 < b.getD k 0):val a < val b:=by
  have h1:=above_lt h (val_lt_of_top ha hlt) (max (k + 1) (max a.length b.length)) (by omega)
  rwa [List.take_of_length_le (by omega),List.take_of_length_le (by omega)] at h1
theorem eq_of_above {a b:List Nat} (h:Above a b 0):val a=val b:=by
  have:∀ n,val (a.take n)=val (b.take n):=by
    intro n
    induction n with
    | zero=>simp
    | succ n ih=>rw [val_take,val_take,ih,h n (by omega)]
  have h1:=this (max a.length b.length)
  rwa [List.take_of_length_le (by omega),List.take_of_length_le (by omega)] at h1
theorem above_of_len {a b:List Nat}:Above a b (max a.length b.length):=fun j hj=>by
  simp [List.getD,show a.length≤j by omega,show b.length≤j by omega]
theorem len_lt {a b:List Nat} (ha:Limbs a) (hb:Trim b) (h:a.length < b.length):val a < val b:=by
  have h1:=val_lt ha
  obtain⟨n,hn⟩:∃ n,b.length=n + 1:=⟨b.length - 1,by omega⟩
  have h0:0 < b.getD n 0:=by
    rcases hb with rfl | hb
    · simp at h
    · simpa [hn] using hb
  have h2:=val_take b n
  rw [List.take_of_length_le (by omega)] at h2
  have h3:4294967296 ^ a.length≤4294967296 ^ n:=Nat.pow_le_pow_right (by omega) (by omega)
  have h4:4294967296 ^ n≤4294967296 ^ n * b.getD n 0:=Nat.le_mul_of_pos_right _ h0
  omega
theorem plus_step {a b ds:List Nat} {i c:Nat} (ha:Limbs a) (hb:Limbs b) (hd:Limbs ds) (hl:ds.length=i) (hc:c≤1) (h:val ds + 4294967296 ^ i * c=val (a.take i) + val (b.take i)) :
    Limbs (ds ++ [(c + a.getD i 0 + b.getD i 0) % 4294967296])∧(c + a.getD i 0 + b.getD i 0) / 4294967296≤1 ∧
      val (ds ++ [(c + a.getD i 0 + b.getD i 0) % 4294967296]) + 4294967296 ^ (i + 1) * ((c + a.getD i 0 + b.getD i 0) / 4294967296)=val (a.take (i + 1)) + val (b.take (i + 1)):=by
  have h1:=ha.at i
  have h2:=hb.at i
  refine ⟨hd.app (Limbs.cons (by omega) Limbs.nil),by omega,?_⟩
  rw [val_snoc,hl,val_take,val_take,Nat.pow_succ]
  generalize a.getD i 0=x at *
  generalize b.getD i 0=y at *
  have h3:=Nat.mod_add_div (c + x + y) 4294967296
  generalize (c + x + y) % 4294967296=r at *
  generalize (c + x + y) / 4294967296=q at *
  grind
theorem less_step {a b ds:List Nat} {i c d c':Nat} (hd:Limbs ds) (hl:ds.length=i) (hd1:d < 4294967296) (hdc:d + b.getD i 0 + c=a.getD i 0 + 4294967296 * c')
    (h:val ds + val (b.take i)=val (a.take i) + 4294967296 ^ i * c) :
    Limbs (ds ++ [d])∧val (ds ++ [d]) + val (b.take (i + 1))=val (a.take (i + 1)) + 4294967296 ^ (i + 1) * c':=by
  refine ⟨hd.app (Limbs.cons hd1 Limbs.nil),?_⟩
  rw [val_snoc,hl,val_take,val_take,Nat.pow_succ]
  generalize a.getD i 0=x at *
  generalize b.getD i 0=y at *
  grind
theorem mul_step {l l0 y:List Nat} {i k c u:Nat} (hl:Limbs l) (hy:Limbs y) (hik:i + k < l.length) (hu:u < 4294967296) (hc:c < 4294967296)
    (h:val l + 4294967296 ^ (i + k) * c=val l0 + u * (4294967296 ^ i * val (y.take k))) :
    Limbs (l.set (i + k) ((c + (u * y.getD k 0 + l.getD (i + k) 0)) % 4294967296))∧(c + (u * y.getD k 0 + l.getD (i + k) 0)) / 4294967296 < 4294967296∧c + (u * y.getD k 0 + l.getD (i + k) 0) < 18446744073709551616 ∧
      val (l.set (i + k) ((c + (u * y.getD k 0 + l.getD (i + k) 0)) % 4294967296)) + 4294967296 ^ (i + k + 1) * ((c + (u * y.getD k 0 + l.getD (i + k) 0)) / 4294967296)=val l0 + u * (4294967296 ^ i * val (y.take (k + 1))):=by
  have h1:=hy.at k
  have h2:=hl.at (i + k)
  have h3:u * y.getD k 0≤4294967295 * 4294967295:=Nat.mul_le_mul (by omega) (by omega)
  have h4:=val_set l (i + k) ((c + (u * y.getD k 0 + l.getD (i + k) 0)) % 4294967296) hik
  refine ⟨hl.set _ (by omega),by omega,by omega,?_⟩
  have h5:=val_take y k
  rw [h5,Nat.pow_succ]
  have h6:=Nat.mod_add_div (c + (u * y.getD k 0 + l.getD (i + k) 0)) 4294967296
  generalize (c + (u * y.getD k 0 + l.getD (i + k) 0)) % 4294967296=r at *
  generalize (c + (u * y.getD k 0 + l.getD (i + k) 0)) / 4294967296=q at *
  generalize y.getD k 0=v at *
  generalize l.getD (i + k) 0=z at *
  rw [Nat.pow_add] at *
  generalize val (l.set (i + k) r)=L at *
  generalize 4294967296 ^ i=p at *
  generalize 4294967296 ^ k=p' at *
  grind
section
variable {P:Program} {w:World}
theorem l_part {t tt:TypeId} {b i n:Nat} {cs:List Value} (ht:∀ w,(isAgg t).run P w=.ok true w) (hs:∀ w,(sizeOf t).run P w=.ok n w) (hb:Blk w b tt cs) (hn:i + n≤cs.length) :
    (loadVar t ⟨b,i,none⟩).run P w=.ok (.agg ((cs.drop i).take n).toArray) w:=by
  have h:=run_loadCells_list (P:=P) w ⟨b,i,none⟩ ((cs.drop i).take n) (fun j v hj=>by
    have hadd:(⟨b,i,none⟩:Addr).add j=⟨b,i + j,none⟩:=by unfold Addr.add; split <;> simp_all
    rw [hadd,hb.cell]
    rw [List.getElem?_take] at hj
    split at hj
    · rw [List.getElem?_drop] at hj; exact hj
    · cases hj)
  have hl:((cs.drop i).take n).length=n:=by rw [List.length_take,List.length_drop]; omega
  rw [hl] at h
  simp [loadVar,ht,hs,h]
theorem l_agg {t tt:TypeId} {b n:Nat} {cs:List Value} (ht:∀ w,(isAgg t).run P w=.ok true w) (hs:∀ w,(sizeOf t).run P w=.ok n w) (hb:Blk w b tt cs) (hn:cs.length=n) :
    (loadVar t ⟨b,0,none⟩).run P w=.ok (.agg cs.toArray) w:=by
  have h:=l_part (i:=0) ht hs hb (by omega)
  rw [List.drop_zero,List.take_of_length_le (by omega)] at h
  exact h
def putAt (cs:List Value) (i:Nat):List Value→List Value
  | []=>cs
  | v :: vs=>putAt (cs.set i v) (i + 1) vs
theorem s_cells {tt:TypeId} {b o:Nat}:∀ (vs:List Value) (k:Nat) (w:World) (cs:List Value),Blk w b tt cs→o + k + vs.length≤cs.length→(∀ v ∈ vs,v.oneCell'=true) →
    ∃ w',(storeCells ⟨b,o,none⟩ vs k).run P w=.ok () w'∧Blk w' b tt (putAt cs (o + k) vs)∧Upd (fun q=>q=b) w w'∧∀ g s cs,g ≠ b→Blk w g s cs→Blk w' g s cs
  | [],k,w,cs,hb,_,_=>⟨w,rfl,hb,Upd.refl _ _,fun _ _ _ _ h=>h⟩
  | v :: vs,k,w,cs,hb,hl,h1=>by
    rw [List.length_cons] at hl
    have hadd:(⟨b,o,none⟩:Addr).add k=⟨b,o + k,none⟩:=by unfold Addr.add; split <;> simp_all
    have hst:(store ⟨b,o + k,none⟩ v).run P w=.ok () (w.setCell ⟨b,o + k,none⟩ v):=by
      rw [run_store P w _ v _ (h1 v (by simp))]
      have:=hb.cell (o + k)
      rw [List.getElem?_eq_getElem (by omega)] at this
      simp [this,hb.frozen (o + k)]
    obtain⟨w',hrun,hb',hu,hf⟩:=s_cells (o:=o) vs (k + 1) (w.setCell ⟨b,o + k,none⟩ v) (cs.set (o + k) v) (hb.set_ (o + k) v) (by simp; omega) (fun x hx=>h1 x (by simp [hx]))
    refine ⟨w',?_,hb',((Upd.refl (fun q=>q=b) w).setCell (.inl rfl) v).trans hu (fun _ _ h=>h),fun g s cs hg h=>hf g s cs hg (h.far hg _)⟩
    rw [show storeCells ⟨b,o,none⟩ (v :: vs) k=(do store ((⟨b,o,none⟩:Addr).add k) v; storeCells ⟨b,o,none⟩ vs (k + 1)) from rfl,hadd]
    simp [hst,hrun]
theorem s_many {t tt:TypeId} {b i n:Nat} {cs:List Value} (vs:List Value) (hs:∀ w,(sizeOf t).run P w=.ok n w) (hn:vs.length=n) (hv:(Value.agg vs.toArray).cells=vs.toArray) (h1:(vs.all (·.oneCell'))=true) (hb:Blk w b tt cs) (hi:i + vs.length≤cs.length) :
    ∃ w',(storeVar t ⟨b,i,none⟩ (.agg vs.toArray)).run P w=.ok () w'∧Blk w' b tt (putAt cs i vs)∧Upd (fun k=>k=b) w w'∧∀ g s cs,g ≠ b→Blk w g s cs→Blk w' g s cs:=by
  obtain⟨w',hrun,hb',hu,hf⟩:=s_cells (P:=P) (o:=i) vs 0 w cs hb (by omega) (fun v hv=>List.all_eq_true.1 h1 v hv)
  refine ⟨w',?_,by rw [Nat.add_zero] at hb'; exact hb',hu,hf⟩
  simp [storeVar,hs,hv,hn,hrun]
end
section
variable {P:Program} {Q:Exit→Act→World→Prop} {a:Act} {o:Oper}
theorem a_callV {c:Operand} {f:FuncId} {xs:Array Operand} {ats:Array TypeId} {args:Array Value} {K:Act→World→Prop} {w:World} {R:Ending→World→Prop} (ho:o.op=.call { callee:=.value c,args:=xs,argTypes:=ats }) (hcl:a.eval c=.func (.func f) #[] #[])
    (hx0:xs.toList.map a.eval=args.toList) (hcf:∀ w,(callFunc f args).run P w=.ok (.enter f args) w) (hc:Calls P f args w R) (h:∀ e w',R e w'→∃ v,e=.returned v∧K (a.put o.dst v) w'):o.wp P a w K Q:=by
  have hx:xs.map a.eval=args:=by apply Array.ext'; rw [Array.toList_map]; exact hx0
  have hrun:(execOp a.eval o).run P w=.ok (.enter f args) w:=by
    simp [execOp,ho,resolve,invoke,hx,hcl,Deferred.ofValue,hcf]
  unfold Oper.wp
  rw [hrun]
  refine hc.mono fun e w' he=>?_
  obtain⟨v,rfl,hk⟩:=h e w' he
  exact hk
end
section
variable {P:Program} {ops:Array Oper} {Q:Exit→Act→World→Prop} {T:Nat→Value→World→Prop} {F:Array Bool} {a0:Act} {w0:World} {i:Nat}
theorem tkV {o:Oper} {c:Operand} {xs:Array Operand} {ats:Array TypeId} (hi:ops.toList[i]?=some o) (hw:∀ a w,New w0 w→Known ops F T a0 i a w→Region.wanted o (yielded ops a.tmps)=true)
    (ho:o.op=.call { callee:=.value c,args:=xs,argTypes:=ats })
    (h:∀ a w,New w0 w→Known ops F T a0 i a w→∃ (f:FuncId) (args:Array Value) (R:Ending→World→Prop),a.eval c=.func (.func f) #[] #[]∧xs.toList.map a.eval=args.toList∧(∀ w,(callFunc f args).run P w=.ok (.enter f args) w)∧Calls P f args w R∧∀ e w',R e w'→∃ v,e=.returned v∧New w w'∧T i v w'):StepOk P ops Q F T a0 w0 i:=by
  refine ⟨o,hi,fun a w hn hk=>?_⟩
  obtain⟨f,args,R,hcl,hx,hcf,hc,hR⟩:=h a w hn hk
  have hi':ops[i]?=some o:=by rw [← Array.getElem?_toList]; exact hi
  unfold wpOp
  simp only [hi',hw a w hn hk,if_true]
  refine .inl (a_callV ho hcl hx hcf hc fun e w' he=>?_)
  obtain⟨v,rfl,hn,hT⟩:=hR e w' he
  exact⟨v,rfl,v,rfl,hn,hT⟩
end
theorem elW:ElemT Tryz.prog 24 59 (.int .u32 0) 1 4:=⟨Tryz.underlying24,by kernel_rfl,rfl,by omega⟩
theorem elU:ElemT Tryz.prog 27 79 (.int .u16 0) 1 2:=⟨Tryz.underlying27,by kernel_rfl,rfl,by omega⟩
theorem n_eql_self {P:Program} {t:TypeId} (k:IntKind) (x:Int):∀ w,(binOp .eql t (.int k x) (.int k x)).run P w=.ok (.bool true) w:=r_eql (by simp)
theorem n_neq_self {P:Program} {t:TypeId} (k:IntKind) (x:Int):∀ w,(binOp .neq t (.int k x) (.int k x)).run P w=.ok (.bool false) w:=by
  have h:=r_neq (P:=P) (t:=t) (k:=k) (x:=x) (y:=x) (r:=true) (by simp)
  exact h
theorem self_eqlB (b:Bool):∀ w,(binOp .eql 4 (.bool b) (.bool b)).run Tryz.prog w=.ok (.bool true) w:=by intro w; cases b <;> kernel_rfl
theorem eqNumIn (a b c d:Int) (w:World):(Op.equalIn 10000 23 (.agg #[.int .i64 a,.int .i64 b]) (.agg #[.int .i64 c,.int .i64 d])).run Tryz.prog w=.ok (a == c && b == d) w:=by
  have u3:=Tryz.underlying3
  have a3:=Tryz.isAgg3
  have z3:=Tryz.sizeOf3
  have hS:Tryz.prog.underlying 23=some (.struct (Tryz.prog.fieldsOf 23)):=by kernel_rfl
  have hp:Tryz.prog.stoodInHeld 23=false:=by kernel_rfl
  rw [show (10000:Nat)=9999 + 1 from rfl,run_equalIn_agg w 9999 23 _ _ hS hp]
  simp only [Program.fieldsOf,Tryz.underlying23]
  go_simp
  by_cases h1:a=c <;> by_cases h2:b=d <;> simp [h1,h2]
theorem eqlNum (a b c d:Int) {r:Bool} (h:(a == c && b == d)=r):∀ w,(binOp .eql 23 (.agg #[iv a,iv b]) (.agg #[iv c,iv d])).run Tryz.prog w=.ok (.bool r) w:=by
  intro w
  rw [run_eql_struct,eqNumIn,h]; rfl
theorem gNum {x y:Operand} (a b c d:Int):∀ w,(eqGuard .eql 23 x y (.agg #[iv a,iv b]) (.agg #[iv c,iv d])).run Tryz.prog w=.ok () w:=fun w=>run_eqGuard_agg w _ _ _ _ _ _ (by kernel_rfl)
abbrev gq (G:Bool) (X:Value):Value:=bif G then X else undef
theorem cT {G:Bool} {X v:Value} (h:G=true) (hv:v=gq G X):v=X:=by rw [hv,h]; rfl
theorem al {a b:Bool} (h:(a && b)=true):a=true:=by cases a; exact h; rfl
theorem ar {a b:Bool} (h:(a && b)=true):b=true:=by cases a; cases h; exact h
theorem ol {a b:Bool} (h:(a || b)=false):a=false:=by cases a; rfl; cases h
theorem or_ {a b:Bool} (h:(a || b)=false):b=false:=by cases a; exact h; cases h
theorem aj {a b:Bool} (h:a=true) (h2:b=true):(a && b)=true:=by rw [h,h2]; rfl
theorem nF {a:Bool} (h:(!a)=true):a=false:=by cases a; rfl; cases h
theorem nT {a:Bool} (h:(!a)=false):a=true:=by cases a; cases h; rfl
theorem nt {a:Bool} (h:a=false):(!a)=true:=by rw [h]; rfl
theorem nf {a:Bool} (h:a=true):(!a)=false:=by rw [h]; rfl
theorem ax1 {a b:Bool} (h:(a && b)=false) (h2:a=true):b=false:=by rw [h2] at h; exact h
abbrev GI (want G:Bool) (v:Value):Prop:=(G=true→v=.bool want)∧(G=false→v=.bool (!want) ∨ v=undef)
theorem g0 {g:Bool} {v:Value} (h:v=.bool g):GI true g v:=⟨fun e=>by rw [h,e],fun e=>.inl (by rw [h,e]; rfl)⟩
theorem g0' {g:Bool} {v:Value} (h:v=.bool g):GI false (!g) v:=⟨fun e=>by rw [h,nF e],fun e=>.inl (by rw [h,nT e]; rfl)⟩
theorem g1 {A g:Bool} {v:Value} (h:v=gq A (.bool g)):GI true (A && g) v:=⟨fun e=>by rw [h,al e,ar e]; rfl,fun e=>by
  rw [h]
  cases A
  · exact .inr rfl
  · cases g
    · exact .inl rfl
    · cases e⟩
theorem g1' {A g:Bool} {v:Value} (h:v=gq A (.bool g)):GI false (A && !g) v:=⟨fun e=>by rw [h,al e,nF (ar e)]; rfl,fun e=>by
  rw [h]
  cases A
  · exact .inr rfl
  · cases g
    · cases e
    · exact .inl rfl⟩
theorem gL {A want:Bool} {v:Value} (h:v=gq A (.bool want)):GI want A v:=⟨fun e=>by rw [h,e]; rfl,fun e=>.inr (by rw [h,e]; rfl)⟩
theorem gN {A want:Bool} {v:Value} (h:v=gq A (.bool (!want))):v=.bool (!want) ∨ v=undef:=by
  rw [h]
  cases A
  · exact .inr rfl
  · exact .inl rfl
section
variable {P:Program} {ops:Array Oper} {Q:Exit→Act→World→Prop} {T:Nat→Value→World→Prop} {F:Array Bool} {a0:Act} {w0:World} {i:Nat}
theorem sc {o:Oper} {j d:Nat} {want G:Bool} {X:Value} (hi:ops.toList[i]?=some o) (hg:o.guard=some (j,want)) (hj:(ops[j]?).bind (·.dst)=some d) (hv:∀ a w,Known ops F T a0 i a w→GI want G (a.eval (.tmp d)))
    (h:G=true→∀ a w,New w0 w→Known ops F T a0 i a w→(execOp a.eval o).run P w=.ok (.value X) w) (hT:∀ w,T i (gq G X) w:=by exact fun _=>rfl):StepOk P ops Q F T a0 w0 i:=by
  cases hG:G with
  | false=>exact g_skip hi hg hj (fun a w _ hk=>(hv a w hk).2 hG) (fun w=>by have:=hT w; rw [hG] at this; exact this)
  | true=>exact step_takeG hi (onG hg hj fun a w hk=>(hv a w hk).1 hG) fun a w hn hk=>⟨X,h hG a w hn hk,by have:=hT w; rw [hG] at this; exact this⟩
theorem scC {o:Oper} {f:FuncId} {xs:Array Operand} {ats:Array TypeId} {j d:Nat} {want G:Bool} {V:Value} (hi:ops.toList[i]?=some o) (hg:o.guard=some (j,want)) (hj:(ops[j]?).bind (·.dst)=some d) (hv:∀ a w,Known ops F T a0 i a w→GI want G (a.eval (.tmp d)))
    (ho:o.op=.call { callee:=.value (.func f),args:=xs,argTypes:=ats })
    (h:G=true→∀ a w,New w0 w→Known ops F T a0 i a w→∃ args:Array Value,xs.toList.map a.eval=args.toList∧(∀ w,(callFunc f args).run P w=.ok (.enter f args) w)∧Calls P f args w (fun e w'=>e=.returned V∧New w w')) (hT:∀ w,T i (gq G V) w:=by exact fun _=>rfl):StepOk P ops Q F T a0 w0 i:=by
  cases hG:G with
  | false=>exact g_skip hi hg hj (fun a w _ hk=>(hv a w hk).2 hG) (fun w=>by have:=hT w; rw [hG] at this; exact this)
  | true =>
    refine step_callG hi (onG hg hj fun a w hk=>(hv a w hk).1 hG) ho fun a w hn hk=>?_
    obtain⟨args,h1,h2,h3⟩:=h hG a w hn hk
    exact⟨args,_,h1,h2,h3,fun e w' ⟨he,hn'⟩=>⟨V,he,hn',by have:=hT w'; rw [hG] at this; exact this⟩⟩
end
section
variable {P:Program} {o:Oper} {a:Act} {w:World}
theorem v_and {c x y:Operand} {g r:Bool} (ho:o.op=.pick c x y) (hc:a.eval c=.bool g) (hx:g=true→a.eval x=.bool r) (hy:a.eval y=.bool false):(execOp a.eval o).run P w=.ok (.value (.bool (g && r))) w:=v_pick ho hc (by
  cases g with
  | false=>rw [if_neg (by simp),hy]; rfl
  | true=>rw [if_pos rfl,hx rfl]; rfl)
theorem v_or {c x y:Operand} {g r:Bool} (ho:o.op=.pick c x y) (hc:a.eval c=.bool g) (hx:a.eval x=.bool true) (hy:g=false→a.eval y=.bool r):(execOp a.eval o).run P w=.ok (.value (.bool (g || r))) w:=v_pick ho hc (by
  cases g with
  | false=>rw [if_neg (by simp),hy rfl]; rfl
  | true=>rw [if_pos rfl,hx]; rfl)
end
theorem r_eqlB (x y:Bool):∀ w,(binOp .eql 4 (.bool x) (.bool y)).run Tryz.prog w=.ok (.bool (x == y)) w:=by
  intro w; cases x <;> cases y <;> kernel_rfl
abbrev svT (A:Option Addr) (xs:List ByteArray) (c:Nat):Value:=.slice A xs.length c
def encT (xs:List ByteArray):List Value:=xs.map .string
def TRow (w:World) (A:Option Addr) (xs:List ByteArray) (c:Nat):Prop:=RowAt w 1 (svT A xs c) xs.length (encT xs)
theorem elT:ElemT Tryz.prog 80 9 (.string ⟨#[]⟩) 1 16:=⟨Tryz.underlying80,by kernel_rfl,rfl,by omega⟩
theorem encT_get (xs:List ByteArray) (i:Nat) (h:i < xs.length):(encT xs)[i]?=some (.string (xs.getD i ⟨#[]⟩)):=by simp [encT,List.getD,h]
section
variable {w w':World} {A:Option Addr} {xs:List ByteArray} {c:Nat}
theorem TRow.new_ (h:TRow w A xs c) (hn:New w w'):TRow w' A xs c:=RowAt.new_ h hn
theorem TRow.at (h:TRow w A xs c) {i:Nat} (hi:i < xs.length):∃ b o,A=some ⟨b,o,none⟩∧SElem w b (o + i) (.string (xs.getD i ⟨#[]⟩)):=by
  rcases h.2 with ⟨h0,_⟩ | ⟨b,o,c',hv,hc,hm,hb,hx⟩
  · omega
  · injection hv with hA _ _
    exact⟨b,o,hA,hx i _ (encT_get xs i hi),hb⟩
theorem TRow.max (h:TRow w A xs c):(xs.length:Int)≤9223372036854775807:=by
  rcases h.2 with ⟨h0,_⟩ | ⟨_,_,c',_,hc,hm,_⟩
  · omega
  · unfold maxLen at hm; omega
theorem tfresh (w:World) (e:TypeId) (ys:List ByteArray) (hm:ys.length≤maxLen):TRow (w.alloc (.cells (encT ys).toArray e)) (some ⟨w.heap.size,0,none⟩) ys ys.length :=
  (Own.row (base:=w.heap.size) (e:=e) (.inl ⟨by simp [encT],.inr ⟨w.heap.size,_,_,rfl,Nat.le_refl _,heap_alloc_new w _,Nat.le_refl _,hm,by simp [encT],by rw [Nat.mul_one]; exact List.take_of_length_le (by simp [encT])⟩⟩))
end
section
variable {P:Program} {o:Oper} {a:Act} {w:World} {t e:TypeId} {z:Value} {by_:Nat} {A:Option Addr} {xs:List ByteArray} {c:Nat} {T:Value→World→Prop}
theorem x_eaddrT {x y:Operand} {k':IntKind} {i:Int} (ho:o.op=.indexAddr t x y) (hE:ElemT P t e z 1 by_) (hx:a.eval x=svT A xs c) (hy:a.eval y=.int k' i) (hr:TRow w A xs c) (hi:0≤i∧i < xs.length)
    (h:∀ b o',SElem w b o' (.string (xs.getD i.toNat ⟨#[]⟩))→T (.pointer (some ⟨b,o',none⟩)) w):∃ v,(execOp a.eval o).run P w=.ok (.value v) w∧T v w:=by
  obtain⟨ht,hinfo,_,_⟩:=hE
  obtain⟨it,hit,_,hsize,_⟩:=info_parts hinfo
  obtain⟨b,o',rfl,he⟩:=hr.at (i:=i.toNat) (by omega)
  refine ⟨_,?_,h b (o' + i.toNat) he⟩
  have hadd:(⟨b,o',none⟩:Addr).add i.toNat=⟨b,o' + i.toNat,none⟩:=by unfold Addr.add; split <;> simp_all
  simp [execOp,ho,hx,hy,Instr.indexAt,run_underlying ht,asIntOf,sizeOf,typeInfo,hit,hsize,hi,hadd]
theorem x_bsliceT {parts:Array (Nat × Operand)} {n:Nat} {ps:List (Nat × Value)} (ys:List ByteArray) (ho:o.op=.buildSlice t n parts) (hp:(parts.map fun (i,x)=>(i,a.eval x))=ps.toArray) (hE:ElemT P t e z 1 by_) (hn:n=ys.length) (hn0:0 < n) (hsm:n≤1000000)
    (hf:Instr.fill (fun i=>some (i * 1,1)) ((Array.range (n * 1)).map (z.cells[· % z.cells.size]!)) ps=some (encT ys).toArray)
    (h:∀ A' c' w',TRow w' A' ys c'→T (svT A' ys c') w'):∃ v w',(execOp a.eval o).run P w=.ok (.value v) w'∧New w w'∧T v w':=by
  obtain⟨ht,hinfo,_,_⟩:=hE
  obtain⟨it,hit,hz,hsize,_⟩:=info_parts hinfo
  refine ⟨svT (some ⟨w.heap.size,0,none⟩) ys ys.length,w.alloc (.cells (encT ys).toArray e),?_,(Upd.refl _ _).alloc _,h _ _ _ (tfresh w e ys (by unfold maxLen; omega))⟩
  have h:=run_buildSlice (P:=P) w t e n ps.toArray (encT ys).toArray it z ht hit hz (by rw [hsize]; omega) (by rw [hsize]; omega) (by rw [hsize]; exact hf)
  simp only [execOp,ho,hp,Sem.run_bind,h,Result.andThen_ok]
  rw [hn]
  rfl
end
theorem lb {a b:Nat} (h:Nat.ble a b=true:=by rfl):a≤b:=Nat.le_of_ble_eq_true h
theorem bc (b:Bool):b=true ∨ b=false:=Bool.eq_false_or_eq_true b
theorem oT {p:Prop} [Decidable p] (h:decide p=true):p:=of_decide_eq_true h
theorem oF {p:Prop} [Decidable p] (h:decide p=false):¬ p:=of_decide_eq_false h
theorem pn {a a':Act} {d j:Nat} {v x:Value} (h:a'=a.put (some d) v) (hx:a.eval (.tmp j)=x) (hd:d ≠ j):a'.eval (.tmp j)=x:=by rw [h,put_ne _ _ _ _ hd]; exact hx
theorem hB {v:Value} {t b:Bool} (h:v=.bool t) (ht:t=b):v=.bool b:=h.trans (congrArg Value.bool ht)
theorem aft {ops:Array Oper} {F:Array Bool} {news:List Nat} {T:Nat→Value→World→Prop} {a0 a:Act} {w w0 w1:World} {N:Nat} {Fr:Nat→Prop} (h:After ops F news T a0 a w) (hs:a0.tmps.size=N) (hd:a0.defers=[]) (hN:Upd Fr w0 w1) (hn:New w1 w):a.tmps.size=N∧a.defers=[]∧Upd Fr w0 w:=⟨h.size.trans hs,h.defers.trans hd,hN.transNew hn⟩
theorem aftI {ops:Array Oper} {F:Array Bool} {news:List Nat} {T:Nat→Value→World→Prop} {a0:Act} {w0 w1:World} {N:Nat} {Fr:Nat→Prop} {G:Act→World→Prop} (hs:a0.tmps.size=N) (hd:a0.defers=[]) (hN:Upd Fr w0 w1) (h:∀ a w,a.tmps.size=N→a.defers=[]→Upd Fr w0 w→New w1 w→After ops F news T a0 a w→G a w):∀ a w,New w1 w→After ops F news T a0 a w→G a w:=fun a w hn ha=>h a w (ha.size.trans hs) (ha.defers.trans hd) (hN.transNew hn) hn ha
abbrev vF:Value→World→Prop:=ve (.bool false)
abbrev vT:Value→World→Prop:=ve (.bool true)
abbrev vU:Value→World→Prop:=ve undef
abbrev EP (x:Value):Value→World→Prop:=fun v W=>∃ (b:Nat) (o:Nat),v=.pointer (some ⟨b,o,none⟩)∧SElem W b o x
abbrev RP (k:IntKind) (xs:List Nat):Value→World→Prop:=fun v W=>∃ (A:Option Addr) (c:Nat),v=sv A xs c∧SRow W k A xs c
abbrev OP (b:Nat) (e:TypeId) (k:IntKind) (xs:List Nat):Value→World→Prop:=fun v W=>∃ (A:Option Addr) (c:Nat),v=sv A xs c∧SOwn W b e k A xs c
theorem pz {a a':Act} {d:Option Tmp} {v:Value} {N:Nat} (h:a'=a.put d v) (hs:a.tmps.size=N):a'.tmps.size=N:=by rw [h,put_size]; exact hs
theorem pd {a a':Act} {d:Option Tmp} {v:Value} (h:a'=a.put d v) (hs:a.defers=[]):a'.defers=[]:=by rw [h,put_defers]; exact hs
def opAt (ops:Array Oper) (i:Nat):Oper:=(ops.toList[i]?).getD { dst:=none,op:=.move (.tmp 0),type:=0,pos:= "",after:=#[],guard:=none }
section
variable {P:Program} {ops:Array Oper} {Q:Exit→Act→World→Prop} {T:Nat→Value→World→Prop} {F:Array Bool} {a0:Act} {w0:World} {news E:List Nat} {r:List Bool} {i:Nat}
theorem AllAt.t (h:∀ a w,New w0 w→Known ops F T a0 i a w→∃ v,(execOp a.eval (opAt ops i)).run P w=.ok (.value v) w∧T i v w) (t:AllAt (fun i=>E.contains i=false→StepG P ops Q F T a0 w0 news i) r (i + 1))
    (hi:ops.toList[i]?=some (opAt ops i):=by rfl) (hg:(opAt ops i).guard=none:=by rfl) (hn:news.contains i=false:=by rfl):AllAt (fun i=>E.contains i=false→StepG P ops Q F T a0 w0 news i) (true :: r) i:=.o1 (tk hi hg h) t hn
theorem AllAt.m {x:Operand} {v:Value} (h:∀ {a w},Known ops F T a0 i a w→a.eval x=v) (t:AllAt (fun i=>E.contains i=false→StepG P ops Q F T a0 w0 news i) r (i + 1))
    (hi:ops.toList[i]?=some (opAt ops i):=by rfl) (hg:(opAt ops i).guard=none:=by rfl) (ho:(opAt ops i).op=.move x:=by rfl) (hT:∀ w,T i v w:=by exact fun _=>rfl) (hn:news.contains i=false:=by rfl):AllAt (fun i=>E.contains i=false→StepG P ops Q F T a0 w0 news i) (true :: r) i :=
  .o1 (tk hi hg fun a w h1 h2=>⟨v,v_move ho (h h2),hT w⟩) t hn
theorem AllAt.a {x:Operand} {v:Value} (h:∀ {a w},Known ops F T a0 i a w→a.eval x=v) (t:AllAt (fun i=>E.contains i=false→StepG P ops Q F T a0 w0 news i) r (i + 1))
    (hi:ops.toList[i]?=some (opAt ops i):=by rfl) (hg:(opAt ops i).guard=none:=by rfl) (ho:(opAt ops i).op=.assign x:=by rfl) (hT:∀ w,T i v w:=by exact fun _=>rfl) (hn:news.contains i=false:=by rfl):AllAt (fun i=>E.contains i=false→StepG P ops Q F T a0 w0 news i) (true :: r) i :=
  .o1 (tk hi hg fun a w h1 h2=>⟨v,v_assign ho (h h2),hT w⟩) t hn
theorem AllAt.f {x:Operand} {p:Addr} (h:∀ {a w},Known ops F T a0 i a w→a.eval x=.pointer (some p)) (t:AllAt (fun i=>E.contains i=false→StepG P ops Q F T a0 w0 news i) r (i + 1))
    (hi:ops.toList[i]?=some (opAt ops i):=by rfl) (hg:(opAt ops i).guard=none:=by rfl) (ho:∃ s f p',(opAt ops i).op=.fieldAddr s x f∧(∀ w,(Instr.fieldAt s (.pointer (some p)) f).run P w=.ok (.pointer (some p')) w)∧∀ w,T i (.pointer (some p')) w:=by exact⟨_,_,_,rfl,fun _=>rfl,fun _=>rfl⟩) (hn:news.contains i=false:=by rfl):AllAt (fun i=>E.contains i=false→StepG P ops Q F T a0 w0 news i) (true :: r) i:=by
  obtain⟨s,f,p',h1,h2,h3⟩:=ho
  exact .o1 (tk hi hg fun a w k1 k2=>⟨_,v_field h1 (h k2) h2,h3 w⟩) t hn
theorem AllAt.g {d:Nat} {want:Bool} (hv:∀ {a w},Known ops F T a0 i a w→a.eval (.tmp d)=.bool want) (h:∀ a w,New w0 w→Known ops F T a0 i a w→∃ v,(execOp a.eval (opAt ops i)).run P w=.ok (.value v) w∧T i v w) (t:AllAt (fun i=>E.contains i=false→StepG P ops Q F T a0 w0 news i) r (i + 1))
    (hi:ops.toList[i]?=some (opAt ops i):=by rfl) (hg:∃ j,(opAt ops i).guard=some (j,want)∧(ops[j]?).bind (·.dst)=some d:=by exact⟨_,rfl,rfl⟩) (hn:news.contains i=false:=by rfl):AllAt (fun i=>E.contains i=false→StepG P ops Q F T a0 w0 news i) (true :: r) i:=by
  obtain⟨j,h1,h2⟩:=hg
  exact .o1 (tg hi h1 h2 (fun _ _ k=>hv k) h) t hn
theorem AllAt.s {d:Nat} {b:Bool} (hv:∀ {a w},Known ops F T a0 i a w→a.eval (.tmp d)=.bool b) (t:AllAt (fun i=>E.contains i=false→StepG P ops Q F T a0 w0 news i) r (i + 1))
    (hi:ops.toList[i]?=some (opAt ops i):=by rfl) (hg:∃ j,(opAt ops i).guard=some (j,!b)∧(ops[j]?).bind (·.dst)=some d:=by exact⟨_,rfl,rfl⟩) (hT:∀ w,T i undef w:=by exact fun _=>rfl) (hn:news.contains i=false:=by rfl):AllAt (fun i=>E.contains i=false→StepG P ops Q F T a0 w0 news i) (true :: r) i:=by
  obtain⟨j,h1,h2⟩:=hg
  exact .o1 (sk hi h1 h2 (fun a w k1 k2=>by rw [Bool.not_not]; exact hv k2) hT) t hn
theorem AllAt.gm {d:Nat} {want:Bool} {x:Operand} {v:Value} (hv:∀ {a w},Known ops F T a0 i a w→a.eval (.tmp d)=.bool want) (h:∀ {a w},Known ops F T a0 i a w→a.eval x=v) (t:AllAt (fun i=>E.contains i=false→StepG P ops Q F T a0 w0 news i) r (i + 1))
    (hi:ops.toList[i]?=some (opAt ops i):=by rfl) (hg:∃ j,(opAt ops i).guard=some (j,want)∧(ops[j]?).bind (·.dst)=some d:=by exact⟨_,rfl,rfl⟩) (ho:(opAt ops i).op=.move x:=by rfl) (hT:∀ w,T i v w:=by exact fun _=>rfl) (hn:news.contains i=false:=by rfl):AllAt (fun i=>E.contains i=false→StepG P ops Q F T a0 w0 news i) (true :: r) i :=
  .g hv (fun _ w _ k=>⟨v,v_move ho (h k),hT w⟩) t hi hg hn
theorem AllAt.gf {d:Nat} {want:Bool} {x:Operand} {p:Addr} (hv:∀ {a w},Known ops F T a0 i a w→a.eval (.tmp d)=.bool want) (h:∀ {a w},Known ops F T a0 i a w→a.eval x=.pointer (some p)) (t:AllAt (fun i=>E.contains i=false→StepG P ops Q F T a0 w0 news i) r (i + 1))
    (hi:ops.toList[i]?=some (opAt ops i):=by rfl) (hg:∃ j,(opAt ops i).guard=some (j,want)∧(ops[j]?).bind (·.dst)=some d:=by exact⟨_,rfl,rfl⟩) (ho:∃ s f p',(opAt ops i).op=.fieldAddr s x f∧(∀ w,(Instr.fieldAt s (.pointer (some p)) f).run P w=.ok (.pointer (some p')) w)∧∀ w,T i (.pointer (some p')) w:=by exact⟨_,_,_,rfl,fun _=>rfl,fun _=>rfl⟩) (hn:news.contains i=false:=by rfl):AllAt (fun i=>E.contains i=false→StepG P ops Q F T a0 w0 news i) (true :: r) i:=by
  obtain⟨s,f,p',h1,h2,h3⟩:=ho
  exact .g hv (fun _ w _ k=>⟨_,v_field h1 (h k) h2,h3 w⟩) t hi hg hn
end
theorem After.G {ops:Array Oper} {F:Array Bool} {news:List Nat} {Ts:List (Value→World→Prop)} {a0 a:Act} {w:World} (ha:After ops F news (TL Ts) a0 a w) (k d:Nat) (h1:F.getD k false=true:=by rfl) (h2:(ops[k]?).bind (·.dst)=some d:=by kernel_rfl):TL Ts k (a.eval (.tmp d)) w:=ha.got k d h1 h2
theorem SRow.fr {w w':World} {k:IntKind} {A:Option Addr} {xs:List Nat} {c q:Nat} {T:TypeId} {cs:List Value} (h:SRow w k A xs c) (hb:Blk w q T cs) (hu:Upd (fun b=>b=q) w w') (hn:cs.all (notK k)=true:=by first | rfl | decide | simp [notK]):SRow w' k A xs c:=h.far hb hu hn
theorem SOwn.fr {w w':World} {b:Nat} {e:TypeId} {k:IntKind} {A:Option Addr} {xs:List Nat} {c q:Nat} {T:TypeId} {cs:List Value} (h:SOwn w b e k A xs c) (hb:Blk w q T cs) (hu:Upd (fun b=>b=q) w w') (hne:e ≠ T:=by first | rfl | decide | simp [notK]):SOwn w' b e k A xs c:=h.far hb hu hne
abbrev z7:List Value:=[iv 0,iv 0,iv 0,.bool false,sv none [] 0,sv none [] 0,iv 0]
section
variable {P:Program} {ops:Array Oper} {QQ:Exit→Act→World→Prop} {Ts:List (Value→World→Prop)} {FF:Array Bool} {a0:Act} {w0:World} {news EE:List Nat} {r:List Bool} {i k d:Nat}
abbrev AA (P:Program) (ops:Array Oper) (QQ:Exit→Act→World→Prop) (Ts:List (Value→World→Prop)) (FF:Array Bool) (a0:Act) (w0:World) (news EE:List Nat) (r:List Bool) (i:Nat):Prop:=AllAt (fun i=>EE.contains i=false→StepG P ops QQ FF (TL Ts) a0 w0 news i) r i
theorem AllAt.T {v:Value} (h:∀ {a w},Known ops FF (TL Ts) a0 i a w→(execOp a.eval (opAt ops i)).run P w=.ok (.value v) w) (t:AA P ops QQ Ts FF a0 w0 news EE r (i + 1))
    (hi:ops.toList[i]?=some (opAt ops i):=by rfl) (hg:(opAt ops i).guard=none:=by rfl) (hT:∀ w,TL Ts i v w:=by exact fun _=>rfl) (hn:news.contains i=false:=by rfl):AllAt (fun i=>EE.contains i=false→StepG P ops QQ FF (TL Ts) a0 w0 news i) (true :: r) i:=.o1 (tk hi hg fun a w _ k=>⟨v,h k,hT w⟩) t hn
theorem AllAt.R {v:Value} (h:∀ {a w},Known ops FF (TL Ts) a0 i a w→(execOp a.eval (opAt ops i)).run P w=.ok (.value v) w) (hT:∀ w,TL Ts i v w) (t:AA P ops QQ Ts FF a0 w0 news EE r (i + 1))
    (hi:ops.toList[i]?=some (opAt ops i):=by rfl) (hg:(opAt ops i).guard=none:=by rfl) (hn:news.contains i=false:=by rfl):AllAt (fun i=>EE.contains i=false→StepG P ops QQ FF (TL Ts) a0 w0 news i) (true :: r) i:=.o1 (tk hi hg fun a w _ k=>⟨v,h k,hT w⟩) t hn
theorem AllAt.U {v:Value} (h:∀ {a w},New w0 w→Known ops FF (TL Ts) a0 i a w→(execOp a.eval (opAt ops i)).run P w=.ok (.value v) w) (t:AA P ops QQ Ts FF a0 w0 news EE r (i + 1))
    (hi:ops.toList[i]?=some (opAt ops i):=by rfl) (hg:(opAt ops i).guard=none:=by rfl) (hT:∀ w,TL Ts i v w:=by exact fun _=>rfl) (hn:news.contains i=false:=by rfl):AllAt (fun i=>EE.contains i=false→StepG P ops QQ FF (TL Ts) a0 w0 news i) (true :: r) i:=.o1 (tk hi hg fun a w n k=>⟨v,h n k,hT w⟩) t hn
theorem AllAt.M {v:Value} (h:a0.eval (.tmp d)=v) (t:AA P ops QQ Ts FF a0 w0 news EE r (i + 1))
    (hi:ops.toList[i]?=some (opAt ops i):=by rfl) (hg:(opAt ops i).guard=none:=by rfl) (ho:(opAt ops i).op=.move (.tmp d):=by rfl) (hf:fixedB ops FF d=true:=by kernel_rfl) (hT:∀ w,TL Ts i v w:=by exact fun _=>rfl) (hn:news.contains i=false:=by rfl):AllAt (fun i=>EE.contains i=false→StepG P ops QQ FF (TL Ts) a0 w0 news i) (true :: r) i:=.m (fun k=>k.fx d h hf) t hi hg ho hT hn
theorem AllAt.N (k:Nat) {v:Value} (t:AA P ops QQ Ts FF a0 w0 news EE r (i + 1))
    (hi:ops.toList[i]?=some (opAt ops i):=by rfl) (hg:(opAt ops i).guard=none:=by rfl) (ho:(opAt ops i).op=.move (.tmp d):=by rfl) (h3:Ts[k]?=some fun x _=>x=v:=by rfl) (h1:(afterOf ops i).contains k=true:=by kernel_rfl) (h2:(ops[k]?).bind (·.dst)=some d:=by kernel_rfl) (hT:∀ w,TL Ts i v w:=by exact fun _=>rfl) (hn:news.contains i=false:=by rfl):AllAt (fun i=>EE.contains i=false→StepG P ops QQ FF (TL Ts) a0 w0 news i) (true :: r) i:=.m (fun kn=>kn.eq1 k d h3 h1 h2) t hi hg ho hT hn
theorem AllAt.B (k:Nat) {v:Value} (t:AA P ops QQ Ts FF a0 w0 news EE r (i + 1))
    (hi:ops.toList[i]?=some (opAt ops i):=by rfl) (hg:(opAt ops i).guard=none:=by rfl) (ho:(opAt ops i).op=.assign (.tmp d):=by rfl) (h3:Ts[k]?=some fun x _=>x=v:=by rfl) (h1:(afterOf ops i).contains k=true:=by kernel_rfl) (h2:(ops[k]?).bind (·.dst)=some d:=by kernel_rfl) (hT:∀ w,TL Ts i v w:=by exact fun _=>rfl) (hn:news.contains i=false:=by rfl):AllAt (fun i=>EE.contains i=false→StepG P ops QQ FF (TL Ts) a0 w0 news i) (true :: r) i:=.a (fun kn=>kn.eq1 k d h3 h1 h2) t hi hg ho hT hn
theorem AllAt.A {v:Value} (t:AA P ops QQ Ts FF a0 w0 news EE r (k + 1 + 1))
    (hi:ops.toList[k + 1]?=some (opAt ops (k + 1)):=by rfl) (hg:(opAt ops (k + 1)).guard=none:=by rfl) (ho:(opAt ops (k + 1)).op=.assign (.tmp d):=by rfl) (h3:Ts[k]?=some fun x _=>x=v:=by rfl) (h1:(afterOf ops (k + 1)).contains k=true:=by kernel_rfl) (h2:(ops[k]?).bind (·.dst)=some d:=by kernel_rfl) (hT:∀ w,TL Ts (k + 1) v w:=by exact fun _=>rfl) (hn:news.contains (k + 1)=false:=by rfl):AllAt (fun i=>EE.contains i=false→StepG P ops QQ FF (TL Ts) a0 w0 news i) (true :: r) (k + 1):=.a (fun kn=>kn.eq1 k d h3 h1 h2) t hi hg ho hT hn
theorem AllAt.F {p:Addr} (h:a0.eval (.tmp d)=.pointer (some p)) (t:AA P ops QQ Ts FF a0 w0 news EE r (i + 1))
    (hi:ops.toList[i]?=some (opAt ops i):=by rfl) (hg:(opAt ops i).guard=none:=by rfl) (ho:∃ s f p',(opAt ops i).op=.fieldAddr s (.tmp d) f∧(∀ w,(Instr.fieldAt s (.pointer (some p)) f).run P w=.ok (.pointer (some p')) w)∧∀ w,TL Ts i (.pointer (some p')) w:=by exact⟨_,_,_,rfl,fun _=>rfl,fun _=>rfl⟩) (hf:fixedB ops FF d=true:=by kernel_rfl) (hn:news.contains i=false:=by rfl):AllAt (fun i=>EE.contains i=false→StepG P ops QQ FF (TL Ts) a0 w0 news i) (true :: r) i:=.f (fun k=>k.fx d h hf) t hi hg ho hn
theorem AllAt.c {v:Value} (t:AA P ops QQ Ts FF a0 w0 news EE r (i + 1)) (hT:∀ w,TL Ts i v w:=by exact fun _=>rfl)
    (hi:ops.toList[i]?=some (opAt ops i):=by rfl) (hg:(opAt ops i).guard=none:=by rfl) (ho:∃ x,(opAt ops i).op=.assign x∧∀ a:Act,a.eval x=v:=by exact⟨_,rfl,fun _=>rfl⟩) (hn:news.contains i=false:=by rfl):AllAt (fun i=>EE.contains i=false→StepG P ops QQ FF (TL Ts) a0 w0 news i) (true :: r) i:=by
  obtain⟨x,h1,h2⟩:=ho
  exact .o1 (tk hi hg fun a w _ _=>⟨v,v_assign h1 (h2 a),hT w⟩) t hn
theorem AllAt.S {b:Bool} (t:AA P ops QQ Ts FF a0 w0 news EE r (i + 1))
    (hi:ops.toList[i]?=some (opAt ops i):=by rfl) (hg0:(opAt ops i).guard.map (·.1)=some k:=by rfl) (h3:Ts[k]?=some fun x _=>x=.bool b:=by rfl) (hg:(opAt ops i).guard=some (k,!b):=by rfl) (h2:(ops[k]?).bind (·.dst)=some d:=by rfl) (h1:(afterOf ops i).contains k=true:=by kernel_rfl) (hT:∀ w,TL Ts i undef w:=by exact fun _=>rfl) (hn:news.contains i=false:=by rfl):AllAt (fun i=>EE.contains i=false→StepG P ops QQ FF (TL Ts) a0 w0 news i) (true :: r) i:=.s (fun kn=>kn.eq1 k d h3 h1 h2) t hi ⟨k,hg,h2⟩ hT hn
theorem AllAt.V {b:Bool} {v:Value} (h:∀ {a w},New w0 w→Known ops FF (TL Ts) a0 i a w→(execOp a.eval (opAt ops i)).run P w=.ok (.value v) w) (t:AA P ops QQ Ts FF a0 w0 news EE r (i + 1))
    (hi:ops.toList[i]?=some (opAt ops i):=by rfl) (hg:(opAt ops i).guard=some (k,b):=by rfl) (h3:Ts[k]?=some fun x _=>x=.bool b:=by rfl) (h2:(ops[k]?).bind (·.dst)=some d:=by rfl) (h1:(afterOf ops i).contains k=true:=by kernel_rfl) (hT:∀ w,TL Ts i v w:=by exact fun _=>rfl) (hn:news.contains i=false:=by rfl):AllAt (fun i=>EE.contains i=false→StepG P ops QQ FF (TL Ts) a0 w0 news i) (true :: r) i:=.g (fun kn=>kn.eq1 k d h3 h1 h2) (fun a w n kn=>⟨v,h n kn,hT w⟩) t hi ⟨k,hg,h2⟩ hn
theorem AllAt.E (k:Nat) {vs:Array Value} {v:Value} {j:Nat} (t:AA P ops QQ Ts FF a0 w0 news EE r (i + 1)) (hT:∀ w,TL Ts i v w:=by exact fun _=>rfl)
    (hi:ops.toList[i]?=some (opAt ops i):=by rfl) (hg:(opAt ops i).guard=none:=by rfl) (ho:(opAt ops i).op=.extract (.tmp d) j:=by rfl) (h3:Ts[k]?=some fun x _=>x=.tuple vs:=by rfl) (hv:vs[j]?=some v:=by rfl) (h1:(afterOf ops i).contains k=true:=by kernel_rfl) (h2:(ops[k]?).bind (·.dst)=some d:=by kernel_rfl) (hn:news.contains i=false:=by rfl):AllAt (fun i=>EE.contains i=false→StepG P ops QQ FF (TL Ts) a0 w0 news i) (true :: r) i:=.T (fun kn=>v_extract ho (kn.eq1 k d h3 h1 h2) hv) t hi hg hT hn
theorem AllAt.O (k l:Nat) {g b:Bool} {c x:Nat} (t:AA P ops QQ Ts FF a0 w0 news EE r (i + 1))
    (hi:ops.toList[i]?=some (opAt ops i):=by rfl) (hg:(opAt ops i).guard=none:=by rfl) (ho:∃ y,(opAt ops i).op=.pick (.tmp c) (.tmp x) y∧∀ a:Act,a.eval y=.bool false:=by exact⟨_,rfl,fun _=>rfl⟩) (h3:Ts[k]?=some fun x _=>x=.bool g:=by rfl) (h4:Ts[l]?=some fun x _=>x=gq g (.bool b):=by rfl) (h1:(afterOf ops i).contains k=true:=by kernel_rfl) (h5:(afterOf ops i).contains l=true:=by kernel_rfl) (h2:(ops[k]?).bind (·.dst)=some c:=by kernel_rfl) (h6:(ops[l]?).bind (·.dst)=some x:=by kernel_rfl) (hT:∀ w,TL Ts i (.bool (g && b)) w:=by exact fun _=>rfl) (hn:news.contains i=false:=by rfl):AllAt (fun i=>EE.contains i=false→StepG P ops QQ FF (TL Ts) a0 w0 news i) (true :: r) i:=by
  obtain⟨y,hy,hz⟩:=ho
  exact .T (fun kn=>v_and hy (kn.eq1 k c h3 h1 h2) (fun hg=>cT hg (kn.eq1 l x h4 h5 h6)) (hz _)) t hi hg hT hn
theorem AllAt.W (k l:Nat) {g b:Bool} {c x:Nat} (t:AA P ops QQ Ts FF a0 w0 news EE r (i + 1))
    (hi:ops.toList[i]?=some (opAt ops i):=by rfl) (hg:(opAt ops i).guard=none:=by rfl) (ho:∃ y,(opAt ops i).op=.pick (.tmp c) y (.tmp x)∧∀ a:Act,a.eval y=.bool true:=by exact⟨_,rfl,fun _=>rfl⟩) (h3:Ts[k]?=some fun x _=>x=.bool g:=by rfl) (h4:Ts[l]?=some fun x _=>x=gq (!g) (.bool b):=by rfl) (h1:(afterOf ops i).contains k=true:=by kernel_rfl) (h5:(afterOf ops i).contains l=true:=by kernel_rfl) (h2:(ops[k]?).bind (·.dst)=some c:=by kernel_rfl) (h6:(ops[l]?).bind (·.dst)=some x:=by kernel_rfl) (hT:∀ w,TL Ts i (.bool (g || b)) w:=by exact fun _=>rfl) (hn:news.contains i=false:=by rfl):AllAt (fun i=>EE.contains i=false→StepG P ops QQ FF (TL Ts) a0 w0 news i) (true :: r) i:=by
  obtain⟨y,hy,hz⟩:=ho
  exact .T (fun kn=>v_or hy (kn.eq1 k c h3 h1 h2) (hz _) (fun hg=>cT (nt hg) (kn.eq1 l x h4 h5 h6))) t hi hg hT hn
theorem AllAt.L {p:Addr} {v:Value} {ty:TypeId} (h:a0.eval (.tmp d)=.pointer (some p)) (hl:∀ {w},New w0 w→(loadVar ty p).run P w=.ok v w) (t:AA P ops QQ Ts FF a0 w0 news EE r (i + 1))
    (hi:ops.toList[i]?=some (opAt ops i):=by rfl) (hg:(opAt ops i).guard=none:=by rfl) (ho:(opAt ops i).op=.load ty (.tmp d):=by rfl) (hf:fixedB ops FF d=true:=by kernel_rfl) (hT:∀ w,TL Ts i v w:=by exact fun _=>rfl) (hn:news.contains i=false:=by rfl):AllAt (fun i=>EE.contains i=false→StepG P ops QQ FF (TL Ts) a0 w0 news i) (true :: r) i:=.U (fun n k=>v_load ho (k.fx d h hf) (hl n)) t hi hg hT hn
theorem AllAt.K (k:Nat) {p:Addr} {v:Value} {ty:TypeId} (h3:Ts[k]?=some fun x _=>x=.pointer (some p)) (hl:∀ {w},New w0 w→(loadVar ty p).run P w=.ok v w) (t:AA P ops QQ Ts FF a0 w0 news EE r (i + 1))
    (hi:ops.toList[i]?=some (opAt ops i):=by rfl) (hg:(opAt ops i).guard=none:=by rfl) (ho:(opAt ops i).op=.load ty (.tmp d):=by rfl) (h1:(afterOf ops i).contains k=true:=by kernel_rfl) (h2:(ops[k]?).bind (·.dst)=some d:=by kernel_rfl) (hT:∀ w,TL Ts i v w:=by exact fun _=>rfl) (hn:news.contains i=false:=by rfl):AllAt (fun i=>EE.contains i=false→StepG P ops QQ FF (TL Ts) a0 w0 news i) (true :: r) i:=.U (fun n kn=>v_load ho (kn.eq1 k d h3 h1 h2) (hl n)) t hi hg hT hn
theorem AllAt.D {f:FuncId} {xs:Array Operand} {ats:Array TypeId} {V:Value} {args:Array Value} (h1:∀ {a w},Known ops FF (TL Ts) a0 i a w→xs.toList.map a.eval=args.toList) (h:∀ {w},New w0 w→Calls P f args w (fun e w'=>e=.returned V∧New w w')) (t:AA P ops QQ Ts FF a0 w0 news EE r (i + 1))
    (hi:ops.toList[i]?=some (opAt ops i):=by rfl) (hg:(opAt ops i).guard=none:=by rfl) (ho:(opAt ops i).op=.call { callee:=.value (.func f),args:=xs,argTypes:=ats }:=by rfl) (hc:∀ w,(callFunc f args).run P w=.ok (.enter f args) w:=by exact fun _=>by kernel_rfl) (hT:∀ w,TL Ts i V w:=by exact fun _=>rfl) (hn:news.contains i=false:=by rfl):AllAt (fun i=>EE.contains i=false→StepG P ops QQ FF (TL Ts) a0 w0 news i) (true :: r) i:=.o1 (ck hi hg ho (fun _ _ n k=>⟨args,h1 k,hc,h n⟩) hT) t hn
theorem AllAt.C (k:Nat) {f:FuncId} {ats:Array TypeId} {V X:Value} (h:∀ {w},New w0 w→Calls P f #[X] w (fun e w'=>e=.returned V∧New w w')) (t:AA P ops QQ Ts FF a0 w0 news EE r (i + 1))
    (hi:ops.toList[i]?=some (opAt ops i):=by rfl) (hg:(opAt ops i).guard=none:=by rfl) (ho:(opAt ops i).op=.call { callee:=.value (.func f),args:=#[.tmp d],argTypes:=ats }:=by rfl) (h3:Ts[k]?=some fun x _=>x=X:=by rfl) (h1:(afterOf ops i).contains k=true:=by kernel_rfl) (h2:(ops[k]?).bind (·.dst)=some d:=by kernel_rfl) (hc:∀ w,(callFunc f #[X]).run P w=.ok (.enter f #[X]) w:=by exact fun _=>by kernel_rfl) (hT:∀ w,TL Ts i V w:=by exact fun _=>rfl) (hn:news.contains i=false:=by rfl):AllAt (fun i=>EE.contains i=false→StepG P ops QQ FF (TL Ts) a0 w0 news i) (true :: r) i:=.D (fun kn=>args1 (kn.eq1 k d h3 h1 h2)) h t hi hg ho hc hT hn
theorem AllAt.C2 (k l:Nat) {e:Nat} {f:FuncId} {ats:Array TypeId} {V X Y:Value} (h:∀ {w},New w0 w→Calls P f #[X,Y] w (fun e w'=>e=.returned V∧New w w')) (t:AA P ops QQ Ts FF a0 w0 news EE r (i + 1))
    (hi:ops.toList[i]?=some (opAt ops i):=by rfl) (hg:(opAt ops i).guard=none:=by rfl) (ho:(opAt ops i).op=.call { callee:=.value (.func f),args:=#[.tmp d,.tmp e],argTypes:=ats }:=by rfl) (h3:Ts[k]?=some fun x _=>x=X:=by rfl) (h1:(afterOf ops i).contains k=true:=by kernel_rfl) (h2:(ops[k]?).bind (·.dst)=some d:=by kernel_rfl) (h4:Ts[l]?=some fun x _=>x=Y:=by rfl) (h5:(afterOf ops i).contains l=true:=by kernel_rfl) (h6:(ops[l]?).bind (·.dst)=some e:=by kernel_rfl) (hc:∀ w,(callFunc f #[X,Y]).run P w=.ok (.enter f #[X,Y]) w:=by exact fun _=>by kernel_rfl) (hT:∀ w,TL Ts i V w:=by exact fun _=>rfl) (hn:news.contains i=false:=by rfl):AllAt (fun i=>EE.contains i=false→StepG P ops QQ FF (TL Ts) a0 w0 news i) (true :: r) i:=.D (fun kn=>args2 (kn.eq1 k d h3 h1 h2) (kn.eq1 l e h4 h5 h6)) h t hi hg ho hc hT hn
theorem AllAt.b (k:Nat) {op:BinOp} {ty t':TypeId} {y:Operand} {u v x:Value} (h:∀ w,(binOp op ty u v).run P w=.ok x w) (t:AA P ops QQ Ts FF a0 w0 news EE r (i + 1))
    (hi:ops.toList[i]?=some (opAt ops i):=by rfl) (hg:(opAt ops i).guard=none:=by rfl) (ho:(opAt ops i).op=.binOp op ty (.tmp d) y t':=by rfl) (h3:Ts[k]?=some fun x _=>x=u:=by rfl) (hy:∀ a:Act,a.eval y=v:=by exact fun _=>rfl) (hT:∀ w,TL Ts i x w:=by exact fun _=>rfl) (he:∀ w,(eqGuard op ty (.tmp d) y u v).run P w=.ok () w:=by exact fun _=>rfl) (h1:(afterOf ops i).contains k=true:=by kernel_rfl) (h2:(ops[k]?).bind (·.dst)=some d:=by kernel_rfl) (hn:news.contains i=false:=by rfl):AllAt (fun i=>EE.contains i=false→StepG P ops QQ FF (TL Ts) a0 w0 news i) (true :: r) i:=.T (fun kn=>v_bin ho (kn.eq1 k d h3 h1 h2) (hy _) he h) t hi hg hT hn
theorem AllAt.X {t0:TypeId} {cs:List Value} {u:Value} (h:a0.eval (.tmp d)=u) (t:AA P ops QQ Ts FF a0 w0 news EE r (i + 1)) (hT:∀ q w,w0.heap.size≤q→Blk w q t0 cs→TL Ts i (.pointer (some ⟨q,0,none⟩)) w:=by exact fun q _ h b=>⟨q,rfl,h,b⟩)
    (hi:ops.toList[i]?=some (opAt ops i):=by rfl) (hg:(opAt ops i).guard=none:=by rfl) (ho:(opAt ops i).op=.box t0 (.tmp d):=by rfl) (hb:∀ w,(Instr.box t0 u).run P w=.ok (.pointer (some ⟨w.heap.size,0,none⟩)) (w.alloc (.cells cs.toArray t0)):=by exact fun _=>rfl) (hf:fixedB ops FF d=true:=by kernel_rfl):AllAt (fun i=>EE.contains i=false→StepG P ops QQ FF (TL Ts) a0 w0 news i) (true :: r) i:=.o2 (step_allocN hi (noG hg) (fun _ _ _ k=>v_box ho (k.fx d h hf) hb) hT) t
theorem AllAt.Y {t0:TypeId} {cs:List Value} (t:AA P ops QQ Ts FF a0 w0 news EE r (i + 1)) (hT:∀ q w,w0.heap.size≤q→Blk w q t0 cs→TL Ts i (.pointer (some ⟨q,0,none⟩)) w:=by exact fun q _ h b=>⟨q,rfl,h,b⟩)
    (hi:ops.toList[i]?=some (opAt ops i):=by rfl) (hg:(opAt ops i).guard=none:=by rfl) (hr:∀ (a:Act) w,(execOp a.eval (opAt ops i)).run P w=.ok (.value (.pointer (some ⟨w.heap.size,0,none⟩))) (w.alloc (.cells cs.toArray t0)):=by exact fun _ _=>rfl):AllAt (fun i=>EE.contains i=false→StepG P ops QQ FF (TL Ts) a0 w0 news i) (true :: r) i:=.o2 (step_allocN hi (noG hg) (fun a w _ _=>hr a w) hT) t
theorem AllAt.Z {cells:Array Value} {ty:TypeId} (t:AA P ops QQ Ts FF a0 w0 news EE r (i + 1)) (hT:∀ w,TL Ts i (.agg cells) w:=by exact fun _=>rfl)
    (hi:ops.toList[i]?=some (opAt ops i):=by rfl) (hg:(opAt ops i).guard=none:=by rfl) (ho:(opAt ops i).op=.build ty #[]:=by rfl) (hb:P.built ty []=some cells:=by kernel_rfl) (hn:news.contains i=false:=by rfl):AllAt (fun i=>EE.contains i=false→StepG P ops QQ FF (TL Ts) a0 w0 news i) (true :: r) i:=.T (fun _=>v_build ho parts0 hb) t hi hg hT hn
theorem AllAt.Q {want G:Bool} {X:Value} (hv:∀ {a w},Known ops FF (TL Ts) a0 i a w→GI want G (a.eval (.tmp d))) (h:∀ {a w},G=true→New w0 w→Known ops FF (TL Ts) a0 i a w→(execOp a.eval (opAt ops i)).run P w=.ok (.value X) w) (t:AA P ops QQ Ts FF a0 w0 news EE r (i + 1))
    (hi:ops.toList[i]?=some (opAt ops i):=by rfl) (hg:∃ j,(opAt ops i).guard=some (j,want)∧(ops[j]?).bind (·.dst)=some d:=by exact⟨_,rfl,rfl⟩) (hT:∀ w,TL Ts i (gq G X) w:=by exact fun _=>rfl) (hn:news.contains i=false:=by rfl):AllAt (fun i=>EE.contains i=false→StepG P ops QQ FF (TL Ts) a0 w0 news i) (true :: r) i:=by
  obtain⟨j,h1,h2⟩:=hg
  exact .o1 (sc hi h1 h2 (fun _ _ k=>hv k) (fun hG _ _ n k=>h hG n k) hT) t hn
end
section
variable {QQ:Exit→Act→World→Prop} {a:Act} {w w':World}
theorem pN {a a':Act} {d j:Nat} {v x:Value} (h:a'=a.put (some d) v) (hx:a.eval (.tmp j)=x) (hd:d ≠ j:=by decide):a'.eval (.tmp j)=x:=pn h hx hd
theorem pN2 {a a':Act} {d j j2:Nat} {v x x2:Value} (h:a'=a.put (some d) v) (hx:a.eval (.tmp j)=x) (hx2:a.eval (.tmp j2)=x2) (hd:d ≠ j:=by decide) (hd2:d ≠ j2:=by decide):a'.eval (.tmp j)=x∧a'.eval (.tmp j2)=x2:=⟨pn h hx hd,pn h hx2 hd2⟩
theorem pN3 {a a':Act} {d j j2 j3:Nat} {v x x2 x3:Value} (h:a'=a.put (some d) v) (hx:a.eval (.tmp j)=x) (hx2:a.eval (.tmp j2)=x2) (hx3:a.eval (.tmp j3)=x3) (hd:d ≠ j:=by decide) (hd2:d ≠ j2:=by decide) (hd3:d ≠ j3:=by decide):a'.eval (.tmp j)=x∧a'.eval (.tmp j2)=x2∧a'.eval (.tmp j3)=x3:=⟨pn h hx hd,pn h hx2 hd2,pn h hx3 hd3⟩
theorem pz2 {a a':Act} {d:Option Tmp} {v:Value} {N:Nat} (h:a'=a.put d v) (hs:a.tmps.size=N) (hd:a.defers=[]):a'.tmps.size=N∧a'.defers=[]:=⟨pz h hs,pd h hd⟩
theorem s7 {a a':Act} {d N:Nat} {v:Value} (h:a'=a.put (some d) v) (hs:a.tmps.size=N) (hd:d < N:=by decide):a'.eval (.tmp d)=v:=by rw [h]; exact put_same _ _ _ (by rw [hs]; exact hd)
section
variable {ops:Array Oper} {FF:Array Bool} {news:List Nat} {Ts:List (Value→World→Prop)} {a0:Act} {d d2 d3 d4 d5:Nat} {X X2 X3 X4 X5:Value}
theorem After.f1 (ha:After ops FF news (TL Ts) a0 a w) (h:a0.eval (.tmp d)=X) (h1:fixedB ops FF d=true:=by kernel_rfl):a.eval (.tmp d)=X:=ha.fx d h h1
theorem After.f2 (ha:After ops FF news (TL Ts) a0 a w) (h:a0.eval (.tmp d)=X) (h2:a0.eval (.tmp d2)=X2) (k:fixedB ops FF d=true:=by kernel_rfl) (k2:fixedB ops FF d2=true:=by kernel_rfl):a.eval (.tmp d)=X∧a.eval (.tmp d2)=X2:=⟨ha.fx d h k,ha.fx d2 h2 k2⟩
theorem After.f3 (ha:After ops FF news (TL Ts) a0 a w) (h:a0.eval (.tmp d)=X) (h2:a0.eval (.tmp d2)=X2) (h3:a0.eval (.tmp d3)=X3) (k:fixedB ops FF d=true:=by kernel_rfl) (k2:fixedB ops FF d2=true:=by kernel_rfl) (k3:fixedB ops FF d3=true:=by kernel_rfl):a.eval (.tmp d)=X∧a.eval (.tmp d2)=X2∧a.eval (.tmp d3)=X3:=⟨ha.fx d h k,ha.fx d2 h2 k2,ha.fx d3 h3 k3⟩
theorem After.f4 (ha:After ops FF news (TL Ts) a0 a w) (h:a0.eval (.tmp d)=X) (h2:a0.eval (.tmp d2)=X2) (h3:a0.eval (.tmp d3)=X3) (h4:a0.eval (.tmp d4)=X4) (k:fixedB ops FF d=true:=by kernel_rfl) (k2:fixedB ops FF d2=true:=by kernel_rfl) (k3:fixedB ops FF d3=true:=by kernel_rfl) (k4:fixedB ops FF d4=true:=by kernel_rfl):a.eval (.tmp d)=X∧a.eval (.tmp d2)=X2∧a.eval (.tmp d3)=X3∧a.eval (.tmp d4)=X4:=⟨ha.fx d h k,ha.fx d2 h2 k2,ha.fx d3 h3 k3,ha.fx d4 h4 k4⟩
theorem After.g (ha:After ops FF news (TL Ts) a0 a w) (k d:Nat) {X:Value} (h3:Ts[k]?=some fun v _=>v=X:=by rfl) (h1:FF.getD k false=true:=by rfl) (h2:(ops[k]?).bind (·.dst)=some d:=by kernel_rfl):a.eval (.tmp d)=X:=ha.ge k d h3 h1 h2
end
theorem n2 {p q:World→Prop} (hn:New w w') (hp:p w) (hq:q w) (kp:p w→p w') (kq:q w→q w'):p w'∧q w':=⟨kp hp,kq hq⟩
end
abbrev tr1:List Bool:=[true]
abbrev tr2:List Bool:=[true,true]
abbrev tr3:List Bool:=[true,true,true]
abbrev tr4:List Bool:=[true,true,true,true]
abbrev tr5:List Bool:=[true,true,true,true,true]
abbrev tr6:List Bool:=[true,true,true,true,true,true]
abbrev tr7:List Bool:=[true,true,true,true,true,true,true]
abbrev tr8:List Bool:=[true,true,true,true,true,true,true,true]
abbrev tr9:List Bool:=[true,true,true,true,true,true,true,true,true]
abbrev tr10:List Bool:=[true,true,true,true,true,true,true,true,true,true]
abbrev tr11:List Bool:=[true,true,true,true,true,true,true,true,true,true,true]
abbrev tr12:List Bool:=[true,true,true,true,true,true,true,true,true,true,true,true]
abbrev tr13:List Bool:=[true,true,true,true,true,true,true,true,true,true,true,true,true]
abbrev tr14:List Bool:=[true,true,true,true,true,true,true,true,true,true,true,true,true,true]
abbrev tr15:List Bool:=[true,true,true,true,true,true,true,true,true,true,true,true,true,true,true]
abbrev tr16:List Bool:=[true,true,true,true,true,true,true,true,true,true,true,true,true,true,true,true]
abbrev tr19:List Bool:=[true,true,true,true,true,true,true,true,true,true,true,true,true,true,true,true,true,true,true]
abbrev tr22:List Bool:=[true,true,true,true,true,true,true,true,true,true,true,true,true,true,true,true,true,true,true,true,true,true]
abbrev tr25:List Bool:=[true,true,true,true,true,true,true,true,true,true,true,true,true,true,true,true,true,true,true,true,true,true,true,true,true]
abbrev tr29:List Bool:=[true,true,true,true,true,true,true,true,true,true,true,true,true,true,true,true,true,true,true,true,true,true,true,true,true,true,true,true,true]
abbrev tr31:List Bool:=[true,true,true,true,true,true,true,true,true,true,true,true,true,true,true,true,true,true,true,true,true,true,true,true,true,true,true,true,true,true,true]
abbrev tr34:List Bool:=[true,true,true,true,true,true,true,true,true,true,true,true,true,true,true,true,true,true,true,true,true,true,true,true,true,true,true,true,true,true,true,true,true,true]
abbrev tr35:List Bool:=[true,true,true,true,true,true,true,true,true,true,true,true,true,true,true,true,true,true,true,true,true,true,true,true,true,true,true,true,true,true,true,true,true,true,true]
abbrev tr42:List Bool:=[true,true,true,true,true,true,true,true,true,true,true,true,true,true,true,true,true,true,true,true,true,true,true,true,true,true,true,true,true,true,true,true,true,true,true,true,true,true,true,true,true,true]
abbrev tr45:List Bool:=[true,true,true,true,true,true,true,true,true,true,true,true,true,true,true,true,true,true,true,true,true,true,true,true,true,true,true,true,true,true,true,true,true,true,true,true,true,true,true,true,true,true,true,true,true]
abbrev wk:=@wp_seq_k
abbrev wt:=@wp_cond_true
abbrev wf:=@wp_cond_false
abbrev wb:=@wp_block
abbrev ws:=@wp_skip
theorem Known.G {ops:Array Oper} {FF:Array Bool} {Ts:List (Value→World→Prop)} {a0 a:Act} {i:Nat} {w:World} (hk:Known ops FF (TL Ts) a0 i a w) (k d:Nat) (h1:(afterOf ops i).contains k=true:=by kernel_rfl) (h2:(ops[k]?).bind (·.dst)=some d:=by kernel_rfl):TL Ts k (a.eval (.tmp d)) w:=hk.dep k d h1 h2
theorem res9 {fn:Func} {t:Tmp} {s:Tmp} {a:Act} {b:Nat} {tt:TypeId} {cs:List Value} {y:Value} {w:World} (h:a.eval (.tmp t)=.pointer (some ⟨b,0,none⟩)) (h1:a.eval (.tmp s)=y) (hb:Blk w b tt cs) (hf:fn.results=#[.cell t 29,.tmp s]:=by rfl) (hl:cs.length=7:=by rfl):(results fn a.tmps).run Tryz.prog w=.ok (.tuple #[.agg cs.toArray,y]) w:=res_ct hf h h1 (l_agg Tryz.isAgg29 Tryz.sizeOf29 hb hl)
theorem putAll0:∀ (vs cs:List Value),vs.length=cs.length→putAt cs 0 vs=vs:=by
  have key:∀ (vs ps cs:List Value),vs.length=cs.length→putAt (ps ++ cs) ps.length vs=ps ++ vs:=by
    intro vs
    induction vs with
    | nil=>intro ps cs h; cases cs with
      | nil=>rfl
      | cons _ _=>cases h
    | cons v vs ih =>
      intro ps cs h
      cases cs with
      | nil=>cases h
      | cons c cs =>
        have h':vs.length=cs.length:=by simpa using h
        show putAt ((ps ++ c :: cs).set ps.length v) (ps.length + 1) vs=_
        have e:(ps ++ c :: cs).set ps.length v=(ps ++ [v]) ++ cs:=by simp
        rw [e,show ps.length + 1=(ps ++ [v]).length by simp,ih (ps ++ [v]) cs h']
        simp
  intro vs cs h
  simpa using key vs [] cs h
theorem Upd.tR {F G:Nat→Prop} {a b c:World} (h:Upd F a b) (k:Upd G b c) (hG:∀ i,i < a.heap.size→G i→F i:=by exact fun _ h b=>by subst b; omega):Upd F a c:=h.trans k hG
section
variable {P:Program} {ops:Array Oper} {QQ:Exit→Act→World→Prop} {Ts:List (Value→World→Prop)} {FF:Array Bool} {a0:Act} {w0:World} {news EE:List Nat} {r:List Bool} {i d:Nat}
theorem AllAt.L2 {b:Nat} {cs:List Value} {tt:TypeId} (h:a0.eval (.tmp d)=.pointer (some ⟨b,0,none⟩)) (hb:Blk w0 b tt cs) (t:AA Tryz.prog ops QQ Ts FF a0 w0 news EE r (i + 1))
    (hl:cs.length=2:=by rfl) (hi:ops.toList[i]?=some (opAt ops i):=by rfl) (hg:(opAt ops i).guard=none:=by rfl) (ho:(opAt ops i).op=.load 23 (.tmp d):=by rfl) (hf:fixedB ops FF d=true:=by kernel_rfl) (hT:∀ w,TL Ts i (.agg cs.toArray) w:=by exact fun _=>rfl) (hn:news.contains i=false:=by rfl):AllAt (fun i=>EE.contains i=false→StepG Tryz.prog ops QQ FF (TL Ts) a0 w0 news i) (true :: r) i:=.L h (fun n=>l_agg Tryz.isAgg23 Tryz.sizeOf23 (hb.new_ n) hl) t hi hg ho hf hT hn
theorem AllAt.L9 {b:Nat} {cs:List Value} {tt:TypeId} (h:a0.eval (.tmp d)=.pointer (some ⟨b,0,none⟩)) (hb:Blk w0 b tt cs) (t:AA Tryz.prog ops QQ Ts FF a0 w0 news EE r (i + 1))
    (hl:cs.length=7:=by rfl) (hi:ops.toList[i]?=some (opAt ops i):=by rfl) (hg:(opAt ops i).guard=none:=by rfl) (ho:(opAt ops i).op=.load 29 (.tmp d):=by rfl) (hf:fixedB ops FF d=true:=by kernel_rfl) (hT:∀ w,TL Ts i (.agg cs.toArray) w:=by exact fun _=>rfl) (hn:news.contains i=false:=by rfl):AllAt (fun i=>EE.contains i=false→StepG Tryz.prog ops QQ FF (TL Ts) a0 w0 news i) (true :: r) i:=.L h (fun n=>l_agg Tryz.isAgg29 Tryz.sizeOf29 (hb.new_ n) hl) t hi hg ho hf hT hn
theorem AllAt.L6 {b:Nat} {cs:List Value} {tt:TypeId} (h:a0.eval (.tmp d)=.pointer (some ⟨b,0,none⟩)) (hb:Blk w0 b tt cs) (t:AA Tryz.prog ops QQ Ts FF a0 w0 news EE r (i + 1))
    (hl:cs.length=2:=by rfl) (hi:ops.toList[i]?=some (opAt ops i):=by rfl) (hg:(opAt ops i).guard=none:=by rfl) (ho:(opAt ops i).op=.load 26 (.tmp d):=by rfl) (hf:fixedB ops FF d=true:=by kernel_rfl) (hT:∀ w,TL Ts i (.agg cs.toArray) w:=by exact fun _=>rfl) (hn:news.contains i=false:=by rfl):AllAt (fun i=>EE.contains i=false→StepG Tryz.prog ops QQ FF (TL Ts) a0 w0 news i) (true :: r) i:=.L h (fun n=>l_agg Tryz.isAgg26 Tryz.sizeOf26 (hb.new_ n) hl) t hi hg ho hf hT hn
theorem AllAt.K2 (k:Nat) {b j:Nat} {cs:List Value} {tt:TypeId} (hb:Blk w0 b tt cs) (t:AA Tryz.prog ops QQ Ts FF a0 w0 news EE r (i + 1))
    (h3:Ts[k]?=some fun x _=>x=.pointer (some ⟨b,j,none⟩):=by rfl) (hl:Nat.ble (j + 2) cs.length=true:=by rfl) (hi:ops.toList[i]?=some (opAt ops i):=by rfl) (hg:(opAt ops i).guard=none:=by rfl) (ho:(opAt ops i).op=.load 23 (.tmp d):=by rfl) (h1:(afterOf ops i).contains k=true:=by kernel_rfl) (h2:(ops[k]?).bind (·.dst)=some d:=by kernel_rfl) (hT:∀ w,TL Ts i (.agg ((cs.drop j).take 2).toArray) w:=by exact fun _=>rfl) (hn:news.contains i=false:=by rfl):AllAt (fun i=>EE.contains i=false→StepG Tryz.prog ops QQ FF (TL Ts) a0 w0 news i) (true :: r) i:=.K k h3 (fun n=>l_part Tryz.isAgg23 Tryz.sizeOf23 (hb.new_ n) (Nat.le_of_ble_eq_true hl)) t hi hg ho h1 h2 hT hn
theorem AllAt.K6 (k:Nat) {b j:Nat} {cs:List Value} {tt:TypeId} (hb:Blk w0 b tt cs) (t:AA Tryz.prog ops QQ Ts FF a0 w0 news EE r (i + 1))
    (h3:Ts[k]?=some fun x _=>x=.pointer (some ⟨b,j,none⟩):=by rfl) (hl:Nat.ble (j + 2) cs.length=true:=by rfl) (hi:ops.toList[i]?=some (opAt ops i):=by rfl) (hg:(opAt ops i).guard=none:=by rfl) (ho:(opAt ops i).op=.load 26 (.tmp d):=by rfl) (h1:(afterOf ops i).contains k=true:=by kernel_rfl) (h2:(ops[k]?).bind (·.dst)=some d:=by kernel_rfl) (hT:∀ w,TL Ts i (.agg ((cs.drop j).take 2).toArray) w:=by exact fun _=>rfl) (hn:news.contains i=false:=by rfl):AllAt (fun i=>EE.contains i=false→StepG Tryz.prog ops QQ FF (TL Ts) a0 w0 news i) (true :: r) i:=.K k h3 (fun n=>l_part Tryz.isAgg26 Tryz.sizeOf26 (hb.new_ n) (Nat.le_of_ble_eq_true hl)) t hi hg ho h1 h2 hT hn
theorem AllAt.J (k:Nat) {ty tt:TypeId} {b j:Nat} {cs:List Value} {v:Value} (ht:∀ w,(isAgg ty).run P w=.ok false w) (hb:Blk w0 b tt cs) (t:AA P ops QQ Ts FF a0 w0 news EE r (i + 1)) (hT:∀ w,TL Ts i v w:=by exact fun _=>rfl)
    (h3:Ts[k]?=some fun x _=>x=.pointer (some ⟨b,j,none⟩):=by rfl) (hc:cs[j]?=some v:=by rfl) (hi:ops.toList[i]?=some (opAt ops i):=by rfl) (hg:(opAt ops i).guard=none:=by rfl) (ho:(opAt ops i).op=.load ty (.tmp d):=by rfl) (h1:(afterOf ops i).contains k=true:=by kernel_rfl) (h2:(ops[k]?).bind (·.dst)=some d:=by kernel_rfl) (hn:news.contains i=false:=by rfl):AllAt (fun i=>EE.contains i=false→StepG P ops QQ FF (TL Ts) a0 w0 news i) (true :: r) i:=.K k h3 (fun n=>l_one ht (((hb.new_ n).cell j).trans hc)) t hi hg ho h1 h2 hT hn
theorem AllAt.H {op:BinOp} {ty t':TypeId} {y:Operand} {u v x:Value} (hx:a0.eval (.tmp d)=u) (h:∀ w,(binOp op ty u v).run P w=.ok x w) (t:AA P ops QQ Ts FF a0 w0 news EE r (i + 1))
    (hi:ops.toList[i]?=some (opAt ops i):=by rfl) (hg:(opAt ops i).guard=none:=by rfl) (ho:(opAt ops i).op=.binOp op ty (.tmp d) y t':=by rfl) (hy:∀ a:Act,a.eval y=v:=by exact fun _=>rfl) (hT:∀ w,TL Ts i x w:=by exact fun _=>rfl) (he:∀ w,(eqGuard op ty (.tmp d) y u v).run P w=.ok () w:=by exact fun _=>rfl) (hf:fixedB ops FF d=true:=by kernel_rfl) (hn:news.contains i=false:=by rfl):AllAt (fun i=>EE.contains i=false→StepG P ops QQ FF (TL Ts) a0 w0 news i) (true :: r) i:=.T (fun kn=>v_bin ho (kn.fx d hx hf) (hy _) he h) t hi hg hT hn
theorem wA {id:Nat} {dr:Bool} (fs:List Bool) (R:List (Nat × Bool)) (N:Nat) (Ts:List (Value→World→Prop)) (hN:a0.tmps.size=N)
    (hstep:AllAt (fun i=>([]:List Nat).contains i=false→StepG P ops QQ fs.toArray (TL Ts) a0 w0 [] i) fs 0)
    (hend:∀ a w,New w0 w→After ops fs.toArray [] (TL Ts) a0 a w→stepsTo P ops (fun _=>True) QQ R a w)
    (hT:Monos Ts:=by repeat (first | exact Monos.nil | refine Monos.eq ?_ | refine Monos.tt ?_)) (hm:P.follows .mixedOrders=true:=by kernel_rfl) (hc:invCheck ops fs.toArray [] R N=true:=by kernel_rfl)
    (hQ:∀ c a d v w,QQ (.panic c) (a.put d v) w→QQ (.panic c) a w:=by (intro _ _ d _ _ h; cases d <;> exact h)):(Code.region id ops dr).wp P QQ a0 w0:=wp_g0 fs R N Ts hN hT hstep hend hm hc hQ
theorem wB {id:Nat} {dr:Bool} (fs:List Bool) (E:List Nat) (R:List (Nat × Bool)) (N:Nat) (Ts:List (Value→World→Prop)) (news:List Nat) (hN:a0.tmps.size=N)
    (hstep:AllAt (fun i=>E.contains i=false→StepG P ops QQ fs.toArray (TL Ts) a0 w0 news i) fs 0)
    (heager:∀ i,E.contains i=true→EagerOk P ops fs.toArray (TL Ts) a0 w0 i)
    (hend:∀ a w,New w0 w→After ops fs.toArray news (TL Ts) a0 a w→stepsTo P ops (fun _=>True) QQ R a w)
    (hT:Monos Ts:=by repeat (first | exact Monos.nil | refine Monos.eq ?_ | refine Monos.tt ?_ | refine Monos.nw ?_)) (hold:∀ j,j ∈ news→∀ v w,TL Ts j v w→OldPtr v w:=by repeat (first | exact newsNil | refine newsCons (fun v w h=>IsNew.old h) ?_))
    (hEN:E.all (fun i=>!news.contains i)=true:=by rfl) (hm:P.follows .mixedOrders=true:=by kernel_rfl) (hc:invCheck ops fs.toArray E R N=true:=by kernel_rfl)
    (hQ:∀ c a d v w,QQ (.panic c) (a.put d v) w→QQ (.panic c) a w:=by (intro _ _ d _ _ h; cases d <;> exact h)):(Code.region id ops dr).wp P QQ a0 w0:=wp_g fs E R N Ts news hold hN hT hstep heager hend hEN hm hc hQ
theorem eg1 {p:Nat→Prop} {a:Nat} (h:p a):∀ i,[a].contains i=true→p i:=by
  intro i hi
  simp only [List.contains_eq_mem,List.mem_cons,List.not_mem_nil,or_false,decide_eq_true_eq] at hi
  subst hi; exact h
theorem eg2 {p:Nat→Prop} {a b:Nat} (h:p a) (h2:p b):∀ i,[a,b].contains i=true→p i:=by
  intro i hi
  simp only [List.contains_eq_mem,List.mem_cons,List.not_mem_nil,or_false,decide_eq_true_eq] at hi
  rcases hi with rfl | rfl
  exact h
  exact h2
theorem heN:∀ {P:Program} {ops:Array Oper} {FF:Array Bool} {T:Nat→Value→World→Prop} {a0:Act} {w0:World} (i:Nat),([]:List Nat).contains i=true→EagerOk P ops FF T a0 w0 i:=fun i h=>by cases h
end
section
variable {P:Program} {ops:Array Oper} {QQ:Exit→Act→World→Prop} {S:World→Prop} {r:List (Nat × Bool)} {i d:Nat}
def PutOf (d:Nat) (a a':Act):Prop:=∀ j,d ≠ j→a'.eval (.tmp j)=a.eval (.tmp j)
theorem sP {a:Act} {w:World} {x:Operand} {v:Value} {N:Nat} (hx:a.eval x=v) (hs:a.tmps.size=N) (hd:a.defers=[]) (h:∀ a',a'.tmps.size=N→a'.defers=[]→PutOf d a a'→a'.eval (.tmp d)=v→stepsTo P ops S QQ r a' w)
    (hi:ops.toList[i]?=some (opAt ops i):=by rfl) (ho:(opAt ops i).op=.assign x:=by rfl) (hw:Region.wanted (opAt ops i) (yielded ops a.tmps)=true:=by rfl) (hdst:(opAt ops i).dst=some d:=by rfl) (hl:d < N:=by decide):stepsTo P ops S QQ ((i,true) :: r) a w:=by
  refine st_take hi hw (fun w _=>v_assign ho hx) rfl ?_
  rw [hdst]
  exact h _ (pz rfl hs) (pd rfl hd) (fun j hj=>put_ne _ _ _ _ hj) (put_same _ _ _ (by omega))
theorem PutOf.q {a a':Act} {j:Nat} {x:Value} (h:PutOf d a a') (hx:a.eval (.tmp j)=x) (hd:d ≠ j:=by decide):a'.eval (.tmp j)=x:=(h j hd).trans hx
theorem PutOf.q2 {a a':Act} {j j2:Nat} {x x2:Value} (h:PutOf d a a') (hx:a.eval (.tmp j)=x) (hx2:a.eval (.tmp j2)=x2) (hd:d ≠ j:=by decide) (hd2:d ≠ j2:=by decide):a'.eval (.tmp j)=x∧a'.eval (.tmp j2)=x2:=⟨h.q hx hd,h.q hx2 hd2⟩
theorem PutOf.q3 {a a':Act} {j j2 j3:Nat} {x x2 x3:Value} (h:PutOf d a a') (hx:a.eval (.tmp j)=x) (hx2:a.eval (.tmp j2)=x2) (hx3:a.eval (.tmp j3)=x3) (hd:d ≠ j:=by decide) (hd2:d ≠ j2:=by decide) (hd3:d ≠ j3:=by decide):a'.eval (.tmp j)=x∧a'.eval (.tmp j2)=x2∧a'.eval (.tmp j3)=x3:=⟨h.q hx hd,h.q hx2 hd2,h.q hx3 hd3⟩
theorem sS2 {a:Act} {w:World} {x y:Operand} {q:Nat} {tt:TypeId} {vs cs:List Value} (hx:a.eval x=.pointer (some ⟨q,0,none⟩)) (hy:a.eval y=.agg vs.toArray) (hb:Blk w q tt cs) (h:∀ w',Blk w' q tt vs→Upd (fun k=>k=q) w w'→(∀ {g s ds},g ≠ q→Blk w g s ds→Blk w' g s ds)→stepsTo Tryz.prog ops S QQ r a w')
    (hi:ops.toList[i]?=some (opAt ops i):=by rfl) (ho:(opAt ops i).op=.store 23 x y:=by rfl) (hw:Region.wanted (opAt ops i) (yielded ops a.tmps)=true:=by rfl) (hd:(opAt ops i).dst=none:=by rfl) (hl:cs.length=2:=by rfl) (hm:vs.length=2:=by rfl) (hS:∀ w,S w:=by exact fun _=>trivial) (hv:(Value.agg vs.toArray).cells=vs.toArray:=by rfl) (h1:(vs.all (·.oneCell'))=true:=by rfl):stepsTo Tryz.prog ops S QQ ((i,false) :: r) a w:=by
  obtain⟨w',e1,e2,e3,e4⟩:=s_many (P:=Tryz.prog) (t:=23) (i:=0) vs Tryz.sizeOf23 hm hv h1 hb (by omega)
  rw [putAll0 vs cs (by omega)] at e2
  refine st_act hi hw fun K hK=>a_store' ho hx hy e1 (hK _ _ (hS _) ?_)
  rw [hd,show a.put none undef=a from rfl]
  exact h w' e2 e3 fun hg hb=>e4 _ _ _ hg hb
theorem sS9 {a:Act} {w:World} {x y:Operand} {q:Nat} {tt:TypeId} {vs cs:List Value} (hx:a.eval x=.pointer (some ⟨q,0,none⟩)) (hy:a.eval y=.agg vs.toArray) (hb:Blk w q tt cs) (h:∀ w',Blk w' q tt vs→Upd (fun k=>k=q) w w'→(∀ {g s ds},g ≠ q→Blk w g s ds→Blk w' g s ds)→stepsTo Tryz.prog ops S QQ r a w')
    (hi:ops.toList[i]?=some (opAt ops i):=by rfl) (ho:(opAt ops i).op=.store 29 x y:=by rfl) (hw:Region.wanted (opAt ops i) (yielded ops a.tmps)=true:=by rfl) (hd:(opAt ops i).dst=none:=by rfl) (hl:cs.length=7:=by rfl) (hm:vs.length=7:=by rfl) (hS:∀ w,S w:=by exact fun _=>trivial) (hv:(Value.agg vs.toArray).cells=vs.toArray:=by rfl) (h1:(vs.all (·.oneCell'))=true:=by rfl):stepsTo Tryz.prog ops S QQ ((i,false) :: r) a w:=by
  obtain⟨w',e1,e2,e3,e4⟩:=s_many (P:=Tryz.prog) (t:=29) (i:=0) vs Tryz.sizeOf29 hm hv h1 hb (by omega)
  rw [putAll0 vs cs (by omega)] at e2
  refine st_act hi hw fun K hK=>a_store' ho hx hy e1 (hK _ _ (hS _) ?_)
  rw [hd,show a.put none undef=a from rfl]
  exact h w' e2 e3 fun hg hb=>e4 _ _ _ hg hb
theorem sS6 {a:Act} {w:World} {x y:Operand} {q:Nat} {tt:TypeId} {vs cs:List Value} (hx:a.eval x=.pointer (some ⟨q,0,none⟩)) (hy:a.eval y=.agg vs.toArray) (hb:Blk w q tt cs) (h:∀ w',Blk w' q tt vs→Upd (fun k=>k=q) w w'→(∀ {g s ds},g ≠ q→Blk w g s ds→Blk w' g s ds)→stepsTo Tryz.prog ops S QQ r a w')
    (hi:ops.toList[i]?=some (opAt ops i):=by rfl) (ho:(opAt ops i).op=.store 26 x y:=by rfl) (hw:Region.wanted (opAt ops i) (yielded ops a.tmps)=true:=by rfl) (hd:(opAt ops i).dst=none:=by rfl) (hl:cs.length=2:=by rfl) (hm:vs.length=2:=by rfl) (hS:∀ w,S w:=by exact fun _=>trivial) (hv:(Value.agg vs.toArray).cells=vs.toArray:=by rfl) (h1:(vs.all (·.oneCell'))=true:=by rfl):stepsTo Tryz.prog ops S QQ ((i,false) :: r) a w:=by
  obtain⟨w',e1,e2,e3,e4⟩:=s_many (P:=Tryz.prog) (t:=26) (i:=0) vs Tryz.sizeOf26 hm hv h1 hb (by omega)
  rw [putAll0 vs cs (by omega)] at e2
  refine st_act hi hw fun K hK=>a_store' ho hx hy e1 (hK _ _ (hS _) ?_)
  rw [hd,show a.put none undef=a from rfl]
  exact h w' e2 e3 fun hg hb=>e4 _ _ _ hg hb
end
class Mv (w w':World) (P:Prop) (R:outParam Prop):Prop where
  mv:New w w'→P→R
section
variable {w w':World} {P P2 P3 P4 R R2 R3 R4:Prop}
instance {q:Nat} {t:TypeId} {cs:List Value}:Mv w w' (Blk w q t cs) (Blk w' q t cs):=⟨fun n h=>h.new_ n⟩
instance {k:IntKind} {A:Option Addr} {xs:List Nat} {c:Nat}:Mv w w' (SRow w k A xs c) (SRow w' k A xs c):=⟨fun n h=>h.new_ n⟩
instance {b:Nat} {e:TypeId} {k:IntKind} {A:Option Addr} {xs:List Nat} {c:Nat}:Mv w w' (SOwn w b e k A xs c) (SOwn w' b e k A xs c):=⟨fun n h=>h.new_ n⟩
instance {b o:Nat} {x:Value}:Mv w w' (SElem w b o x) (SElem w' b o x):=⟨fun n h=>h.new_ n⟩
theorem nw2 (n:New w w') (h:P) (h2:P2) [i:Mv w w' P R] [i2:Mv w w' P2 R2]:R∧R2:=⟨i.mv n h,i2.mv n h2⟩
theorem nw3 (n:New w w') (h:P) (h2:P2) (h3:P3) [i:Mv w w' P R] [i2:Mv w w' P2 R2] [i3:Mv w w' P3 R3]:R∧R2∧R3:=⟨i.mv n h,i2.mv n h2,i3.mv n h3⟩
theorem nw4 (n:New w w') (h:P) (h2:P2) (h3:P3) (h4:P4) [i:Mv w w' P R] [i2:Mv w w' P2 R2] [i3:Mv w w' P3 R3] [i4:Mv w w' P4 R4]:R∧R2∧R3∧R4:=⟨i.mv n h,i2.mv n h2,i3.mv n h3,i4.mv n h4⟩
end
theorem res8 {fn:Func} {t:Tmp} {s:Tmp} {a:Act} {b:Nat} {tt:TypeId} {cs:List Value} {y:Value} {w:World} (h:a.eval (.tmp t)=.pointer (some ⟨b,0,none⟩)) (h1:a.eval (.tmp s)=y) (hb:Blk w b tt cs) (hf:fn.results=#[.cell t 32,.tmp s]:=by rfl) (hl:cs.length=7:=by rfl):(results fn a.tmps).run Tryz.prog w=.ok (.tuple #[.agg cs.toArray,y]) w:=res_ct hf h h1 (l_agg Tryz.isAgg32 Tryz.sizeOf32 hb hl)
section
variable {P:Program} {ops:Array Oper} {QQ:Exit→Act→World→Prop} {Ts:List (Value→World→Prop)} {FF:Array Bool} {a0:Act} {w0:World} {news EE:List Nat} {r:List Bool} {i d:Nat}
theorem AllAt.L8 {b:Nat} {cs:List Value} {tt:TypeId} (h:a0.eval (.tmp d)=.pointer (some ⟨b,0,none⟩)) (hb:Blk w0 b tt cs) (t:AA Tryz.prog ops QQ Ts FF a0 w0 news EE r (i + 1))
    (hl:cs.length=7:=by rfl) (hi:ops.toList[i]?=some (opAt ops i):=by rfl) (hg:(opAt ops i).guard=none:=by rfl) (ho:(opAt ops i).op=.load 32 (.tmp d):=by rfl) (hf:fixedB ops FF d=true:=by kernel_rfl) (hT:∀ w,TL Ts i (.agg cs.toArray) w:=by exact fun _=>rfl) (hn:news.contains i=false:=by rfl):AllAt (fun i=>EE.contains i=false→StepG Tryz.prog ops QQ FF (TL Ts) a0 w0 news i) (true :: r) i:=.L h (fun n=>l_agg Tryz.isAgg32 Tryz.sizeOf32 (hb.new_ n) hl) t hi hg ho hf hT hn
end
section
variable {P:Program} {ops:Array Oper} {QQ:Exit→Act→World→Prop} {S:World→Prop} {r:List (Nat × Bool)} {i d:Nat}
theorem sS8 {a:Act} {w:World} {x y:Operand} {q:Nat} {tt:TypeId} {vs cs:List Value} (hx:a.eval x=.pointer (some ⟨q,0,none⟩)) (hy:a.eval y=.agg vs.toArray) (hb:Blk w q tt cs) (h:∀ w',Blk w' q tt vs→Upd (fun k=>k=q) w w'→(∀ {g s ds},g ≠ q→Blk w g s ds→Blk w' g s ds)→stepsTo Tryz.prog ops S QQ r a w')
    (hi:ops.toList[i]?=some (opAt ops i):=by rfl) (ho:(opAt ops i).op=.store 32 x y:=by rfl) (hw:Region.wanted (opAt ops i) (yielded ops a.tmps)=true:=by rfl) (hd:(opAt ops i).dst=none:=by rfl) (hl:cs.length=7:=by rfl) (hm:vs.length=7:=by rfl) (hS:∀ w,S w:=by exact fun _=>trivial) (hv:(Value.agg vs.toArray).cells=vs.toArray:=by rfl) (h1:(vs.all (·.oneCell'))=true:=by rfl):stepsTo Tryz.prog ops S QQ ((i,false) :: r) a w:=by
  obtain⟨w',e1,e2,e3,e4⟩:=s_many (P:=Tryz.prog) (t:=32) (i:=0) vs Tryz.sizeOf32 hm hv h1 hb (by omega)
  rw [putAll0 vs cs (by omega)] at e2
  refine st_act hi hw fun K hK=>a_store' ho hx hy e1 (hK _ _ (hS _) ?_)
  rw [hd,show a.put none undef=a from rfl]
  exact h w' e2 e3 fun hg hb=>e4 _ _ _ hg hb
end
end Go.Proofs.YtecgdgjlmlpcnaaGreatDoor
