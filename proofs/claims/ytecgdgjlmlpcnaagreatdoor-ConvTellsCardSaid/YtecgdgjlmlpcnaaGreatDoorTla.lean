import Derived.Test.YtecgdgjlmlpcnaaGreatDoorTlZ
import Derived.Laws.BytesArg
import Derived.Lib.IndexBytes
import Derived.Lib.SliceRun
import Derived.Lib.ItoaLen
import Derived.BigQuiet
import Derived.ChangeAlike
import Derived.Deep.CutBlock
import Derived.Deep.DeepCutAuto
import Derived.Deep.LoopGhost
import Derived.Deep.OwnRows
import Derived.Deep.QuietTactic
import Derived.Great.BuildSlice
import Derived.KernelRfl
import Derived.Laws.Bits64b
import Derived.Laws.BitsAll
import Derived.Laws.BytesArg
import Derived.Laws.CopyOwn
import Derived.Laws.DeepBits32
import Derived.Lib.IndexBytes
import Derived.Outline
import Derived.OwnWalk
import Derived.RegionTactic
import Derived.WalkLawsBesides
import Derived.WalkSpells
namespace Go.Proofs.YtecgdgjlmlpcnaaGreatDoor
open Go.RowKit
open Tryz
set_option linter.unusedSimpArgs false
set_option linter.unusedVariables false
set_option maxHeartbeats 16000000
set_option maxRecDepth 100000
structure Nm where
  k:Int
  n:Int
deriving DecidableEq
def nmayB (a:Nm):Bool:=if decide (a.k=0) then !decide (a.n < -9007199254740991) && decide (a.n≤9007199254740991)
  else if decide (a.k=1) || decide (a.k=2) || decide (a.k=3) || decide (a.k=4) then decide (a.n=0) else false
def asM (a:Nm):Nm:=if nmayB a then a else ⟨2,0⟩
def infB (k:Int):Bool:=decide (k=3) || decide (k=4)
def noughtB (a:Nm):Bool:=decide (a.k=1) || (decide (a.k=0) && decide (a.n=0))
def belowB (a:Nm):Bool:=decide (a.k=1) || decide (a.k=4) || (decide (a.k=0) && decide (a.n < 0))
def noughtM (d:Bool):Nm:=if d then ⟨1,0⟩ else ⟨0,0⟩
def infM (d:Bool):Nm:=if d then ⟨4,0⟩ else ⟨3,0⟩
def negA (a:Nm):Nm:=if decide (a.k=2) then a else if decide (a.k=3) || decide (a.k=4) then infM (decide (a.k=3)) else if decide (a.k=1) then ⟨0,0⟩ else if decide (a.n=0) then ⟨1,0⟩ else ⟨0,-a.n⟩
def negM (a:Nm):Nm:=negA (asM a)
def rankM (a:Nm):Int:=if decide (a.k=3) then 9007199254740992 else if decide (a.k=4) then -9007199254740992 else a.n
def equalA (a b:Nm):Bool:=!decide (a.k=2) && !decide (b.k=2) && decide (rankM a=rankM b)
def equalM (a b:Nm):Bool:=equalA (asM a) (asM b)
def wholeM (a:Nm):Nm:=if decide ((asM a).k=2) || decide ((asM a).k=1) then ⟨0,0⟩ else asM a
def indexM (a:Nm):Int × Bool:=if decide ((wholeM a).k=0) && !decide ((wholeM a).n < 0) then ((wholeM a).n,true) else (0,false)
/-- the five kinds -/
theorem as_cases (a:Nm):(∃ n,asM a=⟨0,n⟩∧-9007199254740991≤n∧n≤9007199254740991) ∨ asM a=⟨1,0⟩ ∨ asM a=⟨2,0⟩ ∨ asM a=⟨3,0⟩ ∨ asM a=⟨4,0⟩:=by
  obtain⟨k,n⟩:=a
  unfold asM nmayB
  by_cases h0:k=0
  · subst h0
    by_cases h1:n < -9007199254740991
    · simp [h1]
    · by_cases h2:n≤9007199254740991
      · simp [h1,h2]; omega
      · simp [h1,h2]
  · by_cases hn:n=0
    · subst hn
      by_cases h1:k=1
      · simp [h1]
      · by_cases h2:k=2
        · simp [h2]
        · by_cases h3:k=3
          · simp [h3]
          · by_cases h4:k=4 <;> simp [h0,h1,h2,h3,h4]
    · by_cases h1:k=1 ∨ k=2 ∨ k=3 ∨ k=4
      · rcases h1 with rfl|rfl|rfl|rfl <;> simp [hn]
      · simp [h0,hn]
theorem as_bd (a:Nm):-9007199254740991≤(asM a).n∧(asM a).n≤9007199254740991:=by
  rcases as_cases a with ⟨n,h,h1,h2⟩|h|h|h|h <;> rw [h] <;> simp <;> omega
def mayB (b:Bool) (m:List Nat):Bool:=decide (m.length≤8) && ((decide (m.length=0) && !b) || (decide (0 < m.length) && decide (m.getD (m.length - 1) 0 ≠ 0)))
def sgn (b:Bool) (n:Nat):Int:=if b then -(n:Int) else n
/-- What a number that came in is worth: nothing,if it may not be one. -/
def goodI (b:Bool) (m:List Nat):Int:=if mayB b m then sgn b (val m) else 0
theorem natAbs_sgn (b:Bool) (n:Nat):(sgn b n).natAbs=n:=by cases b <;> simp [sgn]
theorem may_trim {b:Bool} {m:List Nat} (h:mayB b m=true):Trim m∧m.length≤8∧(b=true→m ≠ []):=by
  simp only [mayB,Bool.and_eq_true,decide_eq_true_eq,Bool.or_eq_true,Bool.not_eq_true',ne_eq] at h
  obtain⟨h8,h|h⟩:=h
  · exact⟨.inl (List.eq_nil_of_length_eq_zero h.1),h8,fun hb=>by rw [h.2] at hb; cases hb⟩
  · exact⟨.inr (by omega),h8,fun _ h0=>by rw [h0] at h; simp at h⟩
theorem canon_good {b:Bool} {m:List Nat} (hl:Limbs m):canon (goodI b m).natAbs=if mayB b m then m else []:=by
  unfold goodI
  split
  · rename_i h
    rw [natAbs_sgn,← canon_val hl (may_trim h).1]
  · exact canon_zero
theorem val_pos {m:List Nat} (hl:Limbs m) (ht:Trim m) (h:m ≠ []):0 < val m:=by
  have h1:=canon_val hl ht
  rcases Nat.eq_zero_or_pos (val m) with h0|h0
  · rw [h0,canon_zero] at h1
    exact absurd h1 h
  · exact h0
theorem neg_good {b:Bool} {m:List Nat} (hl:Limbs m):decide (goodI b m < 0)=(mayB b m && b):=by
  unfold goodI
  cases h:mayB b m
  · simp
  · obtain⟨h1,_,h3⟩:=may_trim h
    cases b
    · simp [sgn]
    · have:=val_pos hl h1 (h3 rfl)
      simp [sgn]; omega
theorem good_lt {b:Bool} {m:List Nat} (hl:Limbs m):(goodI b m).natAbs < 2 ^ 256:=by
  rw [← canon_len8,canon_good hl]
  split
  · exact (may_trim ‹_›).2.1
  · simp
theorem may_canon {z:Int} (h:z.natAbs < 2 ^ 256):mayB (decide (z < 0)) (canon z.natAbs)=true:=by
  have h8:=(canon_len8 z.natAbs).2 h
  simp only [mayB,Bool.and_eq_true,decide_eq_true_eq,Bool.or_eq_true,Bool.not_eq_true',ne_eq]
  refine ⟨h8,?_⟩
  rcases trim_canon z.natAbs with h0|h0
  · refine .inl ⟨by rw [h0]; rfl,?_⟩
    have:=canon_nil.1 h0
    simp; omega
  · refine .inr ⟨?_,by omega⟩
    rcases Nat.eq_zero_or_pos (canon z.natAbs).length with h1|h1
    · rw [List.eq_nil_of_length_eq_zero h1] at h0
      simp at h0
    · exact h1
theorem sgn_zero (d:Bool):sgn d 0=0:=by cases d <;> rfl
theorem sgn_neg {d:Bool} {n:Nat} (h:0 < n):decide (sgn d n < 0)=d:=by cases d <;> simp [sgn]; omega
def cmpI (a b:Nat):Int:=if a < b then -1 else if b < a then 1 else 0
/-- How two numbers lie to one another. -/
def cmpZ (a b:Int):Int:=if a < b then -1 else if b < a then 1 else 0
theorem cmpZ_np {a b:Int} (ha:a < 0) (hb:¬ b < 0):cmpZ a b = -1:=by unfold cmpZ; rw [if_pos (by omega)]
theorem cmpZ_pn {a b:Int} (ha:¬ a < 0) (hb:b < 0):cmpZ a b=1:=by unfold cmpZ; rw [if_neg (by omega),if_pos (by omega)]
theorem cmpZ_nn {a b:Int} (ha:a < 0) (hb:b < 0):cmpI b.natAbs a.natAbs=cmpZ a b:=by
  unfold cmpZ cmpI
  by_cases h:a < b
  · rw [if_pos h,if_pos (by omega)]
  · by_cases h2:b < a
    · rw [if_neg h,if_pos h2,if_neg (by omega),if_pos (by omega)]
    · rw [if_neg h,if_neg h2,if_neg (by omega),if_neg (by omega)]
theorem cmpZ_pp {a b:Int} (ha:¬ a < 0) (hb:¬ b < 0):cmpI a.natAbs b.natAbs=cmpZ a b:=by
  unfold cmpZ cmpI
  by_cases h:a < b
  · rw [if_pos h,if_pos (by omega)]
  · by_cases h2:b < a
    · rw [if_neg h,if_pos h2,if_neg (by omega),if_pos (by omega)]
    · rw [if_neg h,if_neg h2,if_neg (by omega),if_neg (by omega)]
theorem pow32 (p:Nat):4294967296 ^ p=2 ^ (32 * p):=by rw [show 4294967296=2 ^ 32 by decide,← Nat.pow_mul]
theorem val_split (l:List Nat) (p:Nat):∃ R,val l=val (l.take p) + 2 ^ (32 * p) * (l.getD p 0 + 4294967296 * R):=by
  refine ⟨val (l.drop (p + 1)),?_⟩
  have h1:=val_app (l.take (p + 1)) (l.drop (p + 1))
  rw [List.take_append_drop,val_take] at h1
  rcases Nat.lt_or_ge p l.length with h|h
  · rw [List.length_take,Nat.min_eq_left (by omega),Nat.pow_succ] at h1
    rw [← pow32,h1]
    grind
  · rw [List.drop_eq_nil_of_le (by omega)] at h1 ⊢
    simp only [val] at h1 ⊢
    rw [← pow32,h1]
    grind
theorem limb_of {l:List Nat} (hl:Limbs l) (p:Nat):val l / 2 ^ (32 * p) % 4294967296=l.getD p 0:=by
  obtain⟨R,h⟩:=val_split l p
  have h1:=val_take_lt hl p
  rw [pow32] at h1
  rw [h,Nat.add_mul_div_left _ _ (Nat.two_pow_pos _),Nat.div_eq_of_lt h1]
  have:=hl.at p
  omega
theorem bit_of {l:List Nat} (hl:Limbs l) {p s:Nat} (hs:s < 32):val l / 2 ^ (32 * p + s) % 2=l.getD p 0 / 2 ^ s % 2:=by
  obtain⟨R,h⟩:=val_split l p
  have h1:=val_take_lt hl p
  rw [pow32] at h1
  rw [Nat.pow_add,← Nat.div_div_eq_div_mul,h,Nat.add_mul_div_left _ _ (Nat.two_pow_pos _),Nat.div_eq_of_lt h1,Nat.zero_add]
  have e:4294967296 * R=2 ^ s * (2 * (2 ^ (31 - s) * R)):=by
    have:4294967296=2 ^ s * (2 * 2 ^ (31 - s)):=by
      rw [← Nat.pow_succ',← Nat.pow_add,show s + (31 - s + 1)=32 by omega]
    rw [this]
    grind
  rw [e,Nat.add_mul_div_left _ _ (Nat.two_pow_pos _)]
  omega
/-- A bit that is not there yet. -/
theorem or_pow {q s:Nat} (h:q % 2 ^ (s + 1)=0):q ||| 2 ^ s=q + 2 ^ s:=by
  have h1:q=2 ^ (s + 1) * (q / 2 ^ (s + 1)):=by
    have:=Nat.div_add_mod q (2 ^ (s + 1))
    omega
  have h2:2 ^ s < 2 ^ (s + 1):=Nat.pow_lt_pow_right (by omega) (by omega)
  have h3:=Nat.two_pow_add_eq_or_of_lt h2 (q / 2 ^ (s + 1))
  rw [← h1] at h3
  exact h3.symm
/-- The quotient's limb at p,when s bits and one more of it are to come. -/
theorem limb_low {l:List Nat} (hl:Limbs l) {p s Q:Nat} (hs:s < 32) (h:val l=2 ^ (32 * p + s + 1) * Q):l.getD p 0 % 2 ^ (s + 1)=0∧l.getD p 0 + 2 ^ s < 4294967296:=by
  have h1:=limb_of hl p
  have e1:val l / 2 ^ (32 * p)=2 ^ (s + 1) * Q:=by
    rw [h,Nat.add_assoc,Nat.pow_add,Nat.mul_assoc,Nat.mul_div_cancel_left _ (Nat.two_pow_pos _)]
  have e2:4294967296=2 ^ (s + 1) * 2 ^ (31 - s):=by
    rw [← Nat.pow_add,show s + 1 + (31 - s)=32 by omega]
  rw [e1,e2,Nat.mul_mod_mul_left] at h1
  refine ⟨by rw [← h1,Nat.mul_mod_right],?_⟩
  have h2:Q % 2 ^ (31 - s) < 2 ^ (31 - s):=Nat.mod_lt _ (Nat.two_pow_pos _)
  rw [← h1,e2]
  have h3:2 ^ (s + 1) * (Q % 2 ^ (31 - s) + 1)≤2 ^ (s + 1) * 2 ^ (31 - s):=Nat.mul_le_mul_left _ h2
  have h4:2 ^ s < 2 ^ (s + 1):=Nat.pow_lt_pow_right (by omega) (by omega)
  rw [Nat.mul_add,Nat.mul_one] at h3
  omega
theorem div_two (a T:Nat):a / 2 ^ T=2 * (a / 2 ^ (T + 1)) + a / 2 ^ T % 2:=by
  rw [Nat.pow_succ,← Nat.div_div_eq_div_mul]
  omega
/-- One bit more: the rest is too small. -/
theorem div_no {H B c:Nat} (hlt:2 * (H % B) + c < B):(2 * H + c) / B=2 * (H / B)∧(2 * H + c) % B=2 * (H % B) + c:=by
  have h:=Nat.div_add_mod H B
  have e:2 * H + c=B * (2 * (H / B)) + (2 * (H % B) + c):=by
    rw [Nat.mul_left_comm,← Nat.add_assoc,← Nat.mul_add]
    omega
  have hB:0 < B:=by omega
  constructor
  · rw [e,Nat.mul_add_div hB,Nat.div_eq_of_lt hlt,Nat.add_zero]
  · rw [e,Nat.mul_add_mod,Nat.mod_eq_of_lt hlt]
/-- One bit more: the rest is enough. -/
theorem div_yes {H B c:Nat} (hB:0 < B) (hc:c≤1) (hge:B≤2 * (H % B) + c):(2 * H + c) / B=2 * (H / B) + 1∧(2 * H + c) % B=2 * (H % B) + c - B:=by
  have h:=Nat.div_add_mod H B
  have hm:=Nat.mod_lt H hB
  have hlt:2 * (H % B) + c - B < B:=by omega
  have e:2 * H + c=B * (2 * (H / B) + 1) + (2 * (H % B) + c - B):=by
    rw [Nat.mul_add,Nat.mul_one,Nat.mul_left_comm]
    omega
  constructor
  · rw [e,Nat.mul_add_div hB,Nat.div_eq_of_lt hlt,Nat.add_zero]
  · rw [e,Nat.mul_add_mod,Nat.mod_eq_of_lt hlt]
/-- The quotient's limbs behind a bit that is set. -/
theorem set_bit {l:List Nat} (hl:Limbs l) {p s Q:Nat} (hp:p < l.length) (hs:s < 32) (h:val l=2 ^ (32 * p + s + 1) * Q) :
    Limbs (l.set p (l.getD p 0 ||| 2 ^ s))∧val (l.set p (l.getD p 0 ||| 2 ^ s))=2 ^ (32 * p + s) * (2 * Q + 1)∧l.getD p 0 ||| 2 ^ s < 4294967296:=by
  obtain⟨h1,h2⟩:=limb_low hl hs h
  rw [or_pow h1]
  refine ⟨hl.set _ h2,?_,h2⟩
  have h3:=val_set l p (l.getD p 0 + 2 ^ s) hp
  rw [pow32,Nat.mul_add] at h3
  have e:2 ^ (32 * p) * 2 ^ s=2 ^ (32 * p + s):=by rw [← Nat.pow_add]
  have e2:2 ^ (32 * p + s + 1) * Q=2 ^ (32 * p + s) * (2 * Q):=by rw [Nat.pow_succ,Nat.mul_assoc]
  rw [e,h,e2] at h3
  rw [Nat.mul_add,Nat.mul_one]
  omega
theorem mul_lt {x y:List Nat} (hx:Limbs x) (hy:Limbs y) (k:Nat):val (x.take k) * val y < 4294967296 ^ (k + y.length):=by
  rw [Nat.pow_add]
  have h1:=val_take_lt hx k
  have h2:=val_lt hy
  exact Nat.mul_lt_mul'' h1 h2
/-- The digits of a number,the least first; nought has none. -/
def digs (n:Nat):List Nat:=if h:n=0 then [] else n % 10 :: digs (n / 10)
termination_by n
decreasing_by omega
theorem digs_zero:digs 0=[]:=by unfold digs; simp
theorem digs_pos {n:Nat} (h:0 < n):digs n=n % 10 :: digs (n / 10):=by
  conv=>lhs; unfold digs
  rw [dif_neg (by omega)]
theorem digs_len {n k:Nat} (h:n < 10 ^ k):(digs n).length≤k:=by
  induction k generalizing n with
  | zero =>
    have:n=0:=by simpa using h
    rw [this,digs_zero]; simp
  | succ k ih =>
    rcases Nat.eq_zero_or_pos n with rfl|h0
    · rw [digs_zero]; simp
    · rw [digs_pos h0,List.length_cons]
      have:n / 10 < 10 ^ k:=by
        rw [Nat.pow_succ] at h
        exact Nat.div_lt_of_lt_mul (by rw [Nat.mul_comm]; exact h)
      have:=ih this
      omega
theorem digs_big {n:Nat} (h:n < 2 ^ 256):(digs n).length≤78:=digs_len (Nat.lt_trans h (by decide +kernel))
/-- A digit's letter. -/
def letter (d:Nat):Int:=((48 + d:Nat):Int)
/-- The text of a number. -/
def textI (z:Int):List Int:=if z=0 then [48] else (if z < 0 then [45] else []) ++ ((digs z.natAbs).map letter).reverse
theorem val_drop (l:List Nat) (k:Nat):val (l.drop k)=l.getD k 0 + 4294967296 * val (l.drop (k + 1)):=by
  rcases Nat.lt_or_ge k l.length with h|h
  · rw [List.drop_eq_getElem_cons h]
    simp [val,List.getD,h]
  · rw [List.drop_eq_nil_of_le h,List.drop_eq_nil_of_le (by omega)]
    simp [val,List.getD,h]
theorem getD_set_self {l:List Nat} {k:Nat} (x:Nat) (h:k < l.length):(l.set k x).getD k 0=x:=by simp [List.getD,h]
/-- A number divided by ten,limb by limb from the top. -/
structure TenAt (m m2:List Nat) (k r:Nat):Prop where
  limbs:Limbs m2
  len:m2.length=m.length
  same:∀ j,j < k→m2.getD j 0=m.getD j 0
  quot:val (m2.drop k)=val (m.drop k) / 10
  rest:r=val (m.drop k) % 10
theorem ten_start {m:List Nat} (h:Limbs m):TenAt m m m.length 0:=by
  refine ⟨h,rfl,fun _ _=>rfl,?_,?_⟩ <;> simp [val]
theorem ten_step {m m2:List Nat} {p r:Nat} (hm:Limbs m) (h:TenAt m m2 (p + 1) r) (hp:p < m.length) :
    TenAt m (m2.set p ((r * 4294967296 + m.getD p 0) / 10)) p ((r * 4294967296 + m.getD p 0) % 10)∧(r * 4294967296 + m.getD p 0) / 10 < 4294967296∧r < 10:=by
  have hx:=hm.at p
  have hr:r < 10:=by rw [h.rest]; exact Nat.mod_lt _ (by omega)
  have hq:(r * 4294967296 + m.getD p 0) / 10 < 4294967296:=by omega
  have hd:=val_drop m p
  have hr':=h.rest
  have hq':=h.quot
  generalize hH:val (m.drop (p + 1))=H at hd hr' hq'
  generalize hxx:m.getD p 0=x at *
  have hdm:H=10 * (H / 10) + r:=by omega
  generalize hQ:H / 10=Q at *
  have e:x + 4294967296 * H=10 * (4294967296 * Q) + (r * 4294967296 + x):=by omega
  generalize hs:r * 4294967296 + x=s at *
  refine ⟨⟨h.limbs.set _ hq,by simp [h.len],fun j hj=>?_,?_,?_⟩,hq,hr⟩
  · rw [← h.same j (by omega)]
    simp [List.getD,show p ≠ j by omega]
  · have h1:=val_drop (m2.set p (s / 10)) p
    have h2:(m2.set p (s / 10)).getD p 0=s / 10:=getD_set_self _ (by rw [h.len]; exact hp)
    have h3:(m2.set p (s / 10)).drop (p + 1)=m2.drop (p + 1):=by rw [List.drop_set_of_lt (by omega)]
    rw [h3,hq',h2] at h1
    rw [hd,e,h1]
    generalize 4294967296 * Q=y
    omega
  · rw [hd,e,Nat.mul_add_mod 10 (4294967296 * Q) s]
theorem ten_end {m m2:List Nat} {r:Nat} (h:TenAt m m2 0 r):val m2=val m / 10∧r=val m % 10:=by
  have h1:=h.quot
  have h2:=h.rest
  rw [List.drop_zero,List.drop_zero] at h1
  rw [List.drop_zero] at h2
  exact⟨h1,h2⟩
/-- A list whose first i and last i are exchanged. -/
def turned (l:List Int) (i:Nat):List Int:=(List.range l.length).map fun t=>if t < i ∨ l.length - 1 - t < i then l.getD (l.length - 1 - t) 0 else l.getD t 0
theorem length_turned (l:List Int) (i:Nat):(turned l i).length=l.length:=by simp [turned]
theorem get_turned (l:List Int) (i t:Nat) (h:t < l.length):(turned l i).getD t 0=if t < i ∨ l.length - 1 - t < i then l.getD (l.length - 1 - t) 0 else l.getD t 0:=by
  simp [turned,List.getD,h]
theorem ext_getD {a b:List Int} (hl:a.length=b.length) (h:∀ t,t < a.length→a.getD t 0=b.getD t 0):a=b:=by
  refine List.ext_getElem hl fun t h1 h2=>?_
  have:=h t h1
  simpa [List.getD,h1,h2] using this
theorem getD_set (l:List Int) (k t:Nat) (x:Int) (h:k < l.length):(l.set k x).getD t 0=if t=k then x else l.getD t 0:=by
  by_cases e:t=k
  · subst e; simp [List.getD,h]
  · rw [if_neg e]; simp [List.getD,Ne.symm e]
theorem turned_zero (l:List Int):turned l 0=l:=by
  refine ext_getD (length_turned l 0) fun t ht=>?_
  rw [length_turned] at ht
  rw [get_turned l 0 t ht,if_neg (by omega)]
theorem turned_succ (l:List Int) (i:Nat) (h:i + i + 1 < l.length):((turned l i).set i ((turned l i).getD (l.length - 1 - i) 0)).set (l.length - 1 - i) ((turned l i).getD i 0)=turned l (i + 1):=by
  refine ext_getD (by simp [length_turned]) fun t ht=>?_
  have ht':t < l.length:=by simpa [length_turned] using ht
  rw [getD_set _ _ _ _ (by simp [length_turned]; omega),getD_set _ _ _ _ (by rw [length_turned]; omega),get_turned l i _ (by omega),get_turned l i _ (by omega),get_turned l i _ ht',get_turned l (i + 1) _ ht']
  have e1:l.length - 1 - (l.length - 1 - i)=i:=by omega
  rw [e1]
  by_cases h1:t=l.length - 1 - i
  · subst h1
    rw [e1,if_pos rfl,if_neg (by omega),if_pos (by omega)]
  · rw [if_neg h1]
    by_cases h2:t=i
    · subst h2
      rw [if_pos rfl,if_neg (by omega),if_pos (by omega)]
    · rw [if_neg h2]
      by_cases h3:t < i ∨ l.length - 1 - t < i
      · rw [if_pos h3,if_pos (by omega)]
      · rw [if_neg h3,if_neg (by omega)]
theorem turned_end (l:List Int) (i:Nat) (h:l.length≤i + i + 1):turned l i=l.reverse:=by
  refine ext_getD (by simp [length_turned]) fun t ht=>?_
  rw [length_turned] at ht
  have hr:l.reverse.getD t 0=l.getD (l.length - 1 - t) 0:=by
    rw [List.getD,List.getD,List.getElem?_reverse ht]
  rw [get_turned l i t ht,hr]
  by_cases h3:t < i ∨ l.length - 1 - t < i
  · rw [if_pos h3]
  · rw [if_neg h3,show l.length - 1 - t=t by omega]
theorem or_word {r x:Nat} (hx:x < 4294967296):(r * 4294967296) ||| x=r * 4294967296 + x:=by
  have e:4294967296=2 ^ 32:=by decide
  have hx':x < 2 ^ 32:=by omega
  have h:=Nat.two_pow_add_eq_or_of_lt hx' r
  rw [Nat.mul_comm,e,← h]
theorem textI_pos {z:Int} (h:z ≠ 0):textI z=((digs z.natAbs).map letter ++ (if z < 0 then [45] else [])).reverse:=by
  rw [textI,if_neg h]
  split <;> simp
def isDig (c:UInt8):Bool:=decide (48≤c.toNat) && decide (c.toNat≤57)
/-- Are these a number's digits,without noughts ahead? -/
def digB (l:List UInt8):Bool:=l.all isDig && (decide (l ≠ []) && (decide (l.head? ≠ some 48) || l == [48]))
theorem len_data (s:ByteArray):s.data.toList.length=s.size:=Array.length_toList
structure MulTen (m m2:List Nat) (t cc dg:Nat):Prop where
  limbs:Limbs m2
  len:m2.length=m.length
  same:∀ j,t≤j→m2.getD j 0=m.getD j 0
  sum:val (m2.take t) + 4294967296 ^ t * cc=10 * val (m.take t) + dg
theorem mulTen_start {m:List Nat} (h:Limbs m) (dg:Nat):MulTen m m 0 dg dg:=⟨h,rfl,fun _ _=>rfl,by simp [val]⟩
theorem take_set_self (l:List Nat) (k x:Nat):(l.set k x).take k=l.take k:=List.take_set_of_le (Nat.le_refl _)
theorem mulTen_step {m m2:List Nat} {t cc dg:Nat} (hm:Limbs m) (h:MulTen m m2 t cc dg) (ht:t < m.length) (hc:cc≤9) :
    MulTen m (m2.set t ((cc + 10 * m.getD t 0) % 4294967296)) (t + 1) ((cc + 10 * m.getD t 0) / 4294967296) dg∧(cc + 10 * m.getD t 0) / 4294967296≤9:=by
  have hx:=hm.at t
  have h1:=val_take m t
  generalize m.getD t 0=x at *
  refine ⟨⟨h.limbs.set _ (by omega),by simp [h.len],fun j hj=>?_,?_⟩,by omega⟩
  · rw [← h.same j (by omega)]
    simp [List.getD,show t ≠ j by omega]
  · have h2:=val_take (m2.set t ((cc + 10 * x) % 4294967296)) t
    have h3:(m2.set t ((cc + 10 * x) % 4294967296)).getD t 0=(cc + 10 * x) % 4294967296:=getD_set_self _ (by rw [h.len]; exact ht)
    have h4:=h.sum
    have h5:=Nat.mod_add_div (cc + 10 * x) 4294967296
    rw [h3,take_set_self] at h2
    rw [h2,h1,Nat.pow_succ]
    generalize (cc + 10 * x) % 4294967296=r at *
    generalize (cc + 10 * x) / 4294967296=q at *
    generalize 4294967296 ^ t=p at *
    grind
theorem mulTen_end {m m2:List Nat} {cc dg:Nat} (h:MulTen m m2 m.length cc dg):val (m2 ++ [cc])=10 * val m + dg:=by
  have h1:=h.sum
  rw [List.take_of_length_le (by rw [h.len]; exact Nat.le_refl _),List.take_of_length_le (Nat.le_refl _)] at h1
  rw [val_snoc,h.len]
  exact h1
/-- What digits are worth. -/
def decV (l:List UInt8):Nat:=l.foldl (fun v c=>10 * v + (c.toNat - 48)) 0
theorem decV_snoc (l:List UInt8) (c:UInt8):decV (l ++ [c])=10 * decV l + (c.toNat - 48):=by simp [decV]
theorem decV_mono (l:List UInt8) (k:Nat):decV (l.take k)≤decV l:=by
  have:∀ (a b:List UInt8),decV a≤decV (a ++ b):=by
    intro a b
    induction b generalizing a with
    | nil=>simp
    | cons c b ih =>
      have h1:=ih (a ++ [c])
      rw [List.append_assoc,decV_snoc] at h1
      simp only [List.singleton_append] at h1
      omega
  have h:=this (l.take k) (l.drop k)
  rwa [List.take_append_drop] at h
def parseD (neg:Bool) (d:List UInt8):Int × Int:=if digB d=true then (if 2 ^ 256≤decV d then (0,3) else (sgn neg (decV d),0)) else (0,2)
/-- What a text is read as,and the error. -/
def parseZ (l:List UInt8):Int × Int:=if l.head?=some 45 then (if l=[45,48] then (0,2) else parseD true l.tail) else parseD false l
theorem ext_tail (s:ByteArray):(s.extract 1 s.size).data.toList=s.data.toList.tail:=by
  rw [Go.Lib.extract_to_end]
  simp
theorem digs_one {d:Nat} (h0:0 < d) (h:d < 10):digs d=[d]:=by
  rw [digs_pos h0,Nat.mod_eq_of_lt h,Nat.div_eq_of_lt h,digs_zero]
def lettersU (n:Nat):List UInt8:=((digs n).map fun d=>UInt8.ofNat (48 + d)).reverse
theorem textU_eq (z:Int):(strOfNums (textI z)).data.toList=if z=0 then [48] else (if z < 0 then [45] else []) ++ lettersU z.natAbs:=by
  have hl:((digs z.natAbs).map letter).reverse.map (fun n=>UInt8.ofNat n.toNat)=lettersU z.natAbs:=by
    simp only [lettersU,List.map_reverse,List.map_map]
    congr 1
  unfold strOfNums textI
  simp only
  split
  · rfl
  · rw [List.map_append,hl]
    split <;> rfl
theorem zero_abs:(0:Int).natAbs < 2 ^ 256:=by decide +kernel
abbrev nv (a:Nm):Value:=.agg #[.int .i64 a.k,.int .i64 a.n]
theorem bsm:(∀ a:Bool,(a && true)=a)∧(∀ a:Bool,(true && a)=a)∧(∀ a:Bool,(a && false)=false)∧(∀ a:Bool,(false && a)=false)∧(∀ a:Bool,(a || true)=true)∧(∀ a:Bool,(true || a)=true)∧(∀ a:Bool,(a || false)=a)∧(∀ a:Bool,(false || a)=a)∧(!true)=false∧(!false)=true ∧
    (∀ (α:Type) (a b:α),(if True then a else b)=a)∧(∀ (α:Type) (a b:α),(if False then a else b)=b)∧(false=true)=False∧decide True=true∧decide False=false∧([]:List Nat).length=0:=by
  refine ⟨?_,?_,?_,?_,?_,?_,?_,?_,?_,?_,?_,?_,?_,?_,?_,?_⟩ <;> simp
structure Vl where
  k:Int
  nk:Int
  nn:Int
  neg:Bool
  mag:List Nat
  s:List Nat
  ref:Int
abbrev vv (v:Vl) (A:Option Addr) (c:Nat) (B:Option Addr) (d:Nat):Value:=.agg #[iv v.k,iv v.nk,iv v.nn,.bool v.neg,sv A v.mag c,sv B v.s d,iv v.ref]
abbrev c7 (v:Vl) (A:Option Addr) (c:Nat) (B:Option Addr) (d:Nat):List Value:=[iv v.k,iv v.nk,iv v.nn,.bool v.neg,sv A v.mag c,sv B v.s d,iv v.ref]
abbrev TP (v:Vl) (s:Int):Value→World→Prop:=fun x W=>∃ (A:Option Addr) (c:Nat) (B:Option Addr) (d:Nat),x=.tuple #[vv v A c B d,iv s]∧SRow W .u32 A v.mag c∧SRow W .u16 B v.s d
abbrev TQ (v u:Vl) (s:Int):Value→World→Prop:=fun x W=>∃ (A:Option Addr) (c:Nat) (B:Option Addr) (d:Nat) (A2:Option Addr) (c2:Nat) (B2:Option Addr) (d2:Nat),x=.tuple #[vv v A c B d,vv u A2 c2 B2 d2,iv s]∧SRow W .u32 A v.mag c∧SRow W .u16 B v.s d∧SRow W .u32 A2 u.mag c2∧SRow W .u16 B2 u.s d2
theorem rV {S:Vl × Int} {k nk nn ref s:Int} {neg:Bool} {w w':World} (h:S=(Vl.mk k nk nn neg [] [] ref,s)) (hn:New w w'):∃ (A:Option Addr) (c:Nat) (B:Option Addr) (d:Nat),Ending.returned (.tuple #[vv (Vl.mk k nk nn neg [] [] ref) none 0 none 0,iv s])=.returned (.tuple #[vv S.1 A c B d,iv S.2])∧SRow w' .u32 A S.1.mag c∧SRow w' .u16 B S.1.s d∧New w w':=by
  subst h; exact⟨none,0,none,0,rfl,SRow.nil _ _,SRow.nil _ _,hn⟩
theorem rW {S:Vl} {k nk nn ref:Int} {neg:Bool} {w w':World} (h:S=Vl.mk k nk nn neg [] [] ref) (hn:New w w'):∃ (A:Option Addr) (c:Nat) (B:Option Addr) (d:Nat),Ending.returned (vv (Vl.mk k nk nn neg [] [] ref) none 0 none 0)=.returned (vv S A c B d)∧SRow w' .u32 A S.mag c∧SRow w' .u16 B S.s d∧New w w':=by
  subst h; exact⟨none,0,none,0,rfl,SRow.nil _ _,SRow.nil _ _,hn⟩
abbrev VP (x:Vl):Value→World→Prop:=fun v W=>∃ (A:Option Addr) (c:Nat) (B:Option Addr) (d:Nat),v=vv x A c B d∧SRow W .u32 A x.mag c∧SRow W .u16 B x.s d
abbrev Vl.num (v:Vl):Nm:=⟨v.nk,v.nn⟩
def Vl.z:Vl:=⟨0,0,0,false,[],[],0⟩
def zeroV (v:Vl):Bool:=decide (v.nk=0) && decide (v.nn=0) && !v.neg && decide ((v.mag.length:Int)=0) && decide ((v.s.length:Int)=0) && decide (v.ref=0)
def mayV (v:Vl):Bool :=
  if decide (v.k=0) || decide (v.k=1) then zeroV v
  else if decide (v.k=2) then zeroV { v with ref:=0 } && (decide (v.ref=0) || decide (v.ref=1))
  else if decide (v.k=3) then zeroV { v with nk:=0,nn:=0 } && nmayB v.num
  else if decide (v.k=4) then zeroV { v with neg:=false,mag:=[] } && mayB v.neg v.mag
  else if decide (v.k=5) then zeroV { v with s:=[] } && decide ((v.s.length:Int)≤4096)
  else if decide (v.k=6) then zeroV { v with ref:=0 } && !decide (v.ref < 0)
  else false
def cleanV (v:Vl):Vl:=if mayV v then v else Vl.z

theorem trim_dn' {m:List Nat} {k:Nat} (h0:0 < k) (hk:k≤m.length) (h:decide ((((m.take k).getD (((m.take k).length:Int) - 1).toNat 0:Nat):Int)=0)=true) (hv:val (m.take k)=val m):val (m.take (k - 1))=val m:=by
  have h1:=of_decide_eq_true h
  have hl:(m.take k).length=k:=by rw [List.length_take]; omega
  rw [hl,show ((k:Int) - 1).toNat=k - 1 by omega] at h1
  have h2:=trim_step (m.take k) (fun e=>by rw [e] at hl; simp at hl; omega) (by rw [hl]; omega)
  rw [hl,List.take_take,show min (k - 1) k=k - 1 by omega] at h2
  rw [h2,hv]
theorem trim_nz' {m:List Nat} {k:Nat} (h0:0 < k) (hk:k≤m.length) (h:decide ((((m.take k).getD (((m.take k).length:Int) - 1).toNat 0:Nat):Int)=0)=false):0 < (m.take k).getD (k - 1) 0:=by
  have h1:=of_decide_eq_false h
  have hl:(m.take k).length=k:=by rw [List.length_take]; omega
  rw [hl,show ((k:Int) - 1).toNat=k - 1 by omega] at h1
  omega
theorem trim_end' {m:List Nat} {k:Nat} (hl:Limbs m) (hk:k≤m.length) (hv:val (m.take k)=val m) (h:k=0 ∨ 0 < (m.take k).getD (k - 1) 0):m.take k=canon (val m):=by
  rw [← hv]
  refine canon_val (hl.take k) ?_
  rcases h with rfl|h
  · exact .inl (by simp)
  · exact .inr (by rw [List.length_take,Nat.min_eq_left hk]; exact h)
def cmpI1 (n:Int):Int:=if decide (n < 0) then -1 else if !decide (n≤0) then 1 else 0
theorem sign_eq (n:Int):min (max n (-1)) 1=cmpI1 n:=by
  unfold cmpI1
  by_cases h1:n < 0
  · rw [decide_eq_true h1,if_pos rfl]; omega
  · rw [decide_eq_false h1]
    by_cases h2:n≤0
    · rw [decide_eq_true h2]; simp; omega
    · rw [decide_eq_false h2]; simp; omega
theorem row_none {w:World} {k:IntKind} {A:Option Addr} {xs:List Nat} {c:Nat} (h:SRow w k A xs c) (hA:A.isNone=true):xs=[]:=by
  rcases h.2 with ⟨h0,_⟩|⟨b,off,c',hv,_⟩
  · exact List.eq_nil_of_length_eq_zero h0
  · injection hv with h1 _ _
    rw [h1] at hA; cases hA
theorem made_zero {d:Bool} {n:Nat} (h:decide (((canon n).length:Int)=0)=true):sgn d n=0:=by
  have h1:=of_decide_eq_true h
  rw [canon_nil.1 (List.eq_nil_of_length_eq_zero (l:=canon n) (by omega)),sgn_zero]
theorem made_nz {d:Bool} {n:Nat} (h:decide (((canon n).length:Int)=0)=false):decide (sgn d n < 0)=d:=by
  have h1:=of_decide_eq_false h
  rcases Nat.eq_zero_or_pos n with h2|h2
  · rw [h2,canon_zero] at h1; simp at h1
  · exact sgn_neg h2
theorem above_dn1 {a b:List Nat} {n:Nat} (h:Above a b n) (h0:0 < n) (h1:decide (((a.getD ((n:Int) - 1).toNat 0:Nat):Int)=((b.getD ((n:Int) - 1).toNat 0:Nat):Int))=true):Above a b (n - 1):=by
  have h3:=of_decide_eq_true h1
  rw [show ((n:Int) - 1).toNat=n - 1 by omega] at h3
  intro j hj
  rcases Nat.lt_or_ge j n with h5|h5
  · obtain rfl:j=n - 1:=by omega
    omega
  · exact h j h5
theorem above_of_eqlen {a b:List Nat} (h:a.length=b.length):Above a b a.length:=fun j hj=>by
  simp [List.getD,show a.length≤j by omega,show b.length≤j by omega]
theorem cmp_len {a b:List Nat} (ha:Limbs a) (hb:Limbs b) (hta:Trim a) (htb:Trim b) (h:a.length ≠ b.length):cmpI1 ((a.length:Int) - (b.length:Int))=cmpI (val a) (val b):=by
  unfold cmpI1 cmpI
  rcases Nat.lt_or_ge a.length b.length with h1|h1
  · rw [decide_eq_true (by omega),if_pos rfl,if_pos (len_lt ha htb h1)]
  · have h2:=len_lt hb hta (show b.length < a.length by omega)
    rw [decide_eq_false (by omega),decide_eq_false (by omega)]
    simp [show ¬ val a < val b by omega,h2]
theorem cmp_same {a b:List Nat} {n:Nat} (h:Above a b n) (h0:n=0):cmpI (val a) (val b)=0:=by
  subst h0
  have:=eq_of_above h
  unfold cmpI
  rw [if_neg (by omega),if_neg (by omega)]
theorem cmp_at {a b:List Nat} {n:Nat} (ha:Limbs a) (hb:Limbs b) (h:Above a b n) (h0:0 < n) (h1:decide (((a.getD ((n:Int) - 1).toNat 0:Nat):Int)=((b.getD ((n:Int) - 1).toNat 0:Nat):Int))=false) :
    cmpI1 (((a.getD ((n:Int) - 1).toNat 0:Nat):Int) - ((b.getD ((n:Int) - 1).toNat 0:Nat):Int))=cmpI (val a) (val b):=by
  have h3:=of_decide_eq_false h1
  rw [show ((n:Int) - 1).toNat=n - 1 by omega] at h3 ⊢
  have e:n - 1 + 1=n:=by omega
  unfold cmpI1 cmpI
  rcases Nat.lt_or_ge (a.getD (n - 1) 0) (b.getD (n - 1) 0) with h4|h4
  · have:=lt_of_diff ha (k:=n - 1) (by rw [e]; exact h) h4
    rw [decide_eq_true (by omega),if_pos rfl,if_pos this]
  · have:=lt_of_diff hb (k:=n - 1) (a:=b) (b:=a) (by rw [e]; exact fun j hj=>(h j hj).symm) (by omega)
    rw [decide_eq_false (by omega),decide_eq_false (by omega)]
    simp [show ¬ val a < val b by omega,this]
theorem same_cmp (x y:Int):decide (cmpZ x y=0)=decide (x=y):=by
  rw [decide_eq_decide]
  unfold cmpZ
  split
  · omega
  · split <;> omega
theorem two_limbs_m (u:Nat):Limbs [u % 4294967296,u / 4294967296 % 4294967296]:=Limbs.cons (by omega) (Limbs.cons (by omega) Limbs.nil)
theorem two_val_m {u:Nat} (hu:u < 18446744073709551616):val [u % 4294967296,u / 4294967296 % 4294967296]=u:=by simp [val]; omega
theorem of_conv (n:Int):IntKind.u64.wrap n=(((n % 18446744073709551616).toNat:Nat):Int):=by
  rw [Int.toNat_of_nonneg (by omega)]
  simp [IntKind.wrap,IntKind.bits,IntKind.signed]
theorem v_negU {P:Program} {o:Oper} {a:Act} {w:World} {t:TypeId} {x:Operand} {k:IntKind} {m r:Int} (ho:o.op=.unOp .neg t x) (hx:a.eval x=.int k m) (hr:k.wrap (-m)=r):(execOp a.eval o).run P w=.ok (.value (.int k r)) w:=by
  simp [execOp,ho,hx,Op.unary,Op.intArith,hr]
theorem of_neg {n:Int} (hlo:-9223372036854775808≤n) (h:n < 0):IntKind.u64.wrap (-(((n % 18446744073709551616).toNat:Nat):Int))=(((-n).toNat:Nat):Int):=by
  rw [Int.toNat_of_nonneg (by omega),Int.toNat_of_nonneg (by omega)]
  simp [IntKind.wrap,IntKind.bits,IntKind.signed]
  omega
theorem of_yes {n:Int} (hlo:-9223372036854775808≤n) (h:decide (n < 0)=true):sgn true (val [(-n).toNat % 4294967296,(-n).toNat / 4294967296 % 4294967296])=n:=by
  have:=of_decide_eq_true h
  rw [two_val_m (by omega)]
  show -(((-n).toNat:Nat):Int)=n
  omega
theorem of_no {n:Int} (hhi:n≤9223372036854775807) (h:decide (n < 0)=false):sgn false (val [(n % 18446744073709551616).toNat % 4294967296,(n % 18446744073709551616).toNat / 4294967296 % 4294967296])=n:=by
  have:=of_decide_eq_false h
  rw [two_val_m (by omega)]
  show (((n % 18446744073709551616).toNat:Nat):Int)=n
  omega
theorem eq_up {a b:List Nat} {i:Nat} (h:∀ j,j < i→a.getD j 0=b.getD j 0) (hi:i < a.length) (h1:decide (((a.getD i 0:Nat):Int)=((b.getD i 0:Nat):Int))=true):∀ j,j < i + 1→a.getD j 0=b.getD j 0:=by
  intro j hj
  rcases Nat.lt_or_ge j i with h2|h2
  · exact h j h2
  · obtain rfl:j=i:=by omega
    have:=of_decide_eq_true h1
    omega
theorem eq_all {a b:List Nat} {i:Nat} (hl:a.length=b.length) (hi:i=a.length) (h:∀ j,j < i→a.getD j 0=b.getD j 0):a=b:=by
  refine List.ext_getElem hl fun j h1 h2=>?_
  have:=h j (by omega)
  simpa [List.getD,h1,h2] using this
def sameV (v u:Vl):Bool:=decide (v.k=u.k) && (decide (v.nk=u.nk) && decide (v.nn=u.nn)) && decide (v.neg=u.neg) && decide (v.mag=u.mag) && decide (v.s=u.s) && decide (v.ref=u.ref)
def countedV (v:Vl):Vl:=if decide (v.k=2) then ⟨3,0,v.ref,false,[],[],0⟩ else v
def truthV (t:Bool):Vl:=if t then ⟨2,0,0,false,[],[],1⟩ else ⟨2,0,0,false,[],[],0⟩
def alikeB (b:Bool) (m:List Nat) (a:Nm):Bool:=if decide (a.k=1) then (if decide ((m.length:Int)=0) then true else false) else if decide (a.k=0) then decide (goodI b m=a.n) else false
theorem good_canon {z:Int} (h:z.natAbs < 2 ^ 256):goodI (decide (z < 0)) (canon z.natAbs)=z:=by
  unfold goodI
  rw [if_pos (may_canon h),val_canon]
  unfold sgn
  split
  · rename_i h; simp at h; omega
  · rename_i h; simp at h; omega
theorem whole_bd (a:Nm):-9007199254740991≤(wholeM a).n∧(wholeM a).n≤9007199254740991:=by
  have:=as_bd a
  unfold wholeM
  split
  · exact⟨by decide,by decide⟩
  · exact this

def blankN (x:Nat):Bool:=decide ((x:Int)=32) || decide ((x:Int)=9) || decide ((x:Int)=10) || decide ((x:Int)=13)
def dgtN (x:Nat):Bool:=!decide ((x:Int) < 48) && decide ((x:Int)≤57)
def asc (s:ByteArray):List Nat:=s.data.toList.map fun c=>c.toNat
def ascT (s:ByteArray) (i:Nat):List Nat:=(s.data.toList.take i).map fun c=>c.toNat
theorem asc0 (s:ByteArray):ascT s 0=[]:=by simp [ascT]
theorem asc_up {s:ByteArray} {i:Nat} (h:i < s.size):ascT s i ++ [bAt s i]=ascT s (i + 1):=by
  have h1:=s_len s
  unfold ascT bAt
  rw [List.take_succ_eq_append_getElem (by omega),List.map_append,List.getD_eq_getElem?_getD,List.getElem?_eq_getElem (by omega)]
  rfl
theorem asc_end {s:ByteArray} {i:Nat} (h:s.size≤i):ascT s i=asc s:=by
  unfold ascT asc
  rw [List.take_of_length_le (by rw [s_len]; exact h)]
theorem ascT_len {s:ByteArray} {i:Nat}:(ascT s i).length≤s.size:=by
  have:=s_len s
  unfold ascT
  rw [List.length_map,List.length_take]; omega
theorem asc_len (s:ByteArray):(asc s).length=s.size:=by
  have:=s_len s
  unfold asc
  rw [List.length_map]; omega
def idxF (p:Nat→Bool):List Nat→Int
  | []=>-1
  | a :: l=>if p a then 0 else if idxF p l < 0 then -1 else idxF p l + 1
theorem idxF_ge (p:Nat→Bool):∀ l:List Nat,-1≤idxF p l
  | []=>by simp [idxF]
  | a :: l=>by
    have:=idxF_ge p l
    unfold idxF
    split
    · omega
    · split <;> omega
theorem idxF_any (p:Nat→Bool):∀ l:List Nat,(!decide (idxF p l < 0))=l.any p
  | []=>by simp [idxF]
  | a :: l=>by
    have h:=idxF_any p l
    have h2:=idxF_ge p l
    rw [List.any_cons,← h,show idxF p (a :: l)=if p a then 0 else if idxF p l < 0 then -1 else idxF p l + 1 from rfl]
    generalize idxF p l=r at *
    cases p a
    · by_cases h3:r < 0
      · simp [h3]
      · simp [h3]; omega
    · simp
theorem idxF_at (p:Nat→Bool):∀ (l:List Nat) (i:Nat),i < l.length→(∀ j,j < i→p (l.getD j 0)=false)→p (l.getD i 0)=true→idxF p l=(i:Int)
  | [],i,hi,_,_=>by simp at hi
  | a :: l,0,_,_,h=>by
    unfold idxF
    rw [if_pos (by simpa using h)]; rfl
  | a :: l,i + 1,hi,h1,h2=>by
    have h0:=h1 0 (by omega)
    have ih:=idxF_at p l i (by simpa using hi) (fun j hj=>by simpa using h1 (j + 1) (by omega)) (by simpa using h2)
    unfold idxF
    rw [if_neg (by simpa using h0),ih,if_neg (by omega)]; omega
theorem idxF_none (p:Nat→Bool):∀ (l:List Nat),(∀ j,j < l.length→p (l.getD j 0)=false)→idxF p l = -1
  | [],_=>rfl
  | a :: l,h=>by
    have h0:=h 0 (by simp)
    have ih:=idxF_none p l (fun j hj=>by simpa using h (j + 1) (by simpa using hj))
    unfold idxF
    rw [if_neg (by simpa using h0),ih]; rfl
theorem up_false {p:Nat→Bool} {l:List Nat} {i:Nat} (h:∀ j,j < i→p (l.getD j 0)=false) (h1:p (l.getD i 0)=false):∀ j,j < i + 1→p (l.getD j 0)=false:=by
  intro j hj
  rcases Nat.lt_or_ge j i with h2|h2
  · exact h j h2
  · obtain rfl:j=i:=by omega
    exact h1
def okcN (x:Nat):Bool:=if dgtN x then true else if (!decide ((x:Int) < 97) && decide ((x:Int)≤102)) then true else if (!decide ((x:Int) < 65) && decide ((x:Int)≤70)) then true else (asc ⟨#[120,88,111,79,46,43,45,95]⟩).any fun y=>decide ((x:Int)=(y:Int))
def strangeN (u:List Nat):Bool:=u.all okcN && u.any dgtN
theorem take_up {l:List Nat} {i:Nat} (h:i < l.length):l.take (i + 1)=l.take i ++ [l.getD i 0]:=by
  rw [List.take_succ_eq_append_getElem h,List.getD_eq_getElem?_getD,List.getElem?_eq_getElem h]; rfl
theorem any_up {p:Nat→Bool} {l:List Nat} {i:Nat} (h:i < l.length):(l.take (i + 1)).any p=((l.take i).any p || p (l.getD i 0)):=by
  rw [take_up h,List.any_append]; simp
theorem all_up {p:Nat→Bool} {l:List Nat} {i:Nat} (h:i < l.length) (h1:(l.take i).all p=true) (h2:p (l.getD i 0)=true):(l.take (i + 1)).all p=true:=by
  rw [take_up h,List.all_append,h1]; simpa using h2
theorem all_bad {p:Nat→Bool} {l:List Nat} {i:Nat} (h:i < l.length) (h2:p (l.getD i 0)=false):l.all p=false:=by
  cases h3:l.all p with
  | false=>rfl
  | true =>
    rw [List.getD_eq_getElem?_getD,List.getElem?_eq_getElem h] at h2
    rw [show (some l[i]).getD 0=l[i] from rfl,List.all_eq_true.1 h3 _ (List.getElem_mem h)] at h2
    cases h2
/-- the value of digits,as the code tells it -/
def valR:List Nat→Int→Int × Bool
  | [],n=>(n,decide (n≤9007199254740991))
  | x :: l,n=>if decide (n≤900719925474099) then valR l (10 * n + ((x:Int) - 48)) else (0,false)
theorem drop_at {l:List Nat} {i:Nat} (h:i < l.length):l.drop i=l.getD i 0 :: l.drop (i + 1):=by
  rw [List.drop_eq_getElem_cons h,List.getD_eq_getElem?_getD,List.getElem?_eq_getElem h]; rfl
def rtrimN (l:List Nat):List Nat:=(l.reverse.dropWhile blankN).reverse
def trimN (u:List Nat):List Nat:=rtrimN (u.dropWhile blankN)
theorem dw_step {l:List Nat} (h:0 < l.length) (h1:blankN (l.getD 0 0)=true):(l.drop 1).dropWhile blankN=l.dropWhile blankN:=by
  cases l with
  | nil=>simp at h
  | cons a l=>rw [List.dropWhile_cons,if_pos (by simpa using h1)]; rfl
theorem dw_end {l:List Nat} (h:l.length=0 ∨ blankN (l.getD 0 0)=false):l.dropWhile blankN=l:=by
  cases l with
  | nil=>rfl
  | cons a l =>
    rcases h with h|h
    · simp at h
    · rw [List.dropWhile_cons,if_neg (by simpa using h)]
theorem last_rev {l:List Nat} (h:0 < l.length):l.reverse=l.getD (l.length - 1) 0 :: (l.take (l.length - 1)).reverse:=by
  have h1:=take_up (l:=l) (i:=l.length - 1) (by omega)
  rw [show l.length - 1 + 1=l.length by omega,List.take_length] at h1
  conv=>lhs; rw [h1]
  simp
theorem rt_step {l:List Nat} (h:0 < l.length) (h1:blankN (l.getD (l.length - 1) 0)=true):rtrimN (l.take (l.length - 1))=rtrimN l:=by
  unfold rtrimN
  rw [last_rev h,List.dropWhile_cons,if_pos (by simpa using h1)]
theorem rt_end {l:List Nat} (h:l.length=0 ∨ (0 < l.length∧blankN (l.getD (l.length - 1) 0)=false)):rtrimN l=l:=by
  rcases h with h|⟨h0,h⟩
  · rw [List.eq_nil_of_length_eq_zero h]; rfl
  · unfold rtrimN
    rw [last_rev h0,List.dropWhile_cons,if_neg (by simpa using h)]
    rw [← last_rev h0,List.reverse_reverse]
def U16s (u:List Nat):Prop:=∀ x∈u,x < 65536
theorem U16s.at16 {u:List Nat} (h:U16s u) (i:Nat):u.getD i 0 < 65536:=by
  rw [List.getD_eq_getElem?_getD]
  cases hk:u[i]? with
  | none=>simp
  | some x=>simpa using h x (List.mem_of_getElem? hk)
theorem U16s.asc (s:ByteArray):U16s (asc s):=fun x hx=>by
  unfold Go.Proofs.YtecgdgjlmlpcnaaGreatDoor.asc at hx
  obtain⟨c,_,rfl⟩:=List.mem_map.1 hx
  have:=c.toNat_lt
  omega
theorem U16s.drop {u:List Nat} (h:U16s u) (n:Nat):U16s (u.drop n):=fun x hx=>h x (List.mem_of_mem_drop hx)
theorem U16s.take {u:List Nat} (h:U16s u) (n:Nat):U16s (u.take n):=fun x hx=>h x (List.mem_of_mem_take hx)
theorem U16s.dw {u:List Nat} (h:U16s u) (p:Nat→Bool):U16s (u.dropWhile p):=fun x hx=>h x ((List.dropWhile_sublist p).mem hx)
theorem U16s.trim {u:List Nat} (h:U16s u):U16s (trimN u):=fun x hx=>by
  unfold trimN rtrimN at hx
  exact h x ((List.dropWhile_sublist _).mem (by simpa using (List.dropWhile_sublist _).mem (List.mem_reverse.1 hx)))
theorem U16s.nil:U16s []:=fun _ h=>by cases h
theorem digs_of {u:List Nat} (h:(u.any fun y:Nat=>!dgtN y)=false):∀ j,j < u.length→48≤u.getD j 0∧u.getD j 0≤57:=by
  intro j hj
  have h1:=List.any_eq_false.1 h (u.getD j 0) (by rw [List.getD_eq_getElem?_getD,List.getElem?_eq_getElem hj]; exact List.getElem_mem hj)
  generalize u.getD j 0=y at *
  unfold dgtN at h1
  simp at h1
  omega
def bodyT (t d:List Nat) (neg:Bool):Nm × Bool :=
  if decide (d=asc ⟨#[73,110,102,105,110,105,116,121]⟩) then (if neg then negM ⟨3,0⟩ else ⟨3,0⟩,!strangeN t)
  else if !decide ((d.length:Int)≤0) && !(d.any fun y:Nat=>!dgtN y) then (if (valR d 0).2 then (if neg then negM ⟨0,(valR d 0).1⟩ else ⟨0,(valR d 0).1⟩,true) else (⟨2,0⟩,false))
  else (if neg then negM ⟨2,0⟩ else ⟨2,0⟩,!strangeN t)
def numT (u:List Nat):Nm × Bool :=
  if decide (((trimN u).length:Int)=0) then (⟨0,0⟩,true)
  else if decide ((((trimN u).getD 0 0:Nat):Int)=45) then bodyT (trimN u) ((trimN u).drop 1) true
  else if decide ((((trimN u).getD 0 0:Nat):Int)=43) then bodyT (trimN u) ((trimN u).drop 1) false
  else bodyT (trimN u) (trimN u) false
structure VOk (v:Vl):Prop where
  limbs:Limbs v.mag
  units:U16s v.s
  mlen:v.mag.length≤40
  slen:v.s.length≤20000
  nlo:-9223372036854775808≤v.nn
  nhi:v.nn≤9223372036854775807
  rlo:-9223372036854775808≤v.ref
  rhi:v.ref≤9223372036854775807
theorem VOk.z:VOk Vl.z:=⟨Limbs.nil,U16s.nil,by decide,by decide,by decide,by decide,by decide,by decide⟩
theorem VOk.clean {v:Vl} (h:VOk v):VOk (cleanV v):=by unfold cleanV; split; exact h; exact VOk.z
theorem VOk.counted {v:Vl} (h:VOk v):VOk (countedV v):=by
  unfold countedV; split
  · exact⟨Limbs.nil,U16s.nil,Nat.zero_le _,Nat.zero_le _,h.rlo,h.rhi,(by decide:(-9223372036854775808:Int)≤0),(by decide:(0:Int)≤9223372036854775807)⟩
  · exact h
def numberV (v:Vl):Nm × Int :=
  if decide ((cleanV v).k=0) then (⟨2,0⟩,0)
  else if decide ((cleanV v).k=1) || decide ((cleanV v).k=2) then (⟨0,(cleanV v).ref⟩,0)
  else if decide ((cleanV v).k=3) then ((cleanV v).num,0)
  else if decide ((cleanV v).k=4) then (⟨0,0⟩,1)
  else if decide ((cleanV v).k=5) then (if (numT (cleanV v).s).2 then ((numT (cleanV v).s).1,0) else (⟨0,0⟩,3))
  else (⟨0,0⟩,3)
def indexV (v:Vl):Int × Int :=
  if decide ((cleanV v).k=0) then (0,0)
  else if decide ((numberV (cleanV v)).2=0) then (if (indexM (numberV (cleanV v)).1).2 then ((indexM (numberV (cleanV v)).1).1,0) else (0,2))
  else (0,(numberV (cleanV v)).2)
def strictV (v u:Vl):Bool :=
  if decide ((cleanV v).k=(cleanV u).k) then (if decide ((cleanV v).k=3) then equalM (cleanV v).num (cleanV u).num else sameV (cleanV v) (cleanV u)) else false
def noneV (v:Vl):Bool:=decide (v.k=0) || decide (v.k=1)
def loose3 (x y:Vl):Bool × Int :=
  if decide (x.k=y.k) then (strictV x y,0)
  else if decide (x.k=3) && decide (y.k=4) then (alikeB y.neg y.mag x.num,0)
  else if decide (x.k=3) && decide (y.k=5) then (decide ((numberV y).2=0) && equalM x.num (numberV y).1,(numberV y).2)
  else (false,3)
def loose2 (x y:Vl):Bool × Int:=if decide (x.k≤y.k) then loose3 x y else loose3 y x
def loose1 (x y:Vl):Bool × Int :=
  if decide (x.k=y.k) then (strictV x y,0)
  else if noneV x || noneV y then (noneV x && noneV y,0)
  else loose2 (countedV x) (countedV y)
def looseV (v u:Vl):Bool × Int:=loose1 (cleanV v) (cleanV u)
def boolV (v:Vl):Bool :=
  if decide ((cleanV v).k=2) then decide ((cleanV v).ref=1)
  else if decide ((cleanV v).k=3) then !decide ((cleanV v).nk=2) && !equalM (cleanV v).num ⟨0,0⟩
  else if decide ((cleanV v).k=4) then !decide (((cleanV v).mag.length:Int)≤0)
  else if decide ((cleanV v).k=5) then !decide (((cleanV v).s.length:Int)≤0)
  else decide ((cleanV v).k=6)
theorem zgetD_far {m:List Nat} {i:Nat} (h:m.length≤i):m.getD i 0=0:=by simp [List.getD,h]
theorem ztrim_dn {m:List Nat} {k:Nat} (h0:0 < k) (h:decide (((m.getD ((k:Int) - 1).toNat 0:Nat):Int)=0)=true) (hv:val (m.take k)=val m):val (m.take (k - 1))=val m:=by
  have h1:=of_decide_eq_true h
  rw [show ((k:Int) - 1).toNat=k - 1 by omega] at h1
  have h2:=val_take m (k - 1)
  rw [show k - 1 + 1=k by omega,show m.getD (k - 1) 0=0 by omega] at h2
  omega
theorem ztrim_nz {m:List Nat} {k:Nat} (h:decide (((m.getD ((k:Int) - 1).toNat 0:Nat):Int)=0)=false):0 < m.getD (k - 1) 0:=by
  have h1:=of_decide_eq_false h
  rw [show ((k:Int) - 1).toNat=k - 1 by omega] at h1
  omega
theorem ztrim_end {m:List Nat} {k:Nat} (hl:Limbs m) (hk:k≤m.length) (hv:val (m.take k)=val m) (h:k=0 ∨ 0 < m.getD (k - 1) 0):[] ++ m.take (k:Int).toNat=canon (val m):=by
  rw [List.nil_append,Int.toNat_natCast,← hv]
  refine canon_val (hl.take k) ?_
  rcases h with rfl|h
  · exact .inl (by simp)
  · rcases Nat.eq_zero_or_pos k with hk0|hk0
    · exact .inl (by simp [hk0])
    refine .inr ?_
    rw [List.length_take,Nat.min_eq_left hk]
    simpa [List.getD,show k - 1 < k by omega] using h
theorem zabove_dn {a b:List Nat} {n:Nat} (h:Above a b n) (h0:0 < n) (h1:decide (((a.getD ((n:Int) - 1).toNat 0:Nat):Int) < ((b.getD ((n:Int) - 1).toNat 0:Nat):Int))=false) (h2:decide (((a.getD ((n:Int) - 1).toNat 0:Nat):Int)≤((b.getD ((n:Int) - 1).toNat 0:Nat):Int))=true):Above a b (n - 1):=by
  have h3:=of_decide_eq_false h1
  have h4:=of_decide_eq_true h2
  rw [show ((n:Int) - 1).toNat=n - 1 by omega] at h3 h4
  intro j hj
  rcases Nat.lt_or_ge j n with h5|h5
  · obtain rfl:j=n - 1:=by omega
    omega
  · exact h j h5
theorem zcmp_lt {a b:List Nat} {n:Nat} (ha:Limbs a) (h:Above a b n) (h0:0 < n) (h1:decide (((a.getD ((n:Int) - 1).toNat 0:Nat):Int) < ((b.getD ((n:Int) - 1).toNat 0:Nat):Int))=true):cmpI (val a) (val b) = -1:=by
  have h3:=of_decide_eq_true h1
  rw [show ((n:Int) - 1).toNat=n - 1 by omega] at h3
  unfold cmpI
  rw [if_pos (lt_of_diff ha (k:=n - 1) (by rw [show n - 1 + 1=n by omega]; exact h) (by omega))]
theorem zcmp_gt {a b:List Nat} {n:Nat} (hb:Limbs b) (h:Above a b n) (h0:0 < n) (h1:decide (((a.getD ((n:Int) - 1).toNat 0:Nat):Int)≤((b.getD ((n:Int) - 1).toNat 0:Nat):Int))=false):cmpI (val a) (val b)=1:=by
  have h3:=of_decide_eq_false h1
  rw [show ((n:Int) - 1).toNat=n - 1 by omega] at h3
  have h4:=lt_of_diff hb (k:=n - 1) (a:=b) (b:=a) (by rw [show n - 1 + 1=n by omega]; exact fun j hj=>(h j hj).symm) (by omega)
  unfold cmpI
  rw [if_neg (by omega),if_pos h4]
theorem zcmp_eq {a b:List Nat} {n:Nat} (h:Above a b n) (h0:n=0):cmpI (val a) (val b)=0:=by
  subst h0
  have:=eq_of_above h
  unfold cmpI
  rw [if_neg (by omega),if_neg (by omega)]
theorem zmade_b1 {d:Bool} {n:Nat} (h:d=false):decide (sgn d n < 0)=false:=by subst h; simp [sgn]
theorem zmade_b2 {d:Bool} {n:Nat} (h:decide (((canon n).length:Int)≤0)=true):decide (sgn d n < 0)=false:=by
  have h1:=of_decide_eq_true h
  have h2:n=0:=canon_nil.1 (List.eq_nil_of_length_eq_zero (by omega))
  rw [h2,sgn_zero]; rfl
theorem zmade_b3 {d:Bool} {n:Nat} (hd:d=true) (h:decide (((canon n).length:Int)≤0)=false):decide (sgn d n < 0)=true:=by
  have h1:=of_decide_eq_false h
  rcases Nat.eq_zero_or_pos n with h2|h2
  · rw [h2,canon_zero] at h1; simp at h1
  · rw [sgn_neg h2,hd]
def rMayB (a:Nm):Bool:=if decide (a.k=0) then !decide (a.n < -9007199254740991) && decide (a.n≤9007199254740991) else !decide (a.k < 1) && decide (a.k≤4) && decide (a.n=0)
theorem rMay_eq (a:Nm):rMayB a=nmayB a:=by
  obtain⟨k,n⟩:=a
  unfold rMayB nmayB
  by_cases h0:k=0
  · simp [h0]
  · by_cases hk:k=1 ∨ k=2 ∨ k=3 ∨ k=4
    · rcases hk with rfl|rfl|rfl|rfl <;> simp
    · have h1:¬ k=1:=by omega
      have h2:¬ k=2:=by omega
      have h3:¬ k=3:=by omega
      have h4:¬ k=4:=by omega
      by_cases hlt:k < 1
      · simp [h0,h1,h2,h3,h4,hlt]
      · have:¬ k≤4:=by omega
        simp [h0,h1,h2,h3,h4,hlt,this]
def signedR (big neg:Bool):Nm:=if big && neg then ⟨4,0⟩ else if big then ⟨3,0⟩ else if neg then ⟨1,0⟩ else ⟨0,0⟩
def rNegM (a:Nm):Nm:=if decide ((asM a).k=2) then asM a else if infB (asM a).k || noughtB (asM a) then signedR (infB (asM a).k) (!belowB (asM a)) else ⟨0,-(asM a).n⟩
theorem rNeg_eq (a:Nm):rNegM a=negM a:=by
  unfold rNegM negM negA
  rcases as_cases a with ⟨n,h,h1,h2⟩|h|h|h|h <;> rw [h]
  · by_cases hn:n=0
    · subst hn; decide
    · simp [infB,noughtB,hn]
  all_goals decide
def mayR (v:Vl):Bool :=
  if decide (v.k=0) || decide (v.k=1) then sameV v ⟨v.k,0,0,false,[],[],0⟩
  else if decide (v.k=2) then (if !decide (v.ref=0) && !decide (v.ref=1) then false else sameV v ⟨v.k,0,0,false,[],[],v.ref⟩)
  else if decide (v.k=3) then (if nmayB v.num then sameV v ⟨v.k,v.nk,v.nn,false,[],[],0⟩ else false)
  else if decide (v.k=4) then (if mayB v.neg v.mag then sameV v ⟨v.k,0,0,v.neg,v.mag,[],0⟩ else false)
  else if decide (v.k=5) then (if decide ((v.s.length:Int)≤4096) then sameV v ⟨v.k,0,0,false,[],v.s,0⟩ else false)
  else if decide (v.k=6) then (if decide (v.ref < 0) then false else sameV v ⟨v.k,0,0,false,[],[],v.ref⟩)
  else false
theorem len0 (l:List Nat):decide ((l.length:Int)=0)=decide (l=[]):=by cases l <;> simp; omega
theorem mayR_eq (v:Vl):mayR v=mayV v:=by
  unfold mayR mayV
  simp only [sameV,zeroV,len0,Vl.num]
  repeat' split
  all_goals first|rfl|skip
  all_goals (generalize decide (v.mag=[])=x1; generalize decide (v.s=[])=x2; simp_all)
  all_goals first|rfl|(cases v.neg <;> simp_all; intros; omega)|(cases v.neg <;> simp_all)|skip
theorem tr_up {u:List Nat} {i:Nat} (h:i < u.length) (hb:blankN (u.getD i 0)=true):(u.drop (i + 1)).dropWhile blankN=(u.drop i).dropWhile blankN:=by
  rw [drop_at h,List.dropWhile_cons,if_pos (by simpa using hb)]
theorem tr_mid {u:List Nat} {i:Nat} (hcd:(u.drop i).dropWhile blankN=u.dropWhile blankN) (h:u.length≤i ∨ (i < u.length∧blankN (u.getD i 0)=false)):rtrimN (u.drop i)=trimN u:=by
  unfold trimN
  rw [← hcd]
  rcases h with h|⟨h0,h⟩
  · rw [List.drop_eq_nil_of_le h]; rfl
  · rw [drop_at h0,List.dropWhile_cons,if_neg (by simpa using h)]
theorem tr_len {u:List Nat} {i j:Nat} (h2:j≤u.length):((u.take j).drop i).length=j - i:=by
  rw [List.length_drop,List.length_take,Nat.min_eq_left h2]
theorem tr_last {u:List Nat} {i j:Nat} (h:i < j) (h2:j≤u.length):((u.take j).drop i).getD (((u.take j).drop i).length - 1) 0=u.getD (j - 1) 0:=by
  rw [tr_len h2,List.getD_eq_getElem?_getD,List.getD_eq_getElem?_getD,List.getElem?_drop,List.getElem?_take,if_pos (by omega),show i + (j - i - 1)=j - 1 by omega]
theorem tr_dn {u:List Nat} {i j:Nat} (h:i < j) (h2:j≤u.length) (hb:blankN (u.getD ((j:Int) - 1).toNat 0)=true):rtrimN ((u.take (j - 1)).drop i)=rtrimN ((u.take j).drop i):=by
  rw [show ((j:Int) - 1).toNat=j - 1 by omega] at hb
  rw [← rt_step (l:=(u.take j).drop i) (by rw [tr_len h2]; omega) (by rw [tr_last h h2]; exact hb),tr_len h2]
  congr 1
  rw [List.take_drop,List.take_take]
  congr 2
  omega
theorem tr_end {u:List Nat} {i j:Nat} (h2:j≤u.length) (hc:rtrimN ((u.take j).drop i)=trimN u) (h:j≤i ∨ (i < j∧blankN (u.getD ((j:Int) - 1).toNat 0)=false)):(u.take j).drop i=trimN u:=by
  rw [← hc]
  refine (rt_end ?_).symm
  rcases h with h|⟨h0,h⟩
  · exact .inl (by rw [tr_len h2]; omega)
  · rw [show ((j:Int) - 1).toNat=j - 1 by omega] at h
    exact .inr ⟨by rw [tr_len h2]; omega,by rw [tr_last h0 h2]; exact h⟩
theorem any_false {p:Nat→Bool} {l:List Nat} (h:∀ j,j < l.length→p (l.getD j 0)=false):l.any p=false:=by
  rw [← idxF_any,idxF_none p l h]; rfl
theorem any_true {p:Nat→Bool} {l:List Nat} {i:Nat} (hi:i < l.length) (h:p (l.getD i 0)=true):l.any p=true:=by
  rw [List.getD_eq_getElem?_getD,List.getElem?_eq_getElem hi] at h
  exact List.any_eq_true.2 ⟨_,List.getElem_mem hi,h⟩
def digitsT (u:List Nat):Bool:=!decide ((u.length:Int)≤0) && !(u.any fun y:Nat=>!dgtN y)
theorem digs_of2 {u:List Nat} (h:digitsT u=true):∀ j,j < u.length→48≤u.getD j 0∧u.getD j 0≤57:=by
  unfold digitsT at h
  simp only [Bool.and_eq_true,Bool.not_eq_true'] at h
  exact digs_of h.2
def wholeR:List Nat→Int→Int
  | [],n=>n
  | x :: l,n=>if decide (10 * n + ((x:Int) - 48)≤9007199254740991) then wholeR l (10 * n + ((x:Int) - 48)) else -1
theorem whole_val:∀ (l:List Nat) (n:Int),(∀ j,j < l.length→48≤l.getD j 0∧l.getD j 0≤57)→0≤n→n≤9007199254740991 →
    (decide (wholeR l n < 0)=!(valR l n).2)∧((valR l n).2=true→(valR l n).1=wholeR l n)
  | [],n,_,h0,h1=>by
    refine ⟨?_,fun _=>rfl⟩
    show decide (n < 0)=!decide (n≤9007199254740991)
    rw [decide_eq_false (by omega),decide_eq_true h1]; rfl
  | x :: l,n,hd,h0,h1=>by
    have hx:=hd 0 (by simp)
    have hx':48≤x∧x≤57:=hx
    have hd2:∀ j,j < l.length→48≤l.getD j 0∧l.getD j 0≤57:=fun j hj=>by
      have:=hd (j + 1) (by simp; omega)
      simpa using this
    rw [wholeR,valR]
    by_cases h2:n≤900719925474099
    · rw [if_pos (decide_eq_true h2)]
      by_cases h3:10 * n + ((x:Int) - 48)≤9007199254740991
      · rw [if_pos (decide_eq_true h3)]
        exact whole_val l _ hd2 (by omega) h3
      · rw [if_neg (by simpa using h3)]
        have h4:(valR l (10 * n + ((x:Int) - 48))).2=false:=by
          cases l with
          | nil=>simp [valR]; omega
          | cons y l=>rw [valR,if_neg (by simp; omega)]
        rw [h4]
        exact⟨by decide,fun h=>by cases h⟩
    · rw [if_neg (show ¬ (decide (n≤900719925474099)=true) by simpa using h2),if_neg (show ¬ (decide (10 * n + ((x:Int) - 48)≤9007199254740991)=true) by simp; omega)]
      exact⟨by decide,fun h=>by cases h⟩
def hasN (s:ByteArray) (j:Nat) (x:Nat):Bool:=(ascT s j).any fun y=>decide ((x:Int)=(y:Int))
theorem has0 (s:ByteArray) (x:Nat):hasN s 0 x=false:=by unfold hasN; rw [asc0]; rfl
theorem has_up {s:ByteArray} {j x:Nat} (h:j < s.size):hasN s (j + 1) x=(hasN s j x || decide ((x:Int)=((bAt s j:Nat):Int))):=by
  unfold hasN
  rw [← asc_up h,List.any_append]; simp
def okbN (x:Nat):Bool:=dgtN x || (!decide ((x:Int) < 97) && decide ((x:Int)≤102)) || (!decide ((x:Int) < 65) && decide ((x:Int)≤70))
def okS (s:ByteArray) (x:Nat):Bool:=okbN x || (asc s).any fun y=>decide ((x:Int)=(y:Int))
theorem has_end {s:ByteArray} {j x:Nat} (h:s.size≤j):(okbN x || hasN s j x)=okS s x:=by unfold okS hasN; rw [asc_end h]
def numericN (s:ByteArray) (u:List Nat):Bool:=u.all (okS s) && u.any dgtN
theorem okS_eq (x:Nat):okS ⟨#[120,88,111,79,46,43,45,95]⟩ x=okcN x:=by
  unfold okS okcN okbN
  cases dgtN x
  · cases (!decide ((x:Int) < 97) && decide ((x:Int)≤102))
    · cases (!decide ((x:Int) < 65) && decide ((x:Int)≤70)) <;> rfl
    · rfl
  · rfl
theorem numeric_eq (u:List Nat):numericN ⟨#[120,88,111,79,46,43,45,95]⟩ u=strangeN u:=by
  unfold numericN strangeN
  rw [show okS ⟨#[120,88,111,79,46,43,45,95]⟩=okcN from funext okS_eq]
abbrev infT:List Nat:=asc ⟨#[73,110,102,105,110,105,116,121]⟩
def bodyR (t d:List Nat) (neg:Bool):Nm × Bool :=
  if decide (d=infT) then (if neg then negM ⟨3,0⟩ else ⟨3,0⟩,true)
  else if digitsT d then (if decide (wholeR d 0 < 0) then (⟨2,0⟩,false) else (if neg then negM ⟨0,wholeR d 0⟩ else ⟨0,wholeR d 0⟩,true))
  else (⟨2,0⟩,!numericN ⟨#[120,88,111,79,46,43,45,95]⟩ t)
def numR (u:List Nat):Nm × Bool :=
  if decide (((trimN u).length:Int)=0) then (⟨0,0⟩,true)
  else if decide ((((trimN u).getD 0 0:Nat):Int)=45) then bodyR (trimN u) ((trimN u).drop 1) true
  else if decide ((((trimN u).getD 0 0:Nat):Int)=43) then bodyR (trimN u) ((trimN u).drop 1) false
  else bodyR (trimN u) (trimN u) false
theorem body_eq {t d:List Nat} {neg:Bool} (h:∃ p,t=p ++ d):bodyR t d neg=bodyT t d neg:=by
  unfold bodyR bodyT
  by_cases h1:d=infT
  · rw [if_pos (decide_eq_true h1),if_pos (decide_eq_true h1)]
    have h2:strangeN t=false:=by
      obtain⟨p,rfl⟩:=h
      unfold strangeN
      rw [h1,List.all_append,show (infT.all okcN)=false by decide,Bool.and_false,Bool.false_and]
    rw [h2]; rfl
  · rw [if_neg (show ¬ (decide (d=infT)=true) by simpa using h1),if_neg (show ¬ (decide (d=infT)=true) by simpa using h1),show (!decide ((d.length:Int)≤0) && !(d.any fun y:Nat=>!dgtN y))=digitsT d from rfl]
    by_cases h2:digitsT d=true
    · rw [if_pos h2,if_pos h2]
      have h3:=whole_val d 0 (digs_of2 h2) (by decide) (by decide)
      rw [h3.1]
      cases h4:(valR d 0).2 with
      | true=>rw [if_neg (by decide),if_pos rfl,h3.2 h4]
      | false=>rw [if_pos (by decide),if_neg (by decide)]
    · rw [if_neg h2,if_neg h2,numeric_eq]
      cases neg
      · rfl
      · rw [if_pos rfl,show negM ⟨2,0⟩=⟨2,0⟩ by decide]
theorem numR_eq (u:List Nat):numR u=numT u:=by
  unfold numR numT
  by_cases h0:((trimN u).length:Int)=0
  · rw [if_pos (decide_eq_true h0),if_pos (decide_eq_true h0)]
  · have h1:=drop_at (l:=trimN u) (i:=0) (by omega)
    rw [List.drop_zero] at h1
    have h2:∃ p,trimN u=p ++ (trimN u).drop 1:=⟨(trimN u).take 1,(List.take_append_drop 1 _).symm⟩
    rw [body_eq h2,body_eq h2,body_eq (t:=trimN u) (d:=trimN u) ⟨[],rfl⟩]

theorem may_clean (v:Vl):mayV (cleanV v)=true:=by
  unfold cleanV
  split
  · assumption
  · decide
theorem clean_may {v:Vl} (h:mayV v=true):cleanV v=v:=by unfold cleanV; rw [if_pos h]
theorem clean_clean (v:Vl):cleanV (cleanV v)=cleanV v:=clean_may (may_clean v)
theorem may_1 {v:Vl} (h:mayV v=true) (hk:v.k=1):v.ref=0:=by
  unfold mayV at h
  rw [if_pos (by simp [hk])] at h
  unfold zeroV at h
  simp_all
theorem may_2 {v:Vl} (h:mayV v=true) (hk:v.k=2):v.ref=0 ∨ v.ref=1:=by
  unfold mayV at h
  rw [if_neg (by simp [hk]),if_pos (by simp [hk])] at h
  simp at h
  exact h.2
def numberR (v:Vl):Nm × Int :=
  if decide ((cleanV v).k=0) then (⟨2,0⟩,0)
  else if decide ((cleanV v).k=1) then (⟨0,0⟩,0)
  else if decide ((cleanV v).k=2) then (⟨0,(cleanV v).ref⟩,0)
  else if decide ((cleanV v).k=3) then ((cleanV v).num,0)
  else if decide ((cleanV v).k=4) then (⟨0,0⟩,1)
  else if decide ((cleanV v).k=5) then (if (numT (cleanV v).s).2 then ((numT (cleanV v).s).1,0) else (⟨0,0⟩,3))
  else (⟨0,0⟩,3)
theorem numberR_eq (v:Vl):numberR v=numberV v:=by
  unfold numberR numberV
  by_cases h1:(cleanV v).k=1
  · have h2:=may_1 (may_clean v) h1
    rw [h1,h2]; rfl
  · rw [decide_eq_false h1]
    simp
theorem elB:ElemT Tryz.prog 106 5 (.int .u8 0) 1 1:=⟨Tryz.underlying106,by kernel_rfl,rfl,by omega⟩
def numericV (v:Vl):Vl × Int :=
  if decide ((cleanV v).k=4) then (⟨4,0,0,(cleanV v).neg,(cleanV v).mag,[],0⟩,0)
  else if decide ((numberV (cleanV v)).2=0) then (⟨3,(numberV (cleanV v)).1.k,(numberV (cleanV v)).1.n,false,[],[],0⟩,0)
  else (Vl.z,(numberV (cleanV v)).2)
def plainT (u:List Nat):ByteArray × Bool:=if u.all (fun y:Nat=>decide ((y:Int)≤127)) then (strN u,true) else (⟨#[]⟩,false)
def itoaS (n:Int):ByteArray:=⟨(Lib.itoa n).toArray⟩
def textM (a:Nm):ByteArray:=if decide ((asM a).k=2) then ⟨#[78,97,78]⟩ else if decide ((asM a).k=3) then ⟨#[73,110,102,105,110,105,116,121]⟩ else if decide ((asM a).k=4) then ⟨#[45,73,110,102,105,110,105,116,121]⟩ else itoaS (asM a).n
/-- digits without the noughts ahead -/
def stripN:List Nat→List Nat
  | x :: y :: l=>if decide ((x:Int)=48) then stripN (y :: l) else x :: y :: l
  | l=>l
theorem strip_step {l:List Nat} (h:1 < l.length) (h1:decide (((l.getD 0 0:Nat):Int)=48)=true):stripN (l.drop 1)=stripN l:=by
  match l,h with
  | x :: y :: l,_ =>
    have h2:decide ((x:Int)=48)=true:=by simpa using h1
    show stripN (y :: l)=stripN (x :: y :: l)
    rw [show stripN (x :: y :: l)=if decide ((x:Int)=48) then stripN (y :: l) else x :: y :: l from rfl,if_pos h2]
theorem strip_end {l:List Nat} (h:l.length≤1 ∨ decide (((l.getD 0 0:Nat):Int)=48)=false):stripN l=l:=by
  match l,h with
  | [],_=>rfl
  | [x],_=>rfl
  | x :: y :: l,h =>
    rcases h with h|h
    · simp at h
    · have h2:¬ (decide ((x:Int)=48)=true):=by
        intro h3
        have h4:decide ((x:Int)=48)=false:=by simpa using h
        rw [h4] at h3; cases h3
      rw [show stripN (x :: y :: l)=if decide ((x:Int)=48) then stripN (y :: l) else x :: y :: l from rfl,if_neg h2]
def parsedB (t d:List Nat) (neg:Bool):Int × Int :=
  if digitsT d then (if decide ((parseZ (plainT (stripN d)).1.data.toList).2=0) then (if neg then -(parseZ (plainT (stripN d)).1.data.toList).1 else (parseZ (plainT (stripN d)).1.data.toList).1,0) else (0,3))
  else if numericN ⟨#[120,88,111,79]⟩ t then (0,3) else (0,5)
def parsedZ (u:List Nat):Int × Int :=
  if decide (((trimN u).length:Int)=0) then (0,0)
  else if decide ((((trimN u).getD 0 0:Nat):Int)=45) then parsedB (trimN u) ((trimN u).drop 1) true
  else if decide ((((trimN u).getD 0 0:Nat):Int)=43) then parsedB (trimN u) ((trimN u).drop 1) false
  else parsedB (trimN u) (trimN u) false
def bigintV (v:Vl):Bool × List Nat × Int :=
  if decide ((cleanV v).k=2) then (decide ((cleanV v).ref < 0),canon (cleanV v).ref.natAbs,0)
  else if decide ((cleanV v).k=4) then ((cleanV v).neg,(cleanV v).mag,0)
  else if decide ((cleanV v).k=5) then (decide ((parsedZ (cleanV v).s).1 < 0),canon (parsedZ (cleanV v).s).1.natAbs,(parsedZ (cleanV v).s).2)
  else if decide ((cleanV v).k=6) then (false,[],3)
  else (false,[],1)
def textV (v:Vl):List Nat × Int :=
  if decide ((cleanV v).k=0) then (asc ⟨#[117,110,100,101,102,105,110,101,100]⟩,0)
  else if decide ((cleanV v).k=1) then (asc ⟨#[110,117,108,108]⟩,0)
  else if decide ((cleanV v).k=2) then (if decide ((cleanV v).ref=1) then asc ⟨#[116,114,117,101]⟩ else asc ⟨#[102,97,108,115,101]⟩,0)
  else if decide ((cleanV v).k=3) then (asc (textM (cleanV v).num),0)
  else if decide ((cleanV v).k=4) then (asc (strOfNums (textI (goodI (cleanV v).neg (cleanV v).mag))),0)
  else if decide ((cleanV v).k=5) then ((cleanV v).s,0)
  else ([],3)
theorem parseZ_lt (l:List UInt8):(parseZ l).1.natAbs < 2 ^ 256:=by
  have hd:∀ b d,(parseD b d).1.natAbs < 2 ^ 256:=by
    intro b d
    unfold parseD
    split
    · split
      · exact zero_abs
      · rename_i h
        show (sgn b (decV d)).natAbs < 2 ^ 256
        rw [natAbs_sgn]; omega
    · exact zero_abs
  unfold parseZ
  split
  · split
    · exact zero_abs
    · exact hd _ _
  · exact hd _ _
theorem good_parse (l:List UInt8):goodI (decide ((parseZ l).1 < 0)) (canon (parseZ l).1.natAbs)=(parseZ l).1:=good_canon (parseZ_lt l)
theorem itoaS_size {n:Int} (h0:-9223372036854775808≤n) (h1:n≤9223372036854775807):(itoaS n).size≤21:=by
  have:=Lib.itoa_length_le n h0 h1
  unfold itoaS
  simpa [ByteArray.size] using this
theorem textM_size (a:Nm):(textM a).size≤21:=by
  have h:=as_bd a
  unfold textM
  split
  · decide
  · split
    · decide
    · split
      · decide
      · exact itoaS_size (by omega) (by omega)
theorem textI_size {b:Bool} {m:List Nat} (h:Limbs m):(strOfNums (textI (goodI b m))).size≤79:=by
  have h1:=digs_big (good_lt (b:=b) h)
  rw [← len_data,textU_eq]
  split
  · simp
  · have h2:(lettersU (goodI b m).natAbs).length=(digs (goodI b m).natAbs).length:=by simp [lettersU]
    split <;> simp [h2] <;> omega
theorem strip_len (l:List Nat):(stripN l).length≤l.length:=by
  induction l with
  | nil=>exact Nat.le_refl _
  | cons x l ih =>
    cases l with
    | nil=>exact Nat.le_refl _
    | cons y l =>
      rw [show stripN (x :: y :: l)=if decide ((x:Int)=48) then stripN (y :: l) else x :: y :: l from rfl]
      split
      · simp only [List.length_cons] at ih ⊢; omega
      · exact Nat.le_refl _
theorem plainT_size (u:List Nat):(plainT u).1.size≤u.length:=by
  unfold plainT
  split
  · rw [strN_size]; exact Nat.le_refl _
  · exact Nat.zero_le _
/-- what may be: its kind and what is nought -/
theorem may_num {v:Vl} (h:mayV v=true) (hk:v.k=3):nmayB v.num=true∧v=⟨3,v.nk,v.nn,false,[],[],0⟩:=by
  unfold mayV zeroV at h
  obtain⟨k,nk,nn,neg,mag,s,ref⟩:=v
  simp only at hk
  subst hk
  simp at h
  obtain⟨⟨⟨⟨rfl,h1⟩,h2⟩,rfl⟩,h3⟩:=h
  subst h1 h2
  exact⟨h3,rfl⟩
theorem letter_nat2 (d:Nat):(letter d).toNat=48 + d:=by unfold letter; exact Int.toNat_natCast _
theorem digs_dec {u:Nat} (h:0 < u):((digs u).map fun d=>UInt8.ofNat (letter d).toNat).reverse=Lib.decDigits u:=by
  induction u using Nat.strongRecOn with
  | ind u ih =>
    rw [Lib.decDigits,digs_pos h]
    by_cases h10:u < 10
    · rw [dif_pos h10,Nat.div_eq_of_lt h10,digs_zero,Nat.mod_eq_of_lt h10]; simp only [List.map_cons,List.map_nil,List.reverse_cons,List.reverse_nil,List.nil_append,letter_nat2]
    · rw [dif_neg h10,← ih (u / 10) (by omega) (by omega)]; simp only [List.map_cons,List.reverse_cons,letter_nat2]
theorem textI_itoa (n:Int):strOfNums (textI n)=itoaS n:=by
  unfold strOfNums itoaS textI Lib.itoa
  congr 2
  by_cases hz:n=0
  · subst hz; rw [if_pos rfl,if_neg (by omega),Lib.decDigits]; rfl
  · rw [if_neg hz]
    by_cases hn:n < 0
    · rw [if_pos hn,if_pos hn,← digs_dec (u:=n.natAbs) (by omega)]; simp
    · rw [if_neg hn,if_neg hn,show n.toNat=n.natAbs by omega,← digs_dec (u:=n.natAbs) (by omega)]; simp
theorem may_big {v:Vl} (h:mayV v=true) (hk:v.k=4):mayB v.neg v.mag=true∧v=⟨4,0,0,v.neg,v.mag,[],0⟩:=by
  unfold mayV zeroV at h
  obtain⟨k,nk,nn,neg,mag,s,ref⟩:=v
  simp only at hk
  subst hk
  simp at h
  obtain⟨⟨⟨⟨h1,h2⟩,rfl⟩,rfl⟩,h3⟩:=h
  subst h1 h2
  exact⟨h3,rfl⟩
theorem SOwn.cut {w:World} {b:Nat} {e:TypeId} {k:IntKind} {A:Option Addr} {xs:List Nat} {c n:Nat} (h:SOwn w b e k A xs c) (hn:n≤xs.length):SOwn w b e k A (xs.take n) c:=by
  have hl:(xs.take n).length=n:=by rw [List.length_take,Nat.min_eq_left hn]
  rcases h with h|⟨h0,h1,A',h2⟩
  · left
    refine ⟨by simp [enc],?_⟩
    rcases h.2 with ⟨h3,h4⟩|⟨g,cap,cur,h3,h4,h5,h6,h7,h8,h9⟩
    · have hx:xs=[]:=List.eq_nil_of_length_eq_zero h4
      subst hx
      rw [List.take_nil]
      exact .inl ⟨h3,rfl⟩
    · right
      injection h3 with a1 a2 a3
      refine ⟨g,cap,cur,?_,h4,h5,by rw [hl]; omega,h7,h8,?_⟩
      · show Value.slice A (xs.take n).length c=_
        rw [a1,a3]
      · rw [hl,Nat.mul_one,show enc k (xs.take n)=(enc k xs).take n from by simp [enc,List.map_take],← h9,List.take_take,Nat.mul_one,Nat.min_eq_left hn]
  · have hx:xs=[]:=List.eq_nil_of_length_eq_zero h0
    subst hx
    rw [List.take_nil]
    exact .inr ⟨h0,h1,A',h2⟩
def encW (m:List Nat):List Value:=m.map fun x:Nat=>.int .u32 (x:Int)
theorem encW_one (m:List Nat):∀ u∈encW m,u.oneCell'=true:=by
  intro u hu
  obtain⟨x,_,rfl⟩:=List.mem_map.1 hu
  rfl
theorem encW_app (a b:List Nat):encW (a ++ b)=encW a ++ encW b:=by simp [encW]
theorem encW_take (a:List Nat) (k:Nat):encW (a.take k)=(encW a).take k:=by simp [encW]
theorem encW_set (a:List Nat) (k x:Nat):encW (a.set k x)=(encW a).set k (.int .u32 (x:Int)):=by simp [encW]
theorem encW_get (a:List Nat) (k:Nat) (h:k < a.length):(encW a)[k]?=some (.int .u32 ((a.getD k 0:Nat):Int)):=by simp [encW,List.getD,h]
theorem rowW {w:World} {A:Option Addr} {n c:Nat} {m:List Nat} (h:RowAt w 1 (.slice A n c) n (encW m)) {k:Nat} (hk:k < n) :
    ∃ b off,A=some ⟨b,off,none⟩∧n≤c∧c≤maxLen∧b < w.heap.size∧w.cell? ⟨b,off + k,none⟩=some (.int .u32 ((m.getD k 0:Nat):Int)):=by
  rcases h.2 with ⟨h0,_⟩|⟨b,off,c',hv,hc,hm,hb,hx⟩
  · omega
  · injection hv with hA _ hc'
    subst hA hc'
    have hl:m.length=n:=by simpa [encW] using h.1
    exact⟨b,off,rfl,hc,hm,hb,hx k _ (encW_get m k (by omega))⟩
theorem row_max {w:World} {size n:Nat} {v:Value} {xs:List Value} (h:RowAt w size v n xs):(n:Int)≤9223372036854775807:=by
  rcases h.2 with ⟨h0,_⟩|⟨_,_,c',_,hc,hm,_⟩
  · omega
  · unfold maxLen at hm; omega
/-- A shorter piece of a row reads as the piece. -/
theorem RowAt.cut {w:World} {A:Option Addr} {n c:Nat} {m:List Nat} (h:RowAt w 1 (.slice A n c) n (encW m)) {k:Nat} (hk:k≤n):RowAt w 1 (.slice A k c) k (encW (m.take k)):=by
  have hl:m.length=n:=by simpa [encW] using h.1
  refine ⟨by simp [encW]; omega,?_⟩
  rcases h.2 with ⟨rfl,_⟩|⟨b,off,c',hv,hc,hm,hb,hx⟩
  · exact .inl ⟨by omega,A,c,by rw [show k=0 by omega]⟩
  · injection hv with hA _ hc'
    subst hA hc'
    refine .inr ⟨b,off,c,rfl,by omega,hm,hb,fun j u hj=>hx j u ?_⟩
    simp only [encW,List.map_take,List.getElem?_take] at hj ⊢
    split at hj
    · exact hj
    · cases hj
set_option maxHeartbeats 400000 in
theorem cloneW (v:Value) (n:Nat) (xs:List Value) (w:World) (hr:RowAt w 1 v n xs) (h1:∀ u∈xs,u.oneCell'=true) (hb:n * 4≤140737488355328) :
    Calls Tryz.prog 77 #[v] w fun e w'=>∃ v',e=.returned v'∧Own w' w.heap.size 59 1 v' n xs∧New w w':=by
  have hm:n≤maxLen:=by unfold maxLen; omega
  obtain⟨A,c,rfl⟩:=hr.form
  cases A with
  | none =>
    obtain⟨rfl,rfl⟩:n=0∧xs=[]:=by
      rcases hr.2 with ⟨h0,_⟩|⟨b,off,c',hv,_⟩
      · exact⟨h0,List.eq_nil_of_length_eq_zero (by rw [hr.1,h0])⟩
      · cases hv
    have hE:∀ W:World,(binOp .eql 24 (.slice none 0 c) (.slice none 0 0)).run Tryz.prog W=.ok (.bool true) W:=fun W=>Lib.run_eql_slice_nil W _ _ _ _ _ _ _ Tryz.underlying24
    go_enter Tryz.func77,Tryz.ntmps77
    go_wp2
    go_ret
    exact⟨_,rfl,Own.nil_ _ _ _ _,Upd.refl _ _⟩
  | some a =>
    have hE:∀ W:World,(binOp .eql 24 (.slice (some a) n c) (.slice none 0 0)).run Tryz.prog W=.ok (.bool false) W:=fun W=>Lib.run_eql_slice_nil W _ _ _ _ _ _ _ Tryz.underlying24
    have hr1:RowAt (w.alloc (.cells #[] 59)) 1 (.slice (some a) n c) n xs:=hr.new_ ((Upd.refl _ _).alloc _)
    have ho:Own (w.alloc (.cells #[] 59)) w.heap.size 59 1 (.slice (some ⟨w.heap.size,0,none⟩) 0 0) 0 []:=.inr ⟨rfl,rfl,_,rfl⟩
    go_enter Tryz.func77,Tryz.ntmps77
    go_wp2_with (at_builtin; refine wpList_append_row _ rfl (.tmp 5) (.tmp 6) elW rfl w.heap.size (.slice (some ⟨w.heap.size,0,none⟩) 0 0) 0 [] rfl ho _ n xs rfl hr1 h1 (by rw [Nat.zero_add]; exact hb) (by rw [Nat.zero_add]; exact hm) (by simp) ?_; intro v' w' hown hg hat)
    go_ret
    refine ⟨v',rfl,by simpa using hown,(((Upd.refl _ _).alloc _).grown hg (fun k hk=>by simp [ownB] at hk))⟩
def IsMay (b:Bool) (m:List Nat) (w:World) (e:Ending) (w':World):Prop:=e=.returned (.bool (mayB b m))∧New w w'
theorem may_any (b:Bool) (v:Value) (m:List Nat) (w:World) (hr:RowAt w 1 v m.length (encW m)) :
    Calls Tryz.prog 109 #[.agg #[.bool b,v]] w (IsMay b m w):=by
  obtain⟨A,c,rfl⟩:=hr.form
  have hmax:=row_max hr
  by_cases h8:m.length≤8
  · rcases Nat.eq_zero_or_pos m.length with h0|h0
    · have hb:mayB b m=!b:=by simp [mayB,h0]
      rw [h0] at hr ⊢
      have Hb:=hide hb
      clear hb hr hmax h0 h8
      cases b
      all_goals
        go_enter Tryz.func109,Tryz.ntmps109
        go_wp2
        go_ret
        exact⟨by rw [Hb.out]; rfl,(Upd.refl _ _).alloc _⟩
    · obtain⟨b1,off,rfl,hc,hm,hb1,hcell⟩:=rowW hr (k:=m.length - 1) (by omega)
      have hb:mayB b m=decide (m.getD (m.length - 1) 0 ≠ 0):=by
        have:m.length ≠ 0:=by omega
        simp [mayB,h8,h0,this]
      obtain⟨x,hx⟩:∃ x,x=m.getD (m.length - 1) 0:=⟨_,rfl⟩
      rw [← hx] at hcell hb
      have hcell1:(w.alloc (.cells #[.bool b,.slice (some ⟨b1,off,none⟩) m.length c] 26)).cell? ⟨b1,off + (m.length - 1),none⟩=some (.int .u32 (x:Int)):=(((Upd.refl (fun _=>False) w).alloc _).cellN (p:=⟨b1,off + (m.length - 1),none⟩) hb1).trans hcell
      obtain⟨n,hn⟩:∃ n,n=m.length:=⟨_,rfl⟩
      rw [← hn] at hcell1 hc h8 h0 hmax ⊢
      have hz:((n:Int) == 0)=false:=by simp; omega
      have Hb:=hide hb
      clear hb hr hx hcell hn hm
      go_enter Tryz.func109,Tryz.ntmps109
      go_wp2
      go_ret
      refine ⟨?_,(Upd.refl _ _).alloc _⟩
      rw [Hb.out]
      by_cases h:x=0 <;> simp [h]
  · have hb:mayB b m=false:=by simp [mayB]; omega
    have Hb:=hide hb
    clear hb hr
    go_enter Tryz.func109,Tryz.ntmps109
    go_wp2
    go_ret
    exact⟨by rw [Hb.out]; rfl,(Upd.refl _ _).alloc _⟩
def lenOf:Value→Nat
  | .slice _ n _=>n
  | _=>0
def IsTrim (A:Option Addr) (c:Nat) (m:List Nat) (w:World) (e:Ending) (w':World):Prop:=e=.returned (.slice A (canon (val m)).length c)∧w=w'
set_option maxHeartbeats 800000 in
theorem trim_any (A:Option Addr) (n c:Nat) (m:List Nat) (w:World) (hr:RowAt w 1 (.slice A n c) n (encW m)) (hl:Limbs m) :
    Calls Tryz.prog 93 #[.slice A n c] w (IsTrim A c m w):=by
  have hn:m.length=n:=by simpa [encW] using hr.1
  have hmax:=row_max hr
  have Hr:=hide (And.intro hr (And.intro hl hn))
  clear hr hl hn
  go_enter Tryz.func93,Tryz.ntmps93
  go_wp2
  go_loop [0] (fun v=>∃ k:Nat,k≤n∧v=.slice A k c∧Hid (val (m.take k)=val m)) (fun v=>lenOf v)
  case atStart=>exact⟨n,Nat.le_refl _,rfl,by show _=_; rw [List.take_of_length_le (by rw [Hr.out.2.2]; exact Nat.le_refl _)]⟩
  case round =>
    obtain⟨k,hk,rfl,hv⟩:=hrel
    have hend:(m.take k=[] ∨ 0 < (m.take k).getD (k - 1) 0)→(canon (val m)).length=k:=by
      intro ht
      have hlk:(m.take k).length=k:=by rw [List.length_take,Hr.out.2.2]; omega
      have h1:m.take k=canon (val (m.take k)):=canon_val (Hr.out.2.1.take k) (by
        rcases ht with ht|ht
        · exact .inl ht
        · exact .inr (by rw [hlk]; exact ht))
      have h2:val (m.take k)=val m:=hv
      rw [← h2,← h1,hlk]
    have Hend:=hide hend
    clear hend
    rcases Nat.eq_zero_or_pos k with rfl|hk0
    · go_wp2
      go_ret
      refine ⟨?_,rfl⟩
      rw [Hend.out (.inl (by simp))]
      rfl
    · obtain⟨b,off,rfl,hc,hm,hb,hcell⟩:=rowW Hr.out.1 (k:=k - 1) (by omega)
      obtain⟨x,hx⟩:∃ x,x=m.getD (k - 1) 0:=⟨_,rfl⟩
      rw [← hx] at hcell
      have Hx:=hide hx
      have hcm:(c:Int)≤9223372036854775807:=by unfold maxLen at hm; omega
      have hkc:k≤c:=by omega
      clear hx hm
      have hd:(m.take k).getD (k - 1) 0=m.getD (k - 1) 0:=by simp [List.getD,show k - 1 < k by omega]
      have Hd:=hide hd
      clear hd
      by_cases h0:x=0
      · subst h0
        go_wp2
        go_round
        case rel =>
          refine ⟨k - 1,by omega,?_,?_⟩
          · rfl
          · show val (m.take (k - 1))=val m
            have h1:=val_take m (k - 1)
            rw [show k - 1 + 1=k by omega,← Hx.out,Nat.mul_zero,Nat.add_zero] at h1
            rw [← h1]
            exact hv
        case measure=>simp [lenOf]; omega
      · have h0':((x:Int) == 0)=false:=by simp; omega
        clear h0
        go_wp2
        go_ret
        refine ⟨?_,rfl⟩
        rw [Hend.out (.inr (by rw [Hd.out,← Hx.out]; simp at h0'; omega))]
        rfl
/-- A value that is a number that came in,worth z. -/
def BigAt (w:World) (x:Value) (z:Int):Prop:=∃ b v m,x=.agg #[.bool b,v]∧RowAt w 1 v m.length (encW m)∧Limbs m∧goodI b m=z
/-- A value that is just z's number. -/
def CanAt (w:World) (x:Value) (z:Int):Prop:=∃ d v,x=.agg #[.bool d,v]∧d=decide (z < 0)∧RowAt w 1 v (canon z.natAbs).length (encW (canon z.natAbs))
/-- A row of limbs is no part of a number's own two cells. -/
theorem RowAt.store {w:World} {v:Value} {n:Nat} {m:List Nat} {q:Nat} {t:TypeId} {f0:Bool} {A0:Option Addr} {n0 c0:Nat} (h:RowAt w 1 v n (encW m)) (hb:Blk w q t [.bool f0,.slice A0 n0 c0]) (u u':Value) :
    RowAt ((w.setCell ⟨q,0,none⟩ u).setCell ⟨q,1,none⟩ u') 1 v n (encW m):=by
  have hu:Upd (fun b=>b=q) w ((w.setCell ⟨q,0,none⟩ u).setCell ⟨q,1,none⟩ u'):=((Upd.refl (fun b=>b=q) w).setCell (p:=⟨q,0,none⟩) (.inl rfl) u).setCell (p:=⟨q,1,none⟩) (.inl rfl) u'
  have hl:m.length=n:=by simpa [encW] using h.1
  refine ⟨h.1,?_⟩
  rcases h.2 with h0|⟨b,off,c,hv,hc,hm,hbs,hx⟩
  · exact .inl h0
  · rcases Nat.eq_zero_or_pos n with rfl|hn
    · exact .inl ⟨rfl,_,_,hv⟩
    · refine .inr ⟨b,off,c,hv,hc,hm,Nat.lt_of_lt_of_le hbs hu.size,fun j y hj=>(hu.cell (p:=⟨b,off + j,none⟩) hbs ?_).trans (hx j y hj)⟩
      rintro rfl
      have h0:=hx 0 _ (encW_get m 0 (by omega))
      have hc0:=hb.cell (off + 0)
      rw [hc0] at h0
      rcases off with _|_|off <;> simp at h0
theorem CanAt.store {w w2:World} {q:Nat} {t:TypeId} {f0:Bool} {A0:Option Addr} {n0 c0:Nat} {f:Bool} {A:Option Addr} {n c:Nat} {z:Int} (hcan:CanAt w2 (.agg #[.bool f,.slice A n c]) z) (hb:Blk w2 q t [.bool f0,.slice A0 n0 c0]) (hn:New w w2) (hq:w.heap.size≤q) :
    ∃ w3,w3=(w2.setCell ⟨q,0,none⟩ (.bool f)).setCell ⟨q,1,none⟩ (.slice A n c)∧CanAt w3 (.agg #[.bool f,.slice A n c]) z∧New w w3∧w3.cell? ⟨q,0,none⟩=some (.bool f)∧w3.cell? ⟨q,1,none⟩=some (.slice A n c) ∧
      ∀ g s cs,g ≠ q→Blk w2 g s cs→Blk w3 g s cs:=by
  have hu:Upd (fun b=>b=q) w2 ((w2.setCell ⟨q,0,none⟩ (.bool f)).setCell ⟨q,1,none⟩ (.slice A n c)):=((Upd.refl (fun b=>b=q) w2).setCell (p:=⟨q,0,none⟩) (.inl rfl) _).setCell (p:=⟨q,1,none⟩) (.inl rfl) _
  have hb3:=(hb.set_ 0 (.bool f)).set_ 1 (.slice A n c)
  refine ⟨_,rfl,?_,hn.trans hu fun i hi hiq=>by omega,hb3.cell 0,hb3.cell 1,fun g s cs hg hb=>(hb.far (p:=⟨q,0,none⟩) hg _).far (p:=⟨q,1,none⟩) hg _⟩
  obtain⟨d,v,hx,hd,hr⟩:=hcan
  exact⟨d,v,hx,hd,hr.store hb _ _⟩
theorem BigAt.new_ {w w':World} {x:Value} {z:Int} (h:BigAt w x z) (hu:New w w'):BigAt w' x z:=by
  obtain⟨b,v,m,hx,hr,hl,hg⟩:=h
  exact⟨b,v,m,hx,hr.new_ hu,hl,hg⟩
theorem CanAt.new_ {w w':World} {x:Value} {z:Int} (h:CanAt w x z) (hu:New w w'):CanAt w' x z:=by
  obtain⟨d,v,hx,hd,hr⟩:=h
  exact⟨d,v,hx,hd,hr.new_ hu⟩
theorem BigAt.lt {w:World} {x:Value} {z:Int} (h:BigAt w x z):z.natAbs < 2 ^ 256:=by
  obtain⟨b,v,m,hx,hr,hl,hg⟩:=h
  rw [← hg]
  exact good_lt hl
theorem CanAt.big {w:World} {x:Value} {z:Int} (h:CanAt w x z) (hz:z.natAbs < 2 ^ 256):BigAt w x z:=by
  obtain⟨d,v,hx,hd,hr⟩:=h
  subst hd
  refine ⟨_,v,_,hx,hr,limbs_canon _,?_⟩
  unfold goodI
  rw [if_pos (may_canon hz),val_canon]
  unfold sgn
  split
  · rename_i h; simp at h; omega
  · rename_i h; simp at h; omega
theorem CanAt.zero (w:World):CanAt w (.agg #[.bool false,.slice none 0 0]) 0:=⟨false,_,rfl,rfl,by
  rw [show (0:Int).natAbs=0 from rfl,canon_zero]
  exact⟨rfl,.inl ⟨rfl,none,0,rfl⟩⟩⟩
def IsMag (z:Int) (w:World) (e:Ending) (w':World):Prop:=∃ A n c,e=.returned (.slice A n c)∧n=(canon z.natAbs).length∧Own w' w.heap.size 59 1 (.slice A n c) n (encW (canon z.natAbs))∧New w w'
set_option maxHeartbeats 400000 in
theorem mag_any (x:Value) (z:Int) (w:World) (h:BigAt w x z):Calls Tryz.prog 92 #[x] w (IsMag z w):=by
  obtain⟨b,v,m,rfl,hr,hl,hg⟩:=h
  have hmg:=canon_good (b:=b) hl
  rw [hg] at hmg
  have hr1:=hr.new_ ((Upd.refl (fun _=>False) w).alloc (.cells #[.bool b,v] 26))
  have hn1:New w (w.alloc (.cells #[.bool b,v] 26)):=(Upd.refl _ _).alloc _
  obtain⟨A,c,rfl⟩:=hr.form
  have Hr:=hide (And.intro hr1 (And.intro hl (And.intro hg (And.intro hmg hn1))))
  clear hr hr1 hl hg hmg hn1
  cases hb:mayB b m
  · have Hb:=hide hb
    clear hb
    go_enter Tryz.func92,Tryz.ntmps92
    go_wp2_with fail
    refine (may_any b _ m _ Hr.out.1).mono ?_
    rintro e w1 ⟨rfl,hn⟩
    rw [Hb.out]
    go_wp2
    go_ret
    refine ⟨_,_,_,rfl,?_,?_,Hr.out.2.2.2.2.transNew hn⟩
    · rw [Hr.out.2.2.2.1,Hb.out]; rfl
    · rw [Hr.out.2.2.2.1,Hb.out]; exact Own.nil_ _ _ _ _
  · have Hb:=hide hb
    have h8:=(may_trim hb).2.1
    clear hb
    have hw1:∀ w1,New (w.alloc (.cells #[.bool b,.slice A m.length c] 26)) w1→w1.cell? ⟨w.heap.size,1,none⟩=some (.slice A m.length c):=fun w1 hn =>
      (hn.cellN (p:=⟨w.heap.size,1,none⟩) (by simp)).trans ((Blk.new w 26 [.bool b,.slice A m.length c]).cell 1)
    have Hw1:=hide hw1
    clear hw1
    go_enter Tryz.func92,Tryz.ntmps92
    go_wp2_with fail
    refine (may_any b _ m _ Hr.out.1).mono ?_
    rintro e w1 ⟨rfl,hn⟩
    rw [Hb.out]
    have hc:=Hw1.out w1 hn
    go_wp2_with fail
    refine (cloneW _ m.length (encW m) _ (Hr.out.1.new_ hn) (encW_one m) (by omega)).mono ?_
    rintro e w2 ⟨v2,rfl,ho2,hn2⟩
    obtain⟨A2,c2,rfl⟩:=ho2.row.form
    go_wp2
    go_ret
    have hm:canon z.natAbs=m:=by rw [Hr.out.2.2.2.1,Hb.out]; rfl
    refine ⟨_,_,_,rfl,by rw [hm],?_,(Hr.out.2.2.2.2.transNew hn).transNew hn2⟩
    rw [hm]
    exact ho2.more (Nat.le_trans (Nat.le_of_lt (by simp)) hn.size)
def IsNeg (z:Int) (w:World) (e:Ending) (w':World):Prop:=∃ d,e=.returned (.bool d)∧d=decide (z < 0)∧New w w'
set_option maxHeartbeats 400000 in
theorem neg_any (x:Value) (z:Int) (w:World) (h:BigAt w x z):Calls Tryz.prog 94 #[x] w (IsNeg z w):=by
  obtain⟨b,v,m,rfl,hr,hl,hg⟩:=h
  have hmg:=neg_good (b:=b) hl
  rw [hg] at hmg
  have hr1:=hr.new_ ((Upd.refl (fun _=>False) w).alloc (.cells #[.bool b,v] 26))
  have hn1:New w (w.alloc (.cells #[.bool b,v] 26)):=(Upd.refl _ _).alloc _
  have hw1:∀ w1,New (w.alloc (.cells #[.bool b,v] 26)) w1→w1.cell? ⟨w.heap.size,0,none⟩=some (.bool b):=fun w1 hn =>
    (hn.cellN (p:=⟨w.heap.size,0,none⟩) (by simp)).trans ((Blk.new w 26 [.bool b,v]).cell 0)
  have Hr:=hide (And.intro hr1 (And.intro hmg (And.intro hn1 hw1)))
  clear hr hr1 hl hg hmg hn1 hw1
  cases hb:mayB b m
  all_goals
    have Hb:=hide hb
    clear hb
    go_enter Tryz.func94,Tryz.ntmps94
    go_wp2_with fail
    refine (may_any b _ m _ Hr.out.1).mono ?_
    rintro e w1 ⟨rfl,hn⟩
    rw [Hb.out]
    have hc:=Hr.out.2.2.2 w1 hn
    go_wp2
    go_ret
    exact⟨_,rfl,by rw [Hr.out.2.1,Hb.out]; rfl,Hr.out.2.2.1.transNew hn⟩
def IsMade (z:Int) (w:World) (e:Ending) (w':World):Prop:=∃ f A n c,e=.returned (.agg #[.bool f,.slice A n c])∧CanAt w' (.agg #[.bool f,.slice A n c]) z∧New w w'
set_option maxHeartbeats 400000 in
theorem made_any (A:Option Addr) (n c:Nat) (m:List Nat) (d:Bool) (w:World) (hr:RowAt w 1 (.slice A n c) n (encW m)) (hl:Limbs m) :
    Calls Tryz.prog 78 #[.slice A n c,.bool d] w (IsMade (sgn d (val m)) w):=by
  have hn1:New w (w.alloc (.cells #[.bool false,.slice none 0 0] 26)):=(Upd.refl _ _).alloc _
  have hr1:=hr.new_ hn1
  have hn:m.length=n:=by simpa [encW] using hr.1
  have hk:(canon (val m)).length≤n:=by rw [← hn]; exact canon_len_le (val_lt hl)
  have htk:=take_canon hl
  have hrk:=hr.cut hk
  rw [htk] at hrk
  have Hr:=hide (And.intro hr1 (And.intro hl (And.intro hn1 hrk)))
  clear hr hr1 hl hn1 hrk htk
  obtain⟨k,hkk⟩:∃ k,k=(canon (val m)).length:=⟨_,rfl⟩
  rw [← hkk] at hk
  by_cases h0:k=0
  · subst h0
    have Hk:=hide hkk
    clear hkk
    go_enter Tryz.func78,Tryz.ntmps78
    go_wp2_with fail
    refine (trim_any A n c m _ Hr.out.1 Hr.out.2.1).mono ?_
    rintro e w1 ⟨rfl,rfl⟩
    rw [← Hk.out]
    go_wp2
    have hz:sgn d (val m)=0:=by
      have:=canon_nil.1 (List.eq_nil_of_length_eq_zero Hk.out.symm)
      rw [this,sgn_zero]
    exact bodyPost_ret (v:=.agg #[.bool false,.slice none 0 0]) (by simp [results,Tryz.results78,go_sem]) rfl ⟨_,_,_,_,rfl,by rw [hz]; exact CanAt.zero _,Hr.out.2.2.1⟩
  · have hk0:((k:Int) == 0)=false:=by simp; omega
    have Hk:=hide (And.intro hkk h0)
    clear hkk h0
    go_enter Tryz.func78,Tryz.ntmps78
    go_wp2_with fail
    refine (trim_any A n c m _ Hr.out.1 Hr.out.2.1).mono ?_
    rintro e w1 ⟨rfl,rfl⟩
    rw [← Hk.out.1]
    go_wp2
    have hv:0 < val m:=by
      rcases Nat.eq_zero_or_pos (val m) with h|h
      · have:=Hk.out
        rw [h,canon_zero] at this
        exact absurd this.1 this.2
      · exact h
    have hr:=Hr.out.2.2.2
    rw [← Hk.out.1] at hr
    refine bodyPost_ret (v:=.agg #[.bool d,.slice A k c]) (by simp [results,Tryz.results78,go_sem]) rfl ⟨_,_,_,_,rfl,⟨d,_,rfl,(sgn_neg hv).symm,?_⟩,(Upd.refl _ _).alloc _⟩
    rw [natAbs_sgn,← Hk.out.1]
    exact hr.new_ ((Upd.refl _ _).alloc _)
theorem BigAt.form {w:World} {x:Value} {z:Int} (h:BigAt w x z):∃ b A n c,x=.agg #[.bool b,.slice A n c]:=by
  obtain⟨b,v,m,rfl,hr,_⟩:=h
  obtain⟨A,c,rfl⟩:=hr.form
  exact⟨b,A,_,c,rfl⟩
theorem push_limb {w wr:World} {v:Value} {k:Nat} {ds:List Nat} (hown:Own wr w.heap.size 59 1 v k (encW ds)) (hn:New w wr) (x:Nat) :
    Own (wr.alloc (.cells #[.int .u32 (x:Int)] 59)) w.heap.size 59 1 v k (encW ds)∧RowAt (wr.alloc (.cells #[.int .u32 (x:Int)] 59)) 1 (.slice (some ⟨wr.heap.size,0,none⟩) 1 1) 1 (encW [x]) ∧
      w.heap.size≤(wr.alloc (.cells #[.int .u32 (x:Int)] 59)).heap.size∧New w (wr.alloc (.cells #[.int .u32 (x:Int)] 59)) :=
  ⟨hown.new_ ((Upd.refl _ _).alloc _),RowAt.fresh wr _ (encW [x]) 1 1 rfl (by omega) (by unfold maxLen; omega),(hn.alloc _).size,hn.alloc _⟩
theorem push_new {w wb w':World} {v:Value} {k:Nat} {xs:List Value} (hn:New w wb) (hown:Own wb w.heap.size 59 1 v k xs) (hg:wb.grownBy w' (ownB v)):New w w' :=
  hn.grown hg fun j hj=>.inr (hown.lt j hj).1
/-- The first k of a row of one's own. -/
theorem Own.cut {w:World} {base:Nat} {t:TypeId} {A:Option Addr} {n c:Nat} {xs:List Value} (h:Own w base t 1 (.slice A n c) n xs) {k:Nat} (hk:k≤n):Own w base t 1 (.slice A k c) k (xs.take k):=by
  have hl:=h.len
  rcases h with ⟨h1,h2⟩|⟨rfl,rfl,A',hA⟩
  · rcases h2 with ⟨hv,hx⟩|⟨g,cap,cur,hv,hb,hg,hn,hm,hs,ht⟩
    · injection hv with hA hn hc
      subst hA hn hc
      obtain rfl:k=0:=by omega
      exact .inl ⟨by simp,.inl ⟨rfl,by simp⟩⟩
    · injection hv with hA _ hc
      subst hA hc
      refine .inl ⟨by rw [List.length_take]; omega,.inr ⟨g,c,cur,rfl,hb,hg,by omega,hm,hs,?_⟩⟩
      have ht':cur.toList.take n=xs:=by simpa using ht
      show cur.toList.take (k * 1)=xs.take k
      rw [Nat.mul_one,← ht',List.take_take,Nat.min_eq_left hk]
  · injection hA with hA _ hc
    subst hA hc
    obtain rfl:k=0:=by omega
    exact .inr ⟨rfl,by simp,_,rfl⟩
theorem Own.trim {w:World} {base:Nat} {A:Option Addr} {n c:Nat} {m:List Nat} (h:Own w base 59 1 (.slice A n c) n (encW m)) (hl:Limbs m):Own w base 59 1 (.slice A (canon (val m)).length c) (canon (val m)).length (encW (canon (val m))):=by
  have hn:m.length=n:=by have:=h.len; simpa [encW] using this
  have:=h.cut (k:=(canon (val m)).length) (by rw [← hn]; exact canon_len_le (val_lt hl))
  rwa [← encW_take,take_canon hl] at this
/-- A place of a row of one's own: what it holds,that it may be written,and the row behind that. -/
theorem Own.place {w:World} {base:Nat} {t:TypeId} {A:Option Addr} {n c:Nat} {xs:List Value} (h:Own w base t 1 (.slice A n c) n xs) {j:Nat} (hj:j < n) :
    ∃ g,A=some ⟨g,0,none⟩∧n≤c∧c≤maxLen∧base≤g∧g < w.heap.size∧w.cell? ⟨g,j,none⟩=xs[j]?∧w.frozen? ⟨g,j,none⟩=false ∧
      ∀ u:Value,Own (w.setCell ⟨g,j,none⟩ u) base t 1 (.slice (some ⟨g,0,none⟩) n c) n (xs.set j u):=by
  rcases h with ⟨h1,h2⟩|⟨h0,_⟩
  · rcases h2 with ⟨hv,_⟩|⟨g,cap,cur,hv,hb,hg,hn,hm,hs,ht⟩
    · injection hv with _ hn _; omega
    · injection hv with hA _ hc
      subst hA hc
      have ht':cur.toList.take n=xs:=by simpa using ht
      have hlt:g < w.heap.size:=(Array.getElem?_eq_some_iff.1 hg).1
      have hbk:Blk w g t cur.toList:=by unfold Blk; simpa using hg
      have hcur:j < cur.size:=by omega
      refine ⟨g,rfl,hn,hm,hb,hlt,?_,hbk.frozen j,fun u=>.inl ⟨by simpa using h1,.inr ⟨g,c,cur.setIfInBounds j u,rfl,hb,?_,hn,hm,by simpa using hs,?_⟩⟩⟩
      · rw [hbk.cell j,← ht',List.getElem?_take,if_pos hj]
      · have:=hbk.set_ j u
        unfold Blk at this
        rw [this]
        congr 2
        apply Array.ext'
        simp
      · rw [← ht']
        simp [List.take_set]
  · omega
theorem New.setAt {w w':World} (h:New w w') {g:Nat} (hg:w.heap.size≤g) (j:Nat) (u:Value):New w (w'.setCell ⟨g,j,none⟩ u):=h.setCell (p:=⟨g,j,none⟩) (.inr hg) u
theorem BigAt.len {w:World} {x:Value} {z:Int} (h:BigAt w x z):(canon z.natAbs).length≤8:=(canon_len8 _).2 h.lt
/-- A number and an error. -/
def IsZE (z:Int) (er:Int) (w:World) (e:Ending) (w':World):Prop:=∃ f A n c,e=.returned (.tuple #[.agg #[.bool f,.slice A n c],.int .i64 er])∧CanAt w' (.agg #[.bool f,.slice A n c]) z∧New w w'
theorem CanAt.parts {w:World} {f:Bool} {A:Option Addr} {n c:Nat} {z:Int} (h:CanAt w (.agg #[.bool f,.slice A n c]) z):f=decide (z < 0)∧n=(canon z.natAbs).length∧RowAt w 1 (.slice A n c) n (encW (canon z.natAbs)):=by
  obtain⟨d,v,hx,hd,hr⟩:=h
  injection hx with hx
  have h1:#[Value.bool f,.slice A n c][0]?=#[Value.bool d,v][0]?:=by rw [hx]
  have h2:#[Value.bool f,.slice A n c][1]?=#[Value.bool d,v][1]?:=by rw [hx]
  simp at h1 h2
  subst h1 h2
  have hn:n=(canon z.natAbs).length:=by
    obtain⟨A',c',hf⟩:=hr.form
    injection hf
  subst hn
  exact⟨hd,rfl,hr⟩
def encB (xs:List Int):List Value:=xs.map (Value.int .u8)
theorem encB_one (m:List Int):∀ u∈encB m,u.oneCell'=true:=by
  intro u hu
  obtain⟨x,_,rfl⟩:=List.mem_map.1 hu
  rfl
theorem encB_app (a b:List Int):encB (a ++ b)=encB a ++ encB b:=by simp [encB]
theorem encB_set (a:List Int) (k:Nat) (x:Int):encB (a.set k x)=(encB a).set k (.int .u8 x):=by simp [encB]
theorem encB_get (a:List Int) (k:Nat) (h:k < a.length):(encB a)[k]?=some (.int .u8 (a.getD k 0)):=by simp [encB,List.getD,h]
def IsRev (W:World) (base:Nat) (A:Option Addr) (n c:Nat) (l:List Int) (e:Ending) (w':World):Prop:=e=.returned (.tuple #[])∧Own w' base 5 1 (.slice A n c) n (encB l.reverse)∧Upd (fun q=>ownB (.slice A n c)=some q) W w'
set_option maxHeartbeats 3200000 in
theorem reverse_any (base:Nat) (A:Option Addr) (n c:Nat) (l:List Int) (w:World) (ho:Own w base 5 1 (.slice A n c) n (encB l)) (hs:n≤100000) :
    Calls Tryz.prog 95 #[.slice A n c] w (IsRev w base A n c l):=by
  have hl:l.length=n:=by have:=ho.len; simpa [encB] using this
  have Hl:=hide hl
  have ho':Own w base 5 1 (.slice A n c) n (encB (turned l 0)):=by rw [turned_zero]; exact ho
  clear hl ho
  go_enter Tryz.func95,Tryz.ntmps95
  go_wp2
  go_loopw [2,3] (fun i j wr=>∃ k:Nat,i=.int .i64 k∧j=.int .i64 ((n:Int) - 1 - (k:Int))∧k≤n∧Own wr base 5 1 (.slice A n c) n (encB (turned l k))∧Upd (fun q=>ownB (.slice A n c)=some q) w wr) (fun i _ _=>n - (intOf i).toNat)
  case atStart=>exact⟨0,rfl,by simp,by omega,ho',Upd.refl _ _⟩
  case round =>
    clear ho'
    obtain⟨k,rfl,rfl,hk,ho,hu⟩:=hrel
    by_cases hlt:k + k + 1 < n
    · obtain⟨g,rfl,hnc,hcm,hbg,hgl,hcell,hfz,hset⟩:=ho.place (j:=k) (by omega)
      obtain⟨g',hg',-,-,-,-,hcell2,hfz2,-⟩:=ho.place (j:=n - 1 - k) (by omega)
      injection hg' with hg'
      injection hg' with hg' _ _
      subst hg'
      have hlt':(turned l k).length=n:=by rw [length_turned,Hl.out]
      rw [encB_get _ _ (by omega)] at hcell hcell2
      obtain⟨x,hx⟩:∃ x,x=(turned l k).getD k 0:=⟨_,rfl⟩
      obtain⟨y,hy⟩:∃ y,y=(turned l k).getD (n - 1 - k) 0:=⟨_,rfl⟩
      rw [← hx] at hcell
      rw [← hy] at hcell2
      have hb1:(0:Int)≤(k:Int)∧(k:Int) < (n:Int)∧(0:Int)≤(n:Int) - 1 - (k:Int)∧(n:Int) - 1 - (k:Int) < (n:Int):=by omega
      obtain⟨hb1,hb2,hb3,hb4⟩:=hb1
      have hne:k ≠ n - 1 - k:=by omega
      have Hs:=hide (And.intro hset (And.intro hx (And.intro hy (And.intro hu ho))))
      clear hset hx hy hu ho hcm hlt'
      go_wp2_with fail
      go_region
      obtain⟨hset,hx,hy,hu,ho⟩:=Hs.out
      have ho1:=hset (.int .u8 y)
      rw [← encB_set] at ho1
      obtain⟨g',hg',-,-,-,-,-,-,hset2⟩:=ho1.place (j:=n - 1 - k) (by omega)
      injection hg' with hg'
      injection hg' with hg' _ _
      subst hg'
      have ho2:=hset2 (.int .u8 x)
      have hts:=turned_succ l k (by rw [Hl.out]; exact hlt)
      rw [Hl.out,← hx,← hy] at hts
      rw [← encB_set,hts] at ho2
      have hF:ownB (.slice (some ⟨g,0,none⟩) n c)=some g:=by
        obtain⟨c',rfl⟩:∃ c',c=c' + 1:=⟨c - 1,by omega⟩
        rfl
      have ho3:=ho2.upd (Upd.refl (fun _=>False) _).drew (fun _ _ hf=>hf)
      have hu3:=((hu.setCell (p:=⟨g,k,none⟩) (.inl hF) (.int .u8 y)).setCell (p:=⟨g,n - 1 - k,none⟩) (.inl hF) (.int .u8 x)).drew
      have H3:=hide (And.intro ho3 hu3)
      clear hset hx hy hu ho ho1 hset2 ho2 hts ho3 hu3 hcell hcell2 hfz hfz2 hF
      go_wp2
      go_roundw
      case rel=>exact⟨k + 1,by go_num,by congr 1; omega,by omega,H3.out.1,H3.out.2⟩
      case measure=>simp [intOf] <;> omega
    · have hge:(n:Int) - 1 - (k:Int)≤(k:Int):=by omega
      have H3:=hide (And.intro ho hu)
      clear ho hu
      go_wp2
      refine bodyPost_ret (v:=.tuple #[]) (by simp [results,Tryz.results95,go_sem]) rfl ⟨rfl,?_,H3.out.2⟩
      have h:=H3.out.1
      rwa [turned_end l k (by rw [Hl.out]; omega)] at h
def IsText (xs:List Int) (w:World) (e:Ending) (w':World):Prop:=e=.returned (.string (strOfNums xs))∧New w w'
set_option maxHeartbeats 6400000 in
theorem text_any (x:Value) (z:Int) (w:World) (hx:BigAt w x z):Calls Tryz.prog 49 #[x] w (IsText (textI z) w):=by
  obtain⟨bx,Ax,nx,cx,rfl⟩:=hx.form
  obtain⟨w1,hw1⟩:∃ w1,w1=w.alloc (.cells #[.bool bx,.slice Ax nx cx] 26):=⟨_,rfl⟩
  have hn1:New w w1:=by rw [hw1]; exact (Upd.refl _ _).alloc _
  have hb1:Blk w1 w.heap.size 26 [.bool bx,.slice Ax nx cx]:=by rw [hw1]; exact Blk.new w _ _
  have hz:=hx.new_ hn1
  have hzl:=hx.lt
  have Hw:=hide hw1
  clear hw1
  go_enter Tryz.func49,Tryz.ntmps49
  go_wp2_with fail
  rw [← Hw.out]
  refine (mag_any _ z _ hz).mono ?_
  rintro e w2 ⟨A,n,c,rfl,hl,ho,hm2⟩
  have hn2:=hn1.transNew hm2
  have hb2:=hb1.new_ hm2
  have hz2:=hz.new_ hm2
  have hsz:w.heap.size≤w1.heap.size:=hn1.size
  have ho2:=ho.more hsz
  clear hn1 hb1 hz hm2 ho
  obtain⟨V0,hV0⟩:∃ V0,V0=z.natAbs:=⟨_,rfl⟩
  rw [← hV0] at hl ho2
  have hn8:n≤8:=by rw [hl,canon_len8,hV0]; exact hzl
  have hdl:(digs V0).length≤78:=digs_big (by rw [hV0]; exact hzl)
  have Hl:=hide (And.intro hl (And.intro hV0 hdl))
  have hzw:=hx
  have H2:=hide (And.intro hb2 (And.intro hzw hn2))
  clear hl hV0 hdl hsz hzl hb2 hz2 hn2 hx hzw
  by_cases h0:n=0
  · subst h0
    have hz0:z=0:=by
      have h1:=canon_nil.1 (List.eq_nil_of_length_eq_zero Hl.out.1.symm)
      have:=Hl.out.2.1
      omega
    have Hz:=hide hz0
    clear hz0 ho2
    go_wp2
    go_ret
    refine ⟨?_,H2.out.2.2⟩
    rw [Hz.out]
    rfl
  · have hn0:((n:Int) == 0)=false:=by simp; omega
    have hz0:z ≠ 0:=by
      intro h
      refine h0 ?_
      rw [Hl.out.1,Hl.out.2.1,h,show (0:Int).natAbs=0 from rfl,canon_zero]; rfl
    have Hz:=hide hz0
    clear h0 hz0
    go_wp2
    go_loopg [3,4] V0 (fun gk m l wr=>∃ (A:Option Addr) (n c:Nat) (ds:List Int),m=.slice A n c∧n≤8∧ds.length≤78∧Hid (n=(canon gk).length∧(digs V0).map letter=ds ++ (digs gk).map letter)∧Own wr w.heap.size 59 1 (.slice A n c) n (encW (canon gk))∧Own wr w.heap.size 5 1 l ds.length (encB ds)∧New w wr∧Hid (Blk wr w.heap.size 26 [.bool bx,.slice Ax nx cx]))
    case atStart=>exact⟨A,n,c,[],rfl,hn8,by simp,⟨Hl.out.1,by simp⟩,ho2,Own.nil_ _ _ _ _,H2.out.2.2,H2.out.1⟩
    case round =>
      clear ho2 hn0
      obtain⟨Am,nm,cm,ds,rfl,hnm8,hds,hd,hom,hol,hnew,hbox⟩:=hrel
      have Hd:=hide (show nm=(canon gk).length∧(digs V0).map letter=ds ++ (digs gk).map letter from hd)
      clear hd
      by_cases hpos:0 < nm
      · have hlc:(canon gk).length=nm:=Hd.out.1.symm
        have hT:=ten_start (limbs_canon gk)
        rw [hlc] at hT
        have Ho:=hide (And.intro hom (And.intro hol (And.intro hnew (And.intro hT hbox))))
        clear hom hol hnew hT hlc hbox
        go_wp2
        go_loopw [5,6] (fun r i wr=>∃ (k rr:Nat) (m2:List Nat),k≤nm∧i=.int .i64 ((k:Int) - 1)∧r=.int .u64 (rr:Int)∧rr < 10∧Hid (TenAt (canon gk) m2 k rr)∧Own wr w.heap.size 59 1 (.slice Am nm cm) nm (encW m2)∧Own wr w.heap.size 5 1 u4 ds.length (encB ds)∧New w wr∧Hid (Blk wr w.heap.size 26 [.bool bx,.slice Ax nx cx])) (fun _ i _=>(intOf i + 1).toNat)
        case atStart=>exact⟨nm,0,canon gk,Nat.le_refl _,rfl,rfl,by omega,Ho.out.2.2.2.1,Ho.out.1,Ho.out.2.1,Ho.out.2.2.1,Ho.out.2.2.2.2⟩
        case round =>
          clear Ho
          obtain⟨k,rr,m2,hk,rfl,rfl,hrr,hT,hom,hol,hnew,hbox⟩:=hrel
          rcases Nat.eq_zero_or_pos k with rfl|hk0
          · obtain⟨he1,he2⟩:=ten_end (show TenAt (canon gk) m2 0 rr from hT)
            rw [val_canon] at he1 he2
            have hT':TenAt (canon gk) m2 0 rr:=hT
            have e1:Value.int .u8 (48 + (rr:Int))=.int .u8 (letter rr):=by simp [letter]
            have hgk:0 < gk:=by
              rcases Nat.eq_zero_or_pos gk with h|h
              · have:=Hd.out.1
                rw [h,canon_zero] at this
                simp at this
                omega
              · exact h
            have hdg:(digs V0).map letter=(ds ++ [letter rr]) ++ (digs (gk / 10)).map letter:=by
              rw [Hd.out.2,digs_pos hgk,List.map_cons,List.append_assoc,he2]
              rfl
            have hdsl:ds.length + 1≤78:=by
              have h1:=congrArg List.length hdg
              simp at h1
              have:=Hl.out.2.2
              omega
            have hA:New wr (wr.alloc (.cells #[.int .u8 (letter rr)] 5)):=(Upd.refl _ _).alloc _
            have hrowl:RowAt (wr.alloc (.cells #[.int .u8 (letter rr)] 5)) 1 (.slice (some ⟨wr.heap.size,0,none⟩) 1 1) 1 (encB [letter rr]):=RowAt.fresh wr _ (encB [letter rr]) 1 1 rfl (by omega) (by unfold maxLen; omega)
            have hbase:w.heap.size≤(wr.alloc (.cells #[.int .u8 (letter rr)] 5)).heap.size:=(hnew.alloc _).size
            have P:=hide (And.intro e1 (And.intro (hol.new_ hA) (And.intro hrowl (And.intro hbase (And.intro (hom.new_ hA) (And.intro (hnew.transNew hA) ((show Blk wr _ _ _ from hbox).new_ hA)))))))
            have Q:=hide (And.intro he1 (And.intro hT' (And.intro hdg hgk)))
            clear e1 hA hrowl hbase hol hom hnew hbox he1 he2 hT hT' hdg hgk
            go_wp2_with (at_builtin; rw [P.out.1]; refine wpList_append_row _ rfl (.tmp 38) (.tmp 42) elB rfl w.heap.size u4 ds.length (encB ds) rfl P.out.2.1 (.slice (some ⟨wr.heap.size,0,none⟩) 1 1) 1 (encB [letter rr]) rfl P.out.2.2.1 (encB_one _) (by omega) (by unfold maxLen; omega) P.out.2.2.2.1 ?_; intro v3 w3 hown3 hg3 _)
            have hu3:Upd (fun q=>ownB u4=some q) (wr.alloc (.cells #[.int .u8 (letter rr)] 5)) w3:=(Upd.refl _ _).grown hg3 fun q hq=>.inl hq
            have hom3:=P.out.2.2.2.2.1.upd hu3 fun q hq hq'=>P.out.2.2.2.2.1.ne_own P.out.2.1 (by decide) q hq hq'
            have hbox3:=P.out.2.2.2.2.2.2.upd hu3 fun hq=>P.out.2.1.ne_blk P.out.2.2.2.2.2.2 (by decide) _ hq rfl
            have hnew3:New w w3:=P.out.2.2.2.2.2.1.grown hg3 fun q hq=>.inr (P.out.2.1.lt q hq).1
            rw [← encB_app] at hown3
            have Q3:=hide (And.intro hom3 (And.intro hbox3 (And.intro hnew3 hown3)))
            clear hu3 hom3 hbox3 hnew3 hown3 hg3
            go_wp2_with fail
            refine (trim_any Am nm cm m2 _ Q3.out.1.row Q.out.2.1.limbs).mono ?_
            rintro e w4 ⟨rfl,rfl⟩
            have hot:=Q3.out.1.trim Q.out.2.1.limbs
            rw [Q.out.1] at hot ⊢
            obtain⟨nz,hnz⟩:∃ nz,nz=(canon (gk / 10)).length:=⟨_,rfl⟩
            rw [← hnz] at hot ⊢
            have hnz8:nz≤8:=by
              rw [hnz]
              refine Nat.le_trans (canon_len_le (k:=(canon gk).length) ?_) (by rw [← Hd.out.1]; exact hnm8)
              have h:=val_lt (limbs_canon gk)
              rw [val_canon] at h
              exact Nat.lt_of_le_of_lt (Nat.div_le_self _ _) h
            have Hot:=hide (And.intro hot hnz)
            clear hot hnz
            go_wp2
            go_roundg (gk / 10)
            case measure=>have:=Q.out.2.2.2; omega
            case rel=>exact⟨Am,nz,cm,ds ++ [letter rr],rfl,hnz8,by simpa using hdsl,⟨Hot.out.2,Q.out.2.2.1⟩,Hot.out.1,by simpa using Q3.out.2.2.2,Q3.out.2.2.1,Q3.out.2.1⟩
          · obtain⟨p,rfl⟩:∃ p,k=p + 1:=⟨k - 1,by omega⟩
            rw [show (((p + 1:Nat):Int) - 1)=(p:Int) by omega]
            obtain⟨g,rfl,hnc,hcm,hbg,hgl,hcell,hfz,hset⟩:=hom.place (j:=p) (by omega)
            have hT':TenAt (canon gk) m2 (p + 1) rr:=hT
            obtain⟨hs1,hs2,hs3⟩:=ten_step (limbs_canon gk) hT' (by rw [← Hd.out.1]; omega)
            rw [encW_get _ _ (by rw [hT'.len,← Hd.out.1]; omega),hT'.same p (by omega)] at hcell
            obtain⟨y,hy⟩:∃ y,y=(canon gk).getD p 0:=⟨_,rfl⟩
            rw [← hy] at hcell hs1 hs2
            have hyb:y < 4294967296:=by rw [hy]; exact (limbs_canon gk).at _
            have hor:bits .or .u64 ((rr:Int) * 4294967296) (y:Int)=((rr * 4294967296 + y:Nat):Int):=by
              have h1:(rr:Int) * 4294967296=((rr * 4294967296:Nat):Int):=by simp
              rw [h1,bits_or_u64_nat _ _ (by omega) (by omega),or_word hyb]
            obtain⟨s,hs⟩:∃ s,s=rr * 4294967296 + y:=⟨_,rfl⟩
            rw [← hs] at hor hs1 hs2
            have hsb:s < 42949672960:=by omega
            have hgq:g ≠ w.heap.size:=fun h=>hom.ne_blk (show Blk wr _ _ _ from hbox) (by decide) g (by
              obtain⟨c',rfl⟩:∃ c',cm=c' + 1:=⟨cm - 1,by omega⟩
              rfl) h
            have Hs:=hide (And.intro hset (And.intro hs1 (And.intro hol (And.intro hnew (And.intro hom (And.intro hgq hbox))))))
            have Hor:=hide hor
            clear hset hs1 hol hnew hom hT hT' hy hor hs hk0 hcm hgq hbox
            go_upto_region 11 with (fail)
            rw [Hor.out]
            go_wp2
            go_roundw
            case rel =>
              obtain⟨hset,hs1,hol,hnew,hom,hgq,hbox⟩:=Hs.out
              have e2:Value.int .u64 ((s:Int) % 10)=.int .u64 ((s % 10:Nat):Int):=by simp
              have e3:Value.int .u32 ((s:Int) / 10)=.int .u32 ((s / 10:Nat):Int):=by simp
              refine ⟨p,s % 10,m2.set p (s / 10),by omega,rfl,e2,by omega,hs1,?_,?_,?_,?_⟩
              · rw [encW_set,← e3]; exact hset _
              · exact hol.upd (Upd.cellAt wr ⟨g,p,none⟩ _) fun q hq hqg=>hol.ne_own hom (by decide) q hq (by
                  have h1:q=g:=hqg
                  subst h1
                  obtain⟨c',rfl⟩:∃ c',cm=c' + 1:=⟨cm - 1,by omega⟩
                  rfl)
              · exact New.setAt hnew hbg _ _
              · exact (show Blk wr _ _ _ from hbox).far (p:=⟨g,p,none⟩) (Ne.symm hgq) _
            case measure=>simp [intOf] <;> omega
      · obtain rfl:nm=0:=by omega
        have hg0:gk=0:=canon_nil.1 (List.eq_nil_of_length_eq_zero Hd.out.1.symm)
        have hds0:(digs V0).map letter=ds:=by rw [Hd.out.2,hg0,digs_zero]; simp
        obtain⟨Al,cl,rfl⟩:=hol.row.form
        have hb0:wr.cell? ⟨w.heap.size,0,none⟩=some (.bool bx):=(show Blk wr _ _ _ from hbox).cell 0
        have hb1:wr.cell? ⟨w.heap.size,1,none⟩=some (.slice Ax nx cx):=(show Blk wr _ _ _ from hbox).cell 1
        have hzr:=H2.out.2.1.new_ hnew
        have hdn:0 < ds.length:=by
          rw [← hds0,List.length_map]
          rcases Nat.eq_zero_or_pos V0 with h|h
          · have:=Hl.out.2.1
            exact absurd (show z=0 by omega) Hz.out
          · rw [digs_pos h]; simp
        have hm0:(0:Int) < (ds.length:Int):=by omega
        have Q0:=hide (And.intro hol (And.intro hnew (And.intro hzr (And.intro hds0 (And.intro hdn hom)))))
        clear hol hnew hzr hds0 hdn hom hg0 hbox hpos
        go_wp2_with fail
        refine (neg_any _ z _ Q0.out.2.2.1).mono ?_
        rintro e w4 ⟨d,rfl,hd4,hn4⟩
        have hol:=Q0.out.1.new_ hn4
        have hnew:=Q0.out.2.1.transNew hn4
        have hds0:=Q0.out.2.2.2.1
        have hdn:=Q0.out.2.2.2.2.1
        clear hb0 hb1
        cases hdd:d
        · subst hdd
          have hdsz:textI z=ds.reverse:=by
            rw [textI_pos Hz.out,if_neg (by simpa using hd4.symm),List.append_nil,← Hl.out.2.1,hds0]
          have hdsn:0 < ds.length:=hdn
          clear hds0 hdn hd4 hn4
          have Q3:=hide (And.intro hol (And.intro hnew (And.intro hdsz hdsn)))
          clear hol hnew hdsz hdsn
          go_wp2_with fail
          refine (reverse_any w.heap.size Al ds.length cl ds _ Q3.out.1 (by omega)).mono ?_
          rintro e w5 ⟨rfl,hrev,hu5⟩
          have hn5:New w w5:=Q3.out.2.1.trans hu5 fun q hq hqo=>by have:=(Q3.out.1.lt q hqo).1; omega
          obtain⟨g,rfl,-,-,-,-,-,-,-⟩:=Q3.out.1.place (j:=0) Q3.out.2.2.2
          have hlen5:ds.reverse.length=ds.length:=by simp
          have hconv:=run_convert_bytes_arg (P:=Tryz.prog) w5 106 5 Tryz.underlying106 Tryz.underlying5 g 0 ds.length cl ds.reverse hlen5 (fun i hi=>by
            obtain⟨g',hg',-,-,-,-,hcell,-,-⟩:=hrev.place (j:=i) hi
            injection hg' with hg'
            injection hg' with hg' _ _
            subst hg'
            rw [Nat.zero_add,hcell,encB_get _ _ (by omega)]) 9 Tryz.underlying9
          rw [← Q3.out.2.2.1] at hconv
          have Hn5:=hide hn5
          clear hrev hu5 hn5 hlen5
          go_wp2
          go_ret
          exact⟨rfl,Hn5.out⟩
        · subst hdd
          have hdsz:textI z=(ds ++ [45]).reverse:=by
            rw [textI_pos Hz.out,if_pos (by simpa using hd4.symm),← Hl.out.2.1,hds0]
          have hdsn:0 < ds.length + 1:=by omega
          have hA:New w4 (w4.alloc (.cells #[.int .u8 45] 5)):=(Upd.refl _ _).alloc _
          have hrowl:RowAt (w4.alloc (.cells #[.int .u8 45] 5)) 1 (.slice (some ⟨w4.heap.size,0,none⟩) 1 1) 1 (encB [45]):=RowAt.fresh w4 _ (encB [45]) 1 1 rfl (by omega) (by unfold maxLen; omega)
          have hbase:w.heap.size≤(w4.alloc (.cells #[.int .u8 45] 5)).heap.size:=(hnew.alloc _).size
          have P:=hide (And.intro (hol.new_ hA) (And.intro hrowl (And.intro hbase (And.intro (hnew.transNew hA) (And.intro hdsz hdsn)))))
          clear hds0 hdn hd4 hn4 hA hrowl hbase hol hnew hdsz hdsn
          go_wp2_with (at_builtin; refine wpList_append_row _ rfl (.tmp 48) (.tmp 49) elB rfl w.heap.size (.slice Al ds.length cl) ds.length (encB ds) rfl P.out.1 (.slice (some ⟨w4.heap.size,0,none⟩) 1 1) 1 (encB [45]) rfl P.out.2.1 (encB_one _) (by omega) (by unfold maxLen; omega) P.out.2.2.1 ?_; intro v3 w3 hown3 hg3 _)
          have hnew:New w w3:=P.out.2.2.2.1.grown hg3 fun q hq=>.inr (P.out.1.lt q hq).1
          rw [← encB_app] at hown3
          obtain⟨Al2,cl2,rfl⟩:=hown3.row.form
          have hol:=hown3
          have hdsz:=P.out.2.2.2.2.1
          have hdsn:=P.out.2.2.2.2.2
          clear hg3 hown3
          have Q3:=hide (And.intro hol (And.intro hnew (And.intro hdsz hdsn)))
          clear hol hnew hdsz hdsn
          go_wp2_with fail
          refine (reverse_any w.heap.size Al2 (ds.length + 1) cl2 (ds ++ [45]) _ Q3.out.1 (by omega)).mono ?_
          rintro e w5 ⟨rfl,hrev,hu5⟩
          have hn5:New w w5:=Q3.out.2.1.trans hu5 fun q hq hqo=>by have:=(Q3.out.1.lt q hqo).1; omega
          obtain⟨g,rfl,-,-,-,-,-,-,-⟩:=Q3.out.1.place (j:=0) Q3.out.2.2.2
          have hlen5:(ds ++ [45]).reverse.length=(ds.length + 1):=by simp
          have hconv:=run_convert_bytes_arg (P:=Tryz.prog) w5 106 5 Tryz.underlying106 Tryz.underlying5 g 0 (ds.length + 1) cl2 (ds ++ [45]).reverse hlen5 (fun i hi=>by
            obtain⟨g',hg',-,-,-,-,hcell,-,-⟩:=hrev.place (j:=i) hi
            injection hg' with hg'
            injection hg' with hg' _ _
            subst hg'
            rw [Nat.zero_add,hcell,encB_get _ _ (by omega)]) 9 Tryz.underlying9
          rw [← Q3.out.2.2.1] at hconv
          have Hn5:=hide hn5
          clear hrev hu5 hn5 hlen5
          go_wp2
          go_ret
          exact⟨rfl,Hn5.out⟩
set_option maxHeartbeats 1600000 in
theorem digits_any (s:ByteArray) (w:World) (hs:s.size≤100000):Calls Tryz.prog 126 #[.string s] w fun e w'=>e=.returned (.bool (digB s.data.toList))∧w=w':=by
  go_enter Tryz.func126,Tryz.ntmps126
  go_wp2
  go_loop [6] (fun i=>∃ k:Nat,k≤s.size∧i=.int .i64 k∧Hid ((s.data.toList.take k).all isDig=true)) (fun i=>s.size - (intOf i).toNat)
  case atStart=>exact⟨0,by omega,rfl,by show _=_; simp⟩
  case round =>
    obtain⟨k,hk,rfl,hno⟩:=hrel
    by_cases hlt:k < s.size
    · have hgk:s.data.toList[k]?=some s[k]:=by
        have h:k < s.data.toList.length:=by rw [len_data]; exact hlt
        rw [List.getElem?_eq_getElem h]
        rfl
      have hbad:isDig s[k]=false→digB s.data.toList=false:=by
        intro h
        have:s.data.toList.all isDig=false:=by
          rw [List.all_eq_false]
          exact⟨s[k],List.mem_of_getElem? hgk,by rw [h]; simp⟩
        simp [digB,this]
      have hnext:isDig s[k]=true→(s.data.toList.take (k + 1)).all isDig=true:=by
        intro h
        rw [List.take_add_one,hgk,List.all_append,(show (s.data.toList.take k).all isDig=true from hno)]
        simpa using h
      have Hb:=hide (And.intro hbad hnext)
      clear hgk hbad hnext hno
      by_cases h1:s[k].toNat < 48
      · have hb:=Hb.out.1 (by simp [isDig]; omega)
        have HB:=hide hb
        clear hb
        go_wp2
        go_ret
        exact⟨by rw [HB.out]; rfl,rfl⟩
      · by_cases h2:57 < s[k].toNat
        · have hb:=Hb.out.1 (by simp [isDig]; omega)
          have HB:=hide hb
          clear hb
          go_wp2
          go_ret
          exact⟨by rw [HB.out]; rfl,rfl⟩
        · have hb:=Hb.out.2 (by simp [isDig]; omega)
          have HB:=hide hb
          clear hb
          go_wp2
          go_round
          case rel=>exact⟨k + 1,by omega,by go_num,HB.out⟩
          case measure=>simp [intOf] <;> omega
    · obtain rfl:k=s.size:=by omega
      have hall:s.data.toList.all isDig=true:=by
        have h:(s.data.toList.take s.size).all isDig=true:=hno
        rwa [List.take_of_length_le (by rw [len_data]; exact Nat.le_refl _)] at h
      have Ha:=hide hall
      clear hall hno hlt
      by_cases hl:s.toList=[]
      · have hl2:(!s.toList.isEmpty)=false:=by rw [hl]; rfl
        have Hl:=hide hl
        go_wp2
        go_ret
        refine ⟨?_,rfl⟩
        have:=Hl.out
        rw [ByteArray.toList_eq] at this
        have hd:digB s.data.toList=false:=by rw [this]; rfl
        rw [hd]; rfl
      · have hl2:(!s.toList.isEmpty)=true:=by
          cases h:s.toList
          · exact absurd h hl
          · rfl
        have hsz:0 < s.size:=by
          rcases Nat.eq_zero_or_pos s.size with h|h
          · exfalso
            apply hl
            rw [ByteArray.toList_eq]
            exact List.eq_nil_of_length_eq_zero (by rw [len_data]; exact h)
          · exact h
        have hhd:s.data.toList.head?=some s[0]:=by
          have h:0 < s.data.toList.length:=by rw [len_data]; exact hsz
          rw [List.head?_eq_getElem?,List.getElem?_eq_getElem h]
          rfl
        have hne:s.data.toList ≠ []:=by rw [← ByteArray.toList_eq]; exact hl
        have HH:=hide (And.intro hhd hne)
        clear hhd hne
        by_cases h0:s[0].toNat=48
        · have h0b:(((s[0].toNat:Nat):Int) != 48)=false:=by simp [h0]
          have H0:=hide h0
          clear h0
          go_wp2
          go_ret
          refine ⟨?_,rfl⟩
          have h48:s[0]=48:=UInt8.toNat_inj.1 H0.out
          have hd:digB s.data.toList=(s.toList == [48]):=by
            rw [ByteArray.toList_eq]
            simp only [digB,Ha.out,HH.out.1,h48]
            simp [HH.out.2]
          rw [hd]
          rfl
        · have h0b:(((s[0].toNat:Nat):Int) != 48)=true:=by simp; omega
          have H0:=hide h0
          clear h0
          go_wp2
          go_ret
          refine ⟨?_,rfl⟩
          have h48:s[0] ≠ 48:=fun h=>H0.out (by rw [h]; rfl)
          have hd:digB s.data.toList=true:=by
            simp only [digB,Ha.out,HH.out.1]
            simp [HH.out.2,h48]
          rw [hd]
          rfl
def IsParse (p:Int × Int) (w:World) (e:Ending) (w':World):Prop:=IsZE p.1 p.2 w e w'
set_option maxHeartbeats 6400000 in
theorem parse_any (s:ByteArray) (w:World) (hs:s.size≤100000):Calls Tryz.prog 82 #[.string s] w (IsParse (parseZ s.data.toList) w):=by
  obtain⟨p,hp⟩:∃ p,p=parseZ s.data.toList:=⟨_,rfl⟩
  rw [← hp]
  by_cases hsz:0 < s.size
  · have hhd:s.data.toList.head?=some s[0]:=by
      have h:0 < s.data.toList.length:=by rw [len_data]; exact hsz
      rw [List.head?_eq_getElem?,List.getElem?_eq_getElem h]
      rfl
    by_cases h45:s[0].toNat=45
    · have h1:s[0]=45:=UInt8.toNat_inj.1 h45
      rw [h1] at hhd
      have hb:(((s[0].toNat:Nat):Int) == 45)=true:=by simp [h45]
      have hlz:s.data.toList=45 :: s.data.toList.tail:=by
        cases h:s.data.toList with
        | nil=>rw [h] at hhd; cases hhd
        | cons c r =>
          rw [h] at hhd
          simp at hhd
          subst hhd
          rfl
      have hsp:(s.toList == [45,48])=decide (s.data.toList=[45,48]):=by
        rw [ByteArray.toList_eq]
        by_cases h:s.data.toList=[45,48]
        · rw [h]; rfl
        · rw [decide_eq_false h]
          simpa using h
      have hpz:p=if s.data.toList=[45,48] then (0,2) else parseD true s.data.toList.tail:=by rw [hp,parseZ,if_pos hhd]
      have Hh:=hide (And.intro hhd (And.intro h45 hpz))
      clear hp hhd h1 h45 hpz
      by_cases hm:s.data.toList=[45,48]
      · have hm0:(s.toList == [45,48])=true:=by rw [hsp,decide_eq_true hm]
        have hdt:digB (s.extract 1 s.size).data.toList=true:=by rw [ext_tail,hm]; rfl
        have Hm:=hide (And.intro hm hdt)
        clear hsp hm hlz hdt
        go_enter Tryz.func82,Tryz.ntmps82
        go_wp2
        go_quiet (fail)
        go_wp2_with fail
        obtain⟨d,hd⟩:∃ d,d=s.extract 1 s.size:=⟨_,rfl⟩
        rw [← hd]
        have hDs:d.size≤100000:=by rw [hd]; simp [ByteArray.size_extract]; omega
        have hdt:digB d.data.toList=true:=by rw [hd]; exact Hm.out.2
        have Hdt:=hide hdt
        obtain⟨w1,hw1⟩:∃ w1,w1=(w.alloc (.cells #[.bool false,.slice none 0 0] 26)).drewN nq:=⟨_,rfl⟩
        have hn1:New w w1:=by rw [hw1]; exact ((Upd.refl _ _).alloc _).drewN _
        have hb1:Blk w1 w.heap.size 26 [.bool false,.slice none 0 0]:=by rw [hw1]; exact Blk.new w _ _
        rw [← hw1]
        obtain⟨w4,hw4,hcan4,hn4,g0,g1,-⟩:=(CanAt.zero w1).store hb1 hn1 (Nat.le_refl _)
        have r0:w1.cell? ⟨w.heap.size,0,none⟩=some (.bool false):=hb1.cell 0
        have r1:w1.cell? ⟨w.heap.size,1,none⟩=some (.slice none 0 0):=hb1.cell 1
        have f0:=hb1.frozen 0
        have f1:=hb1.frozen 1
        have H4:=hide (And.intro hcan4 (And.intro hn4 hw4))
        clear hcan4 hn4 hw4 hw1 hn1 hb1 hd hdt
        refine (digits_any d _ hDs).mono ?_
        rintro e w1' ⟨rfl,rfl⟩
        rw [Hdt.out]
        go_wp2
        rw [← H4.out.2.2]
        have hz:p=(0,2):=by rw [Hh.out.2.2,if_pos Hm.out.1]
        refine bodyPost_ret (v:=.tuple #[.agg #[.bool false,.slice none 0 0],.int .i64 2]) (by simp [results,Tryz.results82,go_sem,g0,g1]) rfl ⟨false,none,0,0,?_,?_,H4.out.2.1⟩
        · rw [hz]
        · rw [hz]; exact H4.out.1
      · have hm0:(s.toList == [45,48])=false:=by rw [hsp,decide_eq_false hm]
        have hpe:p=parseD true s.data.toList.tail:=by rw [Hh.out.2.2,if_neg hm]
        have Hpe:=hide hpe
        clear hsp hm hlz hpe
        go_enter Tryz.func82,Tryz.ntmps82
        go_wp2
        go_quiet (fail)
        go_wp2_with fail
        obtain⟨d,hd⟩:∃ d,d=s.extract 1 s.size:=⟨_,rfl⟩
        rw [← hd]
        have hDs:d.size≤100000:=by rw [hd]; simp [ByteArray.size_extract]; omega
        have hP:p=parseD true d.data.toList:=by rw [Hpe.out,hd,ext_tail]
        have HP:=hide hP
        obtain⟨w1,hw1⟩:∃ w1,w1=(w.alloc (.cells #[.bool false,.slice none 0 0] 26)).drewN nq:=⟨_,rfl⟩
        have hn1:New w w1:=by rw [hw1]; exact ((Upd.refl _ _).alloc _).drewN _
        have hb1:Blk w1 w.heap.size 26 [.bool false,.slice none 0 0]:=by rw [hw1]; exact Blk.new w _ _
        rw [← hw1]
        have H1:=hide (And.intro hn1 (hide hb1))
        clear hw1 hn1 hb1 hd hP
        -- the sign is known: d,true
        by_cases hdg:digB d.data.toList=true
        · have Hdg:=hide hdg
          have hDall:∀ c∈d.data.toList,48≤c.toNat∧c.toNat≤57:=fun c hc=>by
            have h:=hdg
            simp only [digB,Bool.and_eq_true] at h
            have:=List.all_eq_true.1 h.1 c hc
            simpa [isDig] using this
          have HD:=hide hDall
          clear hdg hDall
          refine (digits_any d _ hDs).mono ?_
          rintro e w1' ⟨rfl,rfl⟩
          rw [Hdg.out]
          go_wp2
          go_loopw [6,33] (fun m i wr=>∃ (k V:Nat) (A:Option Addr) (n c:Nat),k≤d.size∧i=.int .i64 k∧m=.slice A n c∧n≤8∧Hid (n=(canon V).length∧V=decV (d.data.toList.take k))∧Own wr w.heap.size 59 1 m n (encW (canon V))∧New w wr∧Hid (Blk wr w.heap.size 26 [.bool false,.slice none 0 0])) (fun _ i _=>d.size - (intOf i).toNat)
          case atStart=>exact⟨0,0,none,0,0,by omega,rfl,rfl,by omega,⟨by rw [canon_zero]; rfl,rfl⟩,by rw [canon_zero]; exact Own.nil_ _ _ _ _,H1.out.1,H1.out.2⟩
          case round =>
            obtain⟨k,V,A,n,c,hk,rfl,rfl,hn8,hV,hown,hnew,hbox⟩:=hrel
            have HV:=hide (show n=(canon V).length∧V=decV (d.data.toList.take k) from hV)
            clear hV
            by_cases hlt:k < d.size
            · obtain⟨x,hx⟩:∃ x,x=d[k].toNat:=⟨_,rfl⟩
              have hgk:d.data.toList[k]?=some d[k]:=by
                have h:k < d.data.toList.length:=by rw [len_data]; exact hlt
                rw [List.getElem?_eq_getElem h]
                rfl
              have hxr:=HD.out d[k] (List.mem_of_getElem? hgk)
              rw [← hx] at hxr
              obtain⟨hx1,hx2⟩:=hxr
              have hsucc:decV (d.data.toList.take (k + 1))=10 * V + (x - 48):=by
                rw [List.take_add_one,hgk]
                show decV (d.data.toList.take k ++ [d[k]])=_
                rw [decV_snoc,← HV.out.2,← hx]
              have hM:=mulTen_start (limbs_canon V) (x - 48)
              have hcast:(x:Int) - 48=((x - 48:Nat):Int):=by omega
              have H0:=hide (And.intro hown (And.intro hnew (And.intro hbox (And.intro hsucc (And.intro hM hcast)))))
              have hxk:d[k].toNat=x:=hx.symm
              have hxlo:48≤d[k].toNat:=by omega
              have hxhi:d[k].toNat≤57:=by omega
              have Hxk:=hide hxk
              clear hown hnew hbox hgk hsucc hM hcast hx hxk
              go_upto_region 11 with (fail)
              rw [Hxk.out,H0.out.2.2.2.2.2]
              clear hxlo hxhi
              obtain⟨dg,hdgx⟩:∃ dg,dg=x - 48:=⟨_,rfl⟩
              rw [← hdgx]
              have hd9:dg≤9:=by omega
              have H2:=hide (And.intro H0.out.1 (And.intro H0.out.2.1 (And.intro H0.out.2.2.1 (And.intro (by rw [hdgx]; exact H0.out.2.2.2.1:decV (d.data.toList.take (k + 1))=10 * V + dg) (by rw [hdgx]; exact H0.out.2.2.2.2.1:MulTen (canon V) (canon V) 0 dg dg)))))
              clear H0 hdgx
              go_wp2
              go_loopw [8,43] (fun cv i wr=>∃ (t cc:Nat) (m2:List Nat),t≤n∧i=.int .i64 t∧cv=.int .u64 (cc:Int)∧cc≤9∧Hid (MulTen (canon V) m2 t cc dg)∧Own wr w.heap.size 59 1 (.slice A n c) n (encW m2)∧New w wr∧Hid (Blk wr w.heap.size 26 [.bool false,.slice none 0 0])) (fun _ i _=>n - (intOf i).toNat)
              case atStart=>exact⟨0,dg,canon V,by omega,rfl,rfl,hd9,H2.out.2.2.2.2,H2.out.1,H2.out.2.1,H2.out.2.2.1⟩
              case round =>
                obtain⟨t,cc,m2,ht,rfl,rfl,hcc,hM,hown,hnew,hbox⟩:=hrel
                have hM':MulTen (canon V) m2 t cc dg:=hM
                by_cases hlt2:t < n
                · obtain⟨g,rfl,hnc,hcm,hbg,hgl,hcell,hfz,hset⟩:=hown.place (j:=t) hlt2
                  rw [encW_get _ _ (by rw [hM'.len,← HV.out.1]; exact hlt2),hM'.same t (Nat.le_refl _)] at hcell
                  obtain⟨hs1,hs2⟩:=mulTen_step (limbs_canon V) hM' (by rw [← HV.out.1]; exact hlt2) hcc
                  obtain⟨y,hy⟩:∃ y,y=(canon V).getD t 0:=⟨_,rfl⟩
                  rw [← hy] at hcell hs1 hs2
                  have hyb:y < 4294967296:=by rw [hy]; exact (limbs_canon V).at _
                  obtain⟨s,hs⟩:∃ s,s=cc + 10 * y:=⟨_,rfl⟩
                  rw [← hs] at hs1 hs2
                  have e1:Value.int .u32 (((cc:Int) + 10 * (y:Int)) % 4294967296)=.int .u32 ((s % 4294967296:Nat):Int):=by congr 1; rw [hs]; simp
                  have e2:Value.int .u64 (((cc:Int) + 10 * (y:Int)) / 4294967296)=.int .u64 ((s / 4294967296:Nat):Int):=by congr 1; rw [hs]; simp
                  have hgq:g ≠ w.heap.size:=fun h=>hown.ne_blk (show Blk wr _ _ _ from hbox) (by decide) g (by
                    obtain⟨c',rfl⟩:∃ c',c=c' + 1:=⟨c - 1,by omega⟩
                    rfl) h
                  have Hs:=hide (And.intro hset (And.intro hs1 (And.intro e1 (And.intro e2 (And.intro hnew (And.intro hgq hbox))))))
                  clear hset hs1 e1 e2 hnew hgq hbox hM hM' hy hs hown hcm
                  go_wp2
                  go_roundw
                  case rel =>
                    obtain⟨hset,hs1,e1,e2,hnew,hgq,hbox⟩:=Hs.out
                    refine ⟨t + 1,s / 4294967296,m2.set t (s % 4294967296),by omega,by go_num,e2,hs2,hs1,?_,New.setAt hnew hbg _ _,(show Blk wr _ _ _ from hbox).far (p:=⟨g,t,none⟩) (Ne.symm hgq) _⟩
                    rw [e1,encW_set]
                    exact hset _
                  case measure=>simp [intOf] <;> omega
                · obtain rfl:t=n:=by omega
                  have hend:val (m2 ++ [cc])=10 * V + dg:=by
                    have h:=hM'
                    rw [HV.out.1] at h
                    have:=mulTen_end h
                    rwa [val_canon] at this
                  have hlm:Limbs (m2 ++ [cc]):=hM'.limbs.app (Limbs.cons (by omega) Limbs.nil)
                  have hA:New wr (wr.alloc (.cells #[.int .u32 (cc:Int)] 59)):=(Upd.refl _ _).alloc _
                  have P0:=push_limb hown hnew cc
                  have P:=hide (And.intro P0.1 (And.intro P0.2.1 (And.intro P0.2.2.1 (And.intro P0.2.2.2 (And.intro ((show Blk wr _ _ _ from hbox).new_ hA) (And.intro hend hlm))))))
                  clear hown hnew hbox hM hM' hend hlm hA P0
                  go_wp2_with (at_builtin; refine wpList_append_row _ rfl (.tmp 61) (.tmp 64) elW rfl w.heap.size (.slice A t c) t (encW m2) rfl P.out.1 (.slice (some ⟨wr.heap.size,0,none⟩) 1 1) 1 (encW [cc]) rfl P.out.2.1 (encW_one _) (by omega) (by unfold maxLen; omega) P.out.2.2.1 ?_; intro v2 w2 hown2 hg2 _)
                  have hn2:=push_new P.out.2.2.2.1 P.out.1 hg2
                  have hu2:Upd (fun q=>ownB (.slice A t c)=some q) (wr.alloc (.cells #[.int .u32 (cc:Int)] 59)) w2:=(Upd.refl _ _).grown hg2 fun q hq=>.inl hq
                  have hbox2:=P.out.2.2.2.2.1.upd hu2 fun hq=>P.out.1.ne_blk P.out.2.2.2.2.1 (by decide) _ hq rfl
                  rw [← encW_app] at hown2
                  obtain⟨A2,c2,rfl⟩:=hown2.row.form
                  have Q:=hide (And.intro hown2 (And.intro hn2 hbox2))
                  clear hu2 hbox2 hn2 hown2 hg2
                  go_wp2_with fail
                  refine (trim_any A2 (t + 1) c2 (m2 ++ [cc]) _ Q.out.1.row P.out.2.2.2.2.2.2).mono ?_
                  rintro e w3 ⟨rfl,rfl⟩
                  have hot:=Q.out.1.trim P.out.2.2.2.2.2.2
                  rw [P.out.2.2.2.2.2.1] at hot ⊢
                  obtain⟨nz,hnz⟩:∃ nz,nz=(canon (10 * V + dg)).length:=⟨_,rfl⟩
                  rw [← hnz] at hot ⊢
                  have hnzb:nz≤9:=by
                    have h1:(canon (10 * V + dg)).length≤t + 1:=by
                      have h:=val_lt P.out.2.2.2.2.2.2
                      have hl:(m2 ++ [cc]).length=t + 1:=by have:=Q.out.1.len; simpa [encW] using this
                      rw [P.out.2.2.2.2.2.1,hl] at h
                      exact canon_len_le h
                    omega
                  have Hot:=hide (And.intro hot hnz)
                  clear hot hnz
                  by_cases hfit:nz≤8
                  · go_wp2
                    go_roundw
                    case rel=>exact⟨k + 1,10 * V + dg,A2,nz,c2,by omega,by go_num,rfl,hfit,⟨Hot.out.2,H2.out.2.2.2.1.symm⟩,Hot.out.1,Q.out.2.1,Q.out.2.2⟩
                    case measure=>simp [intOf] <;> omega
                  · have hbig:2 ^ 256≤decV d.data.toList:=by
                      have h1:=decV_mono d.data.toList (k + 1)
                      rw [H2.out.2.2.2.1] at h1
                      have h2:¬ (10 * V + dg) < 2 ^ 256:=by
                        rw [← canon_len8,← Hot.out.2]
                        exact hfit
                      omega
                    have hz:parseD true d.data.toList=(0,3):=by rw [parseD,if_pos Hdg.out,if_pos hbig]
                    obtain⟨w4,hw4,hcan4,hn4,g0,g1,-⟩:=(CanAt.zero w2).store Q.out.2.2 Q.out.2.1 (Nat.le_refl _)
                    have hb2:Blk w2 w.heap.size 26 [.bool false,.slice none 0 0]:=Q.out.2.2
                    have r0:w2.cell? ⟨w.heap.size,0,none⟩=some (.bool false):=hb2.cell 0
                    have r1:w2.cell? ⟨w.heap.size,1,none⟩=some (.slice none 0 0):=hb2.cell 1
                    have f0:=hb2.frozen 0
                    have f1:=hb2.frozen 1
                    have H4:=hide (And.intro hcan4 (And.intro hn4 (And.intro hw4 hz)))
                    clear hbig hz hcan4 hn4 hw4 hb2
                    go_wp2
                    rw [← H4.out.2.2.1]
                    refine bodyPost_ret (v:=.tuple #[.agg #[.bool false,.slice none 0 0],.int .i64 3]) (by simp [results,Tryz.results82,go_sem,g0,g1]) rfl ⟨false,none,0,0,?_,?_,H4.out.2.1⟩
                    · rw [HP.out,H4.out.2.2.2]
                    · rw [HP.out,H4.out.2.2.2]; exact H4.out.1
            · obtain rfl:k=d.size:=by omega
              have hVd:V=decV d.data.toList:=by
                have h:=HV.out.2
                rwa [List.take_of_length_le (by rw [len_data]; exact Nat.le_refl _)] at h
              have hVb:¬ 2 ^ 256≤decV d.data.toList:=by
                rw [← hVd]
                have h:=(canon_len8 V).1 (by rw [← HV.out.1]; exact hn8)
                omega
              have hz:parseD true d.data.toList=(sgn true V,0):=by rw [parseD,if_pos Hdg.out,if_neg hVb,hVd]
              have Q:=hide (And.intro hown (And.intro hnew (And.intro hbox hz)))
              clear hown hnew hbox hz hVb hVd
              go_wp2_with fail
              refine (made_any A n c _ true _ Q.out.1.row (limbs_canon _)).mono ?_
              rw [val_canon]
              rintro e w5 ⟨f,A5,n5,c5,rfl,hcan,hm5⟩
              have hb5:=(show Blk wr _ _ _ from Q.out.2.2.1).new_ hm5
              have f0:=hb5.frozen 0
              have f1:=hb5.frozen 1
              have r0:w5.cell? ⟨w.heap.size,0,none⟩=some (.bool false):=hb5.cell 0
              have r1:w5.cell? ⟨w.heap.size,1,none⟩=some (.slice none 0 0):=hb5.cell 1
              obtain⟨w6,hw6,hcan6,hn6,g0,g1,-⟩:=hcan.store hb5 (Q.out.2.1.transNew hm5) (Nat.le_refl _)
              have H6:=hide (And.intro hcan6 (And.intro hn6 hw6))
              clear hb5 hcan hm5 hcan6 hn6 hw6
              go_wp2
              rw [← H6.out.2.2]
              refine bodyPost_ret (v:=.tuple #[.agg #[.bool f,.slice A5 n5 c5],.int .i64 0]) (by simp [results,Tryz.results82,go_sem,g0,g1]) rfl ⟨f,A5,n5,c5,?_,?_,H6.out.2.1⟩
              · rw [HP.out,Q.out.2.2.2]
              · rw [HP.out,Q.out.2.2.2]; exact H6.out.1
        · have hdg':digB d.data.toList=false:=by simpa using hdg
          have hz:parseD true d.data.toList=(0,2):=by rw [parseD,if_neg hdg]
          have Hdg:=hide (And.intro hdg' hz)
          clear hdg hdg' hz
          obtain⟨w4,hw4,hcan4,hn4,g0,g1,-⟩:=(CanAt.zero w1).store H1.out.2 H1.out.1 (Nat.le_refl _)
          have r0:w1.cell? ⟨w.heap.size,0,none⟩=some (.bool false):=(show Blk w1 _ _ _ from H1.out.2).cell 0
          have r1:w1.cell? ⟨w.heap.size,1,none⟩=some (.slice none 0 0):=(show Blk w1 _ _ _ from H1.out.2).cell 1
          have f0:=(show Blk w1 _ _ _ from H1.out.2).frozen 0
          have f1:=(show Blk w1 _ _ _ from H1.out.2).frozen 1
          have H4:=hide (And.intro hcan4 (And.intro hn4 hw4))
          clear hcan4 hn4 hw4
          refine (digits_any d _ hDs).mono ?_
          rintro e w1' ⟨rfl,rfl⟩
          rw [Hdg.out.1]
          go_wp2
          rw [← H4.out.2.2]
          refine bodyPost_ret (v:=.tuple #[.agg #[.bool false,.slice none 0 0],.int .i64 2]) (by simp [results,Tryz.results82,go_sem,g0,g1]) rfl ⟨false,none,0,0,?_,?_,H4.out.2.1⟩
          · rw [HP.out,Hdg.out.2]
          · rw [HP.out,Hdg.out.2]; exact H4.out.1
    · have hb:(((s[0].toNat:Nat):Int) == 45)=false:=by simp; omega
      have hh2:¬ s.data.toList.head?=some 45:=by
        rw [hhd]
        intro h
        injection h with h
        exact h45 (by rw [h]; rfl)
      have hm0:(s.toList == [45,48])=false:=by
        rw [ByteArray.toList_eq]
        rw [beq_eq_false_iff_ne]
        intro h
        rw [h] at hh2
        exact hh2 rfl
      have hP:p=parseD false s.data.toList:=by rw [hp,parseZ,if_neg hh2]
      have HP:=hide hP
      have hDs:=hs
      clear hp hhd h45 hh2 hP
      go_enter Tryz.func82,Tryz.ntmps82
      go_wp2
      go_quiet (fail)
      go_wp2_with fail
      obtain⟨w1,hw1⟩:∃ w1,w1=(w.alloc (.cells #[.bool false,.slice none 0 0] 26)).drewN nq:=⟨_,rfl⟩
      have hn1:New w w1:=by rw [hw1]; exact ((Upd.refl _ _).alloc _).drewN _
      have hb1:Blk w1 w.heap.size 26 [.bool false,.slice none 0 0]:=by rw [hw1]; exact Blk.new w _ _
      rw [← hw1]
      have H1:=hide (And.intro hn1 (hide hb1))
      clear hw1 hn1 hb1
      -- the sign is known: s,false
      by_cases hdg:digB s.data.toList=true
      · have Hdg:=hide hdg
        have hDall:∀ c∈s.data.toList,48≤c.toNat∧c.toNat≤57:=fun c hc=>by
          have h:=hdg
          simp only [digB,Bool.and_eq_true] at h
          have:=List.all_eq_true.1 h.1 c hc
          simpa [isDig] using this
        have HD:=hide hDall
        clear hdg hDall
        refine (digits_any s _ hDs).mono ?_
        rintro e w1' ⟨rfl,rfl⟩
        rw [Hdg.out]
        go_wp2
        go_loopw [6,33] (fun m i wr=>∃ (k V:Nat) (A:Option Addr) (n c:Nat),k≤s.size∧i=.int .i64 k∧m=.slice A n c∧n≤8∧Hid (n=(canon V).length∧V=decV (s.data.toList.take k))∧Own wr w.heap.size 59 1 m n (encW (canon V))∧New w wr∧Hid (Blk wr w.heap.size 26 [.bool false,.slice none 0 0])) (fun _ i _=>s.size - (intOf i).toNat)
        case atStart=>exact⟨0,0,none,0,0,by omega,rfl,rfl,by omega,⟨by rw [canon_zero]; rfl,rfl⟩,by rw [canon_zero]; exact Own.nil_ _ _ _ _,H1.out.1,H1.out.2⟩
        case round =>
          obtain⟨k,V,A,n,c,hk,rfl,rfl,hn8,hV,hown,hnew,hbox⟩:=hrel
          have HV:=hide (show n=(canon V).length∧V=decV (s.data.toList.take k) from hV)
          clear hV
          by_cases hlt:k < s.size
          · obtain⟨x,hx⟩:∃ x,x=s[k].toNat:=⟨_,rfl⟩
            have hgk:s.data.toList[k]?=some s[k]:=by
              have h:k < s.data.toList.length:=by rw [len_data]; exact hlt
              rw [List.getElem?_eq_getElem h]
              rfl
            have hxr:=HD.out s[k] (List.mem_of_getElem? hgk)
            rw [← hx] at hxr
            obtain⟨hx1,hx2⟩:=hxr
            have hsucc:decV (s.data.toList.take (k + 1))=10 * V + (x - 48):=by
              rw [List.take_add_one,hgk]
              show decV (s.data.toList.take k ++ [s[k]])=_
              rw [decV_snoc,← HV.out.2,← hx]
            have hM:=mulTen_start (limbs_canon V) (x - 48)
            have hcast:(x:Int) - 48=((x - 48:Nat):Int):=by omega
            have H0:=hide (And.intro hown (And.intro hnew (And.intro hbox (And.intro hsucc (And.intro hM hcast)))))
            have hxk:s[k].toNat=x:=hx.symm
            have hxlo:48≤s[k].toNat:=by omega
            have hxhi:s[k].toNat≤57:=by omega
            have Hxk:=hide hxk
            clear hown hnew hbox hgk hsucc hM hcast hx hxk
            go_upto_region 11 with (fail)
            rw [Hxk.out,H0.out.2.2.2.2.2]
            clear hxlo hxhi
            obtain⟨dg,hdgx⟩:∃ dg,dg=x - 48:=⟨_,rfl⟩
            rw [← hdgx]
            have hd9:dg≤9:=by omega
            have H2:=hide (And.intro H0.out.1 (And.intro H0.out.2.1 (And.intro H0.out.2.2.1 (And.intro (by rw [hdgx]; exact H0.out.2.2.2.1:decV (s.data.toList.take (k + 1))=10 * V + dg) (by rw [hdgx]; exact H0.out.2.2.2.2.1:MulTen (canon V) (canon V) 0 dg dg)))))
            clear H0 hdgx
            go_wp2
            go_loopw [8,43] (fun cv i wr=>∃ (t cc:Nat) (m2:List Nat),t≤n∧i=.int .i64 t∧cv=.int .u64 (cc:Int)∧cc≤9∧Hid (MulTen (canon V) m2 t cc dg)∧Own wr w.heap.size 59 1 (.slice A n c) n (encW m2)∧New w wr∧Hid (Blk wr w.heap.size 26 [.bool false,.slice none 0 0])) (fun _ i _=>n - (intOf i).toNat)
            case atStart=>exact⟨0,dg,canon V,by omega,rfl,rfl,hd9,H2.out.2.2.2.2,H2.out.1,H2.out.2.1,H2.out.2.2.1⟩
            case round =>
              obtain⟨t,cc,m2,ht,rfl,rfl,hcc,hM,hown,hnew,hbox⟩:=hrel
              have hM':MulTen (canon V) m2 t cc dg:=hM
              by_cases hlt2:t < n
              · obtain⟨g,rfl,hnc,hcm,hbg,hgl,hcell,hfz,hset⟩:=hown.place (j:=t) hlt2
                rw [encW_get _ _ (by rw [hM'.len,← HV.out.1]; exact hlt2),hM'.same t (Nat.le_refl _)] at hcell
                obtain⟨hs1,hs2⟩:=mulTen_step (limbs_canon V) hM' (by rw [← HV.out.1]; exact hlt2) hcc
                obtain⟨y,hy⟩:∃ y,y=(canon V).getD t 0:=⟨_,rfl⟩
                rw [← hy] at hcell hs1 hs2
                have hyb:y < 4294967296:=by rw [hy]; exact (limbs_canon V).at _
                obtain⟨s,hs⟩:∃ s,s=cc + 10 * y:=⟨_,rfl⟩
                rw [← hs] at hs1 hs2
                have e1:Value.int .u32 (((cc:Int) + 10 * (y:Int)) % 4294967296)=.int .u32 ((s % 4294967296:Nat):Int):=by congr 1; rw [hs]; simp
                have e2:Value.int .u64 (((cc:Int) + 10 * (y:Int)) / 4294967296)=.int .u64 ((s / 4294967296:Nat):Int):=by congr 1; rw [hs]; simp
                have hgq:g ≠ w.heap.size:=fun h=>hown.ne_blk (show Blk wr _ _ _ from hbox) (by decide) g (by
                  obtain⟨c',rfl⟩:∃ c',c=c' + 1:=⟨c - 1,by omega⟩
                  rfl) h
                have Hs:=hide (And.intro hset (And.intro hs1 (And.intro e1 (And.intro e2 (And.intro hnew (And.intro hgq hbox))))))
                clear hset hs1 e1 e2 hnew hgq hbox hM hM' hy hs hown hcm
                go_wp2
                go_roundw
                case rel =>
                  obtain⟨hset,hs1,e1,e2,hnew,hgq,hbox⟩:=Hs.out
                  refine ⟨t + 1,s / 4294967296,m2.set t (s % 4294967296),by omega,by go_num,e2,hs2,hs1,?_,New.setAt hnew hbg _ _,(show Blk wr _ _ _ from hbox).far (p:=⟨g,t,none⟩) (Ne.symm hgq) _⟩
                  rw [e1,encW_set]
                  exact hset _
                case measure=>simp [intOf] <;> omega
              · obtain rfl:t=n:=by omega
                have hend:val (m2 ++ [cc])=10 * V + dg:=by
                  have h:=hM'
                  rw [HV.out.1] at h
                  have:=mulTen_end h
                  rwa [val_canon] at this
                have hlm:Limbs (m2 ++ [cc]):=hM'.limbs.app (Limbs.cons (by omega) Limbs.nil)
                have hA:New wr (wr.alloc (.cells #[.int .u32 (cc:Int)] 59)):=(Upd.refl _ _).alloc _
                have P0:=push_limb hown hnew cc
                have P:=hide (And.intro P0.1 (And.intro P0.2.1 (And.intro P0.2.2.1 (And.intro P0.2.2.2 (And.intro ((show Blk wr _ _ _ from hbox).new_ hA) (And.intro hend hlm))))))
                clear hown hnew hbox hM hM' hend hlm hA P0
                go_wp2_with (at_builtin; refine wpList_append_row _ rfl (.tmp 61) (.tmp 64) elW rfl w.heap.size (.slice A t c) t (encW m2) rfl P.out.1 (.slice (some ⟨wr.heap.size,0,none⟩) 1 1) 1 (encW [cc]) rfl P.out.2.1 (encW_one _) (by omega) (by unfold maxLen; omega) P.out.2.2.1 ?_; intro v2 w2 hown2 hg2 _)
                have hn2:=push_new P.out.2.2.2.1 P.out.1 hg2
                have hu2:Upd (fun q=>ownB (.slice A t c)=some q) (wr.alloc (.cells #[.int .u32 (cc:Int)] 59)) w2:=(Upd.refl _ _).grown hg2 fun q hq=>.inl hq
                have hbox2:=P.out.2.2.2.2.1.upd hu2 fun hq=>P.out.1.ne_blk P.out.2.2.2.2.1 (by decide) _ hq rfl
                rw [← encW_app] at hown2
                obtain⟨A2,c2,rfl⟩:=hown2.row.form
                have Q:=hide (And.intro hown2 (And.intro hn2 hbox2))
                clear hu2 hbox2 hn2 hown2 hg2
                go_wp2_with fail
                refine (trim_any A2 (t + 1) c2 (m2 ++ [cc]) _ Q.out.1.row P.out.2.2.2.2.2.2).mono ?_
                rintro e w3 ⟨rfl,rfl⟩
                have hot:=Q.out.1.trim P.out.2.2.2.2.2.2
                rw [P.out.2.2.2.2.2.1] at hot ⊢
                obtain⟨nz,hnz⟩:∃ nz,nz=(canon (10 * V + dg)).length:=⟨_,rfl⟩
                rw [← hnz] at hot ⊢
                have hnzb:nz≤9:=by
                  have h1:(canon (10 * V + dg)).length≤t + 1:=by
                    have h:=val_lt P.out.2.2.2.2.2.2
                    have hl:(m2 ++ [cc]).length=t + 1:=by have:=Q.out.1.len; simpa [encW] using this
                    rw [P.out.2.2.2.2.2.1,hl] at h
                    exact canon_len_le h
                  omega
                have Hot:=hide (And.intro hot hnz)
                clear hot hnz
                by_cases hfit:nz≤8
                · go_wp2
                  go_roundw
                  case rel=>exact⟨k + 1,10 * V + dg,A2,nz,c2,by omega,by go_num,rfl,hfit,⟨Hot.out.2,H2.out.2.2.2.1.symm⟩,Hot.out.1,Q.out.2.1,Q.out.2.2⟩
                  case measure=>simp [intOf] <;> omega
                · have hbig:2 ^ 256≤decV s.data.toList:=by
                    have h1:=decV_mono s.data.toList (k + 1)
                    rw [H2.out.2.2.2.1] at h1
                    have h2:¬ (10 * V + dg) < 2 ^ 256:=by
                      rw [← canon_len8,← Hot.out.2]
                      exact hfit
                    omega
                  have hz:parseD false s.data.toList=(0,3):=by rw [parseD,if_pos Hdg.out,if_pos hbig]
                  obtain⟨w4,hw4,hcan4,hn4,g0,g1,-⟩:=(CanAt.zero w2).store Q.out.2.2 Q.out.2.1 (Nat.le_refl _)
                  have hb2:Blk w2 w.heap.size 26 [.bool false,.slice none 0 0]:=Q.out.2.2
                  have r0:w2.cell? ⟨w.heap.size,0,none⟩=some (.bool false):=hb2.cell 0
                  have r1:w2.cell? ⟨w.heap.size,1,none⟩=some (.slice none 0 0):=hb2.cell 1
                  have f0:=hb2.frozen 0
                  have f1:=hb2.frozen 1
                  have H4:=hide (And.intro hcan4 (And.intro hn4 (And.intro hw4 hz)))
                  clear hbig hz hcan4 hn4 hw4 hb2
                  go_wp2
                  rw [← H4.out.2.2.1]
                  refine bodyPost_ret (v:=.tuple #[.agg #[.bool false,.slice none 0 0],.int .i64 3]) (by simp [results,Tryz.results82,go_sem,g0,g1]) rfl ⟨false,none,0,0,?_,?_,H4.out.2.1⟩
                  · rw [HP.out,H4.out.2.2.2]
                  · rw [HP.out,H4.out.2.2.2]; exact H4.out.1
          · obtain rfl:k=s.size:=by omega
            have hVd:V=decV s.data.toList:=by
              have h:=HV.out.2
              rwa [List.take_of_length_le (by rw [len_data]; exact Nat.le_refl _)] at h
            have hVb:¬ 2 ^ 256≤decV s.data.toList:=by
              rw [← hVd]
              have h:=(canon_len8 V).1 (by rw [← HV.out.1]; exact hn8)
              omega
            have hz:parseD false s.data.toList=(sgn false V,0):=by rw [parseD,if_pos Hdg.out,if_neg hVb,hVd]
            have Q:=hide (And.intro hown (And.intro hnew (And.intro hbox hz)))
            clear hown hnew hbox hz hVb hVd
            go_wp2_with fail
            refine (made_any A n c _ false _ Q.out.1.row (limbs_canon _)).mono ?_
            rw [val_canon]
            rintro e w5 ⟨f,A5,n5,c5,rfl,hcan,hm5⟩
            have hb5:=(show Blk wr _ _ _ from Q.out.2.2.1).new_ hm5
            have f0:=hb5.frozen 0
            have f1:=hb5.frozen 1
            have r0:w5.cell? ⟨w.heap.size,0,none⟩=some (.bool false):=hb5.cell 0
            have r1:w5.cell? ⟨w.heap.size,1,none⟩=some (.slice none 0 0):=hb5.cell 1
            obtain⟨w6,hw6,hcan6,hn6,g0,g1,-⟩:=hcan.store hb5 (Q.out.2.1.transNew hm5) (Nat.le_refl _)
            have H6:=hide (And.intro hcan6 (And.intro hn6 hw6))
            clear hb5 hcan hm5 hcan6 hn6 hw6
            go_wp2
            rw [← H6.out.2.2]
            refine bodyPost_ret (v:=.tuple #[.agg #[.bool f,.slice A5 n5 c5],.int .i64 0]) (by simp [results,Tryz.results82,go_sem,g0,g1]) rfl ⟨f,A5,n5,c5,?_,?_,H6.out.2.1⟩
            · rw [HP.out,Q.out.2.2.2]
            · rw [HP.out,Q.out.2.2.2]; exact H6.out.1
      · have hdg':digB s.data.toList=false:=by simpa using hdg
        have hz:parseD false s.data.toList=(0,2):=by rw [parseD,if_neg hdg]
        have Hdg:=hide (And.intro hdg' hz)
        clear hdg hdg' hz
        obtain⟨w4,hw4,hcan4,hn4,g0,g1,-⟩:=(CanAt.zero w1).store H1.out.2 H1.out.1 (Nat.le_refl _)
        have r0:w1.cell? ⟨w.heap.size,0,none⟩=some (.bool false):=(show Blk w1 _ _ _ from H1.out.2).cell 0
        have r1:w1.cell? ⟨w.heap.size,1,none⟩=some (.slice none 0 0):=(show Blk w1 _ _ _ from H1.out.2).cell 1
        have f0:=(show Blk w1 _ _ _ from H1.out.2).frozen 0
        have f1:=(show Blk w1 _ _ _ from H1.out.2).frozen 1
        have H4:=hide (And.intro hcan4 (And.intro hn4 hw4))
        clear hcan4 hn4 hw4
        refine (digits_any s _ hDs).mono ?_
        rintro e w1' ⟨rfl,rfl⟩
        rw [Hdg.out.1]
        go_wp2
        rw [← H4.out.2.2]
        refine bodyPost_ret (v:=.tuple #[.agg #[.bool false,.slice none 0 0],.int .i64 2]) (by simp [results,Tryz.results82,go_sem,g0,g1]) rfl ⟨false,none,0,0,?_,?_,H4.out.2.1⟩
        · rw [HP.out,Hdg.out.2]
        · rw [HP.out,Hdg.out.2]; exact H4.out.1
  · have hnil:s.data.toList=[]:=List.eq_nil_of_length_eq_zero (by rw [len_data]; omega)
    obtain rfl:s=⟨#[]⟩:=by
      cases s with
      | mk d =>
        have:d=#[]:=Array.ext' hnil
        subst this
        rfl
    have hP:p=(0,2):=by rw [hp]; rfl
    have HP:=hide hP
    have hdg:digB (⟨#[]⟩:ByteArray).data.toList=false:=rfl
    have Hdg:=hide hdg
    clear hp hP hnil hsz hdg
    go_enter Tryz.func82,Tryz.ntmps82
    go_wp2
    go_quiet (fail)
    go_wp2_with fail
    obtain⟨w1,hw1⟩:∃ w1,w1=(w.alloc (.cells #[.bool false,.slice none 0 0] 26)).drewN nq:=⟨_,rfl⟩
    have hn1:New w w1:=by rw [hw1]; exact ((Upd.refl _ _).alloc _).drewN _
    have hb1:Blk w1 w.heap.size 26 [.bool false,.slice none 0 0]:=by rw [hw1]; exact Blk.new w _ _
    rw [← hw1]
    obtain⟨w4,hw4,hcan4,hn4,g0,g1,-⟩:=(CanAt.zero w1).store hb1 hn1 (Nat.le_refl _)
    have r0:w1.cell? ⟨w.heap.size,0,none⟩=some (.bool false):=hb1.cell 0
    have r1:w1.cell? ⟨w.heap.size,1,none⟩=some (.slice none 0 0):=hb1.cell 1
    have f0:=hb1.frozen 0
    have f1:=hb1.frozen 1
    have H4:=hide (And.intro hcan4 (And.intro hn4 hw4))
    clear hcan4 hn4 hw4 hw1 hn1 hb1
    refine (digits_any _ _ hs).mono ?_
    rintro e w1' ⟨rfl,rfl⟩
    rw [Hdg.out]
    go_wp2
    rw [← H4.out.2.2]
    refine bodyPost_ret (v:=.tuple #[.agg #[.bool false,.slice none 0 0],.int .i64 2]) (by simp [results,Tryz.results82,go_sem,g0,g1]) rfl ⟨false,none,0,0,?_,?_,H4.out.2.1⟩
    · rw [HP.out]
    · rw [HP.out]; exact H4.out.1

end Go.Proofs.YtecgdgjlmlpcnaaGreatDoor
