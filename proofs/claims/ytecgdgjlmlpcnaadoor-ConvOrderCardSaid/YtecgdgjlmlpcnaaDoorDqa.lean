import Derived.Test.YtecgdgjlmlpcnaaDoorCvSeat
import Derived.Test.YtecgdgjlmlpcnaaDoorShort
import Derived.Test.YtecgdgjlmlpcnaaDoorReg2
import Derived.Test.YtecgdgjlmlpcnaaDoorCvShelf
import Derived.Laws.BytesArg
import Derived.Lib.IndexBytes
import Derived.Lib.SliceRun
import Derived.Lib.ItoaLen
import Derived.WalkLawsBesides
import Derived.WalkSpells
import Derived.Outline
import Derived.KernelRfl
import Derived.RegionTactic
import Derived.Deep.QuietTactic
import Derived.BigQuiet
import Derived.OwnWalk
import Derived.Laws.BitsAll
import Derived.Laws.DeepBits32
import Derived.Deep.OwnRows
import Derived.Deep.DeepCutAuto
import Derived.Deep.CutBlock
import Derived.ChangeAlike
import Derived.Laws.CopyOwn
import Derived.Laws.Bits64b
import Derived.Deep.LoopGhost
import Derived.Laws.BytesArg
import Derived.Lib.IndexBytes
namespace Go.Proofs.YtecgdgjlmlpcnaaDoor
open Go.RowKit
set_option linter.unusedSimpArgs false
set_option linter.unusedVariables false
set_option maxHeartbeats 16000000
set_option maxRecDepth 100000
structure Nm where
  k : Int
  n : Int
deriving DecidableEq
def nmayB (a : Nm) : Bool := if decide (a.k = 0) then !decide (a.n < -9007199254740991) && decide (a.n ≤ 9007199254740991)
  else if decide (a.k = 1) || decide (a.k = 2) || decide (a.k = 3) || decide (a.k = 4) then decide (a.n = 0) else false
def asM (a : Nm) : Nm := if nmayB a then a else ⟨2, 0⟩
def noughtB (a : Nm) : Bool := decide (a.k = 1) || (decide (a.k = 0) && decide (a.n = 0))
def noughtM (d : Bool) : Nm := if d then ⟨1, 0⟩ else ⟨0, 0⟩
def infM (d : Bool) : Nm := if d then ⟨4, 0⟩ else ⟨3, 0⟩
def negA (a : Nm) : Nm := if decide (a.k = 2) then a else if decide (a.k = 3) || decide (a.k = 4) then infM (decide (a.k = 3)) else if decide (a.k = 1) then ⟨0, 0⟩ else if decide (a.n = 0) then ⟨1, 0⟩ else ⟨0, -a.n⟩
def negM (a : Nm) : Nm := negA (asM a)
def rankM (a : Nm) : Int := if decide (a.k = 3) then 9007199254740992 else if decide (a.k = 4) then -9007199254740992 else a.n
def equalA (a b : Nm) : Bool := !decide (a.k = 2) && !decide (b.k = 2) && decide (rankM a = rankM b)
def equalM (a b : Nm) : Bool := equalA (asM a) (asM b)
def wholeM (a : Nm) : Nm := if decide ((asM a).k = 2) || decide ((asM a).k = 1) then ⟨0, 0⟩ else asM a
def indexM (a : Nm) : Int × Bool := if decide ((wholeM a).k = 0) && !decide ((wholeM a).n < 0) then ((wholeM a).n, true) else (0, false)
/-- the five kinds -/
theorem as_cases (a : Nm) : (∃ n, asM a = ⟨0, n⟩ ∧ -9007199254740991 ≤ n ∧ n ≤ 9007199254740991) ∨ asM a = ⟨1, 0⟩ ∨ asM a = ⟨2, 0⟩ ∨ asM a = ⟨3, 0⟩ ∨ asM a = ⟨4, 0⟩ := by
  obtain ⟨k, n⟩ := a
  unfold asM nmayB
  by_cases h0 : k = 0
  · subst h0
    by_cases h1 : n < -9007199254740991
    · simp [h1]
    · by_cases h2 : n ≤ 9007199254740991
      · simp [h1, h2]; omega
      · simp [h1, h2]
  · by_cases hn : n = 0
    · subst hn
      by_cases h1 : k = 1
      · simp [h1]
      · by_cases h2 : k = 2
        · simp [h2]
        · by_cases h3 : k = 3
          · simp [h3]
          · by_cases h4 : k = 4 <;> simp [h0, h1, h2, h3, h4]
    · by_cases h1 : k = 1 ∨ k = 2 ∨ k = 3 ∨ k = 4
      · rcases h1 with rfl | rfl | rfl | rfl <;> simp [hn]
      · simp [h0, hn]
theorem as_bd (a : Nm) : -9007199254740991 ≤ (asM a).n ∧ (asM a).n ≤ 9007199254740991 := by
  rcases as_cases a with ⟨n, h, h1, h2⟩ | h | h | h | h <;> rw [h] <;> simp <;> omega
def mayB (b : Bool) (m : List Nat) : Bool := decide (m.length ≤ 8) && ((decide (m.length = 0) && !b) || (decide (0 < m.length) && decide (m.getD (m.length - 1) 0 ≠ 0)))
def sgn (b : Bool) (n : Nat) : Int := if b then -(n : Int) else n
/-- What a number that came in is worth: nothing, if it may not be one. -/
def goodI (b : Bool) (m : List Nat) : Int := if mayB b m then sgn b (val m) else 0
theorem natAbs_sgn (b : Bool) (n : Nat) : (sgn b n).natAbs = n := by cases b <;> simp [sgn]
theorem may_trim {b : Bool} {m : List Nat} (h : mayB b m = true) : Trim m ∧ m.length ≤ 8 ∧ (b = true → m ≠ []) := by
  simp only [mayB, Bool.and_eq_true, decide_eq_true_eq, Bool.or_eq_true, Bool.not_eq_true', ne_eq] at h
  obtain ⟨h8, h | h⟩ := h
  · exact ⟨.inl (List.eq_nil_of_length_eq_zero h.1), h8, fun hb => by rw [h.2] at hb; cases hb⟩
  · exact ⟨.inr (by omega), h8, fun _ h0 => by rw [h0] at h; simp at h⟩
theorem canon_good {b : Bool} {m : List Nat} (hl : Limbs m) : canon (goodI b m).natAbs = if mayB b m then m else [] := by
  unfold goodI
  split
  · rename_i h
    rw [natAbs_sgn, ← canon_val hl (may_trim h).1]
  · exact canon_zero
theorem val_pos {m : List Nat} (hl : Limbs m) (ht : Trim m) (h : m ≠ []) : 0 < val m := by
  have h1 := canon_val hl ht
  rcases Nat.eq_zero_or_pos (val m) with h0 | h0
  · rw [h0, canon_zero] at h1
    exact absurd h1 h
  · exact h0
theorem neg_good {b : Bool} {m : List Nat} (hl : Limbs m) : decide (goodI b m < 0) = (mayB b m && b) := by
  unfold goodI
  cases h : mayB b m
  · simp
  · obtain ⟨h1, _, h3⟩ := may_trim h
    cases b
    · simp [sgn]
    · have := val_pos hl h1 (h3 rfl)
      simp [sgn]; omega
theorem good_lt {b : Bool} {m : List Nat} (hl : Limbs m) : (goodI b m).natAbs < 2 ^ 256 := by
  rw [← canon_len8, canon_good hl]
  split
  · exact (may_trim ‹_›).2.1
  · simp
theorem may_canon {z : Int} (h : z.natAbs < 2 ^ 256) : mayB (decide (z < 0)) (canon z.natAbs) = true := by
  have h8 := (canon_len8 z.natAbs).2 h
  simp only [mayB, Bool.and_eq_true, decide_eq_true_eq, Bool.or_eq_true, Bool.not_eq_true', ne_eq]
  refine ⟨h8, ?_⟩
  rcases trim_canon z.natAbs with h0 | h0
  · refine .inl ⟨by rw [h0]; rfl, ?_⟩
    have := canon_nil.1 h0
    simp; omega
  · refine .inr ⟨?_, by omega⟩
    rcases Nat.eq_zero_or_pos (canon z.natAbs).length with h1 | h1
    · rw [List.eq_nil_of_length_eq_zero h1] at h0
      simp at h0
    · exact h1
theorem sgn_zero (d : Bool) : sgn d 0 = 0 := by cases d <;> rfl
theorem sgn_neg {d : Bool} {n : Nat} (h : 0 < n) : decide (sgn d n < 0) = d := by cases d <;> simp [sgn]; omega
def cmpI (a b : Nat) : Int := if a < b then -1 else if b < a then 1 else 0
/-- How two numbers lie to one another. -/
def cmpZ (a b : Int) : Int := if a < b then -1 else if b < a then 1 else 0
theorem cmpZ_np {a b : Int} (ha : a < 0) (hb : ¬ b < 0) : cmpZ a b = -1 := by unfold cmpZ; rw [if_pos (by omega)]
theorem cmpZ_pn {a b : Int} (ha : ¬ a < 0) (hb : b < 0) : cmpZ a b = 1 := by unfold cmpZ; rw [if_neg (by omega), if_pos (by omega)]
theorem cmpZ_nn {a b : Int} (ha : a < 0) (hb : b < 0) : cmpI b.natAbs a.natAbs = cmpZ a b := by
  unfold cmpZ cmpI
  by_cases h : a < b
  · rw [if_pos h, if_pos (by omega)]
  · by_cases h2 : b < a
    · rw [if_neg h, if_pos h2, if_neg (by omega), if_pos (by omega)]
    · rw [if_neg h, if_neg h2, if_neg (by omega), if_neg (by omega)]
theorem cmpZ_pp {a b : Int} (ha : ¬ a < 0) (hb : ¬ b < 0) : cmpI a.natAbs b.natAbs = cmpZ a b := by
  unfold cmpZ cmpI
  by_cases h : a < b
  · rw [if_pos h, if_pos (by omega)]
  · by_cases h2 : b < a
    · rw [if_neg h, if_pos h2, if_neg (by omega), if_pos (by omega)]
    · rw [if_neg h, if_neg h2, if_neg (by omega), if_neg (by omega)]
/-- The digits of a number, the least first; nought has none. -/
def digs (n : Nat) : List Nat := if h : n = 0 then [] else n % 10 :: digs (n / 10)
termination_by n
decreasing_by omega
theorem digs_zero : digs 0 = [] := by unfold digs; simp
theorem digs_pos {n : Nat} (h : 0 < n) : digs n = n % 10 :: digs (n / 10) := by
  conv => lhs; unfold digs
  rw [dif_neg (by omega)]
theorem digs_len {n k : Nat} (h : n < 10 ^ k) : (digs n).length ≤ k := by
  induction k generalizing n with
  | zero =>
    have : n = 0 := by simpa using h
    rw [this, digs_zero]; simp
  | succ k ih =>
    rcases Nat.eq_zero_or_pos n with rfl | h0
    · rw [digs_zero]; simp
    · rw [digs_pos h0, List.length_cons]
      have : n / 10 < 10 ^ k := by
        rw [Nat.pow_succ] at h
        exact Nat.div_lt_of_lt_mul (by rw [Nat.mul_comm]; exact h)
      have := ih this
      omega
theorem digs_big {n : Nat} (h : n < 2 ^ 256) : (digs n).length ≤ 78 := digs_len (Nat.lt_trans h (by decide +kernel))
/-- A digit's letter. -/
def letter (d : Nat) : Int := ((48 + d : Nat) : Int)
/-- The text of a number. -/
def textI (z : Int) : List Int := if z = 0 then [48] else (if z < 0 then [45] else []) ++ ((digs z.natAbs).map letter).reverse
theorem val_drop (l : List Nat) (k : Nat) : val (l.drop k) = l.getD k 0 + 4294967296 * val (l.drop (k + 1)) := by
  rcases Nat.lt_or_ge k l.length with h | h
  · rw [List.drop_eq_getElem_cons h]
    simp [val, List.getD, h]
  · rw [List.drop_eq_nil_of_le h, List.drop_eq_nil_of_le (by omega)]
    simp [val, List.getD, h]
theorem getD_set_self {l : List Nat} {k : Nat} (x : Nat) (h : k < l.length) : (l.set k x).getD k 0 = x := by simp [List.getD, h]
/-- A number divided by ten, limb by limb from the top. -/
structure TenAt (m m2 : List Nat) (k r : Nat) : Prop where
  limbs : Limbs m2
  len : m2.length = m.length
  same : ∀ j, j < k → m2.getD j 0 = m.getD j 0
  quot : val (m2.drop k) = val (m.drop k) / 10
  rest : r = val (m.drop k) % 10
theorem ten_start {m : List Nat} (h : Limbs m) : TenAt m m m.length 0 := by
  refine ⟨h, rfl, fun _ _ => rfl, ?_, ?_⟩ <;> simp [val]
theorem ten_step {m m2 : List Nat} {p r : Nat} (hm : Limbs m) (h : TenAt m m2 (p + 1) r) (hp : p < m.length) :
    TenAt m (m2.set p ((r * 4294967296 + m.getD p 0) / 10)) p ((r * 4294967296 + m.getD p 0) % 10) ∧ (r * 4294967296 + m.getD p 0) / 10 < 4294967296 ∧ r < 10 := by
  have hx := hm.at p
  have hr : r < 10 := by rw [h.rest]; exact Nat.mod_lt _ (by omega)
  have hq : (r * 4294967296 + m.getD p 0) / 10 < 4294967296 := by omega
  have hd := val_drop m p
  have hr' := h.rest
  have hq' := h.quot
  generalize hH : val (m.drop (p + 1)) = H at hd hr' hq'
  generalize hxx : m.getD p 0 = x at *
  have hdm : H = 10 * (H / 10) + r := by omega
  generalize hQ : H / 10 = Q at *
  have e : x + 4294967296 * H = 10 * (4294967296 * Q) + (r * 4294967296 + x) := by omega
  generalize hs : r * 4294967296 + x = s at *
  refine ⟨⟨h.limbs.set _ hq, by simp [h.len], fun j hj => ?_, ?_, ?_⟩, hq, hr⟩
  · rw [← h.same j (by omega)]
    simp [List.getD, show p ≠ j by omega]
  · have h1 := val_drop (m2.set p (s / 10)) p
    have h2 : (m2.set p (s / 10)).getD p 0 = s / 10 := getD_set_self _ (by rw [h.len]; exact hp)
    have h3 : (m2.set p (s / 10)).drop (p + 1) = m2.drop (p + 1) := by rw [List.drop_set_of_lt (by omega)]
    rw [h3, hq', h2] at h1
    rw [hd, e, h1]
    generalize 4294967296 * Q = y
    omega
  · rw [hd, e, Nat.mul_add_mod 10 (4294967296 * Q) s]
theorem ten_end {m m2 : List Nat} {r : Nat} (h : TenAt m m2 0 r) : val m2 = val m / 10 ∧ r = val m % 10 := by
  have h1 := h.quot
  have h2 := h.rest
  rw [List.drop_zero, List.drop_zero] at h1
  rw [List.drop_zero] at h2
  exact ⟨h1, h2⟩
/-- A list whose first i and last i are exchanged. -/
def turned (l : List Int) (i : Nat) : List Int := (List.range l.length).map fun t => if t < i ∨ l.length - 1 - t < i then l.getD (l.length - 1 - t) 0 else l.getD t 0
theorem length_turned (l : List Int) (i : Nat) : (turned l i).length = l.length := by simp [turned]
theorem get_turned (l : List Int) (i t : Nat) (h : t < l.length) : (turned l i).getD t 0 = if t < i ∨ l.length - 1 - t < i then l.getD (l.length - 1 - t) 0 else l.getD t 0 := by
  simp [turned, List.getD, h]
theorem ext_getD {a b : List Int} (hl : a.length = b.length) (h : ∀ t, t < a.length → a.getD t 0 = b.getD t 0) : a = b := by
  refine List.ext_getElem hl fun t h1 h2 => ?_
  have := h t h1
  simpa [List.getD, h1, h2] using this
theorem getD_set (l : List Int) (k t : Nat) (x : Int) (h : k < l.length) : (l.set k x).getD t 0 = if t = k then x else l.getD t 0 := by
  by_cases e : t = k
  · subst e; simp [List.getD, h]
  · rw [if_neg e]; simp [List.getD, Ne.symm e]
theorem turned_zero (l : List Int) : turned l 0 = l := by
  refine ext_getD (length_turned l 0) fun t ht => ?_
  rw [length_turned] at ht
  rw [get_turned l 0 t ht, if_neg (by omega)]
theorem turned_succ (l : List Int) (i : Nat) (h : i + i + 1 < l.length) : ((turned l i).set i ((turned l i).getD (l.length - 1 - i) 0)).set (l.length - 1 - i) ((turned l i).getD i 0) = turned l (i + 1) := by
  refine ext_getD (by simp [length_turned]) fun t ht => ?_
  have ht' : t < l.length := by simpa [length_turned] using ht
  rw [getD_set _ _ _ _ (by simp [length_turned]; omega), getD_set _ _ _ _ (by rw [length_turned]; omega), get_turned l i _ (by omega), get_turned l i _ (by omega), get_turned l i _ ht', get_turned l (i + 1) _ ht']
  have e1 : l.length - 1 - (l.length - 1 - i) = i := by omega
  rw [e1]
  by_cases h1 : t = l.length - 1 - i
  · subst h1
    rw [e1, if_pos rfl, if_neg (by omega), if_pos (by omega)]
  · rw [if_neg h1]
    by_cases h2 : t = i
    · subst h2
      rw [if_pos rfl, if_neg (by omega), if_pos (by omega)]
    · rw [if_neg h2]
      by_cases h3 : t < i ∨ l.length - 1 - t < i
      · rw [if_pos h3, if_pos (by omega)]
      · rw [if_neg h3, if_neg (by omega)]
theorem turned_end (l : List Int) (i : Nat) (h : l.length ≤ i + i + 1) : turned l i = l.reverse := by
  refine ext_getD (by simp [length_turned]) fun t ht => ?_
  rw [length_turned] at ht
  have hr : l.reverse.getD t 0 = l.getD (l.length - 1 - t) 0 := by
    rw [List.getD, List.getD, List.getElem?_reverse ht]
  rw [get_turned l i t ht, hr]
  by_cases h3 : t < i ∨ l.length - 1 - t < i
  · rw [if_pos h3]
  · rw [if_neg h3, show l.length - 1 - t = t by omega]
theorem or_word {r x : Nat} (hx : x < 4294967296) : (r * 4294967296) ||| x = r * 4294967296 + x := by
  have e : 4294967296 = 2 ^ 32 := by decide
  have hx' : x < 2 ^ 32 := by omega
  have h := Nat.two_pow_add_eq_or_of_lt hx' r
  rw [Nat.mul_comm, e, ← h]
theorem textI_pos {z : Int} (h : z ≠ 0) : textI z = ((digs z.natAbs).map letter ++ (if z < 0 then [45] else [])).reverse := by
  rw [textI, if_neg h]
  split <;> simp
theorem len_data (s : ByteArray) : s.data.toList.length = s.size := Array.length_toList
def lettersU (n : Nat) : List UInt8 := ((digs n).map fun d => UInt8.ofNat (48 + d)).reverse
theorem textU_eq (z : Int) : (strOfNums (textI z)).data.toList = if z = 0 then [48] else (if z < 0 then [45] else []) ++ lettersU z.natAbs := by
  have hl : ((digs z.natAbs).map letter).reverse.map (fun n => UInt8.ofNat n.toNat) = lettersU z.natAbs := by
    simp only [lettersU, List.map_reverse, List.map_map]
    congr 1
  unfold strOfNums textI
  simp only
  split
  · rfl
  · rw [List.map_append, hl]
    split <;> rfl
abbrev nv (a : Nm) : Value := .agg #[.int .i64 a.k, .int .i64 a.n]
theorem bsm : (∀ a : Bool, (a && true) = a) ∧ (∀ a : Bool, (true && a) = a) ∧ (∀ a : Bool, (a && false) = false) ∧ (∀ a : Bool, (false && a) = false) ∧ (∀ a : Bool, (a || true) = true) ∧ (∀ a : Bool, (true || a) = true) ∧ (∀ a : Bool, (a || false) = a) ∧ (∀ a : Bool, (false || a) = a) ∧ (!true) = false ∧ (!false) = true ∧
    (∀ (α : Type) (a b : α), (if True then a else b) = a) ∧ (∀ (α : Type) (a b : α), (if False then a else b) = b) ∧ (false = true) = False ∧ decide True = true ∧ decide False = false ∧ ([] : List Nat).length = 0 := by
  refine ⟨?_, ?_, ?_, ?_, ?_, ?_, ?_, ?_, ?_, ?_, ?_, ?_, ?_, ?_, ?_, ?_⟩ <;> simp
structure Vl where
  k : Int
  nk : Int
  nn : Int
  neg : Bool
  mag : List Nat
  s : List Nat
  ref : Int
abbrev vv (v : Vl) (A : Option Addr) (c : Nat) (B : Option Addr) (d : Nat) : Value := .agg #[iv v.k, iv v.nk, iv v.nn, .bool v.neg, sv A v.mag c, sv B v.s d, iv v.ref]
abbrev VP (x : Vl) : Value → World → Prop := fun v W => ∃ (A : Option Addr) (c : Nat) (B : Option Addr) (d : Nat), v = vv x A c B d ∧ SRow W .u32 A x.mag c ∧ SRow W .u16 B x.s d
abbrev Vl.num (v : Vl) : Nm := ⟨v.nk, v.nn⟩
def Vl.z : Vl := ⟨0, 0, 0, false, [], [], 0⟩
def zeroV (v : Vl) : Bool := decide (v.nk = 0) && decide (v.nn = 0) && !v.neg && decide ((v.mag.length : Int) = 0) && decide ((v.s.length : Int) = 0) && decide (v.ref = 0)
def mayV (v : Vl) : Bool :=
  if decide (v.k = 0) || decide (v.k = 1) then zeroV v
  else if decide (v.k = 2) then zeroV { v with ref := 0 } && (decide (v.ref = 0) || decide (v.ref = 1))
  else if decide (v.k = 3) then zeroV { v with nk := 0, nn := 0 } && nmayB v.num
  else if decide (v.k = 4) then zeroV { v with neg := false, mag := [] } && mayB v.neg v.mag
  else if decide (v.k = 5) then zeroV { v with s := [] } && decide ((v.s.length : Int) ≤ 4096)
  else if decide (v.k = 6) then zeroV { v with ref := 0 } && !decide (v.ref < 0)
  else false
def cleanV (v : Vl) : Vl := if mayV v then v else Vl.z

theorem trim_dn' {m : List Nat} {k : Nat} (h0 : 0 < k) (hk : k ≤ m.length) (h : decide ((((m.take k).getD (((m.take k).length : Int) - 1).toNat 0 : Nat) : Int) = 0) = true) (hv : val (m.take k) = val m) : val (m.take (k - 1)) = val m := by
  have h1 := of_decide_eq_true h
  have hl : (m.take k).length = k := by rw [List.length_take]; omega
  rw [hl, show ((k : Int) - 1).toNat = k - 1 by omega] at h1
  have h2 := trim_step (m.take k) (fun e => by rw [e] at hl; simp at hl; omega) (by rw [hl]; omega)
  rw [hl, List.take_take, show min (k - 1) k = k - 1 by omega] at h2
  rw [h2, hv]
theorem trim_nz' {m : List Nat} {k : Nat} (h0 : 0 < k) (hk : k ≤ m.length) (h : decide ((((m.take k).getD (((m.take k).length : Int) - 1).toNat 0 : Nat) : Int) = 0) = false) : 0 < (m.take k).getD (k - 1) 0 := by
  have h1 := of_decide_eq_false h
  have hl : (m.take k).length = k := by rw [List.length_take]; omega
  rw [hl, show ((k : Int) - 1).toNat = k - 1 by omega] at h1
  omega
theorem trim_end' {m : List Nat} {k : Nat} (hl : Limbs m) (hk : k ≤ m.length) (hv : val (m.take k) = val m) (h : k = 0 ∨ 0 < (m.take k).getD (k - 1) 0) : m.take k = canon (val m) := by
  rw [← hv]
  refine canon_val (hl.take k) ?_
  rcases h with rfl | h
  · exact .inl (by simp)
  · exact .inr (by rw [List.length_take, Nat.min_eq_left hk]; exact h)
def cmpI1 (n : Int) : Int := if decide (n < 0) then -1 else if !decide (n ≤ 0) then 1 else 0
theorem sign_eq (n : Int) : min (max n (-1)) 1 = cmpI1 n := by
  unfold cmpI1
  by_cases h1 : n < 0
  · rw [decide_eq_true h1, if_pos rfl]; omega
  · rw [decide_eq_false h1]
    by_cases h2 : n ≤ 0
    · rw [decide_eq_true h2]; simp; omega
    · rw [decide_eq_false h2]; simp; omega
theorem row_none {w : World} {k : IntKind} {A : Option Addr} {xs : List Nat} {c : Nat} (h : SRow w k A xs c) (hA : A.isNone = true) : xs = [] := by
  rcases h.2 with ⟨h0, _⟩ | ⟨b, off, c', hv, _⟩
  · exact List.eq_nil_of_length_eq_zero h0
  · injection hv with h1 _ _
    rw [h1] at hA; cases hA
theorem made_zero {d : Bool} {n : Nat} (h : decide (((canon n).length : Int) = 0) = true) : sgn d n = 0 := by
  have h1 := of_decide_eq_true h
  rw [canon_nil.1 (List.eq_nil_of_length_eq_zero (l := canon n) (by omega)), sgn_zero]
theorem made_nz {d : Bool} {n : Nat} (h : decide (((canon n).length : Int) = 0) = false) : decide (sgn d n < 0) = d := by
  have h1 := of_decide_eq_false h
  rcases Nat.eq_zero_or_pos n with h2 | h2
  · rw [h2, canon_zero] at h1; simp at h1
  · exact sgn_neg h2
theorem above_dn1 {a b : List Nat} {n : Nat} (h : Above a b n) (h0 : 0 < n) (h1 : decide (((a.getD ((n : Int) - 1).toNat 0 : Nat) : Int) = ((b.getD ((n : Int) - 1).toNat 0 : Nat) : Int)) = true) : Above a b (n - 1) := by
  have h3 := of_decide_eq_true h1
  rw [show ((n : Int) - 1).toNat = n - 1 by omega] at h3
  intro j hj
  rcases Nat.lt_or_ge j n with h5 | h5
  · obtain rfl : j = n - 1 := by omega
    omega
  · exact h j h5
theorem above_of_eqlen {a b : List Nat} (h : a.length = b.length) : Above a b a.length := fun j hj => by
  simp [List.getD, show a.length ≤ j by omega, show b.length ≤ j by omega]
theorem cmp_len {a b : List Nat} (ha : Limbs a) (hb : Limbs b) (hta : Trim a) (htb : Trim b) (h : a.length ≠ b.length) : cmpI1 ((a.length : Int) - (b.length : Int)) = cmpI (val a) (val b) := by
  unfold cmpI1 cmpI
  rcases Nat.lt_or_ge a.length b.length with h1 | h1
  · rw [decide_eq_true (by omega), if_pos rfl, if_pos (len_lt ha htb h1)]
  · have h2 := len_lt hb hta (show b.length < a.length by omega)
    rw [decide_eq_false (by omega), decide_eq_false (by omega)]
    simp [show ¬ val a < val b by omega, h2]
theorem cmp_same {a b : List Nat} {n : Nat} (h : Above a b n) (h0 : n = 0) : cmpI (val a) (val b) = 0 := by
  subst h0
  have := eq_of_above h
  unfold cmpI
  rw [if_neg (by omega), if_neg (by omega)]
theorem cmp_at {a b : List Nat} {n : Nat} (ha : Limbs a) (hb : Limbs b) (h : Above a b n) (h0 : 0 < n) (h1 : decide (((a.getD ((n : Int) - 1).toNat 0 : Nat) : Int) = ((b.getD ((n : Int) - 1).toNat 0 : Nat) : Int)) = false) :
    cmpI1 (((a.getD ((n : Int) - 1).toNat 0 : Nat) : Int) - ((b.getD ((n : Int) - 1).toNat 0 : Nat) : Int)) = cmpI (val a) (val b) := by
  have h3 := of_decide_eq_false h1
  rw [show ((n : Int) - 1).toNat = n - 1 by omega] at h3 ⊢
  have e : n - 1 + 1 = n := by omega
  unfold cmpI1 cmpI
  rcases Nat.lt_or_ge (a.getD (n - 1) 0) (b.getD (n - 1) 0) with h4 | h4
  · have := lt_of_diff ha (k := n - 1) (by rw [e]; exact h) h4
    rw [decide_eq_true (by omega), if_pos rfl, if_pos this]
  · have := lt_of_diff hb (k := n - 1) (a := b) (b := a) (by rw [e]; exact fun j hj => (h j hj).symm) (by omega)
    rw [decide_eq_false (by omega), decide_eq_false (by omega)]
    simp [show ¬ val a < val b by omega, this]
theorem same_cmp (x y : Int) : decide (cmpZ x y = 0) = decide (x = y) := by
  rw [decide_eq_decide]
  unfold cmpZ
  split
  · omega
  · split <;> omega
theorem two_limbs_m (u : Nat) : Limbs [u % 4294967296, u / 4294967296 % 4294967296] := Limbs.cons (by omega) (Limbs.cons (by omega) Limbs.nil)
theorem two_val_m {u : Nat} (hu : u < 18446744073709551616) : val [u % 4294967296, u / 4294967296 % 4294967296] = u := by simp [val]; omega
theorem of_conv (n : Int) : IntKind.u64.wrap n = (((n % 18446744073709551616).toNat : Nat) : Int) := by
  rw [Int.toNat_of_nonneg (by omega)]
  simp [IntKind.wrap, IntKind.bits, IntKind.signed]
theorem v_negU {P : Program} {o : Oper} {a : Act} {w : World} {t : TypeId} {x : Operand} {k : IntKind} {m r : Int} (ho : o.op = .unOp .neg t x) (hx : a.eval x = .int k m) (hr : k.wrap (-m) = r) : (execOp a.eval o).run P w = .ok (.value (.int k r)) w := by
  simp [execOp, ho, hx, Op.unary, Op.intArith, hr]
theorem of_neg {n : Int} (hlo : -9223372036854775808 ≤ n) (h : n < 0) : IntKind.u64.wrap (-(((n % 18446744073709551616).toNat : Nat) : Int)) = (((-n).toNat : Nat) : Int) := by
  rw [Int.toNat_of_nonneg (by omega), Int.toNat_of_nonneg (by omega)]
  simp [IntKind.wrap, IntKind.bits, IntKind.signed]
  omega
theorem of_yes {n : Int} (hlo : -9223372036854775808 ≤ n) (h : decide (n < 0) = true) : sgn true (val [(-n).toNat % 4294967296, (-n).toNat / 4294967296 % 4294967296]) = n := by
  have := of_decide_eq_true h
  rw [two_val_m (by omega)]
  show -(((-n).toNat : Nat) : Int) = n
  omega
theorem of_no {n : Int} (hhi : n ≤ 9223372036854775807) (h : decide (n < 0) = false) : sgn false (val [(n % 18446744073709551616).toNat % 4294967296, (n % 18446744073709551616).toNat / 4294967296 % 4294967296]) = n := by
  have := of_decide_eq_false h
  rw [two_val_m (by omega)]
  show (((n % 18446744073709551616).toNat : Nat) : Int) = n
  omega
theorem eq_up {a b : List Nat} {i : Nat} (h : ∀ j, j < i → a.getD j 0 = b.getD j 0) (hi : i < a.length) (h1 : decide (((a.getD i 0 : Nat) : Int) = ((b.getD i 0 : Nat) : Int)) = true) : ∀ j, j < i + 1 → a.getD j 0 = b.getD j 0 := by
  intro j hj
  rcases Nat.lt_or_ge j i with h2 | h2
  · exact h j h2
  · obtain rfl : j = i := by omega
    have := of_decide_eq_true h1
    omega
theorem eq_all {a b : List Nat} {i : Nat} (hl : a.length = b.length) (hi : i = a.length) (h : ∀ j, j < i → a.getD j 0 = b.getD j 0) : a = b := by
  refine List.ext_getElem hl fun j h1 h2 => ?_
  have := h j (by omega)
  simpa [List.getD, h1, h2] using this
def sameV (v u : Vl) : Bool := decide (v.k = u.k) && (decide (v.nk = u.nk) && decide (v.nn = u.nn)) && decide (v.neg = u.neg) && decide (v.mag = u.mag) && decide (v.s = u.s) && decide (v.ref = u.ref)
def countedV (v : Vl) : Vl := if decide (v.k = 2) then ⟨3, 0, v.ref, false, [], [], 0⟩ else v
def truthV (t : Bool) : Vl := if t then ⟨2, 0, 0, false, [], [], 1⟩ else ⟨2, 0, 0, false, [], [], 0⟩
def alikeB (b : Bool) (m : List Nat) (a : Nm) : Bool := if decide (a.k = 1) then (if decide ((m.length : Int) = 0) then true else false) else if decide (a.k = 0) then decide (goodI b m = a.n) else false
theorem good_canon {z : Int} (h : z.natAbs < 2 ^ 256) : goodI (decide (z < 0)) (canon z.natAbs) = z := by
  unfold goodI
  rw [if_pos (may_canon h), val_canon]
  unfold sgn
  split
  · rename_i h; simp at h; omega
  · rename_i h; simp at h; omega
theorem whole_bd (a : Nm) : -9007199254740991 ≤ (wholeM a).n ∧ (wholeM a).n ≤ 9007199254740991 := by
  have := as_bd a
  unfold wholeM
  split
  · exact ⟨by decide, by decide⟩
  · exact this

def blankN (x : Nat) : Bool := decide ((x : Int) = 32) || decide ((x : Int) = 9) || decide ((x : Int) = 10) || decide ((x : Int) = 13)
def dgtN (x : Nat) : Bool := !decide ((x : Int) < 48) && decide ((x : Int) ≤ 57)
def asc (s : ByteArray) : List Nat := s.data.toList.map fun c => c.toNat
def ascT (s : ByteArray) (i : Nat) : List Nat := (s.data.toList.take i).map fun c => c.toNat
theorem asc0 (s : ByteArray) : ascT s 0 = [] := by simp [ascT]
theorem asc_up {s : ByteArray} {i : Nat} (h : i < s.size) : ascT s i ++ [bAt s i] = ascT s (i + 1) := by
  have h1 := s_len s
  unfold ascT bAt
  rw [List.take_succ_eq_append_getElem (by omega), List.map_append, List.getD_eq_getElem?_getD, List.getElem?_eq_getElem (by omega)]
  rfl
theorem asc_end {s : ByteArray} {i : Nat} (h : s.size ≤ i) : ascT s i = asc s := by
  unfold ascT asc
  rw [List.take_of_length_le (by rw [s_len]; exact h)]
theorem ascT_len {s : ByteArray} {i : Nat} : (ascT s i).length ≤ s.size := by
  have := s_len s
  unfold ascT
  rw [List.length_map, List.length_take]; omega
theorem asc_len (s : ByteArray) : (asc s).length = s.size := by
  have := s_len s
  unfold asc
  rw [List.length_map]; omega
def idxF (p : Nat → Bool) : List Nat → Int
  | [] => -1
  | a :: l => if p a then 0 else if idxF p l < 0 then -1 else idxF p l + 1
theorem idxF_ge (p : Nat → Bool) : ∀ l : List Nat, -1 ≤ idxF p l
  | [] => by simp [idxF]
  | a :: l => by
    have := idxF_ge p l
    unfold idxF
    split
    · omega
    · split <;> omega
theorem idxF_any (p : Nat → Bool) : ∀ l : List Nat, (!decide (idxF p l < 0)) = l.any p
  | [] => by simp [idxF]
  | a :: l => by
    have h := idxF_any p l
    have h2 := idxF_ge p l
    rw [List.any_cons, ← h, show idxF p (a :: l) = if p a then 0 else if idxF p l < 0 then -1 else idxF p l + 1 from rfl]
    generalize idxF p l = r at *
    cases p a
    · by_cases h3 : r < 0
      · simp [h3]
      · simp [h3]; omega
    · simp
theorem idxF_at (p : Nat → Bool) : ∀ (l : List Nat) (i : Nat), i < l.length → (∀ j, j < i → p (l.getD j 0) = false) → p (l.getD i 0) = true → idxF p l = (i : Int)
  | [], i, hi, _, _ => by simp at hi
  | a :: l, 0, _, _, h => by
    unfold idxF
    rw [if_pos (by simpa using h)]; rfl
  | a :: l, i + 1, hi, h1, h2 => by
    have h0 := h1 0 (by omega)
    have ih := idxF_at p l i (by simpa using hi) (fun j hj => by simpa using h1 (j + 1) (by omega)) (by simpa using h2)
    unfold idxF
    rw [if_neg (by simpa using h0), ih, if_neg (by omega)]; omega
theorem idxF_none (p : Nat → Bool) : ∀ (l : List Nat), (∀ j, j < l.length → p (l.getD j 0) = false) → idxF p l = -1
  | [], _ => rfl
  | a :: l, h => by
    have h0 := h 0 (by simp)
    have ih := idxF_none p l (fun j hj => by simpa using h (j + 1) (by simpa using hj))
    unfold idxF
    rw [if_neg (by simpa using h0), ih]; rfl
theorem up_false {p : Nat → Bool} {l : List Nat} {i : Nat} (h : ∀ j, j < i → p (l.getD j 0) = false) (h1 : p (l.getD i 0) = false) : ∀ j, j < i + 1 → p (l.getD j 0) = false := by
  intro j hj
  rcases Nat.lt_or_ge j i with h2 | h2
  · exact h j h2
  · obtain rfl : j = i := by omega
    exact h1
def okcN (x : Nat) : Bool := if dgtN x then true else if (!decide ((x : Int) < 97) && decide ((x : Int) ≤ 102)) then true else if (!decide ((x : Int) < 65) && decide ((x : Int) ≤ 70)) then true else (asc ⟨#[120, 88, 111, 79, 46, 43, 45, 95]⟩).any fun y => decide ((x : Int) = (y : Int))
def strangeN (u : List Nat) : Bool := u.all okcN && u.any dgtN
theorem take_up {l : List Nat} {i : Nat} (h : i < l.length) : l.take (i + 1) = l.take i ++ [l.getD i 0] := by
  rw [List.take_succ_eq_append_getElem h, List.getD_eq_getElem?_getD, List.getElem?_eq_getElem h]; rfl
theorem any_up {p : Nat → Bool} {l : List Nat} {i : Nat} (h : i < l.length) : (l.take (i + 1)).any p = ((l.take i).any p || p (l.getD i 0)) := by
  rw [take_up h, List.any_append]; simp
theorem all_up {p : Nat → Bool} {l : List Nat} {i : Nat} (h : i < l.length) (h1 : (l.take i).all p = true) (h2 : p (l.getD i 0) = true) : (l.take (i + 1)).all p = true := by
  rw [take_up h, List.all_append, h1]; simpa using h2
theorem all_bad {p : Nat → Bool} {l : List Nat} {i : Nat} (h : i < l.length) (h2 : p (l.getD i 0) = false) : l.all p = false := by
  cases h3 : l.all p with
  | false => rfl
  | true =>
    rw [List.getD_eq_getElem?_getD, List.getElem?_eq_getElem h] at h2
    rw [show (some l[i]).getD 0 = l[i] from rfl, List.all_eq_true.1 h3 _ (List.getElem_mem h)] at h2
    cases h2
/-- the value of digits, as the code tells it -/
def valR : List Nat → Int → Int × Bool
  | [], n => (n, decide (n ≤ 9007199254740991))
  | x :: l, n => if decide (n ≤ 900719925474099) then valR l (10 * n + ((x : Int) - 48)) else (0, false)
theorem drop_at {l : List Nat} {i : Nat} (h : i < l.length) : l.drop i = l.getD i 0 :: l.drop (i + 1) := by
  rw [List.drop_eq_getElem_cons h, List.getD_eq_getElem?_getD, List.getElem?_eq_getElem h]; rfl
def rtrimN (l : List Nat) : List Nat := (l.reverse.dropWhile blankN).reverse
def trimN (u : List Nat) : List Nat := rtrimN (u.dropWhile blankN)
theorem dw_step {l : List Nat} (h : 0 < l.length) (h1 : blankN (l.getD 0 0) = true) : (l.drop 1).dropWhile blankN = l.dropWhile blankN := by
  cases l with
  | nil => simp at h
  | cons a l => rw [List.dropWhile_cons, if_pos (by simpa using h1)]; rfl
theorem dw_end {l : List Nat} (h : l.length = 0 ∨ blankN (l.getD 0 0) = false) : l.dropWhile blankN = l := by
  cases l with
  | nil => rfl
  | cons a l =>
    rcases h with h | h
    · simp at h
    · rw [List.dropWhile_cons, if_neg (by simpa using h)]
theorem last_rev {l : List Nat} (h : 0 < l.length) : l.reverse = l.getD (l.length - 1) 0 :: (l.take (l.length - 1)).reverse := by
  have h1 := take_up (l := l) (i := l.length - 1) (by omega)
  rw [show l.length - 1 + 1 = l.length by omega, List.take_length] at h1
  conv => lhs; rw [h1]
  simp
theorem rt_step {l : List Nat} (h : 0 < l.length) (h1 : blankN (l.getD (l.length - 1) 0) = true) : rtrimN (l.take (l.length - 1)) = rtrimN l := by
  unfold rtrimN
  rw [last_rev h, List.dropWhile_cons, if_pos (by simpa using h1)]
theorem rt_end {l : List Nat} (h : l.length = 0 ∨ (0 < l.length ∧ blankN (l.getD (l.length - 1) 0) = false)) : rtrimN l = l := by
  rcases h with h | ⟨h0, h⟩
  · rw [List.eq_nil_of_length_eq_zero h]; rfl
  · unfold rtrimN
    rw [last_rev h0, List.dropWhile_cons, if_neg (by simpa using h)]
    rw [← last_rev h0, List.reverse_reverse]
def U16s (u : List Nat) : Prop := ∀ x ∈ u, x < 65536
theorem U16s.at16 {u : List Nat} (h : U16s u) (i : Nat) : u.getD i 0 < 65536 := by
  rw [List.getD_eq_getElem?_getD]
  cases hk : u[i]? with
  | none => simp
  | some x => simpa using h x (List.mem_of_getElem? hk)
theorem U16s.asc (s : ByteArray) : U16s (asc s) := fun x hx => by
  unfold Go.Proofs.YtecgdgjlmlpcnaaDoor.asc at hx
  obtain ⟨c, _, rfl⟩ := List.mem_map.1 hx
  have := c.toNat_lt
  omega
theorem U16s.drop {u : List Nat} (h : U16s u) (n : Nat) : U16s (u.drop n) := fun x hx => h x (List.mem_of_mem_drop hx)
theorem U16s.take {u : List Nat} (h : U16s u) (n : Nat) : U16s (u.take n) := fun x hx => h x (List.mem_of_mem_take hx)
theorem U16s.dw {u : List Nat} (h : U16s u) (p : Nat → Bool) : U16s (u.dropWhile p) := fun x hx => h x ((List.dropWhile_sublist p).mem hx)
theorem U16s.trim {u : List Nat} (h : U16s u) : U16s (trimN u) := fun x hx => by
  unfold trimN rtrimN at hx
  exact h x ((List.dropWhile_sublist _).mem (by simpa using (List.dropWhile_sublist _).mem (List.mem_reverse.1 hx)))
theorem U16s.nil : U16s [] := fun _ h => by cases h
theorem digs_of {u : List Nat} (h : (u.any fun y : Nat => !dgtN y) = false) : ∀ j, j < u.length → 48 ≤ u.getD j 0 ∧ u.getD j 0 ≤ 57 := by
  intro j hj
  have h1 := List.any_eq_false.1 h (u.getD j 0) (by rw [List.getD_eq_getElem?_getD, List.getElem?_eq_getElem hj]; exact List.getElem_mem hj)
  generalize u.getD j 0 = y at *
  unfold dgtN at h1
  simp at h1
  omega
def bodyT (t d : List Nat) (neg : Bool) : Nm × Bool :=
  if decide (d = asc ⟨#[73, 110, 102, 105, 110, 105, 116, 121]⟩) then (if neg then negM ⟨3, 0⟩ else ⟨3, 0⟩, !strangeN t)
  else if !decide ((d.length : Int) ≤ 0) && !(d.any fun y : Nat => !dgtN y) then (if (valR d 0).2 then (if neg then negM ⟨0, (valR d 0).1⟩ else ⟨0, (valR d 0).1⟩, true) else (⟨2, 0⟩, false))
  else (if neg then negM ⟨2, 0⟩ else ⟨2, 0⟩, !strangeN t)
def numT (u : List Nat) : Nm × Bool :=
  if decide (((trimN u).length : Int) = 0) then (⟨0, 0⟩, true)
  else if decide ((((trimN u).getD 0 0 : Nat) : Int) = 45) then bodyT (trimN u) ((trimN u).drop 1) true
  else if decide ((((trimN u).getD 0 0 : Nat) : Int) = 43) then bodyT (trimN u) ((trimN u).drop 1) false
  else bodyT (trimN u) (trimN u) false
structure VOk (v : Vl) : Prop where
  limbs : Limbs v.mag
  units : U16s v.s
  mlen : v.mag.length ≤ 40
  slen : v.s.length ≤ 20000
  nlo : -9223372036854775808 ≤ v.nn
  nhi : v.nn ≤ 9223372036854775807
  rlo : -9223372036854775808 ≤ v.ref
  rhi : v.ref ≤ 9223372036854775807
theorem VOk.z : VOk Vl.z := ⟨Limbs.nil, U16s.nil, by decide, by decide, by decide, by decide, by decide, by decide⟩
theorem VOk.clean {v : Vl} (h : VOk v) : VOk (cleanV v) := by unfold cleanV; split; exact h; exact VOk.z
theorem VOk.counted {v : Vl} (h : VOk v) : VOk (countedV v) := by
  unfold countedV; split
  · exact ⟨Limbs.nil, U16s.nil, Nat.zero_le _, Nat.zero_le _, h.rlo, h.rhi, (by decide : (-9223372036854775808 : Int) ≤ 0), (by decide : (0 : Int) ≤ 9223372036854775807)⟩
  · exact h
def numberV (v : Vl) : Nm × Int :=
  if decide ((cleanV v).k = 0) then (⟨2, 0⟩, 0)
  else if decide ((cleanV v).k = 1) || decide ((cleanV v).k = 2) then (⟨0, (cleanV v).ref⟩, 0)
  else if decide ((cleanV v).k = 3) then ((cleanV v).num, 0)
  else if decide ((cleanV v).k = 4) then (⟨0, 0⟩, 1)
  else if decide ((cleanV v).k = 5) then (if (numT (cleanV v).s).2 then ((numT (cleanV v).s).1, 0) else (⟨0, 0⟩, 3))
  else (⟨0, 0⟩, 3)
def indexV (v : Vl) : Int × Int :=
  if decide ((cleanV v).k = 0) then (0, 0)
  else if decide ((numberV (cleanV v)).2 = 0) then (if (indexM (numberV (cleanV v)).1).2 then ((indexM (numberV (cleanV v)).1).1, 0) else (0, 2))
  else (0, (numberV (cleanV v)).2)
def strictV (v u : Vl) : Bool :=
  if decide ((cleanV v).k = (cleanV u).k) then (if decide ((cleanV v).k = 3) then equalM (cleanV v).num (cleanV u).num else sameV (cleanV v) (cleanV u)) else false
def noneV (v : Vl) : Bool := decide (v.k = 0) || decide (v.k = 1)
def loose3 (x y : Vl) : Bool × Int :=
  if decide (x.k = y.k) then (strictV x y, 0)
  else if decide (x.k = 3) && decide (y.k = 4) then (alikeB y.neg y.mag x.num, 0)
  else if decide (x.k = 3) && decide (y.k = 5) then (decide ((numberV y).2 = 0) && equalM x.num (numberV y).1, (numberV y).2)
  else (false, 3)
def loose2 (x y : Vl) : Bool × Int := if decide (x.k ≤ y.k) then loose3 x y else loose3 y x
def loose1 (x y : Vl) : Bool × Int :=
  if decide (x.k = y.k) then (strictV x y, 0)
  else if noneV x || noneV y then (noneV x && noneV y, 0)
  else loose2 (countedV x) (countedV y)
def looseV (v u : Vl) : Bool × Int := loose1 (cleanV v) (cleanV u)
def boolV (v : Vl) : Bool :=
  if decide ((cleanV v).k = 2) then decide ((cleanV v).ref = 1)
  else if decide ((cleanV v).k = 3) then !decide ((cleanV v).nk = 2) && !equalM (cleanV v).num ⟨0, 0⟩
  else if decide ((cleanV v).k = 4) then !decide (((cleanV v).mag.length : Int) ≤ 0)
  else if decide ((cleanV v).k = 5) then !decide (((cleanV v).s.length : Int) ≤ 0)
  else decide ((cleanV v).k = 6)
theorem may_clean (v : Vl) : mayV (cleanV v) = true := by
  unfold cleanV
  split
  · assumption
  · decide
theorem clean_may {v : Vl} (h : mayV v = true) : cleanV v = v := by unfold cleanV; rw [if_pos h]
theorem clean_clean (v : Vl) : cleanV (cleanV v) = cleanV v := clean_may (may_clean v)
theorem elB : ElemT Tryd.prog 78 5 (.int .u8 0) 1 1 := ⟨Tryd.underlying78, by kernel_rfl, rfl, by omega⟩
def itoaS (n : Int) : ByteArray := ⟨(Lib.itoa n).toArray⟩
def textM (a : Nm) : ByteArray := if decide ((asM a).k = 2) then ⟨#[78, 97, 78]⟩ else if decide ((asM a).k = 3) then ⟨#[73, 110, 102, 105, 110, 105, 116, 121]⟩ else if decide ((asM a).k = 4) then ⟨#[45, 73, 110, 102, 105, 110, 105, 116, 121]⟩ else itoaS (asM a).n
def textV (v : Vl) : List Nat × Int :=
  if decide ((cleanV v).k = 0) then (asc ⟨#[117, 110, 100, 101, 102, 105, 110, 101, 100]⟩, 0)
  else if decide ((cleanV v).k = 1) then (asc ⟨#[110, 117, 108, 108]⟩, 0)
  else if decide ((cleanV v).k = 2) then (if decide ((cleanV v).ref = 1) then asc ⟨#[116, 114, 117, 101]⟩ else asc ⟨#[102, 97, 108, 115, 101]⟩, 0)
  else if decide ((cleanV v).k = 3) then (asc (textM (cleanV v).num), 0)
  else if decide ((cleanV v).k = 4) then (asc (strOfNums (textI (goodI (cleanV v).neg (cleanV v).mag))), 0)
  else if decide ((cleanV v).k = 5) then ((cleanV v).s, 0)
  else ([], 3)
theorem itoaS_size {n : Int} (h0 : -9223372036854775808 ≤ n) (h1 : n ≤ 9223372036854775807) : (itoaS n).size ≤ 21 := by
  have := Lib.itoa_length_le n h0 h1
  unfold itoaS
  simpa [ByteArray.size] using this
theorem textM_size (a : Nm) : (textM a).size ≤ 21 := by
  have h := as_bd a
  unfold textM
  split
  · decide
  · split
    · decide
    · split
      · decide
      · exact itoaS_size (by omega) (by omega)
theorem textI_size {b : Bool} {m : List Nat} (h : Limbs m) : (strOfNums (textI (goodI b m))).size ≤ 79 := by
  have h1 := digs_big (good_lt (b := b) h)
  rw [← len_data, textU_eq]
  split
  · simp
  · have h2 : (lettersU (goodI b m).natAbs).length = (digs (goodI b m).natAbs).length := by simp [lettersU]
    split <;> simp [h2] <;> omega
theorem sameV_eq {v u : Vl} (h : sameV v u = true) : v = u := by
  unfold sameV at h
  simp only [Bool.and_eq_true, decide_eq_true_eq] at h
  obtain ⟨⟨⟨⟨⟨h1, h2, h3⟩, h4⟩, h5⟩, h6⟩, h7⟩ := h
  cases v; cases u
  simp only at h1 h2 h3 h4 h5 h6 h7
  subst h1 h2 h3 h4 h5 h6 h7; rfl
theorem equalM_trans {a b c : Nm} (h1 : equalM a b = true) (h2 : equalM b c = true) : equalM a c = true := by
  unfold equalM equalA at *
  simp only [Bool.and_eq_true, Bool.not_eq_true', decide_eq_true_eq, decide_eq_false_iff_not] at *
  exact ⟨⟨h1.1.1, h2.1.2⟩, h1.2.trans h2.2⟩
theorem strict_trans {v u x : Vl} (h1 : strictV v u = true) (h2 : strictV u x = true) : strictV v x = true := by
  unfold strictV at *
  by_cases k1 : (cleanV v).k = (cleanV u).k
  · by_cases k2 : (cleanV u).k = (cleanV x).k
    · rw [if_pos (decide_eq_true k1)] at h1
      rw [if_pos (decide_eq_true k2), ← k1] at h2
      rw [if_pos (decide_eq_true (k1.trans k2))]
      by_cases k3 : (cleanV v).k = 3
      · rw [if_pos (decide_eq_true k3)] at h1 h2 ⊢
        exact equalM_trans h1 h2
      · rw [if_neg (show ¬ (decide ((cleanV v).k = 3) = true) by simpa using k3)] at h1 h2 ⊢
        rw [sameV_eq h1]; exact h2
    · rw [if_neg (show ¬ (decide ((cleanV u).k = (cleanV x).k) = true) by simpa using k2)] at h2; cases h2
  · rw [if_neg (show ¬ (decide ((cleanV v).k = (cleanV u).k) = true) by simpa using k1)] at h1; cases h1
/-- what may be: its kind and what is nought -/
theorem may_num {v : Vl} (h : mayV v = true) (hk : v.k = 3) : nmayB v.num = true ∧ v = ⟨3, v.nk, v.nn, false, [], [], 0⟩ := by
  unfold mayV zeroV at h
  obtain ⟨k, nk, nn, neg, mag, s, ref⟩ := v
  simp only at hk
  subst hk
  simp at h
  obtain ⟨⟨⟨⟨rfl, h1⟩, h2⟩, rfl⟩, h3⟩ := h
  subst h1 h2
  exact ⟨h3, rfl⟩
theorem equal_may {a b : Nm} (ha : nmayB a = true) (hb : nmayB b = true) (h : equalM a b = true) : a = b ∨ (noughtB a = true ∧ noughtB b = true) := by
  unfold equalM asM equalA at h
  rw [if_pos ha, if_pos hb] at h
  obtain ⟨k, n⟩ := a
  obtain ⟨j, m⟩ := b
  unfold nmayB at ha hb
  unfold rankM at h
  simp only [Bool.and_eq_true, Bool.not_eq_true', decide_eq_true_eq, decide_eq_false_iff_not] at h
  unfold noughtB
  simp only [Nm.mk.injEq]
  simp at ha hb h ⊢
  split at ha <;> split at hb <;> (try split at h) <;> omega
theorem nought_two {a : Nm} (ha : nmayB a = true) (h : noughtB a = true) : a = ⟨0, 0⟩ ∨ a = ⟨1, 0⟩ := by
  obtain ⟨k, n⟩ := a
  unfold nmayB at ha
  unfold noughtB at h
  simp only [Nm.mk.injEq]
  simp at ha h
  split at ha <;> omega
theorem textM_eq {a b : Nm} (ha : nmayB a = true) (hb : nmayB b = true) (h : equalM a b = true) : textM a = textM b ∧ indexM a = indexM b ∧ (decide (a.k = 2) = decide (b.k = 2)) ∧ equalM a ⟨0, 0⟩ = equalM b ⟨0, 0⟩ := by
  rcases equal_may ha hb h with rfl | ⟨h1, h2⟩
  · exact ⟨rfl, rfl, rfl, rfl⟩
  · rcases nought_two ha h1 with rfl | rfl <;> rcases nought_two hb h2 with rfl | rfl <;> exact ⟨rfl, rfl, rfl, rfl⟩
theorem index3 {v : Vl} (hk : (cleanV v).k = 3) : indexV v = if (indexM (cleanV v).num).2 then ((indexM (cleanV v).num).1, 0) else (0, 2) := by
  have e : numberV (cleanV v) = ((cleanV v).num, 0) := by
    unfold numberV
    simp only [clean_clean, hk]; rfl
  unfold indexV
  rw [e, hk]; rfl
theorem bool3 {v : Vl} (hk : (cleanV v).k = 3) : boolV v = (!decide ((cleanV v).num.k = 2) && !equalM (cleanV v).num ⟨0, 0⟩) := by
  unfold boolV
  rw [hk]; rfl
theorem text3 {v : Vl} (hk : (cleanV v).k = 3) : textV v = (asc (textM (cleanV v).num), 0) := by
  unfold textV
  rw [hk]; rfl
theorem strict_alike {v u : Vl} (h : strictV v u = true) : boolV v = boolV u ∧ textV v = textV u ∧ indexV v = indexV u := by
  unfold strictV at h
  by_cases k1 : (cleanV v).k = (cleanV u).k
  · rw [if_pos (decide_eq_true k1)] at h
    by_cases k3 : (cleanV v).k = 3
    · rw [if_pos (decide_eq_true k3)] at h
      have k4 : (cleanV u).k = 3 := k1 ▸ k3
      obtain ⟨e1, e2, e3, e4⟩ := textM_eq (may_num (may_clean v) k3).1 (may_num (may_clean u) k4).1 h
      exact ⟨by rw [bool3 k3, bool3 k4, e3, e4], by rw [text3 k3, text3 k4, e1], by rw [index3 k3, index3 k4, e2]⟩
    · rw [if_neg (show ¬ (decide ((cleanV v).k = 3) = true) by simpa using k3)] at h
      have e := sameV_eq h
      unfold boolV textV indexV numberV
      rw [e]
      exact ⟨rfl, rfl, rfl⟩
  · rw [if_neg (show ¬ (decide ((cleanV v).k = (cleanV u).k) = true) by simpa using k1)] at h; cases h
theorem nan_c  (w : World) : Calls Tryd.prog 76 #[] w (IsRet (nv (Nm.mk 2 0)) w) := by
 refine enter_abs Tryd.func76 rfl fun a0 aa au hp => ?_
 have aa : a0.tmps.size = 2 := aa
 have ad : New w w := Upd.refl _ _
 refine wp_seq_k fun K1 av => ?_
 refine wp_g [true] [] [] 2
   [IsNew w 23 [iv 0, iv 0]]
   [0] (newsCons (fun v w h => IsNew.old h) newsNil) aa (.nw (.nil)) ?_ (fun i h => by cases h) ?_
 exact .o2 (step_allocN (cs := [iv 0, iv 0]) (t := 23) rfl (noG rfl) (fun _ w hn k => rfl) (fun q _ hq hb => ⟨q, rfl, hq, hb⟩)) .nil
 refine aftI aa au ad fun a2 w3 ae aw ag aC ax => ?_
 obtain ⟨q9, h8, ah, ai⟩ : IsNew _ _ _ _ _ := ax.got 0 0 rfl (by kernel_rfl)
 have az := Nat.le_trans ad.size ah
 refine st_nil (av _ _ (wp_seq_k fun aD aj => ?_))
 refine wp_g0 [true, false] [(1, false)] 2
   [ve (nv (Nm.mk 2 0)), vt] ae (.eq (.tt (.nil))) ?_ ?_
 exact .t (fun _ w hn k => ⟨_, v_build (ps := [(0, iv 2)]) rfl (parts1 rfl) (by kernel_rfl), rfl⟩) <| .off .nil
 refine aftI ae aw ag fun aE aF aA ak al am ab => ?_
 have af := ab.fx 0 h8
 have ay := ab.ge 0 1 rfl
 have an := ai.new_ am
 obtain ⟨aG, -, ac, ao, ap, aB⟩ := s_two (v0 := iv 2) (v1 := iv 0) Tryd.sizeOf23 rfl rfl rfl an
 refine st_act rfl rfl fun aH aq => a_store' rfl af ay ac (aq _ _ trivial ?_)
 have ar := al.trans ap (fun _ h b => by subst b; omega)
 refine st_nil (aj _ _ ?_)
 refine wp_ret (ret_k ak (v := nv (Nm.mk 2 0)) (res_c rfl af (l_two Tryd.isAgg23 Tryd.sizeOf23 ao)) ?_)
 exact ⟨rfl, ar⟩
theorem may_c (a : Nm) (w : World) : Calls Tryd.prog 33 #[nv a] w (IsRet (.bool (nmayB a)) w) := by
 refine enter_abs Tryd.func33 rfl fun a0 av b9 hp => ?_
 have av : a0.tmps.size = 23 := av
 have bp : New w w := Upd.refl _ _
 have hp0 : a0.eval (.tmp 0) = nv a := hp 0 _ rfl
 refine wp_seq_k fun K1 ca => ?_
 refine wp_g [true, true] [] [] 23
   [IsNew w 23 [iv a.k, iv a.n], vF]
   [0] (newsCons (fun v w h => IsNew.old h) newsNil) av (.nw (.eq (.nil))) ?_ (fun i h => by cases h) ?_
 exact .o2 (step_allocN (cs := [iv a.k, iv a.n]) (t := 23) rfl (noG rfl) (fun _ w hn k => v_box rfl (k.fx 0 hp0) (fun w => rfl)) (fun q _ hq hb => ⟨q, rfl, hq, hb⟩)) <| .t (fun _ w hn k => ⟨_, v_assign rfl rfl, rfl⟩) .nil
 refine aftI av b9 bp fun a2 w3 bq cb bB cO cc => ?_
 obtain ⟨q9, h8, bC, aE⟩ : IsNew _ _ _ _ _ := cc.got 0 1 rfl (by kernel_rfl)
 have cr := Nat.le_trans bp.size bC
 refine st_nil (ca _ _ (wp_seq_k fun cP bD => ?_))
 refine wp_seq_k fun cQ bE => ?_
 refine wp_g0 [true, true] [] 23
   [ve (pv q9), ve (iv a.k)] bq (.eq (.eq (.nil))) ?_ ?_
 exact .f (fun k => k.fx 1 h8) <| .t (fun _ w hn k => ⟨_, v_load rfl (k.eq1 0 3 rfl) (l_one Tryd.isAgg3 ((aE.new_ hn).cell 0)), rfl⟩) .nil
 refine aftI bq cb bB fun cR cS aF bF bG bH aG => ?_
 have cd := aG.fx 1 h8
 have br := aG.ge 1 4 rfl
 have bI := aE.new_ bH
 refine st_nil (bE _ _ ?_)
 refine wp_block ?_
 refine wp_seq_k fun cT bJ => ?_
 refine wp_g0 [true, true] [] 23
   [ve (.bool (decide (a.k = 0))), ve (.bool (decide (a.k = 0)))] aF (.eq (.eq (.nil))) ?_ ?_
 exact .t (fun _ w hn k => ⟨_, v_bin rfl (k.fx 4 br) rfl (fun _ => rfl) (r_eql rfl), rfl⟩) <| .a (fun k => k.eq1 0 6 rfl) .nil
 refine aftI aF bF bG fun cU cV ag ao ap bK aq => ?_
 have aw := aq.fx 1 cd
 have bs := aq.fx 4 br
 have bt := aq.ge 1 5 rfl
 have aj := bI.new_ bK
 refine st_nil (bJ _ _ ?_)
 rcases bc (decide (a.k = 0)) with aa | aa
 have aV := oT aa
 have bL := hB bt aa
 refine wp_cond_true bL ?_
 refine wp_seq_k fun cW aH => ?_
 rcases bc (decide (a.n < -9007199254740991)) with af | af
 have aW := oT af
 refine wp_g0 (.replicate 9 true) [] 23
   [ve (.pointer (some ⟨q9, 1, none⟩)), ve (iv a.n), vF, vF, vU, vU, vU, vF, vF] ag (.eq (.eq (.eq (.eq (.eq (.eq (.eq (.eq (.eq (.nil)))))))))) ?_ ?_
 exact .f (fun k => k.fx 1 aw) <| .t (fun _ w hn k => ⟨_, v_load rfl (k.eq1 0 7 rfl) (l_one Tryd.isAgg3 ((aj.new_ hn).cell 1)), rfl⟩) <| .t (fun _ w hn k => ⟨_, v_bin rfl (k.eq1 1 8 rfl) rfl (fun _ => rfl) (r_geqK af), rfl⟩) <| .m (fun k => k.eq1 2 9 rfl) <| .s (fun k => k.eq1 3 10 rfl) <| .s (fun k => k.eq1 3 10 rfl) <| .s (fun k => k.eq1 3 10 rfl) <| .t (fun _ w hn k => ⟨_, v_pickF rfl (k.eq1 3 10 rfl) rfl, rfl⟩) <| .a (fun k => k.eq1 7 14 rfl) .nil
 refine aftI ag ao ap fun cX cY ct bM bN cu bO => ?_
 have ce := bO.ge 8 2 rfl
 refine st_nil (aH _ _ ?_)
 refine wp_ret (ret_k bM (v := .bool false) (res_t rfl ce _) ?_)
 refine ⟨?_, bN⟩
 show Ending.returned (.bool false) = Ending.returned (.bool (nmayB a))
 first | rfl | (simp only [nmayB, aa, af, bsm] <;> rfl) | (exfalso; omega)
 have aW := oF af
 refine wp_g0 (.replicate 9 true) [] 23
   [ve (.pointer (some ⟨q9, 1, none⟩)), ve (iv a.n), vT, vT, ve (.pointer (some ⟨q9, 1, none⟩)), ve (iv a.n), ve (.bool (decide (a.n ≤ 9007199254740991))), ve (.bool (decide (a.n ≤ 9007199254740991))), ve (.bool (decide (a.n ≤ 9007199254740991)))] ag (.eq (.eq (.eq (.eq (.eq (.eq (.eq (.eq (.eq (.nil)))))))))) ?_ ?_
 exact .f (fun k => k.fx 1 aw) <| .t (fun _ w hn k => ⟨_, v_load rfl (k.eq1 0 7 rfl) (l_one Tryd.isAgg3 ((aj.new_ hn).cell 1)), rfl⟩) <| .t (fun _ w hn k => ⟨_, v_bin rfl (k.eq1 1 8 rfl) rfl (fun _ => rfl) (r_geqK af), rfl⟩) <| .m (fun k => k.eq1 2 9 rfl) <| .gf (fun k => k.eq1 3 10 rfl) (fun k => k.fx 1 aw) <| .g (fun k => k.eq1 3 10 rfl) (fun _ w hn k => ⟨_, v_load rfl (k.eq1 4 11 rfl) (l_one Tryd.isAgg3 ((aj.new_ hn).cell 1)), rfl⟩) <| .g (fun k => k.eq1 3 10 rfl) (fun _ w hn k => ⟨_, v_bin rfl (k.eq1 5 12 rfl) rfl (fun _ => rfl) (r_leqK rfl), rfl⟩) <| .t (fun _ w hn k => ⟨_, v_pickT rfl (k.eq1 3 10 rfl) (k.eq1 6 13 rfl), rfl⟩) <| .a (fun k => k.eq1 7 14 rfl) .nil
 refine aftI ag ao ap fun cZ c0 cv bP bQ cw bR => ?_
 have cf := bR.ge 8 2 rfl
 refine st_nil (aH _ _ ?_)
 refine wp_ret (ret_k bP (v := .bool (decide (a.n ≤ 9007199254740991))) (res_t rfl cf _) ?_)
 refine ⟨?_, bQ⟩
 show Ending.returned (.bool (decide (a.n ≤ 9007199254740991))) = Ending.returned (.bool (nmayB a))
 first | rfl | (simp only [nmayB, aa, af, bsm] <;> rfl) | (exfalso; omega)
 have aV := oF aa
 have bS := hB bt aa
 refine wp_cond_false bS ?_
 refine wp_seq_k fun c1 ak => ?_
 refine wp_seq_k fun c2 bT => ?_
 refine wp_g0 [true, true] [] 23
   [ve (.bool (decide (a.k = 1))), ve (.bool (decide (a.k = 1)))] ag (.eq (.eq (.nil))) ?_ ?_
 exact .t (fun _ w hn k => ⟨_, v_bin rfl (k.fx 4 bs) rfl (fun _ => rfl) (r_eql rfl), rfl⟩) <| .a (fun k => k.eq1 0 16 rfl) .nil
 refine aftI ag ao ap fun c3 c4 al aI aJ bU ar => ?_
 have bu := ar.fx 1 aw
 have bv := ar.fx 4 bs
 have bw := ar.ge 1 15 rfl
 have aK := aj.new_ bU
 refine st_nil (bT _ _ ?_)
 rcases bc (decide (a.k = 1)) with ac | ac
 have aX := oT ac
 have aL := hB bw ac
 refine wp_cond_true aL ?_
 refine wp_skip ?_
 refine ak _ _ ?_
 refine wp_cond_true aL ?_
 refine wp_seq_k fun c5 bV => ?_
 refine wp_g0 [true, true, true, true] [] 23
   [ve (.pointer (some ⟨q9, 1, none⟩)), ve (iv a.n), ve (.bool (decide (a.n = 0))), ve (.bool (decide (a.n = 0)))] al (.eq (.eq (.eq (.eq (.nil))))) ?_ ?_
 exact .f (fun k => k.fx 1 bu) <| .t (fun _ w hn k => ⟨_, v_load rfl (k.eq1 0 20 rfl) (l_one Tryd.isAgg3 ((aK.new_ hn).cell 1)), rfl⟩) <| .t (fun _ w hn k => ⟨_, v_bin rfl (k.eq1 1 21 rfl) rfl (fun _ => rfl) (r_eql rfl), rfl⟩) <| .a (fun k => k.eq1 2 22 rfl) .nil
 refine aftI al aI aJ fun c6 c7 cx bW bX cy bY => ?_
 have ch := bY.ge 3 2 rfl
 refine st_nil (bV _ _ ?_)
 refine wp_ret (ret_k bW (v := .bool (decide (a.n = 0))) (res_t rfl ch _) ?_)
 refine ⟨?_, bX⟩
 show Ending.returned (.bool (decide (a.n = 0))) = Ending.returned (.bool (nmayB a))
 first | rfl | (simp only [nmayB, aa, ac, bsm] <;> rfl) | (exfalso; omega)
 have aX := oF ac
 have bZ := hB bw ac
 refine wp_cond_false bZ ?_
 refine wp_seq_k fun c8 b0 => ?_
 refine wp_g0 [true, true] [] 23
   [ve (.bool (decide (a.k = 2))), ve (.bool (decide (a.k = 2)))] al (.eq (.eq (.nil))) ?_ ?_
 exact .t (fun _ w hn k => ⟨_, v_bin rfl (k.fx 4 bv) rfl (fun _ => rfl) (r_eql rfl), rfl⟩) <| .a (fun k => k.eq1 0 17 rfl) .nil
 refine aftI al aI aJ fun c9 da am aM aN b1 au => ?_
 have bx := au.fx 1 bu
 have bz := au.fx 4 bv
 have bA := au.ge 1 15 rfl
 have aO := aK.new_ b1
 refine st_nil (b0 _ _ ?_)
 rcases bc (decide (a.k = 2)) with ad | ad
 have aY := oT ad
 have aP := hB bA ad
 refine wp_cond_true aP ?_
 refine wp_skip ?_
 refine ak _ _ ?_
 refine wp_cond_true aP ?_
 refine wp_seq_k fun db b2 => ?_
 refine wp_g0 [true, true, true, true] [] 23
   [ve (.pointer (some ⟨q9, 1, none⟩)), ve (iv a.n), ve (.bool (decide (a.n = 0))), ve (.bool (decide (a.n = 0)))] am (.eq (.eq (.eq (.eq (.nil))))) ?_ ?_
 exact .f (fun k => k.fx 1 bx) <| .t (fun _ w hn k => ⟨_, v_load rfl (k.eq1 0 20 rfl) (l_one Tryd.isAgg3 ((aO.new_ hn).cell 1)), rfl⟩) <| .t (fun _ w hn k => ⟨_, v_bin rfl (k.eq1 1 21 rfl) rfl (fun _ => rfl) (r_eql rfl), rfl⟩) <| .a (fun k => k.eq1 2 22 rfl) .nil
 refine aftI am aM aN fun dc cz ci aZ a1 cj a3 => ?_
 have b3 := a3.ge 3 2 rfl
 refine st_nil (b2 _ _ ?_)
 refine wp_ret (ret_k aZ (v := .bool (decide (a.n = 0))) (res_t rfl b3 _) ?_)
 refine ⟨?_, a1⟩
 show Ending.returned (.bool (decide (a.n = 0))) = Ending.returned (.bool (nmayB a))
 first | rfl | (simp only [nmayB, aa, ac, ad, bsm] <;> rfl) | (exfalso; omega)
 have aY := oF ad
 have a4 := hB bA ad
 refine wp_cond_false a4 ?_
 refine wp_seq_k fun cA a5 => ?_
 refine wp_g0 [true, true] [] 23
   [ve (.bool (decide (a.k = 3))), ve (.bool (decide (a.k = 3)))] am (.eq (.eq (.nil))) ?_ ?_
 exact .t (fun _ w hn k => ⟨_, v_bin rfl (k.fx 4 bz) rfl (fun _ => rfl) (r_eql rfl), rfl⟩) <| .a (fun k => k.eq1 0 18 rfl) .nil
 refine aftI am aM aN fun cB cC ah ax ay a6 an => ?_
 have aQ := an.fx 1 bx
 have b4 := an.fx 4 bz
 have aR := an.ge 1 15 rfl
 have az := aO.new_ a6
 refine st_nil (a5 _ _ ?_)
 rcases bc (decide (a.k = 3)) with ab | ab
 have aS := oT ab
 have aA := hB aR ab
 refine wp_cond_true aA ?_
 refine wp_skip ?_
 refine ak _ _ ?_
 refine wp_cond_true aA ?_
 refine wp_seq_k fun cD a7 => ?_
 refine wp_g0 [true, true, true, true] [] 23
   [ve (.pointer (some ⟨q9, 1, none⟩)), ve (iv a.n), ve (.bool (decide (a.n = 0))), ve (.bool (decide (a.n = 0)))] ah (.eq (.eq (.eq (.eq (.nil))))) ?_ ?_
 exact .f (fun k => k.fx 1 aQ) <| .t (fun _ w hn k => ⟨_, v_load rfl (k.eq1 0 20 rfl) (l_one Tryd.isAgg3 ((az.new_ hn).cell 1)), rfl⟩) <| .t (fun _ w hn k => ⟨_, v_bin rfl (k.eq1 1 21 rfl) rfl (fun _ => rfl) (r_eql rfl), rfl⟩) <| .a (fun k => k.eq1 2 22 rfl) .nil
 refine aftI ah ax ay fun cE cF cl a8 a9 cm ba => ?_
 have b5 := ba.ge 3 2 rfl
 refine st_nil (a7 _ _ ?_)
 refine wp_ret (ret_k a8 (v := .bool (decide (a.n = 0))) (res_t rfl b5 _) ?_)
 refine ⟨?_, a9⟩
 show Ending.returned (.bool (decide (a.n = 0))) = Ending.returned (.bool (nmayB a))
 first | rfl | (simp only [nmayB, aa, ac, ad, ab, bsm] <;> rfl) | (exfalso; omega)
 have aS := oF ab
 have bb := hB aR ab
 refine wp_cond_false bb ?_
 refine wp_g0 [true, true] [] 23
   [ve (.bool (decide (a.k = 4))), ve (.bool (decide (a.k = 4)))] ah (.eq (.eq (.nil))) ?_ ?_
 exact .t (fun _ w hn k => ⟨_, v_bin rfl (k.fx 4 b4) rfl (fun _ => rfl) (r_eql rfl), rfl⟩) <| .a (fun k => k.eq1 0 19 rfl) .nil
 refine aftI ah ax ay fun cG cH ai aB aC bd aD => ?_
 have b6 := aD.fx 1 aQ
 have aT := aD.ge 1 15 rfl
 have be := az.new_ bd
 refine st_nil (ak _ _ ?_)
 rcases bc (decide (a.k = 4)) with ae | ae
 have aU := oT ae
 have bf := hB aT ae
 refine wp_cond_true bf ?_
 refine wp_seq_k fun cI bg => ?_
 refine wp_g0 [true, true, true, true] [] 23
   [ve (.pointer (some ⟨q9, 1, none⟩)), ve (iv a.n), ve (.bool (decide (a.n = 0))), ve (.bool (decide (a.n = 0)))] ai (.eq (.eq (.eq (.eq (.nil))))) ?_ ?_
 exact .f (fun k => k.fx 1 b6) <| .t (fun _ w hn k => ⟨_, v_load rfl (k.eq1 0 20 rfl) (l_one Tryd.isAgg3 ((be.new_ hn).cell 1)), rfl⟩) <| .t (fun _ w hn k => ⟨_, v_bin rfl (k.eq1 1 21 rfl) rfl (fun _ => rfl) (r_eql rfl), rfl⟩) <| .a (fun k => k.eq1 2 22 rfl) .nil
 refine aftI ai aB aC fun cJ cK cn bh bi co bj => ?_
 have b7 := bj.ge 3 2 rfl
 refine st_nil (bg _ _ ?_)
 refine wp_ret (ret_k bh (v := .bool (decide (a.n = 0))) (res_t rfl b7 _) ?_)
 refine ⟨?_, bi⟩
 show Ending.returned (.bool (decide (a.n = 0))) = Ending.returned (.bool (nmayB a))
 first | rfl | (simp only [nmayB, aa, ac, ad, ab, ae, bsm] <;> rfl) | (exfalso; omega)
 have aU := oF ae
 have bk := hB aT ae
 refine wp_cond_false bk ?_
 refine wp_skip ?_
 refine bD _ _ ?_
 refine wp_seq_k fun cL bl => ?_
 refine wp_g0 [true] [] 23
   [vF] ai (.eq (.nil)) ?_ ?_
 exact .t (fun _ w hn k => ⟨_, v_assign rfl rfl, rfl⟩) .nil
 refine aftI ai aB aC fun cM cN cp bm bn cq bo => ?_
 have b8 := bo.ge 0 2 rfl
 refine st_nil (bl _ _ ?_)
 refine wp_ret (ret_k bm (v := .bool false) (res_t rfl b8 _) ?_)
 refine ⟨?_, bn⟩
 show Ending.returned (.bool false) = Ending.returned (.bool (nmayB a))
 first | rfl | (simp only [nmayB, aa, ac, ad, ab, ae, bsm] <;> rfl) | (exfalso; omega)
theorem bmay_c (a : Bool) (Aa : Option Addr) (ma : List Nat) (ca : Nat) (w : World) (hra : SRow w .u32 Aa ma ca) : Calls Tryd.prog 34 #[.agg #[.bool a, sv Aa ma ca]] w (IsRet (.bool (mayB a ma)) w) := by
 refine enter_abs Tryd.func34 rfl fun a0 aq a9 hp => ?_
 have aq : a0.tmps.size = 31 := aq
 have az : New w w := Upd.refl _ _
 have hp0 : a0.eval (.tmp 0) = .agg #[.bool a, sv Aa ma ca] := hp 0 _ rfl
 have hmx := hra.max
 refine wp_seq_k fun K1 ba => ?_
 refine wp_g [true, true] [] [] 31
   [IsNew w 26 [.bool a, sv Aa ma ca], vF]
   [0] (newsCons (fun v w h => IsNew.old h) newsNil) aq (.nw (.eq (.nil))) ?_ (fun i h => by cases h) ?_
 exact .o2 (step_allocN (cs := [.bool a, sv Aa ma ca]) (t := 26) rfl (noG rfl) (fun _ w hn k => v_box rfl (k.fx 0 hp0) (fun w => rfl)) (fun q _ hq hb => ⟨q, rfl, hq, hb⟩)) <| .t (fun _ w hn k => ⟨_, v_assign rfl rfl, rfl⟩) .nil
 refine aftI aq a9 az fun a2 w3 aA bb aB bX bd => ?_
 obtain ⟨q9, h8, aC, ar⟩ : IsNew _ _ _ _ _ := bd.got 0 1 rfl (by kernel_rfl)
 have bG := Nat.le_trans az.size aC
 refine st_nil (ba _ _ (wp_seq_k fun bY aD => ?_))
 refine wp_g0 [true, true, true, true] [] 31
   [ve (.pointer (some ⟨q9, 1, none⟩)), ve (sv Aa ma ca), ve (iv (ma.length : Int)), ve (iv (ma.length : Int))] aA (.eq (.eq (.eq (.eq (.nil))))) ?_ ?_
 exact .f (fun k => k.fx 1 h8) <| .t (fun _ w hn k => ⟨_, v_load rfl (k.eq1 0 4 rfl) (l_one Tryd.isAgg24 ((ar.new_ hn).cell 1)), rfl⟩) <| .t (fun _ w hn k => ⟨_, v_lenR rfl elW (k.eq1 1 5 rfl), rfl⟩) <| .a (fun k => k.eq1 2 6 rfl) .nil
 refine aftI aA bb aB fun bZ b0 ab ag ac aE au => ?_
 have al := au.fx 1 h8
 have aa := au.ge 3 3 rfl
 have ah := ar.new_ aE
 refine st_nil (aD _ _ (wp_seq_k fun b1 ai => ?_))
 rcases bc (decide ((ma.length : Int) ≤ 8)) with ad | ad
 have av := oT ad
 rcases bc (decide ((ma.length : Int) = 0)) with ae | ae
 have aw := oT ae
 rcases bc (a) with af | af
 rcases bc (decide ((ma.length : Int) ≤ 0)) with aj | aj
 have ax := oT aj
 refine wp_g0 (.replicate 25 true) [] 31
   [ve (iv (ma.length : Int)), vT, vT, ve (iv (ma.length : Int)), vT, vT, ve (pv q9), vT, vF, vF, vF, ve (iv (ma.length : Int)), vF, vF, vU, vU, vU, vU, vU, vU, vU, vF, vF, vF, vF] ab (.eq (.eq (.eq (.eq (.eq (.eq (.eq (.eq (.eq (.eq (.eq (.eq (.eq (.eq (.eq (.eq (.eq (.eq (.eq (.eq (.eq (.eq (.eq (.eq (.eq (.nil)))))))))))))))))))))))))) ?_ ?_
 exact .m (fun k => k.fx 3 aa) <| .t (fun _ w hn k => ⟨_, v_bin rfl (k.eq1 0 7 rfl) rfl (fun _ => rfl) (r_leqK ad), rfl⟩) <| .m (fun k => k.eq1 1 8 rfl) <| .gm (fun k => k.eq1 2 9 rfl) (fun k => k.fx 3 aa) <| .g (fun k => k.eq1 2 9 rfl) (fun _ w hn k => ⟨_, v_bin rfl (k.eq1 3 10 rfl) rfl (fun _ => rfl) (r_eql ae), rfl⟩) <| .gm (fun k => k.eq1 2 9 rfl) (fun k => k.eq1 4 11 rfl) <| .gf (fun k => k.eq1 5 12 rfl) (fun k => k.fx 1 al) <| .o1 (tg rfl rfl rfl (fun _ _ k => k.eq1 5 12 rfl) fun _ w hn k => ⟨_, v_load rfl (k.eq1 6 13 rfl) (l_one Tryd.isAgg4 ((ah.new_ hn).cell 0)), congrArg Value.bool af⟩) <| .g (fun k => k.eq1 5 12 rfl) (fun _ w hn k => ⟨_, v_not rfl (k.eq1 7 14 rfl), rfl⟩) <| .g (fun k => k.eq1 2 9 rfl) (fun _ w hn k => ⟨_, v_pickT rfl (k.eq1 5 12 rfl) (k.eq1 8 15 rfl), rfl⟩) <| .gm (fun k => k.eq1 2 9 rfl) (fun k => k.eq1 9 16 rfl) <| .gm (fun k => k.eq1 10 17 rfl) (fun k => k.fx 3 aa) <| .g (fun k => k.eq1 10 17 rfl) (fun _ w hn k => ⟨_, v_bin rfl (k.eq1 11 18 rfl) rfl (fun _ => rfl) (r_gtrK aj), rfl⟩) <| .gm (fun k => k.eq1 10 17 rfl) (fun k => k.eq1 12 19 rfl) <| .s (fun k => k.eq1 13 20 rfl) <| .s (fun k => k.eq1 13 20 rfl) <| .s (fun k => k.eq1 13 20 rfl) <| .s (fun k => k.eq1 13 20 rfl) <| .s (fun k => k.eq1 13 20 rfl) <| .s (fun k => k.eq1 13 20 rfl) <| .s (fun k => k.eq1 13 20 rfl) <| .g (fun k => k.eq1 10 17 rfl) (fun _ w hn k => ⟨_, v_pickF rfl (k.eq1 13 20 rfl) rfl, rfl⟩) <| .g (fun k => k.eq1 2 9 rfl) (fun _ w hn k => ⟨_, v_pickF rfl (k.eq1 10 17 rfl) (k.eq1 21 28 rfl), rfl⟩) <| .t (fun _ w hn k => ⟨_, v_pickT rfl (k.eq1 2 9 rfl) (k.eq1 22 29 rfl), rfl⟩) <| .a (fun k => k.eq1 23 30 rfl) .nil
 refine aftI ab ag ac fun b2 b3 bH aF aG bI aH => ?_
 have be := aH.ge 24 2 rfl
 refine st_nil (ai _ _ ?_)
 refine wp_ret (ret_k aF (v := .bool false) (res_t rfl be _) ?_)
 have hix : ((ma.length : Int) - 1).toNat = ma.length - 1 := by omega
 have q8 : decide (ma.length ≤ 8) = true := decide_eq_true (by omega)
 have q0 : decide (ma.length = 0) = true := decide_eq_true (by omega)
 have q1 : decide (0 < ma.length) = false := decide_eq_false (by omega)
 refine ⟨?_, aG⟩
 rw [show mayB a ma = false from by unfold mayB; simp only [q8, q0, q1, af]; first | rfl | (exfalso; omega)]
 have ax := oF aj
 rcases bc (decide (((ma.getD (((ma.length : Int) - 1 : Int).toNat) 0 : Nat) : Int) = 0)) with am | am
 have ao := oT am
 refine wp_g0 (.replicate 25 true) [] 31
   [ve (iv (ma.length : Int)), vT, vT, ve (iv (ma.length : Int)), vT, vT, ve (pv q9), vT, vF, vF, vF, ve (iv (ma.length : Int)), vT, vT, ve (.pointer (some ⟨q9, 1, none⟩)), ve (sv Aa ma ca), ve (iv (ma.length : Int)), ve (iv ((ma.length : Int) - 1)),
    (EP (.int .u32 ((ma.getD (((ma.length : Int) - 1 : Int).toNat) 0 : Nat) : Int))), ve (.int .u32 ((ma.getD (((ma.length : Int) - 1 : Int).toNat) 0 : Nat) : Int)), vF, vF, vF, vF, vF] ab (.eq (.eq (.eq (.eq (.eq (.eq (.eq (.eq (.eq (.eq (.eq (.eq (.eq (.eq (.eq (.eq (.eq (.eq (.cons (fun _ _ _ n ⟨_, _, e, h⟩ => ⟨_, _, e, h.new_ n⟩) (.eq (.eq (.eq (.eq (.eq (.eq (.nil)))))))))))))))))))))))))) ?_ ?_
 refine .m (fun k => k.fx 3 aa) <| .t (fun _ w hn k => ⟨_, v_bin rfl (k.eq1 0 7 rfl) rfl (fun _ => rfl) (r_leqK ad), rfl⟩) <| .m (fun k => k.eq1 1 8 rfl) <| .gm (fun k => k.eq1 2 9 rfl) (fun k => k.fx 3 aa) <| .g (fun k => k.eq1 2 9 rfl) (fun _ w hn k => ⟨_, v_bin rfl (k.eq1 3 10 rfl) rfl (fun _ => rfl) (r_eql ae), rfl⟩) <| .gm (fun k => k.eq1 2 9 rfl) (fun k => k.eq1 4 11 rfl) <| .gf (fun k => k.eq1 5 12 rfl) (fun k => k.fx 1 al) <| .o1 (tg rfl rfl rfl (fun _ _ k => k.eq1 5 12 rfl) fun _ w hn k => ⟨_, v_load rfl (k.eq1 6 13 rfl) (l_one Tryd.isAgg4 ((ah.new_ hn).cell 0)), congrArg Value.bool af⟩) <| .g (fun k => k.eq1 5 12 rfl) (fun _ w hn k => ⟨_, v_not rfl (k.eq1 7 14 rfl), rfl⟩) <| .g (fun k => k.eq1 2 9 rfl) (fun _ w hn k => ⟨_, v_pickT rfl (k.eq1 5 12 rfl) (k.eq1 8 15 rfl), rfl⟩) <| .gm (fun k => k.eq1 2 9 rfl) (fun k => k.eq1 9 16 rfl) <| .gm (fun k => k.eq1 10 17 rfl) (fun k => k.fx 3 aa) <| .g (fun k => k.eq1 10 17 rfl) (fun _ w hn k => ⟨_, v_bin rfl (k.eq1 11 18 rfl) rfl (fun _ => rfl) (r_gtrK aj), rfl⟩) <| .gm (fun k => k.eq1 10 17 rfl) (fun k => k.eq1 12 19 rfl) <| .gf (fun k => k.eq1 13 20 rfl) (fun k => k.fx 1 al) <| .g (fun k => k.eq1 13 20 rfl) (fun _ w hn k => ⟨_, v_load rfl (k.eq1 14 21 rfl) (l_one Tryd.isAgg24 ((ah.new_ hn).cell 1)), rfl⟩) <| .gm (fun k => k.eq1 13 20 rfl) (fun k => k.fx 3 aa) <| .g (fun k => k.eq1 13 20 rfl) (fun _ w hn k => ⟨_, v_bin rfl (k.eq1 16 23 rfl) rfl (fun _ => rfl) (r_sub rfl (by omega)), rfl⟩) ?_
 refine .o1 (tg rfl rfl rfl (fun _ _ k => k.eq1 13 20 rfl) fun _ w hn k => (by
       exact x_eaddr (k := .u32) rfl elW (k.eq1 15 22 rfl) (k.eq1 17 24 rfl) (hra.new_ (ac.transNew hn)) (by omega) fun b9 bh hme => ⟨b9, bh, rfl, hme⟩)) ?_
 refine .o1 (tg rfl rfl rfl (fun _ _ k => k.eq1 13 20 rfl) fun _ w hn k => (by
       obtain ⟨b4, b5, bi, aI⟩ : (EP (.int .u32 ((ma.getD (((ma.length : Int) - 1 : Int).toNat) 0 : Nat) : Int))) _ _ := k.dep 18 25 (by kernel_rfl) (by kernel_rfl)
       exact ⟨_, v_load rfl bi (l_one Tryd.isAgg53 aI.1), rfl⟩)) ?_
 exact .g (fun k => k.eq1 13 20 rfl) (fun _ w hn k => ⟨_, v_bin rfl (k.eq1 19 26 rfl) rfl (fun _ => rfl) (r_neq am), rfl⟩) <| .g (fun k => k.eq1 10 17 rfl) (fun _ w hn k => ⟨_, v_pickT rfl (k.eq1 13 20 rfl) (k.eq1 20 27 rfl), rfl⟩) <| .g (fun k => k.eq1 2 9 rfl) (fun _ w hn k => ⟨_, v_pickF rfl (k.eq1 10 17 rfl) (k.eq1 21 28 rfl), rfl⟩) <| .t (fun _ w hn k => ⟨_, v_pickT rfl (k.eq1 2 9 rfl) (k.eq1 22 29 rfl), rfl⟩) <| .a (fun k => k.eq1 23 30 rfl) .nil
 refine aftI ab ag ac fun b6 b7 bJ aJ aK bK aL => ?_
 have bj := aL.ge 24 2 rfl
 refine st_nil (ai _ _ ?_)
 refine wp_ret (ret_k aJ (v := .bool false) (res_t rfl bj _) ?_)
 have hix : ((ma.length : Int) - 1).toNat = ma.length - 1 := by omega
 have q8 : decide (ma.length ≤ 8) = true := decide_eq_true (by omega)
 have q0 : decide (ma.length = 0) = true := decide_eq_true (by omega)
 have q1 : decide (0 < ma.length) = false := decide_eq_false (by omega)
 rw [hix] at ao
 have q2 : decide (ma.getD (ma.length - 1) 0 ≠ 0) = false := decide_eq_false (by omega)
 refine ⟨?_, aK⟩
 rw [show mayB a ma = false from by unfold mayB; simp only [q8, q0, q1, af, q2]; first | rfl | (exfalso; omega)]
 have ao := oF am
 refine wp_g0 (.replicate 25 true) [] 31
   [ve (iv (ma.length : Int)), vT, vT, ve (iv (ma.length : Int)), vT, vT, ve (pv q9), vT, vF, vF, vF, ve (iv (ma.length : Int)), vT, vT, ve (.pointer (some ⟨q9, 1, none⟩)), ve (sv Aa ma ca), ve (iv (ma.length : Int)), ve (iv ((ma.length : Int) - 1)),
    (EP (.int .u32 ((ma.getD (((ma.length : Int) - 1 : Int).toNat) 0 : Nat) : Int))), ve (.int .u32 ((ma.getD (((ma.length : Int) - 1 : Int).toNat) 0 : Nat) : Int)), vT, vT, vT, vT, vT] ab (.eq (.eq (.eq (.eq (.eq (.eq (.eq (.eq (.eq (.eq (.eq (.eq (.eq (.eq (.eq (.eq (.eq (.eq (.cons (fun _ _ _ n ⟨_, _, e, h⟩ => ⟨_, _, e, h.new_ n⟩) (.eq (.eq (.eq (.eq (.eq (.eq (.nil)))))))))))))))))))))))))) ?_ ?_
 refine .m (fun k => k.fx 3 aa) <| .t (fun _ w hn k => ⟨_, v_bin rfl (k.eq1 0 7 rfl) rfl (fun _ => rfl) (r_leqK ad), rfl⟩) <| .m (fun k => k.eq1 1 8 rfl) <| .gm (fun k => k.eq1 2 9 rfl) (fun k => k.fx 3 aa) <| .g (fun k => k.eq1 2 9 rfl) (fun _ w hn k => ⟨_, v_bin rfl (k.eq1 3 10 rfl) rfl (fun _ => rfl) (r_eql ae), rfl⟩) <| .gm (fun k => k.eq1 2 9 rfl) (fun k => k.eq1 4 11 rfl) <| .gf (fun k => k.eq1 5 12 rfl) (fun k => k.fx 1 al) <| .o1 (tg rfl rfl rfl (fun _ _ k => k.eq1 5 12 rfl) fun _ w hn k => ⟨_, v_load rfl (k.eq1 6 13 rfl) (l_one Tryd.isAgg4 ((ah.new_ hn).cell 0)), congrArg Value.bool af⟩) <| .g (fun k => k.eq1 5 12 rfl) (fun _ w hn k => ⟨_, v_not rfl (k.eq1 7 14 rfl), rfl⟩) <| .g (fun k => k.eq1 2 9 rfl) (fun _ w hn k => ⟨_, v_pickT rfl (k.eq1 5 12 rfl) (k.eq1 8 15 rfl), rfl⟩) <| .gm (fun k => k.eq1 2 9 rfl) (fun k => k.eq1 9 16 rfl) <| .gm (fun k => k.eq1 10 17 rfl) (fun k => k.fx 3 aa) <| .g (fun k => k.eq1 10 17 rfl) (fun _ w hn k => ⟨_, v_bin rfl (k.eq1 11 18 rfl) rfl (fun _ => rfl) (r_gtrK aj), rfl⟩) <| .gm (fun k => k.eq1 10 17 rfl) (fun k => k.eq1 12 19 rfl) <| .gf (fun k => k.eq1 13 20 rfl) (fun k => k.fx 1 al) <| .g (fun k => k.eq1 13 20 rfl) (fun _ w hn k => ⟨_, v_load rfl (k.eq1 14 21 rfl) (l_one Tryd.isAgg24 ((ah.new_ hn).cell 1)), rfl⟩) <| .gm (fun k => k.eq1 13 20 rfl) (fun k => k.fx 3 aa) <| .g (fun k => k.eq1 13 20 rfl) (fun _ w hn k => ⟨_, v_bin rfl (k.eq1 16 23 rfl) rfl (fun _ => rfl) (r_sub rfl (by omega)), rfl⟩) ?_
 refine .o1 (tg rfl rfl rfl (fun _ _ k => k.eq1 13 20 rfl) fun _ w hn k => (by
       exact x_eaddr (k := .u32) rfl elW (k.eq1 15 22 rfl) (k.eq1 17 24 rfl) (hra.new_ (ac.transNew hn)) (by omega) fun bm bn hme => ⟨bm, bn, rfl, hme⟩)) ?_
 refine .o1 (tg rfl rfl rfl (fun _ _ k => k.eq1 13 20 rfl) fun _ w hn k => (by
       obtain ⟨b8, cb, bo, aM⟩ : (EP (.int .u32 ((ma.getD (((ma.length : Int) - 1 : Int).toNat) 0 : Nat) : Int))) _ _ := k.dep 18 25 (by kernel_rfl) (by kernel_rfl)
       exact ⟨_, v_load rfl bo (l_one Tryd.isAgg53 aM.1), rfl⟩)) ?_
 exact .g (fun k => k.eq1 13 20 rfl) (fun _ w hn k => ⟨_, v_bin rfl (k.eq1 19 26 rfl) rfl (fun _ => rfl) (r_neq am), rfl⟩) <| .g (fun k => k.eq1 10 17 rfl) (fun _ w hn k => ⟨_, v_pickT rfl (k.eq1 13 20 rfl) (k.eq1 20 27 rfl), rfl⟩) <| .g (fun k => k.eq1 2 9 rfl) (fun _ w hn k => ⟨_, v_pickF rfl (k.eq1 10 17 rfl) (k.eq1 21 28 rfl), rfl⟩) <| .t (fun _ w hn k => ⟨_, v_pickT rfl (k.eq1 2 9 rfl) (k.eq1 22 29 rfl), rfl⟩) <| .a (fun k => k.eq1 23 30 rfl) .nil
 refine aftI ab ag ac fun cc cd bL aN aO bM aP => ?_
 have bp := aP.ge 24 2 rfl
 refine st_nil (ai _ _ ?_)
 refine wp_ret (ret_k aN (v := .bool true) (res_t rfl bp _) ?_)
 have hix : ((ma.length : Int) - 1).toNat = ma.length - 1 := by omega
 have q8 : decide (ma.length ≤ 8) = true := decide_eq_true (by omega)
 have q0 : decide (ma.length = 0) = true := decide_eq_true (by omega)
 have q1 : decide (0 < ma.length) = false := decide_eq_false (by omega)
 rw [hix] at ao
 have q2 : decide (ma.getD (ma.length - 1) 0 ≠ 0) = true := decide_eq_true (by omega)
 refine ⟨?_, aO⟩
 rw [show mayB a ma = true from by unfold mayB; simp only [q8, q0, q1, af, q2]; first | rfl | (exfalso; omega)]
 refine wp_g0 (.replicate 25 true) [] 31
   [ve (iv (ma.length : Int)), vT, vT, ve (iv (ma.length : Int)), vT, vT, ve (pv q9), vF, vT, vT, vT, vU, vU, vU, vU, vU, vU, vU, vU, vU, vU, vU, vT, vT, vT] ab (.eq (.eq (.eq (.eq (.eq (.eq (.eq (.eq (.eq (.eq (.eq (.eq (.eq (.eq (.eq (.eq (.eq (.eq (.eq (.eq (.eq (.eq (.eq (.eq (.eq (.nil)))))))))))))))))))))))))) ?_ ?_
 exact .m (fun k => k.fx 3 aa) <| .t (fun _ w hn k => ⟨_, v_bin rfl (k.eq1 0 7 rfl) rfl (fun _ => rfl) (r_leqK ad), rfl⟩) <| .m (fun k => k.eq1 1 8 rfl) <| .gm (fun k => k.eq1 2 9 rfl) (fun k => k.fx 3 aa) <| .g (fun k => k.eq1 2 9 rfl) (fun _ w hn k => ⟨_, v_bin rfl (k.eq1 3 10 rfl) rfl (fun _ => rfl) (r_eql ae), rfl⟩) <| .gm (fun k => k.eq1 2 9 rfl) (fun k => k.eq1 4 11 rfl) <| .gf (fun k => k.eq1 5 12 rfl) (fun k => k.fx 1 al) <| .o1 (tg rfl rfl rfl (fun _ _ k => k.eq1 5 12 rfl) fun _ w hn k => ⟨_, v_load rfl (k.eq1 6 13 rfl) (l_one Tryd.isAgg4 ((ah.new_ hn).cell 0)), congrArg Value.bool af⟩) <| .g (fun k => k.eq1 5 12 rfl) (fun _ w hn k => ⟨_, v_not rfl (k.eq1 7 14 rfl), rfl⟩) <| .g (fun k => k.eq1 2 9 rfl) (fun _ w hn k => ⟨_, v_pickT rfl (k.eq1 5 12 rfl) (k.eq1 8 15 rfl), rfl⟩) <| .gm (fun k => k.eq1 2 9 rfl) (fun k => k.eq1 9 16 rfl) <| .s (fun k => k.eq1 10 17 rfl) <| .s (fun k => k.eq1 10 17 rfl) <| .s (fun k => k.eq1 10 17 rfl) <| .o1 (su rfl rfl rfl (fun _ _ _ k => k.eq1 13 20 rfl) (fun _ => rfl)) <| .o1 (su rfl rfl rfl (fun _ _ _ k => k.eq1 13 20 rfl) (fun _ => rfl)) <| .o1 (su rfl rfl rfl (fun _ _ _ k => k.eq1 13 20 rfl) (fun _ => rfl)) <| .o1 (su rfl rfl rfl (fun _ _ _ k => k.eq1 13 20 rfl) (fun _ => rfl)) <| .o1 (su rfl rfl rfl (fun _ _ _ k => k.eq1 13 20 rfl) (fun _ => rfl)) <| .o1 (su rfl rfl rfl (fun _ _ _ k => k.eq1 13 20 rfl) (fun _ => rfl)) <| .o1 (su rfl rfl rfl (fun _ _ _ k => k.eq1 13 20 rfl) (fun _ => rfl)) <| .s (fun k => k.eq1 10 17 rfl) <| .g (fun k => k.eq1 2 9 rfl) (fun _ w hn k => ⟨_, v_pickT rfl (k.eq1 10 17 rfl) rfl, rfl⟩) <| .t (fun _ w hn k => ⟨_, v_pickT rfl (k.eq1 2 9 rfl) (k.eq1 22 29 rfl), rfl⟩) <| .a (fun k => k.eq1 23 30 rfl) .nil
 refine aftI ab ag ac fun ce cf bN aQ aR bO aS => ?_
 have bq := aS.ge 24 2 rfl
 refine st_nil (ai _ _ ?_)
 refine wp_ret (ret_k aQ (v := .bool true) (res_t rfl bq _) ?_)
 have hix : ((ma.length : Int) - 1).toNat = ma.length - 1 := by omega
 have q8 : decide (ma.length ≤ 8) = true := decide_eq_true (by omega)
 have q0 : decide (ma.length = 0) = true := decide_eq_true (by omega)
 have q1 : decide (0 < ma.length) = false := decide_eq_false (by omega)
 refine ⟨?_, aR⟩
 rw [show mayB a ma = true from by unfold mayB; simp only [q8, q0, q1, af]; first | rfl | (exfalso; omega)]
 have aw := oF ae
 rcases bc (decide ((ma.length : Int) ≤ 0)) with ak | ak
 have ay := oT ak
 refine wp_g0 (.replicate 25 true) [] 31
   [ve (iv (ma.length : Int)), vT, vT, ve (iv (ma.length : Int)), vF, vF, vU, vU, vU, vF, vF, ve (iv (ma.length : Int)), vF, vF, vU, vU, vU, vU, vU, vU, vU, vF, vF, vF, vF] ab (.eq (.eq (.eq (.eq (.eq (.eq (.eq (.eq (.eq (.eq (.eq (.eq (.eq (.eq (.eq (.eq (.eq (.eq (.eq (.eq (.eq (.eq (.eq (.eq (.eq (.nil)))))))))))))))))))))))))) ?_ ?_
 exact .m (fun k => k.fx 3 aa) <| .t (fun _ w hn k => ⟨_, v_bin rfl (k.eq1 0 7 rfl) rfl (fun _ => rfl) (r_leqK ad), rfl⟩) <| .m (fun k => k.eq1 1 8 rfl) <| .gm (fun k => k.eq1 2 9 rfl) (fun k => k.fx 3 aa) <| .g (fun k => k.eq1 2 9 rfl) (fun _ w hn k => ⟨_, v_bin rfl (k.eq1 3 10 rfl) rfl (fun _ => rfl) (r_eql ae), rfl⟩) <| .gm (fun k => k.eq1 2 9 rfl) (fun k => k.eq1 4 11 rfl) <| .s (fun k => k.eq1 5 12 rfl) <| .s (fun k => k.eq1 5 12 rfl) <| .s (fun k => k.eq1 5 12 rfl) <| .g (fun k => k.eq1 2 9 rfl) (fun _ w hn k => ⟨_, v_pickF rfl (k.eq1 5 12 rfl) rfl, rfl⟩) <| .gm (fun k => k.eq1 2 9 rfl) (fun k => k.eq1 9 16 rfl) <| .gm (fun k => k.eq1 10 17 rfl) (fun k => k.fx 3 aa) <| .g (fun k => k.eq1 10 17 rfl) (fun _ w hn k => ⟨_, v_bin rfl (k.eq1 11 18 rfl) rfl (fun _ => rfl) (r_gtrK ak), rfl⟩) <| .gm (fun k => k.eq1 10 17 rfl) (fun k => k.eq1 12 19 rfl) <| .s (fun k => k.eq1 13 20 rfl) <| .s (fun k => k.eq1 13 20 rfl) <| .s (fun k => k.eq1 13 20 rfl) <| .s (fun k => k.eq1 13 20 rfl) <| .s (fun k => k.eq1 13 20 rfl) <| .s (fun k => k.eq1 13 20 rfl) <| .s (fun k => k.eq1 13 20 rfl) <| .g (fun k => k.eq1 10 17 rfl) (fun _ w hn k => ⟨_, v_pickF rfl (k.eq1 13 20 rfl) rfl, rfl⟩) <| .g (fun k => k.eq1 2 9 rfl) (fun _ w hn k => ⟨_, v_pickF rfl (k.eq1 10 17 rfl) (k.eq1 21 28 rfl), rfl⟩) <| .t (fun _ w hn k => ⟨_, v_pickT rfl (k.eq1 2 9 rfl) (k.eq1 22 29 rfl), rfl⟩) <| .a (fun k => k.eq1 23 30 rfl) .nil
 refine aftI ab ag ac fun ch ci bP aT aU bQ aV => ?_
 have br := aV.ge 24 2 rfl
 refine st_nil (ai _ _ ?_)
 refine wp_ret (ret_k aT (v := .bool false) (res_t rfl br _) ?_)
 have hix : ((ma.length : Int) - 1).toNat = ma.length - 1 := by omega
 have q8 : decide (ma.length ≤ 8) = true := decide_eq_true (by omega)
 have q0 : decide (ma.length = 0) = false := decide_eq_false (by omega)
 have q1 : decide (0 < ma.length) = true := decide_eq_true (by omega)
 refine ⟨?_, aU⟩
 rw [show mayB a ma = false from by unfold mayB; simp only [q8, q0, q1]; first | rfl | (exfalso; omega)]
 have ay := oF ak
 rcases bc (decide (((ma.getD (((ma.length : Int) - 1 : Int).toNat) 0 : Nat) : Int) = 0)) with an | an
 have ap := oT an
 refine wp_g0 (.replicate 25 true) [] 31
   [ve (iv (ma.length : Int)), vT, vT, ve (iv (ma.length : Int)), vF, vF, vU, vU, vU, vF, vF, ve (iv (ma.length : Int)), vT, vT, ve (.pointer (some ⟨q9, 1, none⟩)), ve (sv Aa ma ca), ve (iv (ma.length : Int)), ve (iv ((ma.length : Int) - 1)),
    (EP (.int .u32 ((ma.getD (((ma.length : Int) - 1 : Int).toNat) 0 : Nat) : Int))), ve (.int .u32 ((ma.getD (((ma.length : Int) - 1 : Int).toNat) 0 : Nat) : Int)), vF, vF, vF, vF, vF] ab (.eq (.eq (.eq (.eq (.eq (.eq (.eq (.eq (.eq (.eq (.eq (.eq (.eq (.eq (.eq (.eq (.eq (.eq (.cons (fun _ _ _ n ⟨_, _, e, h⟩ => ⟨_, _, e, h.new_ n⟩) (.eq (.eq (.eq (.eq (.eq (.eq (.nil)))))))))))))))))))))))))) ?_ ?_
 refine .m (fun k => k.fx 3 aa) <| .t (fun _ w hn k => ⟨_, v_bin rfl (k.eq1 0 7 rfl) rfl (fun _ => rfl) (r_leqK ad), rfl⟩) <| .m (fun k => k.eq1 1 8 rfl) <| .gm (fun k => k.eq1 2 9 rfl) (fun k => k.fx 3 aa) <| .g (fun k => k.eq1 2 9 rfl) (fun _ w hn k => ⟨_, v_bin rfl (k.eq1 3 10 rfl) rfl (fun _ => rfl) (r_eql ae), rfl⟩) <| .gm (fun k => k.eq1 2 9 rfl) (fun k => k.eq1 4 11 rfl) <| .s (fun k => k.eq1 5 12 rfl) <| .s (fun k => k.eq1 5 12 rfl) <| .s (fun k => k.eq1 5 12 rfl) <| .g (fun k => k.eq1 2 9 rfl) (fun _ w hn k => ⟨_, v_pickF rfl (k.eq1 5 12 rfl) rfl, rfl⟩) <| .gm (fun k => k.eq1 2 9 rfl) (fun k => k.eq1 9 16 rfl) <| .gm (fun k => k.eq1 10 17 rfl) (fun k => k.fx 3 aa) <| .g (fun k => k.eq1 10 17 rfl) (fun _ w hn k => ⟨_, v_bin rfl (k.eq1 11 18 rfl) rfl (fun _ => rfl) (r_gtrK ak), rfl⟩) <| .gm (fun k => k.eq1 10 17 rfl) (fun k => k.eq1 12 19 rfl) <| .gf (fun k => k.eq1 13 20 rfl) (fun k => k.fx 1 al) <| .g (fun k => k.eq1 13 20 rfl) (fun _ w hn k => ⟨_, v_load rfl (k.eq1 14 21 rfl) (l_one Tryd.isAgg24 ((ah.new_ hn).cell 1)), rfl⟩) <| .gm (fun k => k.eq1 13 20 rfl) (fun k => k.fx 3 aa) <| .g (fun k => k.eq1 13 20 rfl) (fun _ w hn k => ⟨_, v_bin rfl (k.eq1 16 23 rfl) rfl (fun _ => rfl) (r_sub rfl (by omega)), rfl⟩) ?_
 refine .o1 (tg rfl rfl rfl (fun _ _ k => k.eq1 13 20 rfl) fun _ w hn k => (by
       exact x_eaddr (k := .u32) rfl elW (k.eq1 15 22 rfl) (k.eq1 17 24 rfl) (hra.new_ (ac.transNew hn)) (by omega) fun bu bv hme => ⟨bu, bv, rfl, hme⟩)) ?_
 refine .o1 (tg rfl rfl rfl (fun _ _ k => k.eq1 13 20 rfl) fun _ w hn k => (by
       obtain ⟨cj, cl, bw, aW⟩ : (EP (.int .u32 ((ma.getD (((ma.length : Int) - 1 : Int).toNat) 0 : Nat) : Int))) _ _ := k.dep 18 25 (by kernel_rfl) (by kernel_rfl)
       exact ⟨_, v_load rfl bw (l_one Tryd.isAgg53 aW.1), rfl⟩)) ?_
 exact .g (fun k => k.eq1 13 20 rfl) (fun _ w hn k => ⟨_, v_bin rfl (k.eq1 19 26 rfl) rfl (fun _ => rfl) (r_neq an), rfl⟩) <| .g (fun k => k.eq1 10 17 rfl) (fun _ w hn k => ⟨_, v_pickT rfl (k.eq1 13 20 rfl) (k.eq1 20 27 rfl), rfl⟩) <| .g (fun k => k.eq1 2 9 rfl) (fun _ w hn k => ⟨_, v_pickF rfl (k.eq1 10 17 rfl) (k.eq1 21 28 rfl), rfl⟩) <| .t (fun _ w hn k => ⟨_, v_pickT rfl (k.eq1 2 9 rfl) (k.eq1 22 29 rfl), rfl⟩) <| .a (fun k => k.eq1 23 30 rfl) .nil
 refine aftI ab ag ac fun cm cn bR aX aY bS aZ => ?_
 have bx := aZ.ge 24 2 rfl
 refine st_nil (ai _ _ ?_)
 refine wp_ret (ret_k aX (v := .bool false) (res_t rfl bx _) ?_)
 have hix : ((ma.length : Int) - 1).toNat = ma.length - 1 := by omega
 have q8 : decide (ma.length ≤ 8) = true := decide_eq_true (by omega)
 have q0 : decide (ma.length = 0) = false := decide_eq_false (by omega)
 have q1 : decide (0 < ma.length) = true := decide_eq_true (by omega)
 rw [hix] at ap
 have q2 : decide (ma.getD (ma.length - 1) 0 ≠ 0) = false := decide_eq_false (by omega)
 refine ⟨?_, aY⟩
 rw [show mayB a ma = false from by unfold mayB; simp only [q8, q0, q1, q2]; first | rfl | (exfalso; omega)]
 have ap := oF an
 refine wp_g0 (.replicate 25 true) [] 31
   [ve (iv (ma.length : Int)), vT, vT, ve (iv (ma.length : Int)), vF, vF, vU, vU, vU, vF, vF, ve (iv (ma.length : Int)), vT, vT, ve (.pointer (some ⟨q9, 1, none⟩)), ve (sv Aa ma ca), ve (iv (ma.length : Int)), ve (iv ((ma.length : Int) - 1)),
    (EP (.int .u32 ((ma.getD (((ma.length : Int) - 1 : Int).toNat) 0 : Nat) : Int))), ve (.int .u32 ((ma.getD (((ma.length : Int) - 1 : Int).toNat) 0 : Nat) : Int)), vT, vT, vT, vT, vT] ab (.eq (.eq (.eq (.eq (.eq (.eq (.eq (.eq (.eq (.eq (.eq (.eq (.eq (.eq (.eq (.eq (.eq (.eq (.cons (fun _ _ _ n ⟨_, _, e, h⟩ => ⟨_, _, e, h.new_ n⟩) (.eq (.eq (.eq (.eq (.eq (.eq (.nil)))))))))))))))))))))))))) ?_ ?_
 refine .m (fun k => k.fx 3 aa) <| .t (fun _ w hn k => ⟨_, v_bin rfl (k.eq1 0 7 rfl) rfl (fun _ => rfl) (r_leqK ad), rfl⟩) <| .m (fun k => k.eq1 1 8 rfl) <| .gm (fun k => k.eq1 2 9 rfl) (fun k => k.fx 3 aa) <| .g (fun k => k.eq1 2 9 rfl) (fun _ w hn k => ⟨_, v_bin rfl (k.eq1 3 10 rfl) rfl (fun _ => rfl) (r_eql ae), rfl⟩) <| .gm (fun k => k.eq1 2 9 rfl) (fun k => k.eq1 4 11 rfl) <| .s (fun k => k.eq1 5 12 rfl) <| .s (fun k => k.eq1 5 12 rfl) <| .s (fun k => k.eq1 5 12 rfl) <| .g (fun k => k.eq1 2 9 rfl) (fun _ w hn k => ⟨_, v_pickF rfl (k.eq1 5 12 rfl) rfl, rfl⟩) <| .gm (fun k => k.eq1 2 9 rfl) (fun k => k.eq1 9 16 rfl) <| .gm (fun k => k.eq1 10 17 rfl) (fun k => k.fx 3 aa) <| .g (fun k => k.eq1 10 17 rfl) (fun _ w hn k => ⟨_, v_bin rfl (k.eq1 11 18 rfl) rfl (fun _ => rfl) (r_gtrK ak), rfl⟩) <| .gm (fun k => k.eq1 10 17 rfl) (fun k => k.eq1 12 19 rfl) <| .gf (fun k => k.eq1 13 20 rfl) (fun k => k.fx 1 al) <| .g (fun k => k.eq1 13 20 rfl) (fun _ w hn k => ⟨_, v_load rfl (k.eq1 14 21 rfl) (l_one Tryd.isAgg24 ((ah.new_ hn).cell 1)), rfl⟩) <| .gm (fun k => k.eq1 13 20 rfl) (fun k => k.fx 3 aa) <| .g (fun k => k.eq1 13 20 rfl) (fun _ w hn k => ⟨_, v_bin rfl (k.eq1 16 23 rfl) rfl (fun _ => rfl) (r_sub rfl (by omega)), rfl⟩) ?_
 refine .o1 (tg rfl rfl rfl (fun _ _ k => k.eq1 13 20 rfl) fun _ w hn k => (by
       exact x_eaddr (k := .u32) rfl elW (k.eq1 15 22 rfl) (k.eq1 17 24 rfl) (hra.new_ (ac.transNew hn)) (by omega) fun bB bC hme => ⟨bB, bC, rfl, hme⟩)) ?_
 refine .o1 (tg rfl rfl rfl (fun _ _ k => k.eq1 13 20 rfl) fun _ w hn k => (by
       obtain ⟨co, cp, bD, a1⟩ : (EP (.int .u32 ((ma.getD (((ma.length : Int) - 1 : Int).toNat) 0 : Nat) : Int))) _ _ := k.dep 18 25 (by kernel_rfl) (by kernel_rfl)
       exact ⟨_, v_load rfl bD (l_one Tryd.isAgg53 a1.1), rfl⟩)) ?_
 exact .g (fun k => k.eq1 13 20 rfl) (fun _ w hn k => ⟨_, v_bin rfl (k.eq1 19 26 rfl) rfl (fun _ => rfl) (r_neq an), rfl⟩) <| .g (fun k => k.eq1 10 17 rfl) (fun _ w hn k => ⟨_, v_pickT rfl (k.eq1 13 20 rfl) (k.eq1 20 27 rfl), rfl⟩) <| .g (fun k => k.eq1 2 9 rfl) (fun _ w hn k => ⟨_, v_pickF rfl (k.eq1 10 17 rfl) (k.eq1 21 28 rfl), rfl⟩) <| .t (fun _ w hn k => ⟨_, v_pickT rfl (k.eq1 2 9 rfl) (k.eq1 22 29 rfl), rfl⟩) <| .a (fun k => k.eq1 23 30 rfl) .nil
 refine aftI ab ag ac fun cq cr bT a3 a4 bU a5 => ?_
 have bE := a5.ge 24 2 rfl
 refine st_nil (ai _ _ ?_)
 refine wp_ret (ret_k a3 (v := .bool true) (res_t rfl bE _) ?_)
 have hix : ((ma.length : Int) - 1).toNat = ma.length - 1 := by omega
 have q8 : decide (ma.length ≤ 8) = true := decide_eq_true (by omega)
 have q0 : decide (ma.length = 0) = false := decide_eq_false (by omega)
 have q1 : decide (0 < ma.length) = true := decide_eq_true (by omega)
 rw [hix] at ap
 have q2 : decide (ma.getD (ma.length - 1) 0 ≠ 0) = true := decide_eq_true (by omega)
 refine ⟨?_, a4⟩
 rw [show mayB a ma = true from by unfold mayB; simp only [q8, q0, q1, q2]; first | rfl | (exfalso; omega)]
 have av := oF ad
 refine wp_g0 (.replicate 25 true) [] 31
   [ve (iv (ma.length : Int)), vF, vF, vU, vU, vU, vU, vU, vU, vU, vU, vU, vU, vU, vU, vU, vU, vU, vU, vU, vU, vU, vU, vF, vF] ab (.eq (.eq (.eq (.eq (.eq (.eq (.eq (.eq (.eq (.eq (.eq (.eq (.eq (.eq (.eq (.eq (.eq (.eq (.eq (.eq (.eq (.eq (.eq (.eq (.eq (.nil)))))))))))))))))))))))))) ?_ ?_
 exact .m (fun k => k.fx 3 aa) <| .t (fun _ w hn k => ⟨_, v_bin rfl (k.eq1 0 7 rfl) rfl (fun _ => rfl) (r_leqK ad), rfl⟩) <| .m (fun k => k.eq1 1 8 rfl) <| .s (fun k => k.eq1 2 9 rfl) <| .s (fun k => k.eq1 2 9 rfl) <| .s (fun k => k.eq1 2 9 rfl) <| .o1 (su rfl rfl rfl (fun _ _ _ k => k.eq1 5 12 rfl) (fun _ => rfl)) <| .o1 (su rfl rfl rfl (fun _ _ _ k => k.eq1 5 12 rfl) (fun _ => rfl)) <| .o1 (su rfl rfl rfl (fun _ _ _ k => k.eq1 5 12 rfl) (fun _ => rfl)) <| .s (fun k => k.eq1 2 9 rfl) <| .s (fun k => k.eq1 2 9 rfl) <| .o1 (su rfl rfl rfl (fun _ _ _ k => k.eq1 10 17 rfl) (fun _ => rfl)) <| .o1 (su rfl rfl rfl (fun _ _ _ k => k.eq1 10 17 rfl) (fun _ => rfl)) <| .o1 (su rfl rfl rfl (fun _ _ _ k => k.eq1 10 17 rfl) (fun _ => rfl)) <| .o1 (su rfl rfl rfl (fun _ _ _ k => k.eq1 13 20 rfl) (fun _ => rfl)) <| .o1 (su rfl rfl rfl (fun _ _ _ k => k.eq1 13 20 rfl) (fun _ => rfl)) <| .o1 (su rfl rfl rfl (fun _ _ _ k => k.eq1 13 20 rfl) (fun _ => rfl)) <| .o1 (su rfl rfl rfl (fun _ _ _ k => k.eq1 13 20 rfl) (fun _ => rfl)) <| .o1 (su rfl rfl rfl (fun _ _ _ k => k.eq1 13 20 rfl) (fun _ => rfl)) <| .o1 (su rfl rfl rfl (fun _ _ _ k => k.eq1 13 20 rfl) (fun _ => rfl)) <| .o1 (su rfl rfl rfl (fun _ _ _ k => k.eq1 13 20 rfl) (fun _ => rfl)) <| .o1 (su rfl rfl rfl (fun _ _ _ k => k.eq1 10 17 rfl) (fun _ => rfl)) <| .s (fun k => k.eq1 2 9 rfl) <| .t (fun _ w hn k => ⟨_, v_pickF rfl (k.eq1 2 9 rfl) rfl, rfl⟩) <| .a (fun k => k.eq1 23 30 rfl) .nil
 refine aftI ab ag ac fun ct cu bV a6 a7 bW a8 => ?_
 have bF := a8.ge 24 2 rfl
 refine st_nil (ai _ _ ?_)
 refine wp_ret (ret_k a6 (v := .bool false) (res_t rfl bF _) ?_)
 have hix : ((ma.length : Int) - 1).toNat = ma.length - 1 := by omega
 have q8 : decide (ma.length ≤ 8) = false := decide_eq_false (by omega)
 refine ⟨?_, a7⟩
 rw [show mayB a ma = false from by unfold mayB; simp only [q8]; first | rfl | (exfalso; omega)]
theorem zero_c (v : Vl) (Av : Option Addr) (cv : Nat) (Bv : Option Addr) (dv : Nat) (w : World) (hmv : SRow w .u32 Av v.mag cv) (hsv : SRow w .u16 Bv v.s dv) : Calls Tryd.prog 32 #[vv v Av cv Bv dv] w (IsRet (.bool (zeroV v)) w) := by
 refine enter_abs Tryd.func32 rfl fun a0 ak aL hp => ?_
 have ak : a0.tmps.size = 31 := ak
 have ap : New w w := Upd.refl _ _
 have hp0 : a0.eval (.tmp 0) = vv v Av cv Bv dv := hp 0 _ rfl
 refine wp_seq_k fun K1 aM => ?_
 refine wp_g [true, true] [] [] 31
   [IsNew w 29 [iv v.k, iv v.nk, iv v.nn, .bool v.neg, sv Av v.mag cv, sv Bv v.s dv, iv v.ref], vF]
   [0] (newsCons (fun v w h => IsNew.old h) newsNil) ak (.nw (.eq (.nil))) ?_ (fun i h => by cases h) ?_
 exact .o2 (step_allocN (cs := [iv v.k, iv v.nk, iv v.nn, .bool v.neg, sv Av v.mag cv, sv Bv v.s dv, iv v.ref]) (t := 29) rfl (noG rfl) (fun _ w hn k => v_box rfl (k.fx 0 hp0) (fun w => rfl)) (fun q _ hq hb => ⟨q, rfl, hq, hb⟩)) <| .t (fun _ w hn k => ⟨_, v_assign rfl rfl, rfl⟩) .nil
 refine aftI ak aL ap fun a2 w3 af aj ah a9 aN => ?_
 obtain ⟨q9, h8, aq, aa⟩ : IsNew _ _ _ _ _ := aN.got 0 1 rfl (by kernel_rfl)
 have aU := Nat.le_trans ap.size aq
 refine st_nil (aM _ _ (wp_seq_k fun ba ai => ?_))
 rcases bc (decide (v.nk = 0)) with ab | ab
 have al := oT ab
 rcases bc (decide (v.nn = 0)) with ac | ac
 have am := oT ac
 rcases bc (v.neg) with ad | ad
 refine wp_g0 (.replicate 29 true) [] 31
   [ve (.pointer (some ⟨q9, 1, none⟩)), ve (nv (Nm.mk v.nk v.nn)), ve (nv (Nm.mk 0 0)), vT, vT, ve (.pointer (some ⟨q9, 3, none⟩)), ve (.pointer (some ⟨q9, 3, none⟩)), vT, vF, vF, vF, vU, vU, vU, vU, vU, vF, vF, vU, vU, vU, vU, vF, vF, vU, vU, vU, vF, vF] af (.eq (.eq (.eq (.eq (.eq (.eq (.eq (.eq (.eq (.eq (.eq (.eq (.eq (.eq (.eq (.eq (.eq (.eq (.eq (.eq (.eq (.eq (.eq (.eq (.eq (.eq (.eq (.eq (.eq (.nil)))))))))))))))))))))))))))))) ?_ ?_
 exact .f (fun k => k.fx 1 h8) <| .t (fun _ w hn k => ⟨_, v_load rfl (k.eq1 0 3 rfl) (l_part Tryd.isAgg23 Tryd.sizeOf23 (aa.new_ hn) lb), rfl⟩) <| .t (fun _ w hn k => ⟨_, v_build (ps := []) rfl parts0 (by kernel_rfl), rfl⟩) <| .t (fun _ w hn k => ⟨_, v_bin rfl (k.eq1 1 4 rfl) (k.eq1 2 5 rfl) (gNum _ _ _ _) (eqlNum _ _ _ _ (by show (decide (v.nk = 0) && decide (v.nn = 0)) = true; simp [ab, ac])), rfl⟩) <| .m (fun k => k.eq1 3 6 rfl) <| .gf (fun k => k.eq1 4 7 rfl) (fun k => k.fx 1 h8) <| .gf (fun k => k.eq1 4 7 rfl) (fun k => k.eq1 5 8 rfl) <| .o1 (tg rfl rfl rfl (fun _ _ k => k.eq1 4 7 rfl) fun _ w hn k => ⟨_, v_load rfl (k.eq1 6 9 rfl) (l_one Tryd.isAgg4 ((aa.new_ hn).cell 3)), congrArg Value.bool ad⟩) <| .g (fun k => k.eq1 4 7 rfl) (fun _ w hn k => ⟨_, v_not rfl (k.eq1 7 10 rfl), rfl⟩) <| .t (fun _ w hn k => ⟨_, v_pickT rfl (k.eq1 4 7 rfl) (k.eq1 8 11 rfl), rfl⟩) <| .m (fun k => k.eq1 9 12 rfl) <| .s (fun k => k.eq1 10 13 rfl) <| .s (fun k => k.eq1 10 13 rfl) <| .s (fun k => k.eq1 10 13 rfl) <| .s (fun k => k.eq1 10 13 rfl) <| .s (fun k => k.eq1 10 13 rfl) <| .t (fun _ w hn k => ⟨_, v_pickF rfl (k.eq1 10 13 rfl) rfl, rfl⟩) <| .m (fun k => k.eq1 16 19 rfl) <| .s (fun k => k.eq1 17 20 rfl) <| .s (fun k => k.eq1 17 20 rfl) <| .s (fun k => k.eq1 17 20 rfl) <| .s (fun k => k.eq1 17 20 rfl) <| .t (fun _ w hn k => ⟨_, v_pickF rfl (k.eq1 17 20 rfl) rfl, rfl⟩) <| .m (fun k => k.eq1 22 25 rfl) <| .s (fun k => k.eq1 23 26 rfl) <| .s (fun k => k.eq1 23 26 rfl) <| .s (fun k => k.eq1 23 26 rfl) <| .t (fun _ w hn k => ⟨_, v_pickF rfl (k.eq1 23 26 rfl) rfl, rfl⟩) <| .a (fun k => k.eq1 27 30 rfl) .nil
 refine aftI af aj ah fun bb bd aV ar au aW av => ?_
 have aO := av.ge 28 2 rfl
 refine st_nil (ai _ _ ?_)
 refine wp_ret (ret_k ar (v := .bool false) (res_t rfl aO _) ?_)
 refine ⟨?_, au⟩
 show Ending.returned (.bool false) = Ending.returned (.bool (zeroV v))
 first | rfl | (simp only [zeroV, ab, ac, ad, bsm] <;> rfl) | (exfalso; omega)
 rcases bc (decide ((v.mag.length : Int) = 0)) with ae | ae
 have an := oT ae
 rcases bc (decide ((v.s.length : Int) = 0)) with ag | ag
 have ao := oT ag
 refine wp_g0 (.replicate 29 true) [] 31
   [ve (.pointer (some ⟨q9, 1, none⟩)), ve (nv (Nm.mk v.nk v.nn)), ve (nv (Nm.mk 0 0)), vT, vT, ve (.pointer (some ⟨q9, 3, none⟩)), ve (.pointer (some ⟨q9, 3, none⟩)), vF, vT, vT, vT, ve (.pointer (some ⟨q9, 3, none⟩)), ve (.pointer (some ⟨q9, 4, none⟩)), ve (sv Av v.mag cv), ve (iv (v.mag.length : Int)), vT, vT, vT, ve (.pointer (some ⟨q9, 5, none⟩)), ve (sv Bv v.s dv), ve (iv (v.s.length : Int)), vT, vT, vT, ve (.pointer (some ⟨q9, 6, none⟩)), ve (iv v.ref), ve (.bool (decide (v.ref = 0))), ve (.bool (decide (v.ref = 0))), ve (.bool (decide (v.ref = 0)))] af (.eq (.eq (.eq (.eq (.eq (.eq (.eq (.eq (.eq (.eq (.eq (.eq (.eq (.eq (.eq (.eq (.eq (.eq (.eq (.eq (.eq (.eq (.eq (.eq (.eq (.eq (.eq (.eq (.eq (.nil)))))))))))))))))))))))))))))) ?_ ?_
 exact .f (fun k => k.fx 1 h8) <| .t (fun _ w hn k => ⟨_, v_load rfl (k.eq1 0 3 rfl) (l_part Tryd.isAgg23 Tryd.sizeOf23 (aa.new_ hn) lb), rfl⟩) <| .t (fun _ w hn k => ⟨_, v_build (ps := []) rfl parts0 (by kernel_rfl), rfl⟩) <| .t (fun _ w hn k => ⟨_, v_bin rfl (k.eq1 1 4 rfl) (k.eq1 2 5 rfl) (gNum _ _ _ _) (eqlNum _ _ _ _ (by show (decide (v.nk = 0) && decide (v.nn = 0)) = true; simp [ab, ac])), rfl⟩) <| .m (fun k => k.eq1 3 6 rfl) <| .gf (fun k => k.eq1 4 7 rfl) (fun k => k.fx 1 h8) <| .gf (fun k => k.eq1 4 7 rfl) (fun k => k.eq1 5 8 rfl) <| .o1 (tg rfl rfl rfl (fun _ _ k => k.eq1 4 7 rfl) fun _ w hn k => ⟨_, v_load rfl (k.eq1 6 9 rfl) (l_one Tryd.isAgg4 ((aa.new_ hn).cell 3)), congrArg Value.bool ad⟩) <| .g (fun k => k.eq1 4 7 rfl) (fun _ w hn k => ⟨_, v_not rfl (k.eq1 7 10 rfl), rfl⟩) <| .t (fun _ w hn k => ⟨_, v_pickT rfl (k.eq1 4 7 rfl) (k.eq1 8 11 rfl), rfl⟩) <| .m (fun k => k.eq1 9 12 rfl) <| .gf (fun k => k.eq1 10 13 rfl) (fun k => k.fx 1 h8) <| .gf (fun k => k.eq1 10 13 rfl) (fun k => k.eq1 11 14 rfl) <| .g (fun k => k.eq1 10 13 rfl) (fun _ w hn k => ⟨_, v_load rfl (k.eq1 12 15 rfl) (l_one Tryd.isAgg24 ((aa.new_ hn).cell 4)), rfl⟩) <| .g (fun k => k.eq1 10 13 rfl) (fun _ w hn k => ⟨_, v_lenR rfl elW (k.eq1 13 16 rfl), rfl⟩) <| .g (fun k => k.eq1 10 13 rfl) (fun _ w hn k => ⟨_, v_bin rfl (k.eq1 14 17 rfl) rfl (fun _ => rfl) (r_eql ae), rfl⟩) <| .t (fun _ w hn k => ⟨_, v_pickT rfl (k.eq1 10 13 rfl) (k.eq1 15 18 rfl), rfl⟩) <| .m (fun k => k.eq1 16 19 rfl) <| .gf (fun k => k.eq1 17 20 rfl) (fun k => k.fx 1 h8) <| .g (fun k => k.eq1 17 20 rfl) (fun _ w hn k => ⟨_, v_load rfl (k.eq1 18 21 rfl) (l_one Tryd.isAgg27 ((aa.new_ hn).cell 5)), rfl⟩) <| .g (fun k => k.eq1 17 20 rfl) (fun _ w hn k => ⟨_, v_lenR rfl elU (k.eq1 19 22 rfl), rfl⟩) <| .g (fun k => k.eq1 17 20 rfl) (fun _ w hn k => ⟨_, v_bin rfl (k.eq1 20 23 rfl) rfl (fun _ => rfl) (r_eql ag), rfl⟩) <| .t (fun _ w hn k => ⟨_, v_pickT rfl (k.eq1 17 20 rfl) (k.eq1 21 24 rfl), rfl⟩) <| .m (fun k => k.eq1 22 25 rfl) <| .gf (fun k => k.eq1 23 26 rfl) (fun k => k.fx 1 h8) <| .g (fun k => k.eq1 23 26 rfl) (fun _ w hn k => ⟨_, v_load rfl (k.eq1 24 27 rfl) (l_one Tryd.isAgg3 ((aa.new_ hn).cell 6)), rfl⟩) <| .g (fun k => k.eq1 23 26 rfl) (fun _ w hn k => ⟨_, v_bin rfl (k.eq1 25 28 rfl) rfl (fun _ => rfl) (r_eql rfl), rfl⟩) <| .t (fun _ w hn k => ⟨_, v_pickT rfl (k.eq1 23 26 rfl) (k.eq1 26 29 rfl), rfl⟩) <| .a (fun k => k.eq1 27 30 rfl) .nil
 refine aftI af aj ah fun be bf aX aw ax aY ay => ?_
 have aP := ay.ge 28 2 rfl
 refine st_nil (ai _ _ ?_)
 refine wp_ret (ret_k aw (v := .bool (decide (v.ref = 0))) (res_t rfl aP _) ?_)
 refine ⟨?_, ax⟩
 show Ending.returned (.bool (decide (v.ref = 0))) = Ending.returned (.bool (zeroV v))
 first | rfl | (simp only [zeroV, ab, ac, ad, ae, ag, bsm] <;> rfl) | (exfalso; omega)
 have ao := oF ag
 refine wp_g0 (.replicate 29 true) [] 31
   [ve (.pointer (some ⟨q9, 1, none⟩)), ve (nv (Nm.mk v.nk v.nn)), ve (nv (Nm.mk 0 0)), vT, vT, ve (.pointer (some ⟨q9, 3, none⟩)), ve (.pointer (some ⟨q9, 3, none⟩)), vF, vT, vT, vT, ve (.pointer (some ⟨q9, 3, none⟩)), ve (.pointer (some ⟨q9, 4, none⟩)), ve (sv Av v.mag cv), ve (iv (v.mag.length : Int)), vT, vT, vT, ve (.pointer (some ⟨q9, 5, none⟩)), ve (sv Bv v.s dv), ve (iv (v.s.length : Int)), vF, vF, vF, vU, vU, vU, vF, vF] af (.eq (.eq (.eq (.eq (.eq (.eq (.eq (.eq (.eq (.eq (.eq (.eq (.eq (.eq (.eq (.eq (.eq (.eq (.eq (.eq (.eq (.eq (.eq (.eq (.eq (.eq (.eq (.eq (.eq (.nil)))))))))))))))))))))))))))))) ?_ ?_
 exact .f (fun k => k.fx 1 h8) <| .t (fun _ w hn k => ⟨_, v_load rfl (k.eq1 0 3 rfl) (l_part Tryd.isAgg23 Tryd.sizeOf23 (aa.new_ hn) lb), rfl⟩) <| .t (fun _ w hn k => ⟨_, v_build (ps := []) rfl parts0 (by kernel_rfl), rfl⟩) <| .t (fun _ w hn k => ⟨_, v_bin rfl (k.eq1 1 4 rfl) (k.eq1 2 5 rfl) (gNum _ _ _ _) (eqlNum _ _ _ _ (by show (decide (v.nk = 0) && decide (v.nn = 0)) = true; simp [ab, ac])), rfl⟩) <| .m (fun k => k.eq1 3 6 rfl) <| .gf (fun k => k.eq1 4 7 rfl) (fun k => k.fx 1 h8) <| .gf (fun k => k.eq1 4 7 rfl) (fun k => k.eq1 5 8 rfl) <| .o1 (tg rfl rfl rfl (fun _ _ k => k.eq1 4 7 rfl) fun _ w hn k => ⟨_, v_load rfl (k.eq1 6 9 rfl) (l_one Tryd.isAgg4 ((aa.new_ hn).cell 3)), congrArg Value.bool ad⟩) <| .g (fun k => k.eq1 4 7 rfl) (fun _ w hn k => ⟨_, v_not rfl (k.eq1 7 10 rfl), rfl⟩) <| .t (fun _ w hn k => ⟨_, v_pickT rfl (k.eq1 4 7 rfl) (k.eq1 8 11 rfl), rfl⟩) <| .m (fun k => k.eq1 9 12 rfl) <| .gf (fun k => k.eq1 10 13 rfl) (fun k => k.fx 1 h8) <| .gf (fun k => k.eq1 10 13 rfl) (fun k => k.eq1 11 14 rfl) <| .g (fun k => k.eq1 10 13 rfl) (fun _ w hn k => ⟨_, v_load rfl (k.eq1 12 15 rfl) (l_one Tryd.isAgg24 ((aa.new_ hn).cell 4)), rfl⟩) <| .g (fun k => k.eq1 10 13 rfl) (fun _ w hn k => ⟨_, v_lenR rfl elW (k.eq1 13 16 rfl), rfl⟩) <| .g (fun k => k.eq1 10 13 rfl) (fun _ w hn k => ⟨_, v_bin rfl (k.eq1 14 17 rfl) rfl (fun _ => rfl) (r_eql ae), rfl⟩) <| .t (fun _ w hn k => ⟨_, v_pickT rfl (k.eq1 10 13 rfl) (k.eq1 15 18 rfl), rfl⟩) <| .m (fun k => k.eq1 16 19 rfl) <| .gf (fun k => k.eq1 17 20 rfl) (fun k => k.fx 1 h8) <| .g (fun k => k.eq1 17 20 rfl) (fun _ w hn k => ⟨_, v_load rfl (k.eq1 18 21 rfl) (l_one Tryd.isAgg27 ((aa.new_ hn).cell 5)), rfl⟩) <| .g (fun k => k.eq1 17 20 rfl) (fun _ w hn k => ⟨_, v_lenR rfl elU (k.eq1 19 22 rfl), rfl⟩) <| .g (fun k => k.eq1 17 20 rfl) (fun _ w hn k => ⟨_, v_bin rfl (k.eq1 20 23 rfl) rfl (fun _ => rfl) (r_eql ag), rfl⟩) <| .t (fun _ w hn k => ⟨_, v_pickT rfl (k.eq1 17 20 rfl) (k.eq1 21 24 rfl), rfl⟩) <| .m (fun k => k.eq1 22 25 rfl) <| .s (fun k => k.eq1 23 26 rfl) <| .s (fun k => k.eq1 23 26 rfl) <| .s (fun k => k.eq1 23 26 rfl) <| .t (fun _ w hn k => ⟨_, v_pickF rfl (k.eq1 23 26 rfl) rfl, rfl⟩) <| .a (fun k => k.eq1 27 30 rfl) .nil
 refine aftI af aj ah fun bg bh aZ az aA a1 aB => ?_
 have aQ := aB.ge 28 2 rfl
 refine st_nil (ai _ _ ?_)
 refine wp_ret (ret_k az (v := .bool false) (res_t rfl aQ _) ?_)
 refine ⟨?_, aA⟩
 show Ending.returned (.bool false) = Ending.returned (.bool (zeroV v))
 first | rfl | (simp only [zeroV, ab, ac, ad, ae, ag, bsm] <;> rfl) | (exfalso; omega)
 have an := oF ae
 refine wp_g0 (.replicate 29 true) [] 31
   [ve (.pointer (some ⟨q9, 1, none⟩)), ve (nv (Nm.mk v.nk v.nn)), ve (nv (Nm.mk 0 0)), vT, vT, ve (.pointer (some ⟨q9, 3, none⟩)), ve (.pointer (some ⟨q9, 3, none⟩)), vF, vT, vT, vT, ve (.pointer (some ⟨q9, 3, none⟩)), ve (.pointer (some ⟨q9, 4, none⟩)), ve (sv Av v.mag cv), ve (iv (v.mag.length : Int)), vF, vF, vF, vU, vU, vU, vU, vF, vF, vU, vU, vU, vF, vF] af (.eq (.eq (.eq (.eq (.eq (.eq (.eq (.eq (.eq (.eq (.eq (.eq (.eq (.eq (.eq (.eq (.eq (.eq (.eq (.eq (.eq (.eq (.eq (.eq (.eq (.eq (.eq (.eq (.eq (.nil)))))))))))))))))))))))))))))) ?_ ?_
 exact .f (fun k => k.fx 1 h8) <| .t (fun _ w hn k => ⟨_, v_load rfl (k.eq1 0 3 rfl) (l_part Tryd.isAgg23 Tryd.sizeOf23 (aa.new_ hn) lb), rfl⟩) <| .t (fun _ w hn k => ⟨_, v_build (ps := []) rfl parts0 (by kernel_rfl), rfl⟩) <| .t (fun _ w hn k => ⟨_, v_bin rfl (k.eq1 1 4 rfl) (k.eq1 2 5 rfl) (gNum _ _ _ _) (eqlNum _ _ _ _ (by show (decide (v.nk = 0) && decide (v.nn = 0)) = true; simp [ab, ac])), rfl⟩) <| .m (fun k => k.eq1 3 6 rfl) <| .gf (fun k => k.eq1 4 7 rfl) (fun k => k.fx 1 h8) <| .gf (fun k => k.eq1 4 7 rfl) (fun k => k.eq1 5 8 rfl) <| .o1 (tg rfl rfl rfl (fun _ _ k => k.eq1 4 7 rfl) fun _ w hn k => ⟨_, v_load rfl (k.eq1 6 9 rfl) (l_one Tryd.isAgg4 ((aa.new_ hn).cell 3)), congrArg Value.bool ad⟩) <| .g (fun k => k.eq1 4 7 rfl) (fun _ w hn k => ⟨_, v_not rfl (k.eq1 7 10 rfl), rfl⟩) <| .t (fun _ w hn k => ⟨_, v_pickT rfl (k.eq1 4 7 rfl) (k.eq1 8 11 rfl), rfl⟩) <| .m (fun k => k.eq1 9 12 rfl) <| .gf (fun k => k.eq1 10 13 rfl) (fun k => k.fx 1 h8) <| .gf (fun k => k.eq1 10 13 rfl) (fun k => k.eq1 11 14 rfl) <| .g (fun k => k.eq1 10 13 rfl) (fun _ w hn k => ⟨_, v_load rfl (k.eq1 12 15 rfl) (l_one Tryd.isAgg24 ((aa.new_ hn).cell 4)), rfl⟩) <| .g (fun k => k.eq1 10 13 rfl) (fun _ w hn k => ⟨_, v_lenR rfl elW (k.eq1 13 16 rfl), rfl⟩) <| .g (fun k => k.eq1 10 13 rfl) (fun _ w hn k => ⟨_, v_bin rfl (k.eq1 14 17 rfl) rfl (fun _ => rfl) (r_eql ae), rfl⟩) <| .t (fun _ w hn k => ⟨_, v_pickT rfl (k.eq1 10 13 rfl) (k.eq1 15 18 rfl), rfl⟩) <| .m (fun k => k.eq1 16 19 rfl) <| .s (fun k => k.eq1 17 20 rfl) <| .s (fun k => k.eq1 17 20 rfl) <| .s (fun k => k.eq1 17 20 rfl) <| .s (fun k => k.eq1 17 20 rfl) <| .t (fun _ w hn k => ⟨_, v_pickF rfl (k.eq1 17 20 rfl) rfl, rfl⟩) <| .m (fun k => k.eq1 22 25 rfl) <| .s (fun k => k.eq1 23 26 rfl) <| .s (fun k => k.eq1 23 26 rfl) <| .s (fun k => k.eq1 23 26 rfl) <| .t (fun _ w hn k => ⟨_, v_pickF rfl (k.eq1 23 26 rfl) rfl, rfl⟩) <| .a (fun k => k.eq1 27 30 rfl) .nil
 refine aftI af aj ah fun bi bj a3 aC aD a4 aE => ?_
 have aR := aE.ge 28 2 rfl
 refine st_nil (ai _ _ ?_)
 refine wp_ret (ret_k aC (v := .bool false) (res_t rfl aR _) ?_)
 refine ⟨?_, aD⟩
 show Ending.returned (.bool false) = Ending.returned (.bool (zeroV v))
 first | rfl | (simp only [zeroV, ab, ac, ad, ae, bsm] <;> rfl) | (exfalso; omega)
 have am := oF ac
 refine wp_g0 (.replicate 29 true) [] 31
   [ve (.pointer (some ⟨q9, 1, none⟩)), ve (nv (Nm.mk v.nk v.nn)), ve (nv (Nm.mk 0 0)), vF, vF, vU, vU, vU, vU, vF, vF, vU, vU, vU, vU, vU, vF, vF, vU, vU, vU, vU, vF, vF, vU, vU, vU, vF, vF] af (.eq (.eq (.eq (.eq (.eq (.eq (.eq (.eq (.eq (.eq (.eq (.eq (.eq (.eq (.eq (.eq (.eq (.eq (.eq (.eq (.eq (.eq (.eq (.eq (.eq (.eq (.eq (.eq (.eq (.nil)))))))))))))))))))))))))))))) ?_ ?_
 exact .f (fun k => k.fx 1 h8) <| .t (fun _ w hn k => ⟨_, v_load rfl (k.eq1 0 3 rfl) (l_part Tryd.isAgg23 Tryd.sizeOf23 (aa.new_ hn) lb), rfl⟩) <| .t (fun _ w hn k => ⟨_, v_build (ps := []) rfl parts0 (by kernel_rfl), rfl⟩) <| .t (fun _ w hn k => ⟨_, v_bin rfl (k.eq1 1 4 rfl) (k.eq1 2 5 rfl) (gNum _ _ _ _) (eqlNum _ _ _ _ (by show (decide (v.nk = 0) && decide (v.nn = 0)) = false; simp [ab, ac])), rfl⟩) <| .m (fun k => k.eq1 3 6 rfl) <| .s (fun k => k.eq1 4 7 rfl) <| .s (fun k => k.eq1 4 7 rfl) <| .s (fun k => k.eq1 4 7 rfl) <| .s (fun k => k.eq1 4 7 rfl) <| .t (fun _ w hn k => ⟨_, v_pickF rfl (k.eq1 4 7 rfl) rfl, rfl⟩) <| .m (fun k => k.eq1 9 12 rfl) <| .s (fun k => k.eq1 10 13 rfl) <| .s (fun k => k.eq1 10 13 rfl) <| .s (fun k => k.eq1 10 13 rfl) <| .s (fun k => k.eq1 10 13 rfl) <| .s (fun k => k.eq1 10 13 rfl) <| .t (fun _ w hn k => ⟨_, v_pickF rfl (k.eq1 10 13 rfl) rfl, rfl⟩) <| .m (fun k => k.eq1 16 19 rfl) <| .s (fun k => k.eq1 17 20 rfl) <| .s (fun k => k.eq1 17 20 rfl) <| .s (fun k => k.eq1 17 20 rfl) <| .s (fun k => k.eq1 17 20 rfl) <| .t (fun _ w hn k => ⟨_, v_pickF rfl (k.eq1 17 20 rfl) rfl, rfl⟩) <| .m (fun k => k.eq1 22 25 rfl) <| .s (fun k => k.eq1 23 26 rfl) <| .s (fun k => k.eq1 23 26 rfl) <| .s (fun k => k.eq1 23 26 rfl) <| .t (fun _ w hn k => ⟨_, v_pickF rfl (k.eq1 23 26 rfl) rfl, rfl⟩) <| .a (fun k => k.eq1 27 30 rfl) .nil
 refine aftI af aj ah fun bk bl a5 aF aG a6 aH => ?_
 have aS := aH.ge 28 2 rfl
 refine st_nil (ai _ _ ?_)
 refine wp_ret (ret_k aF (v := .bool false) (res_t rfl aS _) ?_)
 refine ⟨?_, aG⟩
 show Ending.returned (.bool false) = Ending.returned (.bool (zeroV v))
 first | rfl | (simp only [zeroV, ab, ac, bsm] <;> rfl) | (exfalso; omega)
 have al := oF ab
 refine wp_g0 (.replicate 29 true) [] 31
   [ve (.pointer (some ⟨q9, 1, none⟩)), ve (nv (Nm.mk v.nk v.nn)), ve (nv (Nm.mk 0 0)), vF, vF, vU, vU, vU, vU, vF, vF, vU, vU, vU, vU, vU, vF, vF, vU, vU, vU, vU, vF, vF, vU, vU, vU, vF, vF] af (.eq (.eq (.eq (.eq (.eq (.eq (.eq (.eq (.eq (.eq (.eq (.eq (.eq (.eq (.eq (.eq (.eq (.eq (.eq (.eq (.eq (.eq (.eq (.eq (.eq (.eq (.eq (.eq (.eq (.nil)))))))))))))))))))))))))))))) ?_ ?_
 exact .f (fun k => k.fx 1 h8) <| .t (fun _ w hn k => ⟨_, v_load rfl (k.eq1 0 3 rfl) (l_part Tryd.isAgg23 Tryd.sizeOf23 (aa.new_ hn) lb), rfl⟩) <| .t (fun _ w hn k => ⟨_, v_build (ps := []) rfl parts0 (by kernel_rfl), rfl⟩) <| .t (fun _ w hn k => ⟨_, v_bin rfl (k.eq1 1 4 rfl) (k.eq1 2 5 rfl) (gNum _ _ _ _) (eqlNum _ _ _ _ (by show (decide (v.nk = 0) && decide (v.nn = 0)) = false; simp [ab])), rfl⟩) <| .m (fun k => k.eq1 3 6 rfl) <| .s (fun k => k.eq1 4 7 rfl) <| .s (fun k => k.eq1 4 7 rfl) <| .s (fun k => k.eq1 4 7 rfl) <| .s (fun k => k.eq1 4 7 rfl) <| .t (fun _ w hn k => ⟨_, v_pickF rfl (k.eq1 4 7 rfl) rfl, rfl⟩) <| .m (fun k => k.eq1 9 12 rfl) <| .s (fun k => k.eq1 10 13 rfl) <| .s (fun k => k.eq1 10 13 rfl) <| .s (fun k => k.eq1 10 13 rfl) <| .s (fun k => k.eq1 10 13 rfl) <| .s (fun k => k.eq1 10 13 rfl) <| .t (fun _ w hn k => ⟨_, v_pickF rfl (k.eq1 10 13 rfl) rfl, rfl⟩) <| .m (fun k => k.eq1 16 19 rfl) <| .s (fun k => k.eq1 17 20 rfl) <| .s (fun k => k.eq1 17 20 rfl) <| .s (fun k => k.eq1 17 20 rfl) <| .s (fun k => k.eq1 17 20 rfl) <| .t (fun _ w hn k => ⟨_, v_pickF rfl (k.eq1 17 20 rfl) rfl, rfl⟩) <| .m (fun k => k.eq1 22 25 rfl) <| .s (fun k => k.eq1 23 26 rfl) <| .s (fun k => k.eq1 23 26 rfl) <| .s (fun k => k.eq1 23 26 rfl) <| .t (fun _ w hn k => ⟨_, v_pickF rfl (k.eq1 23 26 rfl) rfl, rfl⟩) <| .a (fun k => k.eq1 27 30 rfl) .nil
 refine aftI af aj ah fun bm bn a7 aI aJ a8 aK => ?_
 have aT := aK.ge 28 2 rfl
 refine st_nil (ai _ _ ?_)
 refine wp_ret (ret_k aI (v := .bool false) (res_t rfl aT _) ?_)
 refine ⟨?_, aJ⟩
 show Ending.returned (.bool false) = Ending.returned (.bool (zeroV v))
 first | rfl | (simp only [zeroV, ab, bsm] <;> rfl) | (exfalso; omega)
theorem vmay_c (v : Vl) (Av : Option Addr) (cv : Nat) (Bv : Option Addr) (dv : Nat) (w : World) (hmv : SRow w .u32 Av v.mag cv) (hsv : SRow w .u16 Bv v.s dv) : Calls Tryd.prog 10 #[vv v Av cv Bv dv] w (IsRet (.bool (mayV v)) w) := by
 refine enter_abs Tryd.func10 rfl fun a0 bg fu hp => ?_
 have bg : a0.tmps.size = 70 := bg
 have eo : New w w := Upd.refl _ _
 have hp0 : a0.eval (.tmp 0) = vv v Av cv Bv dv := hp 0 _ rfl
 refine wp_seq_k fun K1 fv => ?_
 refine wp_g [true, true] [] [] 70
   [IsNew w 29 [iv v.k, iv v.nk, iv v.nn, .bool v.neg, sv Av v.mag cv, sv Bv v.s dv, iv v.ref], vF]
   [0] (newsCons (fun v w h => IsNew.old h) newsNil) bg (.nw (.eq (.nil))) ?_ (fun i h => by cases h) ?_
 exact .o2 (step_allocN (cs := [iv v.k, iv v.nk, iv v.nn, .bool v.neg, sv Av v.mag cv, sv Bv v.s dv, iv v.ref]) (t := 29) rfl (noG rfl) (fun _ w hn k => v_box rfl (k.fx 0 hp0) (fun w => rfl)) (fun q _ hq hb => ⟨q, rfl, hq, hb⟩)) <| .t (fun _ w hn k => ⟨_, v_assign rfl rfl, rfl⟩) .nil
 refine aftI bg fu eo fun a2 w3 ep fw bU hs fy => ?_
 obtain ⟨q9, h8, eA, a5⟩ : IsNew _ _ _ _ _ := fy.got 0 1 rfl (by kernel_rfl)
 have f7 := Nat.le_trans eo.size eA
 refine st_nil (fv _ _ (wp_seq_k fun ht eB => ?_))
 refine wp_g [true, true, false] [] [(2, false)] 70
   [ve (vv v Av cv Bv dv), IsNew w3 29 [iv 0, iv 0, iv 0, .bool false, sv none ([]) 0, sv none ([]) 0, iv 0], vt]
   [1] (newsCons (fun v w h => IsNew.old h) newsNil) ep (.eq (.nw (.tt (.nil)))) ?_ (fun i h => by cases h) ?_
 exact .t (fun _ w hn k => ⟨_, v_load rfl (k.fx 1 h8) (l_agg Tryd.isAgg29 Tryd.sizeOf29 (a5.new_ hn) rfl), rfl⟩) <| .o2 (step_allocN (cs := [iv 0, iv 0, iv 0, .bool false, sv none ([]) 0, sv none ([]) 0, iv 0]) (t := 29) rfl (noG rfl) (fun _ w hn k => rfl) (fun q _ hq hb => ⟨q, rfl, hq, hb⟩)) <| .off .nil
 refine aftI ep fw bU fun hu hv bV eC eD eE a6 => ?_
 have er := a6.fx 1 h8
 have fz := a6.ge 0 4 rfl
 obtain ⟨aq, es, bW, eF⟩ : IsNew _ _ _ _ _ := a6.got 1 3 rfl (by kernel_rfl)
 have eG := a5.new_ eE
 have hne28 : q9 ≠ aq := by have h1 := a5.lt; have h2 := bW; omega
 have f8 := Nat.le_trans bU.size bW
 obtain ⟨fA, cH, cI, eH, eI⟩ := s_many (P := Tryd.prog) (t := 29) (i := 0) [iv v.k, iv v.nk, iv v.nn, .bool v.neg, sv Av v.mag cv, sv Bv v.s dv, iv v.ref] Tryd.sizeOf29 rfl rfl rfl eF lb
 have eJ : Blk fA aq 29 [iv v.k, iv v.nk, iv v.nn, .bool v.neg, sv Av v.mag cv, sv Bv v.s dv, iv v.ref] := cI
 refine st_act rfl rfl fun hw eK => a_store' rfl es fz cH (eK _ _ trivial ?_)
 have bX := eI _ _ _ (hne28) eG
 have eL := eD.trans eH (fun _ h b => by subst b; omega)
 refine st_nil (eB _ _ (wp_seq_k fun hx eM => ?_))
 refine wp_seq_k fun hy eN => ?_
 refine wp_g0 [true, true] [] 70
   [ve (pv q9), ve (iv v.k)] bV (.eq (.eq (.nil))) ?_ ?_
 exact .f (fun k => k.fx 1 er) <| .t (fun _ w hn k => ⟨_, v_load rfl (k.eq1 0 5 rfl) (l_one Tryd.isAgg3 ((bX.new_ hn).cell 0)), rfl⟩) .nil
 refine aftI bV eC eL fun hz hA bY eO eP bZ a7 => ?_
 have fB := a7.fx 1 er
 have fC := a7.fx 3 es
 have et := a7.ge 1 6 rfl
 have eQ := bX.new_ bZ
 have eR := eJ.new_ bZ
 refine st_nil (eN _ _ ?_)
 refine wp_block ?_
 refine wp_seq_k fun hC b0 => ?_
 refine wp_seq_k fun hD eS => ?_
 refine wp_g0 [true, true] [] 70
   [ve (.bool (decide (v.k = 0))), ve (.bool (decide (v.k = 0)))] bY (.eq (.eq (.nil))) ?_ ?_
 exact .t (fun _ w hn k => ⟨_, v_bin rfl (k.fx 6 et) rfl (fun _ => rfl) (r_eql rfl), rfl⟩) <| .a (fun k => k.eq1 0 8 rfl) .nil
 refine aftI bY eO eP fun hE hF aM b1 aN b2 aO => ?_
 have eu := aO.fx 1 fB
 have fD := aO.fx 3 fC
 have ev := aO.fx 6 et
 have ew := aO.ge 1 7 rfl
 have b3 := eQ.new_ b2
 have eT := eR.new_ b2
 refine st_nil (eS _ _ ?_)
 rcases bc (decide (v.k = 0)) with ab | ab
 have cJ := oT ab
 have b4 := hB ew ab
 refine wp_cond_true b4 ?_
 refine wp_skip ?_
 refine b0 _ _ ?_
 refine wp_cond_true b4 ?_
 refine wp_seq_k fun hG eU => ?_
 refine wp_g0 [true, true, true] [] 70
   [ve (vv v Av cv Bv dv), ve (.bool (zeroV v)), ve (.bool (zeroV v))] aM (.eq (.eq (.eq (.nil)))) ?_ ?_
 exact .t (fun _ w hn k => ⟨_, v_load rfl (k.fx 1 eu) (l_agg Tryd.isAgg29 Tryd.sizeOf29 (b3.new_ hn) rfl), rfl⟩) <| .o1 (ck rfl rfl rfl (fun _ w hn k => ⟨#[vv v Av cv Bv dv], args1 (k.eq1 0 10 rfl), fun _ => by kernel_rfl, zero_c v _ _ _ _ _ (hmv.new_ (aN.transNew hn)) (hsv.new_ (aN.transNew hn))⟩) fun _ => rfl) <| .a (fun k => k.eq1 1 11 rfl) .nil
 refine aftI aM b1 aN fun hH hI f9 eV eW ga eX => ?_
 have fE := eX.ge 2 2 rfl
 refine st_nil (eU _ _ ?_)
 refine wp_ret (ret_k eV (v := .bool (zeroV v)) (res_t rfl fE _) ?_)
 refine ⟨?_, eW⟩
 show Ending.returned (.bool (zeroV v)) = Ending.returned (.bool (mayV v))
 first | rfl | (simp only [mayV, ab, bsm] <;> rfl) | (exfalso; omega)
 have cJ := oF ab
 have eY := hB ew ab
 refine wp_cond_false eY ?_
 refine wp_g0 [true, true] [] 70
   [ve (.bool (decide (v.k = 1))), ve (.bool (decide (v.k = 1)))] aM (.eq (.eq (.nil))) ?_ ?_
 exact .t (fun _ w hn k => ⟨_, v_bin rfl (k.fx 6 ev) rfl (fun _ => rfl) (r_eql rfl), rfl⟩) <| .a (fun k => k.eq1 0 9 rfl) .nil
 refine aftI aM b1 aN fun hJ hK aP b5 aQ b6 aR => ?_
 have ex := aR.fx 1 eu
 have fF := aR.fx 3 fD
 have ey := aR.fx 6 ev
 have ez := aR.ge 1 7 rfl
 have b7 := b3.new_ b6
 have eZ := eT.new_ b6
 refine st_nil (b0 _ _ ?_)
 rcases bc (decide (v.k = 1)) with ac | ac
 have cK := oT ac
 have e0 := hB ez ac
 refine wp_cond_true e0 ?_
 refine wp_seq_k fun hL e1 => ?_
 refine wp_g0 [true, true, true] [] 70
   [ve (vv v Av cv Bv dv), ve (.bool (zeroV v)), ve (.bool (zeroV v))] aP (.eq (.eq (.eq (.nil)))) ?_ ?_
 exact .t (fun _ w hn k => ⟨_, v_load rfl (k.fx 1 ex) (l_agg Tryd.isAgg29 Tryd.sizeOf29 (b7.new_ hn) rfl), rfl⟩) <| .o1 (ck rfl rfl rfl (fun _ w hn k => ⟨#[vv v Av cv Bv dv], args1 (k.eq1 0 10 rfl), fun _ => by kernel_rfl, zero_c v _ _ _ _ _ (hmv.new_ (aQ.transNew hn)) (hsv.new_ (aQ.transNew hn))⟩) fun _ => rfl) <| .a (fun k => k.eq1 1 11 rfl) .nil
 refine aftI aP b5 aQ fun hM hN fG cL cM gb cN => ?_
 have e2 := cN.ge 2 2 rfl
 refine st_nil (e1 _ _ ?_)
 refine wp_ret (ret_k cL (v := .bool (zeroV v)) (res_t rfl e2 _) ?_)
 refine ⟨?_, cM⟩
 show Ending.returned (.bool (zeroV v)) = Ending.returned (.bool (mayV v))
 first | rfl | (simp only [mayV, ab, ac, bsm] <;> rfl) | (exfalso; omega)
 have cK := oF ac
 have cO := hB ez ac
 refine wp_cond_false cO ?_
 refine wp_seq_k fun gc cP => ?_
 refine wp_g0 [true, true] [] 70
   [ve (.bool (decide (v.k = 2))), ve (.bool (decide (v.k = 2)))] aP (.eq (.eq (.nil))) ?_ ?_
 exact .t (fun _ w hn k => ⟨_, v_bin rfl (k.fx 6 ey) rfl (fun _ => rfl) (r_eql rfl), rfl⟩) <| .a (fun k => k.eq1 0 13 rfl) .nil
 refine aftI aP b5 aQ fun gd gg ax bh bi bj ay => ?_
 have b8 := ay.fx 1 ex
 have a8 := ay.fx 3 fF
 have b9 := ay.fx 6 ey
 have ca := ay.ge 1 12 rfl
 have bk := b7.new_ bj
 have bl := eZ.new_ bj
 refine st_nil (cP _ _ ?_)
 rcases bc (decide (v.k = 2)) with aa | aa
 have cb := oT aa
 have cQ := hB ca aa
 refine wp_cond_true cQ ?_
 refine wp_seq_k fun gh cR => ?_
 refine wp_g0 [true, false] [(1, false)] 70
   [ve (.pointer (some ⟨aq, 6, none⟩)), vt] ax (.eq (.tt (.nil))) ?_ ?_
 exact .f (fun k => k.fx 3 a8) <| .off .nil
 refine aftI ax bh bi fun gi gj an aS cS bm aT => ?_
 have a9 := aT.fx 1 b8
 have ba := aT.fx 3 a8
 have e3 := aT.ge 0 14 rfl
 have cT := bk.new_ bm
 have cU := bl.new_ bm
 obtain ⟨gk, -, cc, aU, cV, cW⟩ := s_one (v := iv 0) (i := 6) Tryd.sizeOf3 rfl rfl cU lb
 refine st_act rfl rfl fun gl cX => a_store' rfl e3 rfl cc (cX _ _ trivial ?_)
 have aV := cW _ _ _ (hne28) cT
 have ag := cS.trans cV (fun _ h b => by subst b; omega)
 refine st_nil (cR _ _ (wp_seq_k fun gn aW => ?_))
 rcases bc (zeroV (Vl.mk v.k v.nk v.nn v.neg v.mag v.s 0)) with aj | aj
 rcases bc (decide (v.ref = 0)) with ak | ak
 have cd := oT ak
 refine wp_g0 (.replicate 13 true) [] 70
   [ve (vv (Vl.mk v.k v.nk v.nn v.neg v.mag v.s 0) Av cv Bv dv), vT, vT, ve (.pointer (some ⟨q9, 6, none⟩)), ve (iv v.ref), vT, vT, vU, vU, vU, vT, vT, vT] an (.eq (.eq (.eq (.eq (.eq (.eq (.eq (.eq (.eq (.eq (.eq (.eq (.eq (.nil)))))))))))))) ?_ ?_
 exact .t (fun _ w hn k => ⟨_, v_load rfl (k.fx 3 ba) (l_agg Tryd.isAgg29 Tryd.sizeOf29 (aU.new_ hn) rfl), rfl⟩) <| .o1 (ck rfl rfl rfl (fun _ w hn k => ⟨#[vv (Vl.mk v.k v.nk v.nn v.neg v.mag v.s 0) Av cv Bv dv], args1 (k.eq1 0 15 rfl), fun _ => by kernel_rfl, zero_c (Vl.mk v.k v.nk v.nn v.neg v.mag v.s 0) _ _ _ _ _ (hmv.new_ (ag.transNew hn)) (hsv.new_ (ag.transNew hn))⟩) fun _ => congrArg Value.bool aj) <| .m (fun k => k.eq1 1 16 rfl) <| .gf (fun k => k.eq1 2 17 rfl) (fun k => k.fx 1 a9) <| .g (fun k => k.eq1 2 17 rfl) (fun _ w hn k => ⟨_, v_load rfl (k.eq1 3 18 rfl) (l_one Tryd.isAgg3 ((aV.new_ hn).cell 6)), rfl⟩) <| .g (fun k => k.eq1 2 17 rfl) (fun _ w hn k => ⟨_, v_bin rfl (k.eq1 4 19 rfl) rfl (fun _ => rfl) (r_eql ak), rfl⟩) <| .gm (fun k => k.eq1 2 17 rfl) (fun k => k.eq1 5 20 rfl) <| .s (fun k => k.eq1 6 21 rfl) <| .s (fun k => k.eq1 6 21 rfl) <| .s (fun k => k.eq1 6 21 rfl) <| .g (fun k => k.eq1 2 17 rfl) (fun _ w hn k => ⟨_, v_pickT rfl (k.eq1 6 21 rfl) rfl, rfl⟩) <| .t (fun _ w hn k => ⟨_, v_pickT rfl (k.eq1 2 17 rfl) (k.eq1 10 25 rfl), rfl⟩) <| .a (fun k => k.eq1 11 26 rfl) .nil
 refine aftI an aS ag fun go gp fH cY cZ fI c0 => ?_
 have e4 := c0.ge 12 2 rfl
 refine st_nil (aW _ _ ?_)
 refine wp_ret (ret_k cY (v := .bool true) (res_t rfl e4 _) ?_)
 refine ⟨?_, cZ⟩
 show Ending.returned (.bool true) = Ending.returned (.bool (mayV v))
 first | rfl | (simp only [mayV, ab, ac, aa, aj, ak, bsm] <;> rfl) | (exfalso; omega)
 have cd := oF ak
 refine wp_g0 (.replicate 13 true) [] 70
   [ve (vv (Vl.mk v.k v.nk v.nn v.neg v.mag v.s 0) Av cv Bv dv), vT, vT, ve (.pointer (some ⟨q9, 6, none⟩)), ve (iv v.ref), vF, vF, ve (.pointer (some ⟨q9, 6, none⟩)), ve (iv v.ref), ve (.bool (decide (v.ref = 1))), ve (.bool (decide (v.ref = 1))), ve (.bool (decide (v.ref = 1))), ve (.bool (decide (v.ref = 1)))] an (.eq (.eq (.eq (.eq (.eq (.eq (.eq (.eq (.eq (.eq (.eq (.eq (.eq (.nil)))))))))))))) ?_ ?_
 exact .t (fun _ w hn k => ⟨_, v_load rfl (k.fx 3 ba) (l_agg Tryd.isAgg29 Tryd.sizeOf29 (aU.new_ hn) rfl), rfl⟩) <| .o1 (ck rfl rfl rfl (fun _ w hn k => ⟨#[vv (Vl.mk v.k v.nk v.nn v.neg v.mag v.s 0) Av cv Bv dv], args1 (k.eq1 0 15 rfl), fun _ => by kernel_rfl, zero_c (Vl.mk v.k v.nk v.nn v.neg v.mag v.s 0) _ _ _ _ _ (hmv.new_ (ag.transNew hn)) (hsv.new_ (ag.transNew hn))⟩) fun _ => congrArg Value.bool aj) <| .m (fun k => k.eq1 1 16 rfl) <| .gf (fun k => k.eq1 2 17 rfl) (fun k => k.fx 1 a9) <| .g (fun k => k.eq1 2 17 rfl) (fun _ w hn k => ⟨_, v_load rfl (k.eq1 3 18 rfl) (l_one Tryd.isAgg3 ((aV.new_ hn).cell 6)), rfl⟩) <| .g (fun k => k.eq1 2 17 rfl) (fun _ w hn k => ⟨_, v_bin rfl (k.eq1 4 19 rfl) rfl (fun _ => rfl) (r_eql ak), rfl⟩) <| .gm (fun k => k.eq1 2 17 rfl) (fun k => k.eq1 5 20 rfl) <| .gf (fun k => k.eq1 6 21 rfl) (fun k => k.fx 1 a9) <| .g (fun k => k.eq1 6 21 rfl) (fun _ w hn k => ⟨_, v_load rfl (k.eq1 7 22 rfl) (l_one Tryd.isAgg3 ((aV.new_ hn).cell 6)), rfl⟩) <| .g (fun k => k.eq1 6 21 rfl) (fun _ w hn k => ⟨_, v_bin rfl (k.eq1 8 23 rfl) rfl (fun _ => rfl) (r_eql rfl), rfl⟩) <| .g (fun k => k.eq1 2 17 rfl) (fun _ w hn k => ⟨_, v_pickF rfl (k.eq1 6 21 rfl) (k.eq1 9 24 rfl), rfl⟩) <| .t (fun _ w hn k => ⟨_, v_pickT rfl (k.eq1 2 17 rfl) (k.eq1 10 25 rfl), rfl⟩) <| .a (fun k => k.eq1 11 26 rfl) .nil
 refine aftI an aS ag fun gq gr fJ c1 c2 fK c3 => ?_
 have e5 := c3.ge 12 2 rfl
 refine st_nil (aW _ _ ?_)
 refine wp_ret (ret_k c1 (v := .bool (decide (v.ref = 1))) (res_t rfl e5 _) ?_)
 refine ⟨?_, c2⟩
 show Ending.returned (.bool (decide (v.ref = 1))) = Ending.returned (.bool (mayV v))
 first | rfl | (simp only [mayV, ab, ac, aa, aj, ak, bsm] <;> rfl) | (exfalso; omega)
 refine wp_g0 (.replicate 13 true) [] 70
   [ve (vv (Vl.mk v.k v.nk v.nn v.neg v.mag v.s 0) Av cv Bv dv), vF, vF, vU, vU, vU, vU, vU, vU, vU, vU, vF, vF] an (.eq (.eq (.eq (.eq (.eq (.eq (.eq (.eq (.eq (.eq (.eq (.eq (.eq (.nil)))))))))))))) ?_ ?_
 exact .t (fun _ w hn k => ⟨_, v_load rfl (k.fx 3 ba) (l_agg Tryd.isAgg29 Tryd.sizeOf29 (aU.new_ hn) rfl), rfl⟩) <| .o1 (ck rfl rfl rfl (fun _ w hn k => ⟨#[vv (Vl.mk v.k v.nk v.nn v.neg v.mag v.s 0) Av cv Bv dv], args1 (k.eq1 0 15 rfl), fun _ => by kernel_rfl, zero_c (Vl.mk v.k v.nk v.nn v.neg v.mag v.s 0) _ _ _ _ _ (hmv.new_ (ag.transNew hn)) (hsv.new_ (ag.transNew hn))⟩) fun _ => congrArg Value.bool aj) <| .m (fun k => k.eq1 1 16 rfl) <| .s (fun k => k.eq1 2 17 rfl) <| .s (fun k => k.eq1 2 17 rfl) <| .s (fun k => k.eq1 2 17 rfl) <| .s (fun k => k.eq1 2 17 rfl) <| .o1 (su rfl rfl rfl (fun _ _ _ k => k.eq1 6 21 rfl) (fun _ => rfl)) <| .o1 (su rfl rfl rfl (fun _ _ _ k => k.eq1 6 21 rfl) (fun _ => rfl)) <| .o1 (su rfl rfl rfl (fun _ _ _ k => k.eq1 6 21 rfl) (fun _ => rfl)) <| .s (fun k => k.eq1 2 17 rfl) <| .t (fun _ w hn k => ⟨_, v_pickF rfl (k.eq1 2 17 rfl) rfl, rfl⟩) <| .a (fun k => k.eq1 11 26 rfl) .nil
 refine aftI an aS ag fun gs gt fL c4 c5 fM c6 => ?_
 have e6 := c6.ge 12 2 rfl
 refine st_nil (aW _ _ ?_)
 refine wp_ret (ret_k c4 (v := .bool false) (res_t rfl e6 _) ?_)
 refine ⟨?_, c5⟩
 show Ending.returned (.bool false) = Ending.returned (.bool (mayV v))
 first | rfl | (simp only [mayV, ab, ac, aa, aj, bsm] <;> rfl) | (exfalso; omega)
 have cb := oF aa
 have c7 := hB ca aa
 refine wp_cond_false c7 ?_
 refine wp_seq_k fun gu c8 => ?_
 refine wp_g0 [true, true] [] 70
   [ve (.bool (decide (v.k = 3))), ve (.bool (decide (v.k = 3)))] ax (.eq (.eq (.nil))) ?_ ?_
 exact .t (fun _ w hn k => ⟨_, v_bin rfl (k.fx 6 b9) rfl (fun _ => rfl) (r_eql rfl), rfl⟩) <| .a (fun k => k.eq1 0 28 rfl) .nil
 refine aftI ax bh bi fun gv gw az bn bo bp aA => ?_
 have ce := aA.fx 1 b8
 have bb := aA.fx 3 a8
 have cf := aA.fx 6 b9
 have ch := aA.ge 1 27 rfl
 have bq := bk.new_ bp
 have br := bl.new_ bp
 refine st_nil (c8 _ _ ?_)
 rcases bc (decide (v.k = 3)) with ad | ad
 have ci := oT ad
 have c9 := hB ch ad
 refine wp_cond_true c9 ?_
 refine wp_seq_k fun gx da => ?_
 refine wp_g0 [true, true, false] [(2, false)] 70
   [ve (nv (Nm.mk 0 0)), ve (.pointer (some ⟨aq, 1, none⟩)), vt] az (.eq (.eq (.tt (.nil)))) ?_ ?_
 exact .t (fun _ w hn k => ⟨_, v_build (ps := []) rfl parts0 (by kernel_rfl), rfl⟩) <| .f (fun k => k.fx 3 bb) <| .off .nil
 refine aftI az bn bo fun gy gz aB bs db bt aC => ?_
 have e7 := aC.fx 1 ce
 have cj := aC.fx 3 bb
 have e8 := aC.ge 0 29 rfl
 have e9 := aC.ge 1 30 rfl
 have dc := bq.new_ bt
 have dd := br.new_ bt
 obtain ⟨fa, cl, cm, de, df⟩ := s_many (P := Tryd.prog) (t := 23) (i := 1) [iv 0, iv 0] Tryd.sizeOf23 rfl rfl rfl dd lb
 have bu : Blk fa aq 29 [iv v.k, iv 0, iv 0, .bool v.neg, sv Av v.mag cv, sv Bv v.s dv, iv v.ref] := cm
 refine st_act rfl rfl fun gA dg => a_store' rfl e9 e8 cl (dg _ _ trivial ?_)
 have dh := df _ _ _ (hne28) dc
 have ao := db.trans de (fun _ h b => by subst b; omega)
 refine st_nil (da _ _ (wp_seq_k fun gB bv => ?_))
 rcases bc (zeroV (Vl.mk v.k 0 0 v.neg v.mag v.s v.ref)) with ar | ar
 refine wp_g0 (.replicate 8 true) [] 70
   [ve (vv (Vl.mk v.k 0 0 v.neg v.mag v.s v.ref) Av cv Bv dv), vT, vT, ve (.pointer (some ⟨q9, 1, none⟩)), ve (nv (Nm.mk v.nk v.nn)), ve (.bool (nmayB (Nm.mk v.nk v.nn))), ve (.bool (nmayB (Nm.mk v.nk v.nn))), ve (.bool (nmayB (Nm.mk v.nk v.nn)))] aB (.eq (.eq (.eq (.eq (.eq (.eq (.eq (.eq (.nil))))))))) ?_ ?_
 exact .t (fun _ w hn k => ⟨_, v_load rfl (k.fx 3 cj) (l_agg Tryd.isAgg29 Tryd.sizeOf29 (bu.new_ hn) rfl), rfl⟩) <| .o1 (ck rfl rfl rfl (fun _ w hn k => ⟨#[vv (Vl.mk v.k 0 0 v.neg v.mag v.s v.ref) Av cv Bv dv], args1 (k.eq1 0 31 rfl), fun _ => by kernel_rfl, zero_c (Vl.mk v.k 0 0 v.neg v.mag v.s v.ref) _ _ _ _ _ (hmv.new_ (ao.transNew hn)) (hsv.new_ (ao.transNew hn))⟩) fun _ => congrArg Value.bool ar) <| .m (fun k => k.eq1 1 32 rfl) <| .gf (fun k => k.eq1 2 33 rfl) (fun k => k.fx 1 e7) <| .g (fun k => k.eq1 2 33 rfl) (fun _ w hn k => ⟨_, v_load rfl (k.eq1 3 34 rfl) (l_part Tryd.isAgg23 Tryd.sizeOf23 (dh.new_ hn) lb), rfl⟩) <| .o1 (cg rfl rfl rfl (fun _ _ k => k.eq1 2 33 rfl) rfl (fun _ w hn k => ⟨#[nv (Nm.mk v.nk v.nn)], args1 (k.eq1 4 35 rfl), fun _ => by kernel_rfl, may_c (Nm.mk v.nk v.nn) _ ⟩) fun _ => rfl) <| .t (fun _ w hn k => ⟨_, v_pickT rfl (k.eq1 2 33 rfl) (k.eq1 5 36 rfl), rfl⟩) <| .a (fun k => k.eq1 6 37 rfl) .nil
 refine aftI aB bs ao fun gC gD fN di dj fO dk => ?_
 have fb := dk.ge 7 2 rfl
 refine st_nil (bv _ _ ?_)
 refine wp_ret (ret_k di (v := .bool (nmayB (Nm.mk v.nk v.nn))) (res_t rfl fb _) ?_)
 refine ⟨?_, dj⟩
 show Ending.returned (.bool (nmayB (Nm.mk v.nk v.nn))) = Ending.returned (.bool (mayV v))
 first | rfl | (simp only [mayV, ab, ac, aa, ad, ar, bsm] <;> rfl) | (exfalso; omega)
 refine wp_g0 (.replicate 8 true) [] 70
   [ve (vv (Vl.mk v.k 0 0 v.neg v.mag v.s v.ref) Av cv Bv dv), vF, vF, vU, vU, vU, vF, vF] aB (.eq (.eq (.eq (.eq (.eq (.eq (.eq (.eq (.nil))))))))) ?_ ?_
 exact .t (fun _ w hn k => ⟨_, v_load rfl (k.fx 3 cj) (l_agg Tryd.isAgg29 Tryd.sizeOf29 (bu.new_ hn) rfl), rfl⟩) <| .o1 (ck rfl rfl rfl (fun _ w hn k => ⟨#[vv (Vl.mk v.k 0 0 v.neg v.mag v.s v.ref) Av cv Bv dv], args1 (k.eq1 0 31 rfl), fun _ => by kernel_rfl, zero_c (Vl.mk v.k 0 0 v.neg v.mag v.s v.ref) _ _ _ _ _ (hmv.new_ (ao.transNew hn)) (hsv.new_ (ao.transNew hn))⟩) fun _ => congrArg Value.bool ar) <| .m (fun k => k.eq1 1 32 rfl) <| .s (fun k => k.eq1 2 33 rfl) <| .s (fun k => k.eq1 2 33 rfl) <| .s (fun k => k.eq1 2 33 rfl) <| .t (fun _ w hn k => ⟨_, v_pickF rfl (k.eq1 2 33 rfl) rfl, rfl⟩) <| .a (fun k => k.eq1 6 37 rfl) .nil
 refine aftI aB bs ao fun gE gF fP dl dm fQ dn => ?_
 have fc := dn.ge 7 2 rfl
 refine st_nil (bv _ _ ?_)
 refine wp_ret (ret_k dl (v := .bool false) (res_t rfl fc _) ?_)
 refine ⟨?_, dm⟩
 show Ending.returned (.bool false) = Ending.returned (.bool (mayV v))
 first | rfl | (simp only [mayV, ab, ac, aa, ad, ar, bsm] <;> rfl) | (exfalso; omega)
 have ci := oF ad
 have dp := hB ch ad
 refine wp_cond_false dp ?_
 refine wp_seq_k fun gG dq => ?_
 refine wp_g0 [true, true] [] 70
   [ve (.bool (decide (v.k = 4))), ve (.bool (decide (v.k = 4)))] az (.eq (.eq (.nil))) ?_ ?_
 exact .t (fun _ w hn k => ⟨_, v_bin rfl (k.fx 6 cf) rfl (fun _ => rfl) (r_eql rfl), rfl⟩) <| .a (fun k => k.eq1 0 39 rfl) .nil
 refine aftI az bn bo fun gH gI aD bw bx bz aE => ?_
 have cn := aE.fx 1 ce
 have bd := aE.fx 3 bb
 have co := aE.fx 6 cf
 have cp := aE.ge 1 38 rfl
 have bA := bq.new_ bz
 have bB := br.new_ bz
 refine st_nil (dq _ _ ?_)
 rcases bc (decide (v.k = 4)) with ae | ae
 have cq := oT ae
 have dr := hB cp ae
 refine wp_cond_true dr ?_
 refine wp_seq_k fun gJ ds => ?_
 refine wp_g0 [true, true, false] [(2, false)] 70
   [ve (.agg #[.bool false, sv none ([]) 0]), ve (.pointer (some ⟨aq, 3, none⟩)), vt] aD (.eq (.eq (.tt (.nil)))) ?_ ?_
 exact .t (fun _ w hn k => ⟨_, v_build (ps := []) rfl parts0 (by kernel_rfl), rfl⟩) <| .f (fun k => k.fx 3 bd) <| .off .nil
 refine aftI aD bw bx fun gK gL aF bC dt bD aG => ?_
 have fd := aG.fx 1 cn
 have cr := aG.fx 3 bd
 have fe := aG.ge 0 40 rfl
 have ff := aG.ge 1 41 rfl
 have du := bA.new_ bD
 have dw := bB.new_ bD
 obtain ⟨fg, ct, cu, dx, dy⟩ := s_many (P := Tryd.prog) (t := 26) (i := 3) [.bool false, sv none ([]) 0] Tryd.sizeOf26 rfl rfl rfl dw lb
 have bE : Blk fg aq 29 [iv v.k, iv v.nk, iv v.nn, .bool false, sv none ([]) 0, sv Bv v.s dv, iv v.ref] := cu
 refine st_act rfl rfl fun gM dz => a_store' rfl ff fe ct (dz _ _ trivial ?_)
 have dA := dy _ _ _ (hne28) du
 have au := dt.trans dx (fun _ h b => by subst b; omega)
 refine st_nil (ds _ _ (wp_seq_k fun gN bF => ?_))
 rcases bc (zeroV (Vl.mk v.k v.nk v.nn false [] v.s v.ref)) with av | av
 refine wp_g0 (.replicate 8 true) [] 70
   [ve (vv (Vl.mk v.k v.nk v.nn false [] v.s v.ref) none 0 Bv dv), vT, vT, ve (.pointer (some ⟨q9, 3, none⟩)), ve (.agg #[.bool v.neg, sv Av v.mag cv]), ve (.bool (mayB v.neg v.mag)), ve (.bool (mayB v.neg v.mag)), ve (.bool (mayB v.neg v.mag))] aF (.eq (.eq (.eq (.eq (.eq (.eq (.eq (.eq (.nil))))))))) ?_ ?_
 exact .t (fun _ w hn k => ⟨_, v_load rfl (k.fx 3 cr) (l_agg Tryd.isAgg29 Tryd.sizeOf29 (bE.new_ hn) rfl), rfl⟩) <| .o1 (ck rfl rfl rfl (fun _ w hn k => ⟨#[vv (Vl.mk v.k v.nk v.nn false [] v.s v.ref) none 0 Bv dv], args1 (k.eq1 0 42 rfl), fun _ => by kernel_rfl, zero_c (Vl.mk v.k v.nk v.nn false [] v.s v.ref) _ _ _ _ _ (SRow.nil _ _) (hsv.new_ (au.transNew hn))⟩) fun _ => congrArg Value.bool av) <| .m (fun k => k.eq1 1 43 rfl) <| .gf (fun k => k.eq1 2 44 rfl) (fun k => k.fx 1 fd) <| .g (fun k => k.eq1 2 44 rfl) (fun _ w hn k => ⟨_, v_load rfl (k.eq1 3 45 rfl) (l_part Tryd.isAgg26 Tryd.sizeOf26 (dA.new_ hn) lb), rfl⟩) <| .o1 (cg rfl rfl rfl (fun _ _ k => k.eq1 2 44 rfl) rfl (fun _ w hn k => ⟨#[.agg #[.bool v.neg, sv Av v.mag cv]], args1 (k.eq1 4 46 rfl), fun _ => by kernel_rfl, bmay_c v.neg _ v.mag _ _ (hmv.new_ (au.transNew hn))⟩) fun _ => rfl) <| .t (fun _ w hn k => ⟨_, v_pickT rfl (k.eq1 2 44 rfl) (k.eq1 5 47 rfl), rfl⟩) <| .a (fun k => k.eq1 6 48 rfl) .nil
 refine aftI aF bC au fun gO gP fR dB dC fS dD => ?_
 have fh := dD.ge 7 2 rfl
 refine st_nil (bF _ _ ?_)
 refine wp_ret (ret_k dB (v := .bool (mayB v.neg v.mag)) (res_t rfl fh _) ?_)
 refine ⟨?_, dC⟩
 show Ending.returned (.bool (mayB v.neg v.mag)) = Ending.returned (.bool (mayV v))
 first | rfl | (simp only [mayV, ab, ac, aa, ad, ae, av, bsm] <;> rfl) | (exfalso; omega)
 refine wp_g0 (.replicate 8 true) [] 70
   [ve (vv (Vl.mk v.k v.nk v.nn false [] v.s v.ref) none 0 Bv dv), vF, vF, vU, vU, vU, vF, vF] aF (.eq (.eq (.eq (.eq (.eq (.eq (.eq (.eq (.nil))))))))) ?_ ?_
 exact .t (fun _ w hn k => ⟨_, v_load rfl (k.fx 3 cr) (l_agg Tryd.isAgg29 Tryd.sizeOf29 (bE.new_ hn) rfl), rfl⟩) <| .o1 (ck rfl rfl rfl (fun _ w hn k => ⟨#[vv (Vl.mk v.k v.nk v.nn false [] v.s v.ref) none 0 Bv dv], args1 (k.eq1 0 42 rfl), fun _ => by kernel_rfl, zero_c (Vl.mk v.k v.nk v.nn false [] v.s v.ref) _ _ _ _ _ (SRow.nil _ _) (hsv.new_ (au.transNew hn))⟩) fun _ => congrArg Value.bool av) <| .m (fun k => k.eq1 1 43 rfl) <| .s (fun k => k.eq1 2 44 rfl) <| .s (fun k => k.eq1 2 44 rfl) <| .s (fun k => k.eq1 2 44 rfl) <| .t (fun _ w hn k => ⟨_, v_pickF rfl (k.eq1 2 44 rfl) rfl, rfl⟩) <| .a (fun k => k.eq1 6 48 rfl) .nil
 refine aftI aF bC au fun gQ gR fT dE dF fU dG => ?_
 have fi := dG.ge 7 2 rfl
 refine st_nil (bF _ _ ?_)
 refine wp_ret (ret_k dE (v := .bool false) (res_t rfl fi _) ?_)
 refine ⟨?_, dF⟩
 show Ending.returned (.bool false) = Ending.returned (.bool (mayV v))
 first | rfl | (simp only [mayV, ab, ac, aa, ad, ae, av, bsm] <;> rfl) | (exfalso; omega)
 have cq := oF ae
 have dH := hB cp ae
 refine wp_cond_false dH ?_
 refine wp_seq_k fun gS dI => ?_
 refine wp_g0 [true, true] [] 70
   [ve (.bool (decide (v.k = 5))), ve (.bool (decide (v.k = 5)))] aD (.eq (.eq (.nil))) ?_ ?_
 exact .t (fun _ w hn k => ⟨_, v_bin rfl (k.fx 6 co) rfl (fun _ => rfl) (r_eql rfl), rfl⟩) <| .a (fun k => k.eq1 0 50 rfl) .nil
 refine aftI aD bw bx fun gT gU aH bG bH bI aI => ?_
 have cw := aI.fx 1 cn
 have be := aI.fx 3 bd
 have fj := aI.fx 6 co
 have cx := aI.ge 1 49 rfl
 have bJ := bA.new_ bI
 have bK := bB.new_ bI
 refine st_nil (dI _ _ ?_)
 rcases bc (decide (v.k = 5)) with af | af
 have cy := oT af
 have dJ := hB cx af
 refine wp_cond_true dJ ?_
 refine wp_seq_k fun gV dK => ?_
 refine wp_g0 [true, false] [(1, false)] 70
   [ve (.pointer (some ⟨aq, 5, none⟩)), vt] aH (.eq (.tt (.nil))) ?_ ?_
 exact .f (fun k => k.fx 3 be) <| .off .nil
 refine aftI aH bG bH fun gW gX aJ bL dL bM aX => ?_
 have fk := aX.fx 1 cw
 have cz := aX.fx 3 be
 have fl := aX.ge 0 51 rfl
 have dM := bJ.new_ bM
 have dN := bK.new_ bM
 obtain ⟨gY, -, cA, bN, dO, dP⟩ := s_one (v := sv none ([]) 0) (i := 5) Tryd.sizeOf27 rfl rfl dN lb
 refine st_act rfl rfl fun gZ dQ => a_store' rfl fl rfl cA (dQ _ _ trivial ?_)
 have dR := dP _ _ _ (hne28) dM
 have aK := dL.trans dO (fun _ h b => by subst b; omega)
 refine st_nil (dK _ _ (wp_seq_k fun g0 bO => ?_))
 rcases bc (zeroV (Vl.mk v.k v.nk v.nn v.neg v.mag [] v.ref)) with aw | aw
 refine wp_g0 (.replicate 9 true) [] 70
   [ve (vv (Vl.mk v.k v.nk v.nn v.neg v.mag [] v.ref) Av cv none 0), vT, vT, ve (.pointer (some ⟨q9, 5, none⟩)), ve (sv Bv v.s dv), ve (iv (v.s.length : Int)), ve (.bool (decide ((v.s.length : Int) ≤ 4096))), ve (.bool (decide ((v.s.length : Int) ≤ 4096))), ve (.bool (decide ((v.s.length : Int) ≤ 4096)))] aJ (.eq (.eq (.eq (.eq (.eq (.eq (.eq (.eq (.eq (.nil)))))))))) ?_ ?_
 exact .t (fun _ w hn k => ⟨_, v_load rfl (k.fx 3 cz) (l_agg Tryd.isAgg29 Tryd.sizeOf29 (bN.new_ hn) rfl), rfl⟩) <| .o1 (ck rfl rfl rfl (fun _ w hn k => ⟨#[vv (Vl.mk v.k v.nk v.nn v.neg v.mag [] v.ref) Av cv none 0], args1 (k.eq1 0 52 rfl), fun _ => by kernel_rfl, zero_c (Vl.mk v.k v.nk v.nn v.neg v.mag [] v.ref) _ _ _ _ _ (hmv.new_ (aK.transNew hn)) (SRow.nil _ _)⟩) fun _ => congrArg Value.bool aw) <| .m (fun k => k.eq1 1 53 rfl) <| .gf (fun k => k.eq1 2 54 rfl) (fun k => k.fx 1 fk) <| .g (fun k => k.eq1 2 54 rfl) (fun _ w hn k => ⟨_, v_load rfl (k.eq1 3 55 rfl) (l_one Tryd.isAgg27 ((dR.new_ hn).cell 5)), rfl⟩) <| .g (fun k => k.eq1 2 54 rfl) (fun _ w hn k => ⟨_, v_lenR rfl elU (k.eq1 4 56 rfl), rfl⟩) <| .g (fun k => k.eq1 2 54 rfl) (fun _ w hn k => ⟨_, v_bin rfl (k.eq1 5 57 rfl) rfl (fun _ => rfl) (r_leqK rfl), rfl⟩) <| .t (fun _ w hn k => ⟨_, v_pickT rfl (k.eq1 2 54 rfl) (k.eq1 6 58 rfl), rfl⟩) <| .a (fun k => k.eq1 7 59 rfl) .nil
 refine aftI aJ bL aK fun g1 g2 fV dS dT fW dU => ?_
 have fm := dU.ge 8 2 rfl
 refine st_nil (bO _ _ ?_)
 refine wp_ret (ret_k dS (v := .bool (decide ((v.s.length : Int) ≤ 4096))) (res_t rfl fm _) ?_)
 refine ⟨?_, dT⟩
 show Ending.returned (.bool (decide ((v.s.length : Int) ≤ 4096))) = Ending.returned (.bool (mayV v))
 first | rfl | (simp only [mayV, ab, ac, aa, ad, ae, af, aw, bsm] <;> rfl) | (exfalso; omega)
 refine wp_g0 (.replicate 9 true) [] 70
   [ve (vv (Vl.mk v.k v.nk v.nn v.neg v.mag [] v.ref) Av cv none 0), vF, vF, vU, vU, vU, vU, vF, vF] aJ (.eq (.eq (.eq (.eq (.eq (.eq (.eq (.eq (.eq (.nil)))))))))) ?_ ?_
 exact .t (fun _ w hn k => ⟨_, v_load rfl (k.fx 3 cz) (l_agg Tryd.isAgg29 Tryd.sizeOf29 (bN.new_ hn) rfl), rfl⟩) <| .o1 (ck rfl rfl rfl (fun _ w hn k => ⟨#[vv (Vl.mk v.k v.nk v.nn v.neg v.mag [] v.ref) Av cv none 0], args1 (k.eq1 0 52 rfl), fun _ => by kernel_rfl, zero_c (Vl.mk v.k v.nk v.nn v.neg v.mag [] v.ref) _ _ _ _ _ (hmv.new_ (aK.transNew hn)) (SRow.nil _ _)⟩) fun _ => congrArg Value.bool aw) <| .m (fun k => k.eq1 1 53 rfl) <| .s (fun k => k.eq1 2 54 rfl) <| .s (fun k => k.eq1 2 54 rfl) <| .s (fun k => k.eq1 2 54 rfl) <| .s (fun k => k.eq1 2 54 rfl) <| .t (fun _ w hn k => ⟨_, v_pickF rfl (k.eq1 2 54 rfl) rfl, rfl⟩) <| .a (fun k => k.eq1 7 59 rfl) .nil
 refine aftI aJ bL aK fun g3 g4 fX dV dW fY dX => ?_
 have fn := dX.ge 8 2 rfl
 refine st_nil (bO _ _ ?_)
 refine wp_ret (ret_k dV (v := .bool false) (res_t rfl fn _) ?_)
 refine ⟨?_, dW⟩
 show Ending.returned (.bool false) = Ending.returned (.bool (mayV v))
 first | rfl | (simp only [mayV, ab, ac, aa, ad, ae, af, aw, bsm] <;> rfl) | (exfalso; omega)
 have cy := oF af
 have dY := hB cx af
 refine wp_cond_false dY ?_
 refine wp_seq_k fun g5 dZ => ?_
 refine wp_g0 [true, true] [] 70
   [ve (.bool (decide (v.k = 6))), ve (.bool (decide (v.k = 6)))] aH (.eq (.eq (.nil))) ?_ ?_
 exact .t (fun _ w hn k => ⟨_, v_bin rfl (k.fx 6 fj) rfl (fun _ => rfl) (r_eql rfl), rfl⟩) <| .a (fun k => k.eq1 0 61 rfl) .nil
 refine aftI aH bG bH fun g6 g7 aL bP bQ bR aY => ?_
 have fo := aY.fx 1 cw
 have cB := aY.fx 3 be
 have cC := aY.ge 1 60 rfl
 have d0 := bJ.new_ bR
 have d1 := bK.new_ bR
 refine st_nil (dZ _ _ ?_)
 rcases bc (decide (v.k = 6)) with ah | ah
 have cD := oT ah
 have d2 := hB cC ah
 refine wp_cond_true d2 ?_
 refine wp_seq_k fun g8 d3 => ?_
 refine wp_g0 [true, false] [(1, false)] 70
   [ve (.pointer (some ⟨aq, 6, none⟩)), vt] aL (.eq (.tt (.nil))) ?_ ?_
 exact .f (fun k => k.fx 3 cB) <| .off .nil
 refine aftI aL bP bQ fun g9 ha ap aZ d4 bS a1 => ?_
 have cE := a1.fx 1 fo
 have bf := a1.fx 3 cB
 have fp := a1.ge 0 62 rfl
 have d5 := d0.new_ bS
 have d6 := d1.new_ bS
 obtain ⟨hc, -, cF, a3, d7, d8⟩ := s_one (v := iv 0) (i := 6) Tryd.sizeOf3 rfl rfl d6 lb
 refine st_act rfl rfl fun hd d9 => a_store' rfl fp rfl cF (d9 _ _ trivial ?_)
 have bT := d8 _ _ _ (hne28) d5
 have ai := d4.trans d7 (fun _ h b => by subst b; omega)
 refine st_nil (d3 _ _ (wp_seq_k fun he a4 => ?_))
 rcases bc (zeroV (Vl.mk v.k v.nk v.nn v.neg v.mag v.s 0)) with al | al
 rcases bc (decide (v.ref < 0)) with am | am
 have cG := oT am
 refine wp_g0 (.replicate 8 true) [] 70
   [ve (vv (Vl.mk v.k v.nk v.nn v.neg v.mag v.s 0) Av cv Bv dv), vT, vT, ve (.pointer (some ⟨q9, 6, none⟩)), ve (iv v.ref), vF, vF, vF] ap (.eq (.eq (.eq (.eq (.eq (.eq (.eq (.eq (.nil))))))))) ?_ ?_
 exact .t (fun _ w hn k => ⟨_, v_load rfl (k.fx 3 bf) (l_agg Tryd.isAgg29 Tryd.sizeOf29 (a3.new_ hn) rfl), rfl⟩) <| .o1 (ck rfl rfl rfl (fun _ w hn k => ⟨#[vv (Vl.mk v.k v.nk v.nn v.neg v.mag v.s 0) Av cv Bv dv], args1 (k.eq1 0 63 rfl), fun _ => by kernel_rfl, zero_c (Vl.mk v.k v.nk v.nn v.neg v.mag v.s 0) _ _ _ _ _ (hmv.new_ (ai.transNew hn)) (hsv.new_ (ai.transNew hn))⟩) fun _ => congrArg Value.bool al) <| .m (fun k => k.eq1 1 64 rfl) <| .gf (fun k => k.eq1 2 65 rfl) (fun k => k.fx 1 cE) <| .g (fun k => k.eq1 2 65 rfl) (fun _ w hn k => ⟨_, v_load rfl (k.eq1 3 66 rfl) (l_one Tryd.isAgg3 ((bT.new_ hn).cell 6)), rfl⟩) <| .g (fun k => k.eq1 2 65 rfl) (fun _ w hn k => ⟨_, v_bin rfl (k.eq1 4 67 rfl) rfl (fun _ => rfl) (r_geqK am), rfl⟩) <| .t (fun _ w hn k => ⟨_, v_pickT rfl (k.eq1 2 65 rfl) (k.eq1 5 68 rfl), rfl⟩) <| .a (fun k => k.eq1 6 69 rfl) .nil
 refine aftI ap aZ ai fun hf hg fZ ea eb f0 ec => ?_
 have fq := ec.ge 7 2 rfl
 refine st_nil (a4 _ _ ?_)
 refine wp_ret (ret_k ea (v := .bool false) (res_t rfl fq _) ?_)
 refine ⟨?_, eb⟩
 show Ending.returned (.bool false) = Ending.returned (.bool (mayV v))
 first | rfl | (simp only [mayV, ab, ac, aa, ad, ae, af, ah, al, am, bsm] <;> rfl) | (exfalso; omega)
 have cG := oF am
 refine wp_g0 (.replicate 8 true) [] 70
   [ve (vv (Vl.mk v.k v.nk v.nn v.neg v.mag v.s 0) Av cv Bv dv), vT, vT, ve (.pointer (some ⟨q9, 6, none⟩)), ve (iv v.ref), vT, vT, vT] ap (.eq (.eq (.eq (.eq (.eq (.eq (.eq (.eq (.nil))))))))) ?_ ?_
 exact .t (fun _ w hn k => ⟨_, v_load rfl (k.fx 3 bf) (l_agg Tryd.isAgg29 Tryd.sizeOf29 (a3.new_ hn) rfl), rfl⟩) <| .o1 (ck rfl rfl rfl (fun _ w hn k => ⟨#[vv (Vl.mk v.k v.nk v.nn v.neg v.mag v.s 0) Av cv Bv dv], args1 (k.eq1 0 63 rfl), fun _ => by kernel_rfl, zero_c (Vl.mk v.k v.nk v.nn v.neg v.mag v.s 0) _ _ _ _ _ (hmv.new_ (ai.transNew hn)) (hsv.new_ (ai.transNew hn))⟩) fun _ => congrArg Value.bool al) <| .m (fun k => k.eq1 1 64 rfl) <| .gf (fun k => k.eq1 2 65 rfl) (fun k => k.fx 1 cE) <| .g (fun k => k.eq1 2 65 rfl) (fun _ w hn k => ⟨_, v_load rfl (k.eq1 3 66 rfl) (l_one Tryd.isAgg3 ((bT.new_ hn).cell 6)), rfl⟩) <| .g (fun k => k.eq1 2 65 rfl) (fun _ w hn k => ⟨_, v_bin rfl (k.eq1 4 67 rfl) rfl (fun _ => rfl) (r_geqK am), rfl⟩) <| .t (fun _ w hn k => ⟨_, v_pickT rfl (k.eq1 2 65 rfl) (k.eq1 5 68 rfl), rfl⟩) <| .a (fun k => k.eq1 6 69 rfl) .nil
 refine aftI ap aZ ai fun hh hi f1 ed ee f2 ef => ?_
 have fr := ef.ge 7 2 rfl
 refine st_nil (a4 _ _ ?_)
 refine wp_ret (ret_k ed (v := .bool true) (res_t rfl fr _) ?_)
 refine ⟨?_, ee⟩
 show Ending.returned (.bool true) = Ending.returned (.bool (mayV v))
 first | rfl | (simp only [mayV, ab, ac, aa, ad, ae, af, ah, al, am, bsm] <;> rfl) | (exfalso; omega)
 refine wp_g0 (.replicate 8 true) [] 70
   [ve (vv (Vl.mk v.k v.nk v.nn v.neg v.mag v.s 0) Av cv Bv dv), vF, vF, vU, vU, vU, vF, vF] ap (.eq (.eq (.eq (.eq (.eq (.eq (.eq (.eq (.nil))))))))) ?_ ?_
 exact .t (fun _ w hn k => ⟨_, v_load rfl (k.fx 3 bf) (l_agg Tryd.isAgg29 Tryd.sizeOf29 (a3.new_ hn) rfl), rfl⟩) <| .o1 (ck rfl rfl rfl (fun _ w hn k => ⟨#[vv (Vl.mk v.k v.nk v.nn v.neg v.mag v.s 0) Av cv Bv dv], args1 (k.eq1 0 63 rfl), fun _ => by kernel_rfl, zero_c (Vl.mk v.k v.nk v.nn v.neg v.mag v.s 0) _ _ _ _ _ (hmv.new_ (ai.transNew hn)) (hsv.new_ (ai.transNew hn))⟩) fun _ => congrArg Value.bool al) <| .m (fun k => k.eq1 1 64 rfl) <| .s (fun k => k.eq1 2 65 rfl) <| .s (fun k => k.eq1 2 65 rfl) <| .s (fun k => k.eq1 2 65 rfl) <| .t (fun _ w hn k => ⟨_, v_pickF rfl (k.eq1 2 65 rfl) rfl, rfl⟩) <| .a (fun k => k.eq1 6 69 rfl) .nil
 refine aftI ap aZ ai fun hj hl f3 eg eh f4 ei => ?_
 have fs := ei.ge 7 2 rfl
 refine st_nil (a4 _ _ ?_)
 refine wp_ret (ret_k eg (v := .bool false) (res_t rfl fs _) ?_)
 refine ⟨?_, eh⟩
 show Ending.returned (.bool false) = Ending.returned (.bool (mayV v))
 first | rfl | (simp only [mayV, ab, ac, aa, ad, ae, af, ah, al, bsm] <;> rfl) | (exfalso; omega)
 have cD := oF ah
 have ej := hB cC ah
 refine wp_cond_false ej ?_
 refine wp_skip ?_
 refine eM _ _ ?_
 refine wp_seq_k fun hm ek => ?_
 refine wp_g0 [true] [] 70
   [vF] aL (.eq (.nil)) ?_ ?_
 exact .t (fun _ w hn k => ⟨_, v_assign rfl rfl, rfl⟩) .nil
 refine aftI aL bP bQ fun ho hr f5 el em f6 en => ?_
 have ft := en.ge 0 2 rfl
 refine st_nil (ek _ _ ?_)
 refine wp_ret (ret_k el (v := .bool false) (res_t rfl ft _) ?_)
 refine ⟨?_, em⟩
 show Ending.returned (.bool false) = Ending.returned (.bool (mayV v))
 first | rfl | (simp only [mayV, ab, ac, aa, ad, ae, af, ah, bsm] <;> rfl) | (exfalso; omega)
def clean_c_P (v : Vl) (Av : Option Addr) (cv : Nat) (Bv : Option Addr) (dv : Nat) (w : World) (en : Ending) (w' : World) : Prop := ∃ (Ar0 : Option Addr) (cr0 : Nat) (Ar1 : Option Addr) (cr1 : Nat), en = .returned (vv (cleanV v) Ar0 cr0 Ar1 cr1) ∧ SRow w' .u32 Ar0 ((cleanV v).mag) cr0 ∧ SRow w' .u16 Ar1 ((cleanV v).s) cr1 ∧ New w w'
theorem clean_c (v : Vl) (Av : Option Addr) (cv : Nat) (Bv : Option Addr) (dv : Nat) (w : World) (hmv : SRow w .u32 Av v.mag cv) (hsv : SRow w .u16 Bv v.s dv) : Calls Tryd.prog 27 #[vv v Av cv Bv dv] w (clean_c_P v Av cv Bv dv w) := by
 refine enter_abs Tryd.func27 rfl fun a0 ai a8 hp => ?_
 have ai : a0.tmps.size = 8 := ai
 have ak : New w w := Upd.refl _ _
 have hp0 : a0.eval (.tmp 0) = vv v Av cv Bv dv := hp 0 _ rfl
 refine wp_seq_k fun K1 a9 => ?_
 refine wp_g [true, true] [] [] 8
   [IsNew w 29 [iv v.k, iv v.nk, iv v.nn, .bool v.neg, sv Av v.mag cv, sv Bv v.s dv, iv v.ref], IsNew w 29 [iv 0, iv 0, iv 0, .bool false, sv none ([]) 0, sv none ([]) 0, iv 0]]
   [0, 1] (newsCons (fun v w h => IsNew.old h) (newsCons (fun v w h => IsNew.old h) newsNil)) ai (.nw (.nw (.nil))) ?_ (fun i h => by cases h) ?_
 exact .o2 (step_allocN (cs := [iv v.k, iv v.nk, iv v.nn, .bool v.neg, sv Av v.mag cv, sv Bv v.s dv, iv v.ref]) (t := 29) rfl (noG rfl) (fun _ w hn k => v_box rfl (k.fx 0 hp0) (fun w => rfl)) (fun q _ hq hb => ⟨q, rfl, hq, hb⟩)) <| .o2 (step_allocN (cs := [iv 0, iv 0, iv 0, .bool false, sv none ([]) 0, sv none ([]) 0, iv 0]) (t := 29) rfl (noG rfl) (fun _ w hn k => rfl) (fun q _ hq hb => ⟨q, rfl, hq, hb⟩)) .nil
 refine aftI ai a8 ak fun a2 w3 aj aC ab br al => ?_
 obtain ⟨q9, h8, aF, ac⟩ : IsNew _ _ _ _ _ := al.got 0 1 rfl (by kernel_rfl)
 obtain ⟨am, an, aG, ao⟩ : IsNew _ _ _ _ _ := al.got 1 2 rfl (by kernel_rfl)
 have hne16 : q9 ≠ am := al.ne 0 1 1 2 h8 an
 have bk := Nat.le_trans ak.size aF
 have bl := Nat.le_trans ak.size aG
 refine st_nil (a9 _ _ (wp_seq_k fun bs aH => ?_))
 refine wp_seq_k fun bt ap => ?_
 rcases bc (mayV v) with aa | aa
 refine wp_g0 [true, true, true] [] 8
   [ve (vv v Av cv Bv dv), vT, vF] aj (.eq (.eq (.eq (.nil)))) ?_ ?_
 exact .t (fun _ w hn k => ⟨_, v_load rfl (k.fx 1 h8) (l_agg Tryd.isAgg29 Tryd.sizeOf29 (ac.new_ hn) rfl), rfl⟩) <| .o1 (ck rfl rfl rfl (fun _ w hn k => ⟨#[vv v Av cv Bv dv], args1 (k.eq1 0 3 rfl), fun _ => by kernel_rfl, vmay_c v _ _ _ _ _ (hmv.new_ (ab.transNew hn)) (hsv.new_ (ab.transNew hn))⟩) fun _ => congrArg Value.bool aa) <| .t (fun _ w hn k => ⟨_, v_not rfl (k.eq1 1 4 rfl), rfl⟩) .nil
 refine aftI aj aC ab fun bu bv aq aI aJ ar af => ?_
 have ba := af.fx 1 h8
 have bb := af.fx 2 an
 have bd := af.ge 2 5 rfl
 have aK := ac.new_ ar
 have aL := ao.new_ ar
 refine st_nil (ap _ _ ?_)
 refine wp_cond_false bd ?_
 refine wp_skip ?_
 refine aH _ _ ?_
 refine wp_seq_k fun bw aM => ?_
 refine wp_g0 [true, false] [(1, false)] 8
   [ve (vv v Av cv Bv dv), vt] aq (.eq (.tt (.nil))) ?_ ?_
 exact .t (fun _ w hn k => ⟨_, v_load rfl (k.fx 1 ba) (l_agg Tryd.isAgg29 Tryd.sizeOf29 (aK.new_ hn) rfl), rfl⟩) <| .off .nil
 refine aftI aq aI aJ fun bx bz bm aN aO aP au => ?_
 have aD := au.fx 2 bb
 have be := au.ge 0 7 rfl
 have aQ := aL.new_ aP
 obtain ⟨bf, ay, az, aR, bn⟩ := s_many (P := Tryd.prog) (t := 29) (i := 0) [iv v.k, iv v.nk, iv v.nn, .bool v.neg, sv Av v.mag cv, sv Bv v.s dv, iv v.ref] Tryd.sizeOf29 rfl rfl rfl aQ lb
 have aS : Blk bf am 29 [iv v.k, iv v.nk, iv v.nn, .bool v.neg, sv Av v.mag cv, sv Bv v.s dv, iv v.ref] := az
 refine st_act rfl rfl fun bA aT => a_store' rfl aD be ay (aT _ _ trivial ?_)
 have ag := aO.trans aR (fun _ h b => by subst b; omega)
 refine st_nil (aM _ _ ?_)
 refine wp_ret (ret_k aN (v := vv v Av cv Bv dv) (res_c rfl aD (l_agg Tryd.isAgg29 Tryd.sizeOf29 aS rfl)) ?_)
 have ad : (cleanV v).mag = v.mag := by first | rfl | (simp only [cleanV, Vl.z, aa, bsm] <;> rfl) | (exfalso; omega)
 have ae : (cleanV v).s = v.s := by first | rfl | (simp only [cleanV, Vl.z, aa, bsm] <;> rfl) | (exfalso; omega)
 exact ⟨Av, cv, Bv, dv, (by show Ending.returned (vv v Av cv Bv dv) = Ending.returned (vv (cleanV v) Av cv Bv dv); (first | rfl | (simp only [cleanV, Vl.z, aa, ad, ae, bsm] <;> rfl) | (exfalso; omega))), (by rw [ad]; exact (hmv.new_ ag)), (by rw [ae]; exact (hsv.new_ ag)), ag⟩
 refine wp_g0 [true, true, true] [] 8
   [ve (vv v Av cv Bv dv), vF, vT] aj (.eq (.eq (.eq (.nil)))) ?_ ?_
 exact .t (fun _ w hn k => ⟨_, v_load rfl (k.fx 1 h8) (l_agg Tryd.isAgg29 Tryd.sizeOf29 (ac.new_ hn) rfl), rfl⟩) <| .o1 (ck rfl rfl rfl (fun _ w hn k => ⟨#[vv v Av cv Bv dv], args1 (k.eq1 0 3 rfl), fun _ => by kernel_rfl, vmay_c v _ _ _ _ _ (hmv.new_ (ab.transNew hn)) (hsv.new_ (ab.transNew hn))⟩) fun _ => congrArg Value.bool aa) <| .t (fun _ w hn k => ⟨_, v_not rfl (k.eq1 1 4 rfl), rfl⟩) .nil
 refine aftI aj aC ab fun bB bC av aU aV aw ah => ?_
 have bD := ah.fx 1 h8
 have bg := ah.fx 2 an
 have bh := ah.ge 2 5 rfl
 have bo := ac.new_ aw
 have aW := ao.new_ aw
 refine st_nil (ap _ _ ?_)
 refine wp_cond_true bh ?_
 refine wp_seq_k fun bE aX => ?_
 refine wp_g0 [true, false] [(1, false)] 8
   [ve (vv (Vl.mk 0 0 0 false [] [] 0) none 0 none 0), vt] av (.eq (.tt (.nil))) ?_ ?_
 exact .t (fun _ w hn k => ⟨_, v_build (ps := []) rfl parts0 (by kernel_rfl), rfl⟩) <| .off .nil
 refine aftI av aU aV fun bF bG bp aY aZ a1 ax => ?_
 have aE := ax.fx 2 bg
 have bi := ax.ge 0 6 rfl
 have a3 := aW.new_ a1
 obtain ⟨bj, aA, aB, a4, bq⟩ := s_many (P := Tryd.prog) (t := 29) (i := 0) [iv 0, iv 0, iv 0, .bool false, sv none ([]) 0, sv none ([]) 0, iv 0] Tryd.sizeOf29 rfl rfl rfl a3 lb
 have a5 : Blk bj am 29 [iv 0, iv 0, iv 0, .bool false, sv none ([]) 0, sv none ([]) 0, iv 0] := aB
 refine st_act rfl rfl fun bH a6 => a_store' rfl aE bi aA (a6 _ _ trivial ?_)
 have a7 := aZ.trans a4 (fun _ h b => by subst b; omega)
 refine st_nil (aX _ _ ?_)
 refine wp_ret (ret_k aY (v := vv (Vl.mk 0 0 0 false [] [] 0) none 0 none 0) (res_c rfl aE (l_agg Tryd.isAgg29 Tryd.sizeOf29 a5 rfl)) ?_)
 have ad : (cleanV v).mag = [] := by first | rfl | (simp only [cleanV, Vl.z, aa, bsm] <;> rfl) | (exfalso; omega)
 have ae : (cleanV v).s = [] := by first | rfl | (simp only [cleanV, Vl.z, aa, bsm] <;> rfl) | (exfalso; omega)
 exact ⟨none, 0, none, 0, (by show Ending.returned (vv (Vl.mk 0 0 0 false [] [] 0) none 0 none 0) = Ending.returned (vv (cleanV v) none 0 none 0); (first | rfl | (simp only [cleanV, Vl.z, aa, ad, ae, bsm] <;> rfl) | (exfalso; omega))), (by rw [ad]; exact (SRow.nil _ _)), (by rw [ae]; exact (SRow.nil _ _)), a7⟩
theorem whole_c (n : Int) (w : World) : Calls Tryd.prog 81 #[iv n] w (IsRet (nv (Nm.mk 0 n)) w) := by
 refine enter_abs Tryd.func81 rfl fun a0 aa av hp => ?_
 have aa : a0.tmps.size = 5 := aa
 have ad : New w w := Upd.refl _ _
 have hp0 : a0.eval (.tmp 0) = iv n := hp 0 _ rfl
 refine wp_seq_k fun K1 aw => ?_
 refine wp_g [true] [] [] 5
   [IsNew w 23 [iv 0, iv 0]]
   [0] (newsCons (fun v w h => IsNew.old h) newsNil) aa (.nw (.nil)) ?_ (fun i h => by cases h) ?_
 exact .o2 (step_allocN (cs := [iv 0, iv 0]) (t := 23) rfl (noG rfl) (fun _ w hn k => rfl) (fun q _ hq hb => ⟨q, rfl, hq, hb⟩)) .nil
 refine aftI aa av ad fun a2 w3 ae ax ah aC af => ?_
 have h8 := af.fx 0 hp0
 obtain ⟨aD, h9, ai, aj⟩ : IsNew _ _ _ _ _ := af.got 0 2 rfl (by kernel_rfl)
 have az := Nat.le_trans ad.size ai
 refine st_nil (aw _ _ (wp_seq_k fun aE ak => ?_))
 refine wp_g0 [true, true, false] [(2, false)] 5
   [ve (iv n), ve (nv (Nm.mk 0 n)), vt] ae (.eq (.eq (.tt (.nil)))) ?_ ?_
 exact .m (fun k => k.fx 0 h8) <| .t (fun _ w hn k => ⟨_, v_build (ps := [(0, iv 0), (1, iv n)]) rfl (parts2 rfl (k.eq1 0 3 rfl)) (by kernel_rfl), rfl⟩) <| .off .nil
 refine aftI ae ax ah fun aF aG aA al am an ab => ?_
 have ag := ab.fx 2 h9
 have ay := ab.ge 1 4 rfl
 have ao := aj.new_ an
 obtain ⟨aH, -, ac, ap, aq, aB⟩ := s_two (v0 := iv 0) (v1 := iv n) Tryd.sizeOf23 rfl rfl rfl ao
 refine st_act rfl rfl fun aI ar => a_store' rfl ag ay ac (ar _ _ trivial ?_)
 have au := am.trans aq (fun _ h b => by subst b; omega)
 refine st_nil (ak _ _ ?_)
 refine wp_ret (ret_k al (v := nv (Nm.mk 0 n)) (res_c rfl ag (l_two Tryd.isAgg23 Tryd.sizeOf23 ap)) ?_)
 exact ⟨rfl, au⟩
theorem nought_c (d : Bool) (w : World) : Calls Tryd.prog 82 #[.bool d] w (IsRet (nv (noughtM d)) w) := by
 refine enter_abs Tryd.func82 rfl fun a0 ac aU hp => ?_
 have ac : a0.tmps.size = 6 := ac
 have al : New w w := Upd.refl _ _
 have hp0 : a0.eval (.tmp 0) = .bool d := hp 0 _ rfl
 refine wp_seq_k fun K1 aV => ?_
 refine wp_g [true] [] [] 6
   [IsNew w 23 [iv 0, iv 0]]
   [0] (newsCons (fun v w h => IsNew.old h) newsNil) ac (.nw (.nil)) ?_ (fun i h => by cases h) ?_
 exact .o2 (step_allocN (cs := [iv 0, iv 0]) (t := 23) rfl (noG rfl) (fun _ w hn k => rfl) (fun q _ hq hb => ⟨q, rfl, hq, hb⟩)) .nil
 refine aftI ac aU al fun a2 w3 am aW au a6 an => ?_
 have h8 := an.fx 0 hp0
 obtain ⟨a7, h9, av, aw⟩ : IsNew _ _ _ _ _ := an.got 0 2 rfl (by kernel_rfl)
 have aZ := Nat.le_trans al.size av
 refine st_nil (aV _ _ (wp_seq_k fun a8 ax => ?_))
 refine wp_seq_k fun a9 ay => ?_
 refine wp_g0 [true] [] 6
   [ve (.bool d)] am (.eq (.nil)) ?_ ?_
 exact .m (fun k => k.fx 0 h8) .nil
 refine aftI am aW au fun ba bb ab ad ae az af => ?_
 have ao := af.fx 2 h9
 have ap := af.ge 0 3 rfl
 have ag := aw.new_ az
 refine st_nil (ay _ _ ?_)
 rcases bc (d) with aa | aa
 have aA := hB ap aa
 refine wp_cond_true aA ?_
 refine wp_seq_k fun bd aB => ?_
 refine wp_g0 [true, false] [(1, false)] 6
   [ve (nv (Nm.mk 1 0)), vt] ab (.eq (.tt (.nil))) ?_ ?_
 exact .t (fun _ w hn k => ⟨_, v_build (ps := [(0, iv 1)]) rfl (parts1 rfl) (by kernel_rfl), rfl⟩) <| .off .nil
 refine aftI ab ad ae fun be bf a1 aC aD aE ah => ?_
 have aq := ah.fx 2 ao
 have aX := ah.ge 0 4 rfl
 have aF := ag.new_ aE
 obtain ⟨bg, -, aj, aG, aH, a3⟩ := s_two (v0 := iv 1) (v1 := iv 0) Tryd.sizeOf23 rfl rfl rfl aF
 refine st_act rfl rfl fun bh aI => a_store' rfl aq aX aj (aI _ _ trivial ?_)
 have aJ := aD.trans aH (fun _ h b => by subst b; omega)
 refine st_nil (aB _ _ ?_)
 refine wp_ret (ret_k aC (v := nv (Nm.mk 1 0)) (res_c rfl aq (l_two Tryd.isAgg23 Tryd.sizeOf23 aG)) ?_)
 refine ⟨?_, aJ⟩
 show Ending.returned (nv (Nm.mk 1 0)) = Ending.returned (nv (noughtM d))
 first | rfl | (simp only [noughtM, aa, bsm] <;> rfl) | (exfalso; omega)
 have aK := hB ap aa
 refine wp_cond_false aK ?_
 refine wp_skip ?_
 refine ax _ _ ?_
 refine wp_seq_k fun bi aL => ?_
 refine wp_g0 [true, false] [(1, false)] 6
   [ve (nv (Nm.mk 0 0)), vt] ab (.eq (.tt (.nil))) ?_ ?_
 exact .o1 (ck rfl rfl rfl (fun _ w hn k => ⟨#[iv 0], args1 rfl, fun _ => by kernel_rfl, whole_c 0 _ ⟩) fun _ => rfl) <| .off .nil
 refine aftI ab ad ae fun bj bk a4 aM aN aO ai => ?_
 have ar := ai.fx 2 ao
 have aY := ai.ge 0 5 rfl
 have aP := ag.new_ aO
 obtain ⟨bl, -, ak, aQ, aR, a5⟩ := s_two (v0 := iv 0) (v1 := iv 0) Tryd.sizeOf23 rfl rfl rfl aP
 refine st_act rfl rfl fun bm aS => a_store' rfl ar aY ak (aS _ _ trivial ?_)
 have aT := aN.trans aR (fun _ h b => by subst b; omega)
 refine st_nil (aL _ _ ?_)
 refine wp_ret (ret_k aM (v := nv (Nm.mk 0 0)) (res_c rfl ar (l_two Tryd.isAgg23 Tryd.sizeOf23 aQ)) ?_)
 refine ⟨?_, aT⟩
 show Ending.returned (nv (Nm.mk 0 0)) = Ending.returned (nv (noughtM d))
 first | rfl | (simp only [noughtM, aa, bsm] <;> rfl) | (exfalso; omega)
theorem inf_c (d : Bool) (w : World) : Calls Tryd.prog 80 #[.bool d] w (IsRet (nv (infM d)) w) := by
 refine enter_abs Tryd.func80 rfl fun a0 ac aU hp => ?_
 have ac : a0.tmps.size = 6 := ac
 have al : New w w := Upd.refl _ _
 have hp0 : a0.eval (.tmp 0) = .bool d := hp 0 _ rfl
 refine wp_seq_k fun K1 aV => ?_
 refine wp_g [true] [] [] 6
   [IsNew w 23 [iv 0, iv 0]]
   [0] (newsCons (fun v w h => IsNew.old h) newsNil) ac (.nw (.nil)) ?_ (fun i h => by cases h) ?_
 exact .o2 (step_allocN (cs := [iv 0, iv 0]) (t := 23) rfl (noG rfl) (fun _ w hn k => rfl) (fun q _ hq hb => ⟨q, rfl, hq, hb⟩)) .nil
 refine aftI ac aU al fun a2 w3 am aW au a6 an => ?_
 have h8 := an.fx 0 hp0
 obtain ⟨a7, h9, av, aw⟩ : IsNew _ _ _ _ _ := an.got 0 2 rfl (by kernel_rfl)
 have aZ := Nat.le_trans al.size av
 refine st_nil (aV _ _ (wp_seq_k fun a8 ax => ?_))
 refine wp_seq_k fun a9 ay => ?_
 refine wp_g0 [true] [] 6
   [ve (.bool d)] am (.eq (.nil)) ?_ ?_
 exact .m (fun k => k.fx 0 h8) .nil
 refine aftI am aW au fun ba bb ab ad ae az af => ?_
 have ao := af.fx 2 h9
 have ap := af.ge 0 3 rfl
 have ag := aw.new_ az
 refine st_nil (ay _ _ ?_)
 rcases bc (d) with aa | aa
 have aA := hB ap aa
 refine wp_cond_true aA ?_
 refine wp_seq_k fun bd aB => ?_
 refine wp_g0 [true, false] [(1, false)] 6
   [ve (nv (Nm.mk 4 0)), vt] ab (.eq (.tt (.nil))) ?_ ?_
 exact .t (fun _ w hn k => ⟨_, v_build (ps := [(0, iv 4)]) rfl (parts1 rfl) (by kernel_rfl), rfl⟩) <| .off .nil
 refine aftI ab ad ae fun be bf a1 aC aD aE ah => ?_
 have aq := ah.fx 2 ao
 have aX := ah.ge 0 4 rfl
 have aF := ag.new_ aE
 obtain ⟨bg, -, aj, aG, aH, a3⟩ := s_two (v0 := iv 4) (v1 := iv 0) Tryd.sizeOf23 rfl rfl rfl aF
 refine st_act rfl rfl fun bh aI => a_store' rfl aq aX aj (aI _ _ trivial ?_)
 have aJ := aD.trans aH (fun _ h b => by subst b; omega)
 refine st_nil (aB _ _ ?_)
 refine wp_ret (ret_k aC (v := nv (Nm.mk 4 0)) (res_c rfl aq (l_two Tryd.isAgg23 Tryd.sizeOf23 aG)) ?_)
 refine ⟨?_, aJ⟩
 show Ending.returned (nv (Nm.mk 4 0)) = Ending.returned (nv (infM d))
 first | rfl | (simp only [infM, aa, bsm] <;> rfl) | (exfalso; omega)
 have aK := hB ap aa
 refine wp_cond_false aK ?_
 refine wp_skip ?_
 refine ax _ _ ?_
 refine wp_seq_k fun bi aL => ?_
 refine wp_g0 [true, false] [(1, false)] 6
   [ve (nv (Nm.mk 3 0)), vt] ab (.eq (.tt (.nil))) ?_ ?_
 exact .t (fun _ w hn k => ⟨_, v_build (ps := [(0, iv 3)]) rfl (parts1 rfl) (by kernel_rfl), rfl⟩) <| .off .nil
 refine aftI ab ad ae fun bj bk a4 aM aN aO ai => ?_
 have ar := ai.fx 2 ao
 have aY := ai.ge 0 5 rfl
 have aP := ag.new_ aO
 obtain ⟨bl, -, ak, aQ, aR, a5⟩ := s_two (v0 := iv 3) (v1 := iv 0) Tryd.sizeOf23 rfl rfl rfl aP
 refine st_act rfl rfl fun bm aS => a_store' rfl ar aY ak (aS _ _ trivial ?_)
 have aT := aN.trans aR (fun _ h b => by subst b; omega)
 refine st_nil (aL _ _ ?_)
 refine wp_ret (ret_k aM (v := nv (Nm.mk 3 0)) (res_c rfl ar (l_two Tryd.isAgg23 Tryd.sizeOf23 aQ)) ?_)
 refine ⟨?_, aT⟩
 show Ending.returned (nv (Nm.mk 3 0)) = Ending.returned (nv (infM d))
 first | rfl | (simp only [infM, aa, bsm] <;> rfl) | (exfalso; omega)
theorem as_c (a : Nm) (w : World) : Calls Tryd.prog 50 #[nv a] w (IsRet (nv (asM a)) w) := by
 refine enter_abs Tryd.func50 rfl fun a0 ae a3 hp => ?_
 have ae : a0.tmps.size = 8 := ae
 have ag : New w w := Upd.refl _ _
 have hp0 : a0.eval (.tmp 0) = nv a := hp 0 _ rfl
 refine wp_seq_k fun K1 a4 => ?_
 refine wp_g [true, true] [] [] 8
   [IsNew w 23 [iv a.k, iv a.n], IsNew w 23 [iv 0, iv 0]]
   [0, 1] (newsCons (fun v w h => IsNew.old h) (newsCons (fun v w h => IsNew.old h) newsNil)) ae (.nw (.nw (.nil))) ?_ (fun i h => by cases h) ?_
 exact .o2 (step_allocN (cs := [iv a.k, iv a.n]) (t := 23) rfl (noG rfl) (fun _ w hn k => v_box rfl (k.fx 0 hp0) (fun w => rfl)) (fun q _ hq hb => ⟨q, rfl, hq, hb⟩)) <| .o2 (step_allocN (cs := [iv 0, iv 0]) (t := 23) rfl (noG rfl) (fun _ w hn k => rfl) (fun q _ hq hb => ⟨q, rfl, hq, hb⟩)) .nil
 refine aftI ae a3 ag fun a2 w3 af aw ah bl ai => ?_
 obtain ⟨q9, h8, az, ab⟩ : IsNew _ _ _ _ _ := ai.got 0 1 rfl (by kernel_rfl)
 obtain ⟨a5, aj, aA, ak⟩ : IsNew _ _ _ _ _ := ai.got 1 2 rfl (by kernel_rfl)
 have hne16 : q9 ≠ a5 := ai.ne 0 1 1 2 h8 aj
 have be := Nat.le_trans ag.size az
 have bf := Nat.le_trans ag.size aA
 refine st_nil (a4 _ _ (wp_seq_k fun bm aB => ?_))
 refine wp_seq_k fun bn al => ?_
 rcases bc (nmayB a) with aa | aa
 refine wp_g0 [true, true, true] [] 8
   [ve (nv a), vT, vF] af (.eq (.eq (.eq (.nil)))) ?_ ?_
 exact .t (fun _ w hn k => ⟨_, v_load rfl (k.fx 1 h8) (l_two Tryd.isAgg23 Tryd.sizeOf23 (ab.new_ hn)), rfl⟩) <| .o1 (ck rfl rfl rfl (fun _ w hn k => ⟨#[nv a], args1 (k.eq1 0 3 rfl), fun _ => by kernel_rfl, may_c a _ ⟩) fun _ => congrArg Value.bool aa) <| .t (fun _ w hn k => ⟨_, v_not rfl (k.eq1 1 4 rfl), rfl⟩) .nil
 refine aftI af aw ah fun bo bp am aC aD an ac => ?_
 have a6 := ac.fx 1 h8
 have a7 := ac.fx 2 aj
 have a8 := ac.ge 2 5 rfl
 have aE := ab.new_ an
 have aF := ak.new_ an
 refine st_nil (al _ _ ?_)
 refine wp_cond_false a8 ?_
 refine wp_skip ?_
 refine aB _ _ ?_
 refine wp_seq_k fun bq aG => ?_
 refine wp_g0 [true, false] [(1, false)] 8
   [ve (nv a), vt] am (.eq (.tt (.nil))) ?_ ?_
 exact .t (fun _ w hn k => ⟨_, v_load rfl (k.fx 1 a6) (l_two Tryd.isAgg23 Tryd.sizeOf23 (aE.new_ hn)), rfl⟩) <| .off .nil
 refine aftI am aC aD fun br bs bg aH aI aJ ao => ?_
 have ax := ao.fx 2 a7
 have a9 := ao.ge 0 7 rfl
 have aK := aF.new_ aJ
 obtain ⟨bt, -, au, aL, aM, bh⟩ := s_two (v0 := iv a.k) (v1 := iv a.n) Tryd.sizeOf23 rfl rfl rfl aK
 refine st_act rfl rfl fun bu aN => a_store' rfl ax a9 au (aN _ _ trivial ?_)
 have aO := aI.trans aM (fun _ h b => by subst b; omega)
 refine st_nil (aG _ _ ?_)
 refine wp_ret (ret_k aH (v := nv a) (res_c rfl ax (l_two Tryd.isAgg23 Tryd.sizeOf23 aL)) ?_)
 refine ⟨?_, aO⟩
 show Ending.returned (nv a) = Ending.returned (nv (asM a))
 first | rfl | (simp only [asM, aa, bsm] <;> rfl) | (exfalso; omega)
 refine wp_g0 [true, true, true] [] 8
   [ve (nv a), vF, vT] af (.eq (.eq (.eq (.nil)))) ?_ ?_
 exact .t (fun _ w hn k => ⟨_, v_load rfl (k.fx 1 h8) (l_two Tryd.isAgg23 Tryd.sizeOf23 (ab.new_ hn)), rfl⟩) <| .o1 (ck rfl rfl rfl (fun _ w hn k => ⟨#[nv a], args1 (k.eq1 0 3 rfl), fun _ => by kernel_rfl, may_c a _ ⟩) fun _ => congrArg Value.bool aa) <| .t (fun _ w hn k => ⟨_, v_not rfl (k.eq1 1 4 rfl), rfl⟩) .nil
 refine aftI af aw ah fun bv bw ap aP aQ aq ad => ?_
 have bx := ad.fx 1 h8
 have ba := ad.fx 2 aj
 have bb := ad.ge 2 5 rfl
 have bi := ab.new_ aq
 have aR := ak.new_ aq
 refine st_nil (al _ _ ?_)
 refine wp_cond_true bb ?_
 refine wp_seq_k fun bz aS => ?_
 refine wp_g0 [true, false] [(1, false)] 8
   [ve (nv (Nm.mk 2 0)), vt] ap (.eq (.tt (.nil))) ?_ ?_
 exact .o1 (ck rfl rfl rfl (fun _ w hn k => ⟨#[], rfl, fun _ => by kernel_rfl, nan_c  _ ⟩) fun _ => rfl) <| .off .nil
 refine aftI ap aP aQ fun bA bB bj aT aU aV ar => ?_
 have ay := ar.fx 2 ba
 have bd := ar.ge 0 6 rfl
 have aW := aR.new_ aV
 obtain ⟨bC, -, av, aX, aY, bk⟩ := s_two (v0 := iv 2) (v1 := iv 0) Tryd.sizeOf23 rfl rfl rfl aW
 refine st_act rfl rfl fun bD aZ => a_store' rfl ay bd av (aZ _ _ trivial ?_)
 have a1 := aU.trans aY (fun _ h b => by subst b; omega)
 refine st_nil (aS _ _ ?_)
 refine wp_ret (ret_k aT (v := nv (Nm.mk 2 0)) (res_c rfl ay (l_two Tryd.isAgg23 Tryd.sizeOf23 aX)) ?_)
 refine ⟨?_, a1⟩
 show Ending.returned (nv (Nm.mk 2 0)) = Ending.returned (nv (asM a))
 first | rfl | (simp only [asM, aa, bsm] <;> rfl) | (exfalso; omega)
theorem isNaN_c (a : Nm) (w : World) : Calls Tryd.prog 51 #[nv a] w (IsRet (.bool (decide (a.k = 2))) w) := by
 refine enter_abs Tryd.func51 rfl fun a0 aa ak hp => ?_
 have aa : a0.tmps.size = 6 := aa
 have ab : New w w := Upd.refl _ _
 have hp0 : a0.eval (.tmp 0) = nv a := hp 0 _ rfl
 refine wp_seq_k fun K1 al => ?_
 refine wp_g [true, true] [] [] 6
   [IsNew w 23 [iv a.k, iv a.n], vF]
   [0] (newsCons (fun v w h => IsNew.old h) newsNil) aa (.nw (.eq (.nil))) ?_ (fun i h => by cases h) ?_
 exact .o2 (step_allocN (cs := [iv a.k, iv a.n]) (t := 23) rfl (noG rfl) (fun _ w hn k => v_box rfl (k.fx 0 hp0) (fun w => rfl)) (fun q _ hq hb => ⟨q, rfl, hq, hb⟩)) <| .t (fun _ w hn k => ⟨_, v_assign rfl rfl, rfl⟩) .nil
 refine aftI aa ak ab fun a2 w3 ac am ad au an => ?_
 obtain ⟨q9, h8, ae, af⟩ : IsNew _ _ _ _ _ := an.got 0 1 rfl (by kernel_rfl)
 have ap := Nat.le_trans ab.size ae
 refine st_nil (al _ _ (wp_seq_k fun av ag => ?_))
 refine wp_g0 [true, true, true, true] [] 6
   [ve (pv q9), ve (iv a.k), ve (.bool (decide (a.k = 2))), ve (.bool (decide (a.k = 2)))] ac (.eq (.eq (.eq (.eq (.nil))))) ?_ ?_
 exact .f (fun k => k.fx 1 h8) <| .t (fun _ w hn k => ⟨_, v_load rfl (k.eq1 0 3 rfl) (l_one Tryd.isAgg3 ((af.new_ hn).cell 0)), rfl⟩) <| .t (fun _ w hn k => ⟨_, v_bin rfl (k.eq1 1 4 rfl) rfl (fun _ => rfl) (r_eql rfl), rfl⟩) <| .a (fun k => k.eq1 2 5 rfl) .nil
 refine aftI ac am ad fun aw ax aq ah ai ar aj => ?_
 have ao := aj.ge 3 2 rfl
 refine st_nil (ag _ _ ?_)
 refine wp_ret (ret_k ah (v := .bool (decide (a.k = 2))) (res_t rfl ao _) ?_)
 exact ⟨rfl, ai⟩
theorem rank_c (a : Nm) (w : World) : Calls Tryd.prog 52 #[nv a] w (IsRet (iv (rankM a)) w) := by
 refine enter_abs Tryd.func52 rfl fun a0 af a3 hp => ?_
 have af : a0.tmps.size = 11 := af
 have aq : New w w := Upd.refl _ _
 have hp0 : a0.eval (.tmp 0) = nv a := hp 0 _ rfl
 refine wp_seq_k fun K1 a4 => ?_
 refine wp_g [true, true] [] [] 11
   [IsNew w 23 [iv a.k, iv a.n], ve (iv 0)]
   [0] (newsCons (fun v w h => IsNew.old h) newsNil) af (.nw (.eq (.nil))) ?_ (fun i h => by cases h) ?_
 exact .o2 (step_allocN (cs := [iv a.k, iv a.n]) (t := 23) rfl (noG rfl) (fun _ w hn k => v_box rfl (k.fx 0 hp0) (fun w => rfl)) (fun q _ hq hb => ⟨q, rfl, hq, hb⟩)) <| .t (fun _ w hn k => ⟨_, v_assign rfl rfl, rfl⟩) .nil
 refine aftI af a3 aq fun a2 w3 ar a5 ax bm a6 => ?_
 obtain ⟨q9, h8, ay, ag⟩ : IsNew _ _ _ _ _ := a6.got 0 1 rfl (by kernel_rfl)
 have bf := Nat.le_trans aq.size ay
 refine st_nil (a4 _ _ (wp_seq_k fun bn az => ?_))
 refine wp_seq_k fun bo aA => ?_
 refine wp_g0 [true, true] [] 11
   [ve (pv q9), ve (iv a.k)] ar (.eq (.eq (.nil))) ?_ ?_
 exact .f (fun k => k.fx 1 h8) <| .t (fun _ w hn k => ⟨_, v_load rfl (k.eq1 0 3 rfl) (l_one Tryd.isAgg3 ((ag.new_ hn).cell 0)), rfl⟩) .nil
 refine aftI ar a5 ax fun bp bq ah aB aC aD ai => ?_
 have a7 := ai.fx 1 h8
 have au := ai.ge 1 4 rfl
 have aE := ag.new_ aD
 refine st_nil (aA _ _ ?_)
 refine wp_block ?_
 refine wp_seq_k fun br aF => ?_
 refine wp_g0 [true, true] [] 11
   [ve (.bool (decide (a.k = 3))), ve (.bool (decide (a.k = 3)))] ah (.eq (.eq (.nil))) ?_ ?_
 exact .t (fun _ w hn k => ⟨_, v_bin rfl (k.fx 4 au) rfl (fun _ => rfl) (r_eql rfl), rfl⟩) <| .a (fun k => k.eq1 0 6 rfl) .nil
 refine aftI ah aB aC fun bs bt ac aj ak aG ae => ?_
 have a8 := ae.fx 1 a7
 have a9 := ae.fx 4 au
 have av := ae.ge 1 5 rfl
 have aH := aE.new_ aG
 refine st_nil (aF _ _ ?_)
 rcases bc (decide (a.k = 3)) with aa | aa
 have ao := oT aa
 have aI := hB av aa
 refine wp_cond_true aI ?_
 refine wp_seq_k fun bu aJ => ?_
 refine wp_g0 [true] [] 11
   [ve (iv 9007199254740992)] ac (.eq (.nil)) ?_ ?_
 exact .t (fun _ w hn k => ⟨_, v_assign rfl rfl, rfl⟩) .nil
 refine aftI ac aj ak fun bv bw bg aK aL bh aM => ?_
 have ba := aM.ge 0 2 rfl
 refine st_nil (aJ _ _ ?_)
 refine wp_ret (ret_k aK (v := iv 9007199254740992) (res_t rfl ba _) ?_)
 refine ⟨?_, aL⟩
 show Ending.returned (iv 9007199254740992) = Ending.returned (iv (rankM a))
 first | rfl | (simp only [rankM, aa, bsm] <;> rfl) | (exfalso; omega)
 have ao := oF aa
 have aN := hB av aa
 refine wp_cond_false aN ?_
 refine wp_seq_k fun bx aO => ?_
 refine wp_g0 [true, true] [] 11
   [ve (.bool (decide (a.k = 4))), ve (.bool (decide (a.k = 4)))] ac (.eq (.eq (.nil))) ?_ ?_
 exact .t (fun _ w hn k => ⟨_, v_bin rfl (k.fx 4 a9) rfl (fun _ => rfl) (r_eql rfl), rfl⟩) <| .a (fun k => k.eq1 0 8 rfl) .nil
 refine aftI ac aj ak fun bz bA ad al am aP an => ?_
 have bb := an.fx 1 a8
 have aw := an.ge 1 7 rfl
 have aQ := aH.new_ aP
 refine st_nil (aO _ _ ?_)
 rcases bc (decide (a.k = 4)) with ab | ab
 have ap := oT ab
 have aR := hB aw ab
 refine wp_cond_true aR ?_
 refine wp_seq_k fun bB aS => ?_
 refine wp_g0 [true] [] 11
   [ve (iv (-9007199254740992))] ad (.eq (.nil)) ?_ ?_
 exact .t (fun _ w hn k => ⟨_, v_assign rfl rfl, rfl⟩) .nil
 refine aftI ad al am fun bC bD bi aT aU bj aV => ?_
 have bd := aV.ge 0 2 rfl
 refine st_nil (aS _ _ ?_)
 refine wp_ret (ret_k aT (v := iv (-9007199254740992)) (res_t rfl bd _) ?_)
 refine ⟨?_, aU⟩
 show Ending.returned (iv (-9007199254740992)) = Ending.returned (iv (rankM a))
 first | rfl | (simp only [rankM, aa, ab, bsm] <;> rfl) | (exfalso; omega)
 have ap := oF ab
 have aW := hB aw ab
 refine wp_cond_false aW ?_
 refine wp_skip ?_
 refine az _ _ ?_
 refine wp_seq_k fun bE aX => ?_
 refine wp_g0 [true, true, true] [] 11
   [ve (.pointer (some ⟨q9, 1, none⟩)), ve (iv a.n), ve (iv a.n)] ad (.eq (.eq (.eq (.nil)))) ?_ ?_
 exact .f (fun k => k.fx 1 bb) <| .t (fun _ w hn k => ⟨_, v_load rfl (k.eq1 0 9 rfl) (l_one Tryd.isAgg3 ((aQ.new_ hn).cell 1)), rfl⟩) <| .a (fun k => k.eq1 1 10 rfl) .nil
 refine aftI ad al am fun bF bG bk aY aZ bl a1 => ?_
 have be := a1.ge 2 2 rfl
 refine st_nil (aX _ _ ?_)
 refine wp_ret (ret_k aY (v := iv a.n) (res_t rfl be _) ?_)
 refine ⟨?_, aZ⟩
 show Ending.returned (iv a.n) = Ending.returned (iv (rankM a))
 first | rfl | (simp only [rankM, aa, ab, bsm] <;> rfl) | (exfalso; omega)
theorem equal_c (a : Nm) (b : Nm) (w : World) : Calls Tryd.prog 31 #[nv a, nv b] w (IsRet (.bool (equalM a b)) w) := by
 refine enter_abs Tryd.func31 rfl fun a0 ak aY hp => ?_
 have ak : a0.tmps.size = 24 := ak
 have am : New w w := Upd.refl _ _
 have hp0 : a0.eval (.tmp 0) = nv a := hp 0 _ rfl
 have hp1 : a0.eval (.tmp 1) = nv b := hp 1 _ rfl
 refine wp_seq_k fun K1 aZ => ?_
 refine wp_g [true, true, true] [] [] 24
   [IsNew w 23 [iv a.k, iv a.n], IsNew w 23 [iv b.k, iv b.n], vF]
   [0, 1] (newsCons (fun v w h => IsNew.old h) (newsCons (fun v w h => IsNew.old h) newsNil)) ak (.nw (.nw (.eq (.nil)))) ?_ (fun i h => by cases h) ?_
 exact .o2 (step_allocN (cs := [iv a.k, iv a.n]) (t := 23) rfl (noG rfl) (fun _ w hn k => v_box rfl (k.fx 0 hp0) (fun w => rfl)) (fun q _ hq hb => ⟨q, rfl, hq, hb⟩)) <| .o2 (step_allocN (cs := [iv b.k, iv b.n]) (t := 23) rfl (noG rfl) (fun _ w hn k => v_box rfl (k.fx 1 hp1) (fun w => rfl)) (fun q _ hq hb => ⟨q, rfl, hq, hb⟩)) <| .t (fun _ w hn k => ⟨_, v_assign rfl rfl, rfl⟩) .nil
 refine aftI ak aY am fun a2 w3 ay a1 az bi an => ?_
 obtain ⟨q9, h8, aA, ao⟩ : IsNew _ _ _ _ _ := an.got 0 2 rfl (by kernel_rfl)
 obtain ⟨a3, ap, aB, aq⟩ : IsNew _ _ _ _ _ := an.got 1 3 rfl (by kernel_rfl)
 have hne16 : q9 ≠ a3 := an.ne 0 1 2 3 h8 ap
 have a9 := Nat.le_trans am.size aA
 have ba := Nat.le_trans am.size aB
 refine st_nil (aZ _ _ (wp_seq_k fun bj aC => ?_))
 refine wp_g0 [true, true, true, true, false, false] [(4, false), (5, false)] 24
   [ve (nv a), ve (nv (asM a)), ve (nv b), ve (nv (asM b)), vt, vt] ay (.eq (.eq (.eq (.eq (.tt (.tt (.nil))))))) ?_ ?_
 exact .t (fun _ w hn k => ⟨_, v_load rfl (k.fx 2 h8) (l_two Tryd.isAgg23 Tryd.sizeOf23 (ao.new_ hn)), rfl⟩) <| .o1 (ck rfl rfl rfl (fun _ w hn k => ⟨#[nv a], args1 (k.eq1 0 5 rfl), fun _ => by kernel_rfl, as_c a _ ⟩) fun _ => rfl) <| .t (fun _ w hn k => ⟨_, v_load rfl (k.fx 3 ap) (l_two Tryd.isAgg23 Tryd.sizeOf23 (aq.new_ hn)), rfl⟩) <| .o1 (ck rfl rfl rfl (fun _ w hn k => ⟨#[nv b], args1 (k.eq1 2 7 rfl), fun _ => by kernel_rfl, as_c b _ ⟩) fun _ => rfl) <| .off <| .off .nil
 refine aftI ay a1 az fun bk bl ac ag aD ar ad => ?_
 have af := ad.fx 2 h8
 have al := ad.fx 3 ap
 have a4 := ad.ge 1 6 rfl
 have a5 := ad.ge 3 8 rfl
 have aE := ao.new_ ar
 have aF := aq.new_ ar
 have hbd_a := as_bd a
 have hbd_b := as_bd b
 obtain ⟨bm, -, au, aG, aH, aI⟩ := s_two (v0 := iv ((asM a).k)) (v1 := iv ((asM a).n)) Tryd.sizeOf23 rfl rfl rfl aE
 refine st_act rfl rfl fun bn aJ => a_store' rfl af a4 au (aJ _ _ trivial ?_)
 have aK := aI _ _ _ (fun h => hne16 h.symm) aF
 have aL := aD.trans aH (fun _ h b => by subst b; omega)
 obtain ⟨bo, -, av, ah, aM, aN⟩ := s_two (v0 := iv ((asM b).k)) (v1 := iv ((asM b).n)) Tryd.sizeOf23 rfl rfl rfl aK
 refine st_act rfl rfl fun bp aO => a_store' rfl al a5 av (aO _ _ trivial ?_)
 have ae := aN _ _ _ (hne16) aG
 have ai := aL.trans aM (fun _ h b => by subst b; omega)
 refine st_nil (aC _ _ (wp_seq_k fun bq aj => ?_))
 rcases bc (decide ((asM a).k = 2)) with aa | aa
 have aw := oT aa
 refine wp_g0 (.replicate 16 true) [] 24
   [ve (nv (asM a)), vT, vF, vF, vU, vU, vU, vF, vF, vU, vU, vU, vU, vU, vF, vF] ac (.eq (.eq (.eq (.eq (.eq (.eq (.eq (.eq (.eq (.eq (.eq (.eq (.eq (.eq (.eq (.eq (.nil))))))))))))))))) ?_ ?_
 exact .t (fun _ w hn k => ⟨_, v_load rfl (k.fx 2 af) (l_two Tryd.isAgg23 Tryd.sizeOf23 (ae.new_ hn)), rfl⟩) <| .o1 (ck rfl rfl rfl (fun _ w hn k => ⟨#[nv (asM a)], args1 (k.eq1 0 9 rfl), fun _ => by kernel_rfl, isNaN_c (asM a) _ ⟩) fun _ => congrArg Value.bool aa) <| .t (fun _ w hn k => ⟨_, v_not rfl (k.eq1 1 10 rfl), rfl⟩) <| .m (fun k => k.eq1 2 11 rfl) <| .s (fun k => k.eq1 3 12 rfl) <| .s (fun k => k.eq1 3 12 rfl) <| .s (fun k => k.eq1 3 12 rfl) <| .t (fun _ w hn k => ⟨_, v_pickF rfl (k.eq1 3 12 rfl) rfl, rfl⟩) <| .m (fun k => k.eq1 7 16 rfl) <| .s (fun k => k.eq1 8 17 rfl) <| .s (fun k => k.eq1 8 17 rfl) <| .s (fun k => k.eq1 8 17 rfl) <| .s (fun k => k.eq1 8 17 rfl) <| .s (fun k => k.eq1 8 17 rfl) <| .t (fun _ w hn k => ⟨_, v_pickF rfl (k.eq1 8 17 rfl) rfl, rfl⟩) <| .a (fun k => k.eq1 14 23 rfl) .nil
 refine aftI ac ag ai fun br bs bb aP aQ bd aR => ?_
 have a6 := aR.ge 15 4 rfl
 refine st_nil (aj _ _ ?_)
 refine wp_ret (ret_k aP (v := .bool false) (res_t rfl a6 _) ?_)
 refine ⟨?_, aQ⟩
 show Ending.returned (.bool false) = Ending.returned (.bool (equalM a b))
 first | rfl | (simp only [equalM, equalA, aa, bsm] <;> rfl) | (exfalso; omega)
 have aw := oF aa
 rcases bc (decide ((asM b).k = 2)) with ab | ab
 have ax := oT ab
 refine wp_g0 (.replicate 16 true) [] 24
   [ve (nv (asM a)), vF, vT, vT, ve (nv (asM b)), vT, vF, vF, vF, vU, vU, vU, vU, vU, vF, vF] ac (.eq (.eq (.eq (.eq (.eq (.eq (.eq (.eq (.eq (.eq (.eq (.eq (.eq (.eq (.eq (.eq (.nil))))))))))))))))) ?_ ?_
 exact .t (fun _ w hn k => ⟨_, v_load rfl (k.fx 2 af) (l_two Tryd.isAgg23 Tryd.sizeOf23 (ae.new_ hn)), rfl⟩) <| .o1 (ck rfl rfl rfl (fun _ w hn k => ⟨#[nv (asM a)], args1 (k.eq1 0 9 rfl), fun _ => by kernel_rfl, isNaN_c (asM a) _ ⟩) fun _ => congrArg Value.bool aa) <| .t (fun _ w hn k => ⟨_, v_not rfl (k.eq1 1 10 rfl), rfl⟩) <| .m (fun k => k.eq1 2 11 rfl) <| .g (fun k => k.eq1 3 12 rfl) (fun _ w hn k => ⟨_, v_load rfl (k.fx 3 al) (l_two Tryd.isAgg23 Tryd.sizeOf23 (ah.new_ hn)), rfl⟩) <| .o1 (cg rfl rfl rfl (fun _ _ k => k.eq1 3 12 rfl) rfl (fun _ w hn k => ⟨#[nv (asM b)], args1 (k.eq1 4 13 rfl), fun _ => by kernel_rfl, isNaN_c (asM b) _ ⟩) fun _ => congrArg Value.bool ab) <| .g (fun k => k.eq1 3 12 rfl) (fun _ w hn k => ⟨_, v_not rfl (k.eq1 5 14 rfl), rfl⟩) <| .t (fun _ w hn k => ⟨_, v_pickT rfl (k.eq1 3 12 rfl) (k.eq1 6 15 rfl), rfl⟩) <| .m (fun k => k.eq1 7 16 rfl) <| .s (fun k => k.eq1 8 17 rfl) <| .s (fun k => k.eq1 8 17 rfl) <| .s (fun k => k.eq1 8 17 rfl) <| .s (fun k => k.eq1 8 17 rfl) <| .s (fun k => k.eq1 8 17 rfl) <| .t (fun _ w hn k => ⟨_, v_pickF rfl (k.eq1 8 17 rfl) rfl, rfl⟩) <| .a (fun k => k.eq1 14 23 rfl) .nil
 refine aftI ac ag ai fun bt bu be aS aT bf aU => ?_
 have a7 := aU.ge 15 4 rfl
 refine st_nil (aj _ _ ?_)
 refine wp_ret (ret_k aS (v := .bool false) (res_t rfl a7 _) ?_)
 refine ⟨?_, aT⟩
 show Ending.returned (.bool false) = Ending.returned (.bool (equalM a b))
 first | rfl | (simp only [equalM, equalA, aa, ab, bsm] <;> rfl) | (exfalso; omega)
 have ax := oF ab
 refine wp_g0 (.replicate 16 true) [] 24
   [ve (nv (asM a)), vF, vT, vT, ve (nv (asM b)), vF, vT, vT, vT, ve (nv (asM a)), ve (iv (rankM (asM a))), ve (nv (asM b)), ve (iv (rankM (asM b))), ve (.bool (decide ((rankM (asM a)) = (rankM (asM b))))), ve (.bool (decide ((rankM (asM a)) = (rankM (asM b))))), ve (.bool (decide ((rankM (asM a)) = (rankM (asM b)))))] ac (.eq (.eq (.eq (.eq (.eq (.eq (.eq (.eq (.eq (.eq (.eq (.eq (.eq (.eq (.eq (.eq (.nil))))))))))))))))) ?_ ?_
 exact .t (fun _ w hn k => ⟨_, v_load rfl (k.fx 2 af) (l_two Tryd.isAgg23 Tryd.sizeOf23 (ae.new_ hn)), rfl⟩) <| .o1 (ck rfl rfl rfl (fun _ w hn k => ⟨#[nv (asM a)], args1 (k.eq1 0 9 rfl), fun _ => by kernel_rfl, isNaN_c (asM a) _ ⟩) fun _ => congrArg Value.bool aa) <| .t (fun _ w hn k => ⟨_, v_not rfl (k.eq1 1 10 rfl), rfl⟩) <| .m (fun k => k.eq1 2 11 rfl) <| .g (fun k => k.eq1 3 12 rfl) (fun _ w hn k => ⟨_, v_load rfl (k.fx 3 al) (l_two Tryd.isAgg23 Tryd.sizeOf23 (ah.new_ hn)), rfl⟩) <| .o1 (cg rfl rfl rfl (fun _ _ k => k.eq1 3 12 rfl) rfl (fun _ w hn k => ⟨#[nv (asM b)], args1 (k.eq1 4 13 rfl), fun _ => by kernel_rfl, isNaN_c (asM b) _ ⟩) fun _ => congrArg Value.bool ab) <| .g (fun k => k.eq1 3 12 rfl) (fun _ w hn k => ⟨_, v_not rfl (k.eq1 5 14 rfl), rfl⟩) <| .t (fun _ w hn k => ⟨_, v_pickT rfl (k.eq1 3 12 rfl) (k.eq1 6 15 rfl), rfl⟩) <| .m (fun k => k.eq1 7 16 rfl) <| .g (fun k => k.eq1 8 17 rfl) (fun _ w hn k => ⟨_, v_load rfl (k.fx 2 af) (l_two Tryd.isAgg23 Tryd.sizeOf23 (ae.new_ hn)), rfl⟩) <| .o1 (cg rfl rfl rfl (fun _ _ k => k.eq1 8 17 rfl) rfl (fun _ w hn k => ⟨#[nv (asM a)], args1 (k.eq1 9 18 rfl), fun _ => by kernel_rfl, rank_c (asM a) _ ⟩) fun _ => rfl) <| .g (fun k => k.eq1 8 17 rfl) (fun _ w hn k => ⟨_, v_load rfl (k.fx 3 al) (l_two Tryd.isAgg23 Tryd.sizeOf23 (ah.new_ hn)), rfl⟩) <| .o1 (cg rfl rfl rfl (fun _ _ k => k.eq1 8 17 rfl) rfl (fun _ w hn k => ⟨#[nv (asM b)], args1 (k.eq1 11 20 rfl), fun _ => by kernel_rfl, rank_c (asM b) _ ⟩) fun _ => rfl) <| .g (fun k => k.eq1 8 17 rfl) (fun _ w hn k => ⟨_, v_bin rfl (k.eq1 10 19 rfl) (k.eq1 12 21 rfl) (fun _ => rfl) (r_eql rfl), rfl⟩) <| .t (fun _ w hn k => ⟨_, v_pickT rfl (k.eq1 8 17 rfl) (k.eq1 13 22 rfl), rfl⟩) <| .a (fun k => k.eq1 14 23 rfl) .nil
 refine aftI ac ag ai fun bv bw bg aV aW bh aX => ?_
 have a8 := aX.ge 15 4 rfl
 refine st_nil (aj _ _ ?_)
 refine wp_ret (ret_k aV (v := .bool (decide ((rankM (asM a)) = (rankM (asM b))))) (res_t rfl a8 _) ?_)
 refine ⟨?_, aW⟩
 show Ending.returned (.bool (decide ((rankM (asM a)) = (rankM (asM b))))) = Ending.returned (.bool (equalM a b))
 first | rfl | (simp only [equalM, equalA, aa, ab, bsm] <;> rfl) | (exfalso; omega)
theorem nneg_c (a : Nm) (w : World) : Calls Tryd.prog 65 #[nv a] w (IsRet (nv (negM a)) w) := by
 refine enter_abs Tryd.func65 rfl fun a0 ar dq hp => ?_
 have ar : a0.tmps.size = 28 := ar
 have aR : New w w := Upd.refl _ _
 have hp0 : a0.eval (.tmp 0) = nv a := hp 0 _ rfl
 refine wp_seq_k fun K1 dr => ?_
 refine wp_g [true, true] [] [] 28
   [IsNew w 23 [iv a.k, iv a.n], IsNew w 23 [iv 0, iv 0]]
   [0, 1] (newsCons (fun v w h => IsNew.old h) (newsCons (fun v w h => IsNew.old h) newsNil)) ar (.nw (.nw (.nil))) ?_ (fun i h => by cases h) ?_
 exact .o2 (step_allocN (cs := [iv a.k, iv a.n]) (t := 23) rfl (noG rfl) (fun _ w hn k => v_box rfl (k.fx 0 hp0) (fun w => rfl)) (fun q _ hq hb => ⟨q, rfl, hq, hb⟩)) <| .o2 (step_allocN (cs := [iv 0, iv 0]) (t := 23) rfl (noG rfl) (fun _ w hn k => rfl) (fun q _ hq hb => ⟨q, rfl, hq, hb⟩)) .nil
 refine aftI ar dq aR fun a2 w3 cD ds cL el aS => ?_
 obtain ⟨q9, h8, cM, aT⟩ : IsNew _ _ _ _ _ := aS.got 0 1 rfl (by kernel_rfl)
 obtain ⟨dt, cE, cN, cO⟩ : IsNew _ _ _ _ _ := aS.got 1 2 rfl (by kernel_rfl)
 have hne16 : q9 ≠ dt := aS.ne 0 1 1 2 h8 cE
 have dJ := Nat.le_trans aR.size cM
 have dK := Nat.le_trans aR.size cN
 refine st_nil (dr _ _ (wp_seq_k fun em cP => ?_))
 refine wp_g0 [true, true, false] [(2, false)] 28
   [ve (nv a), ve (nv (asM a)), vt] cD (.eq (.eq (.tt (.nil)))) ?_ ?_
 exact .t (fun _ w hn k => ⟨_, v_load rfl (k.fx 1 h8) (l_two Tryd.isAgg23 Tryd.sizeOf23 (aT.new_ hn)), rfl⟩) <| .o1 (ck rfl rfl rfl (fun _ w hn k => ⟨#[nv a], args1 (k.eq1 0 3 rfl), fun _ => by kernel_rfl, as_c a _ ⟩) fun _ => rfl) <| .off .nil
 refine aftI cD ds cL fun en eo aU cQ cR aV ap => ?_
 have aW := ap.fx 1 h8
 have du := ap.fx 2 cE
 have dv := ap.ge 1 4 rfl
 have cS := aT.new_ aV
 have cT := cO.new_ aV
 have hbd_a := as_bd a
 obtain ⟨ep, -, bD, aX, cU, cV⟩ := s_two (v0 := iv ((asM a).k)) (v1 := iv ((asM a).n)) Tryd.sizeOf23 rfl rfl rfl cS
 refine st_act rfl rfl fun er cW => a_store' rfl aW dv bD (cW _ _ trivial ?_)
 have cX := cV _ _ _ (fun h => hne16 h.symm) cT
 have cY := cR.trans cU (fun _ h b => by subst b; omega)
 refine st_nil (cP _ _ (wp_seq_k fun es cZ => ?_))
 refine wp_seq_k fun et c0 => ?_
 refine wp_g0 [true, true] [] 28
   [ve (pv q9), ve (iv ((asM a).k))] aU (.eq (.eq (.nil))) ?_ ?_
 exact .f (fun k => k.fx 1 aW) <| .t (fun _ w hn k => ⟨_, v_load rfl (k.eq1 0 5 rfl) (l_one Tryd.isAgg3 ((aX.new_ hn).cell 0)), rfl⟩) .nil
 refine aftI aU cQ cY fun eu ev aY c1 c2 aZ aq => ?_
 have dw := aq.fx 1 aW
 have dx := aq.fx 2 du
 have cF := aq.ge 1 6 rfl
 have c3 := aX.new_ aZ
 have c4 := cX.new_ aZ
 refine st_nil (c0 _ _ ?_)
 refine wp_block ?_
 refine wp_seq_k fun ew c5 => ?_
 refine wp_g0 [true, true] [] 28
   [ve (.bool (decide (((asM a).k) = 2))), ve (.bool (decide (((asM a).k) = 2)))] aY (.eq (.eq (.nil))) ?_ ?_
 exact .t (fun _ w hn k => ⟨_, v_bin rfl (k.fx 6 cF) rfl (fun _ => rfl) (r_eql rfl), rfl⟩) <| .a (fun k => k.eq1 0 8 rfl) .nil
 refine aftI aY c1 c2 fun ex ey aj a1 a3 a4 ak => ?_
 have cG := ak.fx 1 dw
 have cH := ak.fx 2 dx
 have cI := ak.fx 6 cF
 have cJ := ak.ge 1 7 rfl
 have a5 := c3.new_ a4
 have a6 := c4.new_ a4
 refine st_nil (c5 _ _ ?_)
 rcases bc (decide (((asM a).k) = 2)) with ac | ac
 have bE := oT ac
 have c6 := hB cJ ac
 refine wp_cond_true c6 ?_
 refine wp_seq_k fun ez c7 => ?_
 refine wp_g0 [true, false] [(1, false)] 28
   [ve (nv (asM a)), vt] aj (.eq (.tt (.nil))) ?_ ?_
 exact .t (fun _ w hn k => ⟨_, v_load rfl (k.fx 1 cG) (l_two Tryd.isAgg23 Tryd.sizeOf23 (a5.new_ hn)), rfl⟩) <| .off .nil
 refine aftI aj a1 a3 fun eA eB dL c8 c9 da a7 => ?_
 have cK := a7.fx 2 cH
 have dy := a7.ge 0 9 rfl
 have db := a6.new_ da
 obtain ⟨eC, -, bF, dc, dd, dM⟩ := s_two (v0 := iv ((asM a).k)) (v1 := iv ((asM a).n)) Tryd.sizeOf23 rfl rfl rfl db
 refine st_act rfl rfl fun eD de => a_store' rfl cK dy bF (de _ _ trivial ?_)
 have df := c9.trans dd (fun _ h b => by subst b; omega)
 refine st_nil (c7 _ _ ?_)
 refine wp_ret (ret_k c8 (v := nv (asM a)) (res_c rfl cK (l_two Tryd.isAgg23 Tryd.sizeOf23 dc)) ?_)
 refine ⟨?_, df⟩
 show Ending.returned (nv (asM a)) = Ending.returned (nv (negM a))
 first | rfl | (simp only [negM, negA, infM, ac, bsm] <;> rfl) | (exfalso; omega)
 have bE := oF ac
 have dg := hB cJ ac
 refine wp_cond_false dg ?_
 refine wp_seq_k fun eE a8 => ?_
 refine wp_seq_k fun eF dh => ?_
 refine wp_g0 [true, true] [] 28
   [ve (.bool (decide (((asM a).k) = 3))), ve (.bool (decide (((asM a).k) = 3)))] aj (.eq (.eq (.nil))) ?_ ?_
 exact .t (fun _ w hn k => ⟨_, v_bin rfl (k.fx 6 cI) rfl (fun _ => rfl) (r_eql rfl), rfl⟩) <| .a (fun k => k.eq1 0 11 rfl) .nil
 refine aftI aj a1 a3 fun eG eH al a9 au ba am => ?_
 have bb := am.fx 1 cG
 have bd := am.fx 2 cH
 have be := am.fx 6 cI
 have bf := am.ge 1 10 rfl
 have av := a5.new_ ba
 have aw := a6.new_ ba
 refine st_nil (dh _ _ ?_)
 rcases bc (decide (((asM a).k) = 3)) with aa | aa
 have bg := oT aa
 have ax := hB bf aa
 refine wp_cond_true ax ?_
 refine wp_skip ?_
 refine a8 _ _ ?_
 refine wp_cond_true ax ?_
 refine wp_seq_k fun dN bG => ?_
 refine wp_g0 [true, true, true, true, false] [(4, false)] 28
   [ve (pv q9), ve (iv ((asM a).k)), vT, ve (nv (infM true)), vt] al (.eq (.eq (.eq (.eq (.tt (.nil)))))) ?_ ?_
 exact .f (fun k => k.fx 1 bb) <| .t (fun _ w hn k => ⟨_, v_load rfl (k.eq1 0 13 rfl) (l_one Tryd.isAgg3 ((av.new_ hn).cell 0)), rfl⟩) <| .t (fun _ w hn k => ⟨_, v_bin rfl (k.eq1 1 14 rfl) rfl (fun _ => rfl) (r_eql aa), rfl⟩) <| .o1 (ck rfl rfl rfl (fun _ w hn k => ⟨#[.bool true], args1 (k.eq1 2 15 rfl), fun _ => by kernel_rfl, inf_c true _ ⟩) fun _ => rfl) <| .off .nil
 refine aftI al a9 au fun dO dP dz bH bI bJ ay => ?_
 have bh := ay.fx 2 bd
 have di := ay.ge 3 16 rfl
 have bK := aw.new_ bJ
 obtain ⟨dQ, -, bi, bL, bM, dA⟩ := s_two (v0 := iv ((infM true).k)) (v1 := iv ((infM true).n)) Tryd.sizeOf23 rfl rfl rfl bK
 refine st_act rfl rfl fun dR bN => a_store' rfl bh di bi (bN _ _ trivial ?_)
 have bO := bI.trans bM (fun _ h b => by subst b; omega)
 refine st_nil (bG _ _ ?_)
 refine wp_ret (ret_k bH (v := nv (infM true)) (res_c rfl bh (l_two Tryd.isAgg23 Tryd.sizeOf23 bL)) ?_)
 refine ⟨?_, bO⟩
 show Ending.returned (nv (infM true)) = Ending.returned (nv (negM a))
 first | rfl | (simp only [negM, negA, infM, ac, aa, bsm] <;> rfl) | (exfalso; omega)
 have bg := oF aa
 have bP := hB bf aa
 refine wp_cond_false bP ?_
 refine wp_g0 [true, true] [] 28
   [ve (.bool (decide (((asM a).k) = 4))), ve (.bool (decide (((asM a).k) = 4)))] al (.eq (.eq (.nil))) ?_ ?_
 exact .t (fun _ w hn k => ⟨_, v_bin rfl (k.fx 6 be) rfl (fun _ => rfl) (r_eql rfl), rfl⟩) <| .a (fun k => k.eq1 0 12 rfl) .nil
 refine aftI al a9 au fun dS dT af az aA aB ag => ?_
 have bj := ag.fx 1 bb
 have bk := ag.fx 2 bd
 have dj := ag.fx 6 be
 have bl := ag.ge 1 10 rfl
 have aC := av.new_ aB
 have aD := aw.new_ aB
 refine st_nil (a8 _ _ ?_)
 rcases bc (decide (((asM a).k) = 4)) with ab | ab
 have bm := oT ab
 have bQ := hB bl ab
 refine wp_cond_true bQ ?_
 refine wp_seq_k fun dU bR => ?_
 refine wp_g0 [true, true, true, true, false] [(4, false)] 28
   [ve (pv q9), ve (iv ((asM a).k)), vF, ve (nv (infM false)), vt] af (.eq (.eq (.eq (.eq (.tt (.nil)))))) ?_ ?_
 exact .f (fun k => k.fx 1 bj) <| .t (fun _ w hn k => ⟨_, v_load rfl (k.eq1 0 13 rfl) (l_one Tryd.isAgg3 ((aC.new_ hn).cell 0)), rfl⟩) <| .t (fun _ w hn k => ⟨_, v_bin rfl (k.eq1 1 14 rfl) rfl (fun _ => rfl) (r_eql aa), rfl⟩) <| .o1 (ck rfl rfl rfl (fun _ w hn k => ⟨#[.bool false], args1 (k.eq1 2 15 rfl), fun _ => by kernel_rfl, inf_c false _ ⟩) fun _ => rfl) <| .off .nil
 refine aftI af az aA fun dV dW dB bS bT bU aE => ?_
 have bn := aE.fx 2 bk
 have dk := aE.ge 3 16 rfl
 have bV := aD.new_ bU
 obtain ⟨dX, -, bo, bW, bX, dC⟩ := s_two (v0 := iv ((infM false).k)) (v1 := iv ((infM false).n)) Tryd.sizeOf23 rfl rfl rfl bV
 refine st_act rfl rfl fun dY bY => a_store' rfl bn dk bo (bY _ _ trivial ?_)
 have bZ := bT.trans bX (fun _ h b => by subst b; omega)
 refine st_nil (bR _ _ ?_)
 refine wp_ret (ret_k bS (v := nv (infM false)) (res_c rfl bn (l_two Tryd.isAgg23 Tryd.sizeOf23 bW)) ?_)
 refine ⟨?_, bZ⟩
 show Ending.returned (nv (infM false)) = Ending.returned (nv (negM a))
 first | rfl | (simp only [negM, negA, infM, ac, aa, ab, bsm] <;> rfl) | (exfalso; omega)
 have bm := oF ab
 have b0 := hB bl ab
 refine wp_cond_false b0 ?_
 refine wp_seq_k fun dZ b1 => ?_
 refine wp_g0 [true, true] [] 28
   [ve (.bool (decide (((asM a).k) = 1))), ve (.bool (decide (((asM a).k) = 1)))] af (.eq (.eq (.nil))) ?_ ?_
 exact .t (fun _ w hn k => ⟨_, v_bin rfl (k.fx 6 dj) rfl (fun _ => rfl) (r_eql rfl), rfl⟩) <| .a (fun k => k.eq1 0 18 rfl) .nil
 refine aftI af az aA fun d0 d1 ah aF aG aH an => ?_
 have bp := an.fx 1 bj
 have bq := an.fx 2 bk
 have br := an.ge 1 17 rfl
 have aI := aC.new_ aH
 have aJ := aD.new_ aH
 refine st_nil (b1 _ _ ?_)
 rcases bc (decide (((asM a).k) = 1)) with ad | ad
 have bs := oT ad
 have b2 := hB br ad
 refine wp_cond_true b2 ?_
 refine wp_seq_k fun d2 b3 => ?_
 refine wp_g0 [true, false] [(1, false)] 28
   [ve (nv (Nm.mk 0 0)), vt] ah (.eq (.tt (.nil))) ?_ ?_
 exact .o1 (ck rfl rfl rfl (fun _ w hn k => ⟨#[iv 0], args1 rfl, fun _ => by kernel_rfl, whole_c 0 _ ⟩) fun _ => rfl) <| .off .nil
 refine aftI ah aF aG fun d3 d4 dD b4 b5 b6 aK => ?_
 have bt := aK.fx 2 bq
 have dl := aK.ge 0 19 rfl
 have b7 := aJ.new_ b6
 obtain ⟨d5, -, bu, b8, b9, dE⟩ := s_two (v0 := iv 0) (v1 := iv 0) Tryd.sizeOf23 rfl rfl rfl b7
 refine st_act rfl rfl fun d6 ca => a_store' rfl bt dl bu (ca _ _ trivial ?_)
 have cb := b5.trans b9 (fun _ h b => by subst b; omega)
 refine st_nil (b3 _ _ ?_)
 refine wp_ret (ret_k b4 (v := nv (Nm.mk 0 0)) (res_c rfl bt (l_two Tryd.isAgg23 Tryd.sizeOf23 b8)) ?_)
 refine ⟨?_, cb⟩
 show Ending.returned (nv (Nm.mk 0 0)) = Ending.returned (nv (negM a))
 first | rfl | (simp only [negM, negA, infM, ac, aa, ab, ad, bsm] <;> rfl) | (exfalso; omega)
 have bs := oF ad
 have cc := hB br ad
 refine wp_cond_false cc ?_
 refine wp_skip ?_
 refine cZ _ _ ?_
 refine wp_seq_k fun d7 cd => ?_
 refine wp_seq_k fun d8 ce => ?_
 refine wp_g0 [true, true, true] [] 28
   [ve (.pointer (some ⟨q9, 1, none⟩)), ve (iv ((asM a).n)), ve (.bool (decide (((asM a).n) = 0)))] ah (.eq (.eq (.eq (.nil)))) ?_ ?_
 exact .f (fun k => k.fx 1 bp) <| .t (fun _ w hn k => ⟨_, v_load rfl (k.eq1 0 20 rfl) (l_one Tryd.isAgg3 ((aI.new_ hn).cell 1)), rfl⟩) <| .t (fun _ w hn k => ⟨_, v_bin rfl (k.eq1 1 21 rfl) rfl (fun _ => rfl) (r_eql rfl), rfl⟩) .nil
 refine aftI ah aF aG fun d9 ea ai aL aM aN ao => ?_
 have dm := ao.fx 1 bp
 have bv := ao.fx 2 bq
 have bw := ao.ge 2 22 rfl
 have cf := aI.new_ aN
 have aO := aJ.new_ aN
 refine st_nil (ce _ _ ?_)
 rcases bc (decide (((asM a).n) = 0)) with ae | ae
 have bx := oT ae
 have ch := hB bw ae
 refine wp_cond_true ch ?_
 refine wp_seq_k fun eb ci => ?_
 refine wp_g0 [true, false] [(1, false)] 28
   [ve (nv (noughtM true)), vt] ai (.eq (.tt (.nil))) ?_ ?_
 exact .o1 (ck rfl rfl rfl (fun _ w hn k => ⟨#[.bool true], args1 rfl, fun _ => by kernel_rfl, nought_c true _ ⟩) fun _ => rfl) <| .off .nil
 refine aftI ai aL aM fun ec ed dF cj cl cm aP => ?_
 have bz := aP.fx 2 bv
 have dn := aP.ge 0 23 rfl
 have cn := aO.new_ cm
 obtain ⟨ee, -, bA, co, cp, dG⟩ := s_two (v0 := iv ((noughtM true).k)) (v1 := iv ((noughtM true).n)) Tryd.sizeOf23 rfl rfl rfl cn
 refine st_act rfl rfl fun ef cq => a_store' rfl bz dn bA (cq _ _ trivial ?_)
 have cr := cl.trans cp (fun _ h b => by subst b; omega)
 refine st_nil (ci _ _ ?_)
 refine wp_ret (ret_k cj (v := nv (noughtM true)) (res_c rfl bz (l_two Tryd.isAgg23 Tryd.sizeOf23 co)) ?_)
 refine ⟨?_, cr⟩
 show Ending.returned (nv (noughtM true)) = Ending.returned (nv (negM a))
 first | rfl | (simp only [negM, negA, infM, ac, aa, ab, ad, ae, bsm] <;> rfl) | (exfalso; omega)
 have bx := oF ae
 have ct := hB bw ae
 refine wp_cond_false ct ?_
 refine wp_skip ?_
 refine cd _ _ ?_
 refine wp_seq_k fun eg cu => ?_
 refine wp_g0 [true, true, true, true, false] [(4, false)] 28
   [ve (.pointer (some ⟨q9, 1, none⟩)), ve (iv ((asM a).n)), ve (iv (-((asM a).n))), ve (nv (Nm.mk 0 (-((asM a).n)))), vt] ai (.eq (.eq (.eq (.eq (.tt (.nil)))))) ?_ ?_
 exact .f (fun k => k.fx 1 dm) <| .t (fun _ w hn k => ⟨_, v_load rfl (k.eq1 0 24 rfl) (l_one Tryd.isAgg3 ((cf.new_ hn).cell 1)), rfl⟩) <| .t (fun _ w hn k => ⟨_, v_neg rfl (k.eq1 1 25 rfl) (by omega), rfl⟩) <| .o1 (ck rfl rfl rfl (fun _ w hn k => ⟨#[iv (-((asM a).n))], args1 (k.eq1 2 26 rfl), fun _ => by kernel_rfl, whole_c (-((asM a).n)) _ ⟩) fun _ => rfl) <| .off .nil
 refine aftI ai aL aM fun eh ei dH cv cw cx aQ => ?_
 have bB := aQ.fx 2 bv
 have dp := aQ.ge 3 27 rfl
 have cy := aO.new_ cx
 obtain ⟨ej, -, bC, cz, cA, dI⟩ := s_two (v0 := iv 0) (v1 := iv (-((asM a).n))) Tryd.sizeOf23 rfl rfl rfl cy
 refine st_act rfl rfl fun ek cB => a_store' rfl bB dp bC (cB _ _ trivial ?_)
 have cC := cw.trans cA (fun _ h b => by subst b; omega)
 refine st_nil (cu _ _ ?_)
 refine wp_ret (ret_k cv (v := nv (Nm.mk 0 (-((asM a).n)))) (res_c rfl bB (l_two Tryd.isAgg23 Tryd.sizeOf23 cz)) ?_)
 refine ⟨?_, cC⟩
 show Ending.returned (nv (Nm.mk 0 (-((asM a).n)))) = Ending.returned (nv (negM a))
 first | rfl | (simp only [negM, negA, infM, ac, aa, ab, ad, ae, bsm] <;> rfl) | (exfalso; omega)
theorem nwhole_c (a : Nm) (w : World) : Calls Tryd.prog 66 #[nv a] w (IsRet (nv (wholeM a)) w) := by
 refine enter_abs Tryd.func66 rfl fun a0 aj bF hp => ?_
 have aj : a0.tmps.size = 15 := aj
 have al : New w w := Upd.refl _ _
 have hp0 : a0.eval (.tmp 0) = nv a := hp 0 _ rfl
 refine wp_seq_k fun K1 bG => ?_
 refine wp_g [true, true] [] [] 15
   [IsNew w 23 [iv a.k, iv a.n], IsNew w 23 [iv 0, iv 0]]
   [0, 1] (newsCons (fun v w h => IsNew.old h) (newsCons (fun v w h => IsNew.old h) newsNil)) aj (.nw (.nw (.nil))) ?_ (fun i h => by cases h) ?_
 exact .o2 (step_allocN (cs := [iv a.k, iv a.n]) (t := 23) rfl (noG rfl) (fun _ w hn k => v_box rfl (k.fx 0 hp0) (fun w => rfl)) (fun q _ hq hb => ⟨q, rfl, hq, hb⟩)) <| .o2 (step_allocN (cs := [iv 0, iv 0]) (t := 23) rfl (noG rfl) (fun _ w hn k => rfl) (fun q _ hq hb => ⟨q, rfl, hq, hb⟩)) .nil
 refine aftI aj bF al fun a2 w3 aZ bH a8 b5 am => ?_
 obtain ⟨q9, h8, a9, an⟩ : IsNew _ _ _ _ _ := am.got 0 1 rfl (by kernel_rfl)
 obtain ⟨bI, a1, ba, bb⟩ : IsNew _ _ _ _ _ := am.got 1 2 rfl (by kernel_rfl)
 have hne16 : q9 ≠ bI := am.ne 0 1 1 2 h8 a1
 have bS := Nat.le_trans al.size a9
 have bT := Nat.le_trans al.size ba
 refine st_nil (bG _ _ (wp_seq_k fun b6 bd => ?_))
 refine wp_seq_k fun b7 be => ?_
 refine wp_g0 [true, true, false] [(2, false)] 15
   [ve (nv a), ve (nv (asM a)), vt] aZ (.eq (.eq (.tt (.nil)))) ?_ ?_
 exact .t (fun _ w hn k => ⟨_, v_load rfl (k.fx 1 h8) (l_two Tryd.isAgg23 Tryd.sizeOf23 (an.new_ hn)), rfl⟩) <| .o1 (ck rfl rfl rfl (fun _ w hn k => ⟨#[nv a], args1 (k.eq1 0 3 rfl), fun _ => by kernel_rfl, as_c a _ ⟩) fun _ => rfl) <| .off .nil
 refine aftI aZ bH a8 fun b8 b9 ae ao bf ap ag => ?_
 have ad := ag.fx 1 h8
 have a3 := ag.fx 2 a1
 have bJ := ag.ge 1 4 rfl
 have bg := an.new_ ap
 have bh := bb.new_ ap
 have hbd_a := as_bd a
 obtain ⟨ca, -, aG, ac, bi, bj⟩ := s_two (v0 := iv ((asM a).k)) (v1 := iv ((asM a).n)) Tryd.sizeOf23 rfl rfl rfl bg
 refine st_act rfl rfl fun cb bk => a_store' rfl ad bJ aG (bk _ _ trivial ?_)
 have aq := bj _ _ _ (fun h => hne16 h.symm) bh
 have ar := bf.trans bi (fun _ h b => by subst b; omega)
 refine st_nil (be _ _ (wp_seq_k fun cc au => ?_))
 rcases bc (decide (((asM a).k) = 2)) with aa | aa
 have aH := oT aa
 refine wp_g0 (.replicate 8 true) [] 15
   [ve (pv q9), ve (iv ((asM a).k)), vT, vT, vU, vU, vU, vT] ae (.eq (.eq (.eq (.eq (.eq (.eq (.eq (.eq (.nil))))))))) ?_ ?_
 exact .f (fun k => k.fx 1 ad) <| .t (fun _ w hn k => ⟨_, v_load rfl (k.eq1 0 5 rfl) (l_one Tryd.isAgg3 ((ac.new_ hn).cell 0)), rfl⟩) <| .t (fun _ w hn k => ⟨_, v_bin rfl (k.eq1 1 6 rfl) rfl (fun _ => rfl) (r_eql aa), rfl⟩) <| .m (fun k => k.eq1 2 7 rfl) <| .s (fun k => k.eq1 3 8 rfl) <| .s (fun k => k.eq1 3 8 rfl) <| .s (fun k => k.eq1 3 8 rfl) <| .t (fun _ w hn k => ⟨_, v_pickT rfl (k.eq1 3 8 rfl) rfl, rfl⟩) .nil
 refine aftI ae ao ar fun cd ce av bl bm aw ah => ?_
 have cf := ah.fx 1 ad
 have bK := ah.fx 2 a3
 have bL := ah.ge 7 12 rfl
 have bU := ac.new_ aw
 have bn := aq.new_ aw
 refine st_nil (au _ _ ?_)
 refine wp_cond_true bL ?_
 refine wp_seq_k fun ch bo => ?_
 refine wp_g0 [true, false] [(1, false)] 15
   [ve (nv (Nm.mk 0 0)), vt] av (.eq (.tt (.nil))) ?_ ?_
 exact .o1 (ck rfl rfl rfl (fun _ w hn k => ⟨#[iv 0], args1 rfl, fun _ => by kernel_rfl, whole_c 0 _ ⟩) fun _ => rfl) <| .off .nil
 refine aftI av bl bm fun ci cj bV bp bq br ax => ?_
 have a4 := ax.fx 2 bK
 have bM := ax.ge 0 13 rfl
 have bs := bn.new_ br
 obtain ⟨cl, -, aI, bt, bu, bW⟩ := s_two (v0 := iv 0) (v1 := iv 0) Tryd.sizeOf23 rfl rfl rfl bs
 refine st_act rfl rfl fun cm bv => a_store' rfl a4 bM aI (bv _ _ trivial ?_)
 have bw := bq.trans bu (fun _ h b => by subst b; omega)
 refine st_nil (bo _ _ ?_)
 refine wp_ret (ret_k bp (v := nv (Nm.mk 0 0)) (res_c rfl a4 (l_two Tryd.isAgg23 Tryd.sizeOf23 bt)) ?_)
 refine ⟨?_, bw⟩
 show Ending.returned (nv (Nm.mk 0 0)) = Ending.returned (nv (wholeM a))
 first | rfl | (simp only [wholeM, aa, bsm] <;> rfl) | (exfalso; omega)
 have aH := oF aa
 refine wp_g0 (.replicate 8 true) [] 15
   [ve (pv q9), ve (iv ((asM a).k)), vF, vF, ve (pv q9), ve (iv ((asM a).k)), ve (.bool (decide (((asM a).k) = 1))), ve (.bool (decide (((asM a).k) = 1)))] ae (.eq (.eq (.eq (.eq (.eq (.eq (.eq (.eq (.nil))))))))) ?_ ?_
 exact .f (fun k => k.fx 1 ad) <| .t (fun _ w hn k => ⟨_, v_load rfl (k.eq1 0 5 rfl) (l_one Tryd.isAgg3 ((ac.new_ hn).cell 0)), rfl⟩) <| .t (fun _ w hn k => ⟨_, v_bin rfl (k.eq1 1 6 rfl) rfl (fun _ => rfl) (r_eql aa), rfl⟩) <| .m (fun k => k.eq1 2 7 rfl) <| .gf (fun k => k.eq1 3 8 rfl) (fun k => k.fx 1 ad) <| .g (fun k => k.eq1 3 8 rfl) (fun _ w hn k => ⟨_, v_load rfl (k.eq1 4 9 rfl) (l_one Tryd.isAgg3 ((ac.new_ hn).cell 0)), rfl⟩) <| .g (fun k => k.eq1 3 8 rfl) (fun _ w hn k => ⟨_, v_bin rfl (k.eq1 5 10 rfl) rfl (fun _ => rfl) (r_eql rfl), rfl⟩) <| .t (fun _ w hn k => ⟨_, v_pickF rfl (k.eq1 3 8 rfl) (k.eq1 6 11 rfl), rfl⟩) .nil
 refine aftI ae ao ar fun cn co af ay az aA ai => ?_
 have bN := ai.fx 1 ad
 have a5 := ai.fx 2 a3
 have a6 := ai.ge 7 12 rfl
 have bx := ac.new_ aA
 have aB := aq.new_ aA
 refine st_nil (au _ _ ?_)
 rcases bc (decide (((asM a).k) = 1)) with ab | ab
 have aJ := oT ab
 have bz := hB a6 ab
 refine wp_cond_true bz ?_
 refine wp_seq_k fun cp bA => ?_
 refine wp_g0 [true, false] [(1, false)] 15
   [ve (nv (Nm.mk 0 0)), vt] af (.eq (.tt (.nil))) ?_ ?_
 exact .o1 (ck rfl rfl rfl (fun _ w hn k => ⟨#[iv 0], args1 rfl, fun _ => by kernel_rfl, whole_c 0 _ ⟩) fun _ => rfl) <| .off .nil
 refine aftI af ay az fun cq cr bX bB aK bC aC => ?_
 have a7 := aC.fx 2 a5
 have bO := aC.ge 0 13 rfl
 have bD := aB.new_ bC
 obtain ⟨bY, -, aD, aL, aM, bP⟩ := s_two (v0 := iv 0) (v1 := iv 0) Tryd.sizeOf23 rfl rfl rfl bD
 refine st_act rfl rfl fun bZ aN => a_store' rfl a7 bO aD (aN _ _ trivial ?_)
 have aO := aK.trans aM (fun _ h b => by subst b; omega)
 refine st_nil (bA _ _ ?_)
 refine wp_ret (ret_k bB (v := nv (Nm.mk 0 0)) (res_c rfl a7 (l_two Tryd.isAgg23 Tryd.sizeOf23 aL)) ?_)
 refine ⟨?_, aO⟩
 show Ending.returned (nv (Nm.mk 0 0)) = Ending.returned (nv (wholeM a))
 first | rfl | (simp only [wholeM, aa, ab, bsm] <;> rfl) | (exfalso; omega)
 have aJ := oF ab
 have aP := hB a6 ab
 refine wp_cond_false aP ?_
 refine wp_skip ?_
 refine bd _ _ ?_
 refine wp_seq_k fun b0 aQ => ?_
 refine wp_g0 [true, false] [(1, false)] 15
   [ve (nv (asM a)), vt] af (.eq (.tt (.nil))) ?_ ?_
 exact .t (fun _ w hn k => ⟨_, v_load rfl (k.fx 1 bN) (l_two Tryd.isAgg23 Tryd.sizeOf23 (bx.new_ hn)), rfl⟩) <| .off .nil
 refine aftI af ay az fun b1 b2 bQ aR aS aT ak => ?_
 have aE := ak.fx 2 a5
 have bE := ak.ge 0 14 rfl
 have aU := aB.new_ aT
 obtain ⟨b3, -, aF, aV, aW, bR⟩ := s_two (v0 := iv ((asM a).k)) (v1 := iv ((asM a).n)) Tryd.sizeOf23 rfl rfl rfl aU
 refine st_act rfl rfl fun b4 aX => a_store' rfl aE bE aF (aX _ _ trivial ?_)
 have aY := aS.trans aW (fun _ h b => by subst b; omega)
 refine st_nil (aQ _ _ ?_)
 refine wp_ret (ret_k aR (v := nv (asM a)) (res_c rfl aE (l_two Tryd.isAgg23 Tryd.sizeOf23 aV)) ?_)
 refine ⟨?_, aY⟩
 show Ending.returned (nv (asM a)) = Ending.returned (nv (wholeM a))
 first | rfl | (simp only [wholeM, aa, ab, bsm] <;> rfl) | (exfalso; omega)
theorem nindex_c (a : Nm) (w : World) : Calls Tryd.prog 40 #[nv a] w (IsRet (.tuple #[iv ((indexM a).1), .bool ((indexM a).2)]) w) := by
 refine enter_abs Tryd.func40 rfl fun a0 ag a3 hp => ?_
 have ag : a0.tmps.size = 16 := ag
 have az : New w w := Upd.refl _ _
 have hp0 : a0.eval (.tmp 0) = nv a := hp 0 _ rfl
 refine wp_seq_k fun K1 a4 => ?_
 refine wp_g [true, true, true] [] [] 16
   [IsNew w 23 [iv a.k, iv a.n], ve (iv 0), vF]
   [0] (newsCons (fun v w h => IsNew.old h) newsNil) ag (.nw (.eq (.eq (.nil)))) ?_ (fun i h => by cases h) ?_
 exact .o2 (step_allocN (cs := [iv a.k, iv a.n]) (t := 23) rfl (noG rfl) (fun _ w hn k => v_box rfl (k.fx 0 hp0) (fun w => rfl)) (fun q _ hq hb => ⟨q, rfl, hq, hb⟩)) <| .t (fun _ w hn k => ⟨_, v_assign rfl rfl, rfl⟩) <| .t (fun _ w hn k => ⟨_, v_assign rfl rfl, rfl⟩) .nil
 refine aftI ag a3 az fun a2 w3 aA a5 aC bq a6 => ?_
 obtain ⟨q9, h8, aD, ah⟩ : IsNew _ _ _ _ _ := a6.got 0 1 rfl (by kernel_rfl)
 have bh := Nat.le_trans az.size aD
 refine st_nil (a4 _ _ (wp_seq_k fun br aE => ?_))
 refine wp_seq_k fun bs aF => ?_
 refine wp_g0 [true, true, false] [(2, false)] 16
   [ve (nv a), ve (nv (wholeM a)), vt] aA (.eq (.eq (.tt (.nil)))) ?_ ?_
 exact .t (fun _ w hn k => ⟨_, v_load rfl (k.fx 1 h8) (l_two Tryd.isAgg23 Tryd.sizeOf23 (ah.new_ hn)), rfl⟩) <| .o1 (ck rfl rfl rfl (fun _ w hn k => ⟨#[nv a], args1 (k.eq1 0 4 rfl), fun _ => by kernel_rfl, nwhole_c a _ ⟩) fun _ => rfl) <| .off .nil
 refine aftI aA a5 aC fun bt bu ae ai aG aH aj => ?_
 have ad := aj.fx 1 h8
 have a7 := aj.ge 1 5 rfl
 have aI := ah.new_ aH
 have hwb_a := whole_bd a
 obtain ⟨bv, -, aw, ac, aJ, bi⟩ := s_two (v0 := iv ((wholeM a).k)) (v1 := iv ((wholeM a).n)) Tryd.sizeOf23 rfl rfl rfl aI
 refine st_act rfl rfl fun bw aK => a_store' rfl ad a7 aw (aK _ _ trivial ?_)
 have ak := aG.trans aJ (fun _ h b => by subst b; omega)
 refine st_nil (aF _ _ (wp_seq_k fun bx al => ?_))
 rcases bc (decide (((wholeM a).k) = 0)) with aa | aa
 have ax := oT aa
 refine wp_g0 (.replicate 8 true) [] 16
   [ve (pv q9), ve (iv ((wholeM a).k)), vF, vF, ve (.pointer (some ⟨q9, 1, none⟩)), ve (iv ((wholeM a).n)), ve (.bool (decide (((wholeM a).n) < 0))), ve (.bool (decide (((wholeM a).n) < 0)))] ae (.eq (.eq (.eq (.eq (.eq (.eq (.eq (.eq (.nil))))))))) ?_ ?_
 exact .f (fun k => k.fx 1 ad) <| .t (fun _ w hn k => ⟨_, v_load rfl (k.eq1 0 6 rfl) (l_one Tryd.isAgg3 ((ac.new_ hn).cell 0)), rfl⟩) <| .t (fun _ w hn k => ⟨_, v_bin rfl (k.eq1 1 7 rfl) rfl (fun _ => rfl) (r_neq aa), rfl⟩) <| .m (fun k => k.eq1 2 8 rfl) <| .gf (fun k => k.eq1 3 9 rfl) (fun k => k.fx 1 ad) <| .g (fun k => k.eq1 3 9 rfl) (fun _ w hn k => ⟨_, v_load rfl (k.eq1 4 10 rfl) (l_one Tryd.isAgg3 ((ac.new_ hn).cell 1)), rfl⟩) <| .g (fun k => k.eq1 3 9 rfl) (fun _ w hn k => ⟨_, v_bin rfl (k.eq1 5 11 rfl) rfl (fun _ => rfl) (r_lssK rfl), rfl⟩) <| .t (fun _ w hn k => ⟨_, v_pickF rfl (k.eq1 3 9 rfl) (k.eq1 6 12 rfl), rfl⟩) .nil
 refine aftI ae ai ak fun bz bA af am an aL ao => ?_
 have a8 := ao.fx 1 ad
 have aB := ao.ge 7 13 rfl
 have aM := ac.new_ aL
 refine st_nil (al _ _ ?_)
 rcases bc (decide (((wholeM a).n) < 0)) with ab | ab
 have ay := oT ab
 have aN := hB aB ab
 refine wp_cond_true aN ?_
 refine wp_seq_k fun bB aO => ?_
 refine wp_g0 [true, true] [] 16
   [ve (iv 0), vF] af (.eq (.eq (.nil))) ?_ ?_
 exact .t (fun _ w hn k => ⟨_, v_assign rfl rfl, rfl⟩) <| .t (fun _ w hn k => ⟨_, v_assign rfl rfl, rfl⟩) .nil
 refine aftI af am an fun bC bD bj aP aQ bk ap => ?_
 have a9 := ap.ge 0 2 rfl
 have ba := ap.ge 1 3 rfl
 refine st_nil (aO _ _ ?_)
 refine wp_ret (ret_k aP (v := .tuple #[iv 0, .bool false]) (res_tt rfl a9 ba _) ?_)
 refine ⟨?_, aQ⟩
 show Ending.returned (.tuple #[iv 0, .bool false]) = Ending.returned (.tuple #[iv ((indexM a).1), .bool ((indexM a).2)])
 first | rfl | (simp only [indexM, aa, ab, bsm] <;> rfl) | (exfalso; omega)
 have ay := oF ab
 have aR := hB aB ab
 refine wp_cond_false aR ?_
 refine wp_skip ?_
 refine aE _ _ ?_
 refine wp_seq_k fun bE aS => ?_
 refine wp_g0 [true, true, true, true] [] 16
   [ve (.pointer (some ⟨q9, 1, none⟩)), ve (iv ((wholeM a).n)), ve (iv ((wholeM a).n)), vT] af (.eq (.eq (.eq (.eq (.nil))))) ?_ ?_
 exact .f (fun k => k.fx 1 a8) <| .t (fun _ w hn k => ⟨_, v_load rfl (k.eq1 0 14 rfl) (l_one Tryd.isAgg3 ((aM.new_ hn).cell 1)), rfl⟩) <| .a (fun k => k.eq1 1 15 rfl) <| .t (fun _ w hn k => ⟨_, v_assign rfl rfl, rfl⟩) .nil
 refine aftI af am an fun bF bG bl aT aU bm aq => ?_
 have bb := aq.ge 2 2 rfl
 have bd := aq.ge 3 3 rfl
 refine st_nil (aS _ _ ?_)
 refine wp_ret (ret_k aT (v := .tuple #[iv ((wholeM a).n), .bool true]) (res_tt rfl bb bd _) ?_)
 refine ⟨?_, aU⟩
 show Ending.returned (.tuple #[iv ((wholeM a).n), .bool true]) = Ending.returned (.tuple #[iv ((indexM a).1), .bool ((indexM a).2)])
 first | rfl | (simp only [indexM, aa, ab, bsm] <;> rfl) | (exfalso; omega)
 have ax := oF aa
 refine wp_g0 (.replicate 8 true) [] 16
   [ve (pv q9), ve (iv ((wholeM a).k)), vT, vT, vU, vU, vU, vT] ae (.eq (.eq (.eq (.eq (.eq (.eq (.eq (.eq (.nil))))))))) ?_ ?_
 exact .f (fun k => k.fx 1 ad) <| .t (fun _ w hn k => ⟨_, v_load rfl (k.eq1 0 6 rfl) (l_one Tryd.isAgg3 ((ac.new_ hn).cell 0)), rfl⟩) <| .t (fun _ w hn k => ⟨_, v_bin rfl (k.eq1 1 7 rfl) rfl (fun _ => rfl) (r_neq aa), rfl⟩) <| .m (fun k => k.eq1 2 8 rfl) <| .s (fun k => k.eq1 3 9 rfl) <| .s (fun k => k.eq1 3 9 rfl) <| .s (fun k => k.eq1 3 9 rfl) <| .t (fun _ w hn k => ⟨_, v_pickT rfl (k.eq1 3 9 rfl) rfl, rfl⟩) .nil
 refine aftI ae ai ak fun bH bI ar aV aW aX au => ?_
 have bJ := au.fx 1 ad
 have be := au.ge 7 13 rfl
 have bn := ac.new_ aX
 refine st_nil (al _ _ ?_)
 refine wp_cond_true be ?_
 refine wp_seq_k fun bK aY => ?_
 refine wp_g0 [true, true] [] 16
   [ve (iv 0), vF] ar (.eq (.eq (.nil))) ?_ ?_
 exact .t (fun _ w hn k => ⟨_, v_assign rfl rfl, rfl⟩) <| .t (fun _ w hn k => ⟨_, v_assign rfl rfl, rfl⟩) .nil
 refine aftI ar aV aW fun bL bM bo aZ a1 bp av => ?_
 have bf := av.ge 0 2 rfl
 have bg := av.ge 1 3 rfl
 refine st_nil (aY _ _ ?_)
 refine wp_ret (ret_k aZ (v := .tuple #[iv 0, .bool false]) (res_tt rfl bf bg _) ?_)
 refine ⟨?_, a1⟩
 show Ending.returned (.tuple #[iv 0, .bool false]) = Ending.returned (.tuple #[iv ((indexM a).1), .bool ((indexM a).2)])
 first | rfl | (simp only [indexM, aa, bsm] <;> rfl) | (exfalso; omega)
def btrim_c_P (Am : Option Addr) (m : List Nat) (cm : Nat) (w : World) (en : Ending) (w' : World) : Prop := ∃ (Ar0 : Option Addr) (cr0 : Nat), en = .returned (sv Ar0 (canon (val m)) cr0) ∧ SRow w' .u32 Ar0 (canon (val m)) cr0 ∧ New w w'
theorem btrim_c (Am : Option Addr) (m : List Nat) (cm : Nat) (w : World) (hrm : SRow w .u32 Am m cm) (hl : Limbs m) : Calls Tryd.prog 55 #[sv Am m cm] w (btrim_c_P Am m cm w) := by
 refine enter_abs Tryd.func55 rfl fun a0 al a9 hp => ?_
 have al : a0.tmps.size = 21 := al
 have ba : New w w := Upd.refl _ _
 have hp0 : a0.eval (.tmp 0) = sv Am m cm := hp 0 _ rfl
 have hmx := hrm.max
 refine wp_seq_k fun K1 bb => ?_
 refine wp_g0 [true] [] 21
   [ve (sv none ([]) 0)] al (.eq (.nil)) ?_ ?_
 exact .t (fun _ w hn k => ⟨_, v_assign rfl rfl, rfl⟩) .nil
 refine aftI al a9 ba fun a2 w3 bd be aF bs bf => ?_
 have h8 := bf.fx 0 hp0
 refine st_nil (bb _ _ (wp_seq_k fun bt ao => ?_))
 refine wp_block ?_
 refine wp_loopX (fun (mm : Nat) (aa : Act) (ww : World) => ∃ (kk : Nat) (A1 : Option Addr) (c1 : Nat), mm = kk ∧ aa.tmps.size = 21 ∧ aa.defers = [] ∧ New w ww ∧ aa.eval (.tmp 0) = sv A1 (m.take kk) c1 ∧ SRow ww .u32 A1 (m.take kk) c1 ∧ (kk ≤ m.length) ∧ (val (m.take kk) = val m)) (fun mm => mm) ⟨_, ⟨m.length, Am, cm, rfl, bd, be, aF, (h8.trans (by rw [List.take_length])), (by rw [List.take_length]; exact hrm.new_ aF), (Nat.le_refl _), (by rw [List.take_length])⟩⟩ ?_
 rintro mm bu bv ⟨kk, A1, c1, hmm, ah, ap, aq, af, aj, hk, hv⟩
 refine wp_seq_k fun bw aI => ?_
 refine wp_seq_k fun bx ar => ?_
 have htl : (m.take kk).length = kk := by rw [List.length_take]; omega
 rcases bc (decide (((m.take kk).length : Int) ≤ 0)) with ad | ad
 have aD := oT ad
 refine wp_g0 (.replicate 12 true) [] 21
   [ve (sv A1 (m.take kk) c1), ve (iv ((m.take kk).length : Int)), vF, vF, vU, vU, vU, vU, vU, vU, vU, vF] ah (.eq (.eq (.eq (.eq (.eq (.eq (.eq (.eq (.eq (.eq (.eq (.eq (.nil))))))))))))) ?_ ?_
 exact .m (fun k => k.fx 0 af) <| .t (fun _ w hn k => ⟨_, v_lenR rfl elW (k.eq1 0 3 rfl), rfl⟩) <| .t (fun _ w hn k => ⟨_, v_bin rfl (k.eq1 1 4 rfl) rfl (fun _ => rfl) (r_gtrK ad), rfl⟩) <| .m (fun k => k.eq1 2 5 rfl) <| .s (fun k => k.eq1 3 6 rfl) <| .s (fun k => k.eq1 3 6 rfl) <| .s (fun k => k.eq1 3 6 rfl) <| .s (fun k => k.eq1 3 6 rfl) <| .s (fun k => k.eq1 3 6 rfl) <| .s (fun k => k.eq1 3 6 rfl) <| .s (fun k => k.eq1 3 6 rfl) <| .t (fun _ w hn k => ⟨_, v_pickF rfl (k.eq1 3 6 rfl) rfl, rfl⟩) .nil
 refine aftI ah ap aq fun bz bA au aJ aK aL av => ?_
 have bg := av.fx 0 af
 have bh := av.ge 11 14 rfl
 have aM := aj.new_ aL
 refine st_nil (ar _ _ ?_)
 refine wp_cond_false bh ?_
 refine wp_exit ?_
 refine ao _ _ ?_
 refine wp_seq_k fun bB aN => ?_
 refine wp_g0 [true, true] [] 21
   [ve (sv A1 (m.take kk) c1), ve (sv A1 (m.take kk) c1)] au (.eq (.eq (.nil))) ?_ ?_
 exact .m (fun k => k.fx 0 bg) <| .a (fun k => k.eq1 0 20 rfl) .nil
 refine aftI au aJ aK fun bC bD bp aO aP aQ aR => ?_
 have bi := aR.ge 1 2 rfl
 have aS := aM.new_ aQ
 refine st_nil (aN _ _ ?_)
 refine wp_ret (ret_k aO (v := sv A1 (m.take kk) c1) (res_t rfl bi _) ?_)
 have hsp : m.take kk = canon (val m) := trim_end' hl hk hv (Or.inl (by omega))
 exact ⟨A1, c1, by rw [← hsp], by rw [← hsp]; exact aS, aP⟩
 have aD := oF ad
 refine wp_g0 (.replicate 12 true) [] 21
   [ve (sv A1 (m.take kk) c1), ve (iv ((m.take kk).length : Int)), vT, vT, ve (sv A1 (m.take kk) c1), ve (sv A1 (m.take kk) c1), ve (iv ((m.take kk).length : Int)), ve (iv (((m.take kk).length : Int) - 1)),
    (EP (.int .u32 (((m.take kk).getD ((((m.take kk).length : Int) - 1 : Int).toNat) 0 : Nat) : Int))), ve (.int .u32 (((m.take kk).getD ((((m.take kk).length : Int) - 1 : Int).toNat) 0 : Nat) : Int)), ve (.bool (decide ((((m.take kk).getD ((((m.take kk).length : Int) - 1 : Int).toNat) 0 : Nat) : Int) = 0))), ve (.bool (decide ((((m.take kk).getD ((((m.take kk).length : Int) - 1 : Int).toNat) 0 : Nat) : Int) = 0)))] ah (.eq (.eq (.eq (.eq (.eq (.eq (.eq (.eq (.cons (fun _ _ _ n ⟨_, _, e, h⟩ => ⟨_, _, e, h.new_ n⟩) (.eq (.eq (.eq (.nil))))))))))))) ?_ ?_
 refine .m (fun k => k.fx 0 af) <| .t (fun _ w hn k => ⟨_, v_lenR rfl elW (k.eq1 0 3 rfl), rfl⟩) <| .t (fun _ w hn k => ⟨_, v_bin rfl (k.eq1 1 4 rfl) rfl (fun _ => rfl) (r_gtrK ad), rfl⟩) <| .m (fun k => k.eq1 2 5 rfl) <| .gm (fun k => k.eq1 3 6 rfl) (fun k => k.fx 0 af) <| .gm (fun k => k.eq1 3 6 rfl) (fun k => k.fx 0 af) <| .g (fun k => k.eq1 3 6 rfl) (fun _ w hn k => ⟨_, v_lenR rfl elW (k.eq1 5 8 rfl), rfl⟩) <| .g (fun k => k.eq1 3 6 rfl) (fun _ w hn k => ⟨_, v_bin rfl (k.eq1 6 9 rfl) rfl (fun _ => rfl) (r_sub rfl (by omega)), rfl⟩) ?_
 refine .o1 (tg rfl rfl rfl (fun _ _ k => k.eq1 3 6 rfl) fun _ w hn k => (by
       exact x_eaddr (k := .u32) rfl elW (k.eq1 4 7 rfl) (k.eq1 7 10 rfl) (aj.new_ hn) (by omega) fun b1 o2 hme => ⟨b1, o2, rfl, hme⟩)) ?_
 refine .o1 (tg rfl rfl rfl (fun _ _ k => k.eq1 3 6 rfl) fun _ w hn k => (by
       obtain ⟨b5, o6, e7, bj⟩ : (EP (.int .u32 (((m.take kk).getD ((((m.take kk).length : Int) - 1 : Int).toNat) 0 : Nat) : Int))) _ _ := k.dep 8 11 (by kernel_rfl) (by kernel_rfl)
       exact ⟨_, v_load rfl e7 (l_one Tryd.isAgg53 bj.1), rfl⟩)) ?_
 exact .g (fun k => k.eq1 3 6 rfl) (fun _ w hn k => ⟨_, v_bin rfl (k.eq1 9 12 rfl) rfl (fun _ => rfl) (r_eql rfl), rfl⟩) <| .t (fun _ w hn k => ⟨_, v_pickT rfl (k.eq1 3 6 rfl) (k.eq1 10 13 rfl), rfl⟩) .nil
 refine aftI ah ap aq fun bE bF ai aw ax aT ay => ?_
 have am := ay.fx 0 af
 have aG := ay.ge 11 14 rfl
 have ak := aj.new_ aT
 refine st_nil (ar _ _ ?_)
 rcases bc (decide ((((m.take kk).getD ((((m.take kk).length : Int) - 1 : Int).toNat) 0 : Nat) : Int) = 0)) with ab | ab
 have aE := oT ab
 have aU := hB aG ab
 refine wp_cond_true aU ?_
 refine wp_skip ?_
 refine aI _ _ ?_
 refine wp_block ?_
 refine wp_g0 [true, true, true, true, true, false] [(5, true)] 21
   [ve (sv A1 (m.take kk) c1), ve (sv A1 (m.take kk) c1), ve (iv ((m.take kk).length : Int)), ve (iv (((m.take kk).length : Int) - 1)),
    (RP .u32 ((m.take kk).take ((((m.take kk).length : Int) - 1 : Int).toNat))), vt] ai (.eq (.eq (.eq (.eq (.cons (fun _ _ _ n ⟨_, _, e, h⟩ => ⟨_, _, e, h.new_ n⟩) (.tt (.nil))))))) ?_ ?_
 refine .m (fun k => k.fx 0 am) <| .m (fun k => k.fx 0 am) <| .t (fun _ w hn k => ⟨_, v_lenR rfl elW (k.eq1 1 16 rfl), rfl⟩) <| .t (fun _ w hn k => ⟨_, v_bin rfl (k.eq1 2 17 rfl) rfl (fun _ => rfl) (r_sub rfl (by omega)), rfl⟩) ?_
 refine .o1 (tk rfl rfl fun _ w hn k => (by
       exact x_cutH (k := .u32) rfl elW (k.eq1 0 15 rfl) (k.eq1 3 18 rfl) (ak.new_ hn) (by omega) fun A9 bm hmr => ⟨A9, bm, rfl, hmr⟩)) ?_
 exact .off .nil
 refine aftI ai aw ax fun az bG aA aV aW aX aB => ?_
 have bH := aB.fx 0 am
 obtain ⟨ag, ac, an, aC⟩ : (RP .u32 ((m.take kk).take ((((m.take kk).length : Int) - 1 : Int).toNat))) _ _ := aB.got 4 19 rfl (by kernel_rfl)
 have an : az.eval (.tmp 19) = sv ag ((m.take kk).take ((((m.take kk).length : Int) - 1 : Int).toNat)) ac := an
 have bq := ak.new_ aX
 refine st_take rfl rfl (y_assign (v := sv ag ((m.take kk).take ((((m.take kk).length : Int) - 1 : Int).toNat)) ac) rfl an) rfl ?_
 obtain ⟨bn, ae⟩ : ∃ a', a' = az.put (some 0) (sv ag ((m.take kk).take ((((m.take kk).length : Int) - 1 : Int).toNat)) ac) := ⟨_, rfl⟩
 have aY := pz ae aA
 have aZ := pd ae aV
 have bI := pn ae an (by decide)
 have aH : bn.eval (.tmp 0) = sv ag ((m.take kk).take ((((m.take kk).length : Int) - 1 : Int).toNat)) ac := by rw [ae]; exact put_same _ _ _ (by rw [aA]; decide)
 show stepsTo _ _ _ _ _ (az.put (some 0) (sv ag ((m.take kk).take ((((m.take kk).length : Int) - 1 : Int).toNat)) ac)) _
 rw [← ae]
 refine st_nil ?_
 have he72 : ((m.take kk).take ((((m.take kk).length : Int) - 1 : Int).toNat)) = (m.take (kk - 1)) := by rw [List.take_take]; congr 1; rw [htl]; omega
 rw [he72] at aH
 rw [he72] at aC
 refine blk_n ?_
 refine then_n ?_
 exact ⟨_, ⟨kk - 1, ag, ac, rfl, aY, aZ, aW, aH, aC, (by omega), (trim_dn' (by omega) hk ab hv)⟩, (by omega)⟩
 have aE := oF ab
 have a1 := hB aG ab
 refine wp_cond_false a1 ?_
 refine wp_exit ?_
 refine ao _ _ ?_
 refine wp_seq_k fun bJ a3 => ?_
 refine wp_g0 [true, true] [] 21
   [ve (sv A1 (m.take kk) c1), ve (sv A1 (m.take kk) c1)] ai (.eq (.eq (.nil))) ?_ ?_
 exact .m (fun k => k.fx 0 am) <| .a (fun k => k.eq1 0 20 rfl) .nil
 refine aftI ai aw ax fun bK bL br a4 a5 a6 a7 => ?_
 have bo := a7.ge 1 2 rfl
 have a8 := ak.new_ a6
 refine st_nil (a3 _ _ ?_)
 refine wp_ret (ret_k a4 (v := sv A1 (m.take kk) c1) (res_t rfl bo _) ?_)
 have hsp : m.take kk = canon (val m) := trim_end' hl hk hv (Or.inr (trim_nz' (by omega) hk ab))
 exact ⟨A1, c1, by rw [← hsp], by rw [← hsp]; exact a8, a5⟩
theorem bsign_c (n : Int) (w : World) : Calls Tryd.prog 89 #[iv n] w (IsRet (iv (cmpI1 n)) w) := by
 refine enter_abs Tryd.func89 rfl fun a0 aa ag hp => ?_
 have aa : a0.tmps.size = 6 := aa
 have ah : New w w := Upd.refl _ _
 have hp0 : a0.eval (.tmp 0) = iv n := hp 0 _ rfl
 refine wp_seq_k fun K1 ai => ?_
 refine wp_g0 [true] [] 6
   [ve (iv 0)] aa (.eq (.nil)) ?_ ?_
 exact .t (fun _ w hn k => ⟨_, v_assign rfl rfl, rfl⟩) .nil
 refine aftI aa ag ah fun a2 w3 ab aj ak ap al => ?_
 have h8 := al.fx 0 hp0
 refine st_nil (ai _ _ (wp_seq_k fun aq ac => ?_))
 refine wp_g0 [true, true, true, true] [] 6
   [ve (iv n), ve (iv (max n (-1))), ve (iv (min (max n (-1)) 1)), ve (iv (min (max n (-1)) 1))] ab (.eq (.eq (.eq (.eq (.nil))))) ?_ ?_
 exact .m (fun k => k.fx 0 h8) <| .t (fun _ w hn k => ⟨_, v_max rfl (k.eq1 0 3 rfl) rfl, rfl⟩) <| .t (fun _ w hn k => ⟨_, v_min rfl (k.eq1 1 4 rfl) rfl, rfl⟩) <| .a (fun k => k.eq1 2 5 rfl) .nil
 refine aftI ab aj ak fun ar au an ad ae ao af => ?_
 have am := af.ge 3 2 rfl
 refine st_nil (ac _ _ ?_)
 refine wp_ret (ret_k ad (v := iv (min (max n (-1)) 1)) (res_t rfl am _) ?_)
 exact ⟨congrArg (fun z => Ending.returned (iv z)) (sign_eq n), ae⟩
theorem bneg_c (a : Bool) (Aa : Option Addr) (ma : List Nat) (ca : Nat) (w : World) (hra : SRow w .u32 Aa ma ca) : Calls Tryd.prog 56 #[.agg #[.bool a, sv Aa ma ca]] w (IsRet (.bool (mayB a ma && a)) w) := by
 refine enter_abs Tryd.func56 rfl fun a0 ad ap hp => ?_
 have ad : a0.tmps.size = 9 := ad
 have ag : New w w := Upd.refl _ _
 have hp0 : a0.eval (.tmp 0) = .agg #[.bool a, sv Aa ma ca] := hp 0 _ rfl
 refine wp_seq_k fun K1 aq => ?_
 refine wp_g [true, true] [] [] 9
   [IsNew w 26 [.bool a, sv Aa ma ca], vF]
   [0] (newsCons (fun v w h => IsNew.old h) newsNil) ad (.nw (.eq (.nil))) ?_ (fun i h => by cases h) ?_
 exact .o2 (step_allocN (cs := [.bool a, sv Aa ma ca]) (t := 26) rfl (noG rfl) (fun _ w hn k => v_box rfl (k.fx 0 hp0) (fun w => rfl)) (fun q _ hq hb => ⟨q, rfl, hq, hb⟩)) <| .t (fun _ w hn k => ⟨_, v_assign rfl rfl, rfl⟩) .nil
 refine aftI ad ap ag fun a2 w3 ae ah ab aB ar => ?_
 obtain ⟨q9, h8, ai, ac⟩ : IsNew _ _ _ _ _ := ar.got 0 1 rfl (by kernel_rfl)
 have aw := Nat.le_trans ag.size ai
 refine st_nil (aq _ _ (wp_seq_k fun aC af => ?_))
 rcases bc (mayB a ma) with aa | aa
 refine wp_g0 [true, true, true, true, true, true, true] [] 9
   [ve (.agg #[.bool a, sv Aa ma ca]), vT, vT, ve (pv q9), ve (.bool a), ve (.bool a), ve (.bool a)] ae (.eq (.eq (.eq (.eq (.eq (.eq (.eq (.nil)))))))) ?_ ?_
 exact .t (fun _ w hn k => ⟨_, v_load rfl (k.fx 1 h8) (l_two Tryd.isAgg26 Tryd.sizeOf26 (ac.new_ hn)), rfl⟩) <| .o1 (ck rfl rfl rfl (fun _ w hn k => ⟨#[.agg #[.bool a, sv Aa ma ca]], args1 (k.eq1 0 3 rfl), fun _ => by kernel_rfl, bmay_c a _ ma _ _ (hra.new_ (ab.transNew hn))⟩) fun _ => congrArg Value.bool aa) <| .m (fun k => k.eq1 1 4 rfl) <| .gf (fun k => k.eq1 2 5 rfl) (fun k => k.fx 1 h8) <| .g (fun k => k.eq1 2 5 rfl) (fun _ w hn k => ⟨_, v_load rfl (k.eq1 3 6 rfl) (l_one Tryd.isAgg4 ((ac.new_ hn).cell 0)), rfl⟩) <| .t (fun _ w hn k => ⟨_, v_pickT rfl (k.eq1 2 5 rfl) (k.eq1 4 7 rfl), rfl⟩) <| .a (fun k => k.eq1 5 8 rfl) .nil
 refine aftI ae ah ab fun aD aE ax aj ak ay al => ?_
 have au := al.ge 6 2 rfl
 refine st_nil (af _ _ ?_)
 refine wp_ret (ret_k aj (v := .bool a) (res_t rfl au _) ?_)
 refine ⟨?_, ak⟩
 show Ending.returned (.bool a) = Ending.returned (.bool (mayB a ma && a))
 first | rfl | (simp only [aa, bsm] <;> rfl) | (exfalso; omega)
 refine wp_g0 [true, true, true, true, true, true, true] [] 9
   [ve (.agg #[.bool a, sv Aa ma ca]), vF, vF, vU, vU, vF, vF] ae (.eq (.eq (.eq (.eq (.eq (.eq (.eq (.nil)))))))) ?_ ?_
 exact .t (fun _ w hn k => ⟨_, v_load rfl (k.fx 1 h8) (l_two Tryd.isAgg26 Tryd.sizeOf26 (ac.new_ hn)), rfl⟩) <| .o1 (ck rfl rfl rfl (fun _ w hn k => ⟨#[.agg #[.bool a, sv Aa ma ca]], args1 (k.eq1 0 3 rfl), fun _ => by kernel_rfl, bmay_c a _ ma _ _ (hra.new_ (ab.transNew hn))⟩) fun _ => congrArg Value.bool aa) <| .m (fun k => k.eq1 1 4 rfl) <| .s (fun k => k.eq1 2 5 rfl) <| .s (fun k => k.eq1 2 5 rfl) <| .t (fun _ w hn k => ⟨_, v_pickF rfl (k.eq1 2 5 rfl) rfl, rfl⟩) <| .a (fun k => k.eq1 5 8 rfl) .nil
 refine aftI ae ah ab fun aF aG az am an aA ao => ?_
 have av := ao.ge 6 2 rfl
 refine st_nil (af _ _ ?_)
 refine wp_ret (ret_k am (v := .bool false) (res_t rfl av _) ?_)
 refine ⟨?_, an⟩
 show Ending.returned (.bool false) = Ending.returned (.bool (mayB a ma && a))
 first | rfl | (simp only [aa, bsm] <;> rfl) | (exfalso; omega)
def clone32_c_P (Au : Option Addr) (u : List Nat) (cu : Nat) (w : World) (en : Ending) (w' : World) : Prop := ∃ (Ar0 : Option Addr) (cr0 : Nat), en = .returned (sv Ar0 u cr0) ∧ SOwn w' w.heap.size 53 .u32 Ar0 u cr0 ∧ New w w'
theorem clone32_c (Au : Option Addr) (u : List Nat) (cu : Nat) (w : World) (hru : SRow w .u32 Au u cu) (hs : u.length ≤ 1000000) : Calls Tryd.prog 67 #[sv Au u cu] w (clone32_c_P Au u cu w) := by
 refine enter_abs Tryd.func67 rfl fun a0 ai aR hp => ?_
 have ai : a0.tmps.size = 8 := ai
 have aS : New w w := Upd.refl _ _
 have hp0 : a0.eval (.tmp 0) = sv Au u cu := hp 0 _ rfl
 refine wp_seq_k fun K1 aT => ?_
 refine wp_g0 [true] [] 8
   [ve (sv none ([]) 0)] ai (.eq (.nil)) ?_ ?_
 exact .t (fun _ w hn k => ⟨_, v_assign rfl rfl, rfl⟩) .nil
 refine aftI ai aR aS fun a2 w3 au aU aV ba aW => ?_
 have h8 := aW.fx 0 hp0
 refine st_nil (aT _ _ (wp_seq_k fun bb aA => ?_))
 refine wp_seq_k fun bd aB => ?_
 refine wp_g0 [true, true] [] 8
   [ve (sv Au u cu), ve (.bool Au.isNone)] au (.eq (.eq (.nil))) ?_ ?_
 exact .m (fun k => k.fx 0 h8) <| .t (fun _ w hn k => ⟨_, v_bin rfl (k.eq1 0 3 rfl) rfl (fun _ => rfl) (fun W => Lib.run_eql_slice_nil W _ _ _ _ _ _ _ Tryd.underlying24), rfl⟩) .nil
 refine aftI au aU aV fun be av ae aj ag a5 ak => ?_
 have aX := ak.fx 0 h8
 have aw := ak.ge 1 4 rfl
 refine st_nil (aB _ _ ?_)
 rcases bc (Au.isNone) with af | af
 have aC := hB aw af
 refine wp_cond_true aC ?_
 refine wp_seq_k fun bf aD => ?_
 refine wp_g0 [true] [] 8
   [ve (sv none ([]) 0)] ae (.eq (.nil)) ?_ ?_
 exact .t (fun _ w hn k => ⟨_, v_assign rfl rfl, rfl⟩) .nil
 refine aftI ae aj ag fun bg bh a6 aE aF a7 aG => ?_
 have aY := aG.ge 0 2 rfl
 refine st_nil (aD _ _ ?_)
 refine wp_ret (ret_k aE (v := sv none ([]) 0) (res_t rfl aY _) ?_)
 have ax := row_none hru af
 exact ⟨none, 0, by rw [ax], by rw [ax]; exact SOwn.nil _ _ _ _, aF⟩
 have aH := hB aw af
 refine wp_cond_false aH ?_
 refine wp_skip ?_
 refine aA _ _ ?_
 refine wp_seq_k fun bi aI => ?_
 refine wp_g0 [true, true, false, false] [(2, false), (3, true)] 8
   [(OP av.heap.size 53 .u32 ([])), ve (sv Au u cu), vt, vt] ae (.cons (fun _ _ _ n ⟨_, _, e, h⟩ => ⟨_, _, e, h.new_ n⟩) (.eq (.tt (.tt (.nil))))) ?_ ?_
 refine .o1 (tkA rfl (noG rfl) fun _ w hn k => (by
       exact x_bslice0 .u32 rfl parts0 elW fun A1 c2 W' hmo => ⟨A1, c2, rfl, (hmo.more hn.size)⟩)) ?_
 exact .m (fun k => k.fx 0 aX) <| .off <| .off .nil
 refine aftI ae aj ag fun al bj am aJ ah a8 an => ?_
 obtain ⟨aZ, aK, ao, aL⟩ : (OP av.heap.size 53 .u32 ([])) _ _ := an.got 0 5 rfl (by kernel_rfl)
 have ao : al.eval (.tmp 5) = sv aZ ([]) aK := ao
 have ay := an.ge 1 6 rfl
 have ap := aL.more ag.size
 have hw55 := ah.size
 refine st_act rfl rfl fun bk aM => a_append (k := .u32) (b := w.heap.size) rfl elW ao ap ay (hru.new_ ah) (by first | omega | (simp only [List.length_nil, List.length_cons, List.length_append, List.length_take, List.length_drop, List.length_replicate, List.length_set]; omega)) (by first | omega | (simp only [List.length_nil, List.length_cons, List.length_append, List.length_take, List.length_drop, List.length_replicate, List.length_set]; omega)) hw55 fun ab aa bl aN hg51 => aM _ _ trivial ?_
 have aO := ah.ownGrown ap hg51
 obtain ⟨aq, ad⟩ : ∃ a', a' = al.put (some 7) (sv ab ([] ++ u) aa) := ⟨_, rfl⟩
 have ar := pz ad am
 have aP := pd ad aJ
 have a1 := pn ad ay (by decide)
 have az : aq.eval (.tmp 7) = sv ab ([] ++ u) aa := by rw [ad]; exact put_same _ _ _ (by rw [am]; decide)
 show stepsTo _ _ _ _ _ (al.put (some 7) (sv ab ([] ++ u) aa)) _
 rw [← ad]
 refine st_take rfl rfl (y_assign (v := sv ab ([] ++ u) aa) rfl az) rfl ?_
 obtain ⟨a3, ac⟩ : ∃ a', a' = aq.put (some 2) (sv ab ([] ++ u) aa) := ⟨_, rfl⟩
 have a9 := pz ac ar
 have aQ := pd ac aP
 have bm := pn ac a1 (by decide)
 have bn := pn ac az (by decide)
 have a4 : a3.eval (.tmp 2) = sv ab ([] ++ u) aa := by rw [ac]; exact put_same _ _ _ (by rw [ar]; decide)
 show stepsTo _ _ _ _ _ (aq.put (some 2) (sv ab ([] ++ u) aa)) _
 rw [← ac]
 refine st_nil (aI _ _ ?_)
 refine wp_ret (ret_k aQ (v := sv ab ([] ++ u) aa) (res_t rfl a4 _) ?_)
 exact ⟨ab, aa, by rw [List.nil_append], by have h := aN; rw [List.nil_append] at h; exact h, aO⟩
def clone16_c_P (Au : Option Addr) (u : List Nat) (cu : Nat) (w : World) (en : Ending) (w' : World) : Prop := ∃ (Ar0 : Option Addr) (cr0 : Nat), en = .returned (sv Ar0 u cr0) ∧ SOwn w' w.heap.size 64 .u16 Ar0 u cr0 ∧ New w w'
theorem clone16_c (Au : Option Addr) (u : List Nat) (cu : Nat) (w : World) (hru : SRow w .u16 Au u cu) (hs : u.length ≤ 1000000) : Calls Tryd.prog 38 #[sv Au u cu] w (clone16_c_P Au u cu w) := by
 refine enter_abs Tryd.func38 rfl fun a0 ai aR hp => ?_
 have ai : a0.tmps.size = 8 := ai
 have aS : New w w := Upd.refl _ _
 have hp0 : a0.eval (.tmp 0) = sv Au u cu := hp 0 _ rfl
 refine wp_seq_k fun K1 aT => ?_
 refine wp_g0 [true] [] 8
   [ve (sv none ([]) 0)] ai (.eq (.nil)) ?_ ?_
 exact .t (fun _ w hn k => ⟨_, v_assign rfl rfl, rfl⟩) .nil
 refine aftI ai aR aS fun a2 w3 au aU aV ba aW => ?_
 have h8 := aW.fx 0 hp0
 refine st_nil (aT _ _ (wp_seq_k fun bb aA => ?_))
 refine wp_seq_k fun bd aB => ?_
 refine wp_g0 [true, true] [] 8
   [ve (sv Au u cu), ve (.bool Au.isNone)] au (.eq (.eq (.nil))) ?_ ?_
 exact .m (fun k => k.fx 0 h8) <| .t (fun _ w hn k => ⟨_, v_bin rfl (k.eq1 0 3 rfl) rfl (fun _ => rfl) (fun W => Lib.run_eql_slice_nil W _ _ _ _ _ _ _ Tryd.underlying27), rfl⟩) .nil
 refine aftI au aU aV fun be av ae aj ag a5 ak => ?_
 have aX := ak.fx 0 h8
 have aw := ak.ge 1 4 rfl
 refine st_nil (aB _ _ ?_)
 rcases bc (Au.isNone) with af | af
 have aC := hB aw af
 refine wp_cond_true aC ?_
 refine wp_seq_k fun bf aD => ?_
 refine wp_g0 [true] [] 8
   [ve (sv none ([]) 0)] ae (.eq (.nil)) ?_ ?_
 exact .t (fun _ w hn k => ⟨_, v_assign rfl rfl, rfl⟩) .nil
 refine aftI ae aj ag fun bg bh a6 aE aF a7 aG => ?_
 have aY := aG.ge 0 2 rfl
 refine st_nil (aD _ _ ?_)
 refine wp_ret (ret_k aE (v := sv none ([]) 0) (res_t rfl aY _) ?_)
 have ax := row_none hru af
 exact ⟨none, 0, by rw [ax], by rw [ax]; exact SOwn.nil _ _ _ _, aF⟩
 have aH := hB aw af
 refine wp_cond_false aH ?_
 refine wp_skip ?_
 refine aA _ _ ?_
 refine wp_seq_k fun bi aI => ?_
 refine wp_g0 [true, true, false, false] [(2, false), (3, true)] 8
   [(OP av.heap.size 64 .u16 ([])), ve (sv Au u cu), vt, vt] ae (.cons (fun _ _ _ n ⟨_, _, e, h⟩ => ⟨_, _, e, h.new_ n⟩) (.eq (.tt (.tt (.nil))))) ?_ ?_
 refine .o1 (tkA rfl (noG rfl) fun _ w hn k => (by
       exact x_bslice0 .u16 rfl parts0 elU fun A1 c2 W' hmo => ⟨A1, c2, rfl, (hmo.more hn.size)⟩)) ?_
 exact .m (fun k => k.fx 0 aX) <| .off <| .off .nil
 refine aftI ae aj ag fun al bj am aJ ah a8 an => ?_
 obtain ⟨aZ, aK, ao, aL⟩ : (OP av.heap.size 64 .u16 ([])) _ _ := an.got 0 5 rfl (by kernel_rfl)
 have ao : al.eval (.tmp 5) = sv aZ ([]) aK := ao
 have ay := an.ge 1 6 rfl
 have ap := aL.more ag.size
 have hw55 := ah.size
 refine st_act rfl rfl fun bk aM => a_append (k := .u16) (b := w.heap.size) rfl elU ao ap ay (hru.new_ ah) (by first | omega | (simp only [List.length_nil, List.length_cons, List.length_append, List.length_take, List.length_drop, List.length_replicate, List.length_set]; omega)) (by first | omega | (simp only [List.length_nil, List.length_cons, List.length_append, List.length_take, List.length_drop, List.length_replicate, List.length_set]; omega)) hw55 fun ab aa bl aN hg51 => aM _ _ trivial ?_
 have aO := ah.ownGrown ap hg51
 obtain ⟨aq, ad⟩ : ∃ a', a' = al.put (some 7) (sv ab ([] ++ u) aa) := ⟨_, rfl⟩
 have ar := pz ad am
 have aP := pd ad aJ
 have a1 := pn ad ay (by decide)
 have az : aq.eval (.tmp 7) = sv ab ([] ++ u) aa := by rw [ad]; exact put_same _ _ _ (by rw [am]; decide)
 show stepsTo _ _ _ _ _ (al.put (some 7) (sv ab ([] ++ u) aa)) _
 rw [← ad]
 refine st_take rfl rfl (y_assign (v := sv ab ([] ++ u) aa) rfl az) rfl ?_
 obtain ⟨a3, ac⟩ : ∃ a', a' = aq.put (some 2) (sv ab ([] ++ u) aa) := ⟨_, rfl⟩
 have a9 := pz ac ar
 have aQ := pd ac aP
 have bm := pn ac a1 (by decide)
 have bn := pn ac az (by decide)
 have a4 : a3.eval (.tmp 2) = sv ab ([] ++ u) aa := by rw [ac]; exact put_same _ _ _ (by rw [ar]; decide)
 show stepsTo _ _ _ _ _ (aq.put (some 2) (sv ab ([] ++ u) aa)) _
 rw [← ac]
 refine st_nil (aI _ _ ?_)
 refine wp_ret (ret_k aQ (v := sv ab ([] ++ u) aa) (res_t rfl a4 _) ?_)
 exact ⟨ab, aa, by rw [List.nil_append], by have h := aN; rw [List.nil_append] at h; exact h, aO⟩
def bmag_c_P (a : Bool) (Aa : Option Addr) (ma : List Nat) (ca : Nat) (w : World) (en : Ending) (w' : World) : Prop := ∃ (Ar0 : Option Addr) (cr0 : Nat), en = .returned (sv Ar0 (canon (goodI a ma).natAbs) cr0) ∧ SOwn w' w.heap.size 53 .u32 Ar0 (canon (goodI a ma).natAbs) cr0 ∧ New w w'
theorem bmag_c (a : Bool) (Aa : Option Addr) (ma : List Nat) (ca : Nat) (w : World) (hra : SRow w .u32 Aa ma ca) (ha : Limbs ma) (hs : ma.length ≤ 1000000) : Calls Tryd.prog 54 #[.agg #[.bool a, sv Aa ma ca]] w (bmag_c_P a Aa ma ca w) := by
 refine enter_abs Tryd.func54 rfl fun a0 af aL hp => ?_
 have af : a0.tmps.size = 9 := af
 have ap : New w w := Upd.refl _ _
 have hp0 : a0.eval (.tmp 0) = .agg #[.bool a, sv Aa ma ca] := hp 0 _ rfl
 refine wp_seq_k fun K1 aM => ?_
 refine wp_g [true, true] [] [] 9
   [IsNew w 26 [.bool a, sv Aa ma ca], ve (sv none ([]) 0)]
   [0] (newsCons (fun v w h => IsNew.old h) newsNil) af (.nw (.eq (.nil))) ?_ (fun i h => by cases h) ?_
 exact .o2 (step_allocN (cs := [.bool a, sv Aa ma ca]) (t := 26) rfl (noG rfl) (fun _ w hn k => v_box rfl (k.fx 0 hp0) (fun w => rfl)) (fun q _ hq hb => ⟨q, rfl, hq, hb⟩)) <| .t (fun _ w hn k => ⟨_, v_assign rfl rfl, rfl⟩) .nil
 refine aftI af aL ap fun a2 w3 ag aq ab a3 aN => ?_
 obtain ⟨q9, h8, ar, ac⟩ : IsNew _ _ _ _ _ := aN.got 0 1 rfl (by kernel_rfl)
 have aV := Nat.le_trans ap.size ar
 refine st_nil (aM _ _ (wp_seq_k fun a4 au => ?_))
 refine wp_seq_k fun a5 aj => ?_
 rcases bc (mayB a ma) with aa | aa
 refine wp_g0 [true, true, true] [] 9
   [ve (.agg #[.bool a, sv Aa ma ca]), vT, vF] ag (.eq (.eq (.eq (.nil)))) ?_ ?_
 exact .t (fun _ w hn k => ⟨_, v_load rfl (k.fx 1 h8) (l_two Tryd.isAgg26 Tryd.sizeOf26 (ac.new_ hn)), rfl⟩) <| .o1 (ck rfl rfl rfl (fun _ w hn k => ⟨#[.agg #[.bool a, sv Aa ma ca]], args1 (k.eq1 0 3 rfl), fun _ => by kernel_rfl, bmay_c a _ ma _ _ (hra.new_ (ab.transNew hn))⟩) fun _ => congrArg Value.bool aa) <| .t (fun _ w hn k => ⟨_, v_not rfl (k.eq1 1 4 rfl), rfl⟩) .nil
 refine aftI ag aq ab fun a6 ah ak av ae aw al => ?_
 have aO := al.fx 1 h8
 have aP := al.ge 2 5 rfl
 have ax := ac.new_ aw
 refine st_nil (aj _ _ ?_)
 refine wp_cond_false aP ?_
 refine wp_skip ?_
 refine au _ _ ?_
 refine wp_seq_k fun a7 ay => ?_
 refine wp_g0 [true, true, true, true] [] 9
   [ve (.pointer (some ⟨q9, 1, none⟩)), ve (sv Aa ma ca),
    (OP ah.heap.size 53 .u32 ma),
    (OP ah.heap.size 53 .u32 ma)] ak (.eq (.eq (.cons (fun _ _ _ n ⟨_, _, e, h⟩ => ⟨_, _, e, h.new_ n⟩) (.cons (fun v W W' hn ⟨A9, aQ, he, h0⟩ => ⟨A9, aQ, he, h0.new_ hn⟩) (.nil))))) ?_ ?_
 refine .f (fun k => k.fx 1 aO) <| .t (fun _ w hn k => ⟨_, v_load rfl (k.eq1 0 6 rfl) (l_one Tryd.isAgg24 ((ax.new_ hn).cell 1)), rfl⟩) ?_
 refine .o1 (tkC rfl (noG rfl) rfl fun _ w hn k => (by
       refine ⟨#[sv Aa ma ca], _, args1 (k.eq1 1 7 rfl), fun w => by kernel_rfl, clone32_c _ ma _ _ (hra.new_ (ae.transNew hn)) (by first | omega | (simp only [List.length_nil, List.length_take, List.length_drop]; omega) | (simp only [List.length_cons, List.length_nil]; omega)), ?_⟩
       rintro e w' ⟨A1, c2, rfl, hmo0, hm⟩
       exact ⟨_, rfl, hm, ⟨A1, c2, rfl, (hmo0.more hn.size)⟩⟩)) ?_
 refine .o1 (tk rfl rfl fun _ w hn k => (by
       obtain ⟨A5, c6, e7, aR⟩ : (OP ah.heap.size 53 .u32 ma) _ _ := k.dep 2 8 (by kernel_rfl) (by kernel_rfl)
       exact ⟨_, v_assign rfl e7, ⟨A5, c6, rfl, aR⟩⟩)) ?_
 exact .nil
 refine aftI ak av ae fun aS a8 aW az aA aX aB => ?_
 obtain ⟨ai, ad, am, aC⟩ : (OP ah.heap.size 53 .u32 ma) _ _ := aB.got 3 2 rfl (by kernel_rfl)
 have am : aS.eval (.tmp 2) = sv ai ma ad := am
 have aD := aC.more ae.size
 refine st_nil (ay _ _ ?_)
 refine wp_ret (ret_k az (v := sv ai ma ad) (res_t rfl am _) ?_)
 have hg := canon_good (b := a) ha
 rw [aa] at hg
 exact ⟨ai, ad, congrArg (fun l => Ending.returned (sv ai l ad)) hg.symm, by rw [hg]; exact aD, aA⟩
 refine wp_g0 [true, true, true] [] 9
   [ve (.agg #[.bool a, sv Aa ma ca]), vF, vT] ag (.eq (.eq (.eq (.nil)))) ?_ ?_
 exact .t (fun _ w hn k => ⟨_, v_load rfl (k.fx 1 h8) (l_two Tryd.isAgg26 Tryd.sizeOf26 (ac.new_ hn)), rfl⟩) <| .o1 (ck rfl rfl rfl (fun _ w hn k => ⟨#[.agg #[.bool a, sv Aa ma ca]], args1 (k.eq1 0 3 rfl), fun _ => by kernel_rfl, bmay_c a _ ma _ _ (hra.new_ (ab.transNew hn))⟩) fun _ => congrArg Value.bool aa) <| .t (fun _ w hn k => ⟨_, v_not rfl (k.eq1 1 4 rfl), rfl⟩) .nil
 refine aftI ag aq ab fun a9 ba an aE aF aG ao => ?_
 have bb := ao.fx 1 h8
 have aT := ao.ge 2 5 rfl
 have aY := ac.new_ aG
 refine st_nil (aj _ _ ?_)
 refine wp_cond_true aT ?_
 refine wp_seq_k fun bd aH => ?_
 refine wp_g0 [true] [] 9
   [ve (sv none ([]) 0)] an (.eq (.nil)) ?_ ?_
 exact .t (fun _ w hn k => ⟨_, v_assign rfl rfl, rfl⟩) .nil
 refine aftI an aE aF fun be bf aZ aI aJ a1 aK => ?_
 have aU := aK.ge 0 2 rfl
 refine st_nil (aH _ _ ?_)
 refine wp_ret (ret_k aI (v := sv none ([]) 0) (res_t rfl aU _) ?_)
 have hg := canon_good (b := a) ha
 rw [aa] at hg
 exact ⟨none, 0, congrArg (fun l => Ending.returned (sv none l 0)) hg.symm, by rw [hg]; exact (SOwn.nil _ _ _ _), aJ⟩
def bmade_c_P (Am : Option Addr) (m : List Nat) (cm : Nat) (d : Bool) (w : World) (en : Ending) (w' : World) : Prop := ∃ (Ar0 : Option Addr) (cr0 : Nat), en = .returned (.agg #[.bool (decide (sgn d (val m) < 0)), sv Ar0 (canon (sgn d (val m)).natAbs) cr0]) ∧ SRow w' .u32 Ar0 (canon (sgn d (val m)).natAbs) cr0 ∧ New w w'
theorem bmade_c (Am : Option Addr) (m : List Nat) (cm : Nat) (d : Bool) (w : World) (hrm : SRow w .u32 Am m cm) (hl : Limbs m) : Calls Tryd.prog 68 #[sv Am m cm, .bool d] w (bmade_c_P Am m cm d w) := by
 refine enter_abs Tryd.func68 rfl fun a0 ah bh hp => ?_
 have ah : a0.tmps.size = 14 := ah
 have aC : New w w := Upd.refl _ _
 have hp0 : a0.eval (.tmp 0) = sv Am m cm := hp 0 _ rfl
 have hp1 : a0.eval (.tmp 1) = .bool d := hp 1 _ rfl
 refine wp_seq_k fun K1 bi => ?_
 refine wp_g [true] [] [] 14
   [IsNew w 26 [.bool false, sv none ([]) 0]]
   [0] (newsCons (fun v w h => IsNew.old h) newsNil) ah (.nw (.nil)) ?_ (fun i h => by cases h) ?_
 exact .o2 (step_allocN (cs := [.bool false, sv none ([]) 0]) (t := 26) rfl (noG rfl) (fun _ w hn k => rfl) (fun q _ hq hb => ⟨q, rfl, hq, hb⟩)) .nil
 refine aftI ah bh aC fun a2 w3 aD bj aj bA ak => ?_
 have h8 := ak.fx 0 hp0
 have h9 := ak.fx 1 hp1
 obtain ⟨bB, bk, aJ, aK⟩ : IsNew _ _ _ _ _ := ak.got 0 4 rfl (by kernel_rfl)
 have bu := Nat.le_trans aC.size aJ
 refine st_nil (bi _ _ (wp_seq_k fun bC aL => ?_))
 refine wp_g0 [true, true, false] [(2, true)] 14
   [ve (sv Am m cm),
    (RP .u32 (canon (val m))), vt] aD (.eq (.cons (fun _ _ _ n ⟨_, _, e, h⟩ => ⟨_, _, e, h.new_ n⟩) (.tt (.nil)))) ?_ ?_
 refine .m (fun k => k.fx 0 h8) ?_
 refine .o1 (tkC rfl (noG rfl) rfl fun _ w hn k => (by
       refine ⟨#[sv Am m cm], _, args1 (k.eq1 0 5 rfl), fun w => by kernel_rfl, btrim_c _ m _ _ (hrm.new_ (aj.transNew hn)) hl, ?_⟩
       rintro e w' ⟨A1, c2, rfl, hmo0, hm⟩
       exact ⟨_, rfl, hm, ⟨A1, c2, rfl, hmo0⟩⟩)) ?_
 exact .off .nil
 refine aftI aD bj aj fun al bD am aM aN aO ae => ?_
 have bE := ae.fx 0 h8
 have bl := ae.fx 1 h9
 have bm := ae.fx 4 bk
 obtain ⟨ab, aa, ai, aP⟩ : (RP .u32 (canon (val m))) _ _ := ae.got 1 6 rfl (by kernel_rfl)
 have ai : al.eval (.tmp 6) = sv ab (canon (val m)) aa := ai
 have aQ := aK.new_ aO
 refine st_take rfl rfl (y_assign (v := sv ab (canon (val m)) aa) rfl ai) rfl ?_
 obtain ⟨bn, ad⟩ : ∃ a', a' = al.put (some 0) (sv ab (canon (val m)) aa) := ⟨_, rfl⟩
 have an := pz ad am
 have aR := pd ad aM
 have bo := pn ad bl (by decide)
 have bp := pn ad bm (by decide)
 have bF := pn ad ai (by decide)
 have aE : bn.eval (.tmp 0) = sv ab (canon (val m)) aa := by rw [ad]; exact put_same _ _ _ (by rw [am]; decide)
 show stepsTo _ _ _ _ _ (al.put (some 0) (sv ab (canon (val m)) aa)) _
 rw [← ad]
 refine st_nil (aL _ _ (wp_seq_k fun bG aS => ?_))
 refine wp_seq_k fun bH aT => ?_
 refine wp_g0 [true, true, true] [] 14
   [ve (sv ab (canon (val m)) aa), ve (iv ((canon (val m)).length : Int)), ve (.bool (decide (((canon (val m)).length : Int) = 0)))] an (.eq (.eq (.eq (.nil)))) ?_ ?_
 exact .m (fun k => k.fx 0 aE) <| .t (fun _ w hn k => ⟨_, v_lenR rfl elW (k.eq1 0 7 rfl), rfl⟩) <| .t (fun _ w hn k => ⟨_, v_bin rfl (k.eq1 1 8 rfl) rfl (fun _ => rfl) (r_eql rfl), rfl⟩) .nil
 refine aftI an aR aN fun bI bJ af ao ap aq ag => ?_
 have bq := ag.fx 1 bo
 have aF := ag.fx 4 bp
 have br := ag.fx 0 aE
 have aG := ag.ge 2 9 rfl
 have ar := aQ.new_ aq
 have aU := aP.new_ aq
 refine st_nil (aT _ _ ?_)
 rcases bc (decide (((canon (val m)).length : Int) = 0)) with ac | ac
 have az := oT ac
 have aV := hB aG ac
 refine wp_cond_true aV ?_
 refine wp_seq_k fun bK aW => ?_
 refine wp_g0 [true, false] [(1, false)] 14
   [ve (.agg #[.bool false, sv none ([]) 0]), vt] af (.eq (.tt (.nil))) ?_ ?_
 exact .t (fun _ w hn k => ⟨_, v_build (ps := []) rfl parts0 (by kernel_rfl), rfl⟩) <| .off .nil
 refine aftI af ao ap fun bL bM bv aX aY aZ au => ?_
 have aH := au.fx 4 aF
 have bs := au.ge 0 10 rfl
 have a1 := ar.new_ aZ
 obtain ⟨bN, -, aA, a3, a4, bw⟩ := s_two (v0 := .bool false) (v1 := sv none ([]) 0) Tryd.sizeOf26 rfl rfl rfl a1
 refine st_act rfl rfl fun bO a5 => a_store' rfl aH bs aA (a5 _ _ trivial ?_)
 have a6 := aY.trans a4 (fun _ h b => by subst b; omega)
 refine st_nil (aW _ _ ?_)
 refine wp_ret (ret_k aX (v := .agg #[.bool false, sv none ([]) 0]) (res_c rfl aH (l_two Tryd.isAgg26 Tryd.sizeOf26 a3)) ?_)
 have hz1 : (decide (sgn d (val m) < 0)) = false := by rw [made_zero ac]; rfl
 have hz2 : canon (sgn d (val m)).natAbs = [] := by rw [made_zero ac]; exact canon_zero
 exact ⟨none, 0, by rw [hz1, hz2], by rw [hz2]; exact (SRow.nil _ _), a6⟩
 have az := oF ac
 have a7 := hB aG ac
 refine wp_cond_false a7 ?_
 refine wp_skip ?_
 refine aS _ _ ?_
 refine wp_seq_k fun bP a8 => ?_
 refine wp_g0 [true, true, true, false] [(3, false)] 14
   [ve (.bool d), ve (sv ab (canon (val m)) aa), ve (.agg #[.bool d, sv ab (canon (val m)) aa]), vt] af (.eq (.eq (.eq (.tt (.nil))))) ?_ ?_
 exact .m (fun k => k.fx 1 bq) <| .m (fun k => k.fx 0 br) <| .t (fun _ w hn k => ⟨_, v_build (ps := [(0, .bool d), (1, sv ab (canon (val m)) aa)]) rfl (parts2 (k.eq1 0 11 rfl) (k.eq1 1 12 rfl)) (by kernel_rfl), rfl⟩) <| .off .nil
 refine aftI af ao ap fun bQ bR bx a9 ba av aw => ?_
 have aI := aw.fx 4 aF
 have bt := aw.ge 2 13 rfl
 have ax := ar.new_ av
 have bb := aU.new_ av
 obtain ⟨bS, -, aB, bd, ay, bz⟩ := s_two (v0 := .bool d) (v1 := sv ab (canon (val m)) aa) Tryd.sizeOf26 rfl rfl rfl ax
 refine st_act rfl rfl fun bT be => a_store' rfl aI bt aB (be _ _ trivial ?_)
 have bf := bb.far ax ay (by first | rfl | decide | simp [notK])
 have bg := ba.trans ay (fun _ h b => by subst b; omega)
 refine st_nil (a8 _ _ ?_)
 refine wp_ret (ret_k a9 (v := .agg #[.bool d, sv ab (canon (val m)) aa]) (res_c rfl aI (l_two Tryd.isAgg26 Tryd.sizeOf26 bd)) ?_)
 have hz1 : (decide (sgn d (val m) < 0)) = d := made_nz ac
 have hz2 : canon (sgn d (val m)).natAbs = (canon (val m)) := by rw [natAbs_sgn]
 exact ⟨ab, aa, by rw [hz1, hz2], by rw [hz2]; exact bf, bg⟩
theorem bcmp_c (Aa : Option Addr) (a : List Nat) (ca : Nat) (Ab : Option Addr) (b : List Nat) (cb : Nat) (w : World) (hra : SRow w .u32 Aa a ca) (hrb : SRow w .u32 Ab b cb) (ha : Limbs a) (hb : Limbs b) (hta : Trim a) (htb : Trim b) : Calls Tryd.prog 86 #[sv Aa a ca, sv Ab b cb] w (IsRet (iv (cmpI (val a) (val b))) w) := by
 refine enter_abs Tryd.func86 rfl fun a0 au bS hp => ?_
 have au : a0.tmps.size = 45 := au
 have bT : New w w := Upd.refl _ _
 have hp0 : a0.eval (.tmp 0) = sv Aa a ca := hp 0 _ rfl
 have hp1 : a0.eval (.tmp 1) = sv Ab b cb := hp 1 _ rfl
 have hmx := hra.max
 have hmy := hrb.max
 refine wp_seq_k fun K1 bU => ?_
 refine wp_g0 [true] [] 45
   [ve (iv 0)] au (.eq (.nil)) ?_ ?_
 exact .t (fun _ w hn k => ⟨_, v_assign rfl rfl, rfl⟩) .nil
 refine aftI au bS bT fun a2 w3 av a7 aB c4 a8 => ?_
 have h8 := a8.fx 0 hp0
 have h9 := a8.fx 1 hp1
 refine st_nil (bU _ _ (wp_seq_k fun c5 bf => ?_))
 refine wp_seq_k fun c6 aC => ?_
 rcases bc (decide ((a.length : Int) = (b.length : Int))) with af | af
 have aO := oT af
 refine wp_g0 [true, true, true, true, true] [] 45
   [ve (sv Aa a ca), ve (iv (a.length : Int)), ve (sv Ab b cb), ve (iv (b.length : Int)), vF] av (.eq (.eq (.eq (.eq (.eq (.nil)))))) ?_ ?_
 exact .m (fun k => k.fx 0 h8) <| .t (fun _ w hn k => ⟨_, v_lenR rfl elW (k.eq1 0 6 rfl), rfl⟩) <| .m (fun k => k.fx 1 h9) <| .t (fun _ w hn k => ⟨_, v_lenR rfl elW (k.eq1 2 8 rfl), rfl⟩) <| .t (fun _ w hn k => ⟨_, v_bin rfl (k.eq1 1 7 rfl) (k.eq1 3 9 rfl) (fun _ => rfl) (r_neq af), rfl⟩) .nil
 refine aftI av a7 aB fun c7 c8 aD bg bh cL aq => ?_
 have a9 := aq.fx 0 h8
 have bV := aq.fx 1 h9
 have bW := aq.ge 4 10 rfl
 refine st_nil (aC _ _ ?_)
 refine wp_cond_false bW ?_
 refine wp_skip ?_
 refine bf _ _ ?_
 refine wp_seq_k fun c9 bi => ?_
 refine wp_seq_k fun da bj => ?_
 refine wp_g0 [true, true, true, true] [] 45
   [ve (sv Aa a ca), ve (iv (a.length : Int)), ve (iv ((a.length : Int) - 1)), ve (iv ((a.length : Int) - 1))] aD (.eq (.eq (.eq (.eq (.nil))))) ?_ ?_
 exact .m (fun k => k.fx 0 a9) <| .t (fun _ w hn k => ⟨_, v_lenR rfl elW (k.eq1 0 17 rfl), rfl⟩) <| .t (fun _ w hn k => ⟨_, v_bin rfl (k.eq1 1 18 rfl) rfl (fun _ => rfl) (r_sub rfl (by omega)), rfl⟩) <| .a (fun k => k.eq1 2 19 rfl) .nil
 refine aftI aD bg bh fun db dc bk bl bm cM ar => ?_
 have bX := ar.fx 0 a9
 have bY := ar.fx 1 bV
 have bZ := ar.ge 3 5 rfl
 refine st_nil (bj _ _ ?_)
 refine wp_block ?_
 refine wp_loopX (fun (mm : Nat) (aa : Act) (ww : World) => ∃ (n : Nat), mm = n ∧ aa.tmps.size = 45 ∧ aa.defers = [] ∧ New w ww ∧ aa.eval (.tmp 5) = iv ((n : Int) - 1) ∧ aa.eval (.tmp 0) = sv Aa a ca ∧ aa.eval (.tmp 1) = sv Ab b cb ∧ (n ≤ a.length) ∧ (Above a b n)) (fun mm => mm) ⟨_, ⟨a.length, rfl, bk, bl, bm, bZ, bX, bY, (Nat.le_refl _), (above_of_eqlen (by omega))⟩⟩ ?_
 rintro mm dd de ⟨n, hmm, ai, aE, aF, aw, ba, bb, hn, hab⟩
 refine wp_seq_k fun df bn => ?_
 refine wp_seq_k fun dg aG => ?_
 rcases bc (decide (((n : Int) - 1) < 0)) with ag | ag
 have aP := oT ag
 refine wp_g0 [true, true] [] 45
   [ve (iv ((n : Int) - 1)), vF] ai (.eq (.eq (.nil))) ?_ ?_
 exact .m (fun k => k.fx 5 aw) <| .t (fun _ w hn k => ⟨_, v_bin rfl (k.eq1 0 20 rfl) rfl (fun _ => rfl) (r_geqK ag), rfl⟩) .nil
 refine aftI ai aE aF fun dh di aH bo bp cN aj => ?_
 have dj := aj.fx 5 aw
 have dk := aj.fx 0 ba
 have dl := aj.fx 1 bb
 have b0 := aj.ge 1 21 rfl
 refine st_nil (aG _ _ ?_)
 refine wp_cond_false b0 ?_
 refine wp_exit ?_
 refine bi _ _ ?_
 refine wp_seq_k fun dm bq => ?_
 refine wp_g0 [true] [] 45
   [ve (iv 0)] aH (.eq (.nil)) ?_ ?_
 exact .t (fun _ w hn k => ⟨_, v_assign rfl rfl, rfl⟩) .nil
 refine aftI aH bo bp fun dn dp cO br bs cP bt => ?_
 have b1 := bt.ge 0 4 rfl
 refine st_nil (bq _ _ ?_)
 refine wp_ret (ret_k br (v := iv 0) (res_t rfl b1 _) ?_)
 exact ⟨by rw [cmp_same hab (by omega)], bs⟩
 have aP := oF ag
 refine wp_g0 [true, true] [] 45
   [ve (iv ((n : Int) - 1)), vT] ai (.eq (.eq (.nil))) ?_ ?_
 exact .m (fun k => k.fx 5 aw) <| .t (fun _ w hn k => ⟨_, v_bin rfl (k.eq1 0 20 rfl) rfl (fun _ => rfl) (r_geqK ag), rfl⟩) .nil
 refine aftI ai aE aF fun dq dr ak aI ad cQ al => ?_
 have ah := al.fx 5 aw
 have ax := al.fx 0 ba
 have ay := al.fx 1 bb
 have b2 := al.ge 1 21 rfl
 refine st_nil (aG _ _ ?_)
 refine wp_cond_true b2 ?_
 refine wp_skip ?_
 refine bn _ _ ?_
 refine wp_seq_k fun ds bu => ?_
 refine wp_block ?_
 refine wp_seq_k fun dt aJ => ?_
 rcases bc (decide (((a.getD (((n : Int) - 1 : Int).toNat) 0 : Nat) : Int) = ((b.getD (((n : Int) - 1 : Int).toNat) 0 : Nat) : Int))) with ac | ac
 have aQ := oT ac
 have hai := ha.at ((n : Int) - 1).toNat
 have hbi := hb.at ((n : Int) - 1).toNat
 refine wp_g0 (.replicate 9 true) [] 45
   [ve (sv Aa a ca), ve (iv ((n : Int) - 1)),
    (EP (.int .u32 ((a.getD (((n : Int) - 1 : Int).toNat) 0 : Nat) : Int))), ve (.int .u32 ((a.getD (((n : Int) - 1 : Int).toNat) 0 : Nat) : Int)), ve (sv Ab b cb), ve (iv ((n : Int) - 1)),
    (EP (.int .u32 ((b.getD (((n : Int) - 1 : Int).toNat) 0 : Nat) : Int))), ve (.int .u32 ((b.getD (((n : Int) - 1 : Int).toNat) 0 : Nat) : Int)), vF] ak (.eq (.eq (.cons (fun _ _ _ n ⟨_, _, e, h⟩ => ⟨_, _, e, h.new_ n⟩) (.eq (.eq (.eq (.cons (fun _ _ _ n ⟨_, _, e, h⟩ => ⟨_, _, e, h.new_ n⟩) (.eq (.eq (.nil)))))))))) ?_ ?_
 refine .m (fun k => k.fx 0 ax) <| .m (fun k => k.fx 5 ah) ?_
 refine .o1 (tk rfl rfl fun _ w hn k => (by
       exact x_eaddr (k := .u32) rfl elW (k.eq1 0 24 rfl) (k.eq1 1 25 rfl) (hra.new_ (ad.transNew hn)) (by omega) fun b7 b8 hme => ⟨b7, b8, rfl, hme⟩)) ?_
 refine .o1 (tk rfl rfl fun _ w hn k => (by
       obtain ⟨du, dv, b9, bv⟩ : (EP (.int .u32 ((a.getD (((n : Int) - 1 : Int).toNat) 0 : Nat) : Int))) _ _ := k.dep 2 26 (by kernel_rfl) (by kernel_rfl)
       exact ⟨_, v_load rfl b9 (l_one Tryd.isAgg53 bv.1), rfl⟩)) ?_
 refine .m (fun k => k.fx 1 ay) <| .m (fun k => k.fx 5 ah) ?_
 refine .o1 (tk rfl rfl fun _ w hn k => (by
       exact x_eaddr (k := .u32) rfl elW (k.eq1 4 28 rfl) (k.eq1 5 29 rfl) (hrb.new_ (ad.transNew hn)) (by omega) fun cc cd hme => ⟨cc, cd, rfl, hme⟩)) ?_
 refine .o1 (tk rfl rfl fun _ w hn k => (by
       obtain ⟨dw, dx, ce, bw⟩ : (EP (.int .u32 ((b.getD (((n : Int) - 1 : Int).toNat) 0 : Nat) : Int))) _ _ := k.dep 6 30 (by kernel_rfl) (by kernel_rfl)
       exact ⟨_, v_load rfl ce (l_one Tryd.isAgg53 bw.1), rfl⟩)) ?_
 exact .t (fun _ w hn k => ⟨_, v_bin rfl (k.eq1 3 27 rfl) (k.eq1 7 31 rfl) (fun _ => rfl) (r_neq ac), rfl⟩) .nil
 refine aftI ak aI ad fun dy dz aK bx bz cR am => ?_
 have bd := am.fx 5 ah
 have cf := am.fx 0 ax
 have ch := am.fx 1 ay
 have ci := am.ge 8 32 rfl
 refine st_nil (aJ _ _ ?_)
 refine wp_cond_false ci ?_
 refine wp_skip ?_
 refine bu _ _ ?_
 refine wp_g0 [true, true, false] [(2, true)] 45
   [ve (iv ((n : Int) - 1)), ve (iv (((n : Int) - 1) - 1)), vt] aK (.eq (.eq (.tt (.nil)))) ?_ ?_
 exact .m (fun k => k.fx 5 bd) <| .t (fun _ w hn k => ⟨_, v_bin rfl (k.eq1 0 22 rfl) rfl (fun _ => rfl) (r_sub rfl (by omega)), rfl⟩) <| .off .nil
 refine aftI aK bx bz fun be dA aL bA aR cS an => ?_
 have dB := an.fx 5 bd
 have cj := an.fx 0 cf
 have bB := an.fx 1 ch
 have aM := an.ge 1 23 rfl
 refine st_take rfl rfl (y_assign (v := iv (((n : Int) - 1) - 1)) rfl aM) rfl ?_
 obtain ⟨bC, ab⟩ : ∃ a', a' = be.put (some 5) (iv (((n : Int) - 1) - 1)) := ⟨_, rfl⟩
 have aS := pz ab aL
 have aT := pd ab bA
 have bD := pn ab cj (by decide)
 have bE := pn ab bB (by decide)
 have cT := pn ab aM (by decide)
 have bF : bC.eval (.tmp 5) = iv (((n : Int) - 1) - 1) := by rw [ab]; exact put_same _ _ _ (by rw [aL]; decide)
 show stepsTo _ _ _ _ _ (be.put (some 5) (iv (((n : Int) - 1) - 1))) _
 rw [← ab]
 refine st_nil ?_
 refine then_n ?_
 exact ⟨_, ⟨n - 1, rfl, aS, aT, aR, (bF.trans (congrArg (Value.int .i64) (by omega))), bD, bE, (by omega), (above_dn1 hab (by omega) ac)⟩, (by omega)⟩
 have aQ := oF ac
 have hai := ha.at ((n : Int) - 1).toNat
 have hbi := hb.at ((n : Int) - 1).toNat
 refine wp_g0 (.replicate 9 true) [] 45
   [ve (sv Aa a ca), ve (iv ((n : Int) - 1)),
    (EP (.int .u32 ((a.getD (((n : Int) - 1 : Int).toNat) 0 : Nat) : Int))), ve (.int .u32 ((a.getD (((n : Int) - 1 : Int).toNat) 0 : Nat) : Int)), ve (sv Ab b cb), ve (iv ((n : Int) - 1)),
    (EP (.int .u32 ((b.getD (((n : Int) - 1 : Int).toNat) 0 : Nat) : Int))), ve (.int .u32 ((b.getD (((n : Int) - 1 : Int).toNat) 0 : Nat) : Int)), vT] ak (.eq (.eq (.cons (fun _ _ _ n ⟨_, _, e, h⟩ => ⟨_, _, e, h.new_ n⟩) (.eq (.eq (.eq (.cons (fun _ _ _ n ⟨_, _, e, h⟩ => ⟨_, _, e, h.new_ n⟩) (.eq (.eq (.nil)))))))))) ?_ ?_
 refine .m (fun k => k.fx 0 ax) <| .m (fun k => k.fx 5 ah) ?_
 refine .o1 (tk rfl rfl fun _ w hn k => (by
       exact x_eaddr (k := .u32) rfl elW (k.eq1 0 24 rfl) (k.eq1 1 25 rfl) (hra.new_ (ad.transNew hn)) (by omega) fun cp cq hme => ⟨cp, cq, rfl, hme⟩)) ?_
 refine .o1 (tk rfl rfl fun _ w hn k => (by
       obtain ⟨dC, dD, cr, bG⟩ : (EP (.int .u32 ((a.getD (((n : Int) - 1 : Int).toNat) 0 : Nat) : Int))) _ _ := k.dep 2 26 (by kernel_rfl) (by kernel_rfl)
       exact ⟨_, v_load rfl cr (l_one Tryd.isAgg53 bG.1), rfl⟩)) ?_
 refine .m (fun k => k.fx 1 ay) <| .m (fun k => k.fx 5 ah) ?_
 refine .o1 (tk rfl rfl fun _ w hn k => (by
       exact x_eaddr (k := .u32) rfl elW (k.eq1 4 28 rfl) (k.eq1 5 29 rfl) (hrb.new_ (ad.transNew hn)) (by omega) fun cs ct hme => ⟨cs, ct, rfl, hme⟩)) ?_
 refine .o1 (tk rfl rfl fun _ w hn k => (by
       obtain ⟨dE, dF, cu, bH⟩ : (EP (.int .u32 ((b.getD (((n : Int) - 1 : Int).toNat) 0 : Nat) : Int))) _ _ := k.dep 6 30 (by kernel_rfl) (by kernel_rfl)
       exact ⟨_, v_load rfl cu (l_one Tryd.isAgg53 bH.1), rfl⟩)) ?_
 exact .t (fun _ w hn k => ⟨_, v_bin rfl (k.eq1 3 27 rfl) (k.eq1 7 31 rfl) (fun _ => rfl) (r_neq ac), rfl⟩) .nil
 refine aftI ak aI ad fun cU cV az aU ao cF ae => ?_
 have aN := ae.fx 5 ah
 have bI := ae.fx 0 ax
 have bJ := ae.fx 1 ay
 have bK := ae.ge 8 32 rfl
 refine st_nil (aJ _ _ ?_)
 refine wp_cond_true bK ?_
 refine wp_seq_k fun cW aV => ?_
 have hai := ha.at ((n : Int) - 1).toNat
 have hbi := hb.at ((n : Int) - 1).toNat
 refine wp_g0 (.replicate 13 true) [] 45
   [ve (sv Aa a ca), ve (iv ((n : Int) - 1)),
    (EP (.int .u32 ((a.getD (((n : Int) - 1 : Int).toNat) 0 : Nat) : Int))), ve (.int .u32 ((a.getD (((n : Int) - 1 : Int).toNat) 0 : Nat) : Int)), ve (iv ((a.getD (((n : Int) - 1 : Int).toNat) 0 : Nat) : Int)), ve (sv Ab b cb), ve (iv ((n : Int) - 1)),
    (EP (.int .u32 ((b.getD (((n : Int) - 1 : Int).toNat) 0 : Nat) : Int))), ve (.int .u32 ((b.getD (((n : Int) - 1 : Int).toNat) 0 : Nat) : Int)), ve (iv ((b.getD (((n : Int) - 1 : Int).toNat) 0 : Nat) : Int)), ve (iv (((a.getD (((n : Int) - 1 : Int).toNat) 0 : Nat) : Int) - ((b.getD (((n : Int) - 1 : Int).toNat) 0 : Nat) : Int))), ve (iv (cmpI1 (((a.getD (((n : Int) - 1 : Int).toNat) 0 : Nat) : Int) - ((b.getD (((n : Int) - 1 : Int).toNat) 0 : Nat) : Int)))), ve (iv (cmpI1 (((a.getD (((n : Int) - 1 : Int).toNat) 0 : Nat) : Int) - ((b.getD (((n : Int) - 1 : Int).toNat) 0 : Nat) : Int))))] az (.eq (.eq (.cons (fun _ _ _ n ⟨_, _, e, h⟩ => ⟨_, _, e, h.new_ n⟩) (.eq (.eq (.eq (.eq (.cons (fun _ _ _ n ⟨_, _, e, h⟩ => ⟨_, _, e, h.new_ n⟩) (.eq (.eq (.eq (.eq (.eq (.nil)))))))))))))) ?_ ?_
 refine .m (fun k => k.fx 0 bI) <| .m (fun k => k.fx 5 aN) ?_
 refine .o1 (tk rfl rfl fun _ w hn k => (by
       exact x_eaddr (k := .u32) rfl elW (k.eq1 0 33 rfl) (k.eq1 1 34 rfl) (hra.new_ (ao.transNew hn)) (by omega) fun cz cA hme => ⟨cz, cA, rfl, hme⟩)) ?_
 refine .o1 (tk rfl rfl fun _ w hn k => (by
       obtain ⟨dG, dH, cB, bL⟩ : (EP (.int .u32 ((a.getD (((n : Int) - 1 : Int).toNat) 0 : Nat) : Int))) _ _ := k.dep 2 35 (by kernel_rfl) (by kernel_rfl)
       exact ⟨_, v_load rfl cB (l_one Tryd.isAgg53 bL.1), rfl⟩)) ?_
 refine .t (fun _ w hn k => ⟨_, v_conv rfl (k.eq1 3 36 rfl) (n_conv (by kernel_rfl) (by kernel_rfl) (by kernel_rfl) (IntWalk.i64_in _ (by omega))), rfl⟩) <| .m (fun k => k.fx 1 bJ) <| .m (fun k => k.fx 5 aN) ?_
 refine .o1 (tk rfl rfl fun _ w hn k => (by
       exact x_eaddr (k := .u32) rfl elW (k.eq1 5 38 rfl) (k.eq1 6 39 rfl) (hrb.new_ (ao.transNew hn)) (by omega) fun cC cD hme => ⟨cC, cD, rfl, hme⟩)) ?_
 refine .o1 (tk rfl rfl fun _ w hn k => (by
       obtain ⟨dI, dJ, cE, bM⟩ : (EP (.int .u32 ((b.getD (((n : Int) - 1 : Int).toNat) 0 : Nat) : Int))) _ _ := k.dep 7 40 (by kernel_rfl) (by kernel_rfl)
       exact ⟨_, v_load rfl cE (l_one Tryd.isAgg53 bM.1), rfl⟩)) ?_
 exact .t (fun _ w hn k => ⟨_, v_conv rfl (k.eq1 8 41 rfl) (n_conv (by kernel_rfl) (by kernel_rfl) (by kernel_rfl) (IntWalk.i64_in _ (by omega))), rfl⟩) <| .t (fun _ w hn k => ⟨_, v_bin rfl (k.eq1 4 37 rfl) (k.eq1 9 42 rfl) (fun _ => rfl) (r_sub rfl (by omega)), rfl⟩) <| .o1 (ck rfl rfl rfl (fun _ w hn k => ⟨#[iv (((a.getD (((n : Int) - 1 : Int).toNat) 0 : Nat) : Int) - ((b.getD (((n : Int) - 1 : Int).toNat) 0 : Nat) : Int))], args1 (k.eq1 10 43 rfl), fun _ => by kernel_rfl, bsign_c (((a.getD (((n : Int) - 1 : Int).toNat) 0 : Nat) : Int) - ((b.getD (((n : Int) - 1 : Int).toNat) 0 : Nat) : Int)) _ ⟩) fun _ => rfl) <| .a (fun k => k.eq1 11 44 rfl) .nil
 refine aftI az aU ao fun cX cY cG aW aX cH aY => ?_
 have bN := aY.ge 12 4 rfl
 refine st_nil (aV _ _ ?_)
 refine wp_ret (ret_k aW (v := iv (cmpI1 (((a.getD (((n : Int) - 1 : Int).toNat) 0 : Nat) : Int) - ((b.getD (((n : Int) - 1 : Int).toNat) 0 : Nat) : Int)))) (res_t rfl bN _) ?_)
 exact ⟨congrArg (fun z => Ending.returned (iv z)) (cmp_at ha hb hab (by omega) ac), aX⟩
 have aO := oF af
 refine wp_g0 [true, true, true, true, true] [] 45
   [ve (sv Aa a ca), ve (iv (a.length : Int)), ve (sv Ab b cb), ve (iv (b.length : Int)), vT] av (.eq (.eq (.eq (.eq (.eq (.nil)))))) ?_ ?_
 exact .m (fun k => k.fx 0 h8) <| .t (fun _ w hn k => ⟨_, v_lenR rfl elW (k.eq1 0 6 rfl), rfl⟩) <| .m (fun k => k.fx 1 h9) <| .t (fun _ w hn k => ⟨_, v_lenR rfl elW (k.eq1 2 8 rfl), rfl⟩) <| .t (fun _ w hn k => ⟨_, v_bin rfl (k.eq1 1 7 rfl) (k.eq1 3 9 rfl) (fun _ => rfl) (r_neq af), rfl⟩) .nil
 refine aftI av a7 aB fun cZ c0 aA aZ a1 cI ap => ?_
 have bO := ap.fx 0 h8
 have bP := ap.fx 1 h9
 have bQ := ap.ge 4 10 rfl
 refine st_nil (aC _ _ ?_)
 refine wp_cond_true bQ ?_
 refine wp_seq_k fun c1 a3 => ?_
 refine wp_g0 [true, true, true, true, true, true, true] [] 45
   [ve (sv Aa a ca), ve (iv (a.length : Int)), ve (sv Ab b cb), ve (iv (b.length : Int)), ve (iv ((a.length : Int) - (b.length : Int))), ve (iv (cmpI1 ((a.length : Int) - (b.length : Int)))), ve (iv (cmpI1 ((a.length : Int) - (b.length : Int))))] aA (.eq (.eq (.eq (.eq (.eq (.eq (.eq (.nil)))))))) ?_ ?_
 exact .m (fun k => k.fx 0 bO) <| .t (fun _ w hn k => ⟨_, v_lenR rfl elW (k.eq1 0 11 rfl), rfl⟩) <| .m (fun k => k.fx 1 bP) <| .t (fun _ w hn k => ⟨_, v_lenR rfl elW (k.eq1 2 13 rfl), rfl⟩) <| .t (fun _ w hn k => ⟨_, v_bin rfl (k.eq1 1 12 rfl) (k.eq1 3 14 rfl) (fun _ => rfl) (r_sub rfl (by omega)), rfl⟩) <| .o1 (ck rfl rfl rfl (fun _ w hn k => ⟨#[iv ((a.length : Int) - (b.length : Int))], args1 (k.eq1 4 15 rfl), fun _ => by kernel_rfl, bsign_c ((a.length : Int) - (b.length : Int)) _ ⟩) fun _ => rfl) <| .a (fun k => k.eq1 5 16 rfl) .nil
 refine aftI aA aZ a1 fun c2 c3 cJ a4 a5 cK a6 => ?_
 have bR := a6.ge 6 4 rfl
 refine st_nil (a3 _ _ ?_)
 refine wp_ret (ret_k a4 (v := iv (cmpI1 ((a.length : Int) - (b.length : Int)))) (res_t rfl bR _) ?_)
 exact ⟨congrArg (fun z => Ending.returned (iv z)) (cmp_len ha hb hta htb (by omega)), a5⟩
theorem bCmp_c (a : Bool) (Aa : Option Addr) (ma : List Nat) (ca : Nat) (b : Bool) (Ab : Option Addr) (mb : List Nat) (cb : Nat) (w : World) (hra : SRow w .u32 Aa ma ca) (hrb : SRow w .u32 Ab mb cb) (ha : Limbs ma) (hb : Limbs mb) (hsa : ma.length ≤ 1000000) (hsb : mb.length ≤ 1000000) : Calls Tryd.prog 75 #[.agg #[.bool a, sv Aa ma ca], .agg #[.bool b, sv Ab mb cb]] w (IsRet (iv (cmpZ (goodI a ma) (goodI b mb))) w) := by
 refine enter_abs Tryd.func75 rfl fun a0 aB cp hp => ?_
 have aB : a0.tmps.size = 35 := aB
 have aQ : New w w := Upd.refl _ _
 have hp0 : a0.eval (.tmp 0) = .agg #[.bool a, sv Aa ma ca] := hp 0 _ rfl
 have hp1 : a0.eval (.tmp 1) = .agg #[.bool b, sv Ab mb cb] := hp 1 _ rfl
 refine wp_seq_k fun K1 cq => ?_
 refine wp_g [true, true, true] [] [] 35
   [IsNew w 26 [.bool a, sv Aa ma ca], IsNew w 26 [.bool b, sv Ab mb cb], ve (iv 0)]
   [0, 1] (newsCons (fun v w h => IsNew.old h) (newsCons (fun v w h => IsNew.old h) newsNil)) aB (.nw (.nw (.eq (.nil)))) ?_ (fun i h => by cases h) ?_
 exact .o2 (step_allocN (cs := [.bool a, sv Aa ma ca]) (t := 26) rfl (noG rfl) (fun _ w hn k => v_box rfl (k.fx 0 hp0) (fun w => rfl)) (fun q _ hq hb => ⟨q, rfl, hq, hb⟩)) <| .o2 (step_allocN (cs := [.bool b, sv Ab mb cb]) (t := 26) rfl (noG rfl) (fun _ w hn k => v_box rfl (k.fx 1 hp1) (fun w => rfl)) (fun q _ hq hb => ⟨q, rfl, hq, hb⟩)) <| .t (fun _ w hn k => ⟨_, v_assign rfl rfl, rfl⟩) .nil
 refine aftI aB cp aQ fun a2 w3 bD cr aq dC bE => ?_
 obtain ⟨q9, h8, bI, aR⟩ : IsNew _ _ _ _ _ := bE.got 0 2 rfl (by kernel_rfl)
 obtain ⟨dD, bF, bJ, aS⟩ : IsNew _ _ _ _ _ := bE.got 1 3 rfl (by kernel_rfl)
 have dc := Nat.le_trans aQ.size bI
 have dd := Nat.le_trans aQ.size bJ
 refine st_nil (cq _ _ (wp_seq_k fun dE bK => ?_))
 refine wp_g0 [true, true, true, true, true, true] [] 35
   [ve (.agg #[.bool a, sv Aa ma ca]), ve (.bool (mayB a ma && a)), ve (.agg #[.bool b, sv Ab mb cb]), ve (.bool (mayB b mb && b)), ve (.bool (mayB a ma && a)), ve (.bool (mayB b mb && b))] bD (.eq (.eq (.eq (.eq (.eq (.eq (.nil))))))) ?_ ?_
 exact .t (fun _ w hn k => ⟨_, v_load rfl (k.fx 2 h8) (l_two Tryd.isAgg26 Tryd.sizeOf26 (aR.new_ hn)), rfl⟩) <| .o1 (ck rfl rfl rfl (fun _ w hn k => ⟨#[.agg #[.bool a, sv Aa ma ca]], args1 (k.eq1 0 7 rfl), fun _ => by kernel_rfl, bneg_c a _ ma _ _ (hra.new_ (aq.transNew hn))⟩) fun _ => rfl) <| .t (fun _ w hn k => ⟨_, v_load rfl (k.fx 3 bF) (l_two Tryd.isAgg26 Tryd.sizeOf26 (aS.new_ hn)), rfl⟩) <| .o1 (ck rfl rfl rfl (fun _ w hn k => ⟨#[.agg #[.bool b, sv Ab mb cb]], args1 (k.eq1 2 9 rfl), fun _ => by kernel_rfl, bneg_c b _ mb _ _ (hrb.new_ (aq.transNew hn))⟩) fun _ => rfl) <| .a (fun k => k.eq1 1 8 rfl) <| .a (fun k => k.eq1 3 10 rfl) .nil
 refine aftI bD cr aq fun dF dG ae ar au aT ak => ?_
 have aU := ak.fx 2 h8
 have aV := ak.fx 3 bF
 have bG := ak.ge 4 5 rfl
 have aW := ak.ge 5 6 rfl
 have av := aR.new_ aT
 have aw := aS.new_ aT
 refine st_nil (bK _ _ (wp_seq_k fun dH bL => ?_))
 refine wp_block ?_
 refine wp_seq_k fun dI ax => ?_
 rcases bc ((mayB a ma && a)) with aa | aa
 have al := hB bG aa
 rcases bc ((mayB b mb && b)) with ac | ac
 have aX := hB aW ac
 refine wp_g0 [true, true, true, true, true, true] [] 35
   [vT, vT, vT, vF, vF, vF] ae (.eq (.eq (.eq (.eq (.eq (.eq (.nil))))))) ?_ ?_
 exact .m (fun k => k.fx 5 al) <| .m (fun k => k.eq1 0 12 rfl) <| .gm (fun k => k.eq1 1 13 rfl) (fun k => k.fx 6 aX) <| .g (fun k => k.eq1 1 13 rfl) (fun _ w hn k => ⟨_, v_not rfl (k.eq1 2 14 rfl), rfl⟩) <| .t (fun _ w hn k => ⟨_, v_pickT rfl (k.eq1 1 13 rfl) (k.eq1 3 15 rfl), rfl⟩) <| .a (fun k => k.eq1 4 16 rfl) .nil
 refine aftI ae ar au fun dJ dK aY bM bN aZ ai => ?_
 have ct := ai.fx 2 aU
 have cu := ai.fx 3 aV
 have bH := ai.fx 5 al
 have cv := ai.fx 6 aX
 have cw := ai.ge 5 11 rfl
 have bO := av.new_ aZ
 have bP := aw.new_ aZ
 refine st_nil (ax _ _ ?_)
 refine wp_cond_false cw ?_
 refine wp_seq_k fun dL bQ => ?_
 refine wp_g0 [true, true, true, true, true, true] [] 35
   [vT, vT, vT, vF, vF, vF] aY (.eq (.eq (.eq (.eq (.eq (.eq (.nil))))))) ?_ ?_
 exact .m (fun k => k.fx 6 cv) <| .m (fun k => k.eq1 0 18 rfl) <| .gm (fun k => k.eq1 1 19 rfl) (fun k => k.fx 5 bH) <| .g (fun k => k.eq1 1 19 rfl) (fun _ w hn k => ⟨_, v_not rfl (k.eq1 2 20 rfl), rfl⟩) <| .t (fun _ w hn k => ⟨_, v_pickT rfl (k.eq1 1 19 rfl) (k.eq1 3 21 rfl), rfl⟩) <| .a (fun k => k.eq1 4 22 rfl) .nil
 refine aftI aY bM bN fun dM dN a1 bR bS a3 am => ?_
 have cx := am.fx 2 ct
 have cy := am.fx 3 cu
 have cz := am.fx 5 bH
 have cA := am.ge 5 17 rfl
 have bT := bO.new_ a3
 have bU := bP.new_ a3
 refine st_nil (bQ _ _ ?_)
 refine wp_cond_false cA ?_
 refine wp_seq_k fun dO bV => ?_
 refine wp_g0 [true, true] [] 35
   [vT, vT] a1 (.eq (.eq (.nil))) ?_ ?_
 exact .m (fun k => k.fx 5 cz) <| .a (fun k => k.eq1 0 24 rfl) .nil
 refine aftI a1 bR bS fun dP aC a4 bW ay a5 az => ?_
 have cB := az.fx 2 cx
 have cC := az.fx 3 cy
 have cD := az.ge 1 23 rfl
 have bX := bT.new_ a5
 have bY := bU.new_ a5
 refine st_nil (bV _ _ ?_)
 refine wp_cond_true cD ?_
 refine wp_seq_k fun dQ bZ => ?_
 refine wp_g0 [true, true, true, true, true, true] [] 35
   [ve (.agg #[.bool b, sv Ab mb cb]),
    (OP aC.heap.size 53 .u32 (canon (goodI b mb).natAbs)), ve (.agg #[.bool a, sv Aa ma ca]),
    (OP aC.heap.size 53 .u32 (canon (goodI a ma).natAbs)), ve (iv (cmpI (val (canon (goodI b mb).natAbs)) (val (canon (goodI a ma).natAbs)))), ve (iv (cmpI (val (canon (goodI b mb).natAbs)) (val (canon (goodI a ma).natAbs))))] a4 (.eq (.cons (fun _ _ _ n ⟨_, _, e, h⟩ => ⟨_, _, e, h.new_ n⟩) (.eq (.cons (fun _ _ _ n ⟨_, _, e, h⟩ => ⟨_, _, e, h.new_ n⟩) (.eq (.eq (.nil))))))) ?_ ?_
 refine .t (fun _ w hn k => ⟨_, v_load rfl (k.fx 3 cC) (l_two Tryd.isAgg26 Tryd.sizeOf26 (bY.new_ hn)), rfl⟩) ?_
 refine .o1 (tkC rfl (noG rfl) rfl fun _ w hn k => (by
       refine ⟨#[.agg #[.bool b, sv Ab mb cb]], _, args1 (k.eq1 0 25 rfl), fun w => by kernel_rfl, bmag_c b _ mb _ _ (hrb.new_ (ay.transNew hn)) hb (by first | omega | (simp only [List.length_nil, List.length_take, List.length_drop]; omega) | (simp only [List.length_cons, List.length_nil]; omega)), ?_⟩
       rintro e w' ⟨A1, c2, rfl, hmo0, hm⟩
       exact ⟨_, rfl, hm, ⟨A1, c2, rfl, (hmo0.more hn.size)⟩⟩)) ?_
 refine .t (fun _ w hn k => ⟨_, v_load rfl (k.fx 2 cB) (l_two Tryd.isAgg26 Tryd.sizeOf26 (bX.new_ hn)), rfl⟩) ?_
 refine .o1 (tkC rfl (noG rfl) rfl fun _ w hn k => (by
       refine ⟨#[.agg #[.bool a, sv Aa ma ca]], _, args1 (k.eq1 2 27 rfl), fun w => by kernel_rfl, bmag_c a _ ma _ _ (hra.new_ (ay.transNew hn)) ha (by first | omega | (simp only [List.length_nil, List.length_take, List.length_drop]; omega) | (simp only [List.length_cons, List.length_nil]; omega)), ?_⟩
       rintro e w' ⟨A5, c6, rfl, hmo0, hm⟩
       exact ⟨_, rfl, hm, ⟨A5, c6, rfl, (hmo0.more hn.size)⟩⟩)) ?_
 refine .o1 (tkC rfl (noG rfl) rfl fun _ w hn k => (by
       obtain ⟨A9, cE, cF, b0⟩ : (OP aC.heap.size 53 .u32 (canon (goodI b mb).natAbs)) _ _ := k.dep 1 26 (by kernel_rfl) (by kernel_rfl)
       obtain ⟨cG, cH, cI, b1⟩ : (OP aC.heap.size 53 .u32 (canon (goodI a ma).natAbs)) _ _ := k.dep 3 28 (by kernel_rfl) (by kernel_rfl)
       refine ⟨#[sv A9 (canon (goodI b mb).natAbs) cE, sv cG (canon (goodI a ma).natAbs) cH], _, args2 cF cI, fun w => by kernel_rfl, bcmp_c _ (canon (goodI b mb).natAbs) _ _ (canon (goodI a ma).natAbs) _ _ b0.row b1.row (limbs_canon _) (limbs_canon _) (trim_canon _) (trim_canon _), ?_⟩
       rintro e w' ⟨rfl, hm⟩
       exact ⟨_, rfl, hm, rfl⟩)) ?_
 exact .a (fun k => k.eq1 4 29 rfl) .nil
 refine aftI a4 bW ay fun dR dS de b2 b3 df b4 => ?_
 have cJ := b4.ge 5 4 rfl
 refine st_nil (bZ _ _ ?_)
 refine wp_ret (ret_k b2 (v := iv (cmpI (val (canon (goodI b mb).natAbs)) (val (canon (goodI a ma).natAbs)))) (res_t rfl cJ _) ?_)
 rw [← neg_good ha] at aa
 rw [← neg_good hb] at ac
 exact ⟨congrArg (fun z => Ending.returned (iv z)) (by rw [val_canon, val_canon]; exact cmpZ_nn (oT aa) (oT ac)), b3⟩
 have a6 := hB aW ac
 refine wp_g0 [true, true, true, true, true, true] [] 35
   [vT, vT, vF, vT, vT, vT] ae (.eq (.eq (.eq (.eq (.eq (.eq (.nil))))))) ?_ ?_
 exact .m (fun k => k.fx 5 al) <| .m (fun k => k.eq1 0 12 rfl) <| .gm (fun k => k.eq1 1 13 rfl) (fun k => k.fx 6 a6) <| .g (fun k => k.eq1 1 13 rfl) (fun _ w hn k => ⟨_, v_not rfl (k.eq1 2 14 rfl), rfl⟩) <| .t (fun _ w hn k => ⟨_, v_pickT rfl (k.eq1 1 13 rfl) (k.eq1 3 15 rfl), rfl⟩) <| .a (fun k => k.eq1 4 16 rfl) .nil
 refine aftI ae ar au fun dT dU a7 b5 bd a8 aj => ?_
 have dV := aj.fx 2 aU
 have dW := aj.fx 3 aV
 have dX := aj.fx 5 al
 have dY := aj.fx 6 a6
 have b6 := aj.ge 5 11 rfl
 have cY := av.new_ a8
 have cZ := aw.new_ a8
 refine st_nil (ax _ _ ?_)
 refine wp_cond_true b6 ?_
 refine wp_seq_k fun dg be => ?_
 refine wp_g0 [true] [] 35
   [ve (iv (-1))] a7 (.eq (.nil)) ?_ ?_
 exact .t (fun _ w hn k => ⟨_, v_assign rfl rfl, rfl⟩) .nil
 refine aftI a7 b5 bd fun dh di c0 bf bg c1 bh => ?_
 have b7 := bh.ge 0 4 rfl
 refine st_nil (be _ _ ?_)
 refine wp_ret (ret_k bf (v := iv (-1)) (res_t rfl b7 _) ?_)
 rw [← neg_good ha] at aa
 rw [← neg_good hb] at ac
 exact ⟨by rw [show cmpZ (goodI a ma) (goodI b mb) = -1 from cmpZ_np (oT aa) (oF ac)], bg⟩
 have aD := hB bG aa
 refine wp_g0 [true, true, true, true, true, true] [] 35
   [vF, vF, vU, vU, vF, vF] ae (.eq (.eq (.eq (.eq (.eq (.eq (.nil))))))) ?_ ?_
 exact .m (fun k => k.fx 5 aD) <| .m (fun k => k.eq1 0 12 rfl) <| .s (fun k => k.eq1 1 13 rfl) <| .s (fun k => k.eq1 1 13 rfl) <| .t (fun _ w hn k => ⟨_, v_pickF rfl (k.eq1 1 13 rfl) rfl, rfl⟩) <| .a (fun k => k.eq1 4 16 rfl) .nil
 refine aftI ae ar au fun dj dk af aE aF aG ad => ?_
 have a9 := ad.fx 2 aU
 have ba := ad.fx 3 aV
 have aA := ad.fx 5 aD
 have bb := ad.fx 6 aW
 have b8 := ad.ge 5 11 rfl
 have aH := av.new_ aG
 have aI := aw.new_ aG
 refine st_nil (ax _ _ ?_)
 refine wp_cond_false b8 ?_
 refine wp_seq_k fun dl aJ => ?_
 rcases bc ((mayB b mb && b)) with ab | ab
 have bi := hB bb ab
 refine wp_g0 [true, true, true, true, true, true] [] 35
   [vT, vT, vF, vT, vT, vT] af (.eq (.eq (.eq (.eq (.eq (.eq (.nil))))))) ?_ ?_
 exact .m (fun k => k.fx 6 bi) <| .m (fun k => k.eq1 0 18 rfl) <| .gm (fun k => k.eq1 1 19 rfl) (fun k => k.fx 5 aA) <| .g (fun k => k.eq1 1 19 rfl) (fun _ w hn k => ⟨_, v_not rfl (k.eq1 2 20 rfl), rfl⟩) <| .t (fun _ w hn k => ⟨_, v_pickT rfl (k.eq1 1 19 rfl) (k.eq1 3 21 rfl), rfl⟩) <| .a (fun k => k.eq1 4 22 rfl) .nil
 refine aftI af aE aF fun dm dn aK bj bk aL ag => ?_
 have dp := ag.fx 2 a9
 have dq := ag.fx 3 ba
 have dr := ag.fx 5 aA
 have b9 := ag.ge 5 17 rfl
 have c3 := aH.new_ aL
 have c5 := aI.new_ aL
 refine st_nil (aJ _ _ ?_)
 refine wp_cond_true b9 ?_
 refine wp_seq_k fun ds bl => ?_
 refine wp_g0 [true] [] 35
   [ve (iv 1)] aK (.eq (.nil)) ?_ ?_
 exact .t (fun _ w hn k => ⟨_, v_assign rfl rfl, rfl⟩) .nil
 refine aftI aK bj bk fun dt du c7 bm bn c9 bo => ?_
 have cc := bo.ge 0 4 rfl
 refine st_nil (bl _ _ ?_)
 refine wp_ret (ret_k bm (v := iv 1) (res_t rfl cc _) ?_)
 rw [← neg_good ha] at aa
 rw [← neg_good hb] at ab
 exact ⟨by rw [show cmpZ (goodI a ma) (goodI b mb) = 1 from cmpZ_pn (oF aa) (oT ab)], bn⟩
 have bp := hB bb ab
 refine wp_g0 [true, true, true, true, true, true] [] 35
   [vF, vF, vU, vU, vF, vF] af (.eq (.eq (.eq (.eq (.eq (.eq (.nil))))))) ?_ ?_
 exact .m (fun k => k.fx 6 bp) <| .m (fun k => k.eq1 0 18 rfl) <| .s (fun k => k.eq1 1 19 rfl) <| .s (fun k => k.eq1 1 19 rfl) <| .t (fun _ w hn k => ⟨_, v_pickF rfl (k.eq1 1 19 rfl) rfl, rfl⟩) <| .a (fun k => k.eq1 4 22 rfl) .nil
 refine aftI af aE aF fun dv dw aM bq br aN ah => ?_
 have cd := ah.fx 2 a9
 have ce := ah.fx 3 ba
 have cf := ah.fx 5 aA
 have ch := ah.ge 5 17 rfl
 have bs := aH.new_ aN
 have bt := aI.new_ aN
 refine st_nil (aJ _ _ ?_)
 refine wp_cond_false ch ?_
 refine wp_seq_k fun dx bu => ?_
 refine wp_g0 [true, true] [] 35
   [vF, vF] aM (.eq (.eq (.nil))) ?_ ?_
 exact .m (fun k => k.fx 5 cf) <| .a (fun k => k.eq1 0 24 rfl) .nil
 refine aftI aM bq br fun dy an aO bv ao aP ap => ?_
 have ci := ap.fx 2 cd
 have cj := ap.fx 3 ce
 have cl := ap.ge 1 23 rfl
 have bw := bs.new_ aP
 have bx := bt.new_ aP
 refine st_nil (bu _ _ ?_)
 refine wp_cond_false cl ?_
 refine wp_skip ?_
 refine bL _ _ ?_
 refine wp_seq_k fun dz bz => ?_
 refine wp_g0 [true, true, true, true, true, true] [] 35
   [ve (.agg #[.bool a, sv Aa ma ca]),
    (OP an.heap.size 53 .u32 (canon (goodI a ma).natAbs)), ve (.agg #[.bool b, sv Ab mb cb]),
    (OP an.heap.size 53 .u32 (canon (goodI b mb).natAbs)), ve (iv (cmpI (val (canon (goodI a ma).natAbs)) (val (canon (goodI b mb).natAbs)))), ve (iv (cmpI (val (canon (goodI a ma).natAbs)) (val (canon (goodI b mb).natAbs))))] aO (.eq (.cons (fun _ _ _ n ⟨_, _, e, h⟩ => ⟨_, _, e, h.new_ n⟩) (.eq (.cons (fun _ _ _ n ⟨_, _, e, h⟩ => ⟨_, _, e, h.new_ n⟩) (.eq (.eq (.nil))))))) ?_ ?_
 refine .t (fun _ w hn k => ⟨_, v_load rfl (k.fx 2 ci) (l_two Tryd.isAgg26 Tryd.sizeOf26 (bw.new_ hn)), rfl⟩) ?_
 refine .o1 (tkC rfl (noG rfl) rfl fun _ w hn k => (by
       refine ⟨#[.agg #[.bool a, sv Aa ma ca]], _, args1 (k.eq1 0 30 rfl), fun w => by kernel_rfl, bmag_c a _ ma _ _ (hra.new_ (ao.transNew hn)) ha (by first | omega | (simp only [List.length_nil, List.length_take, List.length_drop]; omega) | (simp only [List.length_cons, List.length_nil]; omega)), ?_⟩
       rintro e w' ⟨cO, cP, rfl, hmo0, hm⟩
       exact ⟨_, rfl, hm, ⟨cO, cP, rfl, (hmo0.more hn.size)⟩⟩)) ?_
 refine .t (fun _ w hn k => ⟨_, v_load rfl (k.fx 3 cj) (l_two Tryd.isAgg26 Tryd.sizeOf26 (bx.new_ hn)), rfl⟩) ?_
 refine .o1 (tkC rfl (noG rfl) rfl fun _ w hn k => (by
       refine ⟨#[.agg #[.bool b, sv Ab mb cb]], _, args1 (k.eq1 2 32 rfl), fun w => by kernel_rfl, bmag_c b _ mb _ _ (hrb.new_ (ao.transNew hn)) hb (by first | omega | (simp only [List.length_nil, List.length_take, List.length_drop]; omega) | (simp only [List.length_cons, List.length_nil]; omega)), ?_⟩
       rintro e w' ⟨cQ, cR, rfl, hmo0, hm⟩
       exact ⟨_, rfl, hm, ⟨cQ, cR, rfl, (hmo0.more hn.size)⟩⟩)) ?_
 refine .o1 (tkC rfl (noG rfl) rfl fun _ w hn k => (by
       obtain ⟨cS, cT, cU, cm⟩ : (OP an.heap.size 53 .u32 (canon (goodI a ma).natAbs)) _ _ := k.dep 1 31 (by kernel_rfl) (by kernel_rfl)
       obtain ⟨cV, cW, cX, cn⟩ : (OP an.heap.size 53 .u32 (canon (goodI b mb).natAbs)) _ _ := k.dep 3 33 (by kernel_rfl) (by kernel_rfl)
       refine ⟨#[sv cS (canon (goodI a ma).natAbs) cT, sv cV (canon (goodI b mb).natAbs) cW], _, args2 cU cX, fun w => by kernel_rfl, bcmp_c _ (canon (goodI a ma).natAbs) _ _ (canon (goodI b mb).natAbs) _ _ cm.row cn.row (limbs_canon _) (limbs_canon _) (trim_canon _) (trim_canon _), ?_⟩
       rintro e w' ⟨rfl, hm⟩
       exact ⟨_, rfl, hm, rfl⟩)) ?_
 exact .a (fun k => k.eq1 4 34 rfl) .nil
 refine aftI aO bv ao fun dA dB da bA bB db bC => ?_
 have co := bC.ge 5 4 rfl
 refine st_nil (bz _ _ ?_)
 refine wp_ret (ret_k bA (v := iv (cmpI (val (canon (goodI a ma).natAbs)) (val (canon (goodI b mb).natAbs)))) (res_t rfl co _) ?_)
 rw [← neg_good ha] at aa
 rw [← neg_good hb] at ab
 exact ⟨congrArg (fun z => Ending.returned (iv z)) (by rw [val_canon, val_canon]; exact cmpZ_pp (oF aa) (oF ab)), bB⟩
theorem bSame_c (a : Bool) (Aa : Option Addr) (ma : List Nat) (ca : Nat) (b : Bool) (Ab : Option Addr) (mb : List Nat) (cb : Nat) (w : World) (hra : SRow w .u32 Aa ma ca) (hrb : SRow w .u32 Ab mb cb) (ha : Limbs ma) (hb : Limbs mb) (hsa : ma.length ≤ 1000000) (hsb : mb.length ≤ 1000000) : Calls Tryd.prog 49 #[.agg #[.bool a, sv Aa ma ca], .agg #[.bool b, sv Ab mb cb]] w (IsRet (.bool (decide (goodI a ma = goodI b mb))) w) := by
 refine enter_abs Tryd.func49 rfl fun a0 ab an hp => ?_
 have ab : a0.tmps.size = 9 := ab
 have ac : New w w := Upd.refl _ _
 have hp0 : a0.eval (.tmp 0) = .agg #[.bool a, sv Aa ma ca] := hp 0 _ rfl
 have hp1 : a0.eval (.tmp 1) = .agg #[.bool b, sv Ab mb cb] := hp 1 _ rfl
 refine wp_seq_k fun K1 ao => ?_
 refine wp_g [true, true, true] [] [] 9
   [IsNew w 26 [.bool a, sv Aa ma ca], IsNew w 26 [.bool b, sv Ab mb cb], vF]
   [0, 1] (newsCons (fun v w h => IsNew.old h) (newsCons (fun v w h => IsNew.old h) newsNil)) ab (.nw (.nw (.eq (.nil)))) ?_ (fun i h => by cases h) ?_
 exact .o2 (step_allocN (cs := [.bool a, sv Aa ma ca]) (t := 26) rfl (noG rfl) (fun _ w hn k => v_box rfl (k.fx 0 hp0) (fun w => rfl)) (fun q _ hq hb => ⟨q, rfl, hq, hb⟩)) <| .o2 (step_allocN (cs := [.bool b, sv Ab mb cb]) (t := 26) rfl (noG rfl) (fun _ w hn k => v_box rfl (k.fx 1 hp1) (fun w => rfl)) (fun q _ hq hb => ⟨q, rfl, hq, hb⟩)) <| .t (fun _ w hn k => ⟨_, v_assign rfl rfl, rfl⟩) .nil
 refine aftI ab an ac fun a2 w3 ad ap aa ay ae => ?_
 obtain ⟨q9, h8, af, ag⟩ : IsNew _ _ _ _ _ := ae.got 0 2 rfl (by kernel_rfl)
 obtain ⟨az, aq, ah, ai⟩ : IsNew _ _ _ _ _ := ae.got 1 3 rfl (by kernel_rfl)
 have au := Nat.le_trans ac.size af
 have av := Nat.le_trans ac.size ah
 refine st_nil (ao _ _ (wp_seq_k fun aA aj => ?_))
 refine wp_g0 [true, true, true, true, true] [] 9
   [ve (.agg #[.bool a, sv Aa ma ca]), ve (.agg #[.bool b, sv Ab mb cb]), ve (iv (cmpZ (goodI a ma) (goodI b mb))), ve (.bool (decide ((cmpZ (goodI a ma) (goodI b mb)) = 0))), ve (.bool (decide ((cmpZ (goodI a ma) (goodI b mb)) = 0)))] ad (.eq (.eq (.eq (.eq (.eq (.nil)))))) ?_ ?_
 exact .t (fun _ w hn k => ⟨_, v_load rfl (k.fx 2 h8) (l_two Tryd.isAgg26 Tryd.sizeOf26 (ag.new_ hn)), rfl⟩) <| .t (fun _ w hn k => ⟨_, v_load rfl (k.fx 3 aq) (l_two Tryd.isAgg26 Tryd.sizeOf26 (ai.new_ hn)), rfl⟩) <| .o1 (ck rfl rfl rfl (fun _ w hn k => ⟨#[.agg #[.bool a, sv Aa ma ca], .agg #[.bool b, sv Ab mb cb]], args2 (k.eq1 0 5 rfl) (k.eq1 1 6 rfl), fun _ => by kernel_rfl, bCmp_c a _ ma _ b _ mb _ _ (hra.new_ (aa.transNew hn)) (hrb.new_ (aa.transNew hn)) ha hb (by first | omega | (simp only [List.length_nil, List.length_take, List.length_drop]; omega) | (simp only [List.length_cons, List.length_nil]; omega)) (by first | omega | (simp only [List.length_nil, List.length_take, List.length_drop]; omega) | (simp only [List.length_cons, List.length_nil]; omega))⟩) fun _ => rfl) <| .t (fun _ w hn k => ⟨_, v_bin rfl (k.eq1 2 7 rfl) rfl (fun _ => rfl) (r_eql rfl), rfl⟩) <| .a (fun k => k.eq1 3 8 rfl) .nil
 refine aftI ad ap aa fun aB aC aw ak al ax am => ?_
 have ar := am.ge 4 4 rfl
 refine st_nil (aj _ _ ?_)
 refine wp_ret (ret_k ak (v := .bool (decide ((cmpZ (goodI a ma) (goodI b mb)) = 0))) (res_t rfl ar _) ?_)
 exact ⟨by rw [show (decide (cmpZ (goodI a ma) (goodI b mb) = 0)) = decide (goodI a ma = goodI b mb) from same_cmp _ _], al⟩
def bOf_c_P (n : Int) (w : World) (en : Ending) (w' : World) : Prop := ∃ (Ar0 : Option Addr) (cr0 : Nat), en = .returned (.agg #[.bool (decide (n < 0)), sv Ar0 (canon (n).natAbs) cr0]) ∧ SRow w' .u32 Ar0 (canon (n).natAbs) cr0 ∧ New w w'
theorem bOf_c (n : Int) (w : World) (hlo : -9223372036854775808 ≤ n) (hhi : n ≤ 9223372036854775807) : Calls Tryd.prog 43 #[iv n] w (bOf_c_P n w) := by
 refine enter_abs Tryd.func43 rfl fun a0 ao bC hp => ?_
 have ao : a0.tmps.size = 19 := ao
 have aP : New w w := Upd.refl _ _
 have hp0 : a0.eval (.tmp 0) = iv n := hp 0 _ rfl
 have hmd : 0 ≤ n % 18446744073709551616 ∧ n % 18446744073709551616 < 18446744073709551616 := by omega
 refine wp_seq_k fun K1 bD => ?_
 refine wp_g [true] [] [] 19
   [IsNew w 26 [.bool false, sv none ([]) 0]]
   [0] (newsCons (fun v w h => IsNew.old h) newsNil) ao (.nw (.nil)) ?_ (fun i h => by cases h) ?_
 exact .o2 (step_allocN (cs := [.bool false, sv none ([]) 0]) (t := 26) rfl (noG rfl) (fun _ w hn k => rfl) (fun q _ hq hb => ⟨q, rfl, hq, hb⟩)) .nil
 refine aftI ao bC aP fun a2 w3 aQ bE a5 b6 aR => ?_
 have h8 := aR.fx 0 hp0
 obtain ⟨b7, h9, a6, a7⟩ : IsNew _ _ _ _ _ := aR.got 0 2 rfl (by kernel_rfl)
 have b0 := Nat.le_trans aP.size a6
 refine st_nil (bD _ _ (wp_seq_k fun b8 a8 => ?_))
 refine wp_g0 [true, true, true] [] 19
   [ve (iv n), ve (.int .u64 (((n % 18446744073709551616).toNat : Nat) : Int)), ve (.int .u64 (((n % 18446744073709551616).toNat : Nat) : Int))] aQ (.eq (.eq (.eq (.nil)))) ?_ ?_
 exact .m (fun k => k.fx 0 h8) <| .t (fun _ w hn k => ⟨_, v_conv rfl (k.eq1 0 4 rfl) (n_conv (by kernel_rfl) (by kernel_rfl) (by kernel_rfl) (of_conv n)), rfl⟩) <| .a (fun k => k.eq1 1 5 rfl) .nil
 refine aftI aQ bE a5 fun b9 ca ar a9 ba bb an => ?_
 have aS := an.fx 0 h8
 have bF := an.fx 2 h9
 have bG := an.ge 2 3 rfl
 have bd := a7.new_ bb
 refine st_nil (a8 _ _ (wp_seq_k fun cb au => ?_))
 refine wp_seq_k fun cc be => ?_
 refine wp_g0 [true, true] [] 19
   [ve (iv n), ve (.bool (decide (n < 0)))] ar (.eq (.eq (.nil))) ?_ ?_
 exact .m (fun k => k.fx 0 aS) <| .t (fun _ w hn k => ⟨_, v_bin rfl (k.eq1 0 6 rfl) rfl (fun _ => rfl) (r_lssK rfl), rfl⟩) .nil
 refine aftI ar a9 ba fun cd aT ak av aw bf al => ?_
 have aU := al.fx 0 aS
 have aV := al.fx 2 bF
 have ap := al.fx 3 bG
 have aW := al.ge 1 7 rfl
 have ax := bd.new_ bf
 refine st_nil (be _ _ ?_)
 rcases bc (decide (n < 0)) with aa | aa
 have aI := oT aa
 have bg := hB aW aa
 refine wp_cond_true bg ?_
 refine wp_g0 [true, true, false] [(2, true)] 19
   [ve (.int .u64 (((n % 18446744073709551616).toNat : Nat) : Int)), ve (.int .u64 (((-n).toNat : Nat) : Int)), vt] ak (.eq (.eq (.tt (.nil)))) ?_ ?_
 exact .m (fun k => k.fx 3 ap) <| .t (fun _ w hn k => ⟨_, v_negU rfl (k.eq1 0 8 rfl) (of_neg hlo (oT aa)), rfl⟩) <| .off .nil
 refine aftI ak av aw fun aX aY ay bh bi bj am => ?_
 have bH := am.fx 0 aU
 have bI := am.fx 2 aV
 have ce := am.fx 3 ap
 have aZ := am.ge 1 9 rfl
 have bk := ax.new_ bj
 refine st_take rfl rfl (y_assign (v := .int .u64 (((-n).toNat : Nat) : Int)) rfl aZ) rfl ?_
 obtain ⟨bJ, ab⟩ : ∃ a', a' = aX.put (some 3) (.int .u64 (((-n).toNat : Nat) : Int)) := ⟨_, rfl⟩
 have az := pz ab ay
 have bl := pd ab bh
 have bK := pn ab bH (by decide)
 have bL := pn ab bI (by decide)
 have cf := pn ab aZ (by decide)
 have a1 : bJ.eval (.tmp 3) = .int .u64 (((-n).toNat : Nat) : Int) := by rw [ab]; exact put_same _ _ _ (by rw [ay]; decide)
 show stepsTo _ _ _ _ _ (aX.put (some 3) (.int .u64 (((-n).toNat : Nat) : Int))) _
 rw [← ab]
 refine st_nil (au _ _ (wp_seq_k fun ch bm => ?_))
 refine wp_g0 [true, true, true, true, true, true, true, true, true, false] [(9, false)] 19
   [ve (.int .u64 (((-n).toNat : Nat) : Int)), ve (.int .u32 ((((-n).toNat) % 4294967296 : Nat) : Int)), ve (.int .u64 (((-n).toNat : Nat) : Int)), ve (.int .u64 ((((-n).toNat) / 4294967296 : Nat) : Int)), ve (.int .u32 (((((-n).toNat) / 4294967296) % 4294967296 : Nat) : Int)),
    (OP aY.heap.size 53 .u32 ([(((-n).toNat) % 4294967296), ((((-n).toNat) / 4294967296) % 4294967296)])), ve (iv n), vT, (fun (v_ : Value) (W : World) => ∃ (ae : Option Addr) (af : Nat), v_ = .agg #[.bool (decide (sgn true (val ([(((-n).toNat) % 4294967296), ((((-n).toNat) / 4294967296) % 4294967296)])) < 0)), sv ae (canon (sgn true (val ([(((-n).toNat) % 4294967296), ((((-n).toNat) / 4294967296) % 4294967296)]))).natAbs) af] ∧ SRow W .u32 ae (canon (sgn true (val ([(((-n).toNat) % 4294967296), ((((-n).toNat) / 4294967296) % 4294967296)]))).natAbs) af), vt] az (.eq (.eq (.eq (.eq (.eq (.cons (fun _ _ _ n ⟨_, _, e, h⟩ => ⟨_, _, e, h.new_ n⟩) (.eq (.eq (.cons (fun _ _ _ n ⟨_, _, e, h⟩ => ⟨_, _, e, h.new_ n⟩) (.tt (.nil))))))))))) ?_ ?_
 refine .m (fun k => k.fx 3 a1) <| .t (fun _ w hn k => ⟨_, v_conv rfl (k.eq1 0 10 rfl) (n_conv (by kernel_rfl) (by kernel_rfl) (by kernel_rfl) (n_wrap32 _)), rfl⟩) <| .m (fun k => k.fx 3 a1) <| .t (fun _ w hn k => ⟨_, v_bin rfl (k.eq1 2 12 rfl) rfl (fun _ => rfl) (n_shr ((-n).toNat) 32 (by decide)), rfl⟩) <| .t (fun _ w hn k => ⟨_, v_conv rfl (k.eq1 3 13 rfl) (n_conv (by kernel_rfl) (by kernel_rfl) (by kernel_rfl) (n_wrap32 _)), rfl⟩) ?_
 refine .o1 (tkA rfl (noG rfl) fun _ w hn k => (by
       exact x_bslice (k := .u32) (ps := [(0, .int .u32 ((((-n).toNat) % 4294967296 : Nat) : Int)), (1, .int .u32 (((((-n).toNat) / 4294967296) % 4294967296 : Nat) : Int))]) [(((-n).toNat) % 4294967296), ((((-n).toNat) / 4294967296) % 4294967296)] rfl (parts2 (k.eq1 1 11 rfl) (k.eq1 4 14 rfl)) elW rfl (by omega) (by omega) (by first | kernel_rfl | (simp only [enc, List.map_cons, List.map_nil, Int.toNat_natCast, Int.toNat_of_nonneg (by omega : (0 : Int) ≤ _)]; kernel_rfl)) fun A1 c2 W' hmo => ⟨A1, c2, rfl, (hmo.more hn.size)⟩)) ?_
 refine .m (fun k => k.fx 0 bK) <| .t (fun _ w hn k => ⟨_, v_bin rfl (k.eq1 6 16 rfl) rfl (fun _ => rfl) (r_lssK aa), rfl⟩) ?_
 refine .o1 (tkC rfl (noG rfl) rfl fun _ w hn k => (by
       obtain ⟨A5, c6, e7, bM⟩ : (OP aY.heap.size 53 .u32 ([(((-n).toNat) % 4294967296), ((((-n).toNat) / 4294967296) % 4294967296)])) _ _ := k.dep 5 15 (by kernel_rfl) (by kernel_rfl)
       refine ⟨#[sv A5 ([(((-n).toNat) % 4294967296), ((((-n).toNat) / 4294967296) % 4294967296)]) c6, .bool true], _, args2 e7 (k.eq1 7 17 rfl), fun w => by kernel_rfl, bmade_c _ ([(((-n).toNat) % 4294967296), ((((-n).toNat) / 4294967296) % 4294967296)]) _ true _ bM.row (two_limbs_m _), ?_⟩
       rintro e w' ⟨A9, bN, rfl, hmo0, hm⟩
       exact ⟨_, rfl, hm, ⟨A9, bN, rfl, hmo0⟩⟩)) ?_
 exact .off .nil
 refine aftI az bl bi fun bO ci b1 bn bo bp aA => ?_
 have a3 := aA.fx 2 bL
 obtain ⟨ai, ac, aB, bq⟩ : (fun (v_ : Value) (W : World) => ∃ (ae : Option Addr) (af : Nat), v_ = .agg #[.bool (decide (sgn true (val ([(((-n).toNat) % 4294967296), ((((-n).toNat) / 4294967296) % 4294967296)])) < 0)), sv ae (canon (sgn true (val ([(((-n).toNat) % 4294967296), ((((-n).toNat) / 4294967296) % 4294967296)]))).natAbs) af] ∧ SRow W .u32 ae (canon (sgn true (val ([(((-n).toNat) % 4294967296), ((((-n).toNat) / 4294967296) % 4294967296)]))).natAbs) af) _ _ := aA.got 8 18 rfl (by kernel_rfl)
 have aB : bO.eval (.tmp 18) = .agg #[.bool (decide (sgn true (val ([(((-n).toNat) % 4294967296), ((((-n).toNat) / 4294967296) % 4294967296)])) < 0)), sv ai (canon (sgn true (val ([(((-n).toNat) % 4294967296), ((((-n).toNat) / 4294967296) % 4294967296)]))).natAbs) ac] := aB
 have aC := bk.new_ bp
 obtain ⟨cj, -, aJ, br, aD, b2⟩ := s_two (v0 := .bool (decide (sgn true (val ([(((-n).toNat) % 4294967296), ((((-n).toNat) / 4294967296) % 4294967296)])) < 0))) (v1 := sv ai (canon (sgn true (val ([(((-n).toNat) % 4294967296), ((((-n).toNat) / 4294967296) % 4294967296)]))).natAbs) ac) Tryd.sizeOf26 rfl rfl rfl aC
 refine st_act rfl rfl fun cl bs => a_store' rfl a3 aB aJ (bs _ _ trivial ?_)
 have bt := bq.far aC aD (by first | rfl | decide | simp [notK])
 have bu := bo.trans aD (fun _ h b => by subst b; omega)
 refine st_nil (bm _ _ ?_)
 refine wp_ret (ret_k bn (v := .agg #[.bool (decide (sgn true (val ([(((-n).toNat) % 4294967296), ((((-n).toNat) / 4294967296) % 4294967296)])) < 0)), sv ai (canon (sgn true (val ([(((-n).toNat) % 4294967296), ((((-n).toNat) / 4294967296) % 4294967296)]))).natAbs) ac]) (res_c rfl a3 (l_two Tryd.isAgg26 Tryd.sizeOf26 br)) ?_)
 have hz1 : sgn true (val ([(((-n).toNat) % 4294967296), ((((-n).toNat) / 4294967296) % 4294967296)])) = n := of_yes hlo aa
 exact ⟨ai, ac, congrArg (fun z : Int => Ending.returned (Value.agg #[.bool (decide (z < 0)), sv ai (canon z.natAbs) ac])) hz1, Eq.mp (congrArg (fun z : Int => SRow _ .u32 ai (canon z.natAbs) ac) hz1) bt, bu⟩
 have aI := oF aa
 have bv := hB aW aa
 refine wp_cond_false bv ?_
 refine wp_skip ?_
 refine au _ _ ?_
 refine wp_seq_k fun cm bw => ?_
 refine wp_g0 [true, true, true, true, true, true, true, true, true, false] [(9, false)] 19
   [ve (.int .u64 (((n % 18446744073709551616).toNat : Nat) : Int)), ve (.int .u32 ((((n % 18446744073709551616).toNat) % 4294967296 : Nat) : Int)), ve (.int .u64 (((n % 18446744073709551616).toNat : Nat) : Int)), ve (.int .u64 ((((n % 18446744073709551616).toNat) / 4294967296 : Nat) : Int)), ve (.int .u32 (((((n % 18446744073709551616).toNat) / 4294967296) % 4294967296 : Nat) : Int)),
    (OP aT.heap.size 53 .u32 ([(((n % 18446744073709551616).toNat) % 4294967296), ((((n % 18446744073709551616).toNat) / 4294967296) % 4294967296)])), ve (iv n), vF, (fun (v_ : Value) (W : World) => ∃ (ag : Option Addr) (ah : Nat), v_ = .agg #[.bool (decide (sgn false (val ([(((n % 18446744073709551616).toNat) % 4294967296), ((((n % 18446744073709551616).toNat) / 4294967296) % 4294967296)])) < 0)), sv ag (canon (sgn false (val ([(((n % 18446744073709551616).toNat) % 4294967296), ((((n % 18446744073709551616).toNat) / 4294967296) % 4294967296)]))).natAbs) ah] ∧ SRow W .u32 ag (canon (sgn false (val ([(((n % 18446744073709551616).toNat) % 4294967296), ((((n % 18446744073709551616).toNat) / 4294967296) % 4294967296)]))).natAbs) ah), vt] ak (.eq (.eq (.eq (.eq (.eq (.cons (fun _ _ _ n ⟨_, _, e, h⟩ => ⟨_, _, e, h.new_ n⟩) (.eq (.eq (.cons (fun _ _ _ n ⟨_, _, e, h⟩ => ⟨_, _, e, h.new_ n⟩) (.tt (.nil))))))))))) ?_ ?_
 refine .m (fun k => k.fx 3 ap) <| .t (fun _ w hn k => ⟨_, v_conv rfl (k.eq1 0 10 rfl) (n_conv (by kernel_rfl) (by kernel_rfl) (by kernel_rfl) (n_wrap32 _)), rfl⟩) <| .m (fun k => k.fx 3 ap) <| .t (fun _ w hn k => ⟨_, v_bin rfl (k.eq1 2 12 rfl) rfl (fun _ => rfl) (n_shr ((n % 18446744073709551616).toNat) 32 (by decide)), rfl⟩) <| .t (fun _ w hn k => ⟨_, v_conv rfl (k.eq1 3 13 rfl) (n_conv (by kernel_rfl) (by kernel_rfl) (by kernel_rfl) (n_wrap32 _)), rfl⟩) ?_
 refine .o1 (tkA rfl (noG rfl) fun _ w hn k => (by
       exact x_bslice (k := .u32) (ps := [(0, .int .u32 ((((n % 18446744073709551616).toNat) % 4294967296 : Nat) : Int)), (1, .int .u32 (((((n % 18446744073709551616).toNat) / 4294967296) % 4294967296 : Nat) : Int))]) [(((n % 18446744073709551616).toNat) % 4294967296), ((((n % 18446744073709551616).toNat) / 4294967296) % 4294967296)] rfl (parts2 (k.eq1 1 11 rfl) (k.eq1 4 14 rfl)) elW rfl (by omega) (by omega) (by first | kernel_rfl | (simp only [enc, List.map_cons, List.map_nil, Int.toNat_natCast, Int.toNat_of_nonneg (by omega : (0 : Int) ≤ _)]; kernel_rfl)) fun bR bS W' hmo => ⟨bR, bS, rfl, (hmo.more hn.size)⟩)) ?_
 refine .m (fun k => k.fx 0 aU) <| .t (fun _ w hn k => ⟨_, v_bin rfl (k.eq1 6 16 rfl) rfl (fun _ => rfl) (r_lssK aa), rfl⟩) ?_
 refine .o1 (tkC rfl (noG rfl) rfl fun _ w hn k => (by
       obtain ⟨bT, bU, bV, bx⟩ : (OP aT.heap.size 53 .u32 ([(((n % 18446744073709551616).toNat) % 4294967296), ((((n % 18446744073709551616).toNat) / 4294967296) % 4294967296)])) _ _ := k.dep 5 15 (by kernel_rfl) (by kernel_rfl)
       refine ⟨#[sv bT ([(((n % 18446744073709551616).toNat) % 4294967296), ((((n % 18446744073709551616).toNat) / 4294967296) % 4294967296)]) bU, .bool false], _, args2 bV (k.eq1 7 17 rfl), fun w => by kernel_rfl, bmade_c _ ([(((n % 18446744073709551616).toNat) % 4294967296), ((((n % 18446744073709551616).toNat) / 4294967296) % 4294967296)]) _ false _ bx.row (two_limbs_m _), ?_⟩
       rintro e w' ⟨bW, bX, rfl, hmo0, hm⟩
       exact ⟨_, rfl, hm, ⟨bW, bX, rfl, hmo0⟩⟩)) ?_
 exact .off .nil
 refine aftI ak av aw fun bY cn b3 bz aK bA aE => ?_
 have a4 := aE.fx 2 aV
 obtain ⟨aj, ad, aF, bB⟩ : (fun (v_ : Value) (W : World) => ∃ (ag : Option Addr) (ah : Nat), v_ = .agg #[.bool (decide (sgn false (val ([(((n % 18446744073709551616).toNat) % 4294967296), ((((n % 18446744073709551616).toNat) / 4294967296) % 4294967296)])) < 0)), sv ag (canon (sgn false (val ([(((n % 18446744073709551616).toNat) % 4294967296), ((((n % 18446744073709551616).toNat) / 4294967296) % 4294967296)]))).natAbs) ah] ∧ SRow W .u32 ag (canon (sgn false (val ([(((n % 18446744073709551616).toNat) % 4294967296), ((((n % 18446744073709551616).toNat) / 4294967296) % 4294967296)]))).natAbs) ah) _ _ := aE.got 8 18 rfl (by kernel_rfl)
 have aF : bY.eval (.tmp 18) = .agg #[.bool (decide (sgn false (val ([(((n % 18446744073709551616).toNat) % 4294967296), ((((n % 18446744073709551616).toNat) / 4294967296) % 4294967296)])) < 0)), sv aj (canon (sgn false (val ([(((n % 18446744073709551616).toNat) % 4294967296), ((((n % 18446744073709551616).toNat) / 4294967296) % 4294967296)]))).natAbs) ad] := aF
 have aG := ax.new_ bA
 obtain ⟨b4, -, aH, aL, aq, bZ⟩ := s_two (v0 := .bool (decide (sgn false (val ([(((n % 18446744073709551616).toNat) % 4294967296), ((((n % 18446744073709551616).toNat) / 4294967296) % 4294967296)])) < 0))) (v1 := sv aj (canon (sgn false (val ([(((n % 18446744073709551616).toNat) % 4294967296), ((((n % 18446744073709551616).toNat) / 4294967296) % 4294967296)]))).natAbs) ad) Tryd.sizeOf26 rfl rfl rfl aG
 refine st_act rfl rfl fun b5 aM => a_store' rfl a4 aF aH (aM _ _ trivial ?_)
 have aN := bB.far aG aq (by first | rfl | decide | simp [notK])
 have aO := aK.trans aq (fun _ h b => by subst b; omega)
 refine st_nil (bw _ _ ?_)
 refine wp_ret (ret_k bz (v := .agg #[.bool (decide (sgn false (val ([(((n % 18446744073709551616).toNat) % 4294967296), ((((n % 18446744073709551616).toNat) / 4294967296) % 4294967296)])) < 0)), sv aj (canon (sgn false (val ([(((n % 18446744073709551616).toNat) % 4294967296), ((((n % 18446744073709551616).toNat) / 4294967296) % 4294967296)]))).natAbs) ad]) (res_c rfl a4 (l_two Tryd.isAgg26 Tryd.sizeOf26 aL)) ?_)
 have hz1 : sgn false (val ([(((n % 18446744073709551616).toNat) % 4294967296), ((((n % 18446744073709551616).toNat) / 4294967296) % 4294967296)])) = n := of_no hhi aa
 exact ⟨aj, ad, congrArg (fun z : Int => Ending.returned (Value.agg #[.bool (decide (z < 0)), sv aj (canon z.natAbs) ad])) hz1, Eq.mp (congrArg (fun z : Int => SRow _ .u32 aj (canon z.natAbs) ad) hz1) aN, aO⟩
end Go.Proofs.YtecgdgjlmlpcnaaDoor
