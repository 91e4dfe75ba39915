import Derived.Test.YtjakfchffigkkaaGreatDoorCvSeat
import Derived.Test.YtjakfchffigkkaaGreatDoorShort
import Derived.Test.YtjakfchffigkkaaGreatDoorReg2
import Derived.Test.YtjakfchffigkkaaGreatDoorCvShelfO
import Derived.Test.YtjakfchffigkkaaGreatDoorCnd
import Derived.Test.YtjakfchffigkkaaGreatDoorRowT
import Derived.Laws.BytesArg
import Derived.Lib.IndexBytes
import Derived.Lib.SliceRun
import Derived.Lib.ItoaLen
import Derived.WalkLawsBesides
import Derived.WalkSpells
import Derived.Outline
import Derived.KernelRfl
import Derived.RegionTactic
import Derived.Deep.QuietTactic
import Derived.BigQuiet
import Derived.OwnWalk
import Derived.Laws.BitsAll
import Derived.Laws.DeepBits32
import Derived.Deep.OwnRows
import Derived.Deep.DeepCutAuto
import Derived.Deep.CutBlock
import Derived.ChangeAlike
import Derived.Laws.CopyOwn
import Derived.Laws.Bits64b
import Derived.Deep.LoopGhost
import Derived.Laws.BytesArg
namespace Go.Proofs.YtjakfchffigkkaaGreatDoor
open Go.RowKit
set_option linter.unusedSimpArgs false
set_option linter.unusedVariables false
set_option maxHeartbeats 16000000
set_option maxRecDepth 100000
structure Nm where
  k : Int
  n : Int
deriving DecidableEq
def nmayB (a : Nm) : Bool := if decide (a.k = 0) then !decide (a.n < -9007199254740991) && decide (a.n ≤ 9007199254740991)
  else if decide (a.k = 1) || decide (a.k = 2) || decide (a.k = 3) || decide (a.k = 4) then decide (a.n = 0) else false
def asM (a : Nm) : Nm := if nmayB a then a else ⟨2, 0⟩
def infB (k : Int) : Bool := decide (k = 3) || decide (k = 4)
def noughtB (a : Nm) : Bool := decide (a.k = 1) || (decide (a.k = 0) && decide (a.n = 0))
def belowB (a : Nm) : Bool := decide (a.k = 1) || decide (a.k = 4) || (decide (a.k = 0) && decide (a.n < 0))
def noughtM (d : Bool) : Nm := if d then ⟨1, 0⟩ else ⟨0, 0⟩
def infM (d : Bool) : Nm := if d then ⟨4, 0⟩ else ⟨3, 0⟩
def negA (a : Nm) : Nm := if decide (a.k = 2) then a else if decide (a.k = 3) || decide (a.k = 4) then infM (decide (a.k = 3)) else if decide (a.k = 1) then ⟨0, 0⟩ else if decide (a.n = 0) then ⟨1, 0⟩ else ⟨0, -a.n⟩
def negM (a : Nm) : Nm := negA (asM a)
/-- |n|, of what is no less than -2^63 + 1 -/
def sizeI (n : Int) : Int := max n (-n)
/-- the five kinds -/
theorem as_cases (a : Nm) : (∃ n, asM a = ⟨0, n⟩ ∧ -9007199254740991 ≤ n ∧ n ≤ 9007199254740991) ∨ asM a = ⟨1, 0⟩ ∨ asM a = ⟨2, 0⟩ ∨ asM a = ⟨3, 0⟩ ∨ asM a = ⟨4, 0⟩ := by
  obtain ⟨k, n⟩ := a
  unfold asM nmayB
  by_cases h0 : k = 0
  · subst h0
    by_cases h1 : n < -9007199254740991
    · simp [h1]
    · by_cases h2 : n ≤ 9007199254740991
      · simp [h1, h2]; omega
      · simp [h1, h2]
  · by_cases hn : n = 0
    · subst hn
      by_cases h1 : k = 1
      · simp [h1]
      · by_cases h2 : k = 2
        · simp [h2]
        · by_cases h3 : k = 3
          · simp [h3]
          · by_cases h4 : k = 4 <;> simp [h0, h1, h2, h3, h4]
    · by_cases h1 : k = 1 ∨ k = 2 ∨ k = 3 ∨ k = 4
      · rcases h1 with rfl | rfl | rfl | rfl <;> simp [hn]
      · simp [h0, hn]
theorem as_bd (a : Nm) : -9007199254740991 ≤ (asM a).n ∧ (asM a).n ≤ 9007199254740991 := by
  rcases as_cases a with ⟨n, h, h1, h2⟩ | h | h | h | h <;> rw [h] <;> simp <;> omega
def mayB (b : Bool) (m : List Nat) : Bool := decide (m.length ≤ 8) && ((decide (m.length = 0) && !b) || (decide (0 < m.length) && decide (m.getD (m.length - 1) 0 ≠ 0)))
def sgn (b : Bool) (n : Nat) : Int := if b then -(n : Int) else n
/-- What a number that came in is worth: nothing, if it may not be one. -/
def goodI (b : Bool) (m : List Nat) : Int := if mayB b m then sgn b (val m) else 0
theorem natAbs_sgn (b : Bool) (n : Nat) : (sgn b n).natAbs = n := by cases b <;> simp [sgn]
theorem may_trim {b : Bool} {m : List Nat} (h : mayB b m = true) : Trim m ∧ m.length ≤ 8 ∧ (b = true → m ≠ []) := by
  simp only [mayB, Bool.and_eq_true, decide_eq_true_eq, Bool.or_eq_true, Bool.not_eq_true', ne_eq] at h
  obtain ⟨h8, h | h⟩ := h
  · exact ⟨.inl (List.eq_nil_of_length_eq_zero h.1), h8, fun hb => by rw [h.2] at hb; cases hb⟩
  · exact ⟨.inr (by omega), h8, fun _ h0 => by rw [h0] at h; simp at h⟩
theorem canon_good {b : Bool} {m : List Nat} (hl : Limbs m) : canon (goodI b m).natAbs = if mayB b m then m else [] := by
  unfold goodI
  split
  · rename_i h
    rw [natAbs_sgn, ← canon_val hl (may_trim h).1]
  · exact canon_zero
theorem val_pos {m : List Nat} (hl : Limbs m) (ht : Trim m) (h : m ≠ []) : 0 < val m := by
  have h1 := canon_val hl ht
  rcases Nat.eq_zero_or_pos (val m) with h0 | h0
  · rw [h0, canon_zero] at h1
    exact absurd h1 h
  · exact h0
theorem neg_good {b : Bool} {m : List Nat} (hl : Limbs m) : decide (goodI b m < 0) = (mayB b m && b) := by
  unfold goodI
  cases h : mayB b m
  · simp
  · obtain ⟨h1, _, h3⟩ := may_trim h
    cases b
    · simp [sgn]
    · have := val_pos hl h1 (h3 rfl)
      simp [sgn]; omega
theorem good_lt {b : Bool} {m : List Nat} (hl : Limbs m) : (goodI b m).natAbs < 2 ^ 256 := by
  rw [← canon_len8, canon_good hl]
  split
  · exact (may_trim ‹_›).2.1
  · simp
theorem may_canon {z : Int} (h : z.natAbs < 2 ^ 256) : mayB (decide (z < 0)) (canon z.natAbs) = true := by
  have h8 := (canon_len8 z.natAbs).2 h
  simp only [mayB, Bool.and_eq_true, decide_eq_true_eq, Bool.or_eq_true, Bool.not_eq_true', ne_eq]
  refine ⟨h8, ?_⟩
  rcases trim_canon z.natAbs with h0 | h0
  · refine .inl ⟨by rw [h0]; rfl, ?_⟩
    have := canon_nil.1 h0
    simp; omega
  · refine .inr ⟨?_, by omega⟩
    rcases Nat.eq_zero_or_pos (canon z.natAbs).length with h1 | h1
    · rw [List.eq_nil_of_length_eq_zero h1] at h0
      simp at h0
    · exact h1
theorem sgn_zero (d : Bool) : sgn d 0 = 0 := by cases d <;> rfl
theorem sgn_neg {d : Bool} {n : Nat} (h : 0 < n) : decide (sgn d n < 0) = d := by cases d <;> simp [sgn]; omega
def cmpI (a b : Nat) : Int := if a < b then -1 else if b < a then 1 else 0
/-- How two numbers lie to one another. -/
def cmpZ (a b : Int) : Int := if a < b then -1 else if b < a then 1 else 0
theorem cmpZ_np {a b : Int} (ha : a < 0) (hb : ¬ b < 0) : cmpZ a b = -1 := by unfold cmpZ; rw [if_pos (by omega)]
theorem cmpZ_pn {a b : Int} (ha : ¬ a < 0) (hb : b < 0) : cmpZ a b = 1 := by unfold cmpZ; rw [if_neg (by omega), if_pos (by omega)]
theorem cmpZ_nn {a b : Int} (ha : a < 0) (hb : b < 0) : cmpI b.natAbs a.natAbs = cmpZ a b := by
  unfold cmpZ cmpI
  by_cases h : a < b
  · rw [if_pos h, if_pos (by omega)]
  · by_cases h2 : b < a
    · rw [if_neg h, if_pos h2, if_neg (by omega), if_pos (by omega)]
    · rw [if_neg h, if_neg h2, if_neg (by omega), if_neg (by omega)]
theorem cmpZ_pp {a b : Int} (ha : ¬ a < 0) (hb : ¬ b < 0) : cmpI a.natAbs b.natAbs = cmpZ a b := by
  unfold cmpZ cmpI
  by_cases h : a < b
  · rw [if_pos h, if_pos (by omega)]
  · by_cases h2 : b < a
    · rw [if_neg h, if_pos h2, if_neg (by omega), if_pos (by omega)]
    · rw [if_neg h, if_neg h2, if_neg (by omega), if_neg (by omega)]
/-- The digits of a number, the least first; nought has none. -/
def digs (n : Nat) : List Nat := if h : n = 0 then [] else n % 10 :: digs (n / 10)
termination_by n
decreasing_by omega
theorem digs_zero : digs 0 = [] := by unfold digs; simp
theorem digs_pos {n : Nat} (h : 0 < n) : digs n = n % 10 :: digs (n / 10) := by
  conv => lhs; unfold digs
  rw [dif_neg (by omega)]
theorem digs_len {n k : Nat} (h : n < 10 ^ k) : (digs n).length ≤ k := by
  induction k generalizing n with
  | zero =>
    have : n = 0 := by simpa using h
    rw [this, digs_zero]; simp
  | succ k ih =>
    rcases Nat.eq_zero_or_pos n with rfl | h0
    · rw [digs_zero]; simp
    · rw [digs_pos h0, List.length_cons]
      have : n / 10 < 10 ^ k := by
        rw [Nat.pow_succ] at h
        exact Nat.div_lt_of_lt_mul (by rw [Nat.mul_comm]; exact h)
      have := ih this
      omega
theorem digs_big {n : Nat} (h : n < 2 ^ 256) : (digs n).length ≤ 78 := digs_len (Nat.lt_trans h (by decide +kernel))
/-- A digit's letter. -/
def letter (d : Nat) : Int := ((48 + d : Nat) : Int)
/-- The text of a number. -/
def textI (z : Int) : List Int := if z = 0 then [48] else (if z < 0 then [45] else []) ++ ((digs z.natAbs).map letter).reverse
theorem val_drop (l : List Nat) (k : Nat) : val (l.drop k) = l.getD k 0 + 4294967296 * val (l.drop (k + 1)) := by
  rcases Nat.lt_or_ge k l.length with h | h
  · rw [List.drop_eq_getElem_cons h]
    simp [val, List.getD, h]
  · rw [List.drop_eq_nil_of_le h, List.drop_eq_nil_of_le (by omega)]
    simp [val, List.getD, h]
theorem getD_set_self {l : List Nat} {k : Nat} (x : Nat) (h : k < l.length) : (l.set k x).getD k 0 = x := by simp [List.getD, h]
/-- A number divided by ten, limb by limb from the top. -/
structure TenAt (m m2 : List Nat) (k r : Nat) : Prop where
  limbs : Limbs m2
  len : m2.length = m.length
  same : ∀ j, j < k → m2.getD j 0 = m.getD j 0
  quot : val (m2.drop k) = val (m.drop k) / 10
  rest : r = val (m.drop k) % 10
theorem ten_start {m : List Nat} (h : Limbs m) : TenAt m m m.length 0 := by
  refine ⟨h, rfl, fun _ _ => rfl, ?_, ?_⟩ <;> simp [val]
theorem ten_step {m m2 : List Nat} {p r : Nat} (hm : Limbs m) (h : TenAt m m2 (p + 1) r) (hp : p < m.length) :
    TenAt m (m2.set p ((r * 4294967296 + m.getD p 0) / 10)) p ((r * 4294967296 + m.getD p 0) % 10) ∧ (r * 4294967296 + m.getD p 0) / 10 < 4294967296 ∧ r < 10 := by
  have hx := hm.at p
  have hr : r < 10 := by rw [h.rest]; exact Nat.mod_lt _ (by omega)
  have hq : (r * 4294967296 + m.getD p 0) / 10 < 4294967296 := by omega
  have hd := val_drop m p
  have hr' := h.rest
  have hq' := h.quot
  generalize hH : val (m.drop (p + 1)) = H at hd hr' hq'
  generalize hxx : m.getD p 0 = x at *
  have hdm : H = 10 * (H / 10) + r := by omega
  generalize hQ : H / 10 = Q at *
  have e : x + 4294967296 * H = 10 * (4294967296 * Q) + (r * 4294967296 + x) := by omega
  generalize hs : r * 4294967296 + x = s at *
  refine ⟨⟨h.limbs.set _ hq, by simp [h.len], fun j hj => ?_, ?_, ?_⟩, hq, hr⟩
  · rw [← h.same j (by omega)]
    simp [List.getD, show p ≠ j by omega]
  · have h1 := val_drop (m2.set p (s / 10)) p
    have h2 : (m2.set p (s / 10)).getD p 0 = s / 10 := getD_set_self _ (by rw [h.len]; exact hp)
    have h3 : (m2.set p (s / 10)).drop (p + 1) = m2.drop (p + 1) := by rw [List.drop_set_of_lt (by omega)]
    rw [h3, hq', h2] at h1
    rw [hd, e, h1]
    generalize 4294967296 * Q = y
    omega
  · rw [hd, e, Nat.mul_add_mod 10 (4294967296 * Q) s]
theorem ten_end {m m2 : List Nat} {r : Nat} (h : TenAt m m2 0 r) : val m2 = val m / 10 ∧ r = val m % 10 := by
  have h1 := h.quot
  have h2 := h.rest
  rw [List.drop_zero, List.drop_zero] at h1
  rw [List.drop_zero] at h2
  exact ⟨h1, h2⟩
/-- A list whose first i and last i are exchanged. -/
def turned (l : List Int) (i : Nat) : List Int := (List.range l.length).map fun t => if t < i ∨ l.length - 1 - t < i then l.getD (l.length - 1 - t) 0 else l.getD t 0
theorem length_turned (l : List Int) (i : Nat) : (turned l i).length = l.length := by simp [turned]
theorem get_turned (l : List Int) (i t : Nat) (h : t < l.length) : (turned l i).getD t 0 = if t < i ∨ l.length - 1 - t < i then l.getD (l.length - 1 - t) 0 else l.getD t 0 := by
  simp [turned, List.getD, h]
theorem ext_getD {a b : List Int} (hl : a.length = b.length) (h : ∀ t, t < a.length → a.getD t 0 = b.getD t 0) : a = b := by
  refine List.ext_getElem hl fun t h1 h2 => ?_
  have := h t h1
  simpa [List.getD, h1, h2] using this
theorem getD_set (l : List Int) (k t : Nat) (x : Int) (h : k < l.length) : (l.set k x).getD t 0 = if t = k then x else l.getD t 0 := by
  by_cases e : t = k
  · subst e; simp [List.getD, h]
  · rw [if_neg e]; simp [List.getD, Ne.symm e]
theorem turned_zero (l : List Int) : turned l 0 = l := by
  refine ext_getD (length_turned l 0) fun t ht => ?_
  rw [length_turned] at ht
  rw [get_turned l 0 t ht, if_neg (by omega)]
theorem turned_succ (l : List Int) (i : Nat) (h : i + i + 1 < l.length) : ((turned l i).set i ((turned l i).getD (l.length - 1 - i) 0)).set (l.length - 1 - i) ((turned l i).getD i 0) = turned l (i + 1) := by
  refine ext_getD (by simp [length_turned]) fun t ht => ?_
  have ht' : t < l.length := by simpa [length_turned] using ht
  rw [getD_set _ _ _ _ (by simp [length_turned]; omega), getD_set _ _ _ _ (by rw [length_turned]; omega), get_turned l i _ (by omega), get_turned l i _ (by omega), get_turned l i _ ht', get_turned l (i + 1) _ ht']
  have e1 : l.length - 1 - (l.length - 1 - i) = i := by omega
  rw [e1]
  by_cases h1 : t = l.length - 1 - i
  · subst h1
    rw [e1, if_pos rfl, if_neg (by omega), if_pos (by omega)]
  · rw [if_neg h1]
    by_cases h2 : t = i
    · subst h2
      rw [if_pos rfl, if_neg (by omega), if_pos (by omega)]
    · rw [if_neg h2]
      by_cases h3 : t < i ∨ l.length - 1 - t < i
      · rw [if_pos h3, if_pos (by omega)]
      · rw [if_neg h3, if_neg (by omega)]
theorem turned_end (l : List Int) (i : Nat) (h : l.length ≤ i + i + 1) : turned l i = l.reverse := by
  refine ext_getD (by simp [length_turned]) fun t ht => ?_
  rw [length_turned] at ht
  have hr : l.reverse.getD t 0 = l.getD (l.length - 1 - t) 0 := by
    rw [List.getD, List.getD, List.getElem?_reverse ht]
  rw [get_turned l i t ht, hr]
  by_cases h3 : t < i ∨ l.length - 1 - t < i
  · rw [if_pos h3]
  · rw [if_neg h3, show l.length - 1 - t = t by omega]
theorem or_word {r x : Nat} (hx : x < 4294967296) : (r * 4294967296) ||| x = r * 4294967296 + x := by
  have e : 4294967296 = 2 ^ 32 := by decide
  have hx' : x < 2 ^ 32 := by omega
  have h := Nat.two_pow_add_eq_or_of_lt hx' r
  rw [Nat.mul_comm, e, ← h]
theorem textI_pos {z : Int} (h : z ≠ 0) : textI z = ((digs z.natAbs).map letter ++ (if z < 0 then [45] else [])).reverse := by
  rw [textI, if_neg h]
  split <;> simp
theorem len_data (s : ByteArray) : s.data.toList.length = s.size := Array.length_toList
theorem digs_one {d : Nat} (h0 : 0 < d) (h : d < 10) : digs d = [d] := by
  rw [digs_pos h0, Nat.mod_eq_of_lt h, Nat.div_eq_of_lt h, digs_zero]
def lettersU (n : Nat) : List UInt8 := ((digs n).map fun d => UInt8.ofNat (48 + d)).reverse
theorem textU_eq (z : Int) : (strOfNums (textI z)).data.toList = if z = 0 then [48] else (if z < 0 then [45] else []) ++ lettersU z.natAbs := by
  have hl : ((digs z.natAbs).map letter).reverse.map (fun n => UInt8.ofNat n.toNat) = lettersU z.natAbs := by
    simp only [lettersU, List.map_reverse, List.map_map]
    congr 1
  unfold strOfNums textI
  simp only
  split
  · rfl
  · rw [List.map_append, hl]
    split <;> rfl
abbrev nv (a : Nm) : Value := .agg #[.int .i64 a.k, .int .i64 a.n]
theorem bsm : (∀ a : Bool, (a && true) = a) ∧ (∀ a : Bool, (true && a) = a) ∧ (∀ a : Bool, (a && false) = false) ∧ (∀ a : Bool, (false && a) = false) ∧ (∀ a : Bool, (a || true) = true) ∧ (∀ a : Bool, (true || a) = true) ∧ (∀ a : Bool, (a || false) = a) ∧ (∀ a : Bool, (false || a) = a) ∧ (!true) = false ∧ (!false) = true ∧
    (∀ (α : Type) (a b : α), (if True then a else b) = a) ∧ (∀ (α : Type) (a b : α), (if False then a else b) = b) ∧ (false = true) = False ∧ decide True = true ∧ decide False = false ∧ ([] : List Nat).length = 0 := by
  refine ⟨?_, ?_, ?_, ?_, ?_, ?_, ?_, ?_, ?_, ?_, ?_, ?_, ?_, ?_, ?_, ?_⟩ <;> simp
structure Vl where
  k : Int
  nk : Int
  nn : Int
  neg : Bool
  mag : List Nat
  s : List Nat
  ref : Int
abbrev vv (v : Vl) (A : Option Addr) (c : Nat) (B : Option Addr) (d : Nat) : Value := .agg #[iv v.k, iv v.nk, iv v.nn, .bool v.neg, sv A v.mag c, sv B v.s d, iv v.ref]
abbrev VP (x : Vl) : Value → World → Prop := fun v W => ∃ (A : Option Addr) (c : Nat) (B : Option Addr) (d : Nat), v = vv x A c B d ∧ SRow W .u32 A x.mag c ∧ SRow W .u16 B x.s d
abbrev Vl.num (v : Vl) : Nm := ⟨v.nk, v.nn⟩
def Vl.z : Vl := ⟨0, 0, 0, false, [], [], 0⟩
def zeroV (v : Vl) : Bool := decide (v.nk = 0) && decide (v.nn = 0) && !v.neg && decide ((v.mag.length : Int) = 0) && decide ((v.s.length : Int) = 0) && decide (v.ref = 0)
def mayV (v : Vl) : Bool :=
  if decide (v.k = 0) || decide (v.k = 1) then zeroV v
  else if decide (v.k = 2) then zeroV { v with ref := 0 } && (decide (v.ref = 0) || decide (v.ref = 1))
  else if decide (v.k = 3) then zeroV { v with nk := 0, nn := 0 } && nmayB v.num
  else if decide (v.k = 4) then zeroV { v with neg := false, mag := [] } && mayB v.neg v.mag
  else if decide (v.k = 5) then zeroV { v with s := [] } && decide ((v.s.length : Int) ≤ 4096)
  else if decide (v.k = 6) then zeroV { v with ref := 0 } && !decide (v.ref < 0)
  else false
def cleanV (v : Vl) : Vl := if mayV v then v else Vl.z

theorem trim_dn' {m : List Nat} {k : Nat} (h0 : 0 < k) (hk : k ≤ m.length) (h : decide ((((m.take k).getD (((m.take k).length : Int) - 1).toNat 0 : Nat) : Int) = 0) = true) (hv : val (m.take k) = val m) : val (m.take (k - 1)) = val m := by
  have h1 := of_decide_eq_true h
  have hl : (m.take k).length = k := by rw [List.length_take]; omega
  rw [hl, show ((k : Int) - 1).toNat = k - 1 by omega] at h1
  have h2 := trim_step (m.take k) (fun e => by rw [e] at hl; simp at hl; omega) (by rw [hl]; omega)
  rw [hl, List.take_take, show min (k - 1) k = k - 1 by omega] at h2
  rw [h2, hv]
theorem trim_nz' {m : List Nat} {k : Nat} (h0 : 0 < k) (hk : k ≤ m.length) (h : decide ((((m.take k).getD (((m.take k).length : Int) - 1).toNat 0 : Nat) : Int) = 0) = false) : 0 < (m.take k).getD (k - 1) 0 := by
  have h1 := of_decide_eq_false h
  have hl : (m.take k).length = k := by rw [List.length_take]; omega
  rw [hl, show ((k : Int) - 1).toNat = k - 1 by omega] at h1
  omega
theorem trim_end' {m : List Nat} {k : Nat} (hl : Limbs m) (hk : k ≤ m.length) (hv : val (m.take k) = val m) (h : k = 0 ∨ 0 < (m.take k).getD (k - 1) 0) : m.take k = canon (val m) := by
  rw [← hv]
  refine canon_val (hl.take k) ?_
  rcases h with rfl | h
  · exact .inl (by simp)
  · exact .inr (by rw [List.length_take, Nat.min_eq_left hk]; exact h)
def cmpI1 (n : Int) : Int := if decide (n < 0) then -1 else if !decide (n ≤ 0) then 1 else 0
theorem sign_eq (n : Int) : min (max n (-1)) 1 = cmpI1 n := by
  unfold cmpI1
  by_cases h1 : n < 0
  · rw [decide_eq_true h1, if_pos rfl]; omega
  · rw [decide_eq_false h1]
    by_cases h2 : n ≤ 0
    · rw [decide_eq_true h2]; simp; omega
    · rw [decide_eq_false h2]; simp; omega
theorem row_none {w : World} {k : IntKind} {A : Option Addr} {xs : List Nat} {c : Nat} (h : SRow w k A xs c) (hA : A.isNone = true) : xs = [] := by
  rcases h.2 with ⟨h0, _⟩ | ⟨b, off, c', hv, _⟩
  · exact List.eq_nil_of_length_eq_zero h0
  · injection hv with h1 _ _
    rw [h1] at hA; cases hA
theorem made_zero {d : Bool} {n : Nat} (h : decide (((canon n).length : Int) = 0) = true) : sgn d n = 0 := by
  have h1 := of_decide_eq_true h
  rw [canon_nil.1 (List.eq_nil_of_length_eq_zero (l := canon n) (by omega)), sgn_zero]
theorem made_nz {d : Bool} {n : Nat} (h : decide (((canon n).length : Int) = 0) = false) : decide (sgn d n < 0) = d := by
  have h1 := of_decide_eq_false h
  rcases Nat.eq_zero_or_pos n with h2 | h2
  · rw [h2, canon_zero] at h1; simp at h1
  · exact sgn_neg h2
theorem above_dn1 {a b : List Nat} {n : Nat} (h : Above a b n) (h0 : 0 < n) (h1 : decide (((a.getD ((n : Int) - 1).toNat 0 : Nat) : Int) = ((b.getD ((n : Int) - 1).toNat 0 : Nat) : Int)) = true) : Above a b (n - 1) := by
  have h3 := of_decide_eq_true h1
  rw [show ((n : Int) - 1).toNat = n - 1 by omega] at h3
  intro j hj
  rcases Nat.lt_or_ge j n with h5 | h5
  · obtain rfl : j = n - 1 := by omega
    omega
  · exact h j h5
theorem above_of_eqlen {a b : List Nat} (h : a.length = b.length) : Above a b a.length := fun j hj => by
  simp [List.getD, show a.length ≤ j by omega, show b.length ≤ j by omega]
theorem cmp_len {a b : List Nat} (ha : Limbs a) (hb : Limbs b) (hta : Trim a) (htb : Trim b) (h : a.length ≠ b.length) : cmpI1 ((a.length : Int) - (b.length : Int)) = cmpI (val a) (val b) := by
  unfold cmpI1 cmpI
  rcases Nat.lt_or_ge a.length b.length with h1 | h1
  · rw [decide_eq_true (by omega), if_pos rfl, if_pos (len_lt ha htb h1)]
  · have h2 := len_lt hb hta (show b.length < a.length by omega)
    rw [decide_eq_false (by omega), decide_eq_false (by omega)]
    simp [show ¬ val a < val b by omega, h2]
theorem cmp_same {a b : List Nat} {n : Nat} (h : Above a b n) (h0 : n = 0) : cmpI (val a) (val b) = 0 := by
  subst h0
  have := eq_of_above h
  unfold cmpI
  rw [if_neg (by omega), if_neg (by omega)]
theorem cmp_at {a b : List Nat} {n : Nat} (ha : Limbs a) (hb : Limbs b) (h : Above a b n) (h0 : 0 < n) (h1 : decide (((a.getD ((n : Int) - 1).toNat 0 : Nat) : Int) = ((b.getD ((n : Int) - 1).toNat 0 : Nat) : Int)) = false) :
    cmpI1 (((a.getD ((n : Int) - 1).toNat 0 : Nat) : Int) - ((b.getD ((n : Int) - 1).toNat 0 : Nat) : Int)) = cmpI (val a) (val b) := by
  have h3 := of_decide_eq_false h1
  rw [show ((n : Int) - 1).toNat = n - 1 by omega] at h3 ⊢
  have e : n - 1 + 1 = n := by omega
  unfold cmpI1 cmpI
  rcases Nat.lt_or_ge (a.getD (n - 1) 0) (b.getD (n - 1) 0) with h4 | h4
  · have := lt_of_diff ha (k := n - 1) (by rw [e]; exact h) h4
    rw [decide_eq_true (by omega), if_pos rfl, if_pos this]
  · have := lt_of_diff hb (k := n - 1) (a := b) (b := a) (by rw [e]; exact fun j hj => (h j hj).symm) (by omega)
    rw [decide_eq_false (by omega), decide_eq_false (by omega)]
    simp [show ¬ val a < val b by omega, this]
theorem two_limbs_m (u : Nat) : Limbs [u % 4294967296, u / 4294967296 % 4294967296] := Limbs.cons (by omega) (Limbs.cons (by omega) Limbs.nil)
theorem two_val_m {u : Nat} (hu : u < 18446744073709551616) : val [u % 4294967296, u / 4294967296 % 4294967296] = u := by simp [val]; omega
theorem of_conv (n : Int) : IntKind.u64.wrap n = (((n % 18446744073709551616).toNat : Nat) : Int) := by
  rw [Int.toNat_of_nonneg (by omega)]
  simp [IntKind.wrap, IntKind.bits, IntKind.signed]
theorem v_negU {P : Program} {o : Oper} {a : Act} {w : World} {t : TypeId} {x : Operand} {k : IntKind} {m r : Int} (ho : o.op = .unOp .neg t x) (hx : a.eval x = .int k m) (hr : k.wrap (-m) = r) : (execOp a.eval o).run P w = .ok (.value (.int k r)) w := by
  simp [execOp, ho, hx, Op.unary, Op.intArith, hr]
theorem of_neg {n : Int} (hlo : -9223372036854775808 ≤ n) (h : n < 0) : IntKind.u64.wrap (-(((n % 18446744073709551616).toNat : Nat) : Int)) = (((-n).toNat : Nat) : Int) := by
  rw [Int.toNat_of_nonneg (by omega), Int.toNat_of_nonneg (by omega)]
  simp [IntKind.wrap, IntKind.bits, IntKind.signed]
  omega
theorem of_yes {n : Int} (hlo : -9223372036854775808 ≤ n) (h : decide (n < 0) = true) : sgn true (val [(-n).toNat % 4294967296, (-n).toNat / 4294967296 % 4294967296]) = n := by
  have := of_decide_eq_true h
  rw [two_val_m (by omega)]
  show -(((-n).toNat : Nat) : Int) = n
  omega
theorem of_no {n : Int} (hhi : n ≤ 9223372036854775807) (h : decide (n < 0) = false) : sgn false (val [(n % 18446744073709551616).toNat % 4294967296, (n % 18446744073709551616).toNat / 4294967296 % 4294967296]) = n := by
  have := of_decide_eq_false h
  rw [two_val_m (by omega)]
  show (((n % 18446744073709551616).toNat : Nat) : Int) = n
  omega
theorem eq_up {a b : List Nat} {i : Nat} (h : ∀ j, j < i → a.getD j 0 = b.getD j 0) (hi : i < a.length) (h1 : decide (((a.getD i 0 : Nat) : Int) = ((b.getD i 0 : Nat) : Int)) = true) : ∀ j, j < i + 1 → a.getD j 0 = b.getD j 0 := by
  intro j hj
  rcases Nat.lt_or_ge j i with h2 | h2
  · exact h j h2
  · obtain rfl : j = i := by omega
    have := of_decide_eq_true h1
    omega
theorem eq_all {a b : List Nat} {i : Nat} (hl : a.length = b.length) (hi : i = a.length) (h : ∀ j, j < i → a.getD j 0 = b.getD j 0) : a = b := by
  refine List.ext_getElem hl fun j h1 h2 => ?_
  have := h j (by omega)
  simpa [List.getD, h1, h2] using this
def sameV (v u : Vl) : Bool := decide (v.k = u.k) && (decide (v.nk = u.nk) && decide (v.nn = u.nn)) && decide (v.neg = u.neg) && decide (v.mag = u.mag) && decide (v.s = u.s) && decide (v.ref = u.ref)
theorem good_canon {z : Int} (h : z.natAbs < 2 ^ 256) : goodI (decide (z < 0)) (canon z.natAbs) = z := by
  unfold goodI
  rw [if_pos (may_canon h), val_canon]
  unfold sgn
  split
  · rename_i h; simp at h; omega
  · rename_i h; simp at h; omega
def blankN (x : Nat) : Bool := decide ((x : Int) = 32) || decide ((x : Int) = 9) || decide ((x : Int) = 10) || decide ((x : Int) = 13)
def dgtN (x : Nat) : Bool := !decide ((x : Int) < 48) && decide ((x : Int) ≤ 57)
def asc (s : ByteArray) : List Nat := s.data.toList.map fun c => c.toNat
def ascT (s : ByteArray) (i : Nat) : List Nat := (s.data.toList.take i).map fun c => c.toNat
theorem asc0 (s : ByteArray) : ascT s 0 = [] := by simp [ascT]
theorem asc_up {s : ByteArray} {i : Nat} (h : i < s.size) : ascT s i ++ [bAt s i] = ascT s (i + 1) := by
  have h1 := s_len s
  unfold ascT bAt
  rw [List.take_succ_eq_append_getElem (by omega), List.map_append, List.getD_eq_getElem?_getD, List.getElem?_eq_getElem (by omega)]
  rfl
theorem asc_end {s : ByteArray} {i : Nat} (h : s.size ≤ i) : ascT s i = asc s := by
  unfold ascT asc
  rw [List.take_of_length_le (by rw [s_len]; exact h)]
theorem ascT_len {s : ByteArray} {i : Nat} : (ascT s i).length ≤ s.size := by
  have := s_len s
  unfold ascT
  rw [List.length_map, List.length_take]; omega
theorem asc_len (s : ByteArray) : (asc s).length = s.size := by
  have := s_len s
  unfold asc
  rw [List.length_map]; omega
def idxF (p : Nat → Bool) : List Nat → Int
  | [] => -1
  | a :: l => if p a then 0 else if idxF p l < 0 then -1 else idxF p l + 1
theorem idxF_ge (p : Nat → Bool) : ∀ l : List Nat, -1 ≤ idxF p l
  | [] => by simp [idxF]
  | a :: l => by
    have := idxF_ge p l
    unfold idxF
    split
    · omega
    · split <;> omega
theorem idxF_any (p : Nat → Bool) : ∀ l : List Nat, (!decide (idxF p l < 0)) = l.any p
  | [] => by simp [idxF]
  | a :: l => by
    have h := idxF_any p l
    have h2 := idxF_ge p l
    rw [List.any_cons, ← h, show idxF p (a :: l) = if p a then 0 else if idxF p l < 0 then -1 else idxF p l + 1 from rfl]
    generalize idxF p l = r at *
    cases p a
    · by_cases h3 : r < 0
      · simp [h3]
      · simp [h3]; omega
    · simp
theorem idxF_at (p : Nat → Bool) : ∀ (l : List Nat) (i : Nat), i < l.length → (∀ j, j < i → p (l.getD j 0) = false) → p (l.getD i 0) = true → idxF p l = (i : Int)
  | [], i, hi, _, _ => by simp at hi
  | a :: l, 0, _, _, h => by
    unfold idxF
    rw [if_pos (by simpa using h)]; rfl
  | a :: l, i + 1, hi, h1, h2 => by
    have h0 := h1 0 (by omega)
    have ih := idxF_at p l i (by simpa using hi) (fun j hj => by simpa using h1 (j + 1) (by omega)) (by simpa using h2)
    unfold idxF
    rw [if_neg (by simpa using h0), ih, if_neg (by omega)]; omega
theorem idxF_none (p : Nat → Bool) : ∀ (l : List Nat), (∀ j, j < l.length → p (l.getD j 0) = false) → idxF p l = -1
  | [], _ => rfl
  | a :: l, h => by
    have h0 := h 0 (by simp)
    have ih := idxF_none p l (fun j hj => by simpa using h (j + 1) (by simpa using hj))
    unfold idxF
    rw [if_neg (by simpa using h0), ih]; rfl
theorem up_false {p : Nat → Bool} {l : List Nat} {i : Nat} (h : ∀ j, j < i → p (l.getD j 0) = false) (h1 : p (l.getD i 0) = false) : ∀ j, j < i + 1 → p (l.getD j 0) = false := by
  intro j hj
  rcases Nat.lt_or_ge j i with h2 | h2
  · exact h j h2
  · obtain rfl : j = i := by omega
    exact h1
def okcN (x : Nat) : Bool := if dgtN x then true else if (!decide ((x : Int) < 97) && decide ((x : Int) ≤ 102)) then true else if (!decide ((x : Int) < 65) && decide ((x : Int) ≤ 70)) then true else (asc ⟨#[120, 88, 111, 79, 46, 43, 45, 95]⟩).any fun y => decide ((x : Int) = (y : Int))
def strangeN (u : List Nat) : Bool := u.all okcN && u.any dgtN
theorem take_up {l : List Nat} {i : Nat} (h : i < l.length) : l.take (i + 1) = l.take i ++ [l.getD i 0] := by
  rw [List.take_succ_eq_append_getElem h, List.getD_eq_getElem?_getD, List.getElem?_eq_getElem h]; rfl
theorem any_up {p : Nat → Bool} {l : List Nat} {i : Nat} (h : i < l.length) : (l.take (i + 1)).any p = ((l.take i).any p || p (l.getD i 0)) := by
  rw [take_up h, List.any_append]; simp
theorem all_up {p : Nat → Bool} {l : List Nat} {i : Nat} (h : i < l.length) (h1 : (l.take i).all p = true) (h2 : p (l.getD i 0) = true) : (l.take (i + 1)).all p = true := by
  rw [take_up h, List.all_append, h1]; simpa using h2
theorem all_bad {p : Nat → Bool} {l : List Nat} {i : Nat} (h : i < l.length) (h2 : p (l.getD i 0) = false) : l.all p = false := by
  cases h3 : l.all p with
  | false => rfl
  | true =>
    rw [List.getD_eq_getElem?_getD, List.getElem?_eq_getElem h] at h2
    rw [show (some l[i]).getD 0 = l[i] from rfl, List.all_eq_true.1 h3 _ (List.getElem_mem h)] at h2
    cases h2
/-- the value of digits, as the code tells it -/
def valR : List Nat → Int → Int × Bool
  | [], n => (n, decide (n ≤ 9007199254740991))
  | x :: l, n => if decide (n ≤ 900719925474099) then valR l (10 * n + ((x : Int) - 48)) else (0, false)
theorem drop_at {l : List Nat} {i : Nat} (h : i < l.length) : l.drop i = l.getD i 0 :: l.drop (i + 1) := by
  rw [List.drop_eq_getElem_cons h, List.getD_eq_getElem?_getD, List.getElem?_eq_getElem h]; rfl
def rtrimN (l : List Nat) : List Nat := (l.reverse.dropWhile blankN).reverse
def trimN (u : List Nat) : List Nat := rtrimN (u.dropWhile blankN)
theorem dw_step {l : List Nat} (h : 0 < l.length) (h1 : blankN (l.getD 0 0) = true) : (l.drop 1).dropWhile blankN = l.dropWhile blankN := by
  cases l with
  | nil => simp at h
  | cons a l => rw [List.dropWhile_cons, if_pos (by simpa using h1)]; rfl
theorem dw_end {l : List Nat} (h : l.length = 0 ∨ blankN (l.getD 0 0) = false) : l.dropWhile blankN = l := by
  cases l with
  | nil => rfl
  | cons a l =>
    rcases h with h | h
    · simp at h
    · rw [List.dropWhile_cons, if_neg (by simpa using h)]
theorem last_rev {l : List Nat} (h : 0 < l.length) : l.reverse = l.getD (l.length - 1) 0 :: (l.take (l.length - 1)).reverse := by
  have h1 := take_up (l := l) (i := l.length - 1) (by omega)
  rw [show l.length - 1 + 1 = l.length by omega, List.take_length] at h1
  conv => lhs; rw [h1]
  simp
theorem rt_step {l : List Nat} (h : 0 < l.length) (h1 : blankN (l.getD (l.length - 1) 0) = true) : rtrimN (l.take (l.length - 1)) = rtrimN l := by
  unfold rtrimN
  rw [last_rev h, List.dropWhile_cons, if_pos (by simpa using h1)]
theorem rt_end {l : List Nat} (h : l.length = 0 ∨ (0 < l.length ∧ blankN (l.getD (l.length - 1) 0) = false)) : rtrimN l = l := by
  rcases h with h | ⟨h0, h⟩
  · rw [List.eq_nil_of_length_eq_zero h]; rfl
  · unfold rtrimN
    rw [last_rev h0, List.dropWhile_cons, if_neg (by simpa using h)]
    rw [← last_rev h0, List.reverse_reverse]
def U16s (u : List Nat) : Prop := ∀ x ∈ u, x < 65536
theorem U16s.at16 {u : List Nat} (h : U16s u) (i : Nat) : u.getD i 0 < 65536 := by
  rw [List.getD_eq_getElem?_getD]
  cases hk : u[i]? with
  | none => simp
  | some x => simpa using h x (List.mem_of_getElem? hk)
theorem U16s.asc (s : ByteArray) : U16s (asc s) := fun x hx => by
  unfold Go.Proofs.YtjakfchffigkkaaGreatDoor.asc at hx
  obtain ⟨c, _, rfl⟩ := List.mem_map.1 hx
  have := c.toNat_lt
  omega
theorem U16s.drop {u : List Nat} (h : U16s u) (n : Nat) : U16s (u.drop n) := fun x hx => h x (List.mem_of_mem_drop hx)
theorem U16s.take {u : List Nat} (h : U16s u) (n : Nat) : U16s (u.take n) := fun x hx => h x (List.mem_of_mem_take hx)
theorem U16s.dw {u : List Nat} (h : U16s u) (p : Nat → Bool) : U16s (u.dropWhile p) := fun x hx => h x ((List.dropWhile_sublist p).mem hx)
theorem U16s.trim {u : List Nat} (h : U16s u) : U16s (trimN u) := fun x hx => by
  unfold trimN rtrimN at hx
  exact h x ((List.dropWhile_sublist _).mem (by simpa using (List.dropWhile_sublist _).mem (List.mem_reverse.1 hx)))
theorem U16s.nil : U16s [] := fun _ h => by cases h
theorem digs_of {u : List Nat} (h : (u.any fun y : Nat => !dgtN y) = false) : ∀ j, j < u.length → 48 ≤ u.getD j 0 ∧ u.getD j 0 ≤ 57 := by
  intro j hj
  have h1 := List.any_eq_false.1 h (u.getD j 0) (by rw [List.getD_eq_getElem?_getD, List.getElem?_eq_getElem hj]; exact List.getElem_mem hj)
  generalize u.getD j 0 = y at *
  unfold dgtN at h1
  simp at h1
  omega
def bodyT (t d : List Nat) (neg : Bool) : Nm × Bool :=
  if decide (d = asc ⟨#[73, 110, 102, 105, 110, 105, 116, 121]⟩) then (if neg then negM ⟨3, 0⟩ else ⟨3, 0⟩, !strangeN t)
  else if !decide ((d.length : Int) ≤ 0) && !(d.any fun y : Nat => !dgtN y) then (if (valR d 0).2 then (if neg then negM ⟨0, (valR d 0).1⟩ else ⟨0, (valR d 0).1⟩, true) else (⟨2, 0⟩, false))
  else (if neg then negM ⟨2, 0⟩ else ⟨2, 0⟩, !strangeN t)
def numT (u : List Nat) : Nm × Bool :=
  if decide (((trimN u).length : Int) = 0) then (⟨0, 0⟩, true)
  else if decide ((((trimN u).getD 0 0 : Nat) : Int) = 45) then bodyT (trimN u) ((trimN u).drop 1) true
  else if decide ((((trimN u).getD 0 0 : Nat) : Int) = 43) then bodyT (trimN u) ((trimN u).drop 1) false
  else bodyT (trimN u) (trimN u) false
structure VOk (v : Vl) : Prop where
  limbs : Limbs v.mag
  units : U16s v.s
  mlen : v.mag.length ≤ 40
  slen : v.s.length ≤ 20000
  nlo : -9223372036854775808 ≤ v.nn
  nhi : v.nn ≤ 9223372036854775807
  rlo : -9223372036854775808 ≤ v.ref
  rhi : v.ref ≤ 9223372036854775807
theorem VOk.z : VOk Vl.z := ⟨Limbs.nil, U16s.nil, by decide, by decide, by decide, by decide, by decide, by decide⟩
theorem VOk.clean {v : Vl} (h : VOk v) : VOk (cleanV v) := by unfold cleanV; split; exact h; exact VOk.z
def numberV (v : Vl) : Nm × Int :=
  if decide ((cleanV v).k = 0) then (⟨2, 0⟩, 0)
  else if decide ((cleanV v).k = 1) || decide ((cleanV v).k = 2) then (⟨0, (cleanV v).ref⟩, 0)
  else if decide ((cleanV v).k = 3) then ((cleanV v).num, 0)
  else if decide ((cleanV v).k = 4) then (⟨0, 0⟩, 1)
  else if decide ((cleanV v).k = 5) then (if (numT (cleanV v).s).2 then ((numT (cleanV v).s).1, 0) else (⟨0, 0⟩, 3))
  else (⟨0, 0⟩, 3)
def strV (u : List Nat) : Vl := ⟨5, 0, 0, false, [], u.take 4096, 0⟩

theorem may_str {u : List Nat} (h : (u.length : Int) ≤ 4096) : mayV ⟨5, 0, 0, false, [], u, 0⟩ = true := by
  unfold mayV zeroV
  simp; omega
theorem may_clean (v : Vl) : mayV (cleanV v) = true := by
  unfold cleanV
  split
  · assumption
  · decide
theorem elB : ElemT Tryz.prog 77 5 (.int .u8 0) 1 1 := ⟨Tryz.underlying77, by kernel_rfl, rfl, by omega⟩
def numericV (v : Vl) : Vl × Int :=
  if decide ((cleanV v).k = 4) then (⟨4, 0, 0, (cleanV v).neg, (cleanV v).mag, [], 0⟩, 0)
  else if decide ((numberV (cleanV v)).2 = 0) then (⟨3, (numberV (cleanV v)).1.k, (numberV (cleanV v)).1.n, false, [], [], 0⟩, 0)
  else (Vl.z, (numberV (cleanV v)).2)
def itoaS (n : Int) : ByteArray := ⟨(Lib.itoa n).toArray⟩
def textM (a : Nm) : ByteArray := if decide ((asM a).k = 2) then ⟨#[78, 97, 78]⟩ else if decide ((asM a).k = 3) then ⟨#[73, 110, 102, 105, 110, 105, 116, 121]⟩ else if decide ((asM a).k = 4) then ⟨#[45, 73, 110, 102, 105, 110, 105, 116, 121]⟩ else itoaS (asM a).n
def textV (v : Vl) : List Nat × Int :=
  if decide ((cleanV v).k = 0) then (asc ⟨#[117, 110, 100, 101, 102, 105, 110, 101, 100]⟩, 0)
  else if decide ((cleanV v).k = 1) then (asc ⟨#[110, 117, 108, 108]⟩, 0)
  else if decide ((cleanV v).k = 2) then (if decide ((cleanV v).ref = 1) then asc ⟨#[116, 114, 117, 101]⟩ else asc ⟨#[102, 97, 108, 115, 101]⟩, 0)
  else if decide ((cleanV v).k = 3) then (asc (textM (cleanV v).num), 0)
  else if decide ((cleanV v).k = 4) then (asc (strOfNums (textI (goodI (cleanV v).neg (cleanV v).mag))), 0)
  else if decide ((cleanV v).k = 5) then ((cleanV v).s, 0)
  else ([], 3)
theorem itoaS_size {n : Int} (h0 : -9223372036854775808 ≤ n) (h1 : n ≤ 9223372036854775807) : (itoaS n).size ≤ 21 := by
  have := Lib.itoa_length_le n h0 h1
  unfold itoaS
  simpa [ByteArray.size] using this
theorem textM_size (a : Nm) : (textM a).size ≤ 21 := by
  have h := as_bd a
  unfold textM
  split
  · decide
  · split
    · decide
    · split
      · decide
      · exact itoaS_size (by omega) (by omega)
theorem textI_size {b : Bool} {m : List Nat} (h : Limbs m) : (strOfNums (textI (goodI b m))).size ≤ 79 := by
  have h1 := digs_big (good_lt (b := b) h)
  rw [← len_data, textU_eq]
  split
  · simp
  · have h2 : (lettersU (goodI b m).natAbs).length = (digs (goodI b m).natAbs).length := by simp [lettersU]
    split <;> simp [h2] <;> omega
/-- what may be: its kind and what is nought -/
theorem may_num {v : Vl} (h : mayV v = true) (hk : v.k = 3) : nmayB v.num = true ∧ v = ⟨3, v.nk, v.nn, false, [], [], 0⟩ := by
  unfold mayV zeroV at h
  obtain ⟨k, nk, nn, neg, mag, s, ref⟩ := v
  simp only at hk
  subst hk
  simp at h
  obtain ⟨⟨⟨⟨rfl, h1⟩, h2⟩, rfl⟩, h3⟩ := h
  subst h1 h2
  exact ⟨h3, rfl⟩
theorem letter_nat2 (d : Nat) : (letter d).toNat = 48 + d := by unfold letter; exact Int.toNat_natCast _
theorem digs_dec {u : Nat} (h : 0 < u) : ((digs u).map fun d => UInt8.ofNat (letter d).toNat).reverse = Lib.decDigits u := by
  induction u using Nat.strongRecOn with
  | ind u ih =>
    rw [Lib.decDigits, digs_pos h]
    by_cases h10 : u < 10
    · rw [dif_pos h10, Nat.div_eq_of_lt h10, digs_zero, Nat.mod_eq_of_lt h10]; simp only [List.map_cons, List.map_nil, List.reverse_cons, List.reverse_nil, List.nil_append, letter_nat2]
    · rw [dif_neg h10, ← ih (u / 10) (by omega) (by omega)]; simp only [List.map_cons, List.reverse_cons, letter_nat2]
theorem textI_itoa (n : Int) : strOfNums (textI n) = itoaS n := by
  unfold strOfNums itoaS textI Lib.itoa
  congr 2
  by_cases hz : n = 0
  · subst hz; rw [if_pos rfl, if_neg (by omega), Lib.decDigits]; rfl
  · rw [if_neg hz]
    by_cases hn : n < 0
    · rw [if_pos hn, if_pos hn, ← digs_dec (u := n.natAbs) (by omega)]; simp
    · rw [if_neg hn, if_neg hn, show n.toNat = n.natAbs by omega, ← digs_dec (u := n.natAbs) (by omega)]; simp
theorem strV_short {u : List Nat} (h : u.length ≤ 4096) : strV u = ⟨5, 0, 0, false, [], u, 0⟩ := by
  unfold strV
  rw [List.take_of_length_le h]
theorem clean_of {v : Vl} (h : mayV v = true) : cleanV v = v := by unfold cleanV; rw [if_pos h]
theorem neg_may {a : Nm} (h : nmayB a = true) : nmayB (negM a) = true := by
  have e : asM a = a := by unfold asM; rw [if_pos h]
  unfold negM negA infM
  rw [e]
  obtain ⟨k, n⟩ := a
  unfold nmayB at h ⊢
  simp at h
  simp only
  repeat' split
  all_goals (simp_all; try omega)
theorem valR_may : ∀ (l : List Nat) (n : Int), 0 ≤ n → (∀ x ∈ l, 48 ≤ x) → (valR l n).2 = true → 0 ≤ (valR l n).1 ∧ (valR l n).1 ≤ 9007199254740991
  | [], n, h0, _, h => ⟨h0, of_decide_eq_true h⟩
  | x :: l, n, h0, hx, h => by
    have h1 := hx x (by simp)
    rw [valR] at h ⊢
    split at h
    · rename_i h2
      rw [if_pos h2]
      exact valR_may l _ (by omega) (fun y hy => hx y (by simp [hy])) h
    · cases h
theorem body_may (t d : List Nat) (neg : Bool) : nmayB (bodyT t d neg).1 = true := by
  have h3 : nmayB ⟨3, 0⟩ = true := by decide
  have h2 : nmayB ⟨2, 0⟩ = true := by decide
  unfold bodyT
  split
  · cases neg
    · exact h3
    · exact neg_may h3
  · split
    · split
      · rename_i h4 h5
        have hd : ∀ x ∈ d, 48 ≤ x := fun x hx => by
          simp only [Bool.and_eq_true, Bool.not_eq_true'] at h4
          have h6 := List.any_eq_false.1 h4.2 x hx
          unfold dgtN at h6
          simp at h6
          omega
        have h6 := valR_may d 0 (Int.le_refl _) hd h5
        have h7 : nmayB ⟨0, (valR d 0).1⟩ = true := by unfold nmayB; simp; omega
        cases neg
        · exact h7
        · exact neg_may h7
      · exact h2
    · cases neg
      · exact h2
      · exact neg_may h2
theorem numT_may (u : List Nat) : nmayB (numT u).1 = true := by
  unfold numT
  split
  · decide
  · split
    · exact body_may _ _ _
    · split <;> exact body_may _ _ _
theorem may_ref {v : Vl} (h : mayV v = true) (hk : v.k = 1 ∨ v.k = 2) : v.ref = 0 ∨ v.ref = 1 := by
  unfold mayV zeroV at h
  rcases hk with hk | hk
  · simp [hk] at h; omega
  · simp [hk] at h; omega
theorem number_may (v : Vl) (h : (numberV v).2 = 0) : nmayB (numberV v).1 = true := by
  have hc := may_clean v
  unfold numberV at h ⊢
  split
  · decide
  · rename_i h0
    rw [if_neg h0] at h
    split
    · rename_i h1
      have h2 := may_ref hc (by simpa using h1)
      unfold nmayB
      rcases h2 with h2 | h2 <;> simp [h2]
    · rename_i h1
      rw [if_neg h1] at h
      split
      · rename_i h2
        exact (may_num hc (of_decide_eq_true h2)).1
      · rename_i h2
        rw [if_neg h2] at h
        split
        · decide
        · rename_i h3
          rw [if_neg h3] at h
          split
          · split
            · exact numT_may _
            · decide
          · decide
theorem run_conv {P : Program} {s d : TypeId} {k kd : IntKind} {n m : Int} {w : World} (hs : (P.underlying s).isSome = true) (hd : P.underlying d = some (.int (P.intKind d))) (hk : P.intKind d = kd) (hr : kd.wrap n = m) : (convert s d (.int k n)).run P w = .ok (.int kd m) w := by
  rw [run_convert_int (src := s) (dst := d) (k := k) (n := n) (hs := hs) (hd := hd), hk, hr]
theorem r_remU {P : Program} {t : TypeId} {x y r : Int} (h : x.tmod y = r) (hy : y ≠ 0) : ∀ w, (binOp .rem t (.int .u64 x) (.int .u64 y)).run P w = .ok (.int .u64 r) w := by
  intro w; simp [binOp, Op.intDiv, h, hy]
abbrev numVl (a : Nm) : Vl := ⟨3, a.k, a.n, false, [], [], 0⟩
def numericsV (v u : Vl) : Vl × Vl × Int :=
  if decide ((numericV v).2 = 0) then (if decide ((numericV u).2 = 0) then
    (if decide ((numericV v).1.k = (numericV u).1.k) then ((numericV v).1, (numericV u).1, 0) else (Vl.z, Vl.z, 1))
    else (Vl.z, Vl.z, (numericV u).2))
  else (Vl.z, Vl.z, (numericV v).2)
def joinV (v u : Vl) : Vl × Int :=
  if decide ((textV v).2 = 0) then (if decide ((textV u).2 = 0) then
    (if decide ((((textV v).1.length + (textV u).1.length : Nat) : Int) ≤ 4096) then (strV ((textV v).1 ++ (textV u).1), 0) else (Vl.z, 3))
    else (Vl.z, (textV u).2))
  else (Vl.z, (textV v).2)
theorem num_mayV {n : Nm} (h : nmayB n = true) : mayV (numVl n) = true := by
  unfold mayV
  simp [zeroV, Vl.num, h]
theorem num_clean {n : Nm} (h : nmayB n = true) : cleanV (numVl n) = numVl n := by unfold cleanV; rw [if_pos (num_mayV h)]
theorem str_clean (u : List Nat) : cleanV (strV u) = strV u := by
  have h : (u.take 4096).length ≤ 4096 := by rw [List.length_take]; omega
  exact clean_of (may_str (u := u.take 4096) (by omega))
theorem str_text (u : List Nat) : textV (strV u) = (u.take 4096, 0) := by
  unfold textV
  rw [str_clean]; rfl
theorem num_text {n : Nm} (h : nmayB n = true) : textV (numVl n) = (asc (textM n), 0) := by
  unfold textV
  rw [num_clean h]; rfl
theorem join_str {a b : List Nat} (h : a.length + b.length ≤ 4096) : joinV (cleanV (strV a)) (cleanV (strV b)) = (strV (a ++ b), 0) := by
  unfold joinV
  rw [str_clean, str_clean, str_text, str_text, List.take_of_length_le (by omega), List.take_of_length_le (by omega)]
  simp only [decide_true, if_true]
  rw [if_pos (decide_eq_true (by omega))]
theorem join_num {a : List Nat} {n : Nm} (ha : a.length ≤ 4000) (h : nmayB n = true) : joinV (cleanV (strV a)) (cleanV (numVl n)) = (strV (a ++ asc (textM n)), 0) := by
  have h1 := textM_size n
  have h2 := asc_len (textM n)
  unfold joinV
  rw [str_clean, num_clean h, str_text, num_text h, List.take_of_length_le (by omega)]
  simp only [decide_true, if_true]
  rw [if_pos (decide_eq_true (by omega))]
theorem whole_mayB {n : Int} (h1 : -9007199254740991 ≤ n) (h2 : n ≤ 9007199254740991) : nmayB ⟨0, n⟩ = true := by unfold nmayB; simp; omega
theorem whole_text {n : Int} (h1 : -9007199254740991 ≤ n) (h2 : n ≤ 9007199254740991) : textM ⟨0, n⟩ = strOfNums (textI n) := by
  rw [textI_itoa]
  unfold textM asM
  rw [if_pos (whole_mayB h1 h2)]; rfl
theorem join_whole {a : List Nat} {n : Int} (hl : a.length ≤ 4000) (h1 : -9007199254740991 ≤ n) (h2 : n ≤ 9007199254740991) : joinV (cleanV (strV a)) (cleanV (Vl.mk 3 0 n false [] [] 0)) = (strV (a ++ asc (strOfNums (textI n))), 0) := by
  have h := join_num (a := a) (n := ⟨0, n⟩) hl (whole_mayB h1 h2)
  rw [whole_text h1 h2] at h
  exact h

theorem nan_c  (w : World) : Calls Tryz.prog 94 #[] w (IsRet (nv (Nm.mk 2 0)) w) := by
 refine enter_abs Tryz.func94 rfl fun a0 aa au hp => ?_
 have aa : a0.tmps.size = 2 := aa
 have ad : New w w := Upd.refl _ _
 refine wp_seq_k fun K1 av => ?_
 refine wp_g [true] [] [] 2
   [IsNew w 23 [iv 0, iv 0]]
   [0] (newsCons (fun v w h => IsNew.old h) newsNil) aa (.nw (.nil)) ?_ (fun i h => by cases h) ?_
 exact .o2 (step_allocN (cs := [iv 0, iv 0]) (t := 23) rfl (noG rfl) (fun _ w hn k => rfl) (fun q _ hq hb => ⟨q, rfl, hq, hb⟩)) .nil
 refine aftI aa au ad fun a2 w3 ae aw ag aC ax => ?_
 obtain ⟨q9, h8, ah, ai⟩ : IsNew _ _ _ _ _ := ax.got 0 0 rfl (by kernel_rfl)
 have az := Nat.le_trans ad.size ah
 refine st_nil (av _ _ (wp_seq_k fun aD aj => ?_))
 refine wp_g0 [true, false] [(1, false)] 2
   [ve (nv (Nm.mk 2 0)), vt] ae (.eq (.tt (.nil))) ?_ ?_
 exact .t (fun _ w hn k => ⟨_, v_build (ps := [(0, iv 2)]) rfl (parts1 rfl) (by kernel_rfl), rfl⟩) <| .off .nil
 refine aftI ae aw ag fun aE aF aA ak al am ab => ?_
 have af := ab.fx 0 h8
 have ay := ab.ge 0 1 rfl
 have an := ai.new_ am
 obtain ⟨aG, -, ac, ao, ap, aB⟩ := s_two (v0 := iv 2) (v1 := iv 0) Tryz.sizeOf23 rfl rfl rfl an
 refine st_act rfl rfl fun aH aq => a_store' rfl af ay ac (aq _ _ trivial ?_)
 have ar := al.trans ap (fun _ h b => by subst b; omega)
 refine st_nil (aj _ _ ?_)
 refine wp_ret (ret_k ak (v := nv (Nm.mk 2 0)) (res_c rfl af (l_two Tryz.isAgg23 Tryz.sizeOf23 ao)) ?_)
 exact ⟨rfl, ar⟩
theorem may_c (a : Nm) (w : World) : Calls Tryz.prog 47 #[nv a] w (IsRet (.bool (nmayB a)) w) := by
 refine enter_abs Tryz.func47 rfl fun a0 aq b3 hp => ?_
 have aq : a0.tmps.size = 23 := aq
 have bh : New w w := Upd.refl _ _
 have hp0 : a0.eval (.tmp 0) = nv a := hp 0 _ rfl
 refine wp_seq_k fun K1 b4 => ?_
 refine wp_g [true, true] [] [] 23
   [IsNew w 23 [iv a.k, iv a.n], vF]
   [0] (newsCons (fun v w h => IsNew.old h) newsNil) aq (.nw (.eq (.nil))) ?_ (fun i h => by cases h) ?_
 exact .o2 (step_allocN (cs := [iv a.k, iv a.n]) (t := 23) rfl (noG rfl) (fun _ w hn k => v_box rfl (k.fx 0 hp0) (fun w => rfl)) (fun q _ hq hb => ⟨q, rfl, hq, hb⟩)) <| .t (fun _ w hn k => ⟨_, v_assign rfl rfl, rfl⟩) .nil
 refine aftI aq b3 bh fun a2 w3 bi b5 bs cE b6 => ?_
 obtain ⟨q9, h8, bt, aA⟩ : IsNew _ _ _ _ _ := b6.got 0 1 rfl (by kernel_rfl)
 have ci := Nat.le_trans bh.size bt
 refine st_nil (b4 _ _ (wp_seq_k fun cF bu => ?_))
 refine wp_seq_k fun cG bv => ?_
 refine wp_g0 [true, true] [] 23
   [ve (pv q9), ve (iv a.k)] bi (.eq (.eq (.nil))) ?_ ?_
 exact .f (fun k => k.fx 1 h8) <| .t (fun _ w hn k => ⟨_, v_load rfl (k.eq1 0 3 rfl) (l_one Tryz.isAgg3 ((aA.new_ hn).cell 0)), rfl⟩) .nil
 refine aftI bi b5 bs fun cH cI aB bw bx bz aC => ?_
 have b7 := aC.fx 1 h8
 have bj := aC.ge 1 4 rfl
 have bA := aA.new_ bz
 refine st_nil (bv _ _ ?_)
 refine wp_block ?_
 refine wp_seq_k fun cJ bB => ?_
 refine wp_g0 [true, true] [] 23
   [ve (.bool (decide (a.k = 0))), ve (.bool (decide (a.k = 0)))] aB (.eq (.eq (.nil))) ?_ ?_
 exact .t (fun _ w hn k => ⟨_, v_bin rfl (k.fx 4 bj) rfl (fun _ => rfl) (r_eql rfl), rfl⟩) <| .a (fun k => k.eq1 0 6 rfl) .nil
 refine aftI aB bw bx fun cK cL ah aD aE bC am => ?_
 have aF := am.fx 1 b7
 have bk := am.fx 4 bj
 have bl := am.ge 1 5 rfl
 have an := bA.new_ bC
 refine st_nil (bB _ _ ?_)
 rcases bc (decide (a.k = 0)) with aa | aa
 have aT := oT aa
 have bD := hB bl aa
 refine wp_cond_true bD ?_
 refine wp_seq_k fun cM bE => ?_
 refine wp_g0 (.replicate 9 true) [] 23
   [ve (.pointer (some ⟨q9, 1, none⟩)), ve (iv a.n), ve (.bool (!decide (a.n < -9007199254740991))), ve (.bool (!decide (a.n < -9007199254740991))), ve (gq (!decide (a.n < -9007199254740991)) (.pointer (some ⟨q9, 1, none⟩))), ve (gq (!decide (a.n < -9007199254740991)) (iv a.n)), ve (gq (!decide (a.n < -9007199254740991)) (.bool (decide (a.n ≤ 9007199254740991)))), ve (.bool ((!decide (a.n < -9007199254740991)) && (decide (a.n ≤ 9007199254740991)))), ve (.bool ((!decide (a.n < -9007199254740991)) && (decide (a.n ≤ 9007199254740991))))] ah (.eq (.eq (.eq (.eq (.eq (.eq (.eq (.eq (.eq (.nil)))))))))) ?_ ?_
 exact .f (fun k => k.fx 1 aF) <| .t (fun _ w hn k => ⟨_, v_load rfl (k.eq1 0 7 rfl) (l_one Tryz.isAgg3 ((an.new_ hn).cell 1)), rfl⟩) <| .t (fun _ w hn k => ⟨_, v_bin rfl (k.eq1 1 8 rfl) rfl (fun _ => rfl) (r_geqK rfl), rfl⟩) <| .m (fun k => k.eq1 2 9 rfl) <| .o1 (sc (G := (!decide (a.n < -9007199254740991))) rfl rfl rfl (fun _ _ k => g0 (k.eq1 3 10 rfl)) (fun hG _ w hn k => v_field rfl (k.fx 1 aF) (fun w => rfl))) <| .o1 (sc (G := (!decide (a.n < -9007199254740991))) rfl rfl rfl (fun _ _ k => g0 (k.eq1 3 10 rfl)) (fun hG _ w hn k => v_load rfl (cT hG (k.eq1 4 11 rfl)) (l_one Tryz.isAgg3 ((an.new_ hn).cell 1)))) <| .o1 (sc (G := (!decide (a.n < -9007199254740991))) rfl rfl rfl (fun _ _ k => g0 (k.eq1 3 10 rfl)) (fun hG _ w hn k => v_bin rfl (cT hG (k.eq1 5 12 rfl)) rfl (fun _ => rfl) (r_leqK rfl))) <| .t (fun _ w hn k => ⟨_, v_and rfl (k.eq1 3 10 rfl) (fun hg => (cT hg (k.eq1 6 13 rfl))) rfl, rfl⟩) <| .a (fun k => k.eq1 7 14 rfl) .nil
 refine aftI ah aD aE fun cN cO cj bF bG cl bH => ?_
 have b8 := bH.ge 8 2 rfl
 refine st_nil (bE _ _ ?_)
 refine wp_ret (ret_k bF (v := .bool ((!decide (a.n < -9007199254740991)) && (decide (a.n ≤ 9007199254740991)))) (res_t rfl b8 _) ?_)
 refine ⟨?_, bG⟩
 show Ending.returned (.bool ((!decide (a.n < -9007199254740991)) && (decide (a.n ≤ 9007199254740991)))) = Ending.returned (.bool (nmayB a))
 first | rfl | (simp only [nmayB, aa, bsm] <;> rfl) | (exfalso; omega)
 have aT := oF aa
 have bI := hB bl aa
 refine wp_cond_false bI ?_
 refine wp_seq_k fun cP ai => ?_
 refine wp_seq_k fun cQ bJ => ?_
 refine wp_g0 [true, true] [] 23
   [ve (.bool (decide (a.k = 1))), ve (.bool (decide (a.k = 1)))] ah (.eq (.eq (.nil))) ?_ ?_
 exact .t (fun _ w hn k => ⟨_, v_bin rfl (k.fx 4 bk) rfl (fun _ => rfl) (r_eql rfl), rfl⟩) <| .a (fun k => k.eq1 0 16 rfl) .nil
 refine aftI ah aD aE fun cR cS aj aG aH bK ao => ?_
 have bm := ao.fx 1 aF
 have bn := ao.fx 4 bk
 have bo := ao.ge 1 15 rfl
 have aI := an.new_ bK
 refine st_nil (bJ _ _ ?_)
 rcases bc (decide (a.k = 1)) with ac | ac
 have aU := oT ac
 have aJ := hB bo ac
 refine wp_cond_true aJ ?_
 refine wp_skip ?_
 refine ai _ _ ?_
 refine wp_cond_true aJ ?_
 refine wp_seq_k fun cU bL => ?_
 refine wp_g0 [true, true, true, true] [] 23
   [ve (.pointer (some ⟨q9, 1, none⟩)), ve (iv a.n), ve (.bool (decide (a.n = 0))), ve (.bool (decide (a.n = 0)))] aj (.eq (.eq (.eq (.eq (.nil))))) ?_ ?_
 exact .f (fun k => k.fx 1 bm) <| .t (fun _ w hn k => ⟨_, v_load rfl (k.eq1 0 20 rfl) (l_one Tryz.isAgg3 ((aI.new_ hn).cell 1)), rfl⟩) <| .t (fun _ w hn k => ⟨_, v_bin rfl (k.eq1 1 21 rfl) rfl (fun _ => rfl) (r_eql rfl), rfl⟩) <| .a (fun k => k.eq1 2 22 rfl) .nil
 refine aftI aj aG aH fun cV cW cm bM bN cn bO => ?_
 have b9 := bO.ge 3 2 rfl
 refine st_nil (bL _ _ ?_)
 refine wp_ret (ret_k bM (v := .bool (decide (a.n = 0))) (res_t rfl b9 _) ?_)
 refine ⟨?_, bN⟩
 show Ending.returned (.bool (decide (a.n = 0))) = Ending.returned (.bool (nmayB a))
 first | rfl | (simp only [nmayB, aa, ac, bsm] <;> rfl) | (exfalso; omega)
 have aU := oF ac
 have bP := hB bo ac
 refine wp_cond_false bP ?_
 refine wp_seq_k fun cX bQ => ?_
 refine wp_g0 [true, true] [] 23
   [ve (.bool (decide (a.k = 2))), ve (.bool (decide (a.k = 2)))] aj (.eq (.eq (.nil))) ?_ ?_
 exact .t (fun _ w hn k => ⟨_, v_bin rfl (k.fx 4 bn) rfl (fun _ => rfl) (r_eql rfl), rfl⟩) <| .a (fun k => k.eq1 0 17 rfl) .nil
 refine aftI aj aG aH fun cY cZ ak aK aL bR ap => ?_
 have bp := ap.fx 1 bm
 have bq := ap.fx 4 bn
 have br := ap.ge 1 15 rfl
 have aM := aI.new_ bR
 refine st_nil (bQ _ _ ?_)
 rcases bc (decide (a.k = 2)) with ad | ad
 have aV := oT ad
 have aN := hB br ad
 refine wp_cond_true aN ?_
 refine wp_skip ?_
 refine ai _ _ ?_
 refine wp_cond_true aN ?_
 refine wp_seq_k fun c0 bS => ?_
 refine wp_g0 [true, true, true, true] [] 23
   [ve (.pointer (some ⟨q9, 1, none⟩)), ve (iv a.n), ve (.bool (decide (a.n = 0))), ve (.bool (decide (a.n = 0)))] ak (.eq (.eq (.eq (.eq (.nil))))) ?_ ?_
 exact .f (fun k => k.fx 1 bp) <| .t (fun _ w hn k => ⟨_, v_load rfl (k.eq1 0 20 rfl) (l_one Tryz.isAgg3 ((aM.new_ hn).cell 1)), rfl⟩) <| .t (fun _ w hn k => ⟨_, v_bin rfl (k.eq1 1 21 rfl) rfl (fun _ => rfl) (r_eql rfl), rfl⟩) <| .a (fun k => k.eq1 2 22 rfl) .nil
 refine aftI ak aK aL fun c1 c2 co bT bU cp bV => ?_
 have ca := bV.ge 3 2 rfl
 refine st_nil (bS _ _ ?_)
 refine wp_ret (ret_k bT (v := .bool (decide (a.n = 0))) (res_t rfl ca _) ?_)
 refine ⟨?_, bU⟩
 show Ending.returned (.bool (decide (a.n = 0))) = Ending.returned (.bool (nmayB a))
 first | rfl | (simp only [nmayB, aa, ac, ad, bsm] <;> rfl) | (exfalso; omega)
 have aV := oF ad
 have bW := hB br ad
 refine wp_cond_false bW ?_
 refine wp_seq_k fun c3 bX => ?_
 refine wp_g0 [true, true] [] 23
   [ve (.bool (decide (a.k = 3))), ve (.bool (decide (a.k = 3)))] ak (.eq (.eq (.nil))) ?_ ?_
 exact .t (fun _ w hn k => ⟨_, v_bin rfl (k.fx 4 bq) rfl (fun _ => rfl) (r_eql rfl), rfl⟩) <| .a (fun k => k.eq1 0 18 rfl) .nil
 refine aftI ak aK aL fun cq cr af ar au aW al => ?_
 have aO := al.fx 1 bp
 have bY := al.fx 4 bq
 have aP := al.ge 1 15 rfl
 have av := aM.new_ aW
 refine st_nil (bX _ _ ?_)
 rcases bc (decide (a.k = 3)) with ab | ab
 have aQ := oT ab
 have aw := hB aP ab
 refine wp_cond_true aw ?_
 refine wp_skip ?_
 refine ai _ _ ?_
 refine wp_cond_true aw ?_
 refine wp_seq_k fun ct aX => ?_
 refine wp_g0 [true, true, true, true] [] 23
   [ve (.pointer (some ⟨q9, 1, none⟩)), ve (iv a.n), ve (.bool (decide (a.n = 0))), ve (.bool (decide (a.n = 0)))] af (.eq (.eq (.eq (.eq (.nil))))) ?_ ?_
 exact .f (fun k => k.fx 1 aO) <| .t (fun _ w hn k => ⟨_, v_load rfl (k.eq1 0 20 rfl) (l_one Tryz.isAgg3 ((av.new_ hn).cell 1)), rfl⟩) <| .t (fun _ w hn k => ⟨_, v_bin rfl (k.eq1 1 21 rfl) rfl (fun _ => rfl) (r_eql rfl), rfl⟩) <| .a (fun k => k.eq1 2 22 rfl) .nil
 refine aftI af ar au fun cu cv cb aY aZ cc a1 => ?_
 have bZ := a1.ge 3 2 rfl
 refine st_nil (aX _ _ ?_)
 refine wp_ret (ret_k aY (v := .bool (decide (a.n = 0))) (res_t rfl bZ _) ?_)
 refine ⟨?_, aZ⟩
 show Ending.returned (.bool (decide (a.n = 0))) = Ending.returned (.bool (nmayB a))
 first | rfl | (simp only [nmayB, aa, ac, ad, ab, bsm] <;> rfl) | (exfalso; omega)
 have aQ := oF ab
 have a3 := hB aP ab
 refine wp_cond_false a3 ?_
 refine wp_g0 [true, true] [] 23
   [ve (.bool (decide (a.k = 4))), ve (.bool (decide (a.k = 4)))] af (.eq (.eq (.nil))) ?_ ?_
 exact .t (fun _ w hn k => ⟨_, v_bin rfl (k.fx 4 bY) rfl (fun _ => rfl) (r_eql rfl), rfl⟩) <| .a (fun k => k.eq1 0 19 rfl) .nil
 refine aftI af ar au fun cw cx ag ax ay a4 az => ?_
 have b0 := az.fx 1 aO
 have aR := az.ge 1 15 rfl
 have a5 := av.new_ a4
 refine st_nil (ai _ _ ?_)
 rcases bc (decide (a.k = 4)) with ae | ae
 have aS := oT ae
 have a6 := hB aR ae
 refine wp_cond_true a6 ?_
 refine wp_seq_k fun cy a7 => ?_
 refine wp_g0 [true, true, true, true] [] 23
   [ve (.pointer (some ⟨q9, 1, none⟩)), ve (iv a.n), ve (.bool (decide (a.n = 0))), ve (.bool (decide (a.n = 0)))] ag (.eq (.eq (.eq (.eq (.nil))))) ?_ ?_
 exact .f (fun k => k.fx 1 b0) <| .t (fun _ w hn k => ⟨_, v_load rfl (k.eq1 0 20 rfl) (l_one Tryz.isAgg3 ((a5.new_ hn).cell 1)), rfl⟩) <| .t (fun _ w hn k => ⟨_, v_bin rfl (k.eq1 1 21 rfl) rfl (fun _ => rfl) (r_eql rfl), rfl⟩) <| .a (fun k => k.eq1 2 22 rfl) .nil
 refine aftI ag ax ay fun cz cA cd a8 a9 ce ba => ?_
 have b1 := ba.ge 3 2 rfl
 refine st_nil (a7 _ _ ?_)
 refine wp_ret (ret_k a8 (v := .bool (decide (a.n = 0))) (res_t rfl b1 _) ?_)
 refine ⟨?_, a9⟩
 show Ending.returned (.bool (decide (a.n = 0))) = Ending.returned (.bool (nmayB a))
 first | rfl | (simp only [nmayB, aa, ac, ad, ab, ae, bsm] <;> rfl) | (exfalso; omega)
 have aS := oF ae
 have bb := hB aR ae
 refine wp_cond_false bb ?_
 refine wp_skip ?_
 refine bu _ _ ?_
 refine wp_seq_k fun cB bd => ?_
 refine wp_g0 [true] [] 23
   [vF] ag (.eq (.nil)) ?_ ?_
 exact .t (fun _ w hn k => ⟨_, v_assign rfl rfl, rfl⟩) .nil
 refine aftI ag ax ay fun cC cD cf be bf ch bg => ?_
 have b2 := bg.ge 0 2 rfl
 refine st_nil (bd _ _ ?_)
 refine wp_ret (ret_k be (v := .bool false) (res_t rfl b2 _) ?_)
 refine ⟨?_, bf⟩
 show Ending.returned (.bool false) = Ending.returned (.bool (nmayB a))
 first | rfl | (simp only [nmayB, aa, ac, ad, ab, ae, bsm] <;> rfl) | (exfalso; omega)
theorem bmay_c (a : Bool) (Aa : Option Addr) (ma : List Nat) (ca : Nat) (w : World) (hra : SRow w .u32 Aa ma ca) : Calls Tryz.prog 48 #[.agg #[.bool a, sv Aa ma ca]] w (IsRet (.bool (mayB a ma)) w) := by
 refine enter_abs Tryz.func48 rfl fun a0 aq a9 hp => ?_
 have aq : a0.tmps.size = 31 := aq
 have az : New w w := Upd.refl _ _
 have hp0 : a0.eval (.tmp 0) = .agg #[.bool a, sv Aa ma ca] := hp 0 _ rfl
 have hmx := hra.max
 refine wp_seq_k fun K1 ba => ?_
 refine wp_g [true, true] [] [] 31
   [IsNew w 26 [.bool a, sv Aa ma ca], vF]
   [0] (newsCons (fun v w h => IsNew.old h) newsNil) aq (.nw (.eq (.nil))) ?_ (fun i h => by cases h) ?_
 exact .o2 (step_allocN (cs := [.bool a, sv Aa ma ca]) (t := 26) rfl (noG rfl) (fun _ w hn k => v_box rfl (k.fx 0 hp0) (fun w => rfl)) (fun q _ hq hb => ⟨q, rfl, hq, hb⟩)) <| .t (fun _ w hn k => ⟨_, v_assign rfl rfl, rfl⟩) .nil
 refine aftI aq a9 az fun a2 w3 aA bb aB bX bd => ?_
 obtain ⟨q9, h8, aC, ar⟩ : IsNew _ _ _ _ _ := bd.got 0 1 rfl (by kernel_rfl)
 have bG := Nat.le_trans az.size aC
 refine st_nil (ba _ _ (wp_seq_k fun bY aD => ?_))
 refine wp_g0 [true, true, true, true] [] 31
   [ve (.pointer (some ⟨q9, 1, none⟩)), ve (sv Aa ma ca), ve (iv (ma.length : Int)), ve (iv (ma.length : Int))] aA (.eq (.eq (.eq (.eq (.nil))))) ?_ ?_
 exact .f (fun k => k.fx 1 h8) <| .t (fun _ w hn k => ⟨_, v_load rfl (k.eq1 0 4 rfl) (l_one Tryz.isAgg24 ((ar.new_ hn).cell 1)), rfl⟩) <| .t (fun _ w hn k => ⟨_, v_lenR rfl elW (k.eq1 1 5 rfl), rfl⟩) <| .a (fun k => k.eq1 2 6 rfl) .nil
 refine aftI aA bb aB fun bZ b0 ab ag ac aE au => ?_
 have al := au.fx 1 h8
 have aa := au.ge 3 3 rfl
 have ah := ar.new_ aE
 refine st_nil (aD _ _ (wp_seq_k fun b1 ai => ?_))
 rcases bc (decide ((ma.length : Int) ≤ 8)) with ad | ad
 have av := oT ad
 rcases bc (decide ((ma.length : Int) = 0)) with ae | ae
 have aw := oT ae
 rcases bc (a) with af | af
 rcases bc (decide ((ma.length : Int) ≤ 0)) with aj | aj
 have ax := oT aj
 refine wp_g0 (.replicate 25 true) [] 31
   [ve (iv (ma.length : Int)), vT, vT, ve (iv (ma.length : Int)), vT, vT, ve (pv q9), vT, vF, vF, vF, ve (iv (ma.length : Int)), vF, vF, vU, vU, vU, vU, vU, vU, vU, vF, vF, vF, vF] ab (.eq (.eq (.eq (.eq (.eq (.eq (.eq (.eq (.eq (.eq (.eq (.eq (.eq (.eq (.eq (.eq (.eq (.eq (.eq (.eq (.eq (.eq (.eq (.eq (.eq (.nil)))))))))))))))))))))))))) ?_ ?_
 exact .m (fun k => k.fx 3 aa) <| .t (fun _ w hn k => ⟨_, v_bin rfl (k.eq1 0 7 rfl) rfl (fun _ => rfl) (r_leqK ad), rfl⟩) <| .m (fun k => k.eq1 1 8 rfl) <| .gm (fun k => k.eq1 2 9 rfl) (fun k => k.fx 3 aa) <| .g (fun k => k.eq1 2 9 rfl) (fun _ w hn k => ⟨_, v_bin rfl (k.eq1 3 10 rfl) rfl (fun _ => rfl) (r_eql ae), rfl⟩) <| .gm (fun k => k.eq1 2 9 rfl) (fun k => k.eq1 4 11 rfl) <| .gf (fun k => k.eq1 5 12 rfl) (fun k => k.fx 1 al) <| .o1 (tg rfl rfl rfl (fun _ _ k => k.eq1 5 12 rfl) fun _ w hn k => ⟨_, v_load rfl (k.eq1 6 13 rfl) (l_one Tryz.isAgg4 ((ah.new_ hn).cell 0)), congrArg Value.bool af⟩) <| .g (fun k => k.eq1 5 12 rfl) (fun _ w hn k => ⟨_, v_not rfl (k.eq1 7 14 rfl), rfl⟩) <| .g (fun k => k.eq1 2 9 rfl) (fun _ w hn k => ⟨_, v_pickT rfl (k.eq1 5 12 rfl) (k.eq1 8 15 rfl), rfl⟩) <| .gm (fun k => k.eq1 2 9 rfl) (fun k => k.eq1 9 16 rfl) <| .gm (fun k => k.eq1 10 17 rfl) (fun k => k.fx 3 aa) <| .g (fun k => k.eq1 10 17 rfl) (fun _ w hn k => ⟨_, v_bin rfl (k.eq1 11 18 rfl) rfl (fun _ => rfl) (r_gtrK aj), rfl⟩) <| .gm (fun k => k.eq1 10 17 rfl) (fun k => k.eq1 12 19 rfl) <| .s (fun k => k.eq1 13 20 rfl) <| .s (fun k => k.eq1 13 20 rfl) <| .s (fun k => k.eq1 13 20 rfl) <| .s (fun k => k.eq1 13 20 rfl) <| .s (fun k => k.eq1 13 20 rfl) <| .s (fun k => k.eq1 13 20 rfl) <| .s (fun k => k.eq1 13 20 rfl) <| .g (fun k => k.eq1 10 17 rfl) (fun _ w hn k => ⟨_, v_pickF rfl (k.eq1 13 20 rfl) rfl, rfl⟩) <| .g (fun k => k.eq1 2 9 rfl) (fun _ w hn k => ⟨_, v_pickF rfl (k.eq1 10 17 rfl) (k.eq1 21 28 rfl), rfl⟩) <| .t (fun _ w hn k => ⟨_, v_pickT rfl (k.eq1 2 9 rfl) (k.eq1 22 29 rfl), rfl⟩) <| .a (fun k => k.eq1 23 30 rfl) .nil
 refine aftI ab ag ac fun b2 b3 bH aF aG bI aH => ?_
 have be := aH.ge 24 2 rfl
 refine st_nil (ai _ _ ?_)
 refine wp_ret (ret_k aF (v := .bool false) (res_t rfl be _) ?_)
 have hix : ((ma.length : Int) - 1).toNat = ma.length - 1 := by omega
 have q8 : decide (ma.length ≤ 8) = true := decide_eq_true (by omega)
 have q0 : decide (ma.length = 0) = true := decide_eq_true (by omega)
 have q1 : decide (0 < ma.length) = false := decide_eq_false (by omega)
 refine ⟨?_, aG⟩
 rw [show mayB a ma = false from by unfold mayB; simp only [q8, q0, q1, af]; first | rfl | (exfalso; omega)]
 have ax := oF aj
 rcases bc (decide (((ma.getD (((ma.length : Int) - 1 : Int).toNat) 0 : Nat) : Int) = 0)) with am | am
 have ao := oT am
 refine wp_g0 (.replicate 25 true) [] 31
   [ve (iv (ma.length : Int)), vT, vT, ve (iv (ma.length : Int)), vT, vT, ve (pv q9), vT, vF, vF, vF, ve (iv (ma.length : Int)), vT, vT, ve (.pointer (some ⟨q9, 1, none⟩)), ve (sv Aa ma ca), ve (iv (ma.length : Int)), ve (iv ((ma.length : Int) - 1)),
    (EP (.int .u32 ((ma.getD (((ma.length : Int) - 1 : Int).toNat) 0 : Nat) : Int))), ve (.int .u32 ((ma.getD (((ma.length : Int) - 1 : Int).toNat) 0 : Nat) : Int)), vF, vF, vF, vF, vF] ab (.eq (.eq (.eq (.eq (.eq (.eq (.eq (.eq (.eq (.eq (.eq (.eq (.eq (.eq (.eq (.eq (.eq (.eq (.cons (fun _ _ _ n ⟨_, _, e, h⟩ => ⟨_, _, e, h.new_ n⟩) (.eq (.eq (.eq (.eq (.eq (.eq (.nil)))))))))))))))))))))))))) ?_ ?_
 refine .m (fun k => k.fx 3 aa) <| .t (fun _ w hn k => ⟨_, v_bin rfl (k.eq1 0 7 rfl) rfl (fun _ => rfl) (r_leqK ad), rfl⟩) <| .m (fun k => k.eq1 1 8 rfl) <| .gm (fun k => k.eq1 2 9 rfl) (fun k => k.fx 3 aa) <| .g (fun k => k.eq1 2 9 rfl) (fun _ w hn k => ⟨_, v_bin rfl (k.eq1 3 10 rfl) rfl (fun _ => rfl) (r_eql ae), rfl⟩) <| .gm (fun k => k.eq1 2 9 rfl) (fun k => k.eq1 4 11 rfl) <| .gf (fun k => k.eq1 5 12 rfl) (fun k => k.fx 1 al) <| .o1 (tg rfl rfl rfl (fun _ _ k => k.eq1 5 12 rfl) fun _ w hn k => ⟨_, v_load rfl (k.eq1 6 13 rfl) (l_one Tryz.isAgg4 ((ah.new_ hn).cell 0)), congrArg Value.bool af⟩) <| .g (fun k => k.eq1 5 12 rfl) (fun _ w hn k => ⟨_, v_not rfl (k.eq1 7 14 rfl), rfl⟩) <| .g (fun k => k.eq1 2 9 rfl) (fun _ w hn k => ⟨_, v_pickT rfl (k.eq1 5 12 rfl) (k.eq1 8 15 rfl), rfl⟩) <| .gm (fun k => k.eq1 2 9 rfl) (fun k => k.eq1 9 16 rfl) <| .gm (fun k => k.eq1 10 17 rfl) (fun k => k.fx 3 aa) <| .g (fun k => k.eq1 10 17 rfl) (fun _ w hn k => ⟨_, v_bin rfl (k.eq1 11 18 rfl) rfl (fun _ => rfl) (r_gtrK aj), rfl⟩) <| .gm (fun k => k.eq1 10 17 rfl) (fun k => k.eq1 12 19 rfl) <| .gf (fun k => k.eq1 13 20 rfl) (fun k => k.fx 1 al) <| .g (fun k => k.eq1 13 20 rfl) (fun _ w hn k => ⟨_, v_load rfl (k.eq1 14 21 rfl) (l_one Tryz.isAgg24 ((ah.new_ hn).cell 1)), rfl⟩) <| .gm (fun k => k.eq1 13 20 rfl) (fun k => k.fx 3 aa) <| .g (fun k => k.eq1 13 20 rfl) (fun _ w hn k => ⟨_, v_bin rfl (k.eq1 16 23 rfl) rfl (fun _ => rfl) (r_sub rfl (by omega)), rfl⟩) ?_
 refine .o1 (tg rfl rfl rfl (fun _ _ k => k.eq1 13 20 rfl) fun _ w hn k => (by
       exact x_eaddr (k := .u32) rfl elW (k.eq1 15 22 rfl) (k.eq1 17 24 rfl) (hra.new_ (ac.transNew hn)) (by omega) fun b9 bh hme => ⟨b9, bh, rfl, hme⟩)) ?_
 refine .o1 (tg rfl rfl rfl (fun _ _ k => k.eq1 13 20 rfl) fun _ w hn k => (by
       obtain ⟨b4, b5, bi, aI⟩ : (EP (.int .u32 ((ma.getD (((ma.length : Int) - 1 : Int).toNat) 0 : Nat) : Int))) _ _ := k.dep 18 25 (by kernel_rfl) (by kernel_rfl)
       exact ⟨_, v_load rfl bi (l_one Tryz.isAgg56 aI.1), rfl⟩)) ?_
 exact .g (fun k => k.eq1 13 20 rfl) (fun _ w hn k => ⟨_, v_bin rfl (k.eq1 19 26 rfl) rfl (fun _ => rfl) (r_neq am), rfl⟩) <| .g (fun k => k.eq1 10 17 rfl) (fun _ w hn k => ⟨_, v_pickT rfl (k.eq1 13 20 rfl) (k.eq1 20 27 rfl), rfl⟩) <| .g (fun k => k.eq1 2 9 rfl) (fun _ w hn k => ⟨_, v_pickF rfl (k.eq1 10 17 rfl) (k.eq1 21 28 rfl), rfl⟩) <| .t (fun _ w hn k => ⟨_, v_pickT rfl (k.eq1 2 9 rfl) (k.eq1 22 29 rfl), rfl⟩) <| .a (fun k => k.eq1 23 30 rfl) .nil
 refine aftI ab ag ac fun b6 b7 bJ aJ aK bK aL => ?_
 have bj := aL.ge 24 2 rfl
 refine st_nil (ai _ _ ?_)
 refine wp_ret (ret_k aJ (v := .bool false) (res_t rfl bj _) ?_)
 have hix : ((ma.length : Int) - 1).toNat = ma.length - 1 := by omega
 have q8 : decide (ma.length ≤ 8) = true := decide_eq_true (by omega)
 have q0 : decide (ma.length = 0) = true := decide_eq_true (by omega)
 have q1 : decide (0 < ma.length) = false := decide_eq_false (by omega)
 rw [hix] at ao
 have q2 : decide (ma.getD (ma.length - 1) 0 ≠ 0) = false := decide_eq_false (by omega)
 refine ⟨?_, aK⟩
 rw [show mayB a ma = false from by unfold mayB; simp only [q8, q0, q1, af, q2]; first | rfl | (exfalso; omega)]
 have ao := oF am
 refine wp_g0 (.replicate 25 true) [] 31
   [ve (iv (ma.length : Int)), vT, vT, ve (iv (ma.length : Int)), vT, vT, ve (pv q9), vT, vF, vF, vF, ve (iv (ma.length : Int)), vT, vT, ve (.pointer (some ⟨q9, 1, none⟩)), ve (sv Aa ma ca), ve (iv (ma.length : Int)), ve (iv ((ma.length : Int) - 1)),
    (EP (.int .u32 ((ma.getD (((ma.length : Int) - 1 : Int).toNat) 0 : Nat) : Int))), ve (.int .u32 ((ma.getD (((ma.length : Int) - 1 : Int).toNat) 0 : Nat) : Int)), vT, vT, vT, vT, vT] ab (.eq (.eq (.eq (.eq (.eq (.eq (.eq (.eq (.eq (.eq (.eq (.eq (.eq (.eq (.eq (.eq (.eq (.eq (.cons (fun _ _ _ n ⟨_, _, e, h⟩ => ⟨_, _, e, h.new_ n⟩) (.eq (.eq (.eq (.eq (.eq (.eq (.nil)))))))))))))))))))))))))) ?_ ?_
 refine .m (fun k => k.fx 3 aa) <| .t (fun _ w hn k => ⟨_, v_bin rfl (k.eq1 0 7 rfl) rfl (fun _ => rfl) (r_leqK ad), rfl⟩) <| .m (fun k => k.eq1 1 8 rfl) <| .gm (fun k => k.eq1 2 9 rfl) (fun k => k.fx 3 aa) <| .g (fun k => k.eq1 2 9 rfl) (fun _ w hn k => ⟨_, v_bin rfl (k.eq1 3 10 rfl) rfl (fun _ => rfl) (r_eql ae), rfl⟩) <| .gm (fun k => k.eq1 2 9 rfl) (fun k => k.eq1 4 11 rfl) <| .gf (fun k => k.eq1 5 12 rfl) (fun k => k.fx 1 al) <| .o1 (tg rfl rfl rfl (fun _ _ k => k.eq1 5 12 rfl) fun _ w hn k => ⟨_, v_load rfl (k.eq1 6 13 rfl) (l_one Tryz.isAgg4 ((ah.new_ hn).cell 0)), congrArg Value.bool af⟩) <| .g (fun k => k.eq1 5 12 rfl) (fun _ w hn k => ⟨_, v_not rfl (k.eq1 7 14 rfl), rfl⟩) <| .g (fun k => k.eq1 2 9 rfl) (fun _ w hn k => ⟨_, v_pickT rfl (k.eq1 5 12 rfl) (k.eq1 8 15 rfl), rfl⟩) <| .gm (fun k => k.eq1 2 9 rfl) (fun k => k.eq1 9 16 rfl) <| .gm (fun k => k.eq1 10 17 rfl) (fun k => k.fx 3 aa) <| .g (fun k => k.eq1 10 17 rfl) (fun _ w hn k => ⟨_, v_bin rfl (k.eq1 11 18 rfl) rfl (fun _ => rfl) (r_gtrK aj), rfl⟩) <| .gm (fun k => k.eq1 10 17 rfl) (fun k => k.eq1 12 19 rfl) <| .gf (fun k => k.eq1 13 20 rfl) (fun k => k.fx 1 al) <| .g (fun k => k.eq1 13 20 rfl) (fun _ w hn k => ⟨_, v_load rfl (k.eq1 14 21 rfl) (l_one Tryz.isAgg24 ((ah.new_ hn).cell 1)), rfl⟩) <| .gm (fun k => k.eq1 13 20 rfl) (fun k => k.fx 3 aa) <| .g (fun k => k.eq1 13 20 rfl) (fun _ w hn k => ⟨_, v_bin rfl (k.eq1 16 23 rfl) rfl (fun _ => rfl) (r_sub rfl (by omega)), rfl⟩) ?_
 refine .o1 (tg rfl rfl rfl (fun _ _ k => k.eq1 13 20 rfl) fun _ w hn k => (by
       exact x_eaddr (k := .u32) rfl elW (k.eq1 15 22 rfl) (k.eq1 17 24 rfl) (hra.new_ (ac.transNew hn)) (by omega) fun bm bn hme => ⟨bm, bn, rfl, hme⟩)) ?_
 refine .o1 (tg rfl rfl rfl (fun _ _ k => k.eq1 13 20 rfl) fun _ w hn k => (by
       obtain ⟨b8, cb, bo, aM⟩ : (EP (.int .u32 ((ma.getD (((ma.length : Int) - 1 : Int).toNat) 0 : Nat) : Int))) _ _ := k.dep 18 25 (by kernel_rfl) (by kernel_rfl)
       exact ⟨_, v_load rfl bo (l_one Tryz.isAgg56 aM.1), rfl⟩)) ?_
 exact .g (fun k => k.eq1 13 20 rfl) (fun _ w hn k => ⟨_, v_bin rfl (k.eq1 19 26 rfl) rfl (fun _ => rfl) (r_neq am), rfl⟩) <| .g (fun k => k.eq1 10 17 rfl) (fun _ w hn k => ⟨_, v_pickT rfl (k.eq1 13 20 rfl) (k.eq1 20 27 rfl), rfl⟩) <| .g (fun k => k.eq1 2 9 rfl) (fun _ w hn k => ⟨_, v_pickF rfl (k.eq1 10 17 rfl) (k.eq1 21 28 rfl), rfl⟩) <| .t (fun _ w hn k => ⟨_, v_pickT rfl (k.eq1 2 9 rfl) (k.eq1 22 29 rfl), rfl⟩) <| .a (fun k => k.eq1 23 30 rfl) .nil
 refine aftI ab ag ac fun cc cd bL aN aO bM aP => ?_
 have bp := aP.ge 24 2 rfl
 refine st_nil (ai _ _ ?_)
 refine wp_ret (ret_k aN (v := .bool true) (res_t rfl bp _) ?_)
 have hix : ((ma.length : Int) - 1).toNat = ma.length - 1 := by omega
 have q8 : decide (ma.length ≤ 8) = true := decide_eq_true (by omega)
 have q0 : decide (ma.length = 0) = true := decide_eq_true (by omega)
 have q1 : decide (0 < ma.length) = false := decide_eq_false (by omega)
 rw [hix] at ao
 have q2 : decide (ma.getD (ma.length - 1) 0 ≠ 0) = true := decide_eq_true (by omega)
 refine ⟨?_, aO⟩
 rw [show mayB a ma = true from by unfold mayB; simp only [q8, q0, q1, af, q2]; first | rfl | (exfalso; omega)]
 refine wp_g0 (.replicate 25 true) [] 31
   [ve (iv (ma.length : Int)), vT, vT, ve (iv (ma.length : Int)), vT, vT, ve (pv q9), vF, vT, vT, vT, vU, vU, vU, vU, vU, vU, vU, vU, vU, vU, vU, vT, vT, vT] ab (.eq (.eq (.eq (.eq (.eq (.eq (.eq (.eq (.eq (.eq (.eq (.eq (.eq (.eq (.eq (.eq (.eq (.eq (.eq (.eq (.eq (.eq (.eq (.eq (.eq (.nil)))))))))))))))))))))))))) ?_ ?_
 exact .m (fun k => k.fx 3 aa) <| .t (fun _ w hn k => ⟨_, v_bin rfl (k.eq1 0 7 rfl) rfl (fun _ => rfl) (r_leqK ad), rfl⟩) <| .m (fun k => k.eq1 1 8 rfl) <| .gm (fun k => k.eq1 2 9 rfl) (fun k => k.fx 3 aa) <| .g (fun k => k.eq1 2 9 rfl) (fun _ w hn k => ⟨_, v_bin rfl (k.eq1 3 10 rfl) rfl (fun _ => rfl) (r_eql ae), rfl⟩) <| .gm (fun k => k.eq1 2 9 rfl) (fun k => k.eq1 4 11 rfl) <| .gf (fun k => k.eq1 5 12 rfl) (fun k => k.fx 1 al) <| .o1 (tg rfl rfl rfl (fun _ _ k => k.eq1 5 12 rfl) fun _ w hn k => ⟨_, v_load rfl (k.eq1 6 13 rfl) (l_one Tryz.isAgg4 ((ah.new_ hn).cell 0)), congrArg Value.bool af⟩) <| .g (fun k => k.eq1 5 12 rfl) (fun _ w hn k => ⟨_, v_not rfl (k.eq1 7 14 rfl), rfl⟩) <| .g (fun k => k.eq1 2 9 rfl) (fun _ w hn k => ⟨_, v_pickT rfl (k.eq1 5 12 rfl) (k.eq1 8 15 rfl), rfl⟩) <| .gm (fun k => k.eq1 2 9 rfl) (fun k => k.eq1 9 16 rfl) <| .s (fun k => k.eq1 10 17 rfl) <| .s (fun k => k.eq1 10 17 rfl) <| .s (fun k => k.eq1 10 17 rfl) <| .o1 (su rfl rfl rfl (fun _ _ _ k => k.eq1 13 20 rfl) (fun _ => rfl)) <| .o1 (su rfl rfl rfl (fun _ _ _ k => k.eq1 13 20 rfl) (fun _ => rfl)) <| .o1 (su rfl rfl rfl (fun _ _ _ k => k.eq1 13 20 rfl) (fun _ => rfl)) <| .o1 (su rfl rfl rfl (fun _ _ _ k => k.eq1 13 20 rfl) (fun _ => rfl)) <| .o1 (su rfl rfl rfl (fun _ _ _ k => k.eq1 13 20 rfl) (fun _ => rfl)) <| .o1 (su rfl rfl rfl (fun _ _ _ k => k.eq1 13 20 rfl) (fun _ => rfl)) <| .o1 (su rfl rfl rfl (fun _ _ _ k => k.eq1 13 20 rfl) (fun _ => rfl)) <| .s (fun k => k.eq1 10 17 rfl) <| .g (fun k => k.eq1 2 9 rfl) (fun _ w hn k => ⟨_, v_pickT rfl (k.eq1 10 17 rfl) rfl, rfl⟩) <| .t (fun _ w hn k => ⟨_, v_pickT rfl (k.eq1 2 9 rfl) (k.eq1 22 29 rfl), rfl⟩) <| .a (fun k => k.eq1 23 30 rfl) .nil
 refine aftI ab ag ac fun ce cf bN aQ aR bO aS => ?_
 have bq := aS.ge 24 2 rfl
 refine st_nil (ai _ _ ?_)
 refine wp_ret (ret_k aQ (v := .bool true) (res_t rfl bq _) ?_)
 have hix : ((ma.length : Int) - 1).toNat = ma.length - 1 := by omega
 have q8 : decide (ma.length ≤ 8) = true := decide_eq_true (by omega)
 have q0 : decide (ma.length = 0) = true := decide_eq_true (by omega)
 have q1 : decide (0 < ma.length) = false := decide_eq_false (by omega)
 refine ⟨?_, aR⟩
 rw [show mayB a ma = true from by unfold mayB; simp only [q8, q0, q1, af]; first | rfl | (exfalso; omega)]
 have aw := oF ae
 rcases bc (decide ((ma.length : Int) ≤ 0)) with ak | ak
 have ay := oT ak
 refine wp_g0 (.replicate 25 true) [] 31
   [ve (iv (ma.length : Int)), vT, vT, ve (iv (ma.length : Int)), vF, vF, vU, vU, vU, vF, vF, ve (iv (ma.length : Int)), vF, vF, vU, vU, vU, vU, vU, vU, vU, vF, vF, vF, vF] ab (.eq (.eq (.eq (.eq (.eq (.eq (.eq (.eq (.eq (.eq (.eq (.eq (.eq (.eq (.eq (.eq (.eq (.eq (.eq (.eq (.eq (.eq (.eq (.eq (.eq (.nil)))))))))))))))))))))))))) ?_ ?_
 exact .m (fun k => k.fx 3 aa) <| .t (fun _ w hn k => ⟨_, v_bin rfl (k.eq1 0 7 rfl) rfl (fun _ => rfl) (r_leqK ad), rfl⟩) <| .m (fun k => k.eq1 1 8 rfl) <| .gm (fun k => k.eq1 2 9 rfl) (fun k => k.fx 3 aa) <| .g (fun k => k.eq1 2 9 rfl) (fun _ w hn k => ⟨_, v_bin rfl (k.eq1 3 10 rfl) rfl (fun _ => rfl) (r_eql ae), rfl⟩) <| .gm (fun k => k.eq1 2 9 rfl) (fun k => k.eq1 4 11 rfl) <| .s (fun k => k.eq1 5 12 rfl) <| .s (fun k => k.eq1 5 12 rfl) <| .s (fun k => k.eq1 5 12 rfl) <| .g (fun k => k.eq1 2 9 rfl) (fun _ w hn k => ⟨_, v_pickF rfl (k.eq1 5 12 rfl) rfl, rfl⟩) <| .gm (fun k => k.eq1 2 9 rfl) (fun k => k.eq1 9 16 rfl) <| .gm (fun k => k.eq1 10 17 rfl) (fun k => k.fx 3 aa) <| .g (fun k => k.eq1 10 17 rfl) (fun _ w hn k => ⟨_, v_bin rfl (k.eq1 11 18 rfl) rfl (fun _ => rfl) (r_gtrK ak), rfl⟩) <| .gm (fun k => k.eq1 10 17 rfl) (fun k => k.eq1 12 19 rfl) <| .s (fun k => k.eq1 13 20 rfl) <| .s (fun k => k.eq1 13 20 rfl) <| .s (fun k => k.eq1 13 20 rfl) <| .s (fun k => k.eq1 13 20 rfl) <| .s (fun k => k.eq1 13 20 rfl) <| .s (fun k => k.eq1 13 20 rfl) <| .s (fun k => k.eq1 13 20 rfl) <| .g (fun k => k.eq1 10 17 rfl) (fun _ w hn k => ⟨_, v_pickF rfl (k.eq1 13 20 rfl) rfl, rfl⟩) <| .g (fun k => k.eq1 2 9 rfl) (fun _ w hn k => ⟨_, v_pickF rfl (k.eq1 10 17 rfl) (k.eq1 21 28 rfl), rfl⟩) <| .t (fun _ w hn k => ⟨_, v_pickT rfl (k.eq1 2 9 rfl) (k.eq1 22 29 rfl), rfl⟩) <| .a (fun k => k.eq1 23 30 rfl) .nil
 refine aftI ab ag ac fun ch ci bP aT aU bQ aV => ?_
 have br := aV.ge 24 2 rfl
 refine st_nil (ai _ _ ?_)
 refine wp_ret (ret_k aT (v := .bool false) (res_t rfl br _) ?_)
 have hix : ((ma.length : Int) - 1).toNat = ma.length - 1 := by omega
 have q8 : decide (ma.length ≤ 8) = true := decide_eq_true (by omega)
 have q0 : decide (ma.length = 0) = false := decide_eq_false (by omega)
 have q1 : decide (0 < ma.length) = true := decide_eq_true (by omega)
 refine ⟨?_, aU⟩
 rw [show mayB a ma = false from by unfold mayB; simp only [q8, q0, q1]; first | rfl | (exfalso; omega)]
 have ay := oF ak
 rcases bc (decide (((ma.getD (((ma.length : Int) - 1 : Int).toNat) 0 : Nat) : Int) = 0)) with an | an
 have ap := oT an
 refine wp_g0 (.replicate 25 true) [] 31
   [ve (iv (ma.length : Int)), vT, vT, ve (iv (ma.length : Int)), vF, vF, vU, vU, vU, vF, vF, ve (iv (ma.length : Int)), vT, vT, ve (.pointer (some ⟨q9, 1, none⟩)), ve (sv Aa ma ca), ve (iv (ma.length : Int)), ve (iv ((ma.length : Int) - 1)),
    (EP (.int .u32 ((ma.getD (((ma.length : Int) - 1 : Int).toNat) 0 : Nat) : Int))), ve (.int .u32 ((ma.getD (((ma.length : Int) - 1 : Int).toNat) 0 : Nat) : Int)), vF, vF, vF, vF, vF] ab (.eq (.eq (.eq (.eq (.eq (.eq (.eq (.eq (.eq (.eq (.eq (.eq (.eq (.eq (.eq (.eq (.eq (.eq (.cons (fun _ _ _ n ⟨_, _, e, h⟩ => ⟨_, _, e, h.new_ n⟩) (.eq (.eq (.eq (.eq (.eq (.eq (.nil)))))))))))))))))))))))))) ?_ ?_
 refine .m (fun k => k.fx 3 aa) <| .t (fun _ w hn k => ⟨_, v_bin rfl (k.eq1 0 7 rfl) rfl (fun _ => rfl) (r_leqK ad), rfl⟩) <| .m (fun k => k.eq1 1 8 rfl) <| .gm (fun k => k.eq1 2 9 rfl) (fun k => k.fx 3 aa) <| .g (fun k => k.eq1 2 9 rfl) (fun _ w hn k => ⟨_, v_bin rfl (k.eq1 3 10 rfl) rfl (fun _ => rfl) (r_eql ae), rfl⟩) <| .gm (fun k => k.eq1 2 9 rfl) (fun k => k.eq1 4 11 rfl) <| .s (fun k => k.eq1 5 12 rfl) <| .s (fun k => k.eq1 5 12 rfl) <| .s (fun k => k.eq1 5 12 rfl) <| .g (fun k => k.eq1 2 9 rfl) (fun _ w hn k => ⟨_, v_pickF rfl (k.eq1 5 12 rfl) rfl, rfl⟩) <| .gm (fun k => k.eq1 2 9 rfl) (fun k => k.eq1 9 16 rfl) <| .gm (fun k => k.eq1 10 17 rfl) (fun k => k.fx 3 aa) <| .g (fun k => k.eq1 10 17 rfl) (fun _ w hn k => ⟨_, v_bin rfl (k.eq1 11 18 rfl) rfl (fun _ => rfl) (r_gtrK ak), rfl⟩) <| .gm (fun k => k.eq1 10 17 rfl) (fun k => k.eq1 12 19 rfl) <| .gf (fun k => k.eq1 13 20 rfl) (fun k => k.fx 1 al) <| .g (fun k => k.eq1 13 20 rfl) (fun _ w hn k => ⟨_, v_load rfl (k.eq1 14 21 rfl) (l_one Tryz.isAgg24 ((ah.new_ hn).cell 1)), rfl⟩) <| .gm (fun k => k.eq1 13 20 rfl) (fun k => k.fx 3 aa) <| .g (fun k => k.eq1 13 20 rfl) (fun _ w hn k => ⟨_, v_bin rfl (k.eq1 16 23 rfl) rfl (fun _ => rfl) (r_sub rfl (by omega)), rfl⟩) ?_
 refine .o1 (tg rfl rfl rfl (fun _ _ k => k.eq1 13 20 rfl) fun _ w hn k => (by
       exact x_eaddr (k := .u32) rfl elW (k.eq1 15 22 rfl) (k.eq1 17 24 rfl) (hra.new_ (ac.transNew hn)) (by omega) fun bu bv hme => ⟨bu, bv, rfl, hme⟩)) ?_
 refine .o1 (tg rfl rfl rfl (fun _ _ k => k.eq1 13 20 rfl) fun _ w hn k => (by
       obtain ⟨cj, cl, bw, aW⟩ : (EP (.int .u32 ((ma.getD (((ma.length : Int) - 1 : Int).toNat) 0 : Nat) : Int))) _ _ := k.dep 18 25 (by kernel_rfl) (by kernel_rfl)
       exact ⟨_, v_load rfl bw (l_one Tryz.isAgg56 aW.1), rfl⟩)) ?_
 exact .g (fun k => k.eq1 13 20 rfl) (fun _ w hn k => ⟨_, v_bin rfl (k.eq1 19 26 rfl) rfl (fun _ => rfl) (r_neq an), rfl⟩) <| .g (fun k => k.eq1 10 17 rfl) (fun _ w hn k => ⟨_, v_pickT rfl (k.eq1 13 20 rfl) (k.eq1 20 27 rfl), rfl⟩) <| .g (fun k => k.eq1 2 9 rfl) (fun _ w hn k => ⟨_, v_pickF rfl (k.eq1 10 17 rfl) (k.eq1 21 28 rfl), rfl⟩) <| .t (fun _ w hn k => ⟨_, v_pickT rfl (k.eq1 2 9 rfl) (k.eq1 22 29 rfl), rfl⟩) <| .a (fun k => k.eq1 23 30 rfl) .nil
 refine aftI ab ag ac fun cm cn bR aX aY bS aZ => ?_
 have bx := aZ.ge 24 2 rfl
 refine st_nil (ai _ _ ?_)
 refine wp_ret (ret_k aX (v := .bool false) (res_t rfl bx _) ?_)
 have hix : ((ma.length : Int) - 1).toNat = ma.length - 1 := by omega
 have q8 : decide (ma.length ≤ 8) = true := decide_eq_true (by omega)
 have q0 : decide (ma.length = 0) = false := decide_eq_false (by omega)
 have q1 : decide (0 < ma.length) = true := decide_eq_true (by omega)
 rw [hix] at ap
 have q2 : decide (ma.getD (ma.length - 1) 0 ≠ 0) = false := decide_eq_false (by omega)
 refine ⟨?_, aY⟩
 rw [show mayB a ma = false from by unfold mayB; simp only [q8, q0, q1, q2]; first | rfl | (exfalso; omega)]
 have ap := oF an
 refine wp_g0 (.replicate 25 true) [] 31
   [ve (iv (ma.length : Int)), vT, vT, ve (iv (ma.length : Int)), vF, vF, vU, vU, vU, vF, vF, ve (iv (ma.length : Int)), vT, vT, ve (.pointer (some ⟨q9, 1, none⟩)), ve (sv Aa ma ca), ve (iv (ma.length : Int)), ve (iv ((ma.length : Int) - 1)),
    (EP (.int .u32 ((ma.getD (((ma.length : Int) - 1 : Int).toNat) 0 : Nat) : Int))), ve (.int .u32 ((ma.getD (((ma.length : Int) - 1 : Int).toNat) 0 : Nat) : Int)), vT, vT, vT, vT, vT] ab (.eq (.eq (.eq (.eq (.eq (.eq (.eq (.eq (.eq (.eq (.eq (.eq (.eq (.eq (.eq (.eq (.eq (.eq (.cons (fun _ _ _ n ⟨_, _, e, h⟩ => ⟨_, _, e, h.new_ n⟩) (.eq (.eq (.eq (.eq (.eq (.eq (.nil)))))))))))))))))))))))))) ?_ ?_
 refine .m (fun k => k.fx 3 aa) <| .t (fun _ w hn k => ⟨_, v_bin rfl (k.eq1 0 7 rfl) rfl (fun _ => rfl) (r_leqK ad), rfl⟩) <| .m (fun k => k.eq1 1 8 rfl) <| .gm (fun k => k.eq1 2 9 rfl) (fun k => k.fx 3 aa) <| .g (fun k => k.eq1 2 9 rfl) (fun _ w hn k => ⟨_, v_bin rfl (k.eq1 3 10 rfl) rfl (fun _ => rfl) (r_eql ae), rfl⟩) <| .gm (fun k => k.eq1 2 9 rfl) (fun k => k.eq1 4 11 rfl) <| .s (fun k => k.eq1 5 12 rfl) <| .s (fun k => k.eq1 5 12 rfl) <| .s (fun k => k.eq1 5 12 rfl) <| .g (fun k => k.eq1 2 9 rfl) (fun _ w hn k => ⟨_, v_pickF rfl (k.eq1 5 12 rfl) rfl, rfl⟩) <| .gm (fun k => k.eq1 2 9 rfl) (fun k => k.eq1 9 16 rfl) <| .gm (fun k => k.eq1 10 17 rfl) (fun k => k.fx 3 aa) <| .g (fun k => k.eq1 10 17 rfl) (fun _ w hn k => ⟨_, v_bin rfl (k.eq1 11 18 rfl) rfl (fun _ => rfl) (r_gtrK ak), rfl⟩) <| .gm (fun k => k.eq1 10 17 rfl) (fun k => k.eq1 12 19 rfl) <| .gf (fun k => k.eq1 13 20 rfl) (fun k => k.fx 1 al) <| .g (fun k => k.eq1 13 20 rfl) (fun _ w hn k => ⟨_, v_load rfl (k.eq1 14 21 rfl) (l_one Tryz.isAgg24 ((ah.new_ hn).cell 1)), rfl⟩) <| .gm (fun k => k.eq1 13 20 rfl) (fun k => k.fx 3 aa) <| .g (fun k => k.eq1 13 20 rfl) (fun _ w hn k => ⟨_, v_bin rfl (k.eq1 16 23 rfl) rfl (fun _ => rfl) (r_sub rfl (by omega)), rfl⟩) ?_
 refine .o1 (tg rfl rfl rfl (fun _ _ k => k.eq1 13 20 rfl) fun _ w hn k => (by
       exact x_eaddr (k := .u32) rfl elW (k.eq1 15 22 rfl) (k.eq1 17 24 rfl) (hra.new_ (ac.transNew hn)) (by omega) fun bB bC hme => ⟨bB, bC, rfl, hme⟩)) ?_
 refine .o1 (tg rfl rfl rfl (fun _ _ k => k.eq1 13 20 rfl) fun _ w hn k => (by
       obtain ⟨co, cp, bD, a1⟩ : (EP (.int .u32 ((ma.getD (((ma.length : Int) - 1 : Int).toNat) 0 : Nat) : Int))) _ _ := k.dep 18 25 (by kernel_rfl) (by kernel_rfl)
       exact ⟨_, v_load rfl bD (l_one Tryz.isAgg56 a1.1), rfl⟩)) ?_
 exact .g (fun k => k.eq1 13 20 rfl) (fun _ w hn k => ⟨_, v_bin rfl (k.eq1 19 26 rfl) rfl (fun _ => rfl) (r_neq an), rfl⟩) <| .g (fun k => k.eq1 10 17 rfl) (fun _ w hn k => ⟨_, v_pickT rfl (k.eq1 13 20 rfl) (k.eq1 20 27 rfl), rfl⟩) <| .g (fun k => k.eq1 2 9 rfl) (fun _ w hn k => ⟨_, v_pickF rfl (k.eq1 10 17 rfl) (k.eq1 21 28 rfl), rfl⟩) <| .t (fun _ w hn k => ⟨_, v_pickT rfl (k.eq1 2 9 rfl) (k.eq1 22 29 rfl), rfl⟩) <| .a (fun k => k.eq1 23 30 rfl) .nil
 refine aftI ab ag ac fun cq cr bT a3 a4 bU a5 => ?_
 have bE := a5.ge 24 2 rfl
 refine st_nil (ai _ _ ?_)
 refine wp_ret (ret_k a3 (v := .bool true) (res_t rfl bE _) ?_)
 have hix : ((ma.length : Int) - 1).toNat = ma.length - 1 := by omega
 have q8 : decide (ma.length ≤ 8) = true := decide_eq_true (by omega)
 have q0 : decide (ma.length = 0) = false := decide_eq_false (by omega)
 have q1 : decide (0 < ma.length) = true := decide_eq_true (by omega)
 rw [hix] at ap
 have q2 : decide (ma.getD (ma.length - 1) 0 ≠ 0) = true := decide_eq_true (by omega)
 refine ⟨?_, a4⟩
 rw [show mayB a ma = true from by unfold mayB; simp only [q8, q0, q1, q2]; first | rfl | (exfalso; omega)]
 have av := oF ad
 refine wp_g0 (.replicate 25 true) [] 31
   [ve (iv (ma.length : Int)), vF, vF, vU, vU, vU, vU, vU, vU, vU, vU, vU, vU, vU, vU, vU, vU, vU, vU, vU, vU, vU, vU, vF, vF] ab (.eq (.eq (.eq (.eq (.eq (.eq (.eq (.eq (.eq (.eq (.eq (.eq (.eq (.eq (.eq (.eq (.eq (.eq (.eq (.eq (.eq (.eq (.eq (.eq (.eq (.nil)))))))))))))))))))))))))) ?_ ?_
 exact .m (fun k => k.fx 3 aa) <| .t (fun _ w hn k => ⟨_, v_bin rfl (k.eq1 0 7 rfl) rfl (fun _ => rfl) (r_leqK ad), rfl⟩) <| .m (fun k => k.eq1 1 8 rfl) <| .s (fun k => k.eq1 2 9 rfl) <| .s (fun k => k.eq1 2 9 rfl) <| .s (fun k => k.eq1 2 9 rfl) <| .o1 (su rfl rfl rfl (fun _ _ _ k => k.eq1 5 12 rfl) (fun _ => rfl)) <| .o1 (su rfl rfl rfl (fun _ _ _ k => k.eq1 5 12 rfl) (fun _ => rfl)) <| .o1 (su rfl rfl rfl (fun _ _ _ k => k.eq1 5 12 rfl) (fun _ => rfl)) <| .s (fun k => k.eq1 2 9 rfl) <| .s (fun k => k.eq1 2 9 rfl) <| .o1 (su rfl rfl rfl (fun _ _ _ k => k.eq1 10 17 rfl) (fun _ => rfl)) <| .o1 (su rfl rfl rfl (fun _ _ _ k => k.eq1 10 17 rfl) (fun _ => rfl)) <| .o1 (su rfl rfl rfl (fun _ _ _ k => k.eq1 10 17 rfl) (fun _ => rfl)) <| .o1 (su rfl rfl rfl (fun _ _ _ k => k.eq1 13 20 rfl) (fun _ => rfl)) <| .o1 (su rfl rfl rfl (fun _ _ _ k => k.eq1 13 20 rfl) (fun _ => rfl)) <| .o1 (su rfl rfl rfl (fun _ _ _ k => k.eq1 13 20 rfl) (fun _ => rfl)) <| .o1 (su rfl rfl rfl (fun _ _ _ k => k.eq1 13 20 rfl) (fun _ => rfl)) <| .o1 (su rfl rfl rfl (fun _ _ _ k => k.eq1 13 20 rfl) (fun _ => rfl)) <| .o1 (su rfl rfl rfl (fun _ _ _ k => k.eq1 13 20 rfl) (fun _ => rfl)) <| .o1 (su rfl rfl rfl (fun _ _ _ k => k.eq1 13 20 rfl) (fun _ => rfl)) <| .o1 (su rfl rfl rfl (fun _ _ _ k => k.eq1 10 17 rfl) (fun _ => rfl)) <| .s (fun k => k.eq1 2 9 rfl) <| .t (fun _ w hn k => ⟨_, v_pickF rfl (k.eq1 2 9 rfl) rfl, rfl⟩) <| .a (fun k => k.eq1 23 30 rfl) .nil
 refine aftI ab ag ac fun ct cu bV a6 a7 bW a8 => ?_
 have bF := a8.ge 24 2 rfl
 refine st_nil (ai _ _ ?_)
 refine wp_ret (ret_k a6 (v := .bool false) (res_t rfl bF _) ?_)
 have hix : ((ma.length : Int) - 1).toNat = ma.length - 1 := by omega
 have q8 : decide (ma.length ≤ 8) = false := decide_eq_false (by omega)
 refine ⟨?_, a7⟩
 rw [show mayB a ma = false from by unfold mayB; simp only [q8]; first | rfl | (exfalso; omega)]
theorem zero_c (v : Vl) (Av : Option Addr) (cv : Nat) (Bv : Option Addr) (dv : Nat) (w : World) (hmv : SRow w .u32 Av v.mag cv) (hsv : SRow w .u16 Bv v.s dv) : Calls Tryz.prog 46 #[vv v Av cv Bv dv] w (IsRet (.bool (zeroV v)) w) := by
 refine enter_abs Tryz.func46 rfl fun a0 ab ak hp => ?_
 have ab : a0.tmps.size = 31 := ab
 have ac : New w w := Upd.refl _ _
 have hp0 : a0.eval (.tmp 0) = vv v Av cv Bv dv := hp 0 _ rfl
 refine wp_seq_k fun K1 al => ?_
 refine wp_g [true, true] [] [] 31
   [IsNew w 29 [iv v.k, iv v.nk, iv v.nn, .bool v.neg, sv Av v.mag cv, sv Bv v.s dv, iv v.ref], vF]
   [0] (newsCons (fun v w h => IsNew.old h) newsNil) ab (.nw (.eq (.nil))) ?_ (fun i h => by cases h) ?_
 exact .o2 (step_allocN (cs := [iv v.k, iv v.nk, iv v.nn, .bool v.neg, sv Av v.mag cv, sv Bv v.s dv, iv v.ref]) (t := 29) rfl (noG rfl) (fun _ w hn k => v_box rfl (k.fx 0 hp0) (fun w => rfl)) (fun q _ hq hb => ⟨q, rfl, hq, hb⟩)) <| .t (fun _ w hn k => ⟨_, v_assign rfl rfl, rfl⟩) .nil
 refine aftI ab ak ac fun a2 w3 ad am ae au an => ?_
 obtain ⟨q9, h8, af, aa⟩ : IsNew _ _ _ _ _ := an.got 0 1 rfl (by kernel_rfl)
 have ap := Nat.le_trans ac.size af
 refine st_nil (al _ _ (wp_seq_k fun av ag => ?_))
 refine wp_g0 (.replicate 29 true) [] 31
   [ve (.pointer (some ⟨q9, 1, none⟩)), ve (nv (Nm.mk v.nk v.nn)), ve (nv (Nm.mk 0 0)), ve (.bool (decide (v.nk = 0) && decide (v.nn = 0))), ve (.bool (decide (v.nk = 0) && decide (v.nn = 0))), ve (gq (decide (v.nk = 0) && decide (v.nn = 0)) (.pointer (some ⟨q9, 3, none⟩))), ve (gq (decide (v.nk = 0) && decide (v.nn = 0)) (.pointer (some ⟨q9, 3, none⟩))), ve (gq (decide (v.nk = 0) && decide (v.nn = 0)) (.bool v.neg)), ve (gq (decide (v.nk = 0) && decide (v.nn = 0)) (.bool (!v.neg))), ve (.bool ((decide (v.nk = 0) && decide (v.nn = 0)) && (!v.neg))), ve (.bool ((decide (v.nk = 0) && decide (v.nn = 0)) && (!v.neg))), ve (gq ((decide (v.nk = 0) && decide (v.nn = 0)) && (!v.neg)) (.pointer (some ⟨q9, 3, none⟩))), ve (gq ((decide (v.nk = 0) && decide (v.nn = 0)) && (!v.neg)) (.pointer (some ⟨q9, 4, none⟩))), ve (gq ((decide (v.nk = 0) && decide (v.nn = 0)) && (!v.neg)) (sv Av v.mag cv)), ve (gq ((decide (v.nk = 0) && decide (v.nn = 0)) && (!v.neg)) (iv (v.mag.length : Int))), ve (gq ((decide (v.nk = 0) && decide (v.nn = 0)) && (!v.neg)) (.bool (decide ((v.mag.length : Int) = 0)))), ve (.bool (((decide (v.nk = 0) && decide (v.nn = 0)) && (!v.neg)) && (decide ((v.mag.length : Int) = 0)))), ve (.bool (((decide (v.nk = 0) && decide (v.nn = 0)) && (!v.neg)) && (decide ((v.mag.length : Int) = 0)))), ve (gq (((decide (v.nk = 0) && decide (v.nn = 0)) && (!v.neg)) && (decide ((v.mag.length : Int) = 0))) (.pointer (some ⟨q9, 5, none⟩))), ve (gq (((decide (v.nk = 0) && decide (v.nn = 0)) && (!v.neg)) && (decide ((v.mag.length : Int) = 0))) (sv Bv v.s dv)), ve (gq (((decide (v.nk = 0) && decide (v.nn = 0)) && (!v.neg)) && (decide ((v.mag.length : Int) = 0))) (iv (v.s.length : Int))), ve (gq (((decide (v.nk = 0) && decide (v.nn = 0)) && (!v.neg)) && (decide ((v.mag.length : Int) = 0))) (.bool (decide ((v.s.length : Int) = 0)))), ve (.bool ((((decide (v.nk = 0) && decide (v.nn = 0)) && (!v.neg)) && (decide ((v.mag.length : Int) = 0))) && (decide ((v.s.length : Int) = 0)))), ve (.bool ((((decide (v.nk = 0) && decide (v.nn = 0)) && (!v.neg)) && (decide ((v.mag.length : Int) = 0))) && (decide ((v.s.length : Int) = 0)))), ve (gq ((((decide (v.nk = 0) && decide (v.nn = 0)) && (!v.neg)) && (decide ((v.mag.length : Int) = 0))) && (decide ((v.s.length : Int) = 0))) (.pointer (some ⟨q9, 6, none⟩))), ve (gq ((((decide (v.nk = 0) && decide (v.nn = 0)) && (!v.neg)) && (decide ((v.mag.length : Int) = 0))) && (decide ((v.s.length : Int) = 0))) (iv v.ref)), ve (gq ((((decide (v.nk = 0) && decide (v.nn = 0)) && (!v.neg)) && (decide ((v.mag.length : Int) = 0))) && (decide ((v.s.length : Int) = 0))) (.bool (decide (v.ref = 0)))), ve (.bool (((((decide (v.nk = 0) && decide (v.nn = 0)) && (!v.neg)) && (decide ((v.mag.length : Int) = 0))) && (decide ((v.s.length : Int) = 0))) && (decide (v.ref = 0)))), ve (.bool (((((decide (v.nk = 0) && decide (v.nn = 0)) && (!v.neg)) && (decide ((v.mag.length : Int) = 0))) && (decide ((v.s.length : Int) = 0))) && (decide (v.ref = 0))))] ad (.eq (.eq (.eq (.eq (.eq (.eq (.eq (.eq (.eq (.eq (.eq (.eq (.eq (.eq (.eq (.eq (.eq (.eq (.eq (.eq (.eq (.eq (.eq (.eq (.eq (.eq (.eq (.eq (.eq (.nil)))))))))))))))))))))))))))))) ?_ ?_
 exact .f (fun k => k.fx 1 h8) <| .t (fun _ w hn k => ⟨_, v_load rfl (k.eq1 0 3 rfl) (l_part Tryz.isAgg23 Tryz.sizeOf23 (aa.new_ hn) lb), rfl⟩) <| .t (fun _ w hn k => ⟨_, v_build (ps := []) rfl parts0 (by kernel_rfl), rfl⟩) <| .t (fun _ w hn k => ⟨_, v_bin rfl (k.eq1 1 4 rfl) (k.eq1 2 5 rfl) (gNum _ _ _ _) (eqlNum _ _ _ _ rfl), rfl⟩) <| .m (fun k => k.eq1 3 6 rfl) <| .o1 (sc (G := (decide (v.nk = 0) && decide (v.nn = 0))) rfl rfl rfl (fun _ _ k => g0 (k.eq1 4 7 rfl)) (fun hG _ w hn k => v_field rfl (k.fx 1 h8) (fun w => rfl))) <| .o1 (sc (G := (decide (v.nk = 0) && decide (v.nn = 0))) rfl rfl rfl (fun _ _ k => g0 (k.eq1 4 7 rfl)) (fun hG _ w hn k => v_field rfl (cT hG (k.eq1 5 8 rfl)) (fun w => rfl))) <| .o1 (sc (G := (decide (v.nk = 0) && decide (v.nn = 0))) rfl rfl rfl (fun _ _ k => g0 (k.eq1 4 7 rfl)) (fun hG _ w hn k => v_load rfl (cT hG (k.eq1 6 9 rfl)) (l_one Tryz.isAgg4 ((aa.new_ hn).cell 3)))) <| .o1 (sc (G := (decide (v.nk = 0) && decide (v.nn = 0))) rfl rfl rfl (fun _ _ k => g0 (k.eq1 4 7 rfl)) (fun hG _ w hn k => v_not rfl (cT hG (k.eq1 7 10 rfl)))) <| .t (fun _ w hn k => ⟨_, v_and rfl (k.eq1 4 7 rfl) (fun hg => (cT hg (k.eq1 8 11 rfl))) rfl, rfl⟩) <| .m (fun k => k.eq1 9 12 rfl) <| .o1 (sc (G := ((decide (v.nk = 0) && decide (v.nn = 0)) && (!v.neg))) rfl rfl rfl (fun _ _ k => g0 (k.eq1 10 13 rfl)) (fun hG _ w hn k => v_field rfl (k.fx 1 h8) (fun w => rfl))) <| .o1 (sc (G := ((decide (v.nk = 0) && decide (v.nn = 0)) && (!v.neg))) rfl rfl rfl (fun _ _ k => g0 (k.eq1 10 13 rfl)) (fun hG _ w hn k => v_field rfl (cT hG (k.eq1 11 14 rfl)) (fun w => rfl))) <| .o1 (sc (G := ((decide (v.nk = 0) && decide (v.nn = 0)) && (!v.neg))) rfl rfl rfl (fun _ _ k => g0 (k.eq1 10 13 rfl)) (fun hG _ w hn k => v_load rfl (cT hG (k.eq1 12 15 rfl)) (l_one Tryz.isAgg24 ((aa.new_ hn).cell 4)))) <| .o1 (sc (G := ((decide (v.nk = 0) && decide (v.nn = 0)) && (!v.neg))) rfl rfl rfl (fun _ _ k => g0 (k.eq1 10 13 rfl)) (fun hG _ w hn k => v_lenR rfl elW (cT hG (k.eq1 13 16 rfl)))) <| .o1 (sc (G := ((decide (v.nk = 0) && decide (v.nn = 0)) && (!v.neg))) rfl rfl rfl (fun _ _ k => g0 (k.eq1 10 13 rfl)) (fun hG _ w hn k => v_bin rfl (cT hG (k.eq1 14 17 rfl)) rfl (fun _ => rfl) (r_eql rfl))) <| .t (fun _ w hn k => ⟨_, v_and rfl (k.eq1 10 13 rfl) (fun hg => (cT hg (k.eq1 15 18 rfl))) rfl, rfl⟩) <| .m (fun k => k.eq1 16 19 rfl) <| .o1 (sc (G := (((decide (v.nk = 0) && decide (v.nn = 0)) && (!v.neg)) && (decide ((v.mag.length : Int) = 0)))) rfl rfl rfl (fun _ _ k => g0 (k.eq1 17 20 rfl)) (fun hG _ w hn k => v_field rfl (k.fx 1 h8) (fun w => rfl))) <| .o1 (sc (G := (((decide (v.nk = 0) && decide (v.nn = 0)) && (!v.neg)) && (decide ((v.mag.length : Int) = 0)))) rfl rfl rfl (fun _ _ k => g0 (k.eq1 17 20 rfl)) (fun hG _ w hn k => v_load rfl (cT hG (k.eq1 18 21 rfl)) (l_one Tryz.isAgg27 ((aa.new_ hn).cell 5)))) <| .o1 (sc (G := (((decide (v.nk = 0) && decide (v.nn = 0)) && (!v.neg)) && (decide ((v.mag.length : Int) = 0)))) rfl rfl rfl (fun _ _ k => g0 (k.eq1 17 20 rfl)) (fun hG _ w hn k => v_lenR rfl elU (cT hG (k.eq1 19 22 rfl)))) <| .o1 (sc (G := (((decide (v.nk = 0) && decide (v.nn = 0)) && (!v.neg)) && (decide ((v.mag.length : Int) = 0)))) rfl rfl rfl (fun _ _ k => g0 (k.eq1 17 20 rfl)) (fun hG _ w hn k => v_bin rfl (cT hG (k.eq1 20 23 rfl)) rfl (fun _ => rfl) (r_eql rfl))) <| .t (fun _ w hn k => ⟨_, v_and rfl (k.eq1 17 20 rfl) (fun hg => (cT hg (k.eq1 21 24 rfl))) rfl, rfl⟩) <| .m (fun k => k.eq1 22 25 rfl) <| .o1 (sc (G := ((((decide (v.nk = 0) && decide (v.nn = 0)) && (!v.neg)) && (decide ((v.mag.length : Int) = 0))) && (decide ((v.s.length : Int) = 0)))) rfl rfl rfl (fun _ _ k => g0 (k.eq1 23 26 rfl)) (fun hG _ w hn k => v_field rfl (k.fx 1 h8) (fun w => rfl))) <| .o1 (sc (G := ((((decide (v.nk = 0) && decide (v.nn = 0)) && (!v.neg)) && (decide ((v.mag.length : Int) = 0))) && (decide ((v.s.length : Int) = 0)))) rfl rfl rfl (fun _ _ k => g0 (k.eq1 23 26 rfl)) (fun hG _ w hn k => v_load rfl (cT hG (k.eq1 24 27 rfl)) (l_one Tryz.isAgg3 ((aa.new_ hn).cell 6)))) <| .o1 (sc (G := ((((decide (v.nk = 0) && decide (v.nn = 0)) && (!v.neg)) && (decide ((v.mag.length : Int) = 0))) && (decide ((v.s.length : Int) = 0)))) rfl rfl rfl (fun _ _ k => g0 (k.eq1 23 26 rfl)) (fun hG _ w hn k => v_bin rfl (cT hG (k.eq1 25 28 rfl)) rfl (fun _ => rfl) (r_eql rfl))) <| .t (fun _ w hn k => ⟨_, v_and rfl (k.eq1 23 26 rfl) (fun hg => (cT hg (k.eq1 26 29 rfl))) rfl, rfl⟩) <| .a (fun k => k.eq1 27 30 rfl) .nil
 refine aftI ad am ae fun aw ax aq ah ai ar aj => ?_
 have ao := aj.ge 28 2 rfl
 refine st_nil (ag _ _ ?_)
 refine wp_ret (ret_k ah (v := .bool (((((decide (v.nk = 0) && decide (v.nn = 0)) && (!v.neg)) && (decide ((v.mag.length : Int) = 0))) && (decide ((v.s.length : Int) = 0))) && (decide (v.ref = 0)))) (res_t rfl ao _) ?_)
 refine ⟨?_, ai⟩
 show Ending.returned (.bool (((((decide (v.nk = 0) && decide (v.nn = 0)) && (!v.neg)) && (decide ((v.mag.length : Int) = 0))) && (decide ((v.s.length : Int) = 0))) && (decide (v.ref = 0)))) = Ending.returned (.bool (zeroV v))
 first | rfl | (simp only [zeroV, bsm] <;> rfl) | (exfalso; omega)
theorem vmay_c (v : Vl) (Av : Option Addr) (cv : Nat) (Bv : Option Addr) (dv : Nat) (w : World) (hmv : SRow w .u32 Av v.mag cv) (hsv : SRow w .u16 Bv v.s dv) : Calls Tryz.prog 14 #[vv v Av cv Bv dv] w (IsRet (.bool (mayV v)) w) := by
 refine enter_abs Tryz.func14 rfl fun a0 aS eU hp => ?_
 have aS : a0.tmps.size = 70 := aS
 have dP : New w w := Upd.refl _ _
 have hp0 : a0.eval (.tmp 0) = vv v Av cv Bv dv := hp 0 _ rfl
 refine wp_seq_k fun K1 eV => ?_
 refine wp_g [true, true] [] [] 70
   [IsNew w 29 [iv v.k, iv v.nk, iv v.nn, .bool v.neg, sv Av v.mag cv, sv Bv v.s dv, iv v.ref], vF]
   [0] (newsCons (fun v w h => IsNew.old h) newsNil) aS (.nw (.eq (.nil))) ?_ (fun i h => by cases h) ?_
 exact .o2 (step_allocN (cs := [iv v.k, iv v.nk, iv v.nn, .bool v.neg, sv Av v.mag cv, sv Bv v.s dv, iv v.ref]) (t := 29) rfl (noG rfl) (fun _ w hn k => v_box rfl (k.fx 0 hp0) (fun w => rfl)) (fun q _ hq hb => ⟨q, rfl, hq, hb⟩)) <| .t (fun _ w hn k => ⟨_, v_assign rfl rfl, rfl⟩) .nil
 refine aftI aS eU dP fun a2 w3 dQ eW bv gj eX => ?_
 obtain ⟨q9, h8, d0, aL⟩ : IsNew _ _ _ _ _ := eX.got 0 1 rfl (by kernel_rfl)
 have fi := Nat.le_trans dP.size d0
 refine st_nil (eV _ _ (wp_seq_k fun gk d1 => ?_))
 refine wp_g [true, true, false] [] [(2, false)] 70
   [ve (vv v Av cv Bv dv), IsNew w3 29 [iv 0, iv 0, iv 0, .bool false, sv none ([]) 0, sv none ([]) 0, iv 0], vt]
   [1] (newsCons (fun v w h => IsNew.old h) newsNil) dQ (.eq (.nw (.tt (.nil)))) ?_ (fun i h => by cases h) ?_
 exact .t (fun _ w hn k => ⟨_, v_load rfl (k.fx 1 h8) (l_agg Tryz.isAgg29 Tryz.sizeOf29 (aL.new_ hn) rfl), rfl⟩) <| .o2 (step_allocN (cs := [iv 0, iv 0, iv 0, .bool false, sv none ([]) 0, sv none ([]) 0, iv 0]) (t := 29) rfl (noG rfl) (fun _ w hn k => rfl) (fun q _ hq hb => ⟨q, rfl, hq, hb⟩)) <| .off .nil
 refine aftI dQ eW bv fun gl gm bw d2 d3 d4 aM => ?_
 have dR := aM.fx 1 h8
 have eY := aM.ge 0 4 rfl
 obtain ⟨ah, dS, bx, d5⟩ : IsNew _ _ _ _ _ := aM.got 1 3 rfl (by kernel_rfl)
 have d6 := aL.new_ d4
 have hne28 : q9 ≠ ah := by have h1 := aL.lt; have h2 := bx; omega
 have fj := Nat.le_trans bv.size bx
 obtain ⟨eZ, ca, aw, d7, d8⟩ := s_many (P := Tryz.prog) (t := 29) (i := 0) [iv v.k, iv v.nk, iv v.nn, .bool v.neg, sv Av v.mag cv, sv Bv v.s dv, iv v.ref] Tryz.sizeOf29 rfl rfl rfl d5 lb
 have d9 : Blk eZ ah 29 [iv v.k, iv v.nk, iv v.nn, .bool v.neg, sv Av v.mag cv, sv Bv v.s dv, iv v.ref] := aw
 refine st_act rfl rfl fun gn ea => a_store' rfl dS eY ca (ea _ _ trivial ?_)
 have bz := d8 _ _ _ (hne28) d6
 have eb := d3.trans d7 (fun _ h b => by subst b; omega)
 refine st_nil (d1 _ _ (wp_seq_k fun go ec => ?_))
 refine wp_seq_k fun gp ed => ?_
 refine wp_g0 [true, true] [] 70
   [ve (pv q9), ve (iv v.k)] bw (.eq (.eq (.nil))) ?_ ?_
 exact .f (fun k => k.fx 1 dR) <| .t (fun _ w hn k => ⟨_, v_load rfl (k.eq1 0 5 rfl) (l_one Tryz.isAgg3 ((bz.new_ hn).cell 0)), rfl⟩) .nil
 refine aftI bw d2 eb fun gr gs bA ee ef bB aN => ?_
 have e0 := aN.fx 1 dR
 have e1 := aN.fx 3 dS
 have dT := aN.ge 1 6 rfl
 have eg := bz.new_ bB
 have eh := d9.new_ bB
 refine st_nil (ed _ _ ?_)
 refine wp_block ?_
 refine wp_seq_k fun gt bC => ?_
 refine wp_seq_k fun gu ei => ?_
 refine wp_g0 [true, true] [] 70
   [ve (.bool (decide (v.k = 0))), ve (.bool (decide (v.k = 0)))] bA (.eq (.eq (.nil))) ?_ ?_
 exact .t (fun _ w hn k => ⟨_, v_bin rfl (k.fx 6 dT) rfl (fun _ => rfl) (r_eql rfl), rfl⟩) <| .a (fun k => k.eq1 0 8 rfl) .nil
 refine aftI bA ee ef fun gv gw ax bD ay bE az => ?_
 have dU := az.fx 1 e0
 have e2 := az.fx 3 e1
 have dV := az.fx 6 dT
 have dW := az.ge 1 7 rfl
 have bF := eg.new_ bE
 have ej := eh.new_ bE
 refine st_nil (ei _ _ ?_)
 rcases bc (decide (v.k = 0)) with ab | ab
 have cb := oT ab
 have bG := hB dW ab
 refine wp_cond_true bG ?_
 refine wp_skip ?_
 refine bC _ _ ?_
 refine wp_cond_true bG ?_
 refine wp_seq_k fun gx ek => ?_
 refine wp_g0 [true, true, true] [] 70
   [ve (vv v Av cv Bv dv), ve (.bool (zeroV v)), ve (.bool (zeroV v))] ax (.eq (.eq (.eq (.nil)))) ?_ ?_
 exact .t (fun _ w hn k => ⟨_, v_load rfl (k.fx 1 dU) (l_agg Tryz.isAgg29 Tryz.sizeOf29 (bF.new_ hn) rfl), rfl⟩) <| .o1 (ck rfl rfl rfl (fun _ w hn k => ⟨#[vv v Av cv Bv dv], args1 (k.eq1 0 10 rfl), fun _ => by kernel_rfl, zero_c v _ _ _ _ _ (hmv.new_ (ay.transNew hn)) (hsv.new_ (ay.transNew hn))⟩) fun _ => rfl) <| .a (fun k => k.eq1 1 11 rfl) .nil
 refine aftI ax bD ay fun gy gz fk el em fl en => ?_
 have e3 := en.ge 2 2 rfl
 refine st_nil (ek _ _ ?_)
 refine wp_ret (ret_k el (v := .bool (zeroV v)) (res_t rfl e3 _) ?_)
 refine ⟨?_, em⟩
 show Ending.returned (.bool (zeroV v)) = Ending.returned (.bool (mayV v))
 first | rfl | (simp only [mayV, ab, bsm] <;> rfl) | (exfalso; omega)
 have cb := oF ab
 have eo := hB dW ab
 refine wp_cond_false eo ?_
 refine wp_g0 [true, true] [] 70
   [ve (.bool (decide (v.k = 1))), ve (.bool (decide (v.k = 1)))] ax (.eq (.eq (.nil))) ?_ ?_
 exact .t (fun _ w hn k => ⟨_, v_bin rfl (k.fx 6 dV) rfl (fun _ => rfl) (r_eql rfl), rfl⟩) <| .a (fun k => k.eq1 0 9 rfl) .nil
 refine aftI ax bD ay fun gA gB aA bH aB bI aC => ?_
 have dX := aC.fx 1 dU
 have e4 := aC.fx 3 e2
 have dY := aC.fx 6 dV
 have dZ := aC.ge 1 7 rfl
 have bJ := bF.new_ bI
 have ep := ej.new_ bI
 refine st_nil (bC _ _ ?_)
 rcases bc (decide (v.k = 1)) with ad | ad
 have cc := oT ad
 have er := hB dZ ad
 refine wp_cond_true er ?_
 refine wp_seq_k fun gC es => ?_
 refine wp_g0 [true, true, true] [] 70
   [ve (vv v Av cv Bv dv), ve (.bool (zeroV v)), ve (.bool (zeroV v))] aA (.eq (.eq (.eq (.nil)))) ?_ ?_
 exact .t (fun _ w hn k => ⟨_, v_load rfl (k.fx 1 dX) (l_agg Tryz.isAgg29 Tryz.sizeOf29 (bJ.new_ hn) rfl), rfl⟩) <| .o1 (ck rfl rfl rfl (fun _ w hn k => ⟨#[vv v Av cv Bv dv], args1 (k.eq1 0 10 rfl), fun _ => by kernel_rfl, zero_c v _ _ _ _ _ (hmv.new_ (aB.transNew hn)) (hsv.new_ (aB.transNew hn))⟩) fun _ => rfl) <| .a (fun k => k.eq1 1 11 rfl) .nil
 refine aftI aA bH aB fun gD gE e5 cd ce fm cf => ?_
 have et := cf.ge 2 2 rfl
 refine st_nil (es _ _ ?_)
 refine wp_ret (ret_k cd (v := .bool (zeroV v)) (res_t rfl et _) ?_)
 refine ⟨?_, ce⟩
 show Ending.returned (.bool (zeroV v)) = Ending.returned (.bool (mayV v))
 first | rfl | (simp only [mayV, ab, ad, bsm] <;> rfl) | (exfalso; omega)
 have cc := oF ad
 have ch := hB dZ ad
 refine wp_cond_false ch ?_
 refine wp_seq_k fun fn ci => ?_
 refine wp_g0 [true, true] [] 70
   [ve (.bool (decide (v.k = 2))), ve (.bool (decide (v.k = 2)))] aA (.eq (.eq (.nil))) ?_ ?_
 exact .t (fun _ w hn k => ⟨_, v_bin rfl (k.fx 6 dY) rfl (fun _ => rfl) (r_eql rfl), rfl⟩) <| .a (fun k => k.eq1 0 13 rfl) .nil
 refine aftI aA bH aB fun fo fp ai aT aU aV ak => ?_
 have bK := ak.fx 1 dX
 have aO := ak.fx 3 e4
 have bL := ak.fx 6 dY
 have bM := ak.ge 1 12 rfl
 have aW := bJ.new_ aV
 have aX := ep.new_ aV
 refine st_nil (ci _ _ ?_)
 rcases bc (decide (v.k = 2)) with aa | aa
 have bN := oT aa
 have cj := hB bM aa
 refine wp_cond_true cj ?_
 refine wp_seq_k fun fq cl => ?_
 refine wp_g0 [true, false] [(1, false)] 70
   [ve (.pointer (some ⟨ah, 6, none⟩)), vt] ai (.eq (.tt (.nil))) ?_ ?_
 exact .f (fun k => k.fx 3 aO) <| .off .nil
 refine aftI ai aT aU fun fr fs aY cm cn aZ aD => ?_
 have bO := aD.fx 1 bK
 have eu := aD.fx 3 aO
 have ev := aD.ge 0 14 rfl
 have co := aW.new_ aZ
 have cp := aX.new_ aZ
 obtain ⟨ft, -, bP, cq, cr, ct⟩ := s_one (v := iv 0) (i := 6) Tryz.sizeOf3 rfl rfl cp lb
 refine st_act rfl rfl fun fu cu => a_store' rfl ev rfl bP (cu _ _ trivial ?_)
 have a1 := ct _ _ _ (hne28) co
 have aE := cn.trans cr (fun _ h b => by subst b; omega)
 refine st_nil (cl _ _ (wp_seq_k fun fv cw => ?_))
 refine wp_g0 (.replicate 13 true) [] 70
   [ve (vv (Vl.mk v.k v.nk v.nn v.neg v.mag v.s 0) Av cv Bv dv), ve (.bool (zeroV (Vl.mk v.k v.nk v.nn v.neg v.mag v.s 0))), ve (.bool (zeroV (Vl.mk v.k v.nk v.nn v.neg v.mag v.s 0))), ve (gq (zeroV (Vl.mk v.k v.nk v.nn v.neg v.mag v.s 0)) (.pointer (some ⟨q9, 6, none⟩))), ve (gq (zeroV (Vl.mk v.k v.nk v.nn v.neg v.mag v.s 0)) (iv v.ref)), ve (gq (zeroV (Vl.mk v.k v.nk v.nn v.neg v.mag v.s 0)) (.bool (decide (v.ref = 0)))), ve (gq (zeroV (Vl.mk v.k v.nk v.nn v.neg v.mag v.s 0)) (.bool (decide (v.ref = 0)))), ve (gq ((zeroV (Vl.mk v.k v.nk v.nn v.neg v.mag v.s 0)) && (!(decide (v.ref = 0)))) (.pointer (some ⟨q9, 6, none⟩))), ve (gq ((zeroV (Vl.mk v.k v.nk v.nn v.neg v.mag v.s 0)) && (!(decide (v.ref = 0)))) (iv v.ref)), ve (gq ((zeroV (Vl.mk v.k v.nk v.nn v.neg v.mag v.s 0)) && (!(decide (v.ref = 0)))) (.bool (decide (v.ref = 1)))), ve (gq (zeroV (Vl.mk v.k v.nk v.nn v.neg v.mag v.s 0)) (.bool ((decide (v.ref = 0)) || (decide (v.ref = 1))))), ve (.bool ((zeroV (Vl.mk v.k v.nk v.nn v.neg v.mag v.s 0)) && ((decide (v.ref = 0)) || (decide (v.ref = 1))))), ve (.bool ((zeroV (Vl.mk v.k v.nk v.nn v.neg v.mag v.s 0)) && ((decide (v.ref = 0)) || (decide (v.ref = 1)))))] aY (.eq (.eq (.eq (.eq (.eq (.eq (.eq (.eq (.eq (.eq (.eq (.eq (.eq (.nil)))))))))))))) ?_ ?_
 exact .t (fun _ w hn k => ⟨_, v_load rfl (k.fx 3 eu) (l_agg Tryz.isAgg29 Tryz.sizeOf29 (cq.new_ hn) rfl), rfl⟩) <| .o1 (ck rfl rfl rfl (fun _ w hn k => ⟨#[vv (Vl.mk v.k v.nk v.nn v.neg v.mag v.s 0) Av cv Bv dv], args1 (k.eq1 0 15 rfl), fun _ => by kernel_rfl, zero_c (Vl.mk v.k v.nk v.nn v.neg v.mag v.s 0) _ _ _ _ _ (hmv.new_ (aE.transNew hn)) (hsv.new_ (aE.transNew hn))⟩) fun _ => rfl) <| .m (fun k => k.eq1 1 16 rfl) <| .o1 (sc (G := (zeroV (Vl.mk v.k v.nk v.nn v.neg v.mag v.s 0))) rfl rfl rfl (fun _ _ k => g0 (k.eq1 2 17 rfl)) (fun hG _ w hn k => v_field rfl (k.fx 1 bO) (fun w => rfl))) <| .o1 (sc (G := (zeroV (Vl.mk v.k v.nk v.nn v.neg v.mag v.s 0))) rfl rfl rfl (fun _ _ k => g0 (k.eq1 2 17 rfl)) (fun hG _ w hn k => v_load rfl (cT hG (k.eq1 3 18 rfl)) (l_one Tryz.isAgg3 ((a1.new_ hn).cell 6)))) <| .o1 (sc (G := (zeroV (Vl.mk v.k v.nk v.nn v.neg v.mag v.s 0))) rfl rfl rfl (fun _ _ k => g0 (k.eq1 2 17 rfl)) (fun hG _ w hn k => v_bin rfl (cT hG (k.eq1 4 19 rfl)) rfl (fun _ => rfl) (r_eql rfl))) <| .o1 (sc (G := (zeroV (Vl.mk v.k v.nk v.nn v.neg v.mag v.s 0))) rfl rfl rfl (fun _ _ k => g0 (k.eq1 2 17 rfl)) (fun hG _ w hn k => v_move rfl (cT hG (k.eq1 5 20 rfl)))) <| .o1 (sc (G := ((zeroV (Vl.mk v.k v.nk v.nn v.neg v.mag v.s 0)) && (!(decide (v.ref = 0))))) rfl rfl rfl (fun _ _ k => g1' (k.eq1 6 21 rfl)) (fun hG _ w hn k => v_field rfl (k.fx 1 bO) (fun w => rfl))) <| .o1 (sc (G := ((zeroV (Vl.mk v.k v.nk v.nn v.neg v.mag v.s 0)) && (!(decide (v.ref = 0))))) rfl rfl rfl (fun _ _ k => g1' (k.eq1 6 21 rfl)) (fun hG _ w hn k => v_load rfl (cT hG (k.eq1 7 22 rfl)) (l_one Tryz.isAgg3 ((a1.new_ hn).cell 6)))) <| .o1 (sc (G := ((zeroV (Vl.mk v.k v.nk v.nn v.neg v.mag v.s 0)) && (!(decide (v.ref = 0))))) rfl rfl rfl (fun _ _ k => g1' (k.eq1 6 21 rfl)) (fun hG _ w hn k => v_bin rfl (cT hG (k.eq1 8 23 rfl)) rfl (fun _ => rfl) (r_eql rfl))) <| .o1 (sc (G := (zeroV (Vl.mk v.k v.nk v.nn v.neg v.mag v.s 0))) rfl rfl rfl (fun _ _ k => g0 (k.eq1 2 17 rfl)) (fun hG _ w hn k => v_or rfl (cT hG (k.eq1 6 21 rfl)) rfl (fun hg => (cT (aj hG (nt hg)) (k.eq1 9 24 rfl))))) <| .t (fun _ w hn k => ⟨_, v_and rfl (k.eq1 2 17 rfl) (fun hg => (cT hg (k.eq1 10 25 rfl))) rfl, rfl⟩) <| .a (fun k => k.eq1 11 26 rfl) .nil
 refine aftI aY cm aE fun fw fy e6 cx cy e7 cz => ?_
 have ew := cz.ge 12 2 rfl
 refine st_nil (cw _ _ ?_)
 refine wp_ret (ret_k cx (v := .bool ((zeroV (Vl.mk v.k v.nk v.nn v.neg v.mag v.s 0)) && ((decide (v.ref = 0)) || (decide (v.ref = 1))))) (res_t rfl ew _) ?_)
 refine ⟨?_, cy⟩
 show Ending.returned (.bool ((zeroV (Vl.mk v.k v.nk v.nn v.neg v.mag v.s 0)) && ((decide (v.ref = 0)) || (decide (v.ref = 1))))) = Ending.returned (.bool (mayV v))
 first | rfl | (simp only [mayV, ab, ad, aa, bsm] <;> rfl) | (exfalso; omega)
 have bN := oF aa
 have cA := hB bM aa
 refine wp_cond_false cA ?_
 refine wp_seq_k fun fz cB => ?_
 refine wp_g0 [true, true] [] 70
   [ve (.bool (decide (v.k = 3))), ve (.bool (decide (v.k = 3)))] ai (.eq (.eq (.nil))) ?_ ?_
 exact .t (fun _ w hn k => ⟨_, v_bin rfl (k.fx 6 bL) rfl (fun _ => rfl) (r_eql rfl), rfl⟩) <| .a (fun k => k.eq1 0 28 rfl) .nil
 refine aftI ai aT aU fun fA fB al a3 a4 a5 am => ?_
 have bQ := am.fx 1 bK
 have aP := am.fx 3 aO
 have bR := am.fx 6 bL
 have bS := am.ge 1 27 rfl
 have a6 := aW.new_ a5
 have a7 := aX.new_ a5
 refine st_nil (cB _ _ ?_)
 rcases bc (decide (v.k = 3)) with ac | ac
 have bT := oT ac
 have cC := hB bS ac
 refine wp_cond_true cC ?_
 refine wp_seq_k fun fC cD => ?_
 refine wp_g0 [true, true, false] [(2, false)] 70
   [ve (nv (Nm.mk 0 0)), ve (.pointer (some ⟨ah, 1, none⟩)), vt] al (.eq (.eq (.tt (.nil)))) ?_ ?_
 exact .t (fun _ w hn k => ⟨_, v_build (ps := []) rfl parts0 (by kernel_rfl), rfl⟩) <| .f (fun k => k.fx 3 aP) <| .off .nil
 refine aftI al a3 a4 fun fD fE a8 cE cF a9 an => ?_
 have ex := an.fx 1 bQ
 have ey := an.fx 3 aP
 have ez := an.ge 0 29 rfl
 have eA := an.ge 1 30 rfl
 have cG := a6.new_ a9
 have cH := a7.new_ a9
 obtain ⟨eB, bU, bV, cI, cJ⟩ := s_many (P := Tryz.prog) (t := 23) (i := 1) [iv 0, iv 0] Tryz.sizeOf23 rfl rfl rfl cH lb
 have cK : Blk eB ah 29 [iv v.k, iv 0, iv 0, .bool v.neg, sv Av v.mag cv, sv Bv v.s dv, iv v.ref] := bV
 refine st_act rfl rfl fun fF cL => a_store' rfl eA ez bU (cL _ _ trivial ?_)
 have cM := cJ _ _ _ (hne28) cG
 have aF := cF.trans cI (fun _ h b => by subst b; omega)
 refine st_nil (cD _ _ (wp_seq_k fun fG cN => ?_))
 refine wp_g0 (.replicate 8 true) [] 70
   [ve (vv (Vl.mk v.k 0 0 v.neg v.mag v.s v.ref) Av cv Bv dv), ve (.bool (zeroV (Vl.mk v.k 0 0 v.neg v.mag v.s v.ref))), ve (.bool (zeroV (Vl.mk v.k 0 0 v.neg v.mag v.s v.ref))), ve (gq (zeroV (Vl.mk v.k 0 0 v.neg v.mag v.s v.ref)) (.pointer (some ⟨q9, 1, none⟩))), ve (gq (zeroV (Vl.mk v.k 0 0 v.neg v.mag v.s v.ref)) (nv (Nm.mk v.nk v.nn))), ve (gq (zeroV (Vl.mk v.k 0 0 v.neg v.mag v.s v.ref)) (.bool (nmayB (Nm.mk v.nk v.nn)))), ve (.bool ((zeroV (Vl.mk v.k 0 0 v.neg v.mag v.s v.ref)) && (nmayB (Nm.mk v.nk v.nn)))), ve (.bool ((zeroV (Vl.mk v.k 0 0 v.neg v.mag v.s v.ref)) && (nmayB (Nm.mk v.nk v.nn))))] a8 (.eq (.eq (.eq (.eq (.eq (.eq (.eq (.eq (.nil))))))))) ?_ ?_
 exact .t (fun _ w hn k => ⟨_, v_load rfl (k.fx 3 ey) (l_agg Tryz.isAgg29 Tryz.sizeOf29 (cK.new_ hn) rfl), rfl⟩) <| .o1 (ck rfl rfl rfl (fun _ w hn k => ⟨#[vv (Vl.mk v.k 0 0 v.neg v.mag v.s v.ref) Av cv Bv dv], args1 (k.eq1 0 31 rfl), fun _ => by kernel_rfl, zero_c (Vl.mk v.k 0 0 v.neg v.mag v.s v.ref) _ _ _ _ _ (hmv.new_ (aF.transNew hn)) (hsv.new_ (aF.transNew hn))⟩) fun _ => rfl) <| .m (fun k => k.eq1 1 32 rfl) <| .o1 (sc (G := (zeroV (Vl.mk v.k 0 0 v.neg v.mag v.s v.ref))) rfl rfl rfl (fun _ _ k => g0 (k.eq1 2 33 rfl)) (fun hG _ w hn k => v_field rfl (k.fx 1 ex) (fun w => rfl))) <| .o1 (sc (G := (zeroV (Vl.mk v.k 0 0 v.neg v.mag v.s v.ref))) rfl rfl rfl (fun _ _ k => g0 (k.eq1 2 33 rfl)) (fun hG _ w hn k => v_load rfl (cT hG (k.eq1 3 34 rfl)) (l_part Tryz.isAgg23 Tryz.sizeOf23 (cM.new_ hn) lb))) <| .o1 (scC (G := (zeroV (Vl.mk v.k 0 0 v.neg v.mag v.s v.ref))) rfl rfl rfl (fun _ _ k => g0 (k.eq1 2 33 rfl)) rfl (fun hG _ w hn k => ⟨#[nv (Nm.mk v.nk v.nn)], args1 (cT hG (k.eq1 4 35 rfl)), fun _ => by kernel_rfl, may_c (Nm.mk v.nk v.nn) _ ⟩)) <| .t (fun _ w hn k => ⟨_, v_and rfl (k.eq1 2 33 rfl) (fun hg => (cT hg (k.eq1 5 36 rfl))) rfl, rfl⟩) <| .a (fun k => k.eq1 6 37 rfl) .nil
 refine aftI a8 cE aF fun fH fI e8 cO cP e9 cQ => ?_
 have eC := cQ.ge 7 2 rfl
 refine st_nil (cN _ _ ?_)
 refine wp_ret (ret_k cO (v := .bool ((zeroV (Vl.mk v.k 0 0 v.neg v.mag v.s v.ref)) && (nmayB (Nm.mk v.nk v.nn)))) (res_t rfl eC _) ?_)
 refine ⟨?_, cP⟩
 show Ending.returned (.bool ((zeroV (Vl.mk v.k 0 0 v.neg v.mag v.s v.ref)) && (nmayB (Nm.mk v.nk v.nn)))) = Ending.returned (.bool (mayV v))
 first | rfl | (simp only [mayV, ab, ad, aa, ac, bsm] <;> rfl) | (exfalso; omega)
 have bT := oF ac
 have cR := hB bS ac
 refine wp_cond_false cR ?_
 refine wp_seq_k fun fJ cS => ?_
 refine wp_g0 [true, true] [] 70
   [ve (.bool (decide (v.k = 4))), ve (.bool (decide (v.k = 4)))] al (.eq (.eq (.nil))) ?_ ?_
 exact .t (fun _ w hn k => ⟨_, v_bin rfl (k.fx 6 bR) rfl (fun _ => rfl) (r_eql rfl), rfl⟩) <| .a (fun k => k.eq1 0 39 rfl) .nil
 refine aftI al a3 a4 fun fK fL ao ba bb bd ap => ?_
 have bW := ap.fx 1 bQ
 have aQ := ap.fx 3 aP
 have bX := ap.fx 6 bR
 have bY := ap.ge 1 38 rfl
 have be := a6.new_ bd
 have bf := a7.new_ bd
 refine st_nil (cS _ _ ?_)
 rcases bc (decide (v.k = 4)) with ae | ae
 have bZ := oT ae
 have cU := hB bY ae
 refine wp_cond_true cU ?_
 refine wp_seq_k fun fM cV => ?_
 refine wp_g0 [true, true, false] [(2, false)] 70
   [ve (.agg #[.bool false, sv none ([]) 0]), ve (.pointer (some ⟨ah, 3, none⟩)), vt] ao (.eq (.eq (.tt (.nil)))) ?_ ?_
 exact .t (fun _ w hn k => ⟨_, v_build (ps := []) rfl parts0 (by kernel_rfl), rfl⟩) <| .f (fun k => k.fx 3 aQ) <| .off .nil
 refine aftI ao ba bb fun fN fO bg cW cX bh aq => ?_
 have eD := aq.fx 1 bW
 have eE := aq.fx 3 aQ
 have eF := aq.ge 0 40 rfl
 have eG := aq.ge 1 41 rfl
 have cY := be.new_ bh
 have cZ := bf.new_ bh
 obtain ⟨eH, b0, b1, c0, c1⟩ := s_many (P := Tryz.prog) (t := 26) (i := 3) [.bool false, sv none ([]) 0] Tryz.sizeOf26 rfl rfl rfl cZ lb
 have c2 : Blk eH ah 29 [iv v.k, iv v.nk, iv v.nn, .bool false, sv none ([]) 0, sv Bv v.s dv, iv v.ref] := b1
 refine st_act rfl rfl fun fP c3 => a_store' rfl eG eF b0 (c3 _ _ trivial ?_)
 have c4 := c1 _ _ _ (hne28) cY
 have aG := cX.trans c0 (fun _ h b => by subst b; omega)
 refine st_nil (cV _ _ (wp_seq_k fun fQ c5 => ?_))
 refine wp_g0 (.replicate 8 true) [] 70
   [ve (vv (Vl.mk v.k v.nk v.nn false [] v.s v.ref) none 0 Bv dv), ve (.bool (zeroV (Vl.mk v.k v.nk v.nn false [] v.s v.ref))), ve (.bool (zeroV (Vl.mk v.k v.nk v.nn false [] v.s v.ref))), ve (gq (zeroV (Vl.mk v.k v.nk v.nn false [] v.s v.ref)) (.pointer (some ⟨q9, 3, none⟩))), ve (gq (zeroV (Vl.mk v.k v.nk v.nn false [] v.s v.ref)) (.agg #[.bool v.neg, sv Av v.mag cv])), ve (gq (zeroV (Vl.mk v.k v.nk v.nn false [] v.s v.ref)) (.bool (mayB v.neg v.mag))), ve (.bool ((zeroV (Vl.mk v.k v.nk v.nn false [] v.s v.ref)) && (mayB v.neg v.mag))), ve (.bool ((zeroV (Vl.mk v.k v.nk v.nn false [] v.s v.ref)) && (mayB v.neg v.mag)))] bg (.eq (.eq (.eq (.eq (.eq (.eq (.eq (.eq (.nil))))))))) ?_ ?_
 exact .t (fun _ w hn k => ⟨_, v_load rfl (k.fx 3 eE) (l_agg Tryz.isAgg29 Tryz.sizeOf29 (c2.new_ hn) rfl), rfl⟩) <| .o1 (ck rfl rfl rfl (fun _ w hn k => ⟨#[vv (Vl.mk v.k v.nk v.nn false [] v.s v.ref) none 0 Bv dv], args1 (k.eq1 0 42 rfl), fun _ => by kernel_rfl, zero_c (Vl.mk v.k v.nk v.nn false [] v.s v.ref) _ _ _ _ _ (SRow.nil _ _) (hsv.new_ (aG.transNew hn))⟩) fun _ => rfl) <| .m (fun k => k.eq1 1 43 rfl) <| .o1 (sc (G := (zeroV (Vl.mk v.k v.nk v.nn false [] v.s v.ref))) rfl rfl rfl (fun _ _ k => g0 (k.eq1 2 44 rfl)) (fun hG _ w hn k => v_field rfl (k.fx 1 eD) (fun w => rfl))) <| .o1 (sc (G := (zeroV (Vl.mk v.k v.nk v.nn false [] v.s v.ref))) rfl rfl rfl (fun _ _ k => g0 (k.eq1 2 44 rfl)) (fun hG _ w hn k => v_load rfl (cT hG (k.eq1 3 45 rfl)) (l_part Tryz.isAgg26 Tryz.sizeOf26 (c4.new_ hn) lb))) <| .o1 (scC (G := (zeroV (Vl.mk v.k v.nk v.nn false [] v.s v.ref))) rfl rfl rfl (fun _ _ k => g0 (k.eq1 2 44 rfl)) rfl (fun hG _ w hn k => ⟨#[.agg #[.bool v.neg, sv Av v.mag cv]], args1 (cT hG (k.eq1 4 46 rfl)), fun _ => by kernel_rfl, bmay_c v.neg _ v.mag _ _ (hmv.new_ (aG.transNew hn))⟩)) <| .t (fun _ w hn k => ⟨_, v_and rfl (k.eq1 2 44 rfl) (fun hg => (cT hg (k.eq1 5 47 rfl))) rfl, rfl⟩) <| .a (fun k => k.eq1 6 48 rfl) .nil
 refine aftI bg cW aG fun fR fS fa c6 c7 fb c8 => ?_
 have eI := c8.ge 7 2 rfl
 refine st_nil (c5 _ _ ?_)
 refine wp_ret (ret_k c6 (v := .bool ((zeroV (Vl.mk v.k v.nk v.nn false [] v.s v.ref)) && (mayB v.neg v.mag))) (res_t rfl eI _) ?_)
 refine ⟨?_, c7⟩
 show Ending.returned (.bool ((zeroV (Vl.mk v.k v.nk v.nn false [] v.s v.ref)) && (mayB v.neg v.mag))) = Ending.returned (.bool (mayV v))
 first | rfl | (simp only [mayV, ab, ad, aa, ac, ae, bsm] <;> rfl) | (exfalso; omega)
 have bZ := oF ae
 have c9 := hB bY ae
 refine wp_cond_false c9 ?_
 refine wp_seq_k fun fT da => ?_
 refine wp_g0 [true, true] [] 70
   [ve (.bool (decide (v.k = 5))), ve (.bool (decide (v.k = 5)))] ao (.eq (.eq (.nil))) ?_ ?_
 exact .t (fun _ w hn k => ⟨_, v_bin rfl (k.fx 6 bX) rfl (fun _ => rfl) (r_eql rfl), rfl⟩) <| .a (fun k => k.eq1 0 50 rfl) .nil
 refine aftI ao ba bb fun fU fV ar bi bj bk au => ?_
 have b2 := au.fx 1 bW
 have aR := au.fx 3 aQ
 have eJ := au.fx 6 bX
 have b3 := au.ge 1 49 rfl
 have bl := be.new_ bk
 have bm := bf.new_ bk
 refine st_nil (da _ _ ?_)
 rcases bc (decide (v.k = 5)) with af | af
 have b4 := oT af
 have db := hB b3 af
 refine wp_cond_true db ?_
 refine wp_seq_k fun fW dc => ?_
 refine wp_g0 [true, false] [(1, false)] 70
   [ve (.pointer (some ⟨ah, 5, none⟩)), vt] ar (.eq (.tt (.nil))) ?_ ?_
 exact .f (fun k => k.fx 3 aR) <| .off .nil
 refine aftI ar bi bj fun fX fY bn dd de bo aH => ?_
 have eK := aH.fx 1 b2
 have eL := aH.fx 3 aR
 have eM := aH.ge 0 51 rfl
 have df := bl.new_ bo
 have dg := bm.new_ bo
 obtain ⟨fZ, -, b5, dh, di, dj⟩ := s_one (v := sv none ([]) 0) (i := 5) Tryz.sizeOf27 rfl rfl dg lb
 refine st_act rfl rfl fun f0 dk => a_store' rfl eM rfl b5 (dk _ _ trivial ?_)
 have dl := dj _ _ _ (hne28) df
 have bp := de.trans di (fun _ h b => by subst b; omega)
 refine st_nil (dc _ _ (wp_seq_k fun f1 dm => ?_))
 refine wp_g0 (.replicate 9 true) [] 70
   [ve (vv (Vl.mk v.k v.nk v.nn v.neg v.mag [] v.ref) Av cv none 0), ve (.bool (zeroV (Vl.mk v.k v.nk v.nn v.neg v.mag [] v.ref))), ve (.bool (zeroV (Vl.mk v.k v.nk v.nn v.neg v.mag [] v.ref))), ve (gq (zeroV (Vl.mk v.k v.nk v.nn v.neg v.mag [] v.ref)) (.pointer (some ⟨q9, 5, none⟩))), ve (gq (zeroV (Vl.mk v.k v.nk v.nn v.neg v.mag [] v.ref)) (sv Bv v.s dv)), ve (gq (zeroV (Vl.mk v.k v.nk v.nn v.neg v.mag [] v.ref)) (iv (v.s.length : Int))), ve (gq (zeroV (Vl.mk v.k v.nk v.nn v.neg v.mag [] v.ref)) (.bool (decide ((v.s.length : Int) ≤ 4096)))), ve (.bool ((zeroV (Vl.mk v.k v.nk v.nn v.neg v.mag [] v.ref)) && (decide ((v.s.length : Int) ≤ 4096)))), ve (.bool ((zeroV (Vl.mk v.k v.nk v.nn v.neg v.mag [] v.ref)) && (decide ((v.s.length : Int) ≤ 4096))))] bn (.eq (.eq (.eq (.eq (.eq (.eq (.eq (.eq (.eq (.nil)))))))))) ?_ ?_
 exact .t (fun _ w hn k => ⟨_, v_load rfl (k.fx 3 eL) (l_agg Tryz.isAgg29 Tryz.sizeOf29 (dh.new_ hn) rfl), rfl⟩) <| .o1 (ck rfl rfl rfl (fun _ w hn k => ⟨#[vv (Vl.mk v.k v.nk v.nn v.neg v.mag [] v.ref) Av cv none 0], args1 (k.eq1 0 52 rfl), fun _ => by kernel_rfl, zero_c (Vl.mk v.k v.nk v.nn v.neg v.mag [] v.ref) _ _ _ _ _ (hmv.new_ (bp.transNew hn)) (SRow.nil _ _)⟩) fun _ => rfl) <| .m (fun k => k.eq1 1 53 rfl) <| .o1 (sc (G := (zeroV (Vl.mk v.k v.nk v.nn v.neg v.mag [] v.ref))) rfl rfl rfl (fun _ _ k => g0 (k.eq1 2 54 rfl)) (fun hG _ w hn k => v_field rfl (k.fx 1 eK) (fun w => rfl))) <| .o1 (sc (G := (zeroV (Vl.mk v.k v.nk v.nn v.neg v.mag [] v.ref))) rfl rfl rfl (fun _ _ k => g0 (k.eq1 2 54 rfl)) (fun hG _ w hn k => v_load rfl (cT hG (k.eq1 3 55 rfl)) (l_one Tryz.isAgg27 ((dl.new_ hn).cell 5)))) <| .o1 (sc (G := (zeroV (Vl.mk v.k v.nk v.nn v.neg v.mag [] v.ref))) rfl rfl rfl (fun _ _ k => g0 (k.eq1 2 54 rfl)) (fun hG _ w hn k => v_lenR rfl elU (cT hG (k.eq1 4 56 rfl)))) <| .o1 (sc (G := (zeroV (Vl.mk v.k v.nk v.nn v.neg v.mag [] v.ref))) rfl rfl rfl (fun _ _ k => g0 (k.eq1 2 54 rfl)) (fun hG _ w hn k => v_bin rfl (cT hG (k.eq1 5 57 rfl)) rfl (fun _ => rfl) (r_leqK rfl))) <| .t (fun _ w hn k => ⟨_, v_and rfl (k.eq1 2 54 rfl) (fun hg => (cT hg (k.eq1 6 58 rfl))) rfl, rfl⟩) <| .a (fun k => k.eq1 7 59 rfl) .nil
 refine aftI bn dd bp fun f2 f3 fc dn dp fd dq => ?_
 have eN := dq.ge 8 2 rfl
 refine st_nil (dm _ _ ?_)
 refine wp_ret (ret_k dn (v := .bool ((zeroV (Vl.mk v.k v.nk v.nn v.neg v.mag [] v.ref)) && (decide ((v.s.length : Int) ≤ 4096)))) (res_t rfl eN _) ?_)
 refine ⟨?_, dp⟩
 show Ending.returned (.bool ((zeroV (Vl.mk v.k v.nk v.nn v.neg v.mag [] v.ref)) && (decide ((v.s.length : Int) ≤ 4096)))) = Ending.returned (.bool (mayV v))
 first | rfl | (simp only [mayV, ab, ad, aa, ac, ae, af, bsm] <;> rfl) | (exfalso; omega)
 have b4 := oF af
 have dr := hB b3 af
 refine wp_cond_false dr ?_
 refine wp_seq_k fun f4 ds => ?_
 refine wp_g0 [true, true] [] 70
   [ve (.bool (decide (v.k = 6))), ve (.bool (decide (v.k = 6)))] ar (.eq (.eq (.nil))) ?_ ?_
 exact .t (fun _ w hn k => ⟨_, v_bin rfl (k.fx 6 eJ) rfl (fun _ => rfl) (r_eql rfl), rfl⟩) <| .a (fun k => k.eq1 0 61 rfl) .nil
 refine aftI ar bi bj fun f5 f6 av bq br bs aI => ?_
 have eO := aI.fx 1 b2
 have b6 := aI.fx 3 aR
 have b7 := aI.ge 1 60 rfl
 have dt := bl.new_ bs
 have du := bm.new_ bs
 refine st_nil (ds _ _ ?_)
 rcases bc (decide (v.k = 6)) with ag | ag
 have b8 := oT ag
 have dw := hB b7 ag
 refine wp_cond_true dw ?_
 refine wp_seq_k fun f7 dx => ?_
 refine wp_g0 [true, false] [(1, false)] 70
   [ve (.pointer (some ⟨ah, 6, none⟩)), vt] av (.eq (.tt (.nil))) ?_ ?_
 exact .f (fun k => k.fx 3 b6) <| .off .nil
 refine aftI av bq br fun f8 f9 bt dy dz bu aJ => ?_
 have eP := aJ.fx 1 eO
 have eQ := aJ.fx 3 b6
 have eR := aJ.ge 0 62 rfl
 have dA := dt.new_ bu
 have dB := du.new_ bu
 obtain ⟨ga, -, b9, aw, dC, dD⟩ := s_one (v := iv 0) (i := 6) Tryz.sizeOf3 rfl rfl dB lb
 refine st_act rfl rfl fun gb dE => a_store' rfl eR rfl b9 (dE _ _ trivial ?_)
 have dF := dD _ _ _ (hne28) dA
 have aK := dz.trans dC (fun _ h b => by subst b; omega)
 refine st_nil (dx _ _ (wp_seq_k fun gc dG => ?_))
 refine wp_g0 (.replicate 8 true) [] 70
   [ve (vv (Vl.mk v.k v.nk v.nn v.neg v.mag v.s 0) Av cv Bv dv), ve (.bool (zeroV (Vl.mk v.k v.nk v.nn v.neg v.mag v.s 0))), ve (.bool (zeroV (Vl.mk v.k v.nk v.nn v.neg v.mag v.s 0))), ve (gq (zeroV (Vl.mk v.k v.nk v.nn v.neg v.mag v.s 0)) (.pointer (some ⟨q9, 6, none⟩))), ve (gq (zeroV (Vl.mk v.k v.nk v.nn v.neg v.mag v.s 0)) (iv v.ref)), ve (gq (zeroV (Vl.mk v.k v.nk v.nn v.neg v.mag v.s 0)) (.bool (!decide (v.ref < 0)))), ve (.bool ((zeroV (Vl.mk v.k v.nk v.nn v.neg v.mag v.s 0)) && (!decide (v.ref < 0)))), ve (.bool ((zeroV (Vl.mk v.k v.nk v.nn v.neg v.mag v.s 0)) && (!decide (v.ref < 0))))] bt (.eq (.eq (.eq (.eq (.eq (.eq (.eq (.eq (.nil))))))))) ?_ ?_
 exact .t (fun _ w hn k => ⟨_, v_load rfl (k.fx 3 eQ) (l_agg Tryz.isAgg29 Tryz.sizeOf29 (aw.new_ hn) rfl), rfl⟩) <| .o1 (ck rfl rfl rfl (fun _ w hn k => ⟨#[vv (Vl.mk v.k v.nk v.nn v.neg v.mag v.s 0) Av cv Bv dv], args1 (k.eq1 0 63 rfl), fun _ => by kernel_rfl, zero_c (Vl.mk v.k v.nk v.nn v.neg v.mag v.s 0) _ _ _ _ _ (hmv.new_ (aK.transNew hn)) (hsv.new_ (aK.transNew hn))⟩) fun _ => rfl) <| .m (fun k => k.eq1 1 64 rfl) <| .o1 (sc (G := (zeroV (Vl.mk v.k v.nk v.nn v.neg v.mag v.s 0))) rfl rfl rfl (fun _ _ k => g0 (k.eq1 2 65 rfl)) (fun hG _ w hn k => v_field rfl (k.fx 1 eP) (fun w => rfl))) <| .o1 (sc (G := (zeroV (Vl.mk v.k v.nk v.nn v.neg v.mag v.s 0))) rfl rfl rfl (fun _ _ k => g0 (k.eq1 2 65 rfl)) (fun hG _ w hn k => v_load rfl (cT hG (k.eq1 3 66 rfl)) (l_one Tryz.isAgg3 ((dF.new_ hn).cell 6)))) <| .o1 (sc (G := (zeroV (Vl.mk v.k v.nk v.nn v.neg v.mag v.s 0))) rfl rfl rfl (fun _ _ k => g0 (k.eq1 2 65 rfl)) (fun hG _ w hn k => v_bin rfl (cT hG (k.eq1 4 67 rfl)) rfl (fun _ => rfl) (r_geqK rfl))) <| .t (fun _ w hn k => ⟨_, v_and rfl (k.eq1 2 65 rfl) (fun hg => (cT hg (k.eq1 5 68 rfl))) rfl, rfl⟩) <| .a (fun k => k.eq1 6 69 rfl) .nil
 refine aftI bt dy aK fun gd gf fe dH dI ff dJ => ?_
 have eS := dJ.ge 7 2 rfl
 refine st_nil (dG _ _ ?_)
 refine wp_ret (ret_k dH (v := .bool ((zeroV (Vl.mk v.k v.nk v.nn v.neg v.mag v.s 0)) && (!decide (v.ref < 0)))) (res_t rfl eS _) ?_)
 refine ⟨?_, dI⟩
 show Ending.returned (.bool ((zeroV (Vl.mk v.k v.nk v.nn v.neg v.mag v.s 0)) && (!decide (v.ref < 0)))) = Ending.returned (.bool (mayV v))
 first | rfl | (simp only [mayV, ab, ad, aa, ac, ae, af, ag, bsm] <;> rfl) | (exfalso; omega)
 have b8 := oF ag
 have dK := hB b7 ag
 refine wp_cond_false dK ?_
 refine wp_skip ?_
 refine ec _ _ ?_
 refine wp_seq_k fun gg dL => ?_
 refine wp_g0 [true] [] 70
   [vF] av (.eq (.nil)) ?_ ?_
 exact .t (fun _ w hn k => ⟨_, v_assign rfl rfl, rfl⟩) .nil
 refine aftI av bq br fun gh gi fg dM dN fh dO => ?_
 have eT := dO.ge 0 2 rfl
 refine st_nil (dL _ _ ?_)
 refine wp_ret (ret_k dM (v := .bool false) (res_t rfl eT _) ?_)
 refine ⟨?_, dN⟩
 show Ending.returned (.bool false) = Ending.returned (.bool (mayV v))
 first | rfl | (simp only [mayV, ab, ad, aa, ac, ae, af, ag, bsm] <;> rfl) | (exfalso; omega)
def clean_c_P (v : Vl) (Av : Option Addr) (cv : Nat) (Bv : Option Addr) (dv : Nat) (w : World) (en : Ending) (w' : World) : Prop := ∃ (Ar0 : Option Addr) (cr0 : Nat) (Ar1 : Option Addr) (cr1 : Nat), en = .returned (vv (cleanV v) Ar0 cr0 Ar1 cr1) ∧ SRow w' .u32 Ar0 ((cleanV v).mag) cr0 ∧ SRow w' .u16 Ar1 ((cleanV v).s) cr1 ∧ New w w'
theorem clean_c (v : Vl) (Av : Option Addr) (cv : Nat) (Bv : Option Addr) (dv : Nat) (w : World) (hmv : SRow w .u32 Av v.mag cv) (hsv : SRow w .u16 Bv v.s dv) : Calls Tryz.prog 34 #[vv v Av cv Bv dv] w (clean_c_P v Av cv Bv dv w) := by
 refine enter_abs Tryz.func34 rfl fun a0 ai a8 hp => ?_
 have ai : a0.tmps.size = 8 := ai
 have ak : New w w := Upd.refl _ _
 have hp0 : a0.eval (.tmp 0) = vv v Av cv Bv dv := hp 0 _ rfl
 refine wp_seq_k fun K1 a9 => ?_
 refine wp_g [true, true] [] [] 8
   [IsNew w 29 [iv v.k, iv v.nk, iv v.nn, .bool v.neg, sv Av v.mag cv, sv Bv v.s dv, iv v.ref], IsNew w 29 [iv 0, iv 0, iv 0, .bool false, sv none ([]) 0, sv none ([]) 0, iv 0]]
   [0, 1] (newsCons (fun v w h => IsNew.old h) (newsCons (fun v w h => IsNew.old h) newsNil)) ai (.nw (.nw (.nil))) ?_ (fun i h => by cases h) ?_
 exact .o2 (step_allocN (cs := [iv v.k, iv v.nk, iv v.nn, .bool v.neg, sv Av v.mag cv, sv Bv v.s dv, iv v.ref]) (t := 29) rfl (noG rfl) (fun _ w hn k => v_box rfl (k.fx 0 hp0) (fun w => rfl)) (fun q _ hq hb => ⟨q, rfl, hq, hb⟩)) <| .o2 (step_allocN (cs := [iv 0, iv 0, iv 0, .bool false, sv none ([]) 0, sv none ([]) 0, iv 0]) (t := 29) rfl (noG rfl) (fun _ w hn k => rfl) (fun q _ hq hb => ⟨q, rfl, hq, hb⟩)) .nil
 refine aftI ai a8 ak fun a2 w3 aj aC ab br al => ?_
 obtain ⟨q9, h8, aF, ac⟩ : IsNew _ _ _ _ _ := al.got 0 1 rfl (by kernel_rfl)
 obtain ⟨am, an, aG, ao⟩ : IsNew _ _ _ _ _ := al.got 1 2 rfl (by kernel_rfl)
 have hne16 : q9 ≠ am := al.ne 0 1 1 2 h8 an
 have bk := Nat.le_trans ak.size aF
 have bl := Nat.le_trans ak.size aG
 refine st_nil (a9 _ _ (wp_seq_k fun bs aH => ?_))
 refine wp_seq_k fun bt ap => ?_
 rcases bc (mayV v) with aa | aa
 refine wp_g0 [true, true, true] [] 8
   [ve (vv v Av cv Bv dv), vT, vF] aj (.eq (.eq (.eq (.nil)))) ?_ ?_
 exact .t (fun _ w hn k => ⟨_, v_load rfl (k.fx 1 h8) (l_agg Tryz.isAgg29 Tryz.sizeOf29 (ac.new_ hn) rfl), rfl⟩) <| .o1 (ck rfl rfl rfl (fun _ w hn k => ⟨#[vv v Av cv Bv dv], args1 (k.eq1 0 3 rfl), fun _ => by kernel_rfl, vmay_c v _ _ _ _ _ (hmv.new_ (ab.transNew hn)) (hsv.new_ (ab.transNew hn))⟩) fun _ => congrArg Value.bool aa) <| .t (fun _ w hn k => ⟨_, v_not rfl (k.eq1 1 4 rfl), rfl⟩) .nil
 refine aftI aj aC ab fun bu bv aq aI aJ ar af => ?_
 have ba := af.fx 1 h8
 have bb := af.fx 2 an
 have bd := af.ge 2 5 rfl
 have aK := ac.new_ ar
 have aL := ao.new_ ar
 refine st_nil (ap _ _ ?_)
 refine wp_cond_false bd ?_
 refine wp_skip ?_
 refine aH _ _ ?_
 refine wp_seq_k fun bw aM => ?_
 refine wp_g0 [true, false] [(1, false)] 8
   [ve (vv v Av cv Bv dv), vt] aq (.eq (.tt (.nil))) ?_ ?_
 exact .t (fun _ w hn k => ⟨_, v_load rfl (k.fx 1 ba) (l_agg Tryz.isAgg29 Tryz.sizeOf29 (aK.new_ hn) rfl), rfl⟩) <| .off .nil
 refine aftI aq aI aJ fun bx bz bm aN aO aP au => ?_
 have aD := au.fx 2 bb
 have be := au.ge 0 7 rfl
 have aQ := aL.new_ aP
 obtain ⟨bf, ay, az, aR, bn⟩ := s_many (P := Tryz.prog) (t := 29) (i := 0) [iv v.k, iv v.nk, iv v.nn, .bool v.neg, sv Av v.mag cv, sv Bv v.s dv, iv v.ref] Tryz.sizeOf29 rfl rfl rfl aQ lb
 have aS : Blk bf am 29 [iv v.k, iv v.nk, iv v.nn, .bool v.neg, sv Av v.mag cv, sv Bv v.s dv, iv v.ref] := az
 refine st_act rfl rfl fun bA aT => a_store' rfl aD be ay (aT _ _ trivial ?_)
 have ag := aO.trans aR (fun _ h b => by subst b; omega)
 refine st_nil (aM _ _ ?_)
 refine wp_ret (ret_k aN (v := vv v Av cv Bv dv) (res_c rfl aD (l_agg Tryz.isAgg29 Tryz.sizeOf29 aS rfl)) ?_)
 have ad : (cleanV v).mag = v.mag := by first | rfl | (simp only [cleanV, Vl.z, aa, bsm] <;> rfl) | (exfalso; omega)
 have ae : (cleanV v).s = v.s := by first | rfl | (simp only [cleanV, Vl.z, aa, bsm] <;> rfl) | (exfalso; omega)
 exact ⟨Av, cv, Bv, dv, (by show Ending.returned (vv v Av cv Bv dv) = Ending.returned (vv (cleanV v) Av cv Bv dv); (first | rfl | (simp only [cleanV, Vl.z, aa, ad, ae, bsm] <;> rfl) | (exfalso; omega))), (by rw [ad]; exact (hmv.new_ ag)), (by rw [ae]; exact (hsv.new_ ag)), ag⟩
 refine wp_g0 [true, true, true] [] 8
   [ve (vv v Av cv Bv dv), vF, vT] aj (.eq (.eq (.eq (.nil)))) ?_ ?_
 exact .t (fun _ w hn k => ⟨_, v_load rfl (k.fx 1 h8) (l_agg Tryz.isAgg29 Tryz.sizeOf29 (ac.new_ hn) rfl), rfl⟩) <| .o1 (ck rfl rfl rfl (fun _ w hn k => ⟨#[vv v Av cv Bv dv], args1 (k.eq1 0 3 rfl), fun _ => by kernel_rfl, vmay_c v _ _ _ _ _ (hmv.new_ (ab.transNew hn)) (hsv.new_ (ab.transNew hn))⟩) fun _ => congrArg Value.bool aa) <| .t (fun _ w hn k => ⟨_, v_not rfl (k.eq1 1 4 rfl), rfl⟩) .nil
 refine aftI aj aC ab fun bB bC av aU aV aw ah => ?_
 have bD := ah.fx 1 h8
 have bg := ah.fx 2 an
 have bh := ah.ge 2 5 rfl
 have bo := ac.new_ aw
 have aW := ao.new_ aw
 refine st_nil (ap _ _ ?_)
 refine wp_cond_true bh ?_
 refine wp_seq_k fun bE aX => ?_
 refine wp_g0 [true, false] [(1, false)] 8
   [ve (vv (Vl.mk 0 0 0 false [] [] 0) none 0 none 0), vt] av (.eq (.tt (.nil))) ?_ ?_
 exact .t (fun _ w hn k => ⟨_, v_build (ps := []) rfl parts0 (by kernel_rfl), rfl⟩) <| .off .nil
 refine aftI av aU aV fun bF bG bp aY aZ a1 ax => ?_
 have aE := ax.fx 2 bg
 have bi := ax.ge 0 6 rfl
 have a3 := aW.new_ a1
 obtain ⟨bj, aA, aB, a4, bq⟩ := s_many (P := Tryz.prog) (t := 29) (i := 0) [iv 0, iv 0, iv 0, .bool false, sv none ([]) 0, sv none ([]) 0, iv 0] Tryz.sizeOf29 rfl rfl rfl a3 lb
 have a5 : Blk bj am 29 [iv 0, iv 0, iv 0, .bool false, sv none ([]) 0, sv none ([]) 0, iv 0] := aB
 refine st_act rfl rfl fun bH a6 => a_store' rfl aE bi aA (a6 _ _ trivial ?_)
 have a7 := aZ.trans a4 (fun _ h b => by subst b; omega)
 refine st_nil (aX _ _ ?_)
 refine wp_ret (ret_k aY (v := vv (Vl.mk 0 0 0 false [] [] 0) none 0 none 0) (res_c rfl aE (l_agg Tryz.isAgg29 Tryz.sizeOf29 a5 rfl)) ?_)
 have ad : (cleanV v).mag = [] := by first | rfl | (simp only [cleanV, Vl.z, aa, bsm] <;> rfl) | (exfalso; omega)
 have ae : (cleanV v).s = [] := by first | rfl | (simp only [cleanV, Vl.z, aa, bsm] <;> rfl) | (exfalso; omega)
 exact ⟨none, 0, none, 0, (by show Ending.returned (vv (Vl.mk 0 0 0 false [] [] 0) none 0 none 0) = Ending.returned (vv (cleanV v) none 0 none 0); (first | rfl | (simp only [cleanV, Vl.z, aa, ad, ae, bsm] <;> rfl) | (exfalso; omega))), (by rw [ad]; exact (SRow.nil _ _)), (by rw [ae]; exact (SRow.nil _ _)), a7⟩
theorem whole_c (n : Int) (w : World) : Calls Tryz.prog 90 #[iv n] w (IsRet (nv (Nm.mk 0 n)) w) := by
 refine enter_abs Tryz.func90 rfl fun a0 aa av hp => ?_
 have aa : a0.tmps.size = 5 := aa
 have ad : New w w := Upd.refl _ _
 have hp0 : a0.eval (.tmp 0) = iv n := hp 0 _ rfl
 refine wp_seq_k fun K1 aw => ?_
 refine wp_g [true] [] [] 5
   [IsNew w 23 [iv 0, iv 0]]
   [0] (newsCons (fun v w h => IsNew.old h) newsNil) aa (.nw (.nil)) ?_ (fun i h => by cases h) ?_
 exact .o2 (step_allocN (cs := [iv 0, iv 0]) (t := 23) rfl (noG rfl) (fun _ w hn k => rfl) (fun q _ hq hb => ⟨q, rfl, hq, hb⟩)) .nil
 refine aftI aa av ad fun a2 w3 ae ax ah aC af => ?_
 have h8 := af.fx 0 hp0
 obtain ⟨aD, h9, ai, aj⟩ : IsNew _ _ _ _ _ := af.got 0 2 rfl (by kernel_rfl)
 have az := Nat.le_trans ad.size ai
 refine st_nil (aw _ _ (wp_seq_k fun aE ak => ?_))
 refine wp_g0 [true, true, false] [(2, false)] 5
   [ve (iv n), ve (nv (Nm.mk 0 n)), vt] ae (.eq (.eq (.tt (.nil)))) ?_ ?_
 exact .m (fun k => k.fx 0 h8) <| .t (fun _ w hn k => ⟨_, v_build (ps := [(0, iv 0), (1, iv n)]) rfl (parts2 rfl (k.eq1 0 3 rfl)) (by kernel_rfl), rfl⟩) <| .off .nil
 refine aftI ae ax ah fun aF aG aA al am an ab => ?_
 have ag := ab.fx 2 h9
 have ay := ab.ge 1 4 rfl
 have ao := aj.new_ an
 obtain ⟨aH, -, ac, ap, aq, aB⟩ := s_two (v0 := iv 0) (v1 := iv n) Tryz.sizeOf23 rfl rfl rfl ao
 refine st_act rfl rfl fun aI ar => a_store' rfl ag ay ac (ar _ _ trivial ?_)
 have au := am.trans aq (fun _ h b => by subst b; omega)
 refine st_nil (ak _ _ ?_)
 refine wp_ret (ret_k al (v := nv (Nm.mk 0 n)) (res_c rfl ag (l_two Tryz.isAgg23 Tryz.sizeOf23 ap)) ?_)
 exact ⟨rfl, au⟩
theorem nought_c (d : Bool) (w : World) : Calls Tryz.prog 91 #[.bool d] w (IsRet (nv (noughtM d)) w) := by
 refine enter_abs Tryz.func91 rfl fun a0 ac aU hp => ?_
 have ac : a0.tmps.size = 6 := ac
 have al : New w w := Upd.refl _ _
 have hp0 : a0.eval (.tmp 0) = .bool d := hp 0 _ rfl
 refine wp_seq_k fun K1 aV => ?_
 refine wp_g [true] [] [] 6
   [IsNew w 23 [iv 0, iv 0]]
   [0] (newsCons (fun v w h => IsNew.old h) newsNil) ac (.nw (.nil)) ?_ (fun i h => by cases h) ?_
 exact .o2 (step_allocN (cs := [iv 0, iv 0]) (t := 23) rfl (noG rfl) (fun _ w hn k => rfl) (fun q _ hq hb => ⟨q, rfl, hq, hb⟩)) .nil
 refine aftI ac aU al fun a2 w3 am aW au a6 an => ?_
 have h8 := an.fx 0 hp0
 obtain ⟨a7, h9, av, aw⟩ : IsNew _ _ _ _ _ := an.got 0 2 rfl (by kernel_rfl)
 have aZ := Nat.le_trans al.size av
 refine st_nil (aV _ _ (wp_seq_k fun a8 ax => ?_))
 refine wp_seq_k fun a9 ay => ?_
 refine wp_g0 [true] [] 6
   [ve (.bool d)] am (.eq (.nil)) ?_ ?_
 exact .m (fun k => k.fx 0 h8) .nil
 refine aftI am aW au fun ba bb ab ad ae az af => ?_
 have ao := af.fx 2 h9
 have ap := af.ge 0 3 rfl
 have ag := aw.new_ az
 refine st_nil (ay _ _ ?_)
 rcases bc (d) with aa | aa
 have aA := hB ap aa
 refine wp_cond_true aA ?_
 refine wp_seq_k fun bd aB => ?_
 refine wp_g0 [true, false] [(1, false)] 6
   [ve (nv (Nm.mk 1 0)), vt] ab (.eq (.tt (.nil))) ?_ ?_
 exact .t (fun _ w hn k => ⟨_, v_build (ps := [(0, iv 1)]) rfl (parts1 rfl) (by kernel_rfl), rfl⟩) <| .off .nil
 refine aftI ab ad ae fun be bf a1 aC aD aE ah => ?_
 have aq := ah.fx 2 ao
 have aX := ah.ge 0 4 rfl
 have aF := ag.new_ aE
 obtain ⟨bg, -, aj, aG, aH, a3⟩ := s_two (v0 := iv 1) (v1 := iv 0) Tryz.sizeOf23 rfl rfl rfl aF
 refine st_act rfl rfl fun bh aI => a_store' rfl aq aX aj (aI _ _ trivial ?_)
 have aJ := aD.trans aH (fun _ h b => by subst b; omega)
 refine st_nil (aB _ _ ?_)
 refine wp_ret (ret_k aC (v := nv (Nm.mk 1 0)) (res_c rfl aq (l_two Tryz.isAgg23 Tryz.sizeOf23 aG)) ?_)
 refine ⟨?_, aJ⟩
 show Ending.returned (nv (Nm.mk 1 0)) = Ending.returned (nv (noughtM d))
 first | rfl | (simp only [noughtM, aa, bsm] <;> rfl) | (exfalso; omega)
 have aK := hB ap aa
 refine wp_cond_false aK ?_
 refine wp_skip ?_
 refine ax _ _ ?_
 refine wp_seq_k fun bi aL => ?_
 refine wp_g0 [true, false] [(1, false)] 6
   [ve (nv (Nm.mk 0 0)), vt] ab (.eq (.tt (.nil))) ?_ ?_
 exact .o1 (ck rfl rfl rfl (fun _ w hn k => ⟨#[iv 0], args1 rfl, fun _ => by kernel_rfl, whole_c 0 _ ⟩) fun _ => rfl) <| .off .nil
 refine aftI ab ad ae fun bj bk a4 aM aN aO ai => ?_
 have ar := ai.fx 2 ao
 have aY := ai.ge 0 5 rfl
 have aP := ag.new_ aO
 obtain ⟨bl, -, ak, aQ, aR, a5⟩ := s_two (v0 := iv 0) (v1 := iv 0) Tryz.sizeOf23 rfl rfl rfl aP
 refine st_act rfl rfl fun bm aS => a_store' rfl ar aY ak (aS _ _ trivial ?_)
 have aT := aN.trans aR (fun _ h b => by subst b; omega)
 refine st_nil (aL _ _ ?_)
 refine wp_ret (ret_k aM (v := nv (Nm.mk 0 0)) (res_c rfl ar (l_two Tryz.isAgg23 Tryz.sizeOf23 aQ)) ?_)
 refine ⟨?_, aT⟩
 show Ending.returned (nv (Nm.mk 0 0)) = Ending.returned (nv (noughtM d))
 first | rfl | (simp only [noughtM, aa, bsm] <;> rfl) | (exfalso; omega)
theorem inf_c (d : Bool) (w : World) : Calls Tryz.prog 89 #[.bool d] w (IsRet (nv (infM d)) w) := by
 refine enter_abs Tryz.func89 rfl fun a0 ac aU hp => ?_
 have ac : a0.tmps.size = 6 := ac
 have al : New w w := Upd.refl _ _
 have hp0 : a0.eval (.tmp 0) = .bool d := hp 0 _ rfl
 refine wp_seq_k fun K1 aV => ?_
 refine wp_g [true] [] [] 6
   [IsNew w 23 [iv 0, iv 0]]
   [0] (newsCons (fun v w h => IsNew.old h) newsNil) ac (.nw (.nil)) ?_ (fun i h => by cases h) ?_
 exact .o2 (step_allocN (cs := [iv 0, iv 0]) (t := 23) rfl (noG rfl) (fun _ w hn k => rfl) (fun q _ hq hb => ⟨q, rfl, hq, hb⟩)) .nil
 refine aftI ac aU al fun a2 w3 am aW au a6 an => ?_
 have h8 := an.fx 0 hp0
 obtain ⟨a7, h9, av, aw⟩ : IsNew _ _ _ _ _ := an.got 0 2 rfl (by kernel_rfl)
 have aZ := Nat.le_trans al.size av
 refine st_nil (aV _ _ (wp_seq_k fun a8 ax => ?_))
 refine wp_seq_k fun a9 ay => ?_
 refine wp_g0 [true] [] 6
   [ve (.bool d)] am (.eq (.nil)) ?_ ?_
 exact .m (fun k => k.fx 0 h8) .nil
 refine aftI am aW au fun ba bb ab ad ae az af => ?_
 have ao := af.fx 2 h9
 have ap := af.ge 0 3 rfl
 have ag := aw.new_ az
 refine st_nil (ay _ _ ?_)
 rcases bc (d) with aa | aa
 have aA := hB ap aa
 refine wp_cond_true aA ?_
 refine wp_seq_k fun bd aB => ?_
 refine wp_g0 [true, false] [(1, false)] 6
   [ve (nv (Nm.mk 4 0)), vt] ab (.eq (.tt (.nil))) ?_ ?_
 exact .t (fun _ w hn k => ⟨_, v_build (ps := [(0, iv 4)]) rfl (parts1 rfl) (by kernel_rfl), rfl⟩) <| .off .nil
 refine aftI ab ad ae fun be bf a1 aC aD aE ah => ?_
 have aq := ah.fx 2 ao
 have aX := ah.ge 0 4 rfl
 have aF := ag.new_ aE
 obtain ⟨bg, -, aj, aG, aH, a3⟩ := s_two (v0 := iv 4) (v1 := iv 0) Tryz.sizeOf23 rfl rfl rfl aF
 refine st_act rfl rfl fun bh aI => a_store' rfl aq aX aj (aI _ _ trivial ?_)
 have aJ := aD.trans aH (fun _ h b => by subst b; omega)
 refine st_nil (aB _ _ ?_)
 refine wp_ret (ret_k aC (v := nv (Nm.mk 4 0)) (res_c rfl aq (l_two Tryz.isAgg23 Tryz.sizeOf23 aG)) ?_)
 refine ⟨?_, aJ⟩
 show Ending.returned (nv (Nm.mk 4 0)) = Ending.returned (nv (infM d))
 first | rfl | (simp only [infM, aa, bsm] <;> rfl) | (exfalso; omega)
 have aK := hB ap aa
 refine wp_cond_false aK ?_
 refine wp_skip ?_
 refine ax _ _ ?_
 refine wp_seq_k fun bi aL => ?_
 refine wp_g0 [true, false] [(1, false)] 6
   [ve (nv (Nm.mk 3 0)), vt] ab (.eq (.tt (.nil))) ?_ ?_
 exact .t (fun _ w hn k => ⟨_, v_build (ps := [(0, iv 3)]) rfl (parts1 rfl) (by kernel_rfl), rfl⟩) <| .off .nil
 refine aftI ab ad ae fun bj bk a4 aM aN aO ai => ?_
 have ar := ai.fx 2 ao
 have aY := ai.ge 0 5 rfl
 have aP := ag.new_ aO
 obtain ⟨bl, -, ak, aQ, aR, a5⟩ := s_two (v0 := iv 3) (v1 := iv 0) Tryz.sizeOf23 rfl rfl rfl aP
 refine st_act rfl rfl fun bm aS => a_store' rfl ar aY ak (aS _ _ trivial ?_)
 have aT := aN.trans aR (fun _ h b => by subst b; omega)
 refine st_nil (aL _ _ ?_)
 refine wp_ret (ret_k aM (v := nv (Nm.mk 3 0)) (res_c rfl ar (l_two Tryz.isAgg23 Tryz.sizeOf23 aQ)) ?_)
 refine ⟨?_, aT⟩
 show Ending.returned (nv (Nm.mk 3 0)) = Ending.returned (nv (infM d))
 first | rfl | (simp only [infM, aa, bsm] <;> rfl) | (exfalso; omega)
theorem as_c (a : Nm) (w : World) : Calls Tryz.prog 88 #[nv a] w (IsRet (nv (asM a)) w) := by
 refine enter_abs Tryz.func88 rfl fun a0 ad a1 hp => ?_
 have ad : a0.tmps.size = 8 := ad
 have ae : New w w := Upd.refl _ _
 have hp0 : a0.eval (.tmp 0) = nv a := hp 0 _ rfl
 refine wp_seq_k fun K1 a3 => ?_
 refine wp_g [true, true] [] [] 8
   [IsNew w 23 [iv a.k, iv a.n], IsNew w 23 [iv 0, iv 0]]
   [0, 1] (newsCons (fun v w h => IsNew.old h) (newsCons (fun v w h => IsNew.old h) newsNil)) ad (.nw (.nw (.nil))) ?_ (fun i h => by cases h) ?_
 exact .o2 (step_allocN (cs := [iv a.k, iv a.n]) (t := 23) rfl (noG rfl) (fun _ w hn k => v_box rfl (k.fx 0 hp0) (fun w => rfl)) (fun q _ hq hb => ⟨q, rfl, hq, hb⟩)) <| .o2 (step_allocN (cs := [iv 0, iv 0]) (t := 23) rfl (noG rfl) (fun _ w hn k => rfl) (fun q _ hq hb => ⟨q, rfl, hq, hb⟩)) .nil
 refine aftI ad a1 ae fun a2 w3 ar a4 az bg af => ?_
 obtain ⟨q9, h8, aA, ag⟩ : IsNew _ _ _ _ _ := af.got 0 1 rfl (by kernel_rfl)
 obtain ⟨a5, au, aB, aC⟩ : IsNew _ _ _ _ _ := af.got 1 2 rfl (by kernel_rfl)
 have hne16 : q9 ≠ a5 := af.ne 0 1 1 2 h8 au
 have a9 := Nat.le_trans ae.size aA
 have ba := Nat.le_trans ae.size aB
 refine st_nil (a3 _ _ (wp_seq_k fun bh aD => ?_))
 refine wp_seq_k fun bi aE => ?_
 refine wp_g0 [true, true, true] [] 8
   [ve (nv a), ve (.bool (nmayB a)), ve (.bool (!(nmayB a)))] ar (.eq (.eq (.eq (.nil)))) ?_ ?_
 exact .t (fun _ w hn k => ⟨_, v_load rfl (k.fx 1 h8) (l_two Tryz.isAgg23 Tryz.sizeOf23 (ag.new_ hn)), rfl⟩) <| .o1 (ck rfl rfl rfl (fun _ w hn k => ⟨#[nv a], args1 (k.eq1 0 3 rfl), fun _ => by kernel_rfl, may_c a _ ⟩) fun _ => rfl) <| .t (fun _ w hn k => ⟨_, v_not rfl (k.eq1 1 4 rfl), rfl⟩) .nil
 refine aftI ar a4 az fun bj bk ab ah ai aj ac => ?_
 have a6 := ac.fx 1 h8
 have av := ac.fx 2 au
 have aw := ac.ge 2 5 rfl
 have aF := ag.new_ aj
 have ak := aC.new_ aj
 refine st_nil (aE _ _ ?_)
 rcases bc ((!(nmayB a))) with aa | aa
 have aG := hB aw aa
 have al : (nmayB a) = false := nF aa
 refine wp_cond_true aG ?_
 refine wp_seq_k fun bl aH => ?_
 refine wp_g0 [true, false] [(1, false)] 8
   [ve (nv (Nm.mk 2 0)), vt] ab (.eq (.tt (.nil))) ?_ ?_
 exact .o1 (ck rfl rfl rfl (fun _ w hn k => ⟨#[], rfl, fun _ => by kernel_rfl, nan_c  _ ⟩) fun _ => rfl) <| .off .nil
 refine aftI ab ah ai fun bm bn bb aI aJ aK am => ?_
 have ax := am.fx 2 av
 have a7 := am.ge 0 6 rfl
 have aL := ak.new_ aK
 obtain ⟨bo, -, ap, aM, aN, bd⟩ := s_two (v0 := iv 2) (v1 := iv 0) Tryz.sizeOf23 rfl rfl rfl aL
 refine st_act rfl rfl fun bp aO => a_store' rfl ax a7 ap (aO _ _ trivial ?_)
 have aP := aJ.trans aN (fun _ h b => by subst b; omega)
 refine st_nil (aH _ _ ?_)
 refine wp_ret (ret_k aI (v := nv (Nm.mk 2 0)) (res_c rfl ax (l_two Tryz.isAgg23 Tryz.sizeOf23 aM)) ?_)
 refine ⟨?_, aP⟩
 show Ending.returned (nv (Nm.mk 2 0)) = Ending.returned (nv (asM a))
 first | rfl | (simp only [asM, aa, al, al, bsm] <;> rfl) | (exfalso; omega)
 have aQ := hB aw aa
 have an : (nmayB a) = true := nT aa
 refine wp_cond_false aQ ?_
 refine wp_skip ?_
 refine aD _ _ ?_
 refine wp_seq_k fun bq aR => ?_
 refine wp_g0 [true, false] [(1, false)] 8
   [ve (nv a), vt] ab (.eq (.tt (.nil))) ?_ ?_
 exact .t (fun _ w hn k => ⟨_, v_load rfl (k.fx 1 a6) (l_two Tryz.isAgg23 Tryz.sizeOf23 (aF.new_ hn)), rfl⟩) <| .off .nil
 refine aftI ab ah ai fun br bs be aS aT aU ao => ?_
 have ay := ao.fx 2 av
 have a8 := ao.ge 0 7 rfl
 have aV := ak.new_ aU
 obtain ⟨bt, -, aq, aW, aX, bf⟩ := s_two (v0 := iv a.k) (v1 := iv a.n) Tryz.sizeOf23 rfl rfl rfl aV
 refine st_act rfl rfl fun bu aY => a_store' rfl ay a8 aq (aY _ _ trivial ?_)
 have aZ := aT.trans aX (fun _ h b => by subst b; omega)
 refine st_nil (aR _ _ ?_)
 refine wp_ret (ret_k aS (v := nv a) (res_c rfl ay (l_two Tryz.isAgg23 Tryz.sizeOf23 aW)) ?_)
 refine ⟨?_, aZ⟩
 show Ending.returned (nv a) = Ending.returned (nv (asM a))
 first | rfl | (simp only [asM, aa, an, an, bsm] <;> rfl) | (exfalso; omega)
theorem isNaN_c (a : Nm) (w : World) : Calls Tryz.prog 122 #[nv a] w (IsRet (.bool (decide (a.k = 2))) w) := by
 refine enter_abs Tryz.func122 rfl fun a0 aa ak hp => ?_
 have aa : a0.tmps.size = 6 := aa
 have ab : New w w := Upd.refl _ _
 have hp0 : a0.eval (.tmp 0) = nv a := hp 0 _ rfl
 refine wp_seq_k fun K1 al => ?_
 refine wp_g [true, true] [] [] 6
   [IsNew w 23 [iv a.k, iv a.n], vF]
   [0] (newsCons (fun v w h => IsNew.old h) newsNil) aa (.nw (.eq (.nil))) ?_ (fun i h => by cases h) ?_
 exact .o2 (step_allocN (cs := [iv a.k, iv a.n]) (t := 23) rfl (noG rfl) (fun _ w hn k => v_box rfl (k.fx 0 hp0) (fun w => rfl)) (fun q _ hq hb => ⟨q, rfl, hq, hb⟩)) <| .t (fun _ w hn k => ⟨_, v_assign rfl rfl, rfl⟩) .nil
 refine aftI aa ak ab fun a2 w3 ac am ad au an => ?_
 obtain ⟨q9, h8, ae, af⟩ : IsNew _ _ _ _ _ := an.got 0 1 rfl (by kernel_rfl)
 have ap := Nat.le_trans ab.size ae
 refine st_nil (al _ _ (wp_seq_k fun av ag => ?_))
 refine wp_g0 [true, true, true, true] [] 6
   [ve (pv q9), ve (iv a.k), ve (.bool (decide (a.k = 2))), ve (.bool (decide (a.k = 2)))] ac (.eq (.eq (.eq (.eq (.nil))))) ?_ ?_
 exact .f (fun k => k.fx 1 h8) <| .t (fun _ w hn k => ⟨_, v_load rfl (k.eq1 0 3 rfl) (l_one Tryz.isAgg3 ((af.new_ hn).cell 0)), rfl⟩) <| .t (fun _ w hn k => ⟨_, v_bin rfl (k.eq1 1 4 rfl) rfl (fun _ => rfl) (r_eql rfl), rfl⟩) <| .a (fun k => k.eq1 2 5 rfl) .nil
 refine aftI ac am ad fun aw ax aq ah ai ar aj => ?_
 have ao := aj.ge 3 2 rfl
 refine st_nil (ag _ _ ?_)
 refine wp_ret (ret_k ah (v := .bool (decide (a.k = 2))) (res_t rfl ao _) ?_)
 exact ⟨rfl, ai⟩
theorem nneg_c (a : Nm) (w : World) : Calls Tryz.prog 44 #[nv a] w (IsRet (nv (negM a)) w) := by
 refine enter_abs Tryz.func44 rfl fun a0 ar dq hp => ?_
 have ar : a0.tmps.size = 28 := ar
 have aR : New w w := Upd.refl _ _
 have hp0 : a0.eval (.tmp 0) = nv a := hp 0 _ rfl
 refine wp_seq_k fun K1 dr => ?_
 refine wp_g [true, true] [] [] 28
   [IsNew w 23 [iv a.k, iv a.n], IsNew w 23 [iv 0, iv 0]]
   [0, 1] (newsCons (fun v w h => IsNew.old h) (newsCons (fun v w h => IsNew.old h) newsNil)) ar (.nw (.nw (.nil))) ?_ (fun i h => by cases h) ?_
 exact .o2 (step_allocN (cs := [iv a.k, iv a.n]) (t := 23) rfl (noG rfl) (fun _ w hn k => v_box rfl (k.fx 0 hp0) (fun w => rfl)) (fun q _ hq hb => ⟨q, rfl, hq, hb⟩)) <| .o2 (step_allocN (cs := [iv 0, iv 0]) (t := 23) rfl (noG rfl) (fun _ w hn k => rfl) (fun q _ hq hb => ⟨q, rfl, hq, hb⟩)) .nil
 refine aftI ar dq aR fun a2 w3 cD ds cL el aS => ?_
 obtain ⟨q9, h8, cM, aT⟩ : IsNew _ _ _ _ _ := aS.got 0 1 rfl (by kernel_rfl)
 obtain ⟨dt, cE, cN, cO⟩ : IsNew _ _ _ _ _ := aS.got 1 2 rfl (by kernel_rfl)
 have hne16 : q9 ≠ dt := aS.ne 0 1 1 2 h8 cE
 have dJ := Nat.le_trans aR.size cM
 have dK := Nat.le_trans aR.size cN
 refine st_nil (dr _ _ (wp_seq_k fun em cP => ?_))
 refine wp_g0 [true, true, false] [(2, false)] 28
   [ve (nv a), ve (nv (asM a)), vt] cD (.eq (.eq (.tt (.nil)))) ?_ ?_
 exact .t (fun _ w hn k => ⟨_, v_load rfl (k.fx 1 h8) (l_two Tryz.isAgg23 Tryz.sizeOf23 (aT.new_ hn)), rfl⟩) <| .o1 (ck rfl rfl rfl (fun _ w hn k => ⟨#[nv a], args1 (k.eq1 0 3 rfl), fun _ => by kernel_rfl, as_c a _ ⟩) fun _ => rfl) <| .off .nil
 refine aftI cD ds cL fun en eo aU cQ cR aV ap => ?_
 have aW := ap.fx 1 h8
 have du := ap.fx 2 cE
 have dv := ap.ge 1 4 rfl
 have cS := aT.new_ aV
 have cT := cO.new_ aV
 have hbd_a := as_bd a
 obtain ⟨ep, -, bD, aX, cU, cV⟩ := s_two (v0 := iv ((asM a).k)) (v1 := iv ((asM a).n)) Tryz.sizeOf23 rfl rfl rfl cS
 refine st_act rfl rfl fun er cW => a_store' rfl aW dv bD (cW _ _ trivial ?_)
 have cX := cV _ _ _ (fun h => hne16 h.symm) cT
 have cY := cR.trans cU (fun _ h b => by subst b; omega)
 refine st_nil (cP _ _ (wp_seq_k fun es cZ => ?_))
 refine wp_seq_k fun et c0 => ?_
 refine wp_g0 [true, true] [] 28
   [ve (pv q9), ve (iv ((asM a).k))] aU (.eq (.eq (.nil))) ?_ ?_
 exact .f (fun k => k.fx 1 aW) <| .t (fun _ w hn k => ⟨_, v_load rfl (k.eq1 0 5 rfl) (l_one Tryz.isAgg3 ((aX.new_ hn).cell 0)), rfl⟩) .nil
 refine aftI aU cQ cY fun eu ev aY c1 c2 aZ aq => ?_
 have dw := aq.fx 1 aW
 have dx := aq.fx 2 du
 have cF := aq.ge 1 6 rfl
 have c3 := aX.new_ aZ
 have c4 := cX.new_ aZ
 refine st_nil (c0 _ _ ?_)
 refine wp_block ?_
 refine wp_seq_k fun ew c5 => ?_
 refine wp_g0 [true, true] [] 28
   [ve (.bool (decide (((asM a).k) = 2))), ve (.bool (decide (((asM a).k) = 2)))] aY (.eq (.eq (.nil))) ?_ ?_
 exact .t (fun _ w hn k => ⟨_, v_bin rfl (k.fx 6 cF) rfl (fun _ => rfl) (r_eql rfl), rfl⟩) <| .a (fun k => k.eq1 0 8 rfl) .nil
 refine aftI aY c1 c2 fun ex ey aj a1 a3 a4 ak => ?_
 have cG := ak.fx 1 dw
 have cH := ak.fx 2 dx
 have cI := ak.fx 6 cF
 have cJ := ak.ge 1 7 rfl
 have a5 := c3.new_ a4
 have a6 := c4.new_ a4
 refine st_nil (c5 _ _ ?_)
 rcases bc (decide (((asM a).k) = 2)) with ac | ac
 have bE := oT ac
 have c6 := hB cJ ac
 refine wp_cond_true c6 ?_
 refine wp_seq_k fun ez c7 => ?_
 refine wp_g0 [true, false] [(1, false)] 28
   [ve (nv (asM a)), vt] aj (.eq (.tt (.nil))) ?_ ?_
 exact .t (fun _ w hn k => ⟨_, v_load rfl (k.fx 1 cG) (l_two Tryz.isAgg23 Tryz.sizeOf23 (a5.new_ hn)), rfl⟩) <| .off .nil
 refine aftI aj a1 a3 fun eA eB dL c8 c9 da a7 => ?_
 have cK := a7.fx 2 cH
 have dy := a7.ge 0 9 rfl
 have db := a6.new_ da
 obtain ⟨eC, -, bF, dc, dd, dM⟩ := s_two (v0 := iv ((asM a).k)) (v1 := iv ((asM a).n)) Tryz.sizeOf23 rfl rfl rfl db
 refine st_act rfl rfl fun eD de => a_store' rfl cK dy bF (de _ _ trivial ?_)
 have df := c9.trans dd (fun _ h b => by subst b; omega)
 refine st_nil (c7 _ _ ?_)
 refine wp_ret (ret_k c8 (v := nv (asM a)) (res_c rfl cK (l_two Tryz.isAgg23 Tryz.sizeOf23 dc)) ?_)
 refine ⟨?_, df⟩
 show Ending.returned (nv (asM a)) = Ending.returned (nv (negM a))
 first | rfl | (simp only [negM, negA, infM, ac, bsm] <;> rfl) | (exfalso; omega)
 have bE := oF ac
 have dg := hB cJ ac
 refine wp_cond_false dg ?_
 refine wp_seq_k fun eE a8 => ?_
 refine wp_seq_k fun eF dh => ?_
 refine wp_g0 [true, true] [] 28
   [ve (.bool (decide (((asM a).k) = 3))), ve (.bool (decide (((asM a).k) = 3)))] aj (.eq (.eq (.nil))) ?_ ?_
 exact .t (fun _ w hn k => ⟨_, v_bin rfl (k.fx 6 cI) rfl (fun _ => rfl) (r_eql rfl), rfl⟩) <| .a (fun k => k.eq1 0 11 rfl) .nil
 refine aftI aj a1 a3 fun eG eH al a9 au ba am => ?_
 have bb := am.fx 1 cG
 have bd := am.fx 2 cH
 have be := am.fx 6 cI
 have bf := am.ge 1 10 rfl
 have av := a5.new_ ba
 have aw := a6.new_ ba
 refine st_nil (dh _ _ ?_)
 rcases bc (decide (((asM a).k) = 3)) with aa | aa
 have bg := oT aa
 have ax := hB bf aa
 refine wp_cond_true ax ?_
 refine wp_skip ?_
 refine a8 _ _ ?_
 refine wp_cond_true ax ?_
 refine wp_seq_k fun dN bG => ?_
 refine wp_g0 [true, true, true, true, false] [(4, false)] 28
   [ve (pv q9), ve (iv ((asM a).k)), vT, ve (nv (infM true)), vt] al (.eq (.eq (.eq (.eq (.tt (.nil)))))) ?_ ?_
 exact .f (fun k => k.fx 1 bb) <| .t (fun _ w hn k => ⟨_, v_load rfl (k.eq1 0 13 rfl) (l_one Tryz.isAgg3 ((av.new_ hn).cell 0)), rfl⟩) <| .t (fun _ w hn k => ⟨_, v_bin rfl (k.eq1 1 14 rfl) rfl (fun _ => rfl) (r_eql aa), rfl⟩) <| .o1 (ck rfl rfl rfl (fun _ w hn k => ⟨#[.bool true], args1 (k.eq1 2 15 rfl), fun _ => by kernel_rfl, inf_c true _ ⟩) fun _ => rfl) <| .off .nil
 refine aftI al a9 au fun dO dP dz bH bI bJ ay => ?_
 have bh := ay.fx 2 bd
 have di := ay.ge 3 16 rfl
 have bK := aw.new_ bJ
 obtain ⟨dQ, -, bi, bL, bM, dA⟩ := s_two (v0 := iv ((infM true).k)) (v1 := iv ((infM true).n)) Tryz.sizeOf23 rfl rfl rfl bK
 refine st_act rfl rfl fun dR bN => a_store' rfl bh di bi (bN _ _ trivial ?_)
 have bO := bI.trans bM (fun _ h b => by subst b; omega)
 refine st_nil (bG _ _ ?_)
 refine wp_ret (ret_k bH (v := nv (infM true)) (res_c rfl bh (l_two Tryz.isAgg23 Tryz.sizeOf23 bL)) ?_)
 refine ⟨?_, bO⟩
 show Ending.returned (nv (infM true)) = Ending.returned (nv (negM a))
 first | rfl | (simp only [negM, negA, infM, ac, aa, bsm] <;> rfl) | (exfalso; omega)
 have bg := oF aa
 have bP := hB bf aa
 refine wp_cond_false bP ?_
 refine wp_g0 [true, true] [] 28
   [ve (.bool (decide (((asM a).k) = 4))), ve (.bool (decide (((asM a).k) = 4)))] al (.eq (.eq (.nil))) ?_ ?_
 exact .t (fun _ w hn k => ⟨_, v_bin rfl (k.fx 6 be) rfl (fun _ => rfl) (r_eql rfl), rfl⟩) <| .a (fun k => k.eq1 0 12 rfl) .nil
 refine aftI al a9 au fun dS dT af az aA aB ag => ?_
 have bj := ag.fx 1 bb
 have bk := ag.fx 2 bd
 have dj := ag.fx 6 be
 have bl := ag.ge 1 10 rfl
 have aC := av.new_ aB
 have aD := aw.new_ aB
 refine st_nil (a8 _ _ ?_)
 rcases bc (decide (((asM a).k) = 4)) with ab | ab
 have bm := oT ab
 have bQ := hB bl ab
 refine wp_cond_true bQ ?_
 refine wp_seq_k fun dU bR => ?_
 refine wp_g0 [true, true, true, true, false] [(4, false)] 28
   [ve (pv q9), ve (iv ((asM a).k)), vF, ve (nv (infM false)), vt] af (.eq (.eq (.eq (.eq (.tt (.nil)))))) ?_ ?_
 exact .f (fun k => k.fx 1 bj) <| .t (fun _ w hn k => ⟨_, v_load rfl (k.eq1 0 13 rfl) (l_one Tryz.isAgg3 ((aC.new_ hn).cell 0)), rfl⟩) <| .t (fun _ w hn k => ⟨_, v_bin rfl (k.eq1 1 14 rfl) rfl (fun _ => rfl) (r_eql aa), rfl⟩) <| .o1 (ck rfl rfl rfl (fun _ w hn k => ⟨#[.bool false], args1 (k.eq1 2 15 rfl), fun _ => by kernel_rfl, inf_c false _ ⟩) fun _ => rfl) <| .off .nil
 refine aftI af az aA fun dV dW dB bS bT bU aE => ?_
 have bn := aE.fx 2 bk
 have dk := aE.ge 3 16 rfl
 have bV := aD.new_ bU
 obtain ⟨dX, -, bo, bW, bX, dC⟩ := s_two (v0 := iv ((infM false).k)) (v1 := iv ((infM false).n)) Tryz.sizeOf23 rfl rfl rfl bV
 refine st_act rfl rfl fun dY bY => a_store' rfl bn dk bo (bY _ _ trivial ?_)
 have bZ := bT.trans bX (fun _ h b => by subst b; omega)
 refine st_nil (bR _ _ ?_)
 refine wp_ret (ret_k bS (v := nv (infM false)) (res_c rfl bn (l_two Tryz.isAgg23 Tryz.sizeOf23 bW)) ?_)
 refine ⟨?_, bZ⟩
 show Ending.returned (nv (infM false)) = Ending.returned (nv (negM a))
 first | rfl | (simp only [negM, negA, infM, ac, aa, ab, bsm] <;> rfl) | (exfalso; omega)
 have bm := oF ab
 have b0 := hB bl ab
 refine wp_cond_false b0 ?_
 refine wp_seq_k fun dZ b1 => ?_
 refine wp_g0 [true, true] [] 28
   [ve (.bool (decide (((asM a).k) = 1))), ve (.bool (decide (((asM a).k) = 1)))] af (.eq (.eq (.nil))) ?_ ?_
 exact .t (fun _ w hn k => ⟨_, v_bin rfl (k.fx 6 dj) rfl (fun _ => rfl) (r_eql rfl), rfl⟩) <| .a (fun k => k.eq1 0 18 rfl) .nil
 refine aftI af az aA fun d0 d1 ah aF aG aH an => ?_
 have bp := an.fx 1 bj
 have bq := an.fx 2 bk
 have br := an.ge 1 17 rfl
 have aI := aC.new_ aH
 have aJ := aD.new_ aH
 refine st_nil (b1 _ _ ?_)
 rcases bc (decide (((asM a).k) = 1)) with ad | ad
 have bs := oT ad
 have b2 := hB br ad
 refine wp_cond_true b2 ?_
 refine wp_seq_k fun d2 b3 => ?_
 refine wp_g0 [true, false] [(1, false)] 28
   [ve (nv (Nm.mk 0 0)), vt] ah (.eq (.tt (.nil))) ?_ ?_
 exact .o1 (ck rfl rfl rfl (fun _ w hn k => ⟨#[iv 0], args1 rfl, fun _ => by kernel_rfl, whole_c 0 _ ⟩) fun _ => rfl) <| .off .nil
 refine aftI ah aF aG fun d3 d4 dD b4 b5 b6 aK => ?_
 have bt := aK.fx 2 bq
 have dl := aK.ge 0 19 rfl
 have b7 := aJ.new_ b6
 obtain ⟨d5, -, bu, b8, b9, dE⟩ := s_two (v0 := iv 0) (v1 := iv 0) Tryz.sizeOf23 rfl rfl rfl b7
 refine st_act rfl rfl fun d6 ca => a_store' rfl bt dl bu (ca _ _ trivial ?_)
 have cb := b5.trans b9 (fun _ h b => by subst b; omega)
 refine st_nil (b3 _ _ ?_)
 refine wp_ret (ret_k b4 (v := nv (Nm.mk 0 0)) (res_c rfl bt (l_two Tryz.isAgg23 Tryz.sizeOf23 b8)) ?_)
 refine ⟨?_, cb⟩
 show Ending.returned (nv (Nm.mk 0 0)) = Ending.returned (nv (negM a))
 first | rfl | (simp only [negM, negA, infM, ac, aa, ab, ad, bsm] <;> rfl) | (exfalso; omega)
 have bs := oF ad
 have cc := hB br ad
 refine wp_cond_false cc ?_
 refine wp_skip ?_
 refine cZ _ _ ?_
 refine wp_seq_k fun d7 cd => ?_
 refine wp_seq_k fun d8 ce => ?_
 refine wp_g0 [true, true, true] [] 28
   [ve (.pointer (some ⟨q9, 1, none⟩)), ve (iv ((asM a).n)), ve (.bool (decide (((asM a).n) = 0)))] ah (.eq (.eq (.eq (.nil)))) ?_ ?_
 exact .f (fun k => k.fx 1 bp) <| .t (fun _ w hn k => ⟨_, v_load rfl (k.eq1 0 20 rfl) (l_one Tryz.isAgg3 ((aI.new_ hn).cell 1)), rfl⟩) <| .t (fun _ w hn k => ⟨_, v_bin rfl (k.eq1 1 21 rfl) rfl (fun _ => rfl) (r_eql rfl), rfl⟩) .nil
 refine aftI ah aF aG fun d9 ea ai aL aM aN ao => ?_
 have dm := ao.fx 1 bp
 have bv := ao.fx 2 bq
 have bw := ao.ge 2 22 rfl
 have cf := aI.new_ aN
 have aO := aJ.new_ aN
 refine st_nil (ce _ _ ?_)
 rcases bc (decide (((asM a).n) = 0)) with ae | ae
 have bx := oT ae
 have ch := hB bw ae
 refine wp_cond_true ch ?_
 refine wp_seq_k fun eb ci => ?_
 refine wp_g0 [true, false] [(1, false)] 28
   [ve (nv (noughtM true)), vt] ai (.eq (.tt (.nil))) ?_ ?_
 exact .o1 (ck rfl rfl rfl (fun _ w hn k => ⟨#[.bool true], args1 rfl, fun _ => by kernel_rfl, nought_c true _ ⟩) fun _ => rfl) <| .off .nil
 refine aftI ai aL aM fun ec ed dF cj cl cm aP => ?_
 have bz := aP.fx 2 bv
 have dn := aP.ge 0 23 rfl
 have cn := aO.new_ cm
 obtain ⟨ee, -, bA, co, cp, dG⟩ := s_two (v0 := iv ((noughtM true).k)) (v1 := iv ((noughtM true).n)) Tryz.sizeOf23 rfl rfl rfl cn
 refine st_act rfl rfl fun ef cq => a_store' rfl bz dn bA (cq _ _ trivial ?_)
 have cr := cl.trans cp (fun _ h b => by subst b; omega)
 refine st_nil (ci _ _ ?_)
 refine wp_ret (ret_k cj (v := nv (noughtM true)) (res_c rfl bz (l_two Tryz.isAgg23 Tryz.sizeOf23 co)) ?_)
 refine ⟨?_, cr⟩
 show Ending.returned (nv (noughtM true)) = Ending.returned (nv (negM a))
 first | rfl | (simp only [negM, negA, infM, ac, aa, ab, ad, ae, bsm] <;> rfl) | (exfalso; omega)
 have bx := oF ae
 have ct := hB bw ae
 refine wp_cond_false ct ?_
 refine wp_skip ?_
 refine cd _ _ ?_
 refine wp_seq_k fun eg cu => ?_
 refine wp_g0 [true, true, true, true, false] [(4, false)] 28
   [ve (.pointer (some ⟨q9, 1, none⟩)), ve (iv ((asM a).n)), ve (iv (-((asM a).n))), ve (nv (Nm.mk 0 (-((asM a).n)))), vt] ai (.eq (.eq (.eq (.eq (.tt (.nil)))))) ?_ ?_
 exact .f (fun k => k.fx 1 dm) <| .t (fun _ w hn k => ⟨_, v_load rfl (k.eq1 0 24 rfl) (l_one Tryz.isAgg3 ((cf.new_ hn).cell 1)), rfl⟩) <| .t (fun _ w hn k => ⟨_, v_neg rfl (k.eq1 1 25 rfl) (by omega), rfl⟩) <| .o1 (ck rfl rfl rfl (fun _ w hn k => ⟨#[iv (-((asM a).n))], args1 (k.eq1 2 26 rfl), fun _ => by kernel_rfl, whole_c (-((asM a).n)) _ ⟩) fun _ => rfl) <| .off .nil
 refine aftI ai aL aM fun eh ei dH cv cw cx aQ => ?_
 have bB := aQ.fx 2 bv
 have dp := aQ.ge 3 27 rfl
 have cy := aO.new_ cx
 obtain ⟨ej, -, bC, cz, cA, dI⟩ := s_two (v0 := iv 0) (v1 := iv (-((asM a).n))) Tryz.sizeOf23 rfl rfl rfl cy
 refine st_act rfl rfl fun ek cB => a_store' rfl bB dp bC (cB _ _ trivial ?_)
 have cC := cw.trans cA (fun _ h b => by subst b; omega)
 refine st_nil (cu _ _ ?_)
 refine wp_ret (ret_k cv (v := nv (Nm.mk 0 (-((asM a).n)))) (res_c rfl bB (l_two Tryz.isAgg23 Tryz.sizeOf23 cz)) ?_)
 refine ⟨?_, cC⟩
 show Ending.returned (nv (Nm.mk 0 (-((asM a).n)))) = Ending.returned (nv (negM a))
 first | rfl | (simp only [negM, negA, infM, ac, aa, ab, ad, ae, bsm] <;> rfl) | (exfalso; omega)
def btrim_c_P (Am : Option Addr) (m : List Nat) (cm : Nat) (w : World) (en : Ending) (w' : World) : Prop := ∃ (Ar0 : Option Addr) (cr0 : Nat), en = .returned (sv Ar0 (canon (val m)) cr0) ∧ SRow w' .u32 Ar0 (canon (val m)) cr0 ∧ New w w'
theorem btrim_c (Am : Option Addr) (m : List Nat) (cm : Nat) (w : World) (hrm : SRow w .u32 Am m cm) (hl : Limbs m) : Calls Tryz.prog 156 #[sv Am m cm] w (btrim_c_P Am m cm w) := by
 refine enter_abs Tryz.func156 rfl fun a0 al a9 hp => ?_
 have al : a0.tmps.size = 21 := al
 have ba : New w w := Upd.refl _ _
 have hp0 : a0.eval (.tmp 0) = sv Am m cm := hp 0 _ rfl
 have hmx := hrm.max
 refine wp_seq_k fun K1 bb => ?_
 refine wp_g0 [true] [] 21
   [ve (sv none ([]) 0)] al (.eq (.nil)) ?_ ?_
 exact .t (fun _ w hn k => ⟨_, v_assign rfl rfl, rfl⟩) .nil
 refine aftI al a9 ba fun a2 w3 bd be aF bs bf => ?_
 have h8 := bf.fx 0 hp0
 refine st_nil (bb _ _ (wp_seq_k fun bt ao => ?_))
 refine wp_block ?_
 refine wp_loopX (fun (mm : Nat) (aa : Act) (ww : World) => ∃ (kk : Nat) (A1 : Option Addr) (c1 : Nat), mm = kk ∧ aa.tmps.size = 21 ∧ aa.defers = [] ∧ New w ww ∧ aa.eval (.tmp 0) = sv A1 (m.take kk) c1 ∧ SRow ww .u32 A1 (m.take kk) c1 ∧ (kk ≤ m.length) ∧ (val (m.take kk) = val m)) (fun mm => mm) ⟨_, ⟨m.length, Am, cm, rfl, bd, be, aF, (h8.trans (by rw [List.take_length])), (by rw [List.take_length]; exact hrm.new_ aF), (Nat.le_refl _), (by rw [List.take_length])⟩⟩ ?_
 rintro mm bu bv ⟨kk, A1, c1, hmm, ah, ap, aq, af, aj, hk, hv⟩
 refine wp_seq_k fun bw aI => ?_
 refine wp_seq_k fun bx ar => ?_
 have htl : (m.take kk).length = kk := by rw [List.length_take]; omega
 rcases bc (decide (((m.take kk).length : Int) ≤ 0)) with ad | ad
 have aD := oT ad
 refine wp_g0 (.replicate 12 true) [] 21
   [ve (sv A1 (m.take kk) c1), ve (iv ((m.take kk).length : Int)), vF, vF, vU, vU, vU, vU, vU, vU, vU, vF] ah (.eq (.eq (.eq (.eq (.eq (.eq (.eq (.eq (.eq (.eq (.eq (.eq (.nil))))))))))))) ?_ ?_
 exact .m (fun k => k.fx 0 af) <| .t (fun _ w hn k => ⟨_, v_lenR rfl elW (k.eq1 0 3 rfl), rfl⟩) <| .t (fun _ w hn k => ⟨_, v_bin rfl (k.eq1 1 4 rfl) rfl (fun _ => rfl) (r_gtrK ad), rfl⟩) <| .m (fun k => k.eq1 2 5 rfl) <| .s (fun k => k.eq1 3 6 rfl) <| .s (fun k => k.eq1 3 6 rfl) <| .s (fun k => k.eq1 3 6 rfl) <| .s (fun k => k.eq1 3 6 rfl) <| .s (fun k => k.eq1 3 6 rfl) <| .s (fun k => k.eq1 3 6 rfl) <| .s (fun k => k.eq1 3 6 rfl) <| .t (fun _ w hn k => ⟨_, v_pickF rfl (k.eq1 3 6 rfl) rfl, rfl⟩) .nil
 refine aftI ah ap aq fun bz bA au aJ aK aL av => ?_
 have bg := av.fx 0 af
 have bh := av.ge 11 14 rfl
 have aM := aj.new_ aL
 refine st_nil (ar _ _ ?_)
 refine wp_cond_false bh ?_
 refine wp_exit ?_
 refine ao _ _ ?_
 refine wp_seq_k fun bB aN => ?_
 refine wp_g0 [true, true] [] 21
   [ve (sv A1 (m.take kk) c1), ve (sv A1 (m.take kk) c1)] au (.eq (.eq (.nil))) ?_ ?_
 exact .m (fun k => k.fx 0 bg) <| .a (fun k => k.eq1 0 20 rfl) .nil
 refine aftI au aJ aK fun bC bD bp aO aP aQ aR => ?_
 have bi := aR.ge 1 2 rfl
 have aS := aM.new_ aQ
 refine st_nil (aN _ _ ?_)
 refine wp_ret (ret_k aO (v := sv A1 (m.take kk) c1) (res_t rfl bi _) ?_)
 have hsp : m.take kk = canon (val m) := trim_end' hl hk hv (Or.inl (by omega))
 exact ⟨A1, c1, by rw [← hsp], by rw [← hsp]; exact aS, aP⟩
 have aD := oF ad
 refine wp_g0 (.replicate 12 true) [] 21
   [ve (sv A1 (m.take kk) c1), ve (iv ((m.take kk).length : Int)), vT, vT, ve (sv A1 (m.take kk) c1), ve (sv A1 (m.take kk) c1), ve (iv ((m.take kk).length : Int)), ve (iv (((m.take kk).length : Int) - 1)),
    (EP (.int .u32 (((m.take kk).getD ((((m.take kk).length : Int) - 1 : Int).toNat) 0 : Nat) : Int))), ve (.int .u32 (((m.take kk).getD ((((m.take kk).length : Int) - 1 : Int).toNat) 0 : Nat) : Int)), ve (.bool (decide ((((m.take kk).getD ((((m.take kk).length : Int) - 1 : Int).toNat) 0 : Nat) : Int) = 0))), ve (.bool (decide ((((m.take kk).getD ((((m.take kk).length : Int) - 1 : Int).toNat) 0 : Nat) : Int) = 0)))] ah (.eq (.eq (.eq (.eq (.eq (.eq (.eq (.eq (.cons (fun _ _ _ n ⟨_, _, e, h⟩ => ⟨_, _, e, h.new_ n⟩) (.eq (.eq (.eq (.nil))))))))))))) ?_ ?_
 refine .m (fun k => k.fx 0 af) <| .t (fun _ w hn k => ⟨_, v_lenR rfl elW (k.eq1 0 3 rfl), rfl⟩) <| .t (fun _ w hn k => ⟨_, v_bin rfl (k.eq1 1 4 rfl) rfl (fun _ => rfl) (r_gtrK ad), rfl⟩) <| .m (fun k => k.eq1 2 5 rfl) <| .gm (fun k => k.eq1 3 6 rfl) (fun k => k.fx 0 af) <| .gm (fun k => k.eq1 3 6 rfl) (fun k => k.fx 0 af) <| .g (fun k => k.eq1 3 6 rfl) (fun _ w hn k => ⟨_, v_lenR rfl elW (k.eq1 5 8 rfl), rfl⟩) <| .g (fun k => k.eq1 3 6 rfl) (fun _ w hn k => ⟨_, v_bin rfl (k.eq1 6 9 rfl) rfl (fun _ => rfl) (r_sub rfl (by omega)), rfl⟩) ?_
 refine .o1 (tg rfl rfl rfl (fun _ _ k => k.eq1 3 6 rfl) fun _ w hn k => (by
       exact x_eaddr (k := .u32) rfl elW (k.eq1 4 7 rfl) (k.eq1 7 10 rfl) (aj.new_ hn) (by omega) fun b1 o2 hme => ⟨b1, o2, rfl, hme⟩)) ?_
 refine .o1 (tg rfl rfl rfl (fun _ _ k => k.eq1 3 6 rfl) fun _ w hn k => (by
       obtain ⟨b5, o6, e7, bj⟩ : (EP (.int .u32 (((m.take kk).getD ((((m.take kk).length : Int) - 1 : Int).toNat) 0 : Nat) : Int))) _ _ := k.dep 8 11 (by kernel_rfl) (by kernel_rfl)
       exact ⟨_, v_load rfl e7 (l_one Tryz.isAgg56 bj.1), rfl⟩)) ?_
 exact .g (fun k => k.eq1 3 6 rfl) (fun _ w hn k => ⟨_, v_bin rfl (k.eq1 9 12 rfl) rfl (fun _ => rfl) (r_eql rfl), rfl⟩) <| .t (fun _ w hn k => ⟨_, v_pickT rfl (k.eq1 3 6 rfl) (k.eq1 10 13 rfl), rfl⟩) .nil
 refine aftI ah ap aq fun bE bF ai aw ax aT ay => ?_
 have am := ay.fx 0 af
 have aG := ay.ge 11 14 rfl
 have ak := aj.new_ aT
 refine st_nil (ar _ _ ?_)
 rcases bc (decide ((((m.take kk).getD ((((m.take kk).length : Int) - 1 : Int).toNat) 0 : Nat) : Int) = 0)) with ab | ab
 have aE := oT ab
 have aU := hB aG ab
 refine wp_cond_true aU ?_
 refine wp_skip ?_
 refine aI _ _ ?_
 refine wp_block ?_
 refine wp_g0 [true, true, true, true, true, false] [(5, true)] 21
   [ve (sv A1 (m.take kk) c1), ve (sv A1 (m.take kk) c1), ve (iv ((m.take kk).length : Int)), ve (iv (((m.take kk).length : Int) - 1)),
    (RP .u32 ((m.take kk).take ((((m.take kk).length : Int) - 1 : Int).toNat))), vt] ai (.eq (.eq (.eq (.eq (.cons (fun _ _ _ n ⟨_, _, e, h⟩ => ⟨_, _, e, h.new_ n⟩) (.tt (.nil))))))) ?_ ?_
 refine .m (fun k => k.fx 0 am) <| .m (fun k => k.fx 0 am) <| .t (fun _ w hn k => ⟨_, v_lenR rfl elW (k.eq1 1 16 rfl), rfl⟩) <| .t (fun _ w hn k => ⟨_, v_bin rfl (k.eq1 2 17 rfl) rfl (fun _ => rfl) (r_sub rfl (by omega)), rfl⟩) ?_
 refine .o1 (tk rfl rfl fun _ w hn k => (by
       exact x_cutH (k := .u32) rfl elW (k.eq1 0 15 rfl) (k.eq1 3 18 rfl) (ak.new_ hn) (by omega) fun A9 bm hmr => ⟨A9, bm, rfl, hmr⟩)) ?_
 exact .off .nil
 refine aftI ai aw ax fun az bG aA aV aW aX aB => ?_
 have bH := aB.fx 0 am
 obtain ⟨ag, ac, an, aC⟩ : (RP .u32 ((m.take kk).take ((((m.take kk).length : Int) - 1 : Int).toNat))) _ _ := aB.got 4 19 rfl (by kernel_rfl)
 have an : az.eval (.tmp 19) = sv ag ((m.take kk).take ((((m.take kk).length : Int) - 1 : Int).toNat)) ac := an
 have bq := ak.new_ aX
 refine st_take rfl rfl (y_assign (v := sv ag ((m.take kk).take ((((m.take kk).length : Int) - 1 : Int).toNat)) ac) rfl an) rfl ?_
 obtain ⟨bn, ae⟩ : ∃ a', a' = az.put (some 0) (sv ag ((m.take kk).take ((((m.take kk).length : Int) - 1 : Int).toNat)) ac) := ⟨_, rfl⟩
 have aY := pz ae aA
 have aZ := pd ae aV
 have bI := pn ae an (by decide)
 have aH : bn.eval (.tmp 0) = sv ag ((m.take kk).take ((((m.take kk).length : Int) - 1 : Int).toNat)) ac := by rw [ae]; exact put_same _ _ _ (by rw [aA]; decide)
 show stepsTo _ _ _ _ _ (az.put (some 0) (sv ag ((m.take kk).take ((((m.take kk).length : Int) - 1 : Int).toNat)) ac)) _
 rw [← ae]
 refine st_nil ?_
 have he72 : ((m.take kk).take ((((m.take kk).length : Int) - 1 : Int).toNat)) = (m.take (kk - 1)) := by rw [List.take_take]; congr 1; rw [htl]; omega
 rw [he72] at aH
 rw [he72] at aC
 refine blk_n ?_
 refine then_n ?_
 exact ⟨_, ⟨kk - 1, ag, ac, rfl, aY, aZ, aW, aH, aC, (by omega), (trim_dn' (by omega) hk ab hv)⟩, (by omega)⟩
 have aE := oF ab
 have a1 := hB aG ab
 refine wp_cond_false a1 ?_
 refine wp_exit ?_
 refine ao _ _ ?_
 refine wp_seq_k fun bJ a3 => ?_
 refine wp_g0 [true, true] [] 21
   [ve (sv A1 (m.take kk) c1), ve (sv A1 (m.take kk) c1)] ai (.eq (.eq (.nil))) ?_ ?_
 exact .m (fun k => k.fx 0 am) <| .a (fun k => k.eq1 0 20 rfl) .nil
 refine aftI ai aw ax fun bK bL br a4 a5 a6 a7 => ?_
 have bo := a7.ge 1 2 rfl
 have a8 := ak.new_ a6
 refine st_nil (a3 _ _ ?_)
 refine wp_ret (ret_k a4 (v := sv A1 (m.take kk) c1) (res_t rfl bo _) ?_)
 have hsp : m.take kk = canon (val m) := trim_end' hl hk hv (Or.inr (trim_nz' (by omega) hk ab))
 exact ⟨A1, c1, by rw [← hsp], by rw [← hsp]; exact a8, a5⟩
theorem bsign_c (n : Int) (w : World) : Calls Tryz.prog 170 #[iv n] w (IsRet (iv (cmpI1 n)) w) := by
 refine enter_abs Tryz.func170 rfl fun a0 aa ag hp => ?_
 have aa : a0.tmps.size = 6 := aa
 have ah : New w w := Upd.refl _ _
 have hp0 : a0.eval (.tmp 0) = iv n := hp 0 _ rfl
 refine wp_seq_k fun K1 ai => ?_
 refine wp_g0 [true] [] 6
   [ve (iv 0)] aa (.eq (.nil)) ?_ ?_
 exact .t (fun _ w hn k => ⟨_, v_assign rfl rfl, rfl⟩) .nil
 refine aftI aa ag ah fun a2 w3 ab aj ak ap al => ?_
 have h8 := al.fx 0 hp0
 refine st_nil (ai _ _ (wp_seq_k fun aq ac => ?_))
 refine wp_g0 [true, true, true, true] [] 6
   [ve (iv n), ve (iv (max n (-1))), ve (iv (min (max n (-1)) 1)), ve (iv (min (max n (-1)) 1))] ab (.eq (.eq (.eq (.eq (.nil))))) ?_ ?_
 exact .m (fun k => k.fx 0 h8) <| .t (fun _ w hn k => ⟨_, v_max rfl (k.eq1 0 3 rfl) rfl, rfl⟩) <| .t (fun _ w hn k => ⟨_, v_min rfl (k.eq1 1 4 rfl) rfl, rfl⟩) <| .a (fun k => k.eq1 2 5 rfl) .nil
 refine aftI ab aj ak fun ar au an ad ae ao af => ?_
 have am := af.ge 3 2 rfl
 refine st_nil (ac _ _ ?_)
 refine wp_ret (ret_k ad (v := iv (min (max n (-1)) 1)) (res_t rfl am _) ?_)
 exact ⟨congrArg (fun z => Ending.returned (iv z)) (sign_eq n), ae⟩
theorem bneg_c (a : Bool) (Aa : Option Addr) (ma : List Nat) (ca : Nat) (w : World) (hra : SRow w .u32 Aa ma ca) : Calls Tryz.prog 87 #[.agg #[.bool a, sv Aa ma ca]] w (IsRet (.bool (mayB a ma && a)) w) := by
 refine enter_abs Tryz.func87 rfl fun a0 ad ap hp => ?_
 have ad : a0.tmps.size = 9 := ad
 have ag : New w w := Upd.refl _ _
 have hp0 : a0.eval (.tmp 0) = .agg #[.bool a, sv Aa ma ca] := hp 0 _ rfl
 refine wp_seq_k fun K1 aq => ?_
 refine wp_g [true, true] [] [] 9
   [IsNew w 26 [.bool a, sv Aa ma ca], vF]
   [0] (newsCons (fun v w h => IsNew.old h) newsNil) ad (.nw (.eq (.nil))) ?_ (fun i h => by cases h) ?_
 exact .o2 (step_allocN (cs := [.bool a, sv Aa ma ca]) (t := 26) rfl (noG rfl) (fun _ w hn k => v_box rfl (k.fx 0 hp0) (fun w => rfl)) (fun q _ hq hb => ⟨q, rfl, hq, hb⟩)) <| .t (fun _ w hn k => ⟨_, v_assign rfl rfl, rfl⟩) .nil
 refine aftI ad ap ag fun a2 w3 ae ah ab aB ar => ?_
 obtain ⟨q9, h8, ai, ac⟩ : IsNew _ _ _ _ _ := ar.got 0 1 rfl (by kernel_rfl)
 have aw := Nat.le_trans ag.size ai
 refine st_nil (aq _ _ (wp_seq_k fun aC af => ?_))
 rcases bc (mayB a ma) with aa | aa
 refine wp_g0 [true, true, true, true, true, true, true] [] 9
   [ve (.agg #[.bool a, sv Aa ma ca]), vT, vT, ve (pv q9), ve (.bool a), ve (.bool a), ve (.bool a)] ae (.eq (.eq (.eq (.eq (.eq (.eq (.eq (.nil)))))))) ?_ ?_
 exact .t (fun _ w hn k => ⟨_, v_load rfl (k.fx 1 h8) (l_two Tryz.isAgg26 Tryz.sizeOf26 (ac.new_ hn)), rfl⟩) <| .o1 (ck rfl rfl rfl (fun _ w hn k => ⟨#[.agg #[.bool a, sv Aa ma ca]], args1 (k.eq1 0 3 rfl), fun _ => by kernel_rfl, bmay_c a _ ma _ _ (hra.new_ (ab.transNew hn))⟩) fun _ => congrArg Value.bool aa) <| .m (fun k => k.eq1 1 4 rfl) <| .gf (fun k => k.eq1 2 5 rfl) (fun k => k.fx 1 h8) <| .g (fun k => k.eq1 2 5 rfl) (fun _ w hn k => ⟨_, v_load rfl (k.eq1 3 6 rfl) (l_one Tryz.isAgg4 ((ac.new_ hn).cell 0)), rfl⟩) <| .t (fun _ w hn k => ⟨_, v_pickT rfl (k.eq1 2 5 rfl) (k.eq1 4 7 rfl), rfl⟩) <| .a (fun k => k.eq1 5 8 rfl) .nil
 refine aftI ae ah ab fun aD aE ax aj ak ay al => ?_
 have au := al.ge 6 2 rfl
 refine st_nil (af _ _ ?_)
 refine wp_ret (ret_k aj (v := .bool a) (res_t rfl au _) ?_)
 refine ⟨?_, ak⟩
 show Ending.returned (.bool a) = Ending.returned (.bool (mayB a ma && a))
 first | rfl | (simp only [aa, bsm] <;> rfl) | (exfalso; omega)
 refine wp_g0 [true, true, true, true, true, true, true] [] 9
   [ve (.agg #[.bool a, sv Aa ma ca]), vF, vF, vU, vU, vF, vF] ae (.eq (.eq (.eq (.eq (.eq (.eq (.eq (.nil)))))))) ?_ ?_
 exact .t (fun _ w hn k => ⟨_, v_load rfl (k.fx 1 h8) (l_two Tryz.isAgg26 Tryz.sizeOf26 (ac.new_ hn)), rfl⟩) <| .o1 (ck rfl rfl rfl (fun _ w hn k => ⟨#[.agg #[.bool a, sv Aa ma ca]], args1 (k.eq1 0 3 rfl), fun _ => by kernel_rfl, bmay_c a _ ma _ _ (hra.new_ (ab.transNew hn))⟩) fun _ => congrArg Value.bool aa) <| .m (fun k => k.eq1 1 4 rfl) <| .s (fun k => k.eq1 2 5 rfl) <| .s (fun k => k.eq1 2 5 rfl) <| .t (fun _ w hn k => ⟨_, v_pickF rfl (k.eq1 2 5 rfl) rfl, rfl⟩) <| .a (fun k => k.eq1 5 8 rfl) .nil
 refine aftI ae ah ab fun aF aG az am an aA ao => ?_
 have av := ao.ge 6 2 rfl
 refine st_nil (af _ _ ?_)
 refine wp_ret (ret_k am (v := .bool false) (res_t rfl av _) ?_)
 refine ⟨?_, an⟩
 show Ending.returned (.bool false) = Ending.returned (.bool (mayB a ma && a))
 first | rfl | (simp only [aa, bsm] <;> rfl) | (exfalso; omega)
def clone32_c_P (Au : Option Addr) (u : List Nat) (cu : Nat) (w : World) (en : Ending) (w' : World) : Prop := ∃ (Ar0 : Option Addr) (cr0 : Nat), en = .returned (sv Ar0 u cr0) ∧ SOwn w' w.heap.size 56 .u32 Ar0 u cr0 ∧ New w w'
theorem clone32_c (Au : Option Addr) (u : List Nat) (cu : Nat) (w : World) (hru : SRow w .u32 Au u cu) (hs : u.length ≤ 1000000) : Calls Tryz.prog 139 #[sv Au u cu] w (clone32_c_P Au u cu w) := by
 refine enter_abs Tryz.func139 rfl fun a0 ai aR hp => ?_
 have ai : a0.tmps.size = 8 := ai
 have aS : New w w := Upd.refl _ _
 have hp0 : a0.eval (.tmp 0) = sv Au u cu := hp 0 _ rfl
 refine wp_seq_k fun K1 aT => ?_
 refine wp_g0 [true] [] 8
   [ve (sv none ([]) 0)] ai (.eq (.nil)) ?_ ?_
 exact .t (fun _ w hn k => ⟨_, v_assign rfl rfl, rfl⟩) .nil
 refine aftI ai aR aS fun a2 w3 au aU aV ba aW => ?_
 have h8 := aW.fx 0 hp0
 refine st_nil (aT _ _ (wp_seq_k fun bb aA => ?_))
 refine wp_seq_k fun bd aB => ?_
 refine wp_g0 [true, true] [] 8
   [ve (sv Au u cu), ve (.bool Au.isNone)] au (.eq (.eq (.nil))) ?_ ?_
 exact .m (fun k => k.fx 0 h8) <| .t (fun _ w hn k => ⟨_, v_bin rfl (k.eq1 0 3 rfl) rfl (fun _ => rfl) (fun W => Lib.run_eql_slice_nil W _ _ _ _ _ _ _ Tryz.underlying24), rfl⟩) .nil
 refine aftI au aU aV fun be av ae aj ag a5 ak => ?_
 have aX := ak.fx 0 h8
 have aw := ak.ge 1 4 rfl
 refine st_nil (aB _ _ ?_)
 rcases bc (Au.isNone) with af | af
 have aC := hB aw af
 refine wp_cond_true aC ?_
 refine wp_seq_k fun bf aD => ?_
 refine wp_g0 [true] [] 8
   [ve (sv none ([]) 0)] ae (.eq (.nil)) ?_ ?_
 exact .t (fun _ w hn k => ⟨_, v_assign rfl rfl, rfl⟩) .nil
 refine aftI ae aj ag fun bg bh a6 aE aF a7 aG => ?_
 have aY := aG.ge 0 2 rfl
 refine st_nil (aD _ _ ?_)
 refine wp_ret (ret_k aE (v := sv none ([]) 0) (res_t rfl aY _) ?_)
 have ax := row_none hru af
 exact ⟨none, 0, by rw [ax], by rw [ax]; exact SOwn.nil _ _ _ _, aF⟩
 have aH := hB aw af
 refine wp_cond_false aH ?_
 refine wp_skip ?_
 refine aA _ _ ?_
 refine wp_seq_k fun bi aI => ?_
 refine wp_g0 [true, true, false, false] [(2, false), (3, true)] 8
   [(OP av.heap.size 56 .u32 ([])), ve (sv Au u cu), vt, vt] ae (.cons (fun _ _ _ n ⟨_, _, e, h⟩ => ⟨_, _, e, h.new_ n⟩) (.eq (.tt (.tt (.nil))))) ?_ ?_
 refine .o1 (tkA rfl (noG rfl) fun _ w hn k => (by
       exact x_bslice0 .u32 rfl parts0 elW fun A1 c2 W' hmo => ⟨A1, c2, rfl, (hmo.more hn.size)⟩)) ?_
 exact .m (fun k => k.fx 0 aX) <| .off <| .off .nil
 refine aftI ae aj ag fun al bj am aJ ah a8 an => ?_
 obtain ⟨aZ, aK, ao, aL⟩ : (OP av.heap.size 56 .u32 ([])) _ _ := an.got 0 5 rfl (by kernel_rfl)
 have ao : al.eval (.tmp 5) = sv aZ ([]) aK := ao
 have ay := an.ge 1 6 rfl
 have ap := aL.more ag.size
 have hw55 := ah.size
 refine st_act rfl rfl fun bk aM => a_append (k := .u32) (b := w.heap.size) rfl elW ao ap ay (hru.new_ ah) (by first | omega | (simp only [List.length_nil, List.length_cons, List.length_append, List.length_take, List.length_drop, List.length_replicate, List.length_set]; omega)) (by first | omega | (simp only [List.length_nil, List.length_cons, List.length_append, List.length_take, List.length_drop, List.length_replicate, List.length_set]; omega)) hw55 fun ab aa bl aN hg51 => aM _ _ trivial ?_
 have aO := ah.ownGrown ap hg51
 obtain ⟨aq, ad⟩ : ∃ a', a' = al.put (some 7) (sv ab ([] ++ u) aa) := ⟨_, rfl⟩
 have ar := pz ad am
 have aP := pd ad aJ
 have a1 := pn ad ay (by decide)
 have az : aq.eval (.tmp 7) = sv ab ([] ++ u) aa := by rw [ad]; exact put_same _ _ _ (by rw [am]; decide)
 show stepsTo _ _ _ _ _ (al.put (some 7) (sv ab ([] ++ u) aa)) _
 rw [← ad]
 refine st_take rfl rfl (y_assign (v := sv ab ([] ++ u) aa) rfl az) rfl ?_
 obtain ⟨a3, ac⟩ : ∃ a', a' = aq.put (some 2) (sv ab ([] ++ u) aa) := ⟨_, rfl⟩
 have a9 := pz ac ar
 have aQ := pd ac aP
 have bm := pn ac a1 (by decide)
 have bn := pn ac az (by decide)
 have a4 : a3.eval (.tmp 2) = sv ab ([] ++ u) aa := by rw [ac]; exact put_same _ _ _ (by rw [ar]; decide)
 show stepsTo _ _ _ _ _ (aq.put (some 2) (sv ab ([] ++ u) aa)) _
 rw [← ac]
 refine st_nil (aI _ _ ?_)
 refine wp_ret (ret_k aQ (v := sv ab ([] ++ u) aa) (res_t rfl a4 _) ?_)
 exact ⟨ab, aa, by rw [List.nil_append], by have h := aN; rw [List.nil_append] at h; exact h, aO⟩
def clone16_c_P (Au : Option Addr) (u : List Nat) (cu : Nat) (w : World) (en : Ending) (w' : World) : Prop := ∃ (Ar0 : Option Addr) (cr0 : Nat), en = .returned (sv Ar0 u cr0) ∧ SOwn w' w.heap.size 74 .u16 Ar0 u cr0 ∧ New w w'
theorem clone16_c (Au : Option Addr) (u : List Nat) (cu : Nat) (w : World) (hru : SRow w .u16 Au u cu) (hs : u.length ≤ 1000000) : Calls Tryz.prog 51 #[sv Au u cu] w (clone16_c_P Au u cu w) := by
 refine enter_abs Tryz.func51 rfl fun a0 ai aR hp => ?_
 have ai : a0.tmps.size = 8 := ai
 have aS : New w w := Upd.refl _ _
 have hp0 : a0.eval (.tmp 0) = sv Au u cu := hp 0 _ rfl
 refine wp_seq_k fun K1 aT => ?_
 refine wp_g0 [true] [] 8
   [ve (sv none ([]) 0)] ai (.eq (.nil)) ?_ ?_
 exact .t (fun _ w hn k => ⟨_, v_assign rfl rfl, rfl⟩) .nil
 refine aftI ai aR aS fun a2 w3 au aU aV ba aW => ?_
 have h8 := aW.fx 0 hp0
 refine st_nil (aT _ _ (wp_seq_k fun bb aA => ?_))
 refine wp_seq_k fun bd aB => ?_
 refine wp_g0 [true, true] [] 8
   [ve (sv Au u cu), ve (.bool Au.isNone)] au (.eq (.eq (.nil))) ?_ ?_
 exact .m (fun k => k.fx 0 h8) <| .t (fun _ w hn k => ⟨_, v_bin rfl (k.eq1 0 3 rfl) rfl (fun _ => rfl) (fun W => Lib.run_eql_slice_nil W _ _ _ _ _ _ _ Tryz.underlying27), rfl⟩) .nil
 refine aftI au aU aV fun be av ae aj ag a5 ak => ?_
 have aX := ak.fx 0 h8
 have aw := ak.ge 1 4 rfl
 refine st_nil (aB _ _ ?_)
 rcases bc (Au.isNone) with af | af
 have aC := hB aw af
 refine wp_cond_true aC ?_
 refine wp_seq_k fun bf aD => ?_
 refine wp_g0 [true] [] 8
   [ve (sv none ([]) 0)] ae (.eq (.nil)) ?_ ?_
 exact .t (fun _ w hn k => ⟨_, v_assign rfl rfl, rfl⟩) .nil
 refine aftI ae aj ag fun bg bh a6 aE aF a7 aG => ?_
 have aY := aG.ge 0 2 rfl
 refine st_nil (aD _ _ ?_)
 refine wp_ret (ret_k aE (v := sv none ([]) 0) (res_t rfl aY _) ?_)
 have ax := row_none hru af
 exact ⟨none, 0, by rw [ax], by rw [ax]; exact SOwn.nil _ _ _ _, aF⟩
 have aH := hB aw af
 refine wp_cond_false aH ?_
 refine wp_skip ?_
 refine aA _ _ ?_
 refine wp_seq_k fun bi aI => ?_
 refine wp_g0 [true, true, false, false] [(2, false), (3, true)] 8
   [(OP av.heap.size 74 .u16 ([])), ve (sv Au u cu), vt, vt] ae (.cons (fun _ _ _ n ⟨_, _, e, h⟩ => ⟨_, _, e, h.new_ n⟩) (.eq (.tt (.tt (.nil))))) ?_ ?_
 refine .o1 (tkA rfl (noG rfl) fun _ w hn k => (by
       exact x_bslice0 .u16 rfl parts0 elU fun A1 c2 W' hmo => ⟨A1, c2, rfl, (hmo.more hn.size)⟩)) ?_
 exact .m (fun k => k.fx 0 aX) <| .off <| .off .nil
 refine aftI ae aj ag fun al bj am aJ ah a8 an => ?_
 obtain ⟨aZ, aK, ao, aL⟩ : (OP av.heap.size 74 .u16 ([])) _ _ := an.got 0 5 rfl (by kernel_rfl)
 have ao : al.eval (.tmp 5) = sv aZ ([]) aK := ao
 have ay := an.ge 1 6 rfl
 have ap := aL.more ag.size
 have hw55 := ah.size
 refine st_act rfl rfl fun bk aM => a_append (k := .u16) (b := w.heap.size) rfl elU ao ap ay (hru.new_ ah) (by first | omega | (simp only [List.length_nil, List.length_cons, List.length_append, List.length_take, List.length_drop, List.length_replicate, List.length_set]; omega)) (by first | omega | (simp only [List.length_nil, List.length_cons, List.length_append, List.length_take, List.length_drop, List.length_replicate, List.length_set]; omega)) hw55 fun ab aa bl aN hg51 => aM _ _ trivial ?_
 have aO := ah.ownGrown ap hg51
 obtain ⟨aq, ad⟩ : ∃ a', a' = al.put (some 7) (sv ab ([] ++ u) aa) := ⟨_, rfl⟩
 have ar := pz ad am
 have aP := pd ad aJ
 have a1 := pn ad ay (by decide)
 have az : aq.eval (.tmp 7) = sv ab ([] ++ u) aa := by rw [ad]; exact put_same _ _ _ (by rw [am]; decide)
 show stepsTo _ _ _ _ _ (al.put (some 7) (sv ab ([] ++ u) aa)) _
 rw [← ad]
 refine st_take rfl rfl (y_assign (v := sv ab ([] ++ u) aa) rfl az) rfl ?_
 obtain ⟨a3, ac⟩ : ∃ a', a' = aq.put (some 2) (sv ab ([] ++ u) aa) := ⟨_, rfl⟩
 have a9 := pz ac ar
 have aQ := pd ac aP
 have bm := pn ac a1 (by decide)
 have bn := pn ac az (by decide)
 have a4 : a3.eval (.tmp 2) = sv ab ([] ++ u) aa := by rw [ac]; exact put_same _ _ _ (by rw [ar]; decide)
 show stepsTo _ _ _ _ _ (aq.put (some 2) (sv ab ([] ++ u) aa)) _
 rw [← ac]
 refine st_nil (aI _ _ ?_)
 refine wp_ret (ret_k aQ (v := sv ab ([] ++ u) aa) (res_t rfl a4 _) ?_)
 exact ⟨ab, aa, by rw [List.nil_append], by have h := aN; rw [List.nil_append] at h; exact h, aO⟩
def bmag_c_P (a : Bool) (Aa : Option Addr) (ma : List Nat) (ca : Nat) (w : World) (en : Ending) (w' : World) : Prop := ∃ (Ar0 : Option Addr) (cr0 : Nat), en = .returned (sv Ar0 (canon (goodI a ma).natAbs) cr0) ∧ SOwn w' w.heap.size 56 .u32 Ar0 (canon (goodI a ma).natAbs) cr0 ∧ New w w'
theorem bmag_c (a : Bool) (Aa : Option Addr) (ma : List Nat) (ca : Nat) (w : World) (hra : SRow w .u32 Aa ma ca) (ha : Limbs ma) (hs : ma.length ≤ 1000000) : Calls Tryz.prog 86 #[.agg #[.bool a, sv Aa ma ca]] w (bmag_c_P a Aa ma ca w) := by
 refine enter_abs Tryz.func86 rfl fun a0 af aL hp => ?_
 have af : a0.tmps.size = 9 := af
 have ap : New w w := Upd.refl _ _
 have hp0 : a0.eval (.tmp 0) = .agg #[.bool a, sv Aa ma ca] := hp 0 _ rfl
 refine wp_seq_k fun K1 aM => ?_
 refine wp_g [true, true] [] [] 9
   [IsNew w 26 [.bool a, sv Aa ma ca], ve (sv none ([]) 0)]
   [0] (newsCons (fun v w h => IsNew.old h) newsNil) af (.nw (.eq (.nil))) ?_ (fun i h => by cases h) ?_
 exact .o2 (step_allocN (cs := [.bool a, sv Aa ma ca]) (t := 26) rfl (noG rfl) (fun _ w hn k => v_box rfl (k.fx 0 hp0) (fun w => rfl)) (fun q _ hq hb => ⟨q, rfl, hq, hb⟩)) <| .t (fun _ w hn k => ⟨_, v_assign rfl rfl, rfl⟩) .nil
 refine aftI af aL ap fun a2 w3 ag aq ab a3 aN => ?_
 obtain ⟨q9, h8, ar, ac⟩ : IsNew _ _ _ _ _ := aN.got 0 1 rfl (by kernel_rfl)
 have aV := Nat.le_trans ap.size ar
 refine st_nil (aM _ _ (wp_seq_k fun a4 au => ?_))
 refine wp_seq_k fun a5 aj => ?_
 rcases bc (mayB a ma) with aa | aa
 refine wp_g0 [true, true, true] [] 9
   [ve (.agg #[.bool a, sv Aa ma ca]), vT, vF] ag (.eq (.eq (.eq (.nil)))) ?_ ?_
 exact .t (fun _ w hn k => ⟨_, v_load rfl (k.fx 1 h8) (l_two Tryz.isAgg26 Tryz.sizeOf26 (ac.new_ hn)), rfl⟩) <| .o1 (ck rfl rfl rfl (fun _ w hn k => ⟨#[.agg #[.bool a, sv Aa ma ca]], args1 (k.eq1 0 3 rfl), fun _ => by kernel_rfl, bmay_c a _ ma _ _ (hra.new_ (ab.transNew hn))⟩) fun _ => congrArg Value.bool aa) <| .t (fun _ w hn k => ⟨_, v_not rfl (k.eq1 1 4 rfl), rfl⟩) .nil
 refine aftI ag aq ab fun a6 ah ak av ae aw al => ?_
 have aO := al.fx 1 h8
 have aP := al.ge 2 5 rfl
 have ax := ac.new_ aw
 refine st_nil (aj _ _ ?_)
 refine wp_cond_false aP ?_
 refine wp_skip ?_
 refine au _ _ ?_
 refine wp_seq_k fun a7 ay => ?_
 refine wp_g0 [true, true, true, true] [] 9
   [ve (.pointer (some ⟨q9, 1, none⟩)), ve (sv Aa ma ca),
    (OP ah.heap.size 56 .u32 ma),
    (OP ah.heap.size 56 .u32 ma)] ak (.eq (.eq (.cons (fun _ _ _ n ⟨_, _, e, h⟩ => ⟨_, _, e, h.new_ n⟩) (.cons (fun v W W' hn ⟨A9, aQ, he, h0⟩ => ⟨A9, aQ, he, h0.new_ hn⟩) (.nil))))) ?_ ?_
 refine .f (fun k => k.fx 1 aO) <| .t (fun _ w hn k => ⟨_, v_load rfl (k.eq1 0 6 rfl) (l_one Tryz.isAgg24 ((ax.new_ hn).cell 1)), rfl⟩) ?_
 refine .o1 (tkC rfl (noG rfl) rfl fun _ w hn k => (by
       refine ⟨#[sv Aa ma ca], _, args1 (k.eq1 1 7 rfl), fun w => by kernel_rfl, clone32_c _ ma _ _ (hra.new_ (ae.transNew hn)) (by first | omega | (simp only [List.length_nil, List.length_take, List.length_drop]; omega) | (simp only [List.length_cons, List.length_nil]; omega)), ?_⟩
       rintro e w' ⟨A1, c2, rfl, hmo0, hm⟩
       exact ⟨_, rfl, hm, ⟨A1, c2, rfl, (hmo0.more hn.size)⟩⟩)) ?_
 refine .o1 (tk rfl rfl fun _ w hn k => (by
       obtain ⟨A5, c6, e7, aR⟩ : (OP ah.heap.size 56 .u32 ma) _ _ := k.dep 2 8 (by kernel_rfl) (by kernel_rfl)
       exact ⟨_, v_assign rfl e7, ⟨A5, c6, rfl, aR⟩⟩)) ?_
 exact .nil
 refine aftI ak av ae fun aS a8 aW az aA aX aB => ?_
 obtain ⟨ai, ad, am, aC⟩ : (OP ah.heap.size 56 .u32 ma) _ _ := aB.got 3 2 rfl (by kernel_rfl)
 have am : aS.eval (.tmp 2) = sv ai ma ad := am
 have aD := aC.more ae.size
 refine st_nil (ay _ _ ?_)
 refine wp_ret (ret_k az (v := sv ai ma ad) (res_t rfl am _) ?_)
 have hg := canon_good (b := a) ha
 rw [aa] at hg
 exact ⟨ai, ad, congrArg (fun l => Ending.returned (sv ai l ad)) hg.symm, by rw [hg]; exact aD, aA⟩
 refine wp_g0 [true, true, true] [] 9
   [ve (.agg #[.bool a, sv Aa ma ca]), vF, vT] ag (.eq (.eq (.eq (.nil)))) ?_ ?_
 exact .t (fun _ w hn k => ⟨_, v_load rfl (k.fx 1 h8) (l_two Tryz.isAgg26 Tryz.sizeOf26 (ac.new_ hn)), rfl⟩) <| .o1 (ck rfl rfl rfl (fun _ w hn k => ⟨#[.agg #[.bool a, sv Aa ma ca]], args1 (k.eq1 0 3 rfl), fun _ => by kernel_rfl, bmay_c a _ ma _ _ (hra.new_ (ab.transNew hn))⟩) fun _ => congrArg Value.bool aa) <| .t (fun _ w hn k => ⟨_, v_not rfl (k.eq1 1 4 rfl), rfl⟩) .nil
 refine aftI ag aq ab fun a9 ba an aE aF aG ao => ?_
 have bb := ao.fx 1 h8
 have aT := ao.ge 2 5 rfl
 have aY := ac.new_ aG
 refine st_nil (aj _ _ ?_)
 refine wp_cond_true aT ?_
 refine wp_seq_k fun bd aH => ?_
 refine wp_g0 [true] [] 9
   [ve (sv none ([]) 0)] an (.eq (.nil)) ?_ ?_
 exact .t (fun _ w hn k => ⟨_, v_assign rfl rfl, rfl⟩) .nil
 refine aftI an aE aF fun be bf aZ aI aJ a1 aK => ?_
 have aU := aK.ge 0 2 rfl
 refine st_nil (aH _ _ ?_)
 refine wp_ret (ret_k aI (v := sv none ([]) 0) (res_t rfl aU _) ?_)
 have hg := canon_good (b := a) ha
 rw [aa] at hg
 exact ⟨none, 0, congrArg (fun l => Ending.returned (sv none l 0)) hg.symm, by rw [hg]; exact (SOwn.nil _ _ _ _), aJ⟩
def bmade_c_P (Am : Option Addr) (m : List Nat) (cm : Nat) (d : Bool) (w : World) (en : Ending) (w' : World) : Prop := ∃ (Ar0 : Option Addr) (cr0 : Nat), en = .returned (.agg #[.bool (decide (sgn d (val m) < 0)), sv Ar0 (canon (sgn d (val m)).natAbs) cr0]) ∧ SRow w' .u32 Ar0 (canon (sgn d (val m)).natAbs) cr0 ∧ New w w'
theorem bmade_c (Am : Option Addr) (m : List Nat) (cm : Nat) (d : Bool) (w : World) (hrm : SRow w .u32 Am m cm) (hl : Limbs m) : Calls Tryz.prog 85 #[sv Am m cm, .bool d] w (bmade_c_P Am m cm d w) := by
 refine enter_abs Tryz.func85 rfl fun a0 ah bh hp => ?_
 have ah : a0.tmps.size = 14 := ah
 have aC : New w w := Upd.refl _ _
 have hp0 : a0.eval (.tmp 0) = sv Am m cm := hp 0 _ rfl
 have hp1 : a0.eval (.tmp 1) = .bool d := hp 1 _ rfl
 refine wp_seq_k fun K1 bi => ?_
 refine wp_g [true] [] [] 14
   [IsNew w 26 [.bool false, sv none ([]) 0]]
   [0] (newsCons (fun v w h => IsNew.old h) newsNil) ah (.nw (.nil)) ?_ (fun i h => by cases h) ?_
 exact .o2 (step_allocN (cs := [.bool false, sv none ([]) 0]) (t := 26) rfl (noG rfl) (fun _ w hn k => rfl) (fun q _ hq hb => ⟨q, rfl, hq, hb⟩)) .nil
 refine aftI ah bh aC fun a2 w3 aD bj aj bA ak => ?_
 have h8 := ak.fx 0 hp0
 have h9 := ak.fx 1 hp1
 obtain ⟨bB, bk, aJ, aK⟩ : IsNew _ _ _ _ _ := ak.got 0 4 rfl (by kernel_rfl)
 have bu := Nat.le_trans aC.size aJ
 refine st_nil (bi _ _ (wp_seq_k fun bC aL => ?_))
 refine wp_g0 [true, true, false] [(2, true)] 14
   [ve (sv Am m cm),
    (RP .u32 (canon (val m))), vt] aD (.eq (.cons (fun _ _ _ n ⟨_, _, e, h⟩ => ⟨_, _, e, h.new_ n⟩) (.tt (.nil)))) ?_ ?_
 refine .m (fun k => k.fx 0 h8) ?_
 refine .o1 (tkC rfl (noG rfl) rfl fun _ w hn k => (by
       refine ⟨#[sv Am m cm], _, args1 (k.eq1 0 5 rfl), fun w => by kernel_rfl, btrim_c _ m _ _ (hrm.new_ (aj.transNew hn)) hl, ?_⟩
       rintro e w' ⟨A1, c2, rfl, hmo0, hm⟩
       exact ⟨_, rfl, hm, ⟨A1, c2, rfl, hmo0⟩⟩)) ?_
 exact .off .nil
 refine aftI aD bj aj fun al bD am aM aN aO ae => ?_
 have bE := ae.fx 0 h8
 have bl := ae.fx 1 h9
 have bm := ae.fx 4 bk
 obtain ⟨ab, aa, ai, aP⟩ : (RP .u32 (canon (val m))) _ _ := ae.got 1 6 rfl (by kernel_rfl)
 have ai : al.eval (.tmp 6) = sv ab (canon (val m)) aa := ai
 have aQ := aK.new_ aO
 refine st_take rfl rfl (y_assign (v := sv ab (canon (val m)) aa) rfl ai) rfl ?_
 obtain ⟨bn, ad⟩ : ∃ a', a' = al.put (some 0) (sv ab (canon (val m)) aa) := ⟨_, rfl⟩
 have an := pz ad am
 have aR := pd ad aM
 have bo := pn ad bl (by decide)
 have bp := pn ad bm (by decide)
 have bF := pn ad ai (by decide)
 have aE : bn.eval (.tmp 0) = sv ab (canon (val m)) aa := by rw [ad]; exact put_same _ _ _ (by rw [am]; decide)
 show stepsTo _ _ _ _ _ (al.put (some 0) (sv ab (canon (val m)) aa)) _
 rw [← ad]
 refine st_nil (aL _ _ (wp_seq_k fun bG aS => ?_))
 refine wp_seq_k fun bH aT => ?_
 refine wp_g0 [true, true, true] [] 14
   [ve (sv ab (canon (val m)) aa), ve (iv ((canon (val m)).length : Int)), ve (.bool (decide (((canon (val m)).length : Int) = 0)))] an (.eq (.eq (.eq (.nil)))) ?_ ?_
 exact .m (fun k => k.fx 0 aE) <| .t (fun _ w hn k => ⟨_, v_lenR rfl elW (k.eq1 0 7 rfl), rfl⟩) <| .t (fun _ w hn k => ⟨_, v_bin rfl (k.eq1 1 8 rfl) rfl (fun _ => rfl) (r_eql rfl), rfl⟩) .nil
 refine aftI an aR aN fun bI bJ af ao ap aq ag => ?_
 have bq := ag.fx 1 bo
 have aF := ag.fx 4 bp
 have br := ag.fx 0 aE
 have aG := ag.ge 2 9 rfl
 have ar := aQ.new_ aq
 have aU := aP.new_ aq
 refine st_nil (aT _ _ ?_)
 rcases bc (decide (((canon (val m)).length : Int) = 0)) with ac | ac
 have az := oT ac
 have aV := hB aG ac
 refine wp_cond_true aV ?_
 refine wp_seq_k fun bK aW => ?_
 refine wp_g0 [true, false] [(1, false)] 14
   [ve (.agg #[.bool false, sv none ([]) 0]), vt] af (.eq (.tt (.nil))) ?_ ?_
 exact .t (fun _ w hn k => ⟨_, v_build (ps := []) rfl parts0 (by kernel_rfl), rfl⟩) <| .off .nil
 refine aftI af ao ap fun bL bM bv aX aY aZ au => ?_
 have aH := au.fx 4 aF
 have bs := au.ge 0 10 rfl
 have a1 := ar.new_ aZ
 obtain ⟨bN, -, aA, a3, a4, bw⟩ := s_two (v0 := .bool false) (v1 := sv none ([]) 0) Tryz.sizeOf26 rfl rfl rfl a1
 refine st_act rfl rfl fun bO a5 => a_store' rfl aH bs aA (a5 _ _ trivial ?_)
 have a6 := aY.trans a4 (fun _ h b => by subst b; omega)
 refine st_nil (aW _ _ ?_)
 refine wp_ret (ret_k aX (v := .agg #[.bool false, sv none ([]) 0]) (res_c rfl aH (l_two Tryz.isAgg26 Tryz.sizeOf26 a3)) ?_)
 have hz1 : (decide (sgn d (val m) < 0)) = false := by rw [made_zero ac]; rfl
 have hz2 : canon (sgn d (val m)).natAbs = [] := by rw [made_zero ac]; exact canon_zero
 exact ⟨none, 0, by rw [hz1, hz2], by rw [hz2]; exact (SRow.nil _ _), a6⟩
 have az := oF ac
 have a7 := hB aG ac
 refine wp_cond_false a7 ?_
 refine wp_skip ?_
 refine aS _ _ ?_
 refine wp_seq_k fun bP a8 => ?_
 refine wp_g0 [true, true, true, false] [(3, false)] 14
   [ve (.bool d), ve (sv ab (canon (val m)) aa), ve (.agg #[.bool d, sv ab (canon (val m)) aa]), vt] af (.eq (.eq (.eq (.tt (.nil))))) ?_ ?_
 exact .m (fun k => k.fx 1 bq) <| .m (fun k => k.fx 0 br) <| .t (fun _ w hn k => ⟨_, v_build (ps := [(0, .bool d), (1, sv ab (canon (val m)) aa)]) rfl (parts2 (k.eq1 0 11 rfl) (k.eq1 1 12 rfl)) (by kernel_rfl), rfl⟩) <| .off .nil
 refine aftI af ao ap fun bQ bR bx a9 ba av aw => ?_
 have aI := aw.fx 4 aF
 have bt := aw.ge 2 13 rfl
 have ax := ar.new_ av
 have bb := aU.new_ av
 obtain ⟨bS, -, aB, bd, ay, bz⟩ := s_two (v0 := .bool d) (v1 := sv ab (canon (val m)) aa) Tryz.sizeOf26 rfl rfl rfl ax
 refine st_act rfl rfl fun bT be => a_store' rfl aI bt aB (be _ _ trivial ?_)
 have bf := bb.far ax ay (by first | rfl | decide | simp [notK])
 have bg := ba.trans ay (fun _ h b => by subst b; omega)
 refine st_nil (a8 _ _ ?_)
 refine wp_ret (ret_k a9 (v := .agg #[.bool d, sv ab (canon (val m)) aa]) (res_c rfl aI (l_two Tryz.isAgg26 Tryz.sizeOf26 bd)) ?_)
 have hz1 : (decide (sgn d (val m) < 0)) = d := made_nz ac
 have hz2 : canon (sgn d (val m)).natAbs = (canon (val m)) := by rw [natAbs_sgn]
 exact ⟨ab, aa, by rw [hz1, hz2], by rw [hz2]; exact bf, bg⟩
theorem bcmp_c (Aa : Option Addr) (a : List Nat) (ca : Nat) (Ab : Option Addr) (b : List Nat) (cb : Nat) (w : World) (hra : SRow w .u32 Aa a ca) (hrb : SRow w .u32 Ab b cb) (ha : Limbs a) (hb : Limbs b) (hta : Trim a) (htb : Trim b) : Calls Tryz.prog 120 #[sv Aa a ca, sv Ab b cb] w (IsRet (iv (cmpI (val a) (val b))) w) := by
 refine enter_abs Tryz.func120 rfl fun a0 au bS hp => ?_
 have au : a0.tmps.size = 45 := au
 have bT : New w w := Upd.refl _ _
 have hp0 : a0.eval (.tmp 0) = sv Aa a ca := hp 0 _ rfl
 have hp1 : a0.eval (.tmp 1) = sv Ab b cb := hp 1 _ rfl
 have hmx := hra.max
 have hmy := hrb.max
 refine wp_seq_k fun K1 bU => ?_
 refine wp_g0 [true] [] 45
   [ve (iv 0)] au (.eq (.nil)) ?_ ?_
 exact .t (fun _ w hn k => ⟨_, v_assign rfl rfl, rfl⟩) .nil
 refine aftI au bS bT fun a2 w3 av a7 aB c4 a8 => ?_
 have h8 := a8.fx 0 hp0
 have h9 := a8.fx 1 hp1
 refine st_nil (bU _ _ (wp_seq_k fun c5 bf => ?_))
 refine wp_seq_k fun c6 aC => ?_
 rcases bc (decide ((a.length : Int) = (b.length : Int))) with af | af
 have aO := oT af
 refine wp_g0 [true, true, true, true, true] [] 45
   [ve (sv Aa a ca), ve (iv (a.length : Int)), ve (sv Ab b cb), ve (iv (b.length : Int)), vF] av (.eq (.eq (.eq (.eq (.eq (.nil)))))) ?_ ?_
 exact .m (fun k => k.fx 0 h8) <| .t (fun _ w hn k => ⟨_, v_lenR rfl elW (k.eq1 0 6 rfl), rfl⟩) <| .m (fun k => k.fx 1 h9) <| .t (fun _ w hn k => ⟨_, v_lenR rfl elW (k.eq1 2 8 rfl), rfl⟩) <| .t (fun _ w hn k => ⟨_, v_bin rfl (k.eq1 1 7 rfl) (k.eq1 3 9 rfl) (fun _ => rfl) (r_neq af), rfl⟩) .nil
 refine aftI av a7 aB fun c7 c8 aD bg bh cL aq => ?_
 have a9 := aq.fx 0 h8
 have bV := aq.fx 1 h9
 have bW := aq.ge 4 10 rfl
 refine st_nil (aC _ _ ?_)
 refine wp_cond_false bW ?_
 refine wp_skip ?_
 refine bf _ _ ?_
 refine wp_seq_k fun c9 bi => ?_
 refine wp_seq_k fun da bj => ?_
 refine wp_g0 [true, true, true, true] [] 45
   [ve (sv Aa a ca), ve (iv (a.length : Int)), ve (iv ((a.length : Int) - 1)), ve (iv ((a.length : Int) - 1))] aD (.eq (.eq (.eq (.eq (.nil))))) ?_ ?_
 exact .m (fun k => k.fx 0 a9) <| .t (fun _ w hn k => ⟨_, v_lenR rfl elW (k.eq1 0 17 rfl), rfl⟩) <| .t (fun _ w hn k => ⟨_, v_bin rfl (k.eq1 1 18 rfl) rfl (fun _ => rfl) (r_sub rfl (by omega)), rfl⟩) <| .a (fun k => k.eq1 2 19 rfl) .nil
 refine aftI aD bg bh fun db dc bk bl bm cM ar => ?_
 have bX := ar.fx 0 a9
 have bY := ar.fx 1 bV
 have bZ := ar.ge 3 5 rfl
 refine st_nil (bj _ _ ?_)
 refine wp_block ?_
 refine wp_loopX (fun (mm : Nat) (aa : Act) (ww : World) => ∃ (n : Nat), mm = n ∧ aa.tmps.size = 45 ∧ aa.defers = [] ∧ New w ww ∧ aa.eval (.tmp 5) = iv ((n : Int) - 1) ∧ aa.eval (.tmp 0) = sv Aa a ca ∧ aa.eval (.tmp 1) = sv Ab b cb ∧ (n ≤ a.length) ∧ (Above a b n)) (fun mm => mm) ⟨_, ⟨a.length, rfl, bk, bl, bm, bZ, bX, bY, (Nat.le_refl _), (above_of_eqlen (by omega))⟩⟩ ?_
 rintro mm dd de ⟨n, hmm, ai, aE, aF, aw, ba, bb, hn, hab⟩
 refine wp_seq_k fun df bn => ?_
 refine wp_seq_k fun dg aG => ?_
 rcases bc (decide (((n : Int) - 1) < 0)) with ag | ag
 have aP := oT ag
 refine wp_g0 [true, true] [] 45
   [ve (iv ((n : Int) - 1)), vF] ai (.eq (.eq (.nil))) ?_ ?_
 exact .m (fun k => k.fx 5 aw) <| .t (fun _ w hn k => ⟨_, v_bin rfl (k.eq1 0 20 rfl) rfl (fun _ => rfl) (r_geqK ag), rfl⟩) .nil
 refine aftI ai aE aF fun dh di aH bo bp cN aj => ?_
 have dj := aj.fx 5 aw
 have dk := aj.fx 0 ba
 have dl := aj.fx 1 bb
 have b0 := aj.ge 1 21 rfl
 refine st_nil (aG _ _ ?_)
 refine wp_cond_false b0 ?_
 refine wp_exit ?_
 refine bi _ _ ?_
 refine wp_seq_k fun dm bq => ?_
 refine wp_g0 [true] [] 45
   [ve (iv 0)] aH (.eq (.nil)) ?_ ?_
 exact .t (fun _ w hn k => ⟨_, v_assign rfl rfl, rfl⟩) .nil
 refine aftI aH bo bp fun dn dp cO br bs cP bt => ?_
 have b1 := bt.ge 0 4 rfl
 refine st_nil (bq _ _ ?_)
 refine wp_ret (ret_k br (v := iv 0) (res_t rfl b1 _) ?_)
 exact ⟨by rw [cmp_same hab (by omega)], bs⟩
 have aP := oF ag
 refine wp_g0 [true, true] [] 45
   [ve (iv ((n : Int) - 1)), vT] ai (.eq (.eq (.nil))) ?_ ?_
 exact .m (fun k => k.fx 5 aw) <| .t (fun _ w hn k => ⟨_, v_bin rfl (k.eq1 0 20 rfl) rfl (fun _ => rfl) (r_geqK ag), rfl⟩) .nil
 refine aftI ai aE aF fun dq dr ak aI ad cQ al => ?_
 have ah := al.fx 5 aw
 have ax := al.fx 0 ba
 have ay := al.fx 1 bb
 have b2 := al.ge 1 21 rfl
 refine st_nil (aG _ _ ?_)
 refine wp_cond_true b2 ?_
 refine wp_skip ?_
 refine bn _ _ ?_
 refine wp_seq_k fun ds bu => ?_
 refine wp_block ?_
 refine wp_seq_k fun dt aJ => ?_
 rcases bc (decide (((a.getD (((n : Int) - 1 : Int).toNat) 0 : Nat) : Int) = ((b.getD (((n : Int) - 1 : Int).toNat) 0 : Nat) : Int))) with ac | ac
 have aQ := oT ac
 have hai := ha.at ((n : Int) - 1).toNat
 have hbi := hb.at ((n : Int) - 1).toNat
 refine wp_g0 (.replicate 9 true) [] 45
   [ve (sv Aa a ca), ve (iv ((n : Int) - 1)),
    (EP (.int .u32 ((a.getD (((n : Int) - 1 : Int).toNat) 0 : Nat) : Int))), ve (.int .u32 ((a.getD (((n : Int) - 1 : Int).toNat) 0 : Nat) : Int)), ve (sv Ab b cb), ve (iv ((n : Int) - 1)),
    (EP (.int .u32 ((b.getD (((n : Int) - 1 : Int).toNat) 0 : Nat) : Int))), ve (.int .u32 ((b.getD (((n : Int) - 1 : Int).toNat) 0 : Nat) : Int)), vF] ak (.eq (.eq (.cons (fun _ _ _ n ⟨_, _, e, h⟩ => ⟨_, _, e, h.new_ n⟩) (.eq (.eq (.eq (.cons (fun _ _ _ n ⟨_, _, e, h⟩ => ⟨_, _, e, h.new_ n⟩) (.eq (.eq (.nil)))))))))) ?_ ?_
 refine .m (fun k => k.fx 0 ax) <| .m (fun k => k.fx 5 ah) ?_
 refine .o1 (tk rfl rfl fun _ w hn k => (by
       exact x_eaddr (k := .u32) rfl elW (k.eq1 0 24 rfl) (k.eq1 1 25 rfl) (hra.new_ (ad.transNew hn)) (by omega) fun b7 b8 hme => ⟨b7, b8, rfl, hme⟩)) ?_
 refine .o1 (tk rfl rfl fun _ w hn k => (by
       obtain ⟨du, dv, b9, bv⟩ : (EP (.int .u32 ((a.getD (((n : Int) - 1 : Int).toNat) 0 : Nat) : Int))) _ _ := k.dep 2 26 (by kernel_rfl) (by kernel_rfl)
       exact ⟨_, v_load rfl b9 (l_one Tryz.isAgg56 bv.1), rfl⟩)) ?_
 refine .m (fun k => k.fx 1 ay) <| .m (fun k => k.fx 5 ah) ?_
 refine .o1 (tk rfl rfl fun _ w hn k => (by
       exact x_eaddr (k := .u32) rfl elW (k.eq1 4 28 rfl) (k.eq1 5 29 rfl) (hrb.new_ (ad.transNew hn)) (by omega) fun cc cd hme => ⟨cc, cd, rfl, hme⟩)) ?_
 refine .o1 (tk rfl rfl fun _ w hn k => (by
       obtain ⟨dw, dx, ce, bw⟩ : (EP (.int .u32 ((b.getD (((n : Int) - 1 : Int).toNat) 0 : Nat) : Int))) _ _ := k.dep 6 30 (by kernel_rfl) (by kernel_rfl)
       exact ⟨_, v_load rfl ce (l_one Tryz.isAgg56 bw.1), rfl⟩)) ?_
 exact .t (fun _ w hn k => ⟨_, v_bin rfl (k.eq1 3 27 rfl) (k.eq1 7 31 rfl) (fun _ => rfl) (r_neq ac), rfl⟩) .nil
 refine aftI ak aI ad fun dy dz aK bx bz cR am => ?_
 have bd := am.fx 5 ah
 have cf := am.fx 0 ax
 have ch := am.fx 1 ay
 have ci := am.ge 8 32 rfl
 refine st_nil (aJ _ _ ?_)
 refine wp_cond_false ci ?_
 refine wp_skip ?_
 refine bu _ _ ?_
 refine wp_g0 [true, true, false] [(2, true)] 45
   [ve (iv ((n : Int) - 1)), ve (iv (((n : Int) - 1) - 1)), vt] aK (.eq (.eq (.tt (.nil)))) ?_ ?_
 exact .m (fun k => k.fx 5 bd) <| .t (fun _ w hn k => ⟨_, v_bin rfl (k.eq1 0 22 rfl) rfl (fun _ => rfl) (r_sub rfl (by omega)), rfl⟩) <| .off .nil
 refine aftI aK bx bz fun be dA aL bA aR cS an => ?_
 have dB := an.fx 5 bd
 have cj := an.fx 0 cf
 have bB := an.fx 1 ch
 have aM := an.ge 1 23 rfl
 refine st_take rfl rfl (y_assign (v := iv (((n : Int) - 1) - 1)) rfl aM) rfl ?_
 obtain ⟨bC, ab⟩ : ∃ a', a' = be.put (some 5) (iv (((n : Int) - 1) - 1)) := ⟨_, rfl⟩
 have aS := pz ab aL
 have aT := pd ab bA
 have bD := pn ab cj (by decide)
 have bE := pn ab bB (by decide)
 have cT := pn ab aM (by decide)
 have bF : bC.eval (.tmp 5) = iv (((n : Int) - 1) - 1) := by rw [ab]; exact put_same _ _ _ (by rw [aL]; decide)
 show stepsTo _ _ _ _ _ (be.put (some 5) (iv (((n : Int) - 1) - 1))) _
 rw [← ab]
 refine st_nil ?_
 refine then_n ?_
 exact ⟨_, ⟨n - 1, rfl, aS, aT, aR, (bF.trans (congrArg (Value.int .i64) (by omega))), bD, bE, (by omega), (above_dn1 hab (by omega) ac)⟩, (by omega)⟩
 have aQ := oF ac
 have hai := ha.at ((n : Int) - 1).toNat
 have hbi := hb.at ((n : Int) - 1).toNat
 refine wp_g0 (.replicate 9 true) [] 45
   [ve (sv Aa a ca), ve (iv ((n : Int) - 1)),
    (EP (.int .u32 ((a.getD (((n : Int) - 1 : Int).toNat) 0 : Nat) : Int))), ve (.int .u32 ((a.getD (((n : Int) - 1 : Int).toNat) 0 : Nat) : Int)), ve (sv Ab b cb), ve (iv ((n : Int) - 1)),
    (EP (.int .u32 ((b.getD (((n : Int) - 1 : Int).toNat) 0 : Nat) : Int))), ve (.int .u32 ((b.getD (((n : Int) - 1 : Int).toNat) 0 : Nat) : Int)), vT] ak (.eq (.eq (.cons (fun _ _ _ n ⟨_, _, e, h⟩ => ⟨_, _, e, h.new_ n⟩) (.eq (.eq (.eq (.cons (fun _ _ _ n ⟨_, _, e, h⟩ => ⟨_, _, e, h.new_ n⟩) (.eq (.eq (.nil)))))))))) ?_ ?_
 refine .m (fun k => k.fx 0 ax) <| .m (fun k => k.fx 5 ah) ?_
 refine .o1 (tk rfl rfl fun _ w hn k => (by
       exact x_eaddr (k := .u32) rfl elW (k.eq1 0 24 rfl) (k.eq1 1 25 rfl) (hra.new_ (ad.transNew hn)) (by omega) fun cp cq hme => ⟨cp, cq, rfl, hme⟩)) ?_
 refine .o1 (tk rfl rfl fun _ w hn k => (by
       obtain ⟨dC, dD, cr, bG⟩ : (EP (.int .u32 ((a.getD (((n : Int) - 1 : Int).toNat) 0 : Nat) : Int))) _ _ := k.dep 2 26 (by kernel_rfl) (by kernel_rfl)
       exact ⟨_, v_load rfl cr (l_one Tryz.isAgg56 bG.1), rfl⟩)) ?_
 refine .m (fun k => k.fx 1 ay) <| .m (fun k => k.fx 5 ah) ?_
 refine .o1 (tk rfl rfl fun _ w hn k => (by
       exact x_eaddr (k := .u32) rfl elW (k.eq1 4 28 rfl) (k.eq1 5 29 rfl) (hrb.new_ (ad.transNew hn)) (by omega) fun cs ct hme => ⟨cs, ct, rfl, hme⟩)) ?_
 refine .o1 (tk rfl rfl fun _ w hn k => (by
       obtain ⟨dE, dF, cu, bH⟩ : (EP (.int .u32 ((b.getD (((n : Int) - 1 : Int).toNat) 0 : Nat) : Int))) _ _ := k.dep 6 30 (by kernel_rfl) (by kernel_rfl)
       exact ⟨_, v_load rfl cu (l_one Tryz.isAgg56 bH.1), rfl⟩)) ?_
 exact .t (fun _ w hn k => ⟨_, v_bin rfl (k.eq1 3 27 rfl) (k.eq1 7 31 rfl) (fun _ => rfl) (r_neq ac), rfl⟩) .nil
 refine aftI ak aI ad fun cU cV az aU ao cF ae => ?_
 have aN := ae.fx 5 ah
 have bI := ae.fx 0 ax
 have bJ := ae.fx 1 ay
 have bK := ae.ge 8 32 rfl
 refine st_nil (aJ _ _ ?_)
 refine wp_cond_true bK ?_
 refine wp_seq_k fun cW aV => ?_
 have hai := ha.at ((n : Int) - 1).toNat
 have hbi := hb.at ((n : Int) - 1).toNat
 refine wp_g0 (.replicate 13 true) [] 45
   [ve (sv Aa a ca), ve (iv ((n : Int) - 1)),
    (EP (.int .u32 ((a.getD (((n : Int) - 1 : Int).toNat) 0 : Nat) : Int))), ve (.int .u32 ((a.getD (((n : Int) - 1 : Int).toNat) 0 : Nat) : Int)), ve (iv ((a.getD (((n : Int) - 1 : Int).toNat) 0 : Nat) : Int)), ve (sv Ab b cb), ve (iv ((n : Int) - 1)),
    (EP (.int .u32 ((b.getD (((n : Int) - 1 : Int).toNat) 0 : Nat) : Int))), ve (.int .u32 ((b.getD (((n : Int) - 1 : Int).toNat) 0 : Nat) : Int)), ve (iv ((b.getD (((n : Int) - 1 : Int).toNat) 0 : Nat) : Int)), ve (iv (((a.getD (((n : Int) - 1 : Int).toNat) 0 : Nat) : Int) - ((b.getD (((n : Int) - 1 : Int).toNat) 0 : Nat) : Int))), ve (iv (cmpI1 (((a.getD (((n : Int) - 1 : Int).toNat) 0 : Nat) : Int) - ((b.getD (((n : Int) - 1 : Int).toNat) 0 : Nat) : Int)))), ve (iv (cmpI1 (((a.getD (((n : Int) - 1 : Int).toNat) 0 : Nat) : Int) - ((b.getD (((n : Int) - 1 : Int).toNat) 0 : Nat) : Int))))] az (.eq (.eq (.cons (fun _ _ _ n ⟨_, _, e, h⟩ => ⟨_, _, e, h.new_ n⟩) (.eq (.eq (.eq (.eq (.cons (fun _ _ _ n ⟨_, _, e, h⟩ => ⟨_, _, e, h.new_ n⟩) (.eq (.eq (.eq (.eq (.eq (.nil)))))))))))))) ?_ ?_
 refine .m (fun k => k.fx 0 bI) <| .m (fun k => k.fx 5 aN) ?_
 refine .o1 (tk rfl rfl fun _ w hn k => (by
       exact x_eaddr (k := .u32) rfl elW (k.eq1 0 33 rfl) (k.eq1 1 34 rfl) (hra.new_ (ao.transNew hn)) (by omega) fun cz cA hme => ⟨cz, cA, rfl, hme⟩)) ?_
 refine .o1 (tk rfl rfl fun _ w hn k => (by
       obtain ⟨dG, dH, cB, bL⟩ : (EP (.int .u32 ((a.getD (((n : Int) - 1 : Int).toNat) 0 : Nat) : Int))) _ _ := k.dep 2 35 (by kernel_rfl) (by kernel_rfl)
       exact ⟨_, v_load rfl cB (l_one Tryz.isAgg56 bL.1), rfl⟩)) ?_
 refine .t (fun _ w hn k => ⟨_, v_conv rfl (k.eq1 3 36 rfl) (n_conv (by kernel_rfl) (by kernel_rfl) (by kernel_rfl) (IntWalk.i64_in _ (by omega))), rfl⟩) <| .m (fun k => k.fx 1 bJ) <| .m (fun k => k.fx 5 aN) ?_
 refine .o1 (tk rfl rfl fun _ w hn k => (by
       exact x_eaddr (k := .u32) rfl elW (k.eq1 5 38 rfl) (k.eq1 6 39 rfl) (hrb.new_ (ao.transNew hn)) (by omega) fun cC cD hme => ⟨cC, cD, rfl, hme⟩)) ?_
 refine .o1 (tk rfl rfl fun _ w hn k => (by
       obtain ⟨dI, dJ, cE, bM⟩ : (EP (.int .u32 ((b.getD (((n : Int) - 1 : Int).toNat) 0 : Nat) : Int))) _ _ := k.dep 7 40 (by kernel_rfl) (by kernel_rfl)
       exact ⟨_, v_load rfl cE (l_one Tryz.isAgg56 bM.1), rfl⟩)) ?_
 exact .t (fun _ w hn k => ⟨_, v_conv rfl (k.eq1 8 41 rfl) (n_conv (by kernel_rfl) (by kernel_rfl) (by kernel_rfl) (IntWalk.i64_in _ (by omega))), rfl⟩) <| .t (fun _ w hn k => ⟨_, v_bin rfl (k.eq1 4 37 rfl) (k.eq1 9 42 rfl) (fun _ => rfl) (r_sub rfl (by omega)), rfl⟩) <| .o1 (ck rfl rfl rfl (fun _ w hn k => ⟨#[iv (((a.getD (((n : Int) - 1 : Int).toNat) 0 : Nat) : Int) - ((b.getD (((n : Int) - 1 : Int).toNat) 0 : Nat) : Int))], args1 (k.eq1 10 43 rfl), fun _ => by kernel_rfl, bsign_c (((a.getD (((n : Int) - 1 : Int).toNat) 0 : Nat) : Int) - ((b.getD (((n : Int) - 1 : Int).toNat) 0 : Nat) : Int)) _ ⟩) fun _ => rfl) <| .a (fun k => k.eq1 11 44 rfl) .nil
 refine aftI az aU ao fun cX cY cG aW aX cH aY => ?_
 have bN := aY.ge 12 4 rfl
 refine st_nil (aV _ _ ?_)
 refine wp_ret (ret_k aW (v := iv (cmpI1 (((a.getD (((n : Int) - 1 : Int).toNat) 0 : Nat) : Int) - ((b.getD (((n : Int) - 1 : Int).toNat) 0 : Nat) : Int)))) (res_t rfl bN _) ?_)
 exact ⟨congrArg (fun z => Ending.returned (iv z)) (cmp_at ha hb hab (by omega) ac), aX⟩
 have aO := oF af
 refine wp_g0 [true, true, true, true, true] [] 45
   [ve (sv Aa a ca), ve (iv (a.length : Int)), ve (sv Ab b cb), ve (iv (b.length : Int)), vT] av (.eq (.eq (.eq (.eq (.eq (.nil)))))) ?_ ?_
 exact .m (fun k => k.fx 0 h8) <| .t (fun _ w hn k => ⟨_, v_lenR rfl elW (k.eq1 0 6 rfl), rfl⟩) <| .m (fun k => k.fx 1 h9) <| .t (fun _ w hn k => ⟨_, v_lenR rfl elW (k.eq1 2 8 rfl), rfl⟩) <| .t (fun _ w hn k => ⟨_, v_bin rfl (k.eq1 1 7 rfl) (k.eq1 3 9 rfl) (fun _ => rfl) (r_neq af), rfl⟩) .nil
 refine aftI av a7 aB fun cZ c0 aA aZ a1 cI ap => ?_
 have bO := ap.fx 0 h8
 have bP := ap.fx 1 h9
 have bQ := ap.ge 4 10 rfl
 refine st_nil (aC _ _ ?_)
 refine wp_cond_true bQ ?_
 refine wp_seq_k fun c1 a3 => ?_
 refine wp_g0 [true, true, true, true, true, true, true] [] 45
   [ve (sv Aa a ca), ve (iv (a.length : Int)), ve (sv Ab b cb), ve (iv (b.length : Int)), ve (iv ((a.length : Int) - (b.length : Int))), ve (iv (cmpI1 ((a.length : Int) - (b.length : Int)))), ve (iv (cmpI1 ((a.length : Int) - (b.length : Int))))] aA (.eq (.eq (.eq (.eq (.eq (.eq (.eq (.nil)))))))) ?_ ?_
 exact .m (fun k => k.fx 0 bO) <| .t (fun _ w hn k => ⟨_, v_lenR rfl elW (k.eq1 0 11 rfl), rfl⟩) <| .m (fun k => k.fx 1 bP) <| .t (fun _ w hn k => ⟨_, v_lenR rfl elW (k.eq1 2 13 rfl), rfl⟩) <| .t (fun _ w hn k => ⟨_, v_bin rfl (k.eq1 1 12 rfl) (k.eq1 3 14 rfl) (fun _ => rfl) (r_sub rfl (by omega)), rfl⟩) <| .o1 (ck rfl rfl rfl (fun _ w hn k => ⟨#[iv ((a.length : Int) - (b.length : Int))], args1 (k.eq1 4 15 rfl), fun _ => by kernel_rfl, bsign_c ((a.length : Int) - (b.length : Int)) _ ⟩) fun _ => rfl) <| .a (fun k => k.eq1 5 16 rfl) .nil
 refine aftI aA aZ a1 fun c2 c3 cJ a4 a5 cK a6 => ?_
 have bR := a6.ge 6 4 rfl
 refine st_nil (a3 _ _ ?_)
 refine wp_ret (ret_k a4 (v := iv (cmpI1 ((a.length : Int) - (b.length : Int)))) (res_t rfl bR _) ?_)
 exact ⟨congrArg (fun z => Ending.returned (iv z)) (cmp_len ha hb hta htb (by omega)), a5⟩
theorem bCmp_c (a : Bool) (Aa : Option Addr) (ma : List Nat) (ca : Nat) (b : Bool) (Ab : Option Addr) (mb : List Nat) (cb : Nat) (w : World) (hra : SRow w .u32 Aa ma ca) (hrb : SRow w .u32 Ab mb cb) (ha : Limbs ma) (hb : Limbs mb) (hsa : ma.length ≤ 1000000) (hsb : mb.length ≤ 1000000) : Calls Tryz.prog 152 #[.agg #[.bool a, sv Aa ma ca], .agg #[.bool b, sv Ab mb cb]] w (IsRet (iv (cmpZ (goodI a ma) (goodI b mb))) w) := by
 refine enter_abs Tryz.func152 rfl fun a0 aB cp hp => ?_
 have aB : a0.tmps.size = 35 := aB
 have aQ : New w w := Upd.refl _ _
 have hp0 : a0.eval (.tmp 0) = .agg #[.bool a, sv Aa ma ca] := hp 0 _ rfl
 have hp1 : a0.eval (.tmp 1) = .agg #[.bool b, sv Ab mb cb] := hp 1 _ rfl
 refine wp_seq_k fun K1 cq => ?_
 refine wp_g [true, true, true] [] [] 35
   [IsNew w 26 [.bool a, sv Aa ma ca], IsNew w 26 [.bool b, sv Ab mb cb], ve (iv 0)]
   [0, 1] (newsCons (fun v w h => IsNew.old h) (newsCons (fun v w h => IsNew.old h) newsNil)) aB (.nw (.nw (.eq (.nil)))) ?_ (fun i h => by cases h) ?_
 exact .o2 (step_allocN (cs := [.bool a, sv Aa ma ca]) (t := 26) rfl (noG rfl) (fun _ w hn k => v_box rfl (k.fx 0 hp0) (fun w => rfl)) (fun q _ hq hb => ⟨q, rfl, hq, hb⟩)) <| .o2 (step_allocN (cs := [.bool b, sv Ab mb cb]) (t := 26) rfl (noG rfl) (fun _ w hn k => v_box rfl (k.fx 1 hp1) (fun w => rfl)) (fun q _ hq hb => ⟨q, rfl, hq, hb⟩)) <| .t (fun _ w hn k => ⟨_, v_assign rfl rfl, rfl⟩) .nil
 refine aftI aB cp aQ fun a2 w3 bD cr aq dC bE => ?_
 obtain ⟨q9, h8, bI, aR⟩ : IsNew _ _ _ _ _ := bE.got 0 2 rfl (by kernel_rfl)
 obtain ⟨dD, bF, bJ, aS⟩ : IsNew _ _ _ _ _ := bE.got 1 3 rfl (by kernel_rfl)
 have dc := Nat.le_trans aQ.size bI
 have dd := Nat.le_trans aQ.size bJ
 refine st_nil (cq _ _ (wp_seq_k fun dE bK => ?_))
 refine wp_g0 [true, true, true, true, true, true] [] 35
   [ve (.agg #[.bool a, sv Aa ma ca]), ve (.bool (mayB a ma && a)), ve (.agg #[.bool b, sv Ab mb cb]), ve (.bool (mayB b mb && b)), ve (.bool (mayB a ma && a)), ve (.bool (mayB b mb && b))] bD (.eq (.eq (.eq (.eq (.eq (.eq (.nil))))))) ?_ ?_
 exact .t (fun _ w hn k => ⟨_, v_load rfl (k.fx 2 h8) (l_two Tryz.isAgg26 Tryz.sizeOf26 (aR.new_ hn)), rfl⟩) <| .o1 (ck rfl rfl rfl (fun _ w hn k => ⟨#[.agg #[.bool a, sv Aa ma ca]], args1 (k.eq1 0 7 rfl), fun _ => by kernel_rfl, bneg_c a _ ma _ _ (hra.new_ (aq.transNew hn))⟩) fun _ => rfl) <| .t (fun _ w hn k => ⟨_, v_load rfl (k.fx 3 bF) (l_two Tryz.isAgg26 Tryz.sizeOf26 (aS.new_ hn)), rfl⟩) <| .o1 (ck rfl rfl rfl (fun _ w hn k => ⟨#[.agg #[.bool b, sv Ab mb cb]], args1 (k.eq1 2 9 rfl), fun _ => by kernel_rfl, bneg_c b _ mb _ _ (hrb.new_ (aq.transNew hn))⟩) fun _ => rfl) <| .a (fun k => k.eq1 1 8 rfl) <| .a (fun k => k.eq1 3 10 rfl) .nil
 refine aftI bD cr aq fun dF dG ae ar au aT ak => ?_
 have aU := ak.fx 2 h8
 have aV := ak.fx 3 bF
 have bG := ak.ge 4 5 rfl
 have aW := ak.ge 5 6 rfl
 have av := aR.new_ aT
 have aw := aS.new_ aT
 refine st_nil (bK _ _ (wp_seq_k fun dH bL => ?_))
 refine wp_block ?_
 refine wp_seq_k fun dI ax => ?_
 rcases bc ((mayB a ma && a)) with aa | aa
 have al := hB bG aa
 rcases bc ((mayB b mb && b)) with ac | ac
 have aX := hB aW ac
 refine wp_g0 [true, true, true, true, true, true] [] 35
   [vT, vT, vT, vF, vF, vF] ae (.eq (.eq (.eq (.eq (.eq (.eq (.nil))))))) ?_ ?_
 exact .m (fun k => k.fx 5 al) <| .m (fun k => k.eq1 0 12 rfl) <| .gm (fun k => k.eq1 1 13 rfl) (fun k => k.fx 6 aX) <| .g (fun k => k.eq1 1 13 rfl) (fun _ w hn k => ⟨_, v_not rfl (k.eq1 2 14 rfl), rfl⟩) <| .t (fun _ w hn k => ⟨_, v_pickT rfl (k.eq1 1 13 rfl) (k.eq1 3 15 rfl), rfl⟩) <| .a (fun k => k.eq1 4 16 rfl) .nil
 refine aftI ae ar au fun dJ dK aY bM bN aZ ai => ?_
 have ct := ai.fx 2 aU
 have cu := ai.fx 3 aV
 have bH := ai.fx 5 al
 have cv := ai.fx 6 aX
 have cw := ai.ge 5 11 rfl
 have bO := av.new_ aZ
 have bP := aw.new_ aZ
 refine st_nil (ax _ _ ?_)
 refine wp_cond_false cw ?_
 refine wp_seq_k fun dL bQ => ?_
 refine wp_g0 [true, true, true, true, true, true] [] 35
   [vT, vT, vT, vF, vF, vF] aY (.eq (.eq (.eq (.eq (.eq (.eq (.nil))))))) ?_ ?_
 exact .m (fun k => k.fx 6 cv) <| .m (fun k => k.eq1 0 18 rfl) <| .gm (fun k => k.eq1 1 19 rfl) (fun k => k.fx 5 bH) <| .g (fun k => k.eq1 1 19 rfl) (fun _ w hn k => ⟨_, v_not rfl (k.eq1 2 20 rfl), rfl⟩) <| .t (fun _ w hn k => ⟨_, v_pickT rfl (k.eq1 1 19 rfl) (k.eq1 3 21 rfl), rfl⟩) <| .a (fun k => k.eq1 4 22 rfl) .nil
 refine aftI aY bM bN fun dM dN a1 bR bS a3 am => ?_
 have cx := am.fx 2 ct
 have cy := am.fx 3 cu
 have cz := am.fx 5 bH
 have cA := am.ge 5 17 rfl
 have bT := bO.new_ a3
 have bU := bP.new_ a3
 refine st_nil (bQ _ _ ?_)
 refine wp_cond_false cA ?_
 refine wp_seq_k fun dO bV => ?_
 refine wp_g0 [true, true] [] 35
   [vT, vT] a1 (.eq (.eq (.nil))) ?_ ?_
 exact .m (fun k => k.fx 5 cz) <| .a (fun k => k.eq1 0 24 rfl) .nil
 refine aftI a1 bR bS fun dP aC a4 bW ay a5 az => ?_
 have cB := az.fx 2 cx
 have cC := az.fx 3 cy
 have cD := az.ge 1 23 rfl
 have bX := bT.new_ a5
 have bY := bU.new_ a5
 refine st_nil (bV _ _ ?_)
 refine wp_cond_true cD ?_
 refine wp_seq_k fun dQ bZ => ?_
 refine wp_g0 [true, true, true, true, true, true] [] 35
   [ve (.agg #[.bool b, sv Ab mb cb]),
    (OP aC.heap.size 56 .u32 (canon (goodI b mb).natAbs)), ve (.agg #[.bool a, sv Aa ma ca]),
    (OP aC.heap.size 56 .u32 (canon (goodI a ma).natAbs)), ve (iv (cmpI (val (canon (goodI b mb).natAbs)) (val (canon (goodI a ma).natAbs)))), ve (iv (cmpI (val (canon (goodI b mb).natAbs)) (val (canon (goodI a ma).natAbs))))] a4 (.eq (.cons (fun _ _ _ n ⟨_, _, e, h⟩ => ⟨_, _, e, h.new_ n⟩) (.eq (.cons (fun _ _ _ n ⟨_, _, e, h⟩ => ⟨_, _, e, h.new_ n⟩) (.eq (.eq (.nil))))))) ?_ ?_
 refine .t (fun _ w hn k => ⟨_, v_load rfl (k.fx 3 cC) (l_two Tryz.isAgg26 Tryz.sizeOf26 (bY.new_ hn)), rfl⟩) ?_
 refine .o1 (tkC rfl (noG rfl) rfl fun _ w hn k => (by
       refine ⟨#[.agg #[.bool b, sv Ab mb cb]], _, args1 (k.eq1 0 25 rfl), fun w => by kernel_rfl, bmag_c b _ mb _ _ (hrb.new_ (ay.transNew hn)) hb (by first | omega | (simp only [List.length_nil, List.length_take, List.length_drop]; omega) | (simp only [List.length_cons, List.length_nil]; omega)), ?_⟩
       rintro e w' ⟨A1, c2, rfl, hmo0, hm⟩
       exact ⟨_, rfl, hm, ⟨A1, c2, rfl, (hmo0.more hn.size)⟩⟩)) ?_
 refine .t (fun _ w hn k => ⟨_, v_load rfl (k.fx 2 cB) (l_two Tryz.isAgg26 Tryz.sizeOf26 (bX.new_ hn)), rfl⟩) ?_
 refine .o1 (tkC rfl (noG rfl) rfl fun _ w hn k => (by
       refine ⟨#[.agg #[.bool a, sv Aa ma ca]], _, args1 (k.eq1 2 27 rfl), fun w => by kernel_rfl, bmag_c a _ ma _ _ (hra.new_ (ay.transNew hn)) ha (by first | omega | (simp only [List.length_nil, List.length_take, List.length_drop]; omega) | (simp only [List.length_cons, List.length_nil]; omega)), ?_⟩
       rintro e w' ⟨A5, c6, rfl, hmo0, hm⟩
       exact ⟨_, rfl, hm, ⟨A5, c6, rfl, (hmo0.more hn.size)⟩⟩)) ?_
 refine .o1 (tkC rfl (noG rfl) rfl fun _ w hn k => (by
       obtain ⟨A9, cE, cF, b0⟩ : (OP aC.heap.size 56 .u32 (canon (goodI b mb).natAbs)) _ _ := k.dep 1 26 (by kernel_rfl) (by kernel_rfl)
       obtain ⟨cG, cH, cI, b1⟩ : (OP aC.heap.size 56 .u32 (canon (goodI a ma).natAbs)) _ _ := k.dep 3 28 (by kernel_rfl) (by kernel_rfl)
       refine ⟨#[sv A9 (canon (goodI b mb).natAbs) cE, sv cG (canon (goodI a ma).natAbs) cH], _, args2 cF cI, fun w => by kernel_rfl, bcmp_c _ (canon (goodI b mb).natAbs) _ _ (canon (goodI a ma).natAbs) _ _ b0.row b1.row (limbs_canon _) (limbs_canon _) (trim_canon _) (trim_canon _), ?_⟩
       rintro e w' ⟨rfl, hm⟩
       exact ⟨_, rfl, hm, rfl⟩)) ?_
 exact .a (fun k => k.eq1 4 29 rfl) .nil
 refine aftI a4 bW ay fun dR dS de b2 b3 df b4 => ?_
 have cJ := b4.ge 5 4 rfl
 refine st_nil (bZ _ _ ?_)
 refine wp_ret (ret_k b2 (v := iv (cmpI (val (canon (goodI b mb).natAbs)) (val (canon (goodI a ma).natAbs)))) (res_t rfl cJ _) ?_)
 rw [← neg_good ha] at aa
 rw [← neg_good hb] at ac
 exact ⟨congrArg (fun z => Ending.returned (iv z)) (by rw [val_canon, val_canon]; exact cmpZ_nn (oT aa) (oT ac)), b3⟩
 have a6 := hB aW ac
 refine wp_g0 [true, true, true, true, true, true] [] 35
   [vT, vT, vF, vT, vT, vT] ae (.eq (.eq (.eq (.eq (.eq (.eq (.nil))))))) ?_ ?_
 exact .m (fun k => k.fx 5 al) <| .m (fun k => k.eq1 0 12 rfl) <| .gm (fun k => k.eq1 1 13 rfl) (fun k => k.fx 6 a6) <| .g (fun k => k.eq1 1 13 rfl) (fun _ w hn k => ⟨_, v_not rfl (k.eq1 2 14 rfl), rfl⟩) <| .t (fun _ w hn k => ⟨_, v_pickT rfl (k.eq1 1 13 rfl) (k.eq1 3 15 rfl), rfl⟩) <| .a (fun k => k.eq1 4 16 rfl) .nil
 refine aftI ae ar au fun dT dU a7 b5 bd a8 aj => ?_
 have dV := aj.fx 2 aU
 have dW := aj.fx 3 aV
 have dX := aj.fx 5 al
 have dY := aj.fx 6 a6
 have b6 := aj.ge 5 11 rfl
 have cY := av.new_ a8
 have cZ := aw.new_ a8
 refine st_nil (ax _ _ ?_)
 refine wp_cond_true b6 ?_
 refine wp_seq_k fun dg be => ?_
 refine wp_g0 [true] [] 35
   [ve (iv (-1))] a7 (.eq (.nil)) ?_ ?_
 exact .t (fun _ w hn k => ⟨_, v_assign rfl rfl, rfl⟩) .nil
 refine aftI a7 b5 bd fun dh di c0 bf bg c1 bh => ?_
 have b7 := bh.ge 0 4 rfl
 refine st_nil (be _ _ ?_)
 refine wp_ret (ret_k bf (v := iv (-1)) (res_t rfl b7 _) ?_)
 rw [← neg_good ha] at aa
 rw [← neg_good hb] at ac
 exact ⟨by rw [show cmpZ (goodI a ma) (goodI b mb) = -1 from cmpZ_np (oT aa) (oF ac)], bg⟩
 have aD := hB bG aa
 refine wp_g0 [true, true, true, true, true, true] [] 35
   [vF, vF, vU, vU, vF, vF] ae (.eq (.eq (.eq (.eq (.eq (.eq (.nil))))))) ?_ ?_
 exact .m (fun k => k.fx 5 aD) <| .m (fun k => k.eq1 0 12 rfl) <| .s (fun k => k.eq1 1 13 rfl) <| .s (fun k => k.eq1 1 13 rfl) <| .t (fun _ w hn k => ⟨_, v_pickF rfl (k.eq1 1 13 rfl) rfl, rfl⟩) <| .a (fun k => k.eq1 4 16 rfl) .nil
 refine aftI ae ar au fun dj dk af aE aF aG ad => ?_
 have a9 := ad.fx 2 aU
 have ba := ad.fx 3 aV
 have aA := ad.fx 5 aD
 have bb := ad.fx 6 aW
 have b8 := ad.ge 5 11 rfl
 have aH := av.new_ aG
 have aI := aw.new_ aG
 refine st_nil (ax _ _ ?_)
 refine wp_cond_false b8 ?_
 refine wp_seq_k fun dl aJ => ?_
 rcases bc ((mayB b mb && b)) with ab | ab
 have bi := hB bb ab
 refine wp_g0 [true, true, true, true, true, true] [] 35
   [vT, vT, vF, vT, vT, vT] af (.eq (.eq (.eq (.eq (.eq (.eq (.nil))))))) ?_ ?_
 exact .m (fun k => k.fx 6 bi) <| .m (fun k => k.eq1 0 18 rfl) <| .gm (fun k => k.eq1 1 19 rfl) (fun k => k.fx 5 aA) <| .g (fun k => k.eq1 1 19 rfl) (fun _ w hn k => ⟨_, v_not rfl (k.eq1 2 20 rfl), rfl⟩) <| .t (fun _ w hn k => ⟨_, v_pickT rfl (k.eq1 1 19 rfl) (k.eq1 3 21 rfl), rfl⟩) <| .a (fun k => k.eq1 4 22 rfl) .nil
 refine aftI af aE aF fun dm dn aK bj bk aL ag => ?_
 have dp := ag.fx 2 a9
 have dq := ag.fx 3 ba
 have dr := ag.fx 5 aA
 have b9 := ag.ge 5 17 rfl
 have c3 := aH.new_ aL
 have c5 := aI.new_ aL
 refine st_nil (aJ _ _ ?_)
 refine wp_cond_true b9 ?_
 refine wp_seq_k fun ds bl => ?_
 refine wp_g0 [true] [] 35
   [ve (iv 1)] aK (.eq (.nil)) ?_ ?_
 exact .t (fun _ w hn k => ⟨_, v_assign rfl rfl, rfl⟩) .nil
 refine aftI aK bj bk fun dt du c7 bm bn c9 bo => ?_
 have cc := bo.ge 0 4 rfl
 refine st_nil (bl _ _ ?_)
 refine wp_ret (ret_k bm (v := iv 1) (res_t rfl cc _) ?_)
 rw [← neg_good ha] at aa
 rw [← neg_good hb] at ab
 exact ⟨by rw [show cmpZ (goodI a ma) (goodI b mb) = 1 from cmpZ_pn (oF aa) (oT ab)], bn⟩
 have bp := hB bb ab
 refine wp_g0 [true, true, true, true, true, true] [] 35
   [vF, vF, vU, vU, vF, vF] af (.eq (.eq (.eq (.eq (.eq (.eq (.nil))))))) ?_ ?_
 exact .m (fun k => k.fx 6 bp) <| .m (fun k => k.eq1 0 18 rfl) <| .s (fun k => k.eq1 1 19 rfl) <| .s (fun k => k.eq1 1 19 rfl) <| .t (fun _ w hn k => ⟨_, v_pickF rfl (k.eq1 1 19 rfl) rfl, rfl⟩) <| .a (fun k => k.eq1 4 22 rfl) .nil
 refine aftI af aE aF fun dv dw aM bq br aN ah => ?_
 have cd := ah.fx 2 a9
 have ce := ah.fx 3 ba
 have cf := ah.fx 5 aA
 have ch := ah.ge 5 17 rfl
 have bs := aH.new_ aN
 have bt := aI.new_ aN
 refine st_nil (aJ _ _ ?_)
 refine wp_cond_false ch ?_
 refine wp_seq_k fun dx bu => ?_
 refine wp_g0 [true, true] [] 35
   [vF, vF] aM (.eq (.eq (.nil))) ?_ ?_
 exact .m (fun k => k.fx 5 cf) <| .a (fun k => k.eq1 0 24 rfl) .nil
 refine aftI aM bq br fun dy an aO bv ao aP ap => ?_
 have ci := ap.fx 2 cd
 have cj := ap.fx 3 ce
 have cl := ap.ge 1 23 rfl
 have bw := bs.new_ aP
 have bx := bt.new_ aP
 refine st_nil (bu _ _ ?_)
 refine wp_cond_false cl ?_
 refine wp_skip ?_
 refine bL _ _ ?_
 refine wp_seq_k fun dz bz => ?_
 refine wp_g0 [true, true, true, true, true, true] [] 35
   [ve (.agg #[.bool a, sv Aa ma ca]),
    (OP an.heap.size 56 .u32 (canon (goodI a ma).natAbs)), ve (.agg #[.bool b, sv Ab mb cb]),
    (OP an.heap.size 56 .u32 (canon (goodI b mb).natAbs)), ve (iv (cmpI (val (canon (goodI a ma).natAbs)) (val (canon (goodI b mb).natAbs)))), ve (iv (cmpI (val (canon (goodI a ma).natAbs)) (val (canon (goodI b mb).natAbs))))] aO (.eq (.cons (fun _ _ _ n ⟨_, _, e, h⟩ => ⟨_, _, e, h.new_ n⟩) (.eq (.cons (fun _ _ _ n ⟨_, _, e, h⟩ => ⟨_, _, e, h.new_ n⟩) (.eq (.eq (.nil))))))) ?_ ?_
 refine .t (fun _ w hn k => ⟨_, v_load rfl (k.fx 2 ci) (l_two Tryz.isAgg26 Tryz.sizeOf26 (bw.new_ hn)), rfl⟩) ?_
 refine .o1 (tkC rfl (noG rfl) rfl fun _ w hn k => (by
       refine ⟨#[.agg #[.bool a, sv Aa ma ca]], _, args1 (k.eq1 0 30 rfl), fun w => by kernel_rfl, bmag_c a _ ma _ _ (hra.new_ (ao.transNew hn)) ha (by first | omega | (simp only [List.length_nil, List.length_take, List.length_drop]; omega) | (simp only [List.length_cons, List.length_nil]; omega)), ?_⟩
       rintro e w' ⟨cO, cP, rfl, hmo0, hm⟩
       exact ⟨_, rfl, hm, ⟨cO, cP, rfl, (hmo0.more hn.size)⟩⟩)) ?_
 refine .t (fun _ w hn k => ⟨_, v_load rfl (k.fx 3 cj) (l_two Tryz.isAgg26 Tryz.sizeOf26 (bx.new_ hn)), rfl⟩) ?_
 refine .o1 (tkC rfl (noG rfl) rfl fun _ w hn k => (by
       refine ⟨#[.agg #[.bool b, sv Ab mb cb]], _, args1 (k.eq1 2 32 rfl), fun w => by kernel_rfl, bmag_c b _ mb _ _ (hrb.new_ (ao.transNew hn)) hb (by first | omega | (simp only [List.length_nil, List.length_take, List.length_drop]; omega) | (simp only [List.length_cons, List.length_nil]; omega)), ?_⟩
       rintro e w' ⟨cQ, cR, rfl, hmo0, hm⟩
       exact ⟨_, rfl, hm, ⟨cQ, cR, rfl, (hmo0.more hn.size)⟩⟩)) ?_
 refine .o1 (tkC rfl (noG rfl) rfl fun _ w hn k => (by
       obtain ⟨cS, cT, cU, cm⟩ : (OP an.heap.size 56 .u32 (canon (goodI a ma).natAbs)) _ _ := k.dep 1 31 (by kernel_rfl) (by kernel_rfl)
       obtain ⟨cV, cW, cX, cn⟩ : (OP an.heap.size 56 .u32 (canon (goodI b mb).natAbs)) _ _ := k.dep 3 33 (by kernel_rfl) (by kernel_rfl)
       refine ⟨#[sv cS (canon (goodI a ma).natAbs) cT, sv cV (canon (goodI b mb).natAbs) cW], _, args2 cU cX, fun w => by kernel_rfl, bcmp_c _ (canon (goodI a ma).natAbs) _ _ (canon (goodI b mb).natAbs) _ _ cm.row cn.row (limbs_canon _) (limbs_canon _) (trim_canon _) (trim_canon _), ?_⟩
       rintro e w' ⟨rfl, hm⟩
       exact ⟨_, rfl, hm, rfl⟩)) ?_
 exact .a (fun k => k.eq1 4 34 rfl) .nil
 refine aftI aO bv ao fun dA dB da bA bB db bC => ?_
 have co := bC.ge 5 4 rfl
 refine st_nil (bz _ _ ?_)
 refine wp_ret (ret_k bA (v := iv (cmpI (val (canon (goodI a ma).natAbs)) (val (canon (goodI b mb).natAbs)))) (res_t rfl co _) ?_)
 rw [← neg_good ha] at aa
 rw [← neg_good hb] at ab
 exact ⟨congrArg (fun z => Ending.returned (iv z)) (by rw [val_canon, val_canon]; exact cmpZ_pp (oF aa) (oF ab)), bB⟩
def bOf_c_P (n : Int) (w : World) (en : Ending) (w' : World) : Prop := ∃ (Ar0 : Option Addr) (cr0 : Nat), en = .returned (.agg #[.bool (decide (n < 0)), sv Ar0 (canon (n).natAbs) cr0]) ∧ SRow w' .u32 Ar0 (canon (n).natAbs) cr0 ∧ New w w'
theorem bOf_c (n : Int) (w : World) (hlo : -9223372036854775808 ≤ n) (hhi : n ≤ 9223372036854775807) : Calls Tryz.prog 64 #[iv n] w (bOf_c_P n w) := by
 refine enter_abs Tryz.func64 rfl fun a0 ao bC hp => ?_
 have ao : a0.tmps.size = 19 := ao
 have aP : New w w := Upd.refl _ _
 have hp0 : a0.eval (.tmp 0) = iv n := hp 0 _ rfl
 have hmd : 0 ≤ n % 18446744073709551616 ∧ n % 18446744073709551616 < 18446744073709551616 := by omega
 refine wp_seq_k fun K1 bD => ?_
 refine wp_g [true] [] [] 19
   [IsNew w 26 [.bool false, sv none ([]) 0]]
   [0] (newsCons (fun v w h => IsNew.old h) newsNil) ao (.nw (.nil)) ?_ (fun i h => by cases h) ?_
 exact .o2 (step_allocN (cs := [.bool false, sv none ([]) 0]) (t := 26) rfl (noG rfl) (fun _ w hn k => rfl) (fun q _ hq hb => ⟨q, rfl, hq, hb⟩)) .nil
 refine aftI ao bC aP fun a2 w3 aQ bE a5 b6 aR => ?_
 have h8 := aR.fx 0 hp0
 obtain ⟨b7, h9, a6, a7⟩ : IsNew _ _ _ _ _ := aR.got 0 2 rfl (by kernel_rfl)
 have b0 := Nat.le_trans aP.size a6
 refine st_nil (bD _ _ (wp_seq_k fun b8 a8 => ?_))
 refine wp_g0 [true, true, true] [] 19
   [ve (iv n), ve (.int .u64 (((n % 18446744073709551616).toNat : Nat) : Int)), ve (.int .u64 (((n % 18446744073709551616).toNat : Nat) : Int))] aQ (.eq (.eq (.eq (.nil)))) ?_ ?_
 exact .m (fun k => k.fx 0 h8) <| .t (fun _ w hn k => ⟨_, v_conv rfl (k.eq1 0 4 rfl) (n_conv (by kernel_rfl) (by kernel_rfl) (by kernel_rfl) (of_conv n)), rfl⟩) <| .a (fun k => k.eq1 1 5 rfl) .nil
 refine aftI aQ bE a5 fun b9 ca ar a9 ba bb an => ?_
 have aS := an.fx 0 h8
 have bF := an.fx 2 h9
 have bG := an.ge 2 3 rfl
 have bd := a7.new_ bb
 refine st_nil (a8 _ _ (wp_seq_k fun cb au => ?_))
 refine wp_seq_k fun cc be => ?_
 refine wp_g0 [true, true] [] 19
   [ve (iv n), ve (.bool (decide (n < 0)))] ar (.eq (.eq (.nil))) ?_ ?_
 exact .m (fun k => k.fx 0 aS) <| .t (fun _ w hn k => ⟨_, v_bin rfl (k.eq1 0 6 rfl) rfl (fun _ => rfl) (r_lssK rfl), rfl⟩) .nil
 refine aftI ar a9 ba fun cd aT ak av aw bf al => ?_
 have aU := al.fx 0 aS
 have aV := al.fx 2 bF
 have ap := al.fx 3 bG
 have aW := al.ge 1 7 rfl
 have ax := bd.new_ bf
 refine st_nil (be _ _ ?_)
 rcases bc (decide (n < 0)) with aa | aa
 have aI := oT aa
 have bg := hB aW aa
 refine wp_cond_true bg ?_
 refine wp_g0 [true, true, false] [(2, true)] 19
   [ve (.int .u64 (((n % 18446744073709551616).toNat : Nat) : Int)), ve (.int .u64 (((-n).toNat : Nat) : Int)), vt] ak (.eq (.eq (.tt (.nil)))) ?_ ?_
 exact .m (fun k => k.fx 3 ap) <| .t (fun _ w hn k => ⟨_, v_negU rfl (k.eq1 0 8 rfl) (of_neg hlo (oT aa)), rfl⟩) <| .off .nil
 refine aftI ak av aw fun aX aY ay bh bi bj am => ?_
 have bH := am.fx 0 aU
 have bI := am.fx 2 aV
 have ce := am.fx 3 ap
 have aZ := am.ge 1 9 rfl
 have bk := ax.new_ bj
 refine st_take rfl rfl (y_assign (v := .int .u64 (((-n).toNat : Nat) : Int)) rfl aZ) rfl ?_
 obtain ⟨bJ, ab⟩ : ∃ a', a' = aX.put (some 3) (.int .u64 (((-n).toNat : Nat) : Int)) := ⟨_, rfl⟩
 have az := pz ab ay
 have bl := pd ab bh
 have bK := pn ab bH (by decide)
 have bL := pn ab bI (by decide)
 have cf := pn ab aZ (by decide)
 have a1 : bJ.eval (.tmp 3) = .int .u64 (((-n).toNat : Nat) : Int) := by rw [ab]; exact put_same _ _ _ (by rw [ay]; decide)
 show stepsTo _ _ _ _ _ (aX.put (some 3) (.int .u64 (((-n).toNat : Nat) : Int))) _
 rw [← ab]
 refine st_nil (au _ _ (wp_seq_k fun ch bm => ?_))
 refine wp_g0 [true, true, true, true, true, true, true, true, true, false] [(9, false)] 19
   [ve (.int .u64 (((-n).toNat : Nat) : Int)), ve (.int .u32 ((((-n).toNat) % 4294967296 : Nat) : Int)), ve (.int .u64 (((-n).toNat : Nat) : Int)), ve (.int .u64 ((((-n).toNat) / 4294967296 : Nat) : Int)), ve (.int .u32 (((((-n).toNat) / 4294967296) % 4294967296 : Nat) : Int)),
    (OP aY.heap.size 56 .u32 ([(((-n).toNat) % 4294967296), ((((-n).toNat) / 4294967296) % 4294967296)])), ve (iv n), vT, (fun (v_ : Value) (W : World) => ∃ (ae : Option Addr) (af : Nat), v_ = .agg #[.bool (decide (sgn true (val ([(((-n).toNat) % 4294967296), ((((-n).toNat) / 4294967296) % 4294967296)])) < 0)), sv ae (canon (sgn true (val ([(((-n).toNat) % 4294967296), ((((-n).toNat) / 4294967296) % 4294967296)]))).natAbs) af] ∧ SRow W .u32 ae (canon (sgn true (val ([(((-n).toNat) % 4294967296), ((((-n).toNat) / 4294967296) % 4294967296)]))).natAbs) af), vt] az (.eq (.eq (.eq (.eq (.eq (.cons (fun _ _ _ n ⟨_, _, e, h⟩ => ⟨_, _, e, h.new_ n⟩) (.eq (.eq (.cons (fun _ _ _ n ⟨_, _, e, h⟩ => ⟨_, _, e, h.new_ n⟩) (.tt (.nil))))))))))) ?_ ?_
 refine .m (fun k => k.fx 3 a1) <| .t (fun _ w hn k => ⟨_, v_conv rfl (k.eq1 0 10 rfl) (n_conv (by kernel_rfl) (by kernel_rfl) (by kernel_rfl) (n_wrap32 _)), rfl⟩) <| .m (fun k => k.fx 3 a1) <| .t (fun _ w hn k => ⟨_, v_bin rfl (k.eq1 2 12 rfl) rfl (fun _ => rfl) (n_shr ((-n).toNat) 32 (by decide)), rfl⟩) <| .t (fun _ w hn k => ⟨_, v_conv rfl (k.eq1 3 13 rfl) (n_conv (by kernel_rfl) (by kernel_rfl) (by kernel_rfl) (n_wrap32 _)), rfl⟩) ?_
 refine .o1 (tkA rfl (noG rfl) fun _ w hn k => (by
       exact x_bslice (k := .u32) (ps := [(0, .int .u32 ((((-n).toNat) % 4294967296 : Nat) : Int)), (1, .int .u32 (((((-n).toNat) / 4294967296) % 4294967296 : Nat) : Int))]) [(((-n).toNat) % 4294967296), ((((-n).toNat) / 4294967296) % 4294967296)] rfl (parts2 (k.eq1 1 11 rfl) (k.eq1 4 14 rfl)) elW rfl (by omega) (by omega) (by first | kernel_rfl | (simp only [enc, List.map_cons, List.map_nil, Int.toNat_natCast, Int.toNat_of_nonneg (by omega : (0 : Int) ≤ _)]; kernel_rfl)) fun A1 c2 W' hmo => ⟨A1, c2, rfl, (hmo.more hn.size)⟩)) ?_
 refine .m (fun k => k.fx 0 bK) <| .t (fun _ w hn k => ⟨_, v_bin rfl (k.eq1 6 16 rfl) rfl (fun _ => rfl) (r_lssK aa), rfl⟩) ?_
 refine .o1 (tkC rfl (noG rfl) rfl fun _ w hn k => (by
       obtain ⟨A5, c6, e7, bM⟩ : (OP aY.heap.size 56 .u32 ([(((-n).toNat) % 4294967296), ((((-n).toNat) / 4294967296) % 4294967296)])) _ _ := k.dep 5 15 (by kernel_rfl) (by kernel_rfl)
       refine ⟨#[sv A5 ([(((-n).toNat) % 4294967296), ((((-n).toNat) / 4294967296) % 4294967296)]) c6, .bool true], _, args2 e7 (k.eq1 7 17 rfl), fun w => by kernel_rfl, bmade_c _ ([(((-n).toNat) % 4294967296), ((((-n).toNat) / 4294967296) % 4294967296)]) _ true _ bM.row (two_limbs_m _), ?_⟩
       rintro e w' ⟨A9, bN, rfl, hmo0, hm⟩
       exact ⟨_, rfl, hm, ⟨A9, bN, rfl, hmo0⟩⟩)) ?_
 exact .off .nil
 refine aftI az bl bi fun bO ci b1 bn bo bp aA => ?_
 have a3 := aA.fx 2 bL
 obtain ⟨ai, ac, aB, bq⟩ : (fun (v_ : Value) (W : World) => ∃ (ae : Option Addr) (af : Nat), v_ = .agg #[.bool (decide (sgn true (val ([(((-n).toNat) % 4294967296), ((((-n).toNat) / 4294967296) % 4294967296)])) < 0)), sv ae (canon (sgn true (val ([(((-n).toNat) % 4294967296), ((((-n).toNat) / 4294967296) % 4294967296)]))).natAbs) af] ∧ SRow W .u32 ae (canon (sgn true (val ([(((-n).toNat) % 4294967296), ((((-n).toNat) / 4294967296) % 4294967296)]))).natAbs) af) _ _ := aA.got 8 18 rfl (by kernel_rfl)
 have aB : bO.eval (.tmp 18) = .agg #[.bool (decide (sgn true (val ([(((-n).toNat) % 4294967296), ((((-n).toNat) / 4294967296) % 4294967296)])) < 0)), sv ai (canon (sgn true (val ([(((-n).toNat) % 4294967296), ((((-n).toNat) / 4294967296) % 4294967296)]))).natAbs) ac] := aB
 have aC := bk.new_ bp
 obtain ⟨cj, -, aJ, br, aD, b2⟩ := s_two (v0 := .bool (decide (sgn true (val ([(((-n).toNat) % 4294967296), ((((-n).toNat) / 4294967296) % 4294967296)])) < 0))) (v1 := sv ai (canon (sgn true (val ([(((-n).toNat) % 4294967296), ((((-n).toNat) / 4294967296) % 4294967296)]))).natAbs) ac) Tryz.sizeOf26 rfl rfl rfl aC
 refine st_act rfl rfl fun cl bs => a_store' rfl a3 aB aJ (bs _ _ trivial ?_)
 have bt := bq.far aC aD (by first | rfl | decide | simp [notK])
 have bu := bo.trans aD (fun _ h b => by subst b; omega)
 refine st_nil (bm _ _ ?_)
 refine wp_ret (ret_k bn (v := .agg #[.bool (decide (sgn true (val ([(((-n).toNat) % 4294967296), ((((-n).toNat) / 4294967296) % 4294967296)])) < 0)), sv ai (canon (sgn true (val ([(((-n).toNat) % 4294967296), ((((-n).toNat) / 4294967296) % 4294967296)]))).natAbs) ac]) (res_c rfl a3 (l_two Tryz.isAgg26 Tryz.sizeOf26 br)) ?_)
 have hz1 : sgn true (val ([(((-n).toNat) % 4294967296), ((((-n).toNat) / 4294967296) % 4294967296)])) = n := of_yes hlo aa
 exact ⟨ai, ac, congrArg (fun z : Int => Ending.returned (Value.agg #[.bool (decide (z < 0)), sv ai (canon z.natAbs) ac])) hz1, Eq.mp (congrArg (fun z : Int => SRow _ .u32 ai (canon z.natAbs) ac) hz1) bt, bu⟩
 have aI := oF aa
 have bv := hB aW aa
 refine wp_cond_false bv ?_
 refine wp_skip ?_
 refine au _ _ ?_
 refine wp_seq_k fun cm bw => ?_
 refine wp_g0 [true, true, true, true, true, true, true, true, true, false] [(9, false)] 19
   [ve (.int .u64 (((n % 18446744073709551616).toNat : Nat) : Int)), ve (.int .u32 ((((n % 18446744073709551616).toNat) % 4294967296 : Nat) : Int)), ve (.int .u64 (((n % 18446744073709551616).toNat : Nat) : Int)), ve (.int .u64 ((((n % 18446744073709551616).toNat) / 4294967296 : Nat) : Int)), ve (.int .u32 (((((n % 18446744073709551616).toNat) / 4294967296) % 4294967296 : Nat) : Int)),
    (OP aT.heap.size 56 .u32 ([(((n % 18446744073709551616).toNat) % 4294967296), ((((n % 18446744073709551616).toNat) / 4294967296) % 4294967296)])), ve (iv n), vF, (fun (v_ : Value) (W : World) => ∃ (ag : Option Addr) (ah : Nat), v_ = .agg #[.bool (decide (sgn false (val ([(((n % 18446744073709551616).toNat) % 4294967296), ((((n % 18446744073709551616).toNat) / 4294967296) % 4294967296)])) < 0)), sv ag (canon (sgn false (val ([(((n % 18446744073709551616).toNat) % 4294967296), ((((n % 18446744073709551616).toNat) / 4294967296) % 4294967296)]))).natAbs) ah] ∧ SRow W .u32 ag (canon (sgn false (val ([(((n % 18446744073709551616).toNat) % 4294967296), ((((n % 18446744073709551616).toNat) / 4294967296) % 4294967296)]))).natAbs) ah), vt] ak (.eq (.eq (.eq (.eq (.eq (.cons (fun _ _ _ n ⟨_, _, e, h⟩ => ⟨_, _, e, h.new_ n⟩) (.eq (.eq (.cons (fun _ _ _ n ⟨_, _, e, h⟩ => ⟨_, _, e, h.new_ n⟩) (.tt (.nil))))))))))) ?_ ?_
 refine .m (fun k => k.fx 3 ap) <| .t (fun _ w hn k => ⟨_, v_conv rfl (k.eq1 0 10 rfl) (n_conv (by kernel_rfl) (by kernel_rfl) (by kernel_rfl) (n_wrap32 _)), rfl⟩) <| .m (fun k => k.fx 3 ap) <| .t (fun _ w hn k => ⟨_, v_bin rfl (k.eq1 2 12 rfl) rfl (fun _ => rfl) (n_shr ((n % 18446744073709551616).toNat) 32 (by decide)), rfl⟩) <| .t (fun _ w hn k => ⟨_, v_conv rfl (k.eq1 3 13 rfl) (n_conv (by kernel_rfl) (by kernel_rfl) (by kernel_rfl) (n_wrap32 _)), rfl⟩) ?_
 refine .o1 (tkA rfl (noG rfl) fun _ w hn k => (by
       exact x_bslice (k := .u32) (ps := [(0, .int .u32 ((((n % 18446744073709551616).toNat) % 4294967296 : Nat) : Int)), (1, .int .u32 (((((n % 18446744073709551616).toNat) / 4294967296) % 4294967296 : Nat) : Int))]) [(((n % 18446744073709551616).toNat) % 4294967296), ((((n % 18446744073709551616).toNat) / 4294967296) % 4294967296)] rfl (parts2 (k.eq1 1 11 rfl) (k.eq1 4 14 rfl)) elW rfl (by omega) (by omega) (by first | kernel_rfl | (simp only [enc, List.map_cons, List.map_nil, Int.toNat_natCast, Int.toNat_of_nonneg (by omega : (0 : Int) ≤ _)]; kernel_rfl)) fun bR bS W' hmo => ⟨bR, bS, rfl, (hmo.more hn.size)⟩)) ?_
 refine .m (fun k => k.fx 0 aU) <| .t (fun _ w hn k => ⟨_, v_bin rfl (k.eq1 6 16 rfl) rfl (fun _ => rfl) (r_lssK aa), rfl⟩) ?_
 refine .o1 (tkC rfl (noG rfl) rfl fun _ w hn k => (by
       obtain ⟨bT, bU, bV, bx⟩ : (OP aT.heap.size 56 .u32 ([(((n % 18446744073709551616).toNat) % 4294967296), ((((n % 18446744073709551616).toNat) / 4294967296) % 4294967296)])) _ _ := k.dep 5 15 (by kernel_rfl) (by kernel_rfl)
       refine ⟨#[sv bT ([(((n % 18446744073709551616).toNat) % 4294967296), ((((n % 18446744073709551616).toNat) / 4294967296) % 4294967296)]) bU, .bool false], _, args2 bV (k.eq1 7 17 rfl), fun w => by kernel_rfl, bmade_c _ ([(((n % 18446744073709551616).toNat) % 4294967296), ((((n % 18446744073709551616).toNat) / 4294967296) % 4294967296)]) _ false _ bx.row (two_limbs_m _), ?_⟩
       rintro e w' ⟨bW, bX, rfl, hmo0, hm⟩
       exact ⟨_, rfl, hm, ⟨bW, bX, rfl, hmo0⟩⟩)) ?_
 exact .off .nil
 refine aftI ak av aw fun bY cn b3 bz aK bA aE => ?_
 have a4 := aE.fx 2 aV
 obtain ⟨aj, ad, aF, bB⟩ : (fun (v_ : Value) (W : World) => ∃ (ag : Option Addr) (ah : Nat), v_ = .agg #[.bool (decide (sgn false (val ([(((n % 18446744073709551616).toNat) % 4294967296), ((((n % 18446744073709551616).toNat) / 4294967296) % 4294967296)])) < 0)), sv ag (canon (sgn false (val ([(((n % 18446744073709551616).toNat) % 4294967296), ((((n % 18446744073709551616).toNat) / 4294967296) % 4294967296)]))).natAbs) ah] ∧ SRow W .u32 ag (canon (sgn false (val ([(((n % 18446744073709551616).toNat) % 4294967296), ((((n % 18446744073709551616).toNat) / 4294967296) % 4294967296)]))).natAbs) ah) _ _ := aE.got 8 18 rfl (by kernel_rfl)
 have aF : bY.eval (.tmp 18) = .agg #[.bool (decide (sgn false (val ([(((n % 18446744073709551616).toNat) % 4294967296), ((((n % 18446744073709551616).toNat) / 4294967296) % 4294967296)])) < 0)), sv aj (canon (sgn false (val ([(((n % 18446744073709551616).toNat) % 4294967296), ((((n % 18446744073709551616).toNat) / 4294967296) % 4294967296)]))).natAbs) ad] := aF
 have aG := ax.new_ bA
 obtain ⟨b4, -, aH, aL, aq, bZ⟩ := s_two (v0 := .bool (decide (sgn false (val ([(((n % 18446744073709551616).toNat) % 4294967296), ((((n % 18446744073709551616).toNat) / 4294967296) % 4294967296)])) < 0))) (v1 := sv aj (canon (sgn false (val ([(((n % 18446744073709551616).toNat) % 4294967296), ((((n % 18446744073709551616).toNat) / 4294967296) % 4294967296)]))).natAbs) ad) Tryz.sizeOf26 rfl rfl rfl aG
 refine st_act rfl rfl fun b5 aM => a_store' rfl a4 aF aH (aM _ _ trivial ?_)
 have aN := bB.far aG aq (by first | rfl | decide | simp [notK])
 have aO := aK.trans aq (fun _ h b => by subst b; omega)
 refine st_nil (bw _ _ ?_)
 refine wp_ret (ret_k bz (v := .agg #[.bool (decide (sgn false (val ([(((n % 18446744073709551616).toNat) % 4294967296), ((((n % 18446744073709551616).toNat) / 4294967296) % 4294967296)])) < 0)), sv aj (canon (sgn false (val ([(((n % 18446744073709551616).toNat) % 4294967296), ((((n % 18446744073709551616).toNat) / 4294967296) % 4294967296)]))).natAbs) ad]) (res_c rfl a4 (l_two Tryz.isAgg26 Tryz.sizeOf26 aL)) ?_)
 have hz1 : sgn false (val ([(((n % 18446744073709551616).toNat) % 4294967296), ((((n % 18446744073709551616).toNat) / 4294967296) % 4294967296)])) = n := of_no hhi aa
 exact ⟨aj, ad, congrArg (fun z : Int => Ending.returned (Value.agg #[.bool (decide (z < 0)), sv aj (canon z.natAbs) ad])) hz1, Eq.mp (congrArg (fun z : Int => SRow _ .u32 aj (canon z.natAbs) ad) hz1) aN, aO⟩
theorem sequal32_c (Aa : Option Addr) (a : List Nat) (ca : Nat) (Ab : Option Addr) (b : List Nat) (cb : Nat) (w : World) (hra : SRow w .u32 Aa a ca) (hrb : SRow w .u32 Ab b cb) : Calls Tryz.prog 49 #[sv Aa a ca, sv Ab b cb] w (IsRet (.bool (decide (a = b))) w) := by
 refine enter_abs Tryz.func49 rfl fun a0 au bS hp => ?_
 have au : a0.tmps.size = 26 := au
 have bT : New w w := Upd.refl _ _
 have hp0 : a0.eval (.tmp 0) = sv Aa a ca := hp 0 _ rfl
 have hp1 : a0.eval (.tmp 1) = sv Ab b cb := hp 1 _ rfl
 have hmx := hra.max
 have hmy := hrb.max
 refine wp_seq_k fun K1 bU => ?_
 refine wp_g0 [true] [] 26
   [vF] au (.eq (.nil)) ?_ ?_
 exact .t (fun _ w hn k => ⟨_, v_assign rfl rfl, rfl⟩) .nil
 refine aftI au bS bT fun a2 w3 av a9 aB c9 ba => ?_
 have h8 := ba.fx 0 hp0
 have h9 := ba.fx 1 hp1
 refine st_nil (bU _ _ (wp_seq_k fun da bl => ?_))
 refine wp_seq_k fun db aC => ?_
 rcases bc (decide ((a.length : Int) = (b.length : Int))) with af | af
 have al := oT af
 refine wp_g0 [true, true, true, true, true] [] 26
   [ve (sv Aa a ca), ve (iv (a.length : Int)), ve (sv Ab b cb), ve (iv (b.length : Int)), vF] av (.eq (.eq (.eq (.eq (.eq (.nil)))))) ?_ ?_
 exact .m (fun k => k.fx 0 h8) <| .t (fun _ w hn k => ⟨_, v_lenR rfl elW (k.eq1 0 6 rfl), rfl⟩) <| .m (fun k => k.fx 1 h9) <| .t (fun _ w hn k => ⟨_, v_lenR rfl elW (k.eq1 2 8 rfl), rfl⟩) <| .t (fun _ w hn k => ⟨_, v_bin rfl (k.eq1 1 7 rfl) (k.eq1 3 9 rfl) (fun _ => rfl) (r_neq af), rfl⟩) .nil
 refine aftI av a9 aB fun dc dd aD bm bn cJ ar => ?_
 have bb := ar.fx 0 h8
 have bV := ar.fx 1 h9
 have bW := ar.ge 4 10 rfl
 refine st_nil (aC _ _ ?_)
 refine wp_cond_false bW ?_
 refine wp_skip ?_
 refine bl _ _ ?_
 refine wp_seq_k fun de bo => ?_
 refine wp_seq_k fun df bp => ?_
 refine wp_g0 [true, true, true] [] 26
   [ve (sv Aa a ca), ve (iv (a.length : Int)), ve (iv 0)] aD (.eq (.eq (.eq (.nil)))) ?_ ?_
 exact .m (fun k => k.fx 0 bb) <| .t (fun _ w hn k => ⟨_, v_lenR rfl elW (k.eq1 0 11 rfl), rfl⟩) <| .t (fun _ w hn k => ⟨_, v_move rfl rfl, rfl⟩) .nil
 refine aftI aD bm bn fun dg dh bq br bs cK am => ?_
 have bX := am.fx 0 bb
 have bY := am.fx 1 bV
 have bZ := am.ge 1 12 rfl
 have b0 := am.ge 2 13 rfl
 refine st_nil (bp _ _ ?_)
 refine wp_block ?_
 refine wp_loopX (fun (mm : Nat) (aa : Act) (ww : World) => ∃ (i : Nat), mm = a.length - i ∧ aa.tmps.size = 26 ∧ aa.defers = [] ∧ New w ww ∧ aa.eval (.tmp 13) = iv (i : Int) ∧ aa.eval (.tmp 0) = sv Aa a ca ∧ aa.eval (.tmp 1) = sv Ab b cb ∧ aa.eval (.tmp 12) = iv (a.length : Int) ∧ (i ≤ a.length) ∧ (∀ j, j < i → a.getD j 0 = b.getD j 0)) (fun mm => mm) ⟨_, ⟨0, rfl, bq, br, bs, b0, bX, bY, bZ, (Nat.zero_le _), (fun j h => absurd h (Nat.not_lt_zero _))⟩⟩ ?_
 rintro mm di dj ⟨i, hmm, aE, bt, bu, bd, b1, b2, be, hi, heq⟩
 refine wp_seq_k fun dk bv => ?_
 refine wp_g0 [true] [] 26
   [ve (.bool (decide ((i : Int) < (a.length : Int))))] aE (.eq (.nil)) ?_ ?_
 exact .t (fun _ w hn k => ⟨_, v_bin rfl (k.fx 13 bd) (k.fx 12 be) (fun _ => rfl) (r_lssK rfl), rfl⟩) .nil
 refine aftI aE bt bu fun dl dm an aF aG cL ag => ?_
 have bf := ag.fx 13 bd
 have b3 := ag.fx 0 b1
 have b4 := ag.fx 1 b2
 have b5 := ag.fx 12 be
 have bg := ag.ge 0 14 rfl
 refine st_nil (bv _ _ (wp_seq_k fun dn bw => ?_))
 rcases bc (decide ((i : Int) < (a.length : Int))) with ah | ah
 have aM := oT ah
 have bx := hB bg ah
 refine wp_cond_true bx ?_
 refine wp_skip ?_
 refine bw _ _ ?_
 refine wp_seq_k fun dp bz => ?_
 refine wp_block ?_
 refine wp_seq_k fun dq bA => ?_
 refine wp_g0 [true, true] [] 26
   [ve (iv (i : Int)), ve (iv (i : Int))] an (.eq (.eq (.nil))) ?_ ?_
 exact .m (fun k => k.fx 13 bf) <| .a (fun k => k.eq1 0 15 rfl) .nil
 refine aftI an aF aG fun dr ds ao aH ad cM ai => ?_
 have bh := ai.fx 13 bf
 have aw := ai.fx 0 b3
 have ax := ai.fx 1 b4
 have bi := ai.fx 12 b5
 have ay := ai.ge 1 5 rfl
 refine st_nil (bA _ _ (wp_seq_k fun dt aI => ?_))
 rcases bc (decide (((a.getD i 0 : Nat) : Int) = ((b.getD i 0 : Nat) : Int))) with ae | ae
 have ap := oT ae
 refine wp_g0 (.replicate 9 true) [] 26
   [ve (sv Aa a ca), ve (iv (i : Int)),
    (EP (.int .u32 ((a.getD i 0 : Nat) : Int))), ve (.int .u32 ((a.getD i 0 : Nat) : Int)), ve (sv Ab b cb), ve (iv (i : Int)),
    (EP (.int .u32 ((b.getD i 0 : Nat) : Int))), ve (.int .u32 ((b.getD i 0 : Nat) : Int)), vF] ao (.eq (.eq (.cons (fun _ _ _ n ⟨_, _, e, h⟩ => ⟨_, _, e, h.new_ n⟩) (.eq (.eq (.eq (.cons (fun _ _ _ n ⟨_, _, e, h⟩ => ⟨_, _, e, h.new_ n⟩) (.eq (.eq (.nil)))))))))) ?_ ?_
 refine .m (fun k => k.fx 0 aw) <| .m (fun k => k.fx 5 ay) ?_
 refine .o1 (tk rfl rfl fun _ w hn k => (by
       exact x_eaddr (k := .u32) rfl elW (k.eq1 0 16 rfl) (k.eq1 1 17 rfl) (hra.new_ (ad.transNew hn)) (by omega) fun cc cd hme => ⟨cc, cd, rfl, hme⟩)) ?_
 refine .o1 (tk rfl rfl fun _ w hn k => (by
       obtain ⟨du, dv, ce, bB⟩ : (EP (.int .u32 ((a.getD i 0 : Nat) : Int))) _ _ := k.dep 2 18 (by kernel_rfl) (by kernel_rfl)
       exact ⟨_, v_load rfl ce (l_one Tryz.isAgg56 bB.1), rfl⟩)) ?_
 refine .m (fun k => k.fx 1 ax) <| .m (fun k => k.fx 5 ay) ?_
 refine .o1 (tk rfl rfl fun _ w hn k => (by
       exact x_eaddr (k := .u32) rfl elW (k.eq1 4 20 rfl) (k.eq1 5 21 rfl) (hrb.new_ (ad.transNew hn)) (by omega) fun cf ch hme => ⟨cf, ch, rfl, hme⟩)) ?_
 refine .o1 (tk rfl rfl fun _ w hn k => (by
       obtain ⟨dw, dx, ci, bC⟩ : (EP (.int .u32 ((b.getD i 0 : Nat) : Int))) _ _ := k.dep 6 22 (by kernel_rfl) (by kernel_rfl)
       exact ⟨_, v_load rfl ci (l_one Tryz.isAgg56 bC.1), rfl⟩)) ?_
 exact .t (fun _ w hn k => ⟨_, v_bin rfl (k.eq1 3 19 rfl) (k.eq1 7 23 rfl) (fun _ => rfl) (r_neq ae), rfl⟩) .nil
 refine aftI ao aH ad fun dy dz aJ bD bE cN aj => ?_
 have bj := aj.fx 13 bh
 have cj := aj.fx 0 aw
 have cl := aj.fx 1 ax
 have cm := aj.fx 12 bi
 have cn := aj.ge 8 24 rfl
 refine st_nil (aI _ _ ?_)
 refine wp_cond_false cn ?_
 refine wp_skip ?_
 refine bz _ _ ?_
 refine wp_g0 [true, false] [(1, true)] 26
   [ve (iv ((i + 1 : Nat) : Int)), vt] aJ (.eq (.tt (.nil))) ?_ ?_
 exact .t (fun _ w hn k => ⟨_, v_bin rfl (k.fx 13 bj) rfl (fun _ => rfl) (n_add (by omega) (IntWalk.i64_in _ (by omega))), rfl⟩) <| .off .nil
 refine aftI aJ bD bE fun bk dA aK bF aN cO ak => ?_
 have dB := ak.fx 13 bj
 have co := ak.fx 0 cj
 have cp := ak.fx 1 cl
 have cq := ak.fx 12 cm
 have aL := ak.ge 0 25 rfl
 refine st_take rfl rfl (y_move (v := iv ((i + 1 : Nat) : Int)) rfl aL) rfl ?_
 obtain ⟨bG, ab⟩ : ∃ a', a' = bk.put (some 13) (iv ((i + 1 : Nat) : Int)) := ⟨_, rfl⟩
 have aO := pz ab aK
 have aP := pd ab bF
 have bH := pn ab co (by decide)
 have bI := pn ab cp (by decide)
 have bJ := pn ab cq (by decide)
 have cP := pn ab aL (by decide)
 have bK : bG.eval (.tmp 13) = iv ((i + 1 : Nat) : Int) := by rw [ab]; exact put_same _ _ _ (by rw [aK]; decide)
 show stepsTo _ _ _ _ _ (bk.put (some 13) (iv ((i + 1 : Nat) : Int))) _
 rw [← ab]
 refine st_nil ?_
 refine then_n ?_
 exact ⟨_, ⟨i + 1, rfl, aO, aP, aN, (bK.trans (congrArg (Value.int .i64) (by omega))), bH, bI, bJ, (by omega), (eq_up heq (by omega) ae)⟩, (by omega)⟩
 have ap := oF ae
 refine wp_g0 (.replicate 9 true) [] 26
   [ve (sv Aa a ca), ve (iv (i : Int)),
    (EP (.int .u32 ((a.getD i 0 : Nat) : Int))), ve (.int .u32 ((a.getD i 0 : Nat) : Int)), ve (sv Ab b cb), ve (iv (i : Int)),
    (EP (.int .u32 ((b.getD i 0 : Nat) : Int))), ve (.int .u32 ((b.getD i 0 : Nat) : Int)), vT] ao (.eq (.eq (.cons (fun _ _ _ n ⟨_, _, e, h⟩ => ⟨_, _, e, h.new_ n⟩) (.eq (.eq (.eq (.cons (fun _ _ _ n ⟨_, _, e, h⟩ => ⟨_, _, e, h.new_ n⟩) (.eq (.eq (.nil)))))))))) ?_ ?_
 refine .m (fun k => k.fx 0 aw) <| .m (fun k => k.fx 5 ay) ?_
 refine .o1 (tk rfl rfl fun _ w hn k => (by
       exact x_eaddr (k := .u32) rfl elW (k.eq1 0 16 rfl) (k.eq1 1 17 rfl) (hra.new_ (ad.transNew hn)) (by omega) fun cv cw hme => ⟨cv, cw, rfl, hme⟩)) ?_
 refine .o1 (tk rfl rfl fun _ w hn k => (by
       obtain ⟨dC, dD, cx, bL⟩ : (EP (.int .u32 ((a.getD i 0 : Nat) : Int))) _ _ := k.dep 2 18 (by kernel_rfl) (by kernel_rfl)
       exact ⟨_, v_load rfl cx (l_one Tryz.isAgg56 bL.1), rfl⟩)) ?_
 refine .m (fun k => k.fx 1 ax) <| .m (fun k => k.fx 5 ay) ?_
 refine .o1 (tk rfl rfl fun _ w hn k => (by
       exact x_eaddr (k := .u32) rfl elW (k.eq1 4 20 rfl) (k.eq1 5 21 rfl) (hrb.new_ (ad.transNew hn)) (by omega) fun cy cz hme => ⟨cy, cz, rfl, hme⟩)) ?_
 refine .o1 (tk rfl rfl fun _ w hn k => (by
       obtain ⟨dE, dF, cA, bM⟩ : (EP (.int .u32 ((b.getD i 0 : Nat) : Int))) _ _ := k.dep 6 22 (by kernel_rfl) (by kernel_rfl)
       exact ⟨_, v_load rfl cA (l_one Tryz.isAgg56 bM.1), rfl⟩)) ?_
 exact .t (fun _ w hn k => ⟨_, v_bin rfl (k.eq1 3 19 rfl) (k.eq1 7 23 rfl) (fun _ => rfl) (r_neq ae), rfl⟩) .nil
 refine aftI ao aH ad fun cQ cR az aQ aR cB ac => ?_
 have cS := ac.fx 13 bh
 have cT := ac.fx 0 aw
 have cU := ac.fx 1 ax
 have cV := ac.fx 12 bi
 have bN := ac.ge 8 24 rfl
 refine st_nil (aI _ _ ?_)
 refine wp_cond_true bN ?_
 refine wp_seq_k fun cW aS => ?_
 refine wp_g0 [true] [] 26
   [vF] az (.eq (.nil)) ?_ ?_
 exact .t (fun _ w hn k => ⟨_, v_assign rfl rfl, rfl⟩) .nil
 refine aftI az aQ aR fun cX cY cC aT aU cD aV => ?_
 have bO := aV.ge 0 4 rfl
 refine st_nil (aS _ _ ?_)
 refine wp_ret (ret_k aT (v := .bool false) (res_t rfl bO _) ?_)
 exact ⟨by rw [decide_eq_false (fun e => by rw [e] at ap; exact ap rfl)], aU⟩
 have aM := oF ah
 have aW := hB bg ah
 refine wp_cond_false aW ?_
 refine wp_exit ?_
 refine bo _ _ ?_
 refine wp_seq_k fun cZ aX => ?_
 refine wp_g0 [true] [] 26
   [vT] an (.eq (.nil)) ?_ ?_
 exact .t (fun _ w hn k => ⟨_, v_assign rfl rfl, rfl⟩) .nil
 refine aftI an aF aG fun c0 c1 cE aY aZ cF a1 => ?_
 have bP := a1.ge 0 4 rfl
 refine st_nil (aX _ _ ?_)
 refine wp_ret (ret_k aY (v := .bool true) (res_t rfl bP _) ?_)
 exact ⟨by rw [decide_eq_true (eq_all (by omega) (by omega : i = a.length) heq)], aZ⟩
 have al := oF af
 refine wp_g0 [true, true, true, true, true] [] 26
   [ve (sv Aa a ca), ve (iv (a.length : Int)), ve (sv Ab b cb), ve (iv (b.length : Int)), vT] av (.eq (.eq (.eq (.eq (.eq (.nil)))))) ?_ ?_
 exact .m (fun k => k.fx 0 h8) <| .t (fun _ w hn k => ⟨_, v_lenR rfl elW (k.eq1 0 6 rfl), rfl⟩) <| .m (fun k => k.fx 1 h9) <| .t (fun _ w hn k => ⟨_, v_lenR rfl elW (k.eq1 2 8 rfl), rfl⟩) <| .t (fun _ w hn k => ⟨_, v_bin rfl (k.eq1 1 7 rfl) (k.eq1 3 9 rfl) (fun _ => rfl) (r_neq af), rfl⟩) .nil
 refine aftI av a9 aB fun c2 c3 aA a3 a4 cG aq => ?_
 have c4 := aq.fx 0 h8
 have c5 := aq.fx 1 h9
 have bQ := aq.ge 4 10 rfl
 refine st_nil (aC _ _ ?_)
 refine wp_cond_true bQ ?_
 refine wp_seq_k fun c6 a5 => ?_
 refine wp_g0 [true] [] 26
   [vF] aA (.eq (.nil)) ?_ ?_
 exact .t (fun _ w hn k => ⟨_, v_assign rfl rfl, rfl⟩) .nil
 refine aftI aA a3 a4 fun c7 c8 cH a6 a7 cI a8 => ?_
 have bR := a8.ge 0 4 rfl
 refine st_nil (a5 _ _ ?_)
 refine wp_ret (ret_k a6 (v := .bool false) (res_t rfl bR _) ?_)
 exact ⟨by rw [decide_eq_false (fun e => by rw [e] at al; exact al rfl)], a7⟩
theorem sequal16_c (Aa : Option Addr) (a : List Nat) (ca : Nat) (Ab : Option Addr) (b : List Nat) (cb : Nat) (w : World) (hra : SRow w .u16 Aa a ca) (hrb : SRow w .u16 Ab b cb) : Calls Tryz.prog 50 #[sv Aa a ca, sv Ab b cb] w (IsRet (.bool (decide (a = b))) w) := by
 refine enter_abs Tryz.func50 rfl fun a0 au bS hp => ?_
 have au : a0.tmps.size = 26 := au
 have bT : New w w := Upd.refl _ _
 have hp0 : a0.eval (.tmp 0) = sv Aa a ca := hp 0 _ rfl
 have hp1 : a0.eval (.tmp 1) = sv Ab b cb := hp 1 _ rfl
 have hmx := hra.max
 have hmy := hrb.max
 refine wp_seq_k fun K1 bU => ?_
 refine wp_g0 [true] [] 26
   [vF] au (.eq (.nil)) ?_ ?_
 exact .t (fun _ w hn k => ⟨_, v_assign rfl rfl, rfl⟩) .nil
 refine aftI au bS bT fun a2 w3 av a9 aB c9 ba => ?_
 have h8 := ba.fx 0 hp0
 have h9 := ba.fx 1 hp1
 refine st_nil (bU _ _ (wp_seq_k fun da bl => ?_))
 refine wp_seq_k fun db aC => ?_
 rcases bc (decide ((a.length : Int) = (b.length : Int))) with af | af
 have al := oT af
 refine wp_g0 [true, true, true, true, true] [] 26
   [ve (sv Aa a ca), ve (iv (a.length : Int)), ve (sv Ab b cb), ve (iv (b.length : Int)), vF] av (.eq (.eq (.eq (.eq (.eq (.nil)))))) ?_ ?_
 exact .m (fun k => k.fx 0 h8) <| .t (fun _ w hn k => ⟨_, v_lenR rfl elU (k.eq1 0 6 rfl), rfl⟩) <| .m (fun k => k.fx 1 h9) <| .t (fun _ w hn k => ⟨_, v_lenR rfl elU (k.eq1 2 8 rfl), rfl⟩) <| .t (fun _ w hn k => ⟨_, v_bin rfl (k.eq1 1 7 rfl) (k.eq1 3 9 rfl) (fun _ => rfl) (r_neq af), rfl⟩) .nil
 refine aftI av a9 aB fun dc dd aD bm bn cJ ar => ?_
 have bb := ar.fx 0 h8
 have bV := ar.fx 1 h9
 have bW := ar.ge 4 10 rfl
 refine st_nil (aC _ _ ?_)
 refine wp_cond_false bW ?_
 refine wp_skip ?_
 refine bl _ _ ?_
 refine wp_seq_k fun de bo => ?_
 refine wp_seq_k fun df bp => ?_
 refine wp_g0 [true, true, true] [] 26
   [ve (sv Aa a ca), ve (iv (a.length : Int)), ve (iv 0)] aD (.eq (.eq (.eq (.nil)))) ?_ ?_
 exact .m (fun k => k.fx 0 bb) <| .t (fun _ w hn k => ⟨_, v_lenR rfl elU (k.eq1 0 11 rfl), rfl⟩) <| .t (fun _ w hn k => ⟨_, v_move rfl rfl, rfl⟩) .nil
 refine aftI aD bm bn fun dg dh bq br bs cK am => ?_
 have bX := am.fx 0 bb
 have bY := am.fx 1 bV
 have bZ := am.ge 1 12 rfl
 have b0 := am.ge 2 13 rfl
 refine st_nil (bp _ _ ?_)
 refine wp_block ?_
 refine wp_loopX (fun (mm : Nat) (aa : Act) (ww : World) => ∃ (i : Nat), mm = a.length - i ∧ aa.tmps.size = 26 ∧ aa.defers = [] ∧ New w ww ∧ aa.eval (.tmp 13) = iv (i : Int) ∧ aa.eval (.tmp 0) = sv Aa a ca ∧ aa.eval (.tmp 1) = sv Ab b cb ∧ aa.eval (.tmp 12) = iv (a.length : Int) ∧ (i ≤ a.length) ∧ (∀ j, j < i → a.getD j 0 = b.getD j 0)) (fun mm => mm) ⟨_, ⟨0, rfl, bq, br, bs, b0, bX, bY, bZ, (Nat.zero_le _), (fun j h => absurd h (Nat.not_lt_zero _))⟩⟩ ?_
 rintro mm di dj ⟨i, hmm, aE, bt, bu, bd, b1, b2, be, hi, heq⟩
 refine wp_seq_k fun dk bv => ?_
 refine wp_g0 [true] [] 26
   [ve (.bool (decide ((i : Int) < (a.length : Int))))] aE (.eq (.nil)) ?_ ?_
 exact .t (fun _ w hn k => ⟨_, v_bin rfl (k.fx 13 bd) (k.fx 12 be) (fun _ => rfl) (r_lssK rfl), rfl⟩) .nil
 refine aftI aE bt bu fun dl dm an aF aG cL ag => ?_
 have bf := ag.fx 13 bd
 have b3 := ag.fx 0 b1
 have b4 := ag.fx 1 b2
 have b5 := ag.fx 12 be
 have bg := ag.ge 0 14 rfl
 refine st_nil (bv _ _ (wp_seq_k fun dn bw => ?_))
 rcases bc (decide ((i : Int) < (a.length : Int))) with ah | ah
 have aM := oT ah
 have bx := hB bg ah
 refine wp_cond_true bx ?_
 refine wp_skip ?_
 refine bw _ _ ?_
 refine wp_seq_k fun dp bz => ?_
 refine wp_block ?_
 refine wp_seq_k fun dq bA => ?_
 refine wp_g0 [true, true] [] 26
   [ve (iv (i : Int)), ve (iv (i : Int))] an (.eq (.eq (.nil))) ?_ ?_
 exact .m (fun k => k.fx 13 bf) <| .a (fun k => k.eq1 0 15 rfl) .nil
 refine aftI an aF aG fun dr ds ao aH ad cM ai => ?_
 have bh := ai.fx 13 bf
 have aw := ai.fx 0 b3
 have ax := ai.fx 1 b4
 have bi := ai.fx 12 b5
 have ay := ai.ge 1 5 rfl
 refine st_nil (bA _ _ (wp_seq_k fun dt aI => ?_))
 rcases bc (decide (((a.getD i 0 : Nat) : Int) = ((b.getD i 0 : Nat) : Int))) with ae | ae
 have ap := oT ae
 refine wp_g0 (.replicate 9 true) [] 26
   [ve (sv Aa a ca), ve (iv (i : Int)),
    (EP (.int .u16 ((a.getD i 0 : Nat) : Int))), ve (.int .u16 ((a.getD i 0 : Nat) : Int)), ve (sv Ab b cb), ve (iv (i : Int)),
    (EP (.int .u16 ((b.getD i 0 : Nat) : Int))), ve (.int .u16 ((b.getD i 0 : Nat) : Int)), vF] ao (.eq (.eq (.cons (fun _ _ _ n ⟨_, _, e, h⟩ => ⟨_, _, e, h.new_ n⟩) (.eq (.eq (.eq (.cons (fun _ _ _ n ⟨_, _, e, h⟩ => ⟨_, _, e, h.new_ n⟩) (.eq (.eq (.nil)))))))))) ?_ ?_
 refine .m (fun k => k.fx 0 aw) <| .m (fun k => k.fx 5 ay) ?_
 refine .o1 (tk rfl rfl fun _ w hn k => (by
       exact x_eaddr (k := .u16) rfl elU (k.eq1 0 16 rfl) (k.eq1 1 17 rfl) (hra.new_ (ad.transNew hn)) (by omega) fun cc cd hme => ⟨cc, cd, rfl, hme⟩)) ?_
 refine .o1 (tk rfl rfl fun _ w hn k => (by
       obtain ⟨du, dv, ce, bB⟩ : (EP (.int .u16 ((a.getD i 0 : Nat) : Int))) _ _ := k.dep 2 18 (by kernel_rfl) (by kernel_rfl)
       exact ⟨_, v_load rfl ce (l_one Tryz.isAgg74 bB.1), rfl⟩)) ?_
 refine .m (fun k => k.fx 1 ax) <| .m (fun k => k.fx 5 ay) ?_
 refine .o1 (tk rfl rfl fun _ w hn k => (by
       exact x_eaddr (k := .u16) rfl elU (k.eq1 4 20 rfl) (k.eq1 5 21 rfl) (hrb.new_ (ad.transNew hn)) (by omega) fun cf ch hme => ⟨cf, ch, rfl, hme⟩)) ?_
 refine .o1 (tk rfl rfl fun _ w hn k => (by
       obtain ⟨dw, dx, ci, bC⟩ : (EP (.int .u16 ((b.getD i 0 : Nat) : Int))) _ _ := k.dep 6 22 (by kernel_rfl) (by kernel_rfl)
       exact ⟨_, v_load rfl ci (l_one Tryz.isAgg74 bC.1), rfl⟩)) ?_
 exact .t (fun _ w hn k => ⟨_, v_bin rfl (k.eq1 3 19 rfl) (k.eq1 7 23 rfl) (fun _ => rfl) (r_neq ae), rfl⟩) .nil
 refine aftI ao aH ad fun dy dz aJ bD bE cN aj => ?_
 have bj := aj.fx 13 bh
 have cj := aj.fx 0 aw
 have cl := aj.fx 1 ax
 have cm := aj.fx 12 bi
 have cn := aj.ge 8 24 rfl
 refine st_nil (aI _ _ ?_)
 refine wp_cond_false cn ?_
 refine wp_skip ?_
 refine bz _ _ ?_
 refine wp_g0 [true, false] [(1, true)] 26
   [ve (iv ((i + 1 : Nat) : Int)), vt] aJ (.eq (.tt (.nil))) ?_ ?_
 exact .t (fun _ w hn k => ⟨_, v_bin rfl (k.fx 13 bj) rfl (fun _ => rfl) (n_add (by omega) (IntWalk.i64_in _ (by omega))), rfl⟩) <| .off .nil
 refine aftI aJ bD bE fun bk dA aK bF aN cO ak => ?_
 have dB := ak.fx 13 bj
 have co := ak.fx 0 cj
 have cp := ak.fx 1 cl
 have cq := ak.fx 12 cm
 have aL := ak.ge 0 25 rfl
 refine st_take rfl rfl (y_move (v := iv ((i + 1 : Nat) : Int)) rfl aL) rfl ?_
 obtain ⟨bG, ab⟩ : ∃ a', a' = bk.put (some 13) (iv ((i + 1 : Nat) : Int)) := ⟨_, rfl⟩
 have aO := pz ab aK
 have aP := pd ab bF
 have bH := pn ab co (by decide)
 have bI := pn ab cp (by decide)
 have bJ := pn ab cq (by decide)
 have cP := pn ab aL (by decide)
 have bK : bG.eval (.tmp 13) = iv ((i + 1 : Nat) : Int) := by rw [ab]; exact put_same _ _ _ (by rw [aK]; decide)
 show stepsTo _ _ _ _ _ (bk.put (some 13) (iv ((i + 1 : Nat) : Int))) _
 rw [← ab]
 refine st_nil ?_
 refine then_n ?_
 exact ⟨_, ⟨i + 1, rfl, aO, aP, aN, (bK.trans (congrArg (Value.int .i64) (by omega))), bH, bI, bJ, (by omega), (eq_up heq (by omega) ae)⟩, (by omega)⟩
 have ap := oF ae
 refine wp_g0 (.replicate 9 true) [] 26
   [ve (sv Aa a ca), ve (iv (i : Int)),
    (EP (.int .u16 ((a.getD i 0 : Nat) : Int))), ve (.int .u16 ((a.getD i 0 : Nat) : Int)), ve (sv Ab b cb), ve (iv (i : Int)),
    (EP (.int .u16 ((b.getD i 0 : Nat) : Int))), ve (.int .u16 ((b.getD i 0 : Nat) : Int)), vT] ao (.eq (.eq (.cons (fun _ _ _ n ⟨_, _, e, h⟩ => ⟨_, _, e, h.new_ n⟩) (.eq (.eq (.eq (.cons (fun _ _ _ n ⟨_, _, e, h⟩ => ⟨_, _, e, h.new_ n⟩) (.eq (.eq (.nil)))))))))) ?_ ?_
 refine .m (fun k => k.fx 0 aw) <| .m (fun k => k.fx 5 ay) ?_
 refine .o1 (tk rfl rfl fun _ w hn k => (by
       exact x_eaddr (k := .u16) rfl elU (k.eq1 0 16 rfl) (k.eq1 1 17 rfl) (hra.new_ (ad.transNew hn)) (by omega) fun cv cw hme => ⟨cv, cw, rfl, hme⟩)) ?_
 refine .o1 (tk rfl rfl fun _ w hn k => (by
       obtain ⟨dC, dD, cx, bL⟩ : (EP (.int .u16 ((a.getD i 0 : Nat) : Int))) _ _ := k.dep 2 18 (by kernel_rfl) (by kernel_rfl)
       exact ⟨_, v_load rfl cx (l_one Tryz.isAgg74 bL.1), rfl⟩)) ?_
 refine .m (fun k => k.fx 1 ax) <| .m (fun k => k.fx 5 ay) ?_
 refine .o1 (tk rfl rfl fun _ w hn k => (by
       exact x_eaddr (k := .u16) rfl elU (k.eq1 4 20 rfl) (k.eq1 5 21 rfl) (hrb.new_ (ad.transNew hn)) (by omega) fun cy cz hme => ⟨cy, cz, rfl, hme⟩)) ?_
 refine .o1 (tk rfl rfl fun _ w hn k => (by
       obtain ⟨dE, dF, cA, bM⟩ : (EP (.int .u16 ((b.getD i 0 : Nat) : Int))) _ _ := k.dep 6 22 (by kernel_rfl) (by kernel_rfl)
       exact ⟨_, v_load rfl cA (l_one Tryz.isAgg74 bM.1), rfl⟩)) ?_
 exact .t (fun _ w hn k => ⟨_, v_bin rfl (k.eq1 3 19 rfl) (k.eq1 7 23 rfl) (fun _ => rfl) (r_neq ae), rfl⟩) .nil
 refine aftI ao aH ad fun cQ cR az aQ aR cB ac => ?_
 have cS := ac.fx 13 bh
 have cT := ac.fx 0 aw
 have cU := ac.fx 1 ax
 have cV := ac.fx 12 bi
 have bN := ac.ge 8 24 rfl
 refine st_nil (aI _ _ ?_)
 refine wp_cond_true bN ?_
 refine wp_seq_k fun cW aS => ?_
 refine wp_g0 [true] [] 26
   [vF] az (.eq (.nil)) ?_ ?_
 exact .t (fun _ w hn k => ⟨_, v_assign rfl rfl, rfl⟩) .nil
 refine aftI az aQ aR fun cX cY cC aT aU cD aV => ?_
 have bO := aV.ge 0 4 rfl
 refine st_nil (aS _ _ ?_)
 refine wp_ret (ret_k aT (v := .bool false) (res_t rfl bO _) ?_)
 exact ⟨by rw [decide_eq_false (fun e => by rw [e] at ap; exact ap rfl)], aU⟩
 have aM := oF ah
 have aW := hB bg ah
 refine wp_cond_false aW ?_
 refine wp_exit ?_
 refine bo _ _ ?_
 refine wp_seq_k fun cZ aX => ?_
 refine wp_g0 [true] [] 26
   [vT] an (.eq (.nil)) ?_ ?_
 exact .t (fun _ w hn k => ⟨_, v_assign rfl rfl, rfl⟩) .nil
 refine aftI an aF aG fun c0 c1 cE aY aZ cF a1 => ?_
 have bP := a1.ge 0 4 rfl
 refine st_nil (aX _ _ ?_)
 refine wp_ret (ret_k aY (v := .bool true) (res_t rfl bP _) ?_)
 exact ⟨by rw [decide_eq_true (eq_all (by omega) (by omega : i = a.length) heq)], aZ⟩
 have al := oF af
 refine wp_g0 [true, true, true, true, true] [] 26
   [ve (sv Aa a ca), ve (iv (a.length : Int)), ve (sv Ab b cb), ve (iv (b.length : Int)), vT] av (.eq (.eq (.eq (.eq (.eq (.nil)))))) ?_ ?_
 exact .m (fun k => k.fx 0 h8) <| .t (fun _ w hn k => ⟨_, v_lenR rfl elU (k.eq1 0 6 rfl), rfl⟩) <| .m (fun k => k.fx 1 h9) <| .t (fun _ w hn k => ⟨_, v_lenR rfl elU (k.eq1 2 8 rfl), rfl⟩) <| .t (fun _ w hn k => ⟨_, v_bin rfl (k.eq1 1 7 rfl) (k.eq1 3 9 rfl) (fun _ => rfl) (r_neq af), rfl⟩) .nil
 refine aftI av a9 aB fun c2 c3 aA a3 a4 cG aq => ?_
 have c4 := aq.fx 0 h8
 have c5 := aq.fx 1 h9
 have bQ := aq.ge 4 10 rfl
 refine st_nil (aC _ _ ?_)
 refine wp_cond_true bQ ?_
 refine wp_seq_k fun c6 a5 => ?_
 refine wp_g0 [true] [] 26
   [vF] aA (.eq (.nil)) ?_ ?_
 exact .t (fun _ w hn k => ⟨_, v_assign rfl rfl, rfl⟩) .nil
 refine aftI aA a3 a4 fun c7 c8 cH a6 a7 cI a8 => ?_
 have bR := a8.ge 0 4 rfl
 refine st_nil (a5 _ _ ?_)
 refine wp_ret (ret_k a6 (v := .bool false) (res_t rfl bR _) ?_)
 exact ⟨by rw [decide_eq_false (fun e => by rw [e] at al; exact al rfl)], a7⟩
theorem vsame_c (v : Vl) (Av : Option Addr) (cv : Nat) (Bv : Option Addr) (dv : Nat) (u : Vl) (Au : Option Addr) (cu : Nat) (Bu : Option Addr) (du : Nat) (w : World) (hmv : SRow w .u32 Av v.mag cv) (hsv : SRow w .u16 Bv v.s dv) (hmu : SRow w .u32 Au u.mag cu) (hsu : SRow w .u16 Bu u.s du) : Calls Tryz.prog 15 #[vv v Av cv Bv dv, vv u Au cu Bu du] w (IsRet (.bool (sameV v u)) w) := by
 refine enter_abs Tryz.func15 rfl fun a0 af ap hp => ?_
 have af : a0.tmps.size = 49 := af
 have ag : New w w := Upd.refl _ _
 have hp0 : a0.eval (.tmp 0) = vv v Av cv Bv dv := hp 0 _ rfl
 have hp1 : a0.eval (.tmp 1) = vv u Au cu Bu du := hp 1 _ rfl
 refine wp_seq_k fun K1 aq => ?_
 refine wp_g [true, true, true] [] [] 49
   [IsNew w 29 [iv v.k, iv v.nk, iv v.nn, .bool v.neg, sv Av v.mag cv, sv Bv v.s dv, iv v.ref], IsNew w 29 [iv u.k, iv u.nk, iv u.nn, .bool u.neg, sv Au u.mag cu, sv Bu u.s du, iv u.ref], vF]
   [0, 1] (newsCons (fun v w h => IsNew.old h) (newsCons (fun v w h => IsNew.old h) newsNil)) af (.nw (.nw (.eq (.nil)))) ?_ (fun i h => by cases h) ?_
 exact .o2 (step_allocN (cs := [iv v.k, iv v.nk, iv v.nn, .bool v.neg, sv Av v.mag cv, sv Bv v.s dv, iv v.ref]) (t := 29) rfl (noG rfl) (fun _ w hn k => v_box rfl (k.fx 0 hp0) (fun w => rfl)) (fun q _ hq hb => ⟨q, rfl, hq, hb⟩)) <| .o2 (step_allocN (cs := [iv u.k, iv u.nk, iv u.nn, .bool u.neg, sv Au u.mag cu, sv Bu u.s du, iv u.ref]) (t := 29) rfl (noG rfl) (fun _ w hn k => v_box rfl (k.fx 1 hp1) (fun w => rfl)) (fun q _ hq hb => ⟨q, rfl, hq, hb⟩)) <| .t (fun _ w hn k => ⟨_, v_assign rfl rfl, rfl⟩) .nil
 refine aftI af ap ag fun a2 w3 ah ar ad az ai => ?_
 obtain ⟨q9, h8, aj, aa⟩ : IsNew _ _ _ _ _ := ai.got 0 2 rfl (by kernel_rfl)
 obtain ⟨ac, ae, ak, ab⟩ : IsNew _ _ _ _ _ := ai.got 1 3 rfl (by kernel_rfl)
 have av := Nat.le_trans ag.size aj
 have aw := Nat.le_trans ag.size ak
 refine st_nil (aq _ _ (wp_seq_k fun aA al => ?_))
 refine wp_g0 (.replicate 45 true) [] 49
   [ve (pv q9), ve (iv v.k), ve (pv ac), ve (iv u.k), ve (.bool (decide (v.k = u.k))), ve (.bool (decide (v.k = u.k))), ve (gq (decide (v.k = u.k)) (.pointer (some ⟨q9, 1, none⟩))), ve (gq (decide (v.k = u.k)) (nv (Nm.mk v.nk v.nn))), ve (gq (decide (v.k = u.k)) (.pointer (some ⟨ac, 1, none⟩))), ve (gq (decide (v.k = u.k)) (nv (Nm.mk u.nk u.nn))), ve (gq (decide (v.k = u.k)) (.bool (decide (v.nk = u.nk) && decide (v.nn = u.nn)))), ve (.bool ((decide (v.k = u.k)) && (decide (v.nk = u.nk) && decide (v.nn = u.nn)))), ve (.bool ((decide (v.k = u.k)) && (decide (v.nk = u.nk) && decide (v.nn = u.nn)))), ve (gq ((decide (v.k = u.k)) && (decide (v.nk = u.nk) && decide (v.nn = u.nn))) (.pointer (some ⟨q9, 3, none⟩))), ve (gq ((decide (v.k = u.k)) && (decide (v.nk = u.nk) && decide (v.nn = u.nn))) (.pointer (some ⟨q9, 3, none⟩))), ve (gq ((decide (v.k = u.k)) && (decide (v.nk = u.nk) && decide (v.nn = u.nn))) (.bool v.neg)), ve (gq ((decide (v.k = u.k)) && (decide (v.nk = u.nk) && decide (v.nn = u.nn))) (.pointer (some ⟨ac, 3, none⟩))), ve (gq ((decide (v.k = u.k)) && (decide (v.nk = u.nk) && decide (v.nn = u.nn))) (.pointer (some ⟨ac, 3, none⟩))), ve (gq ((decide (v.k = u.k)) && (decide (v.nk = u.nk) && decide (v.nn = u.nn))) (.bool u.neg)), ve (gq ((decide (v.k = u.k)) && (decide (v.nk = u.nk) && decide (v.nn = u.nn))) (.bool (v.neg == u.neg))), ve (.bool (((decide (v.k = u.k)) && (decide (v.nk = u.nk) && decide (v.nn = u.nn))) && (v.neg == u.neg))), ve (.bool (((decide (v.k = u.k)) && (decide (v.nk = u.nk) && decide (v.nn = u.nn))) && (v.neg == u.neg))), ve (gq (((decide (v.k = u.k)) && (decide (v.nk = u.nk) && decide (v.nn = u.nn))) && (v.neg == u.neg)) (.pointer (some ⟨q9, 3, none⟩))), ve (gq (((decide (v.k = u.k)) && (decide (v.nk = u.nk) && decide (v.nn = u.nn))) && (v.neg == u.neg)) (.pointer (some ⟨q9, 4, none⟩))), ve (gq (((decide (v.k = u.k)) && (decide (v.nk = u.nk) && decide (v.nn = u.nn))) && (v.neg == u.neg)) (sv Av v.mag cv)), ve (gq (((decide (v.k = u.k)) && (decide (v.nk = u.nk) && decide (v.nn = u.nn))) && (v.neg == u.neg)) (.pointer (some ⟨ac, 3, none⟩))), ve (gq (((decide (v.k = u.k)) && (decide (v.nk = u.nk) && decide (v.nn = u.nn))) && (v.neg == u.neg)) (.pointer (some ⟨ac, 4, none⟩))), ve (gq (((decide (v.k = u.k)) && (decide (v.nk = u.nk) && decide (v.nn = u.nn))) && (v.neg == u.neg)) (sv Au u.mag cu)), ve (gq (((decide (v.k = u.k)) && (decide (v.nk = u.nk) && decide (v.nn = u.nn))) && (v.neg == u.neg)) (.bool (decide (v.mag = u.mag)))), ve (.bool ((((decide (v.k = u.k)) && (decide (v.nk = u.nk) && decide (v.nn = u.nn))) && (v.neg == u.neg)) && (decide (v.mag = u.mag)))), ve (.bool ((((decide (v.k = u.k)) && (decide (v.nk = u.nk) && decide (v.nn = u.nn))) && (v.neg == u.neg)) && (decide (v.mag = u.mag)))), ve (gq ((((decide (v.k = u.k)) && (decide (v.nk = u.nk) && decide (v.nn = u.nn))) && (v.neg == u.neg)) && (decide (v.mag = u.mag))) (.pointer (some ⟨q9, 5, none⟩))), ve (gq ((((decide (v.k = u.k)) && (decide (v.nk = u.nk) && decide (v.nn = u.nn))) && (v.neg == u.neg)) && (decide (v.mag = u.mag))) (sv Bv v.s dv)), ve (gq ((((decide (v.k = u.k)) && (decide (v.nk = u.nk) && decide (v.nn = u.nn))) && (v.neg == u.neg)) && (decide (v.mag = u.mag))) (.pointer (some ⟨ac, 5, none⟩))), ve (gq ((((decide (v.k = u.k)) && (decide (v.nk = u.nk) && decide (v.nn = u.nn))) && (v.neg == u.neg)) && (decide (v.mag = u.mag))) (sv Bu u.s du)), ve (gq ((((decide (v.k = u.k)) && (decide (v.nk = u.nk) && decide (v.nn = u.nn))) && (v.neg == u.neg)) && (decide (v.mag = u.mag))) (.bool (decide (v.s = u.s)))), ve (.bool (((((decide (v.k = u.k)) && (decide (v.nk = u.nk) && decide (v.nn = u.nn))) && (v.neg == u.neg)) && (decide (v.mag = u.mag))) && (decide (v.s = u.s)))), ve (.bool (((((decide (v.k = u.k)) && (decide (v.nk = u.nk) && decide (v.nn = u.nn))) && (v.neg == u.neg)) && (decide (v.mag = u.mag))) && (decide (v.s = u.s)))), ve (gq (((((decide (v.k = u.k)) && (decide (v.nk = u.nk) && decide (v.nn = u.nn))) && (v.neg == u.neg)) && (decide (v.mag = u.mag))) && (decide (v.s = u.s))) (.pointer (some ⟨q9, 6, none⟩))), ve (gq (((((decide (v.k = u.k)) && (decide (v.nk = u.nk) && decide (v.nn = u.nn))) && (v.neg == u.neg)) && (decide (v.mag = u.mag))) && (decide (v.s = u.s))) (iv v.ref)), ve (gq (((((decide (v.k = u.k)) && (decide (v.nk = u.nk) && decide (v.nn = u.nn))) && (v.neg == u.neg)) && (decide (v.mag = u.mag))) && (decide (v.s = u.s))) (.pointer (some ⟨ac, 6, none⟩))), ve (gq (((((decide (v.k = u.k)) && (decide (v.nk = u.nk) && decide (v.nn = u.nn))) && (v.neg == u.neg)) && (decide (v.mag = u.mag))) && (decide (v.s = u.s))) (iv u.ref)), ve (gq (((((decide (v.k = u.k)) && (decide (v.nk = u.nk) && decide (v.nn = u.nn))) && (v.neg == u.neg)) && (decide (v.mag = u.mag))) && (decide (v.s = u.s))) (.bool (decide (v.ref = u.ref)))), ve (.bool ((((((decide (v.k = u.k)) && (decide (v.nk = u.nk) && decide (v.nn = u.nn))) && (v.neg == u.neg)) && (decide (v.mag = u.mag))) && (decide (v.s = u.s))) && (decide (v.ref = u.ref)))), ve (.bool ((((((decide (v.k = u.k)) && (decide (v.nk = u.nk) && decide (v.nn = u.nn))) && (v.neg == u.neg)) && (decide (v.mag = u.mag))) && (decide (v.s = u.s))) && (decide (v.ref = u.ref))))] ah (.eq (.eq (.eq (.eq (.eq (.eq (.eq (.eq (.eq (.eq (.eq (.eq (.eq (.eq (.eq (.eq (.eq (.eq (.eq (.eq (.eq (.eq (.eq (.eq (.eq (.eq (.eq (.eq (.eq (.eq (.eq (.eq (.eq (.eq (.eq (.eq (.eq (.eq (.eq (.eq (.eq (.eq (.eq (.eq (.eq (.nil)))))))))))))))))))))))))))))))))))))))))))))) ?_ ?_
 exact .f (fun k => k.fx 2 h8) <| .t (fun _ w hn k => ⟨_, v_load rfl (k.eq1 0 5 rfl) (l_one Tryz.isAgg3 ((aa.new_ hn).cell 0)), rfl⟩) <| .f (fun k => k.fx 3 ae) <| .t (fun _ w hn k => ⟨_, v_load rfl (k.eq1 2 7 rfl) (l_one Tryz.isAgg3 ((ab.new_ hn).cell 0)), rfl⟩) <| .t (fun _ w hn k => ⟨_, v_bin rfl (k.eq1 1 6 rfl) (k.eq1 3 8 rfl) (fun _ => rfl) (r_eql rfl), rfl⟩) <| .m (fun k => k.eq1 4 9 rfl) <| .o1 (sc (G := (decide (v.k = u.k))) rfl rfl rfl (fun _ _ k => g0 (k.eq1 5 10 rfl)) (fun hG _ w hn k => v_field rfl (k.fx 2 h8) (fun w => rfl))) <| .o1 (sc (G := (decide (v.k = u.k))) rfl rfl rfl (fun _ _ k => g0 (k.eq1 5 10 rfl)) (fun hG _ w hn k => v_load rfl (cT hG (k.eq1 6 11 rfl)) (l_part Tryz.isAgg23 Tryz.sizeOf23 (aa.new_ hn) lb))) <| .o1 (sc (G := (decide (v.k = u.k))) rfl rfl rfl (fun _ _ k => g0 (k.eq1 5 10 rfl)) (fun hG _ w hn k => v_field rfl (k.fx 3 ae) (fun w => rfl))) <| .o1 (sc (G := (decide (v.k = u.k))) rfl rfl rfl (fun _ _ k => g0 (k.eq1 5 10 rfl)) (fun hG _ w hn k => v_load rfl (cT hG (k.eq1 8 13 rfl)) (l_part Tryz.isAgg23 Tryz.sizeOf23 (ab.new_ hn) lb))) <| .o1 (sc (G := (decide (v.k = u.k))) rfl rfl rfl (fun _ _ k => g0 (k.eq1 5 10 rfl)) (fun hG _ w hn k => v_bin rfl (cT hG (k.eq1 7 12 rfl)) (cT hG (k.eq1 9 14 rfl)) (gNum _ _ _ _) (eqlNum _ _ _ _ rfl))) <| .t (fun _ w hn k => ⟨_, v_and rfl (k.eq1 5 10 rfl) (fun hg => (cT hg (k.eq1 10 15 rfl))) rfl, rfl⟩) <| .m (fun k => k.eq1 11 16 rfl) <| .o1 (sc (G := ((decide (v.k = u.k)) && (decide (v.nk = u.nk) && decide (v.nn = u.nn)))) rfl rfl rfl (fun _ _ k => g0 (k.eq1 12 17 rfl)) (fun hG _ w hn k => v_field rfl (k.fx 2 h8) (fun w => rfl))) <| .o1 (sc (G := ((decide (v.k = u.k)) && (decide (v.nk = u.nk) && decide (v.nn = u.nn)))) rfl rfl rfl (fun _ _ k => g0 (k.eq1 12 17 rfl)) (fun hG _ w hn k => v_field rfl (cT hG (k.eq1 13 18 rfl)) (fun w => rfl))) <| .o1 (sc (G := ((decide (v.k = u.k)) && (decide (v.nk = u.nk) && decide (v.nn = u.nn)))) rfl rfl rfl (fun _ _ k => g0 (k.eq1 12 17 rfl)) (fun hG _ w hn k => v_load rfl (cT hG (k.eq1 14 19 rfl)) (l_one Tryz.isAgg4 ((aa.new_ hn).cell 3)))) <| .o1 (sc (G := ((decide (v.k = u.k)) && (decide (v.nk = u.nk) && decide (v.nn = u.nn)))) rfl rfl rfl (fun _ _ k => g0 (k.eq1 12 17 rfl)) (fun hG _ w hn k => v_field rfl (k.fx 3 ae) (fun w => rfl))) <| .o1 (sc (G := ((decide (v.k = u.k)) && (decide (v.nk = u.nk) && decide (v.nn = u.nn)))) rfl rfl rfl (fun _ _ k => g0 (k.eq1 12 17 rfl)) (fun hG _ w hn k => v_field rfl (cT hG (k.eq1 16 21 rfl)) (fun w => rfl))) <| .o1 (sc (G := ((decide (v.k = u.k)) && (decide (v.nk = u.nk) && decide (v.nn = u.nn)))) rfl rfl rfl (fun _ _ k => g0 (k.eq1 12 17 rfl)) (fun hG _ w hn k => v_load rfl (cT hG (k.eq1 17 22 rfl)) (l_one Tryz.isAgg4 ((ab.new_ hn).cell 3)))) <| .o1 (sc (G := ((decide (v.k = u.k)) && (decide (v.nk = u.nk) && decide (v.nn = u.nn)))) rfl rfl rfl (fun _ _ k => g0 (k.eq1 12 17 rfl)) (fun hG _ w hn k => v_bin rfl (cT hG (k.eq1 15 20 rfl)) (cT hG (k.eq1 18 23 rfl)) (fun _ => rfl) (r_eqlB _ _))) <| .t (fun _ w hn k => ⟨_, v_and rfl (k.eq1 12 17 rfl) (fun hg => (cT hg (k.eq1 19 24 rfl))) rfl, rfl⟩) <| .m (fun k => k.eq1 20 25 rfl) <| .o1 (sc (G := (((decide (v.k = u.k)) && (decide (v.nk = u.nk) && decide (v.nn = u.nn))) && (v.neg == u.neg))) rfl rfl rfl (fun _ _ k => g0 (k.eq1 21 26 rfl)) (fun hG _ w hn k => v_field rfl (k.fx 2 h8) (fun w => rfl))) <| .o1 (sc (G := (((decide (v.k = u.k)) && (decide (v.nk = u.nk) && decide (v.nn = u.nn))) && (v.neg == u.neg))) rfl rfl rfl (fun _ _ k => g0 (k.eq1 21 26 rfl)) (fun hG _ w hn k => v_field rfl (cT hG (k.eq1 22 27 rfl)) (fun w => rfl))) <| .o1 (sc (G := (((decide (v.k = u.k)) && (decide (v.nk = u.nk) && decide (v.nn = u.nn))) && (v.neg == u.neg))) rfl rfl rfl (fun _ _ k => g0 (k.eq1 21 26 rfl)) (fun hG _ w hn k => v_load rfl (cT hG (k.eq1 23 28 rfl)) (l_one Tryz.isAgg24 ((aa.new_ hn).cell 4)))) <| .o1 (sc (G := (((decide (v.k = u.k)) && (decide (v.nk = u.nk) && decide (v.nn = u.nn))) && (v.neg == u.neg))) rfl rfl rfl (fun _ _ k => g0 (k.eq1 21 26 rfl)) (fun hG _ w hn k => v_field rfl (k.fx 3 ae) (fun w => rfl))) <| .o1 (sc (G := (((decide (v.k = u.k)) && (decide (v.nk = u.nk) && decide (v.nn = u.nn))) && (v.neg == u.neg))) rfl rfl rfl (fun _ _ k => g0 (k.eq1 21 26 rfl)) (fun hG _ w hn k => v_field rfl (cT hG (k.eq1 25 30 rfl)) (fun w => rfl))) <| .o1 (sc (G := (((decide (v.k = u.k)) && (decide (v.nk = u.nk) && decide (v.nn = u.nn))) && (v.neg == u.neg))) rfl rfl rfl (fun _ _ k => g0 (k.eq1 21 26 rfl)) (fun hG _ w hn k => v_load rfl (cT hG (k.eq1 26 31 rfl)) (l_one Tryz.isAgg24 ((ab.new_ hn).cell 4)))) <| .o1 (scC (G := (((decide (v.k = u.k)) && (decide (v.nk = u.nk) && decide (v.nn = u.nn))) && (v.neg == u.neg))) rfl rfl rfl (fun _ _ k => g0 (k.eq1 21 26 rfl)) rfl (fun hG _ w hn k => ⟨#[sv Av v.mag cv, sv Au u.mag cu], args2 (cT hG (k.eq1 24 29 rfl)) (cT hG (k.eq1 27 32 rfl)), fun _ => by kernel_rfl, sequal32_c _ v.mag _ _ u.mag _ _ (hmv.new_ (ad.transNew hn)) (hmu.new_ (ad.transNew hn))⟩)) <| .t (fun _ w hn k => ⟨_, v_and rfl (k.eq1 21 26 rfl) (fun hg => (cT hg (k.eq1 28 33 rfl))) rfl, rfl⟩) <| .m (fun k => k.eq1 29 34 rfl) <| .o1 (sc (G := ((((decide (v.k = u.k)) && (decide (v.nk = u.nk) && decide (v.nn = u.nn))) && (v.neg == u.neg)) && (decide (v.mag = u.mag)))) rfl rfl rfl (fun _ _ k => g0 (k.eq1 30 35 rfl)) (fun hG _ w hn k => v_field rfl (k.fx 2 h8) (fun w => rfl))) <| .o1 (sc (G := ((((decide (v.k = u.k)) && (decide (v.nk = u.nk) && decide (v.nn = u.nn))) && (v.neg == u.neg)) && (decide (v.mag = u.mag)))) rfl rfl rfl (fun _ _ k => g0 (k.eq1 30 35 rfl)) (fun hG _ w hn k => v_load rfl (cT hG (k.eq1 31 36 rfl)) (l_one Tryz.isAgg27 ((aa.new_ hn).cell 5)))) <| .o1 (sc (G := ((((decide (v.k = u.k)) && (decide (v.nk = u.nk) && decide (v.nn = u.nn))) && (v.neg == u.neg)) && (decide (v.mag = u.mag)))) rfl rfl rfl (fun _ _ k => g0 (k.eq1 30 35 rfl)) (fun hG _ w hn k => v_field rfl (k.fx 3 ae) (fun w => rfl))) <| .o1 (sc (G := ((((decide (v.k = u.k)) && (decide (v.nk = u.nk) && decide (v.nn = u.nn))) && (v.neg == u.neg)) && (decide (v.mag = u.mag)))) rfl rfl rfl (fun _ _ k => g0 (k.eq1 30 35 rfl)) (fun hG _ w hn k => v_load rfl (cT hG (k.eq1 33 38 rfl)) (l_one Tryz.isAgg27 ((ab.new_ hn).cell 5)))) <| .o1 (scC (G := ((((decide (v.k = u.k)) && (decide (v.nk = u.nk) && decide (v.nn = u.nn))) && (v.neg == u.neg)) && (decide (v.mag = u.mag)))) rfl rfl rfl (fun _ _ k => g0 (k.eq1 30 35 rfl)) rfl (fun hG _ w hn k => ⟨#[sv Bv v.s dv, sv Bu u.s du], args2 (cT hG (k.eq1 32 37 rfl)) (cT hG (k.eq1 34 39 rfl)), fun _ => by kernel_rfl, sequal16_c _ v.s _ _ u.s _ _ (hsv.new_ (ad.transNew hn)) (hsu.new_ (ad.transNew hn))⟩)) <| .t (fun _ w hn k => ⟨_, v_and rfl (k.eq1 30 35 rfl) (fun hg => (cT hg (k.eq1 35 40 rfl))) rfl, rfl⟩) <| .m (fun k => k.eq1 36 41 rfl) <| .o1 (sc (G := (((((decide (v.k = u.k)) && (decide (v.nk = u.nk) && decide (v.nn = u.nn))) && (v.neg == u.neg)) && (decide (v.mag = u.mag))) && (decide (v.s = u.s)))) rfl rfl rfl (fun _ _ k => g0 (k.eq1 37 42 rfl)) (fun hG _ w hn k => v_field rfl (k.fx 2 h8) (fun w => rfl))) <| .o1 (sc (G := (((((decide (v.k = u.k)) && (decide (v.nk = u.nk) && decide (v.nn = u.nn))) && (v.neg == u.neg)) && (decide (v.mag = u.mag))) && (decide (v.s = u.s)))) rfl rfl rfl (fun _ _ k => g0 (k.eq1 37 42 rfl)) (fun hG _ w hn k => v_load rfl (cT hG (k.eq1 38 43 rfl)) (l_one Tryz.isAgg3 ((aa.new_ hn).cell 6)))) <| .o1 (sc (G := (((((decide (v.k = u.k)) && (decide (v.nk = u.nk) && decide (v.nn = u.nn))) && (v.neg == u.neg)) && (decide (v.mag = u.mag))) && (decide (v.s = u.s)))) rfl rfl rfl (fun _ _ k => g0 (k.eq1 37 42 rfl)) (fun hG _ w hn k => v_field rfl (k.fx 3 ae) (fun w => rfl))) <| .o1 (sc (G := (((((decide (v.k = u.k)) && (decide (v.nk = u.nk) && decide (v.nn = u.nn))) && (v.neg == u.neg)) && (decide (v.mag = u.mag))) && (decide (v.s = u.s)))) rfl rfl rfl (fun _ _ k => g0 (k.eq1 37 42 rfl)) (fun hG _ w hn k => v_load rfl (cT hG (k.eq1 40 45 rfl)) (l_one Tryz.isAgg3 ((ab.new_ hn).cell 6)))) <| .o1 (sc (G := (((((decide (v.k = u.k)) && (decide (v.nk = u.nk) && decide (v.nn = u.nn))) && (v.neg == u.neg)) && (decide (v.mag = u.mag))) && (decide (v.s = u.s)))) rfl rfl rfl (fun _ _ k => g0 (k.eq1 37 42 rfl)) (fun hG _ w hn k => v_bin rfl (cT hG (k.eq1 39 44 rfl)) (cT hG (k.eq1 41 46 rfl)) (fun _ => rfl) (r_eql rfl))) <| .t (fun _ w hn k => ⟨_, v_and rfl (k.eq1 37 42 rfl) (fun hg => (cT hg (k.eq1 42 47 rfl))) rfl, rfl⟩) <| .a (fun k => k.eq1 43 48 rfl) .nil
 refine aftI ah ar ad fun aB aC ax am an ay ao => ?_
 have au := ao.ge 44 4 rfl
 refine st_nil (al _ _ ?_)
 refine wp_ret (ret_k am (v := .bool ((((((decide (v.k = u.k)) && (decide (v.nk = u.nk) && decide (v.nn = u.nn))) && (v.neg == u.neg)) && (decide (v.mag = u.mag))) && (decide (v.s = u.s))) && (decide (v.ref = u.ref)))) (res_t rfl au _) ?_)
 refine ⟨?_, an⟩
 show Ending.returned (.bool ((((((decide (v.k = u.k)) && (decide (v.nk = u.nk) && decide (v.nn = u.nn))) && (v.neg == u.neg)) && (decide (v.mag = u.mag))) && (decide (v.s = u.s))) && (decide (v.ref = u.ref)))) = Ending.returned (.bool (sameV v u))
 first | rfl | (simp only [sameV, bsm] <;> rfl) | (exfalso; omega)
theorem cnum_c (a : Nm) (w : World) : Calls Tryz.prog 22 #[nv a] w (IsRet (vv (Vl.mk 3 a.k a.n false [] [] 0) none 0 none 0) w) := by
 refine enter_abs Tryz.func22 rfl fun a0 aa aA hp => ?_
 have aa : a0.tmps.size = 5 := aa
 have ab : New w w := Upd.refl _ _
 have hp0 : a0.eval (.tmp 0) = nv a := hp 0 _ rfl
 refine wp_seq_k fun K1 aB => ?_
 refine wp_g [true, true] [] [] 5
   [IsNew w 23 [iv a.k, iv a.n], IsNew w 29 [iv 0, iv 0, iv 0, .bool false, sv none ([]) 0, sv none ([]) 0, iv 0]]
   [0, 1] (newsCons (fun v w h => IsNew.old h) (newsCons (fun v w h => IsNew.old h) newsNil)) aa (.nw (.nw (.nil))) ?_ (fun i h => by cases h) ?_
 exact .o2 (step_allocN (cs := [iv a.k, iv a.n]) (t := 23) rfl (noG rfl) (fun _ w hn k => v_box rfl (k.fx 0 hp0) (fun w => rfl)) (fun q _ hq hb => ⟨q, rfl, hq, hb⟩)) <| .o2 (step_allocN (cs := [iv 0, iv 0, iv 0, .bool false, sv none ([]) 0, sv none ([]) 0, iv 0]) (t := 29) rfl (noG rfl) (fun _ w hn k => rfl) (fun q _ hq hb => ⟨q, rfl, hq, hb⟩)) .nil
 refine aftI aa aA ab fun a2 w3 ag aC ak aJ ac => ?_
 obtain ⟨q9, h8, al, am⟩ : IsNew _ _ _ _ _ := ac.got 0 1 rfl (by kernel_rfl)
 obtain ⟨ah, ai, an, ao⟩ : IsNew _ _ _ _ _ := ac.got 1 2 rfl (by kernel_rfl)
 have hne16 : q9 ≠ ah := ac.ne 0 1 1 2 h8 ai
 have aF := Nat.le_trans ab.size al
 have aG := Nat.le_trans ab.size an
 refine st_nil (aB _ _ (wp_seq_k fun aK ap => ?_))
 refine wp_g0 [true, true, false] [(2, false)] 5
   [ve (nv a), ve (vv (Vl.mk 3 a.k a.n false [] [] 0) none 0 none 0), vt] ag (.eq (.eq (.tt (.nil)))) ?_ ?_
 exact .t (fun _ w hn k => ⟨_, v_load rfl (k.fx 1 h8) (l_two Tryz.isAgg23 Tryz.sizeOf23 (am.new_ hn)), rfl⟩) <| .t (fun _ w hn k => ⟨_, v_build (ps := [(0, iv 3), (1, nv a)]) rfl (parts2 rfl (k.eq1 0 3 rfl)) (by kernel_rfl), rfl⟩) <| .off .nil
 refine aftI ag aC ak fun aL aM aH aq ar au ad => ?_
 have aj := ad.fx 2 ai
 have aD := ad.ge 1 4 rfl
 have av := ao.new_ au
 obtain ⟨aE, ae, af, aw, aI⟩ := s_many (P := Tryz.prog) (t := 29) (i := 0) [iv 3, iv a.k, iv a.n, .bool false, sv none ([]) 0, sv none ([]) 0, iv 0] Tryz.sizeOf29 rfl rfl rfl av lb
 have ax : Blk aE ah 29 [iv 3, iv a.k, iv a.n, .bool false, sv none ([]) 0, sv none ([]) 0, iv 0] := af
 refine st_act rfl rfl fun aN ay => a_store' rfl aj aD ae (ay _ _ trivial ?_)
 have az := ar.trans aw (fun _ h b => by subst b; omega)
 refine st_nil (ap _ _ ?_)
 refine wp_ret (ret_k aq (v := vv (Vl.mk 3 a.k a.n false [] [] 0) none 0 none 0) (res_c rfl aj (l_agg Tryz.isAgg29 Tryz.sizeOf29 ax rfl)) ?_)
 exact ⟨rfl, az⟩
theorem blank_c (x : Nat) (w : World) (hx : x < 65536) : Calls Tryz.prog 95 #[.int .u16 (x : Int)] w (IsRet (.bool (blankN x)) w) := by
 refine enter_abs Tryz.func95 rfl fun a0 aa ag hp => ?_
 have aa : a0.tmps.size = 17 := aa
 have ah : New w w := Upd.refl _ _
 have hp0 : a0.eval (.tmp 0) = .int .u16 (x : Int) := hp 0 _ rfl
 refine wp_seq_k fun K1 ai => ?_
 refine wp_g0 [true] [] 17
   [vF] aa (.eq (.nil)) ?_ ?_
 exact .t (fun _ w hn k => ⟨_, v_assign rfl rfl, rfl⟩) .nil
 refine aftI aa ag ah fun a2 w3 ab aj ak ap al => ?_
 have h8 := al.fx 0 hp0
 refine st_nil (ai _ _ (wp_seq_k fun aq ac => ?_))
 refine wp_g0 (.replicate 15 true) [] 17
   [ve (.int .u16 (x : Int)), ve (.bool (decide ((x : Int) = 32))), ve (.bool (decide ((x : Int) = 32))), ve (gq (!(decide ((x : Int) = 32))) (.int .u16 (x : Int))), ve (gq (!(decide ((x : Int) = 32))) (.bool (decide ((x : Int) = 9)))), ve (.bool ((decide ((x : Int) = 32)) || (decide ((x : Int) = 9)))), ve (.bool ((decide ((x : Int) = 32)) || (decide ((x : Int) = 9)))), ve (gq (!((decide ((x : Int) = 32)) || (decide ((x : Int) = 9)))) (.int .u16 (x : Int))), ve (gq (!((decide ((x : Int) = 32)) || (decide ((x : Int) = 9)))) (.bool (decide ((x : Int) = 10)))), ve (.bool (((decide ((x : Int) = 32)) || (decide ((x : Int) = 9))) || (decide ((x : Int) = 10)))), ve (.bool (((decide ((x : Int) = 32)) || (decide ((x : Int) = 9))) || (decide ((x : Int) = 10)))), ve (gq (!(((decide ((x : Int) = 32)) || (decide ((x : Int) = 9))) || (decide ((x : Int) = 10)))) (.int .u16 (x : Int))), ve (gq (!(((decide ((x : Int) = 32)) || (decide ((x : Int) = 9))) || (decide ((x : Int) = 10)))) (.bool (decide ((x : Int) = 13)))), ve (.bool ((((decide ((x : Int) = 32)) || (decide ((x : Int) = 9))) || (decide ((x : Int) = 10))) || (decide ((x : Int) = 13)))), ve (.bool ((((decide ((x : Int) = 32)) || (decide ((x : Int) = 9))) || (decide ((x : Int) = 10))) || (decide ((x : Int) = 13))))] ab (.eq (.eq (.eq (.eq (.eq (.eq (.eq (.eq (.eq (.eq (.eq (.eq (.eq (.eq (.eq (.nil)))))))))))))))) ?_ ?_
 exact .m (fun k => k.fx 0 h8) <| .t (fun _ w hn k => ⟨_, v_bin rfl (k.eq1 0 3 rfl) rfl (fun _ => rfl) (r_eql rfl), rfl⟩) <| .m (fun k => k.eq1 1 4 rfl) <| .o1 (sc (G := (!(decide ((x : Int) = 32)))) rfl rfl rfl (fun _ _ k => g0' (k.eq1 2 5 rfl)) (fun hG _ w hn k => v_move rfl (k.fx 0 h8))) <| .o1 (sc (G := (!(decide ((x : Int) = 32)))) rfl rfl rfl (fun _ _ k => g0' (k.eq1 2 5 rfl)) (fun hG _ w hn k => v_bin rfl (cT hG (k.eq1 3 6 rfl)) rfl (fun _ => rfl) (r_eql rfl))) <| .t (fun _ w hn k => ⟨_, v_or rfl (k.eq1 2 5 rfl) rfl (fun hg => (cT (nt hg) (k.eq1 4 7 rfl))), rfl⟩) <| .m (fun k => k.eq1 5 8 rfl) <| .o1 (sc (G := (!((decide ((x : Int) = 32)) || (decide ((x : Int) = 9))))) rfl rfl rfl (fun _ _ k => g0' (k.eq1 6 9 rfl)) (fun hG _ w hn k => v_move rfl (k.fx 0 h8))) <| .o1 (sc (G := (!((decide ((x : Int) = 32)) || (decide ((x : Int) = 9))))) rfl rfl rfl (fun _ _ k => g0' (k.eq1 6 9 rfl)) (fun hG _ w hn k => v_bin rfl (cT hG (k.eq1 7 10 rfl)) rfl (fun _ => rfl) (r_eql rfl))) <| .t (fun _ w hn k => ⟨_, v_or rfl (k.eq1 6 9 rfl) rfl (fun hg => (cT (nt hg) (k.eq1 8 11 rfl))), rfl⟩) <| .m (fun k => k.eq1 9 12 rfl) <| .o1 (sc (G := (!(((decide ((x : Int) = 32)) || (decide ((x : Int) = 9))) || (decide ((x : Int) = 10))))) rfl rfl rfl (fun _ _ k => g0' (k.eq1 10 13 rfl)) (fun hG _ w hn k => v_move rfl (k.fx 0 h8))) <| .o1 (sc (G := (!(((decide ((x : Int) = 32)) || (decide ((x : Int) = 9))) || (decide ((x : Int) = 10))))) rfl rfl rfl (fun _ _ k => g0' (k.eq1 10 13 rfl)) (fun hG _ w hn k => v_bin rfl (cT hG (k.eq1 11 14 rfl)) rfl (fun _ => rfl) (r_eql rfl))) <| .t (fun _ w hn k => ⟨_, v_or rfl (k.eq1 10 13 rfl) rfl (fun hg => (cT (nt hg) (k.eq1 12 15 rfl))), rfl⟩) <| .a (fun k => k.eq1 13 16 rfl) .nil
 refine aftI ab aj ak fun ar au an ad ae ao af => ?_
 have am := af.ge 14 2 rfl
 refine st_nil (ac _ _ ?_)
 refine wp_ret (ret_k ad (v := .bool ((((decide ((x : Int) = 32)) || (decide ((x : Int) = 9))) || (decide ((x : Int) = 10))) || (decide ((x : Int) = 13)))) (res_t rfl am _) ?_)
 refine ⟨?_, ae⟩
 show Ending.returned (.bool ((((decide ((x : Int) = 32)) || (decide ((x : Int) = 9))) || (decide ((x : Int) = 10))) || (decide ((x : Int) = 13)))) = Ending.returned (.bool (blankN x))
 first | rfl | (simp only [blankN, bsm] <;> rfl) | (exfalso; omega)
end Go.Proofs.YtjakfchffigkkaaGreatDoor
