/- Texts of units, as plain Lean: what stands for a number. -/
import Derived.Test.YtecgdgjlmlpcnaaCvMath
namespace Go.Proofs.Ytecgdgjlmlpcnaa
open Go.RowKit
set_option linter.unusedSimpArgs false
set_option linter.unusedVariables false
def blankN (x : Nat) : Bool := decide ((x : Int) = 32) || decide ((x : Int) = 9) || decide ((x : Int) = 10) || decide ((x : Int) = 13)
def dgtN (x : Nat) : Bool := !decide ((x : Int) < 48) && decide ((x : Int) ≤ 57)
def asc (s : ByteArray) : List Nat := s.data.toList.map fun c => c.toNat
def ascT (s : ByteArray) (i : Nat) : List Nat := (s.data.toList.take i).map fun c => c.toNat
theorem asc0 (s : ByteArray) : ascT s 0 = [] := by simp [ascT]
theorem asc_up {s : ByteArray} {i : Nat} (h : i < s.size) : ascT s i ++ [bAt s i] = ascT s (i + 1) := by
  have h1 := s_len s
  unfold ascT bAt
  rw [List.take_succ_eq_append_getElem (by omega), List.map_append, List.getD_eq_getElem?_getD, List.getElem?_eq_getElem (by omega)]
  rfl
theorem asc_end {s : ByteArray} {i : Nat} (h : s.size ≤ i) : ascT s i = asc s := by
  unfold ascT asc
  rw [List.take_of_length_le (by rw [s_len]; exact h)]
theorem ascT_len {s : ByteArray} {i : Nat} : (ascT s i).length ≤ s.size := by
  have := s_len s
  unfold ascT
  rw [List.length_map, List.length_take]; omega
theorem asc_len (s : ByteArray) : (asc s).length = s.size := by
  have := s_len s
  unfold asc
  rw [List.length_map]; omega
def idxF (p : Nat → Bool) : List Nat → Int
  | [] => -1
  | a :: l => if p a then 0 else if idxF p l < 0 then -1 else idxF p l + 1
theorem idxF_ge (p : Nat → Bool) : ∀ l : List Nat, -1 ≤ idxF p l
  | [] => by simp [idxF]
  | a :: l => by
    have := idxF_ge p l
    unfold idxF
    split
    · omega
    · split <;> omega
theorem idxF_any (p : Nat → Bool) : ∀ l : List Nat, (!decide (idxF p l < 0)) = l.any p
  | [] => by simp [idxF]
  | a :: l => by
    have h := idxF_any p l
    have h2 := idxF_ge p l
    rw [List.any_cons, ← h, show idxF p (a :: l) = if p a then 0 else if idxF p l < 0 then -1 else idxF p l + 1 from rfl]
    generalize idxF p l = r at *
    cases p a
    · by_cases h3 : r < 0
      · simp [h3]
      · simp [h3]; omega
    · simp
theorem idxF_at (p : Nat → Bool) : ∀ (l : List Nat) (i : Nat), i < l.length → (∀ j, j < i → p (l.getD j 0) = false) → p (l.getD i 0) = true → idxF p l = (i : Int)
  | [], i, hi, _, _ => by simp at hi
  | a :: l, 0, _, _, h => by
    unfold idxF
    rw [if_pos (by simpa using h)]; rfl
  | a :: l, i + 1, hi, h1, h2 => by
    have h0 := h1 0 (by omega)
    have ih := idxF_at p l i (by simpa using hi) (fun j hj => by simpa using h1 (j + 1) (by omega)) (by simpa using h2)
    unfold idxF
    rw [if_neg (by simpa using h0), ih, if_neg (by omega)]; omega
theorem idxF_none (p : Nat → Bool) : ∀ (l : List Nat), (∀ j, j < l.length → p (l.getD j 0) = false) → idxF p l = -1
  | [], _ => rfl
  | a :: l, h => by
    have h0 := h 0 (by simp)
    have ih := idxF_none p l (fun j hj => by simpa using h (j + 1) (by simpa using hj))
    unfold idxF
    rw [if_neg (by simpa using h0), ih]; rfl
theorem up_false {p : Nat → Bool} {l : List Nat} {i : Nat} (h : ∀ j, j < i → p (l.getD j 0) = false) (h1 : p (l.getD i 0) = false) : ∀ j, j < i + 1 → p (l.getD j 0) = false := by
  intro j hj
  rcases Nat.lt_or_ge j i with h2 | h2
  · exact h j h2
  · obtain rfl : j = i := by omega
    exact h1
def okcN (x : Nat) : Bool := if dgtN x then true else if (!decide ((x : Int) < 97) && decide ((x : Int) ≤ 102)) then true else if (!decide ((x : Int) < 65) && decide ((x : Int) ≤ 70)) then true else (asc ⟨#[120, 88, 111, 79, 46, 43, 45, 95]⟩).any fun y => decide ((x : Int) = (y : Int))
def strangeN (u : List Nat) : Bool := u.all okcN && u.any dgtN
theorem take_up {l : List Nat} {i : Nat} (h : i < l.length) : l.take (i + 1) = l.take i ++ [l.getD i 0] := by
  rw [List.take_succ_eq_append_getElem h, List.getD_eq_getElem?_getD, List.getElem?_eq_getElem h]; rfl
theorem any_up {p : Nat → Bool} {l : List Nat} {i : Nat} (h : i < l.length) : (l.take (i + 1)).any p = ((l.take i).any p || p (l.getD i 0)) := by
  rw [take_up h, List.any_append]; simp
theorem all_up {p : Nat → Bool} {l : List Nat} {i : Nat} (h : i < l.length) (h1 : (l.take i).all p = true) (h2 : p (l.getD i 0) = true) : (l.take (i + 1)).all p = true := by
  rw [take_up h, List.all_append, h1]; simpa using h2
theorem all_bad {p : Nat → Bool} {l : List Nat} {i : Nat} (h : i < l.length) (h2 : p (l.getD i 0) = false) : l.all p = false := by
  cases h3 : l.all p with
  | false => rfl
  | true =>
    rw [List.getD_eq_getElem?_getD, List.getElem?_eq_getElem h] at h2
    rw [show (some l[i]).getD 0 = l[i] from rfl, List.all_eq_true.1 h3 _ (List.getElem_mem h)] at h2
    cases h2
/-- the value of digits, as the code tells it -/
def valR : List Nat → Int → Int × Bool
  | [], n => (n, decide (n ≤ 9007199254740991))
  | x :: l, n => if decide (n ≤ 900719925474099) then valR l (10 * n + ((x : Int) - 48)) else (0, false)
theorem drop_at {l : List Nat} {i : Nat} (h : i < l.length) : l.drop i = l.getD i 0 :: l.drop (i + 1) := by
  rw [List.drop_eq_getElem_cons h, List.getD_eq_getElem?_getD, List.getElem?_eq_getElem h]; rfl
def rtrimN (l : List Nat) : List Nat := (l.reverse.dropWhile blankN).reverse
def trimN (u : List Nat) : List Nat := rtrimN (u.dropWhile blankN)
theorem dw_step {l : List Nat} (h : 0 < l.length) (h1 : blankN (l.getD 0 0) = true) : (l.drop 1).dropWhile blankN = l.dropWhile blankN := by
  cases l with
  | nil => simp at h
  | cons a l => rw [List.dropWhile_cons, if_pos (by simpa using h1)]; rfl
theorem dw_end {l : List Nat} (h : l.length = 0 ∨ blankN (l.getD 0 0) = false) : l.dropWhile blankN = l := by
  cases l with
  | nil => rfl
  | cons a l =>
    rcases h with h | h
    · simp at h
    · rw [List.dropWhile_cons, if_neg (by simpa using h)]
theorem last_rev {l : List Nat} (h : 0 < l.length) : l.reverse = l.getD (l.length - 1) 0 :: (l.take (l.length - 1)).reverse := by
  have h1 := take_up (l := l) (i := l.length - 1) (by omega)
  rw [show l.length - 1 + 1 = l.length by omega, List.take_length] at h1
  conv => lhs; rw [h1]
  simp
theorem rt_step {l : List Nat} (h : 0 < l.length) (h1 : blankN (l.getD (l.length - 1) 0) = true) : rtrimN (l.take (l.length - 1)) = rtrimN l := by
  unfold rtrimN
  rw [last_rev h, List.dropWhile_cons, if_pos (by simpa using h1)]
theorem rt_end {l : List Nat} (h : l.length = 0 ∨ (0 < l.length ∧ blankN (l.getD (l.length - 1) 0) = false)) : rtrimN l = l := by
  rcases h with h | ⟨h0, h⟩
  · rw [List.eq_nil_of_length_eq_zero h]; rfl
  · unfold rtrimN
    rw [last_rev h0, List.dropWhile_cons, if_neg (by simpa using h)]
    rw [← last_rev h0, List.reverse_reverse]
def U16s (u : List Nat) : Prop := ∀ x ∈ u, x < 65536
theorem U16s.at16 {u : List Nat} (h : U16s u) (i : Nat) : u.getD i 0 < 65536 := by
  rw [List.getD_eq_getElem?_getD]
  cases hk : u[i]? with
  | none => simp
  | some x => simpa using h x (List.mem_of_getElem? hk)
theorem U16s.asc (s : ByteArray) : U16s (asc s) := fun x hx => by
  unfold Go.Proofs.Ytecgdgjlmlpcnaa.asc at hx
  obtain ⟨c, _, rfl⟩ := List.mem_map.1 hx
  have := c.toNat_lt
  omega
theorem U16s.drop {u : List Nat} (h : U16s u) (n : Nat) : U16s (u.drop n) := fun x hx => h x (List.mem_of_mem_drop hx)
theorem U16s.take {u : List Nat} (h : U16s u) (n : Nat) : U16s (u.take n) := fun x hx => h x (List.mem_of_mem_take hx)
theorem U16s.dw {u : List Nat} (h : U16s u) (p : Nat → Bool) : U16s (u.dropWhile p) := fun x hx => h x ((List.dropWhile_sublist p).mem hx)
theorem U16s.trim {u : List Nat} (h : U16s u) : U16s (trimN u) := fun x hx => by
  unfold trimN rtrimN at hx
  exact h x ((List.dropWhile_sublist _).mem (by simpa using (List.dropWhile_sublist _).mem (List.mem_reverse.1 hx)))
theorem U16s.nil : U16s [] := fun _ h => by cases h
theorem digs_of {u : List Nat} (h : (u.any fun y : Nat => !dgtN y) = false) : ∀ j, j < u.length → 48 ≤ u.getD j 0 ∧ u.getD j 0 ≤ 57 := by
  intro j hj
  have h1 := List.any_eq_false.1 h (u.getD j 0) (by rw [List.getD_eq_getElem?_getD, List.getElem?_eq_getElem hj]; exact List.getElem_mem hj)
  generalize u.getD j 0 = y at *
  unfold dgtN at h1
  simp at h1
  omega
def bodyT (t d : List Nat) (neg : Bool) : Nm × Bool :=
  if decide (d = asc ⟨#[73, 110, 102, 105, 110, 105, 116, 121]⟩) then (if neg then negM ⟨3, 0⟩ else ⟨3, 0⟩, !strangeN t)
  else if !decide ((d.length : Int) ≤ 0) && !(d.any fun y : Nat => !dgtN y) then (if (valR d 0).2 then (if neg then negM ⟨0, (valR d 0).1⟩ else ⟨0, (valR d 0).1⟩, true) else (⟨2, 0⟩, false))
  else (if neg then negM ⟨2, 0⟩ else ⟨2, 0⟩, !strangeN t)
def numT (u : List Nat) : Nm × Bool :=
  if decide (((trimN u).length : Int) = 0) then (⟨0, 0⟩, true)
  else if decide ((((trimN u).getD 0 0 : Nat) : Int) = 45) then bodyT (trimN u) ((trimN u).drop 1) true
  else if decide ((((trimN u).getD 0 0 : Nat) : Int) = 43) then bodyT (trimN u) ((trimN u).drop 1) false
  else bodyT (trimN u) (trimN u) false
/-! ### conv -/
structure VOk (v : Vl) : Prop where
  limbs : Limbs v.mag
  units : U16s v.s
  mlen : v.mag.length ≤ 40
  slen : v.s.length ≤ 20000
  nlo : -9223372036854775808 ≤ v.nn
  nhi : v.nn ≤ 9223372036854775807
  rlo : -9223372036854775808 ≤ v.ref
  rhi : v.ref ≤ 9223372036854775807
theorem VOk.z : VOk Vl.z := ⟨Limbs.nil, U16s.nil, by decide, by decide, by decide, by decide, by decide, by decide⟩
theorem VOk.clean {v : Vl} (h : VOk v) : VOk (cleanV v) := by unfold cleanV; split; exact h; exact VOk.z
theorem VOk.counted {v : Vl} (h : VOk v) : VOk (countedV v) := by
  unfold countedV; split
  · exact ⟨Limbs.nil, U16s.nil, Nat.zero_le _, Nat.zero_le _, h.rlo, h.rhi, (by decide : (-9223372036854775808 : Int) ≤ 0), (by decide : (0 : Int) ≤ 9223372036854775807)⟩
  · exact h
def numberV (v : Vl) : Nm × Int :=
  if decide ((cleanV v).k = 0) then (⟨2, 0⟩, 0)
  else if decide ((cleanV v).k = 1) || decide ((cleanV v).k = 2) then (⟨0, (cleanV v).ref⟩, 0)
  else if decide ((cleanV v).k = 3) then ((cleanV v).num, 0)
  else if decide ((cleanV v).k = 4) then (⟨0, 0⟩, 1)
  else if decide ((cleanV v).k = 5) then (if (numT (cleanV v).s).2 then ((numT (cleanV v).s).1, 0) else (⟨0, 0⟩, 3))
  else (⟨0, 0⟩, 3)
def indexV (v : Vl) : Int × Int :=
  if decide ((cleanV v).k = 0) then (0, 0)
  else if decide ((numberV (cleanV v)).2 = 0) then (if (indexM (numberV (cleanV v)).1).2 then ((indexM (numberV (cleanV v)).1).1, 0) else (0, 2))
  else (0, (numberV (cleanV v)).2)
def strictV (v u : Vl) : Bool :=
  if decide ((cleanV v).k = (cleanV u).k) then (if decide ((cleanV v).k = 3) then equalM (cleanV v).num (cleanV u).num else sameV (cleanV v) (cleanV u)) else false
def noneV (v : Vl) : Bool := decide (v.k = 0) || decide (v.k = 1)
def loose3 (x y : Vl) : Bool × Int :=
  if decide (x.k = y.k) then (strictV x y, 0)
  else if decide (x.k = 3) && decide (y.k = 4) then (alikeB y.neg y.mag x.num, 0)
  else if decide (x.k = 3) && decide (y.k = 5) then (decide ((numberV y).2 = 0) && equalM x.num (numberV y).1, (numberV y).2)
  else (false, 3)
def loose2 (x y : Vl) : Bool × Int := if decide (x.k ≤ y.k) then loose3 x y else loose3 y x
def loose1 (x y : Vl) : Bool × Int :=
  if decide (x.k = y.k) then (strictV x y, 0)
  else if noneV x || noneV y then (noneV x && noneV y, 0)
  else loose2 (countedV x) (countedV y)
def looseV (v u : Vl) : Bool × Int := loose1 (cleanV v) (cleanV u)
def boolV (v : Vl) : Bool :=
  if decide ((cleanV v).k = 2) then decide ((cleanV v).ref = 1)
  else if decide ((cleanV v).k = 3) then !decide ((cleanV v).nk = 2) && !equalM (cleanV v).num ⟨0, 0⟩
  else if decide ((cleanV v).k = 4) then !decide (((cleanV v).mag.length : Int) ≤ 0)
  else if decide ((cleanV v).k = 5) then !decide (((cleanV v).s.length : Int) ≤ 0)
  else decide ((cleanV v).k = 6)
def strV (u : List Nat) : Vl := ⟨5, 0, 0, false, [], u.take 4096, 0⟩
end Go.Proofs.Ytecgdgjlmlpcnaa
