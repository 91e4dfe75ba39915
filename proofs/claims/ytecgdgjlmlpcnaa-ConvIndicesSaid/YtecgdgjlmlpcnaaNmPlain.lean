/- The numbers of chapter 1, as plain Lean. -/
namespace Go.Proofs.Ytecgdgjlmlpcnaa
structure Nm where
  k : Int
  n : Int
deriving DecidableEq
def nmayB (a : Nm) : Bool := if decide (a.k = 0) then !decide (a.n < -9007199254740991) && decide (a.n ≤ 9007199254740991)
  else if decide (a.k = 1) || decide (a.k = 2) || decide (a.k = 3) || decide (a.k = 4) then decide (a.n = 0) else false
def nanM : Nm := ⟨2, 0⟩
def asM (a : Nm) : Nm := if nmayB a then a else ⟨2, 0⟩
def infB (k : Int) : Bool := decide (k = 3) || decide (k = 4)
def noughtB (a : Nm) : Bool := decide (a.k = 1) || (decide (a.k = 0) && decide (a.n = 0))
def belowB (a : Nm) : Bool := decide (a.k = 1) || decide (a.k = 4) || (decide (a.k = 0) && decide (a.n < 0))
def ofM (n : Int) : Nm × Bool := if decide (n < -9007199254740991) || !decide (n ≤ 9007199254740991) then (⟨2, 0⟩, false) else (⟨0, n⟩, true)
def addA (a b : Nm) : Nm × Bool :=
  if decide (a.k = 2) || decide (b.k = 2) || (infB a.k && infB b.k && !decide (a.k = b.k)) then (⟨2, 0⟩, true)
  else if infB a.k then (a, true) else if infB b.k then (b, true)
  else if decide (a.k = 1) && decide (b.k = 1) then (a, true) else ofM (a.n + b.n)
def addM (a b : Nm) : Nm × Bool := addA (asM a) (asM b)
def noughtM (d : Bool) : Nm := if d then ⟨1, 0⟩ else ⟨0, 0⟩
def infM (d : Bool) : Nm := if d then ⟨4, 0⟩ else ⟨3, 0⟩
def negA (a : Nm) : Nm := if decide (a.k = 2) then a else if decide (a.k = 3) || decide (a.k = 4) then infM (decide (a.k = 3)) else if decide (a.k = 1) then ⟨0, 0⟩ else if decide (a.n = 0) then ⟨1, 0⟩ else ⟨0, -a.n⟩
def negM (a : Nm) : Nm := negA (asM a)
/-- |n|, of what is no less than -2^63 + 1 -/
def sizeI (n : Int) : Int := max n (-n)
def signedM (n : Int) (d : Bool) : Nm := if d then ⟨0, -n⟩ else ⟨0, n⟩
def mulA (a b : Nm) : Nm × Bool :=
  if decide (a.k = 2) || decide (b.k = 2) || (infB a.k && noughtB b) || (noughtB a && infB b.k) then (⟨2, 0⟩, true)
  else if infB a.k || infB b.k then (infM (belowB a != belowB b), true)
  else if noughtB a || noughtB b then (noughtM (belowB a != belowB b), true)
  else if !decide (sizeI a.n * sizeI b.n / 18446744073709551616 ≤ 0) || !decide (sizeI a.n * sizeI b.n % 18446744073709551616 ≤ 9007199254740991) then (⟨2, 0⟩, false)
  else (signedM (sizeI a.n * sizeI b.n % 18446744073709551616) (belowB a != belowB b), true)
def mulM (a b : Nm) : Nm × Bool := mulA (asM a) (asM b)
def divA (a b : Nm) : Nm × Bool :=
  if decide (a.k = 2) || decide (b.k = 2) || (infB a.k && infB b.k) || (noughtB a && noughtB b) then (⟨2, 0⟩, true)
  else if infB a.k || noughtB b then (infM (belowB a != belowB b), true)
  else if infB b.k || noughtB a then (noughtM (belowB a != belowB b), true)
  else if decide ((sizeI a.n).tmod (sizeI b.n) = 0) then (signedM ((sizeI a.n).tdiv (sizeI b.n)) (belowB a != belowB b), true) else (⟨2, 0⟩, false)
def divM (a b : Nm) : Nm × Bool := divA (asM a) (asM b)
def remA (a b : Nm) : Nm :=
  if decide (a.k = 2) || decide (b.k = 2) || infB a.k || noughtB b then ⟨2, 0⟩
  else if infB b.k || noughtB a then a
  else if decide ((sizeI a.n).tmod (sizeI b.n) = 0) then noughtM (decide (a.n < 0)) else signedM ((sizeI a.n).tmod (sizeI b.n)) (decide (a.n < 0))
def remM (a b : Nm) : Nm := remA (asM a) (asM b)
def rankM (a : Nm) : Int := if decide (a.k = 3) then 9007199254740992 else if decide (a.k = 4) then -9007199254740992 else a.n
def lessA (a b : Nm) : Bool := !decide (a.k = 2) && !decide (b.k = 2) && decide (rankM a < rankM b)
def lessM (a b : Nm) : Bool := lessA (asM a) (asM b)
def equalA (a b : Nm) : Bool := !decide (a.k = 2) && !decide (b.k = 2) && decide (rankM a = rankM b)
def equalM (a b : Nm) : Bool := equalA (asM a) (asM b)
def sameM (a b : Nm) : Bool := decide ((asM a).k = (asM b).k) && decide ((asM a).n = (asM b).n)
def eqN (a b : Nm) : Bool := decide (a.k = b.k) && decide (a.n = b.n)
def u32M (a : Nm) : Int := if decide ((asM a).k = 0) then (asM a).n % 4294967296 else 0
def i32of (n : Int) : Int := if decide (n % 4294967296 < 2147483648) then n % 4294967296 else n % 4294967296 - 4294967296
def i32M (a : Nm) : Int := i32of (u32M a)
def wholeM (a : Nm) : Nm := if decide ((asM a).k = 2) || decide ((asM a).k = 1) then ⟨0, 0⟩ else asM a
def indexM (a : Nm) : Int × Bool := if decide ((wholeM a).k = 0) && !decide ((wholeM a).n < 0) then ((wholeM a).n, true) else (0, false)
def bandM (x y : Int) : Int := (BitVec.ofInt 64 x &&& BitVec.ofInt 64 y).toInt
def borM (x y : Int) : Int := (BitVec.ofInt 64 x ||| BitVec.ofInt 64 y).toInt
def bxorM (x y : Int) : Int := (BitVec.ofInt 64 x ^^^ BitVec.ofInt 64 y).toInt
def shM (b : Nm) : Int := (u32M b).tmod 32
def bitM (op : Int) (a b : Nm) : Nm :=
  if decide (op = 1) then ⟨0, bandM (i32M a) (i32M b)⟩ else if decide (op = 2) then ⟨0, borM (i32M a) (i32M b)⟩ else if decide (op = 3) then ⟨0, bxorM (i32M a) (i32M b)⟩
  else if decide (op = 4) then ⟨0, i32of (i32M a % 4294967296 * 2 ^ (shM b).toNat % 4294967296)⟩
  else if decide (op = 5) then ⟨0, i32M a / 2 ^ (shM b).toNat⟩ else if decide (op = 6) then ⟨0, u32M a / 2 ^ (shM b).toNat⟩ else ⟨2, 0⟩
/-- the five kinds -/
theorem as_cases (a : Nm) : (∃ n, asM a = ⟨0, n⟩ ∧ -9007199254740991 ≤ n ∧ n ≤ 9007199254740991) ∨ asM a = ⟨1, 0⟩ ∨ asM a = ⟨2, 0⟩ ∨ asM a = ⟨3, 0⟩ ∨ asM a = ⟨4, 0⟩ := by
  obtain ⟨k, n⟩ := a
  unfold asM nmayB
  by_cases h0 : k = 0
  · subst h0
    by_cases h1 : n < -9007199254740991
    · simp [h1]
    · by_cases h2 : n ≤ 9007199254740991
      · simp [h1, h2]; omega
      · simp [h1, h2]
  · by_cases hn : n = 0
    · subst hn
      by_cases h1 : k = 1
      · simp [h1]
      · by_cases h2 : k = 2
        · simp [h2]
        · by_cases h3 : k = 3
          · simp [h3]
          · by_cases h4 : k = 4 <;> simp [h0, h1, h2, h3, h4]
    · by_cases h1 : k = 1 ∨ k = 2 ∨ k = 3 ∨ k = 4
      · rcases h1 with rfl | rfl | rfl | rfl <;> simp [hn]
      · simp [h0, hn]
theorem as_bd (a : Nm) : -9007199254740991 ≤ (asM a).n ∧ (asM a).n ≤ 9007199254740991 := by
  rcases as_cases a with ⟨n, h, h1, h2⟩ | h | h | h | h <;> rw [h] <;> simp <;> omega
theorem as_k (a : Nm) : 0 ≤ (asM a).k ∧ (asM a).k ≤ 4 := by
  rcases as_cases a with ⟨n, h, h1, h2⟩ | h | h | h | h <;> rw [h] <;> simp
end Go.Proofs.Ytecgdgjlmlpcnaa
