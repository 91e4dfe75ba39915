/- Small laws for the walks of the reference's numbers, and what it reckons, as the document's code has it. -/
import Derived.Test.YtldakajmhfdfgaaDoorNumB
namespace Go.Proofs.YtldakajmhfdfgaaDoor
open Go.RowKit
set_option linter.unusedVariables false
set_option linter.unusedSimpArgs false
theorem r_quoI {P : Program} {t : TypeId} {x y r : Int} (h : x.tdiv y = r) (hy : y ≠ 0) (hr : -9223372036854775808 ≤ r ∧ r ≤ 9223372036854775807) : ∀ w, (binOp .quo t (.int .i64 x) (.int .i64 y)).run P w = .ok (.int .i64 r) w := by
  intro w; simp [binOp, Op.intDiv, h, hy, IntWalk.i64_in r hr]
theorem r_mul {P : Program} {t : TypeId} {x y r : Int} (h : x * y = r) (hr : -9223372036854775808 ≤ r ∧ r ≤ 9223372036854775807) : ∀ w, (binOp .mul t (.int .i64 x) (.int .i64 y)).run P w = .ok (.int .i64 r) w := by
  intro w; simp [binOp, Op.intArith, h, IntWalk.i64_in r hr]
theorem r_shlIU {P : Program} {t : TypeId} {x s : Int} (h : 0 ≤ s ∧ s < 64) (hr : -9223372036854775808 ≤ x * 2 ^ s.toNat ∧ x * 2 ^ s.toNat ≤ 9223372036854775807) : ∀ w, (binOp .shl t (.int .i64 x) (.int .u64 s)).run P w = .ok (.int .i64 (x * 2 ^ s.toNat)) w := by
  intro w
  have h1 : ¬ s < 0 := by omega
  have h2 : min s.toNat 64 = s.toNat := by omega
  have h3 : (Op.shift .shl .i64 x .u64 s) = pure (.int .i64 (IntKind.i64.wrap (x * 2 ^ s.toNat))) := by
    unfold Op.shift
    rw [if_neg h1]
    show (pure (.int .i64 (IntKind.i64.wrap (x * 2 ^ (min s.toNat 64)))) : Sem Value) = _
    rw [h2]
  show (Op.shift .shl .i64 x .u64 s).run P w = _
  rw [h3, IntWalk.i64_in _ hr]
  rfl
theorem r_shrIU {P : Program} {t : TypeId} {x s : Int} (h : 0 ≤ s ∧ s < 64) : ∀ w, (binOp .shr t (.int .i64 x) (.int .u64 s)).run P w = .ok (.int .i64 (x / 2 ^ s.toNat)) w := by
  intro w
  have h1 := r_shrI (P := P) (t := t) (x := x) h w
  exact h1
def rMayB (a : Nm) : Bool := if decide (a.k = 0) then !decide (a.n < -9007199254740991) && decide (a.n ≤ 9007199254740991) else !decide (a.k < 1) && decide (a.k ≤ 4) && decide (a.n = 0)
theorem rMay_eq (a : Nm) : rMayB a = mayB a := by
  obtain ⟨k, n⟩ := a
  unfold rMayB mayB
  by_cases h0 : k = 0
  · simp [h0]
  · by_cases hk : k = 1 ∨ k = 2 ∨ k = 3 ∨ k = 4
    · rcases hk with rfl | rfl | rfl | rfl <;> simp
    · have h1 : ¬ k = 1 := by omega
      have h2 : ¬ k = 2 := by omega
      have h3 : ¬ k = 3 := by omega
      have h4 : ¬ k = 4 := by omega
      by_cases hlt : k < 1
      · simp [h0, h1, h2, h3, h4, hlt]
      · have : ¬ k ≤ 4 := by omega
        simp [h0, h1, h2, h3, h4, hlt, this]
def signedR (big neg : Bool) : Nm := if big && neg then ⟨4, 0⟩ else if big then ⟨3, 0⟩ else if neg then ⟨1, 0⟩ else ⟨0, 0⟩
def rNegM (a : Nm) : Nm := if decide ((asM a).k = 2) then asM a else if infB (asM a).k || noughtB (asM a) then signedR (infB (asM a).k) (!belowB (asM a)) else ⟨0, -(asM a).n⟩
theorem rNeg_eq (a : Nm) : rNegM a = negM a := by
  unfold rNegM negM negA
  rcases as_cases a with ⟨n, h, h1, h2⟩ | h | h | h | h <;> rw [h]
  · by_cases hn : n = 0
    · subst hn; decide
    · simp [infB, noughtB, hn]
  all_goals decide
def productR (x y : Int) : Nm × Bool := if !decide (max x (-x) ≤ (9007199254740991 : Int).tdiv (max y (-y))) then (⟨2, 0⟩, false) else ofM (x * y)
def rMulM (a b : Nm) : Nm × Bool :=
  if decide ((asM a).k = 2) || decide ((asM b).k = 2) || (infB (asM a).k && noughtB (asM b)) || (noughtB (asM a) && infB (asM b).k) then (⟨2, 0⟩, true)
  else if infB (asM a).k || infB (asM b).k then (signedR true (belowB (asM a) != belowB (asM b)), true)
  else if noughtB (asM a) || noughtB (asM b) then (signedR false (belowB (asM a) != belowB (asM b)), true)
  else productR (asM a).n (asM b).n
def rDivM (a b : Nm) : Nm × Bool :=
  if decide ((asM a).k = 2) || decide ((asM b).k = 2) || (infB (asM a).k && infB (asM b).k) || (noughtB (asM a) && noughtB (asM b)) then (⟨2, 0⟩, true)
  else if infB (asM a).k || noughtB (asM b) then (signedR true (belowB (asM a) != belowB (asM b)), true)
  else if infB (asM b).k || noughtB (asM a) then (signedR false (belowB (asM a) != belowB (asM b)), true)
  else if !decide ((asM a).n.tmod (asM b).n = 0) then (⟨2, 0⟩, false) else ofM ((asM a).n.tdiv (asM b).n)
def rRemM (a b : Nm) : Nm :=
  if decide ((asM a).k = 2) || decide ((asM b).k = 2) || infB (asM a).k || noughtB (asM b) then ⟨2, 0⟩
  else if infB (asM b).k || noughtB (asM a) then asM a
  else if decide ((asM a).n.tmod (asM b).n = 0) && decide ((asM a).n < 0) then ⟨1, 0⟩ else ⟨0, (asM a).n.tmod (asM b).n⟩
def rU32 (a : Nm) : Int := if decide ((asM a).k = 0) then ((asM a).n.tmod 4294967296 + 4294967296).tmod 4294967296 else 0
theorem tmod_cast (n : Int) : -4294967296 < n.tmod 4294967296 ∧ n.tmod 4294967296 < 4294967296 := by
  rcases Int.le_total 0 n with h | h
  · obtain ⟨m, rfl⟩ : ∃ m : Nat, n = m := ⟨n.toNat, by omega⟩
    have e : ((m : Int).tmod 4294967296) = ((m % 4294967296 : Nat) : Int) := rfl
    rw [e]; omega
  · obtain ⟨m, rfl⟩ : ∃ m : Nat, n = -(m : Int) := ⟨n.natAbs, by omega⟩
    have e : ((-(m : Int)).tmod 4294967296) = -((m % 4294967296 : Nat) : Int) := by rw [Int.neg_tmod]; rfl
    rw [e]; omega
theorem rU32_eq (a : Nm) : rU32 a = u32M a := by
  unfold rU32 u32M
  split
  · generalize (asM a).n = n
    have hb := tmod_cast n
    obtain ⟨m, hm⟩ : ∃ m : Nat, n.tmod 4294967296 + 4294967296 = m := ⟨(n.tmod 4294967296 + 4294967296).toNat, by omega⟩
    rw [hm]
    have e : ((m : Int).tmod 4294967296) = ((m % 4294967296 : Nat) : Int) := rfl
    rw [e]
    have h2 := Int.tmod_add_mul_tdiv n 4294967296
    generalize n.tdiv 4294967296 = q at h2
    omega
  · rfl
def rI32 (a : Nm) : Int := if !decide (u32M a < 2147483648) then u32M a - 4294967296 else u32M a
theorem rI32_eq (a : Nm) : rI32 a = i32M a := by
  have h := u32_bd a
  unfold rI32 i32M i32of
  have e : u32M a % 4294967296 = u32M a := by omega
  rw [e]
  by_cases hl : u32M a < 2147483648 <;> simp [hl]
def rBitN (op : Int) (a b : Nm) : Int :=
  if decide (op = 1) then bandM (u32M a) (u32M b) else if decide (op = 2) then borM (u32M a) (u32M b) else if decide (op = 3) then bxorM (u32M a) (u32M b) else (u32M a * 2 ^ ((u32M b).tmod 32).toNat).tmod 4294967296
def rBitM (op : Int) (a b : Nm) : Nm :=
  if decide (op = 1) || decide (op = 2) || decide (op = 3) || decide (op = 4) then ⟨0, i32M ⟨0, rBitN op a b⟩⟩
  else if decide (op = 5) then ⟨0, i32M a / 2 ^ ((u32M b).tmod 32).toNat⟩ else if decide (op = 6) then ⟨0, u32M a / 2 ^ ((u32M b).tmod 32).toNat⟩ else ⟨2, 0⟩
theorem pow31 {s : Nat} (h : s < 32) : (2 : Int) ^ s ≤ 2147483648 ∧ 1 ≤ (2 : Int) ^ s := by
  have h1 : (2 : Nat) ^ s ≤ 2 ^ 31 := Nat.pow_le_pow_right (by omega) (by omega)
  have h2 : 1 ≤ (2 : Nat) ^ s := Nat.one_le_two_pow
  have e : ((2 ^ s : Nat) : Int) = (2 : Int) ^ s := by rw [Int.natCast_pow]; rfl
  omega
theorem shl_bd (a b : Nm) : -9223372036854775808 ≤ u32M a * 2 ^ ((u32M b).tmod 32).toNat ∧ u32M a * 2 ^ ((u32M b).tmod 32).toNat ≤ 9223372036854775807 := by
  have ha := u32_bd a
  have hs := sh_bd b (u32_bd b)
  have hp := pow31 (s := ((u32M b).tmod 32).toNat) (by omega)
  generalize (2 : Int) ^ ((u32M b).tmod 32).toNat = p at *
  generalize u32M a = x at *
  have h1 : x * p ≤ 4294967295 * 2147483648 := Int.mul_le_mul ha.2 hp.1 (by omega) (by omega)
  have h2 : 0 ≤ x * p := Int.mul_nonneg ha.1 (by omega)
  omega
theorem prod_bd {x y : Int} (hy : y ≠ 0) (h : max x (-x) ≤ (9007199254740991 : Int).tdiv (max y (-y))) : -9223372036854775808 ≤ x * y ∧ x * y ≤ 9223372036854775807 := by
  obtain ⟨p, hp⟩ : ∃ p : Nat, max x (-x) = p := ⟨(max x (-x)).toNat, by omega⟩
  obtain ⟨q, hq⟩ : ∃ q : Nat, max y (-y) = q := ⟨(max y (-y)).toNat, by omega⟩
  rw [hp, hq] at h
  have e : (9007199254740991 : Int).tdiv (q : Int) = ((9007199254740991 / q : Nat) : Int) := rfl
  rw [e] at h
  have h1 : p ≤ 9007199254740991 / q := by omega
  have h2 : p * q ≤ 9007199254740991 := (Nat.le_div_iff_mul_le (by omega)).1 h1
  have h3 : (x * y).natAbs = p * q := by
    rw [Int.natAbs_mul]
    have h4 : x.natAbs = p := by omega
    have h5 : y.natAbs = q := by omega
    rw [h4, h5]
  omega
end Go.Proofs.YtldakajmhfdfgaaDoor
