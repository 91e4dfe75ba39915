/- Small laws for the walks of package num. -/
import Derived.Test.YtldakajmhfdfgaaDoorNumA
import Derived.Test.YtldakajmhfdfgaaDoorNumShelf
namespace Go.Proofs.YtldakajmhfdfgaaDoor
open Go.RowKit
set_option linter.unusedVariables false
set_option linter.unusedSimpArgs false
theorem mul64_c (x y : Int) (w : World) (hx : 0 ≤ x ∧ x < 18446744073709551616) (hy : 0 ≤ y ∧ y < 18446744073709551616) : Calls Tryd.prog 70 #[.int .u64 x, .int .u64 y] w (IsRet (.tuple #[.int .u64 (x * y / 18446744073709551616), .int .u64 (x * y % 18446744073709551616)]) w) := by
  obtain ⟨a, rfl⟩ : ∃ a : Nat, x = a := ⟨x.toNat, by omega⟩
  obtain ⟨b, rfl⟩ : ∃ b : Nat, y = b := ⟨y.toNat, by omega⟩
  refine (Any.bits_Mul64 Tryd.lays264 a b (by omega) (by omega) w).mono ?_
  rintro e w' ⟨rfl, rfl⟩
  refine ⟨?_, Upd.refl _ _⟩
  have h1 : ((a * b / 18446744073709551616 : Nat) : Int) = (a : Int) * b / 18446744073709551616 := by rw [← Int.natCast_mul]; rfl
  have h2 : ((a * b % 18446744073709551616 : Nat) : Int) = (a : Int) * b % 18446744073709551616 := by rw [← Int.natCast_mul]; rfl
  rw [h1, h2]
section
variable {P : Program}
theorem run_conv {s d : TypeId} {k kd : IntKind} {n m : Int} {w : World} (hs : (P.underlying s).isSome = true) (hd : P.underlying d = some (.int (P.intKind d))) (hk : P.intKind d = kd) (hr : kd.wrap n = m) : (convert s d (.int k n)).run P w = .ok (.int kd m) w := by
  rw [run_convert_int (src := s) (dst := d) (k := k) (n := n) (hs := hs) (hd := hd), hk, hr]
theorem r_quoU {t : TypeId} {x y r : Int} (h : x.tdiv y = r) (hy : y ≠ 0) (hr : 0 ≤ r ∧ r ≤ 18446744073709551615) : ∀ w, (binOp .quo t (.int .u64 x) (.int .u64 y)).run P w = .ok (.int .u64 r) w := by
  intro w; simp [binOp, Op.intDiv, h, hy, IntWalk.u64_in r hr]
theorem r_remU {t : TypeId} {x y r : Int} (h : x.tmod y = r) (hy : y ≠ 0) : ∀ w, (binOp .rem t (.int .u64 x) (.int .u64 y)).run P w = .ok (.int .u64 r) w := by
  intro w; simp [binOp, Op.intDiv, h, hy]
theorem r_remI {t : TypeId} {x y r : Int} (h : x.tmod y = r) (hy : y ≠ 0) : ∀ w, (binOp .rem t (.int .i64 x) (.int .i64 y)).run P w = .ok (.int .i64 r) w := by
  intro w; simp [binOp, Op.intDiv, h, hy]
end
theorem wrap_toInt (v : BitVec 64) : IntKind.i64.wrap (v.toNat : Int) = v.toInt := by
  rw [BitVec.toInt_eq_toNat_cond]
  simp [IntKind.wrap, IntKind.bits, IntKind.signed]
  have := v.isLt
  split <;> split <;> omega
theorem r_andI {P : Program} {t : TypeId} (x y : Int) : ∀ w, (binOp .and t (.int .i64 x) (.int .i64 y)).run P w = .ok (.int .i64 (bandM x y)) w := by
  intro w; simp [binOp]; exact congrArg (fun n => Result.ok (Value.int .i64 n) w) (wrap_toInt _)
theorem r_orI {P : Program} {t : TypeId} (x y : Int) : ∀ w, (binOp .or t (.int .i64 x) (.int .i64 y)).run P w = .ok (.int .i64 (borM x y)) w := by
  intro w; simp [binOp]; exact congrArg (fun n => Result.ok (Value.int .i64 n) w) (wrap_toInt _)
theorem r_xorI {P : Program} {t : TypeId} (x y : Int) : ∀ w, (binOp .xor t (.int .i64 x) (.int .i64 y)).run P w = .ok (.int .i64 (bxorM x y)) w := by
  intro w; simp [binOp]; exact congrArg (fun n => Result.ok (Value.int .i64 n) w) (wrap_toInt _)
theorem r_shlU32 {P : Program} {t : TypeId} {x s : Int} (h : 0 ≤ s ∧ s < 32) : ∀ w, (binOp .shl t (.int .u32 x) (.int .i64 s)).run P w = .ok (.int .u32 (x * 2 ^ s.toNat % 4294967296)) w := by
  intro w
  have h1 : ¬ s < 0 := by omega
  have h2 : min s.toNat 32 = s.toNat := by omega
  simp [binOp, Op.shift, h1, IntKind.bits, h2, IntKind.wrap, IntKind.signed]
theorem r_shrI {P : Program} {t : TypeId} {x s : Int} (h : 0 ≤ s ∧ s < 64) : ∀ w, (binOp .shr t (.int .i64 x) (.int .i64 s)).run P w = .ok (.int .i64 (x / 2 ^ s.toNat)) w := by
  intro w
  have h1 : ¬ s < 0 := by omega
  have h2 : min s.toNat 64 = s.toNat := by omega
  simp [binOp, Op.shift, h1, IntKind.bits, h2]
theorem r_neqB (x y : Bool) : ∀ w, (binOp .neq 4 (.bool x) (.bool y)).run Tryd.prog w = .ok (.bool (x != y)) w := by
  intro w; cases x <;> cases y <;> kernel_rfl
theorem r_eqlB (x y : Bool) : ∀ w, (binOp .eql 4 (.bool x) (.bool y)).run Tryd.prog w = .ok (.bool (x == y)) w := by
  intro w; cases x <;> cases y <;> kernel_rfl
theorem whole_of {a : Nm} (h1 : decide ((asM a).k = 2) = false) (h2 : infB (asM a).k = false) (h3 : noughtB (asM a) = false) : (asM a).k = 0 ∧ (asM a).n ≠ 0 := by
  rcases as_cases a with ⟨n, h, -⟩ | h | h | h | h <;> rw [h] at h1 h2 h3 ⊢ <;> simp [infB, noughtB] at h1 h2 h3 ⊢
  exact h3
theorem size_bd (a : Nm) : 0 ≤ sizeI (asM a).n ∧ sizeI (asM a).n ≤ 9007199254740991 := by
  have h := as_bd a
  unfold sizeI
  omega
theorem size_nz {n : Int} (h : n ≠ 0) : sizeI n ≠ 0 := by unfold sizeI; omega
theorem tdiv_bd {x y : Int} (hx : 0 ≤ x) (hy : 0 ≤ y) : 0 ≤ x.tdiv y ∧ x.tdiv y ≤ x := by
  obtain ⟨a, rfl⟩ : ∃ a : Nat, x = a := ⟨x.toNat, by omega⟩
  obtain ⟨b, rfl⟩ : ∃ b : Nat, y = b := ⟨y.toNat, by omega⟩
  have : ((a : Int).tdiv (b : Int)) = ((a / b : Nat) : Int) := rfl
  rw [this]
  exact ⟨Int.natCast_nonneg _, Int.ofNat_le.mpr (Nat.div_le_self a b)⟩
theorem tmod_bd {x y : Int} (hx : 0 ≤ x) (hy : 0 < y) : 0 ≤ x.tmod y ∧ x.tmod y < y := by
  obtain ⟨a, rfl⟩ : ∃ a : Nat, x = a := ⟨x.toNat, by omega⟩
  obtain ⟨b, rfl⟩ : ∃ b : Nat, y = b := ⟨y.toNat, by omega⟩
  have : ((a : Int).tmod (b : Int)) = ((a % b : Nat) : Int) := rfl
  rw [this]
  have := Nat.mod_lt a (y := b) (by omega)
  omega
theorem wrap_u32m (n : Int) : IntKind.u32.wrap n = n % 4294967296 := by simp [IntKind.wrap, IntKind.bits, IntKind.signed]
theorem wrap_i32m (n : Int) : IntKind.i32.wrap n = i32of n := by
  simp [IntKind.wrap, IntKind.bits, IntKind.signed, i32of]
  split <;> split <;> omega
theorem i32_bd (n : Int) : -2147483648 ≤ i32of n ∧ i32of n ≤ 2147483647 := by unfold i32of; split <;> simp_all <;> omega
theorem sh_bd (b : Nm) (h : 0 ≤ u32M b ∧ u32M b ≤ 4294967295) : 0 ≤ (u32M b).tmod 32 ∧ (u32M b).tmod 32 < 32 := tmod_bd h.1 (by omega)
theorem u32_bd (a : Nm) : 0 ≤ u32M a ∧ u32M a ≤ 4294967295 := by unfold u32M; split <;> omega
end Go.Proofs.YtldakajmhfdfgaaDoor
