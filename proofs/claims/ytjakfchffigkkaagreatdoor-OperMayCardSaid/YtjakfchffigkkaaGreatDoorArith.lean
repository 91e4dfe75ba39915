import Derived.Test.YtjakfchffigkkaaGreatDoorRow
namespace Go.Proofs.YtjakfchffigkkaaGreatDoor
open Go.RowKit
set_option linter.unusedVariables false
set_option linter.unusedSimpArgs false
theorem wp_seq_j {P : Program} {c d : Code} {Q : Exit → Act → World → Prop} {a : Act} {w : World} (J : Act → World → Prop) (hr : ∀ a w, J a w → d.wp P Q a w) (h : ∀ K : Act → World → Prop, (∀ a w, J a w → K a w) → c.wp P (Exit.then K Q) a w) : (Code.seq c d).wp P Q a w := wp_seq_k fun K hK => h K fun a w hj => hK a w (hr a w hj)
theorem blk_n {n : Nat} {Q : Exit → Act → World → Prop} {a : Act} {w : World} (h : Q .normal a w) : Exit.inBlock n Q .normal a w := h
section
variable {P : Program} {t : TypeId} {k : IntKind} {x y r : Int}
theorem n_add (h : x + y = r) (hw : k.wrap r = r) : ∀ w, (binOp .add t (.int k x) (.int k y)).run P w = .ok (.int k r) w := by
  intro w; subst h; simp [binOp, Op.intArith, hw]
theorem n_sub (h : x - y = r) (hw : k.wrap r = r) : ∀ w, (binOp .sub t (.int k x) (.int k y)).run P w = .ok (.int k r) w := by
  intro w; subst h; simp [binOp, Op.intArith, hw]
theorem n_mul (h : x * y = r) (hw : k.wrap r = r) : ∀ w, (binOp .mul t (.int k x) (.int k y)).run P w = .ok (.int k r) w := by
  intro w; subst h; simp [binOp, Op.intArith, hw]
theorem n_quo (h : x.tdiv y = r) (hy : y ≠ 0) (hw : k.wrap r = r) : ∀ w, (binOp .quo t (.int k x) (.int k y)).run P w = .ok (.int k r) w := by
  intro w; simp [binOp, Op.intDiv, h, hy, hw]
theorem n_rem (h : x.tmod y = r) (hy : y ≠ 0) : ∀ w, (binOp .rem t (.int k x) (.int k y)).run P w = .ok (.int k r) w := by
  intro w; simp [binOp, Op.intDiv, h, hy]
theorem n_quoN (n m : Nat) (hm : 0 < m) (hw : k.wrap ((n / m : Nat) : Int) = ((n / m : Nat) : Int)) : ∀ w, (binOp .quo t (.int k (n : Int)) (.int k (m : Int))).run P w = .ok (.int k ((n / m : Nat) : Int)) w := n_quo rfl (by omega) hw
theorem n_remN (n m : Nat) (hm : 0 < m) : ∀ w, (binOp .rem t (.int k (n : Int)) (.int k (m : Int))).run P w = .ok (.int k ((n % m : Nat) : Int)) w := n_rem rfl (by omega)
theorem n_conv {s d : TypeId} {k kd : IntKind} {n m : Int} {w : World} (hs : (P.underlying s).isSome = true) (hd : P.underlying d = some (.int (P.intKind d))) (hk : P.intKind d = kd) (hr : kd.wrap n = m) : (convert s d (.int k n)).run P w = .ok (.int kd m) w := by
  rw [run_convert_int (src := s) (dst := d) (k := k) (n := n) (hs := hs) (hd := hd), hk, hr]
theorem n_wrap32 (n : Nat) : IntKind.u32.wrap (n : Int) = ((n % 4294967296 : Nat) : Int) := by simp [IntKind.wrap, IntKind.bits, IntKind.signed]
theorem n_wrap8 (n : Nat) : IntKind.u8.wrap (n : Int) = ((n % 256 : Nat) : Int) := by simp [IntKind.wrap, IntKind.bits, IntKind.signed]
theorem n_wrap16 (n : Nat) : IntKind.u16.wrap (n : Int) = ((n % 65536 : Nat) : Int) := by simp [IntKind.wrap, IntKind.bits, IntKind.signed]
theorem n_wrap64 (n : Nat) : IntKind.u64.wrap (n : Int) = ((n % 18446744073709551616 : Nat) : Int) := by simp [IntKind.wrap, IntKind.bits, IntKind.signed]
theorem n_bits (k : IntKind) (n : Nat) (hn : n < 2 ^ k.bits) : (BitVec.ofInt k.bits (n : Int)).toNat = n := by
  rw [BitVec.ofInt_natCast, BitVec.toNat_ofNat, Nat.mod_eq_of_lt hn]
theorem n_and (n m : Nat) (hn : n < 2 ^ k.bits) (hm : m < 2 ^ k.bits) (hw : k.wrap ((n &&& m : Nat) : Int) = ((n &&& m : Nat) : Int)) : ∀ w, (binOp .and t (.int k (n : Int)) (.int k (m : Int))).run P w = .ok (.int k ((n &&& m : Nat) : Int)) w := by
  intro w
  simp only [binOp, Op.intBits, BitVec.toNat_and, n_bits k n hn, n_bits k m hm, hw]
  simp
theorem n_or (n m : Nat) (hn : n < 2 ^ k.bits) (hm : m < 2 ^ k.bits) (hw : k.wrap ((n ||| m : Nat) : Int) = ((n ||| m : Nat) : Int)) : ∀ w, (binOp .or t (.int k (n : Int)) (.int k (m : Int))).run P w = .ok (.int k ((n ||| m : Nat) : Int)) w := by
  intro w
  simp only [binOp, Op.intBits, BitVec.toNat_or, n_bits k n hn, n_bits k m hm, hw]
  simp
theorem n_andU64 (n m : Nat) (hn : n < 18446744073709551616) (hm : m < 18446744073709551616) : ∀ w, (binOp .and t (.int .u64 (n : Int)) (.int .u64 (m : Int))).run P w = .ok (.int .u64 ((n &&& m : Nat) : Int)) w :=
  n_and n m hn hm (IntWalk.u64_in _ (by have := Nat.and_le_left (n := n) (m := m); omega))
theorem n_andU32 (n m : Nat) (hn : n < 4294967296) (hm : m < 4294967296) : ∀ w, (binOp .and t (.int .u32 (n : Int)) (.int .u32 (m : Int))).run P w = .ok (.int .u32 ((n &&& m : Nat) : Int)) w :=
  n_and n m hn hm (IntWalk.u32_in _ (by have := Nat.and_le_left (n := n) (m := m); omega))
theorem n_orU32 (n m : Nat) (hn : n < 4294967296) (hm : m < 4294967296) : ∀ w, (binOp .or t (.int .u32 (n : Int)) (.int .u32 (m : Int))).run P w = .ok (.int .u32 ((n ||| m : Nat) : Int)) w :=
  n_or n m hn hm (IntWalk.u32_in _ (by have : n ||| m < 2 ^ 32 := Nat.or_lt_two_pow hn hm; omega))
theorem n_bit32 (n : Nat) (hn : n < 4294967296) : ∀ w, (binOp .and t (.int .u32 (n : Int)) (.int .u32 1)).run P w = .ok (.int .u32 ((n % 2 : Nat) : Int)) w := by
  have h := n_andU32 (P := P) (t := t) n 1 hn (by omega)
  rw [show n &&& 1 = n % 2 from Nat.and_two_pow_sub_one_eq_mod n 1] at h
  exact h
theorem n_andMask64 (n : Nat) (hn : n < 18446744073709551616) : ∀ w, (binOp .and t (.int .u64 (n : Int)) (.int .u64 4294967295)).run P w = .ok (.int .u64 ((n % 4294967296 : Nat) : Int)) w := by
  have h := n_andU64 (P := P) (t := t) n 4294967295 hn (by omega)
  rw [show n &&& 4294967295 = n % 4294967296 from Nat.and_two_pow_sub_one_eq_mod n 32] at h
  exact h
theorem n_shr {kk : IntKind} (n s : Nat) (hs : s < k.bits) : ∀ w, (binOp .shr t (.int k (n : Int)) (.int kk (s : Int))).run P w = .ok (.int k ((n / 2 ^ s : Nat) : Int)) w := by
  intro w
  have h1 : ¬ (s : Int) < 0 := by omega
  have h2 : min s k.bits = s := by omega
  have h3 : (n : Int).fdiv (2 ^ s) = ((n / 2 ^ s : Nat) : Int) := by
    rw [Int.fdiv_eq_ediv_of_nonneg _ (Int.le_of_lt (Int.pow_pos (by omega)))]
    simp
  simp [binOp, Op.shift, h1, h2, h3]
theorem n_shl {kk : IntKind} (n s : Nat) (hs : s < k.bits) (hw : k.wrap ((n * 2 ^ s : Nat) : Int) = ((n * 2 ^ s : Nat) : Int)) : ∀ w, (binOp .shl t (.int k (n : Int)) (.int kk (s : Int))).run P w = .ok (.int k ((n * 2 ^ s : Nat) : Int)) w := by
  intro w
  have h1 : ¬ (s : Int) < 0 := by omega
  have h2 : min s k.bits = s := by omega
  have h3 : ((n * 2 ^ s : Nat) : Int) = (n : Int) * 2 ^ s := by simp
  rw [h3] at hw
  simp [binOp, Op.shift, h1, h2, hw, h3]
theorem pow_wrap32 (s : Nat) (hs : s < 32) : IntKind.u32.wrap ((1 * 2 ^ s : Nat) : Int) = ((1 * 2 ^ s : Nat) : Int) := by
  have : 2 ^ s < 2 ^ 32 := Nat.pow_lt_pow_right (by omega) hs
  exact IntWalk.u32_in _ (by omega)
end
section
variable {w : World} {o : Oper} {a : Act} {P : Program}
theorem v_adds {t t' : TypeId} {x y : Operand} {s s' : ByteArray} (ho : o.op = .binOp .add t x y t') (hx : a.eval x = .string s) (hy : a.eval y = .string s') (hl : s.size + s'.size ≤ 9223372036854775807) : (execOp a.eval o).run P w = .ok (.value (.string (s ++ s'))) w := by
  simp [execOp, ho, hx, hy, binOp, eqGuard, Op.stringOp]; omega
end
end Go.Proofs.YtjakfchffigkkaaGreatDoor
