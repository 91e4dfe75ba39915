/- Package big's numbers in the form of the walks. -/
import Derived.Test.YtfhflpchfgkgcaaRefD
import Derived.Test.YtfhflpchfgkgcaaBigV
namespace Go.Proofs.Ytfhflpchfgkgcaa
open Go.RowKit
set_option linter.unusedSimpArgs false
set_option linter.unusedVariables false
theorem big_in {w : World} {b : Bool} {A : Option Addr} {m : List Nat} {c : Nat} (hr : SRow w .u32 A m c) (hl : Limbs m) : BigAt w (.agg #[.bool b, sv A m c]) (goodI b m) := ⟨b, _, m, rfl, hr, hl, rfl⟩
theorem n_eql_self {P : Program} {t : TypeId} (k : IntKind) (x : Int) : ∀ w, (binOp .eql t (.int k x) (.int k x)).run P w = .ok (.bool true) w := r_eql (by simp)
theorem n_neq_self {P : Program} {t : TypeId} (k : IntKind) (x : Int) : ∀ w, (binOp .neq t (.int k x) (.int k x)).run P w = .ok (.bool false) w := by
  have h := r_neq (P := P) (t := t) (k := k) (x := x) (y := x) (r := true) (by simp)
  exact h
theorem self_eqlB (b : Bool) : ∀ w, (binOp .eql 4 (.bool b) (.bool b)).run Try.prog w = .ok (.bool true) w := by intro w; cases b <;> kernel_rfl
theorem self_neqB (b : Bool) : ∀ w, (binOp .neq 4 (.bool b) (.bool b)).run Try.prog w = .ok (.bool false) w := by intro w; cases b <;> kernel_rfl
theorem bAdd_c (b1 : Bool) (A : Option Addr) (a : List Nat) (c : Nat) (b2 : Bool) (B : Option Addr) (b : List Nat) (d : Nat) (w : World) (hra : SRow w .u32 A a c) (ha : Limbs a) (hrb : SRow w .u32 B b d) (hb : Limbs b) : Calls Try.prog 34 #[.agg #[.bool b1, sv A a c], .agg #[.bool b2, sv B b d]] w (RetZB (capI (goodI b1 a + goodI b2 b)) (okI (goodI b1 a + goodI b2 b)) w) := by
  refine (add_any _ _ _ _ w (big_in hra ha) (big_in hrb hb)).mono fun e w' h => ?_
  obtain ⟨f, A', n', c', rfl, hc, hn⟩ := h
  obtain ⟨rfl, rfl, hr'⟩ := hc.parts
  exact ⟨A', c', rfl, hr', hn⟩
theorem bSub_c (b1 : Bool) (A : Option Addr) (a : List Nat) (c : Nat) (b2 : Bool) (B : Option Addr) (b : List Nat) (d : Nat) (w : World) (hra : SRow w .u32 A a c) (ha : Limbs a) (hrb : SRow w .u32 B b d) (hb : Limbs b) : Calls Try.prog 35 #[.agg #[.bool b1, sv A a c], .agg #[.bool b2, sv B b d]] w (RetZB (capI (goodI b1 a - goodI b2 b)) (okI (goodI b1 a - goodI b2 b)) w) := by
  refine (sub_any _ _ _ _ w (big_in hra ha) (big_in hrb hb)).mono fun e w' h => ?_
  obtain ⟨f, A', n', c', rfl, hc, hn⟩ := h
  obtain ⟨rfl, rfl, hr'⟩ := hc.parts
  exact ⟨A', c', rfl, hr', hn⟩
theorem bMul_c (b1 : Bool) (A : Option Addr) (a : List Nat) (c : Nat) (b2 : Bool) (B : Option Addr) (b : List Nat) (d : Nat) (w : World) (hra : SRow w .u32 A a c) (ha : Limbs a) (hrb : SRow w .u32 B b d) (hb : Limbs b) : Calls Try.prog 36 #[.agg #[.bool b1, sv A a c], .agg #[.bool b2, sv B b d]] w (RetZB (capI (goodI b1 a * goodI b2 b)) (okI (goodI b1 a * goodI b2 b)) w) := by
  refine (mul_any _ _ _ _ w (big_in hra ha) (big_in hrb hb)).mono fun e w' h => ?_
  obtain ⟨f, A', n', c', rfl, hc, hn⟩ := h
  obtain ⟨rfl, rfl, hr'⟩ := hc.parts
  exact ⟨A', c', rfl, hr', hn⟩
theorem bDiv_c (b1 : Bool) (A : Option Addr) (a : List Nat) (c : Nat) (b2 : Bool) (B : Option Addr) (b : List Nat) (d : Nat) (w : World) (hra : SRow w .u32 A a c) (ha : Limbs a) (hrb : SRow w .u32 B b d) (hb : Limbs b) : Calls Try.prog 37 #[.agg #[.bool b1, sv A a c], .agg #[.bool b2, sv B b d]] w (RetZE (divZ (goodI b1 a) (goodI b2 b)) (zeroE (goodI b2 b)) w) := by
  refine (div_any _ _ _ _ w (big_in hra ha) (big_in hrb hb)).mono fun e w' h => ?_
  obtain ⟨f, A', n', c', rfl, hc, hn⟩ := h
  obtain ⟨rfl, rfl, hr'⟩ := hc.parts
  exact ⟨A', c', rfl, hr', hn⟩
theorem bRem_c (b1 : Bool) (A : Option Addr) (a : List Nat) (c : Nat) (b2 : Bool) (B : Option Addr) (b : List Nat) (d : Nat) (w : World) (hra : SRow w .u32 A a c) (ha : Limbs a) (hrb : SRow w .u32 B b d) (hb : Limbs b) : Calls Try.prog 38 #[.agg #[.bool b1, sv A a c], .agg #[.bool b2, sv B b d]] w (RetZE (remZ (goodI b1 a) (goodI b2 b)) (zeroE (goodI b2 b)) w) := by
  refine (rem_any _ _ _ _ w (big_in hra ha) (big_in hrb hb)).mono fun e w' h => ?_
  obtain ⟨f, A', n', c', rfl, hc, hn⟩ := h
  obtain ⟨rfl, rfl, hr'⟩ := hc.parts
  exact ⟨A', c', rfl, hr', hn⟩
theorem bCmp_c (b1 : Bool) (A : Option Addr) (a : List Nat) (c : Nat) (b2 : Bool) (B : Option Addr) (b : List Nat) (d : Nat) (w : World) (hra : SRow w .u32 A a c) (ha : Limbs a) (hrb : SRow w .u32 B b d) (hb : Limbs b) : Calls Try.prog 32 #[.agg #[.bool b1, sv A a c], .agg #[.bool b2, sv B b d]] w (IsRet (.int .i64 (cmpZ (goodI b1 a) (goodI b2 b))) w) := by
  exact cmpz_any _ _ _ _ w (big_in hra ha) (big_in hrb hb)
theorem bSame_c (b1 : Bool) (A : Option Addr) (a : List Nat) (c : Nat) (b2 : Bool) (B : Option Addr) (b : List Nat) (d : Nat) (w : World) (hra : SRow w .u32 A a c) (ha : Limbs a) (hrb : SRow w .u32 B b d) (hb : Limbs b) : Calls Try.prog 31 #[.agg #[.bool b1, sv A a c], .agg #[.bool b2, sv B b d]] w (IsRet (.bool (decide (goodI b1 a = goodI b2 b))) w) := by
  exact same_any _ _ _ _ w (big_in hra ha) (big_in hrb hb)
theorem bNeg_c (b : Bool) (A : Option Addr) (m : List Nat) (c : Nat) (w : World) (hr : SRow w .u32 A m c) (hl : Limbs m) : Calls Try.prog 33 #[.agg #[.bool b, sv A m c]] w (RetZ (-(goodI b m)) w) := by
  refine (negz_any _ _ w (big_in hr hl)).mono fun e w' h => ?_
  obtain ⟨f, A', n', c', rfl, hc, hn⟩ := h
  obtain ⟨rfl, rfl, hr'⟩ := hc.parts
  exact ⟨A', c', rfl, hr', hn⟩
theorem bMay_c (b : Bool) (A : Option Addr) (m : List Nat) (c : Nat) (w : World) (hr : SRow w .u32 A m c) : Calls Try.prog 48 #[.agg #[.bool b, sv A m c]] w (IsRet (.bool (mayB b m)) w) := by
  exact may_any b _ m w hr
theorem bOf_c (n : Int) (w : World) (hlo : -9223372036854775808 ≤ n) (hhi : n ≤ 9223372036854775807) : Calls Try.prog 29 #[iv n] w (RetZ n w) := by
  refine (of_any n w hlo hhi).mono fun e w' h => ?_
  obtain ⟨f, A', n', c', rfl, hc, hn⟩ := h
  obtain ⟨rfl, rfl, hr'⟩ := hc.parts
  exact ⟨A', c', rfl, hr', hn⟩
theorem bfew_c (b : Bool) (A : Option Addr) (m : List Nat) (c : Nat) (w : World) (hr : SRow w .u32 A m c) : Calls Try.prog 15 #[.agg #[.bool b, sv A m c]] w (IsRet (.bool (decide (m.length ≤ 40))) w) := by
  exact few_any b _ m w hr
theorem bfirst_c  (w : World)  : Calls Try.prog 14 #[] w (IsRet (.bool true) w) := by
  exact first_any w
end Go.Proofs.Ytfhflpchfgkgcaa
