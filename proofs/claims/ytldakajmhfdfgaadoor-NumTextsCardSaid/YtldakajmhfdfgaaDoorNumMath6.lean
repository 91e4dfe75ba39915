/- Plain laws of the numbers of chapter 1: the reference's products, quotients and rests are those of package num. -/
import Derived.Test.YtldakajmhfdfgaaDoorNumMath3
import Derived.Test.YtldakajmhfdfgaaDoorNumL2
namespace Go.Proofs.YtldakajmhfdfgaaDoor
set_option linter.unusedSimpArgs false
set_option linter.unusedVariables false
def sg (s : Bool) (p : Nat) : Int := if s then -(p : Int) else p
theorem sg_tmod (s t : Bool) (p q : Nat) : (sg s p).tmod (sg t q) = sg s (p % q) := by
  have e : ((p : Int).tmod (q : Int)) = ((p % q : Nat) : Int) := rfl
  cases s <;> cases t <;> simp only [sg, Bool.false_eq_true, if_false, if_true, Int.neg_tmod, Int.tmod_neg, e]
theorem sg_tdiv (s t : Bool) (p q : Nat) : (sg s p).tdiv (sg t q) = sg (s != t) (p / q) := by
  have e : ((p : Int).tdiv (q : Int)) = ((p / q : Nat) : Int) := rfl
  cases s <;> cases t <;> simp [sg, Int.neg_tdiv, Int.tdiv_neg, e]
theorem sg_mul (s t : Bool) (p q : Nat) : sg s p * sg t q = sg (s != t) (p * q) := by
  cases s <;> cases t <;> simp [sg, Int.neg_mul, Int.mul_neg]
theorem sg_zero {s : Bool} {p : Nat} : sg s p = 0 ↔ p = 0 := by cases s <;> simp [sg]
theorem sg_neg {s : Bool} {p : Nat} (h : 0 < p) : decide (sg s p < 0) = s := below_sgn s h
theorem sg_size (s : Bool) (p : Nat) : sizeI (sg s p) = p := size_sgn s p
theorem sg_ofM {s : Bool} {p : Nat} (h : p ≤ 9007199254740991) : ofM (sg s p) = (⟨0, sg s p⟩, true) := ofM_in (by unfold InS sg; split <;> omega)
theorem sg_max (s : Bool) (p : Nat) : max (sg s p) (-(sg s p)) = p := sg_size s p
theorem enc_fin (s : Bool) (p : Nat) : encN s (.fin p) = ⟨0, sg s p⟩ := rfl
theorem prod_fin (s t : Bool) {p q : Nat} (hq : 0 < q) : productR (sg s p) (sg t q) = outC (s != t) (if p * q ≤ 9007199254740991 then some (.fin (p * q)) else none) := by
  unfold productR
  rw [sg_max, sg_max, sg_mul]
  have e : (9007199254740991 : Int).tdiv (q : Int) = ((9007199254740991 / q : Nat) : Int) := rfl
  rw [e]
  have h1 : p ≤ 9007199254740991 / q ↔ p * q ≤ 9007199254740991 := Nat.le_div_iff_mul_le hq
  by_cases h : p * q ≤ 9007199254740991
  · have h2 : (p : Int) ≤ ((9007199254740991 / q : Nat) : Int) := by have := h1.2 h; omega
    rw [if_pos h, sg_ofM h, decide_eq_true h2]
    rfl
  · have h2 : ¬ (p : Int) ≤ ((9007199254740991 / q : Nat) : Int) := by
      intro h3; exact h (h1.1 (by omega))
    rw [if_neg h, decide_eq_false h2]
    rfl
theorem signedR_inf (s : Bool) : signedR true s = infM s := by cases s <;> rfl
theorem signedR_zero (s : Bool) : signedR false s = noughtM s := by cases s <;> rfl
theorem rMul_eq (a b : Nm) : rMulM a b = mulM a b := by
  obtain ⟨s, x, hx, ha⟩ := as_cls a
  obtain ⟨t, y, hy, hb⟩ := as_cls b
  rw [mulM, ha, hb, mul_cls s t hx hy]
  unfold rMulM
  rw [ha, hb]
  cases x with
  | nan => rw [k2]; cases y <;> rfl
  | fin p =>
    cases y with
    | fin q =>
      rw [k2, k2, kinf, kinf, knz s hx, knz t hy]
      exact prod_fin s t hy.1
    | nan => rw [k2 t, k2 s]; rfl
    | _ => rw [k2, k2, kinf, kinf, knz s hx, knz t hy, kbl s hx (by rw [k2]), kbl t hy (by rw [k2])]; simp [signedR_inf, signedR_zero]; rfl
  | _ =>
    cases y with
    | nan => rw [k2 t]; cases s <;> rfl
    | _ => rw [k2, k2, kinf, kinf, knz s hx, knz t hy, kbl s hx (by rw [k2]), kbl t hy (by rw [k2])]; first | rfl | (simp [signedR_inf, signedR_zero]; rfl)
def divC : Cls → Cls → Option Cls
  | .nan, _ => some .nan
  | _, .nan => some .nan
  | .inf, .inf => some .nan
  | .zero, .zero => some .nan
  | .inf, _ => some .inf
  | _, .zero => some .inf
  | _, .inf => some .zero
  | .zero, _ => some .zero
  | .fin p, .fin q => if p % q = 0 then some (.fin (p / q)) else none
theorem div_cls (s t : Bool) {x y : Cls} (hx : x.ok) (hy : y.ok) : divA (encN s x) (encN t y) = outC (s != t) (divC x y) := by
  cases x with
  | nan => rw [divA, k2]; cases y <;> rfl
  | fin p =>
    cases y with
    | fin q =>
      rw [divA, k2, k2, kinf, kinf, knz s hx, knz t hy, kbl s hx (by rw [k2]), kbl t hy (by rw [k2]), enc_fin, enc_fin, sg_size, sg_size]
      have e1 : ((p : Int).tmod (q : Int)) = ((p % q : Nat) : Int) := rfl
      have e2 : ((p : Int).tdiv (q : Int)) = ((p / q : Nat) : Int) := rfl
      rw [e1, e2]
      by_cases h : p % q = 0
      · rw [h]
        show (signedM ((p / q : Nat) : Int) (s != t), true) = outC (s != t) (if p % q = 0 then _ else _)
        rw [if_pos h, signed_enc]; rfl
      · have h' : ¬ ((p % q : Nat) : Int) = 0 := by omega
        rw [decide_eq_false h']
        show (_ : Nm × Bool) = outC (s != t) (if p % q = 0 then _ else _)
        rw [if_neg h]; rfl
    | nan => rw [divA, k2 t, k2 s]; rfl
    | _ => rw [divA, k2, k2, kinf, kinf, knz s hx, knz t hy, kbl s hx (by rw [k2]), kbl t hy (by rw [k2])]; rfl
  | _ =>
    cases y with
    | nan => rw [divA, k2 t]; cases s <;> rfl
    | _ => rw [divA, k2, k2, kinf, kinf, knz s hx, knz t hy, kbl s hx (by rw [k2]), kbl t hy (by rw [k2])]; rfl
theorem rDiv_eq (a b : Nm) : rDivM a b = divM a b := by
  obtain ⟨s, x, hx, ha⟩ := as_cls a
  obtain ⟨t, y, hy, hb⟩ := as_cls b
  rw [divM, ha, hb, div_cls s t hx hy]
  unfold rDivM
  rw [ha, hb]
  cases x with
  | nan => rw [k2]; cases y <;> rfl
  | fin p =>
    cases y with
    | fin q =>
      rw [k2, k2, kinf, kinf, knz s hx, knz t hy, enc_fin, enc_fin, sg_tmod, sg_tdiv]
      have hle : p / q ≤ 9007199254740991 := Nat.le_trans (Nat.div_le_self p q) hx.2
      rw [sg_ofM hle]
      by_cases h : p % q = 0
      · have h' : sg s (p % q) = 0 := sg_zero.2 h
        rw [decide_eq_true h']
        show _ = outC (s != t) (if p % q = 0 then _ else _)
        rw [if_pos h]; rfl
      · have h' : ¬ sg s (p % q) = 0 := fun h2 => h (sg_zero.1 h2)
        rw [decide_eq_false h']
        show _ = outC (s != t) (if p % q = 0 then _ else _)
        rw [if_neg h]; rfl
    | nan => rw [k2 t, k2 s]; rfl
    | _ => rw [k2, k2, kinf, kinf, knz s hx, knz t hy, kbl s hx (by rw [k2]), kbl t hy (by rw [k2])]; first | rfl | (simp [signedR_inf, signedR_zero]; rfl)
  | _ =>
    cases y with
    | nan => rw [k2 t]; cases s <;> rfl
    | _ => rw [k2, k2, kinf, kinf, knz s hx, knz t hy, kbl s hx (by rw [k2]), kbl t hy (by rw [k2])]; first | rfl | (simp [signedR_inf, signedR_zero]; rfl)
theorem rem_fin (s t : Bool) {p q : Nat} (hx : (Cls.fin p).ok) (hy : (Cls.fin q).ok) : remA (encN s (.fin p)) (encN t (.fin q)) = if p % q = 0 then noughtM s else ⟨0, sg s (p % q)⟩ := by
  rw [remA, k2, k2, kinf, kinf, knz s hx, knz t hy, enc_fin, enc_fin, sg_size, sg_size]
  have e1 : ((p : Int).tmod (q : Int)) = ((p % q : Nat) : Int) := rfl
  rw [e1]
  show (if decide (((p % q : Nat) : Int) = 0) = true then noughtM (decide (sg s p < 0)) else signedM ((p % q : Nat) : Int) (decide (sg s p < 0))) = _
  rw [sg_neg hx.1, signed_enc, enc_fin]
  by_cases h : p % q = 0
  · rw [if_pos (by simp [h]), if_pos h]
  · rw [if_neg (by simp; omega), if_neg h]
theorem rRem_eq (a b : Nm) : rRemM a b = remM a b := by
  obtain ⟨s, x, hx, ha⟩ := as_cls a
  obtain ⟨t, y, hy, hb⟩ := as_cls b
  rw [remM, ha, hb]
  unfold rRemM
  rw [ha, hb]
  cases x with
  | fin p =>
    cases y with
    | fin q =>
      rw [rem_fin s t hx hy, k2, k2, kinf, kinf, knz s hx, knz t hy, enc_fin, enc_fin, sg_tmod, sg_neg hx.1]
      by_cases h : p % q = 0
      · rw [if_pos h]
        cases s <;> simp [h, sg, noughtM]
      · have h' : ¬ sg s (p % q) = 0 := fun h2 => h (sg_zero.1 h2)
        rw [if_neg h]
        simp [h']
    | _ => rw [remA, k2, k2, kinf, kinf, knz s hx, knz t hy]; rfl
  | _ =>
    cases y <;> rw [remA, k2, k2, kinf, kinf, knz s hx, knz t hy] <;> rfl
end Go.Proofs.YtldakajmhfdfgaaDoor
