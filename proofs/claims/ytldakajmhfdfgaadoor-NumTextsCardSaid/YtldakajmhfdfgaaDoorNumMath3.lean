/- Plain laws of the numbers of chapter 1: products and quotients by sign and size. -/
import Derived.Test.YtldakajmhfdfgaaDoorNumMath1
import Derived.Test.YtldakajmhfdfgaaDoorNumMath2
namespace Go.Proofs.YtldakajmhfdfgaaDoor
set_option linter.unusedSimpArgs false
set_option linter.unusedVariables false
inductive Cls where
  | nan
  | zero
  | fin (p : Nat)
  | inf
def Cls.ok : Cls → Prop
  | .fin p => 0 < p ∧ p ≤ 9007199254740991
  | _ => True
def encN (s : Bool) : Cls → Nm
  | .nan => ⟨2, 0⟩
  | .zero => noughtM s
  | .fin p => ⟨0, if s then -(p : Int) else p⟩
  | .inf => infM s
theorem as_cls (a : Nm) : ∃ s c, Cls.ok c ∧ asM a = encN s c := by
  rcases as_cases a with ⟨n, h, h1, h2⟩ | h | h | h | h
  · by_cases hn : n = 0
    · exact ⟨false, .zero, trivial, by rw [h, hn]; rfl⟩
    · by_cases hneg : n < 0
      · refine ⟨true, .fin n.natAbs, by unfold Cls.ok; omega, ?_⟩
        rw [h]; simp [encN]; omega
      · refine ⟨false, .fin n.natAbs, by unfold Cls.ok; omega, ?_⟩
        rw [h]; simp [encN]; omega
  · exact ⟨true, .zero, trivial, h⟩
  · exact ⟨false, .nan, trivial, h⟩
  · exact ⟨false, .inf, trivial, h⟩
  · exact ⟨true, .inf, trivial, h⟩
theorem as_enc (s : Bool) {c : Cls} (h : c.ok) : asM (encN s c) = encN s c := by
  cases c with
  | nan => rfl
  | zero => cases s <;> rfl
  | inf => cases s <;> rfl
  | fin p => unfold Cls.ok at h; exact as_whole (by unfold InS; split <;> omega)
def mulC : Cls → Cls → Option Cls
  | .nan, _ => some .nan
  | _, .nan => some .nan
  | .zero, .inf => some .nan
  | .inf, .zero => some .nan
  | .inf, _ => some .inf
  | _, .inf => some .inf
  | .zero, _ => some .zero
  | _, .zero => some .zero
  | .fin p, .fin q => if p * q ≤ 9007199254740991 then some (.fin (p * q)) else none
def outC (s : Bool) : Option Cls → Nm × Bool
  | none => (⟨2, 0⟩, false)
  | some c => (encN s c, true)
theorem size_sgn (s : Bool) (p : Nat) : sizeI (if s then -(p : Int) else p) = p := by
  unfold sizeI; cases s <;> simp <;> omega
theorem below_sgn (s : Bool) {p : Nat} (h : 0 < p) : decide ((if s then -(p : Int) else (p : Int)) < 0) = s := by
  cases s <;> simp <;> omega
theorem nz_sgn (s : Bool) {p : Nat} (h : 0 < p) : decide ((if s then -(p : Int) else (p : Int)) = 0) = false := by
  cases s <;> simp <;> omega
theorem mul_nn {n m : Int} {r : Nat} (hn : n ≠ 0) (hm : m ≠ 0) (he : sizeI n * sizeI m = r) : mulA ⟨0, n⟩ ⟨0, m⟩ = if r ≤ 9007199254740991 then (signedM r (decide (n < 0) != decide (m < 0)), true) else (⟨2, 0⟩, false) := by
  have hb : ∀ k : Int, belowB ⟨0, k⟩ = decide (k < 0) := fun k => by simp [belowB]
  have hz : ∀ k : Int, noughtB ⟨0, k⟩ = decide (k = 0) := fun k => by simp [noughtB]
  have hi : infB 0 = false := rfl
  have h2 : decide ((0 : Int) = 2) = false := rfl
  simp only [mulA, hb, hz, hi, he, h2, decide_eq_false hn, decide_eq_false hm, Bool.false_and, Bool.and_false, Bool.or_false, Bool.false_eq_true, if_false]
  by_cases hr : r ≤ 9007199254740991
  · have h1 : ((r : Nat) : Int) / 18446744073709551616 ≤ 0 := by omega
    have h2 : ((r : Nat) : Int) % 18446744073709551616 ≤ 9007199254740991 := by omega
    have h3 : ((r : Nat) : Int) % 18446744073709551616 = r := by omega
    rw [if_pos hr, decide_eq_true h1, decide_eq_true h2, h3]; rfl
  · rw [if_neg hr]
    by_cases h1 : ((r : Nat) : Int) / 18446744073709551616 ≤ 0
    · have h2 : ¬ ((r : Nat) : Int) % 18446744073709551616 ≤ 9007199254740991 := by omega
      rw [decide_eq_true h1, decide_eq_false h2]; rfl
    · rw [decide_eq_false h1]; rfl
theorem signed_enc (s : Bool) (r : Nat) : signedM r s = encN s (.fin r) := by cases s <;> simp [signedM, encN]
theorem mul_fin (s t : Bool) {p q : Nat} (hp : 0 < p) (hq : 0 < q) : mulA (encN s (.fin p)) (encN t (.fin q)) = outC (s != t) (if p * q ≤ 9007199254740991 then some (.fin (p * q)) else none) := by
  have e : sizeI (if s then -(p : Int) else p) * sizeI (if t then -(q : Int) else q) = ((p * q : Nat) : Int) := by rw [size_sgn, size_sgn, Int.natCast_mul]
  have h := mul_nn (of_decide_eq_false (nz_sgn s hp)) (of_decide_eq_false (nz_sgn t hq)) e
  rw [below_sgn s hp, below_sgn t hq] at h
  simp only [encN]
  rw [h]
  split
  · rw [signed_enc]; rfl
  · rfl
theorem nz_inf (s : Bool) {p : Nat} (h : 0 < p) : noughtB (encN s (.fin p)) = false := by cases s <;> simp [noughtB, encN] <;> omega
theorem bl_fin (s : Bool) {p : Nat} (h : 0 < p) : belowB (encN s (.fin p)) = s := by cases s <;> simp [belowB, encN] <;> omega
/-- what the tests tell of a class -/
theorem k2 (s : Bool) (x : Cls) : decide ((encN s x).k = 2) = (match x with | .nan => true | _ => false) := by cases x <;> cases s <;> rfl
theorem kinf (s : Bool) (x : Cls) : infB (encN s x).k = (match x with | .inf => true | _ => false) := by cases x <;> cases s <;> rfl
theorem knz (s : Bool) {x : Cls} (h : x.ok) : noughtB (encN s x) = (match x with | .zero => true | _ => false) := by
  cases x with
  | fin p => exact nz_inf s h.1
  | _ => cases s <;> rfl
theorem kbl (s : Bool) {x : Cls} (h : x.ok) (hn : decide ((encN s x).k = 2) = false) : belowB (encN s x) = s := by
  cases x with
  | fin p => exact bl_fin s h.1
  | nan => cases hn
  | _ => cases s <;> rfl
theorem mul_cls (s t : Bool) {x y : Cls} (hx : x.ok) (hy : y.ok) : mulA (encN s x) (encN t y) = outC (s != t) (mulC x y) := by
  cases x with
  | nan => rw [mulA, k2]; cases y <;> rfl
  | zero =>
    cases y with
    | nan => rw [mulA, k2 t]; cases s <;> rfl
    | _ => rw [mulA, k2, k2, kinf, kinf, knz s hx, knz t hy, kbl s hx (by rw [k2]), kbl t hy (by rw [k2])]; rfl
  | inf =>
    cases y with
    | nan => rw [mulA, k2 t]; cases s <;> rfl
    | _ => rw [mulA, k2, k2, kinf, kinf, knz s hx, knz t hy, kbl s hx (by rw [k2]), kbl t hy (by rw [k2])]; rfl
  | fin p =>
    cases y with
    | fin q => exact mul_fin s t hx.1 hy.1
    | nan => rw [mulA, k2 t, k2 s]; rfl
    | _ => rw [mulA, k2, k2, kinf, kinf, knz s hx, knz t hy, kbl s hx (by rw [k2]), kbl t hy (by rw [k2])]; rfl
theorem mulC_ok {x y z : Cls} (hx : x.ok) (hy : y.ok) (h : mulC x y = some z) : z.ok := by
  cases x <;> cases y <;> simp [mulC] at h <;> (try (subst h; trivial))
  rename_i p q
  obtain ⟨h1, h2⟩ := h
  subst h2
  exact ⟨Nat.mul_pos hx.1 hy.1, h1⟩
theorem mulC_comm (x y : Cls) : mulC x y = mulC y x := by
  cases x <;> cases y <;> simp [mulC, Nat.mul_comm]
theorem xor_comm' (s t : Bool) : (s != t) = (t != s) := by cases s <;> cases t <;> rfl
theorem mulM_comm (a b : Nm) : mulM a b = mulM b a := by
  obtain ⟨s, x, hx, ha⟩ := as_cls a
  obtain ⟨t, y, hy, hb⟩ := as_cls b
  rw [mulM, mulM, ha, hb, mul_cls s t hx hy, mul_cls t s hy hx, mulC_comm, xor_comm']
theorem neg_cls (s : Bool) {x : Cls} (hx : x.ok) : negA (encN s x) = encN (!s) x := by
  cases x with
  | nan => simp [negA, encN]
  | zero => cases s <;> simp [negA, encN, noughtM]
  | inf => cases s <;> simp [negA, encN, infM]
  | fin p => unfold Cls.ok at hx; cases s <;> simp [negA, encN] <;> omega
theorem as_out {a : Nm} {s : Bool} {x : Cls} (hx : x.ok) (h : a = encN s x) : asM a = encN s x := by rw [h]; exact as_enc s hx
theorem mul_neg (a b : Nm) : (mulM (negM a) b).2 = (mulM a b).2 ∧ sameM ((mulM (negM a) b).1) (negM ((mulM a b).1)) = true := by
  obtain ⟨s, x, hx, ha⟩ := as_cls a
  obtain ⟨t, y, hy, hb⟩ := as_cls b
  have h1 : negM a = encN (!s) x := by rw [negM, ha]; exact neg_cls s hx
  have h2 : asM (negM a) = encN (!s) x := as_out hx h1
  have h3 : mulM a b = outC (s != t) (mulC x y) := by rw [mulM, ha, hb]; exact mul_cls s t hx hy
  have h4 : mulM (negM a) b = outC ((!s) != t) (mulC x y) := by rw [mulM, h2, hb]; exact mul_cls (!s) t hx hy
  rw [h3, h4]
  cases hm : mulC x y with
  | none => exact ⟨rfl, rfl⟩
  | some z =>
    have hz := mulC_ok hx hy hm
    refine ⟨rfl, ?_⟩
    show sameM (encN ((!s) != t) z) (negM (encN (s != t) z)) = true
    have h5 : negM (encN (s != t) z) = encN (!(s != t)) z := by rw [negM, as_enc _ hz]; exact neg_cls _ hz
    rw [h5, show ((!s) != t) = !(s != t) by cases s <;> cases t <;> rfl]
    exact sameM_refl _
theorem mulC_assoc {x y z v r : Cls} (hm : mulC x y = some v) (hn : mulC y z = some r) : mulC v z = mulC x r ∨ mulC v z = none ∨ mulC x r = none := by
  cases x <;> cases y <;> cases z <;> simp [mulC] at hm hn <;> (first | subst hm | (obtain ⟨g1, hm'⟩ := hm; subst hm')) <;> (first | subst hn | (obtain ⟨g3, hn'⟩ := hn; subst hn')) <;> simp [mulC, Nat.mul_assoc]
theorem mul_assoc {a b c : Nm} (h1 : (mulM a b).2 = true) (h2 : (mulM b c).2 = true) (h3 : (mulM ((mulM a b).1) c).2 = true) (h4 : (mulM a ((mulM b c).1)).2 = true) : sameM ((mulM ((mulM a b).1) c).1) ((mulM a ((mulM b c).1)).1) = true := by
  obtain ⟨s, x, hx, ha⟩ := as_cls a
  obtain ⟨t, y, hy, hb⟩ := as_cls b
  obtain ⟨u, z, hz, hc⟩ := as_cls c
  have e1 : mulM a b = outC (s != t) (mulC x y) := by rw [mulM, ha, hb]; exact mul_cls s t hx hy
  have e2 : mulM b c = outC (t != u) (mulC y z) := by rw [mulM, hb, hc]; exact mul_cls t u hy hz
  rw [e1] at h1 h3 ⊢
  rw [e2] at h2 h4 ⊢
  cases hm : mulC x y with
  | none => rw [hm] at h1; cases h1
  | some v =>
    cases hn : mulC y z with
    | none => rw [hn] at h2; cases h2
    | some r =>
      have hv := mulC_ok hx hy hm
      have hr := mulC_ok hy hz hn
      rw [hm] at h3
      rw [hn] at h4
      have e3 : mulM (encN (s != t) v) c = outC ((s != t) != u) (mulC v z) := by rw [mulM, as_enc _ hv, hc]; exact mul_cls _ u hv hz
      have e4 : mulM a (encN (t != u) r) = outC (s != (t != u)) (mulC x r) := by rw [mulM, as_enc _ hr, ha]; exact mul_cls s _ hx hr
      simp only [outC] at h3 h4 ⊢
      rw [e3] at h3 ⊢
      rw [e4] at h4 ⊢
      have hs : ((s != t) != u) = (s != (t != u)) := by cases s <;> cases t <;> cases u <;> rfl
      have hmm := mulC_assoc hm hn
      rcases hmm with hmm | hmm | hmm
      · rw [hs, hmm]; exact sameM_refl _
      · rw [hmm] at h3; cases h3
      · rw [hmm] at h4; cases h4
end Go.Proofs.YtldakajmhfdfgaaDoor
