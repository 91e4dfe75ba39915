/- 'renlaw23.PostTimes': for every list of ticks and every list of texts the law answers true and leaves its arguments as they were; no condition. -/
import Derived.Test.YtcjmapljcnmfaaaRows
import Derived.Test.YtcjmapljcnmfaaaPostI
import Derived.Test.YtcjmapljcnmfaaaPostU
import Derived.WalkKit
import Derived.ProofKit
import Derived.OpenShut
import Derived.ChangeOld
import Derived.Below
namespace Go.Proofs.Ytcjmapljcnmfaaa.PostTimesDone
open Go.ChangeShapes Go.WideShapes Go.ChangeAt Go.RowKit
set_option linter.unusedVariables false

theorem own : ownKnob Try.prog.godebug = none := by kernel_rfl
theorem laidOut : laidOutB Try.prog = true := by kernel_rfl

section
open Go.Deep
variable {H : Type} {enc : TypeId × Value → H} {w : World} {base : Nat} {spare : Nat → Bool} {held : Bool}
theorem textsAt_of {fuel : Nat} {v : Value} {x : DataW H × List MemPlace} (h : DataW.trod enc Try.prog w base spare held fuel 42 [v] = some x) :
    ∃ l : List (List Int), TextsAt w v l := by
  rcases open_slice Try.underlying42 h with ⟨hcs, _⟩ | ⟨a, len, cap, m, n, D, Pl, hcs, _, hl, hm, hmm, _, hi⟩
  · injection hcs with hv
    subst hv
    exact ⟨[], .inl ⟨rfl, none, 0, rfl⟩⟩
  · injection hcs with hv
    subst hv
    have hlm : len ≤ m := by rw [hmm]; split <;> omega
    rcases Nat.eq_zero_or_pos len with rfl | hp
    · exact ⟨[], .inl ⟨rfl, some a, cap, rfl⟩⟩
    have hC : Try.prog.cellsOf 30 = 1 := by kernel_rfl
    have hcell : ∀ i, i < len → ∃ u, w.cell? (a.add i) = some u ∧ ∃ t : List Int, RowAt w 1 u t.length (encU t) := by
      intro i hil
      obtain ⟨cs', hc, ht'⟩ := hi i (by omega)
      rw [hC, Nat.mul_one] at hc
      obtain ⟨_, hcl, hat⟩ := World.cells?_some hc
      have h0 := hat 0 (by omega)
      have hcs0 : cs'[0]? = some (cs'[0]'(by omega)) := List.getElem?_eq_getElem (by omega)
      have hone : cs' = [cs'[0]'(by omega)] := by
        cases cs' with
        | nil => simp at hcl
        | cons y r => cases r with
          | nil => rfl
          | cons z r => simp at hcl
      rw [hone] at ht'
      obtain ⟨zs, hr, _⟩ := rowAt_ints Try.underlying30 Try.underlying71 (by kernel_rfl) ht'
      refine ⟨_, ?_, zs, hr⟩
      rw [Go.Deep.add_add, Nat.add_zero] at h0
      rw [h0, hcs0]
    obtain ⟨b, off, spot⟩ := a
    have hspot : spot = none := by
      obtain ⟨u, h0, _⟩ := hcell 0 hp
      simpa [Addr.add] using World.cell?_spot h0
    subst hspot
    have hadd : ∀ q, (⟨b, off, none⟩ : Addr).add q = ⟨b, off + q, none⟩ := by intro q; unfold Addr.add; split <;> simp_all
    have hlist : ∀ q, q ≤ len → ∃ l : List (List Int), l.length = q ∧ ∀ j t, l[j]? = some t → ∃ tv, w.cell? ⟨b, off + j, none⟩ = some tv ∧ RowAt w 1 tv t.length (encU t) := by
      intro q
      induction q with
      | zero => intro _; exact ⟨[], rfl, by simp⟩
      | succ q ih =>
        intro hq
        obtain ⟨l, hl1, hl3⟩ := ih (by omega)
        obtain ⟨u, hu, t, ht⟩ := hcell q (by omega)
        rw [hadd] at hu
        refine ⟨l ++ [t], by simp [hl1], ?_⟩
        intro j x hj
        rcases Nat.lt_or_ge j l.length with h1 | h1
        · rw [List.getElem?_append_left h1] at hj
          exact hl3 j x hj
        · rw [List.getElem?_append_right h1] at hj
          have hj0 : j - l.length = 0 := by
            have := (List.getElem?_eq_some_iff.1 hj).1
            simp at this; omega
          rw [hj0] at hj
          obtain rfl : t = x := by simpa using hj
          obtain rfl : j = q := by omega
          exact ⟨u, hu, ht⟩
    obtain ⟨l, hl1, hl3⟩ := hlist len (Nat.le_refl _)
    refine ⟨l, .inr ⟨b, off, cap, by rw [hl1], by omega, hm, ?_, hl3⟩⟩
    obtain ⟨u, h0, _⟩ := hcell 0 hp
    rw [hadd] at h0
    exact World.block_lt_of_cell? w _ h0
end

set_option maxRecDepth 100000 in
theorem lifted (os : Os) (started : os.Started) (H : Type) (enc : TypeId × Value → H) :
    ReturnsInHanded {} Try.checked os 4 .any (Rows.postTimesSpec.pre6 enc Try.prog Try.f4 Rows.postTimesRow.domain false) (Rows.postTimesSpec.post enc Try.prog Try.f4 false true false false) := by
  refine returnsInHanded_of_change (C := Try.checked) own started (by kernel_rfl) Try.func4
    (ChangeSpec.witness6 (enc := enc) (C := Try.checked) false ⟨#[], #[.slice none 0 0, .slice none 0 0], []⟩ 8 (by kernel_rfl) (by kernel_rfl) (by kernel_rfl) (by kernel_rfl)) ?_
  intro W base args ds gs before hval0 hW hcnd _
  have hval : ∀ (j : Nat) t v, Try.f4.params[j]? = some t → args[j]? = some v → Value.okWide Try.prog W .any base t v := hval0
  have hW' := hW
  obtain ⟨p, q, hA0, hV, rfl, hfz, hnd⟩ := hW
  have hA : DataW.TrodAll enc Try.prog W 0 (fun _ => true) true Try.f4.params.toList args.toList ds p := hA0
  rw [Try.params4] at hA hval
  obtain ⟨v0, vs0, d0, ds0, p0, q0, hargs, rfl, rfl, h0, r0⟩ := trodAll_cons hA
  obtain ⟨v1, vs1, d1, ds1, p1, q1, rfl, rfl, rfl, h1, r1⟩ := trodAll_cons r0
  obtain ⟨rfl, rfl, rfl⟩ := trodAll_nil r1
  obtain rfl : args = #[v0, v1] := by cases args; simp_all
  obtain ⟨rfl, rfl⟩ := trodVars_none hV
  obtain ⟨x0, n0, c0, rfl⟩ := okWide_slice Try.underlying23 (hval 0 23 v0 rfl rfl)
  obtain ⟨x1, n1, c1, rfl⟩ := okWide_slice Try.underlying42 (hval 1 42 v1 rfl rfl)
  have k0 := h0
  have lt0 : ∀ x ∈ p0, x.block < W.heap.size := by obtain ⟨m, hm⟩ := k0; exact DataW.trod_lt m _ _ _ hm
  have k1 := h1
  have lt1 : ∀ x ∈ p1, x.block < W.heap.size := by obtain ⟨m, hm⟩ := k1; exact DataW.trod_lt m _ _ _ hm
  obtain ⟨ticks, ht, hwf⟩ : ∃ zs : List Int, RowAt W 1 (.slice x0 n0 c0) zs.length (zs.map (Value.int .i64)) ∧ ∀ z ∈ zs, (Lit.int .i64 z).wf = true := by
    obtain ⟨m, hm⟩ := h0
    exact rowAt_ints Try.underlying23 Try.underlying3 (by kernel_rfl) hm
  obtain ⟨says, hs⟩ : ∃ l : List (List Int), TextsAt W (.slice x1 n1 c1) l := by obtain ⟨m, hm⟩ := h1; exact textsAt_of hm
  clear hA0 hval0
  refine (times_walk (.slice x0 n0 c0) (.slice x1 n1 c1) ticks says W ht (fun z hz => wfI_of (hwf z hz)) hs).mono fun e W' ⟨he, hnew⟩ => ?_
  subst he
  have bel := hnew.below
  exact ⟨_, rfl, _, _, _, [], _, [], hW', trodAll_mk1 (shut_bool Try.underlying4 _),
    (trodAll_cons_mk (Below.trod laidOut (by kernel_rfl) (of_decide_eq_true (by kernel_rfl)) k0 bel lt0)
      (trodAll_cons_mk (Below.trod laidOut (by kernel_rfl) (of_decide_eq_true (by kernel_rfl)) k1 bel lt1) trodAll_mk0)), rfl, bel.frame _, fun h => by cases h⟩

/-- ████ THE STATEMENT ████ -/
theorem proved : Rows.PostTimesSaid :=
  OpenClaim.holds_of_wide 4 Try.f4 rfl rfl rfl rfl rfl rfl rfl ⟨rfl, rfl, rfl, rfl, rfl⟩ rfl rfl rfl rfl rfl (by kernel_rfl) Try.func4 (by kernel_rfl)
    (of_decide_eq_true (by kernel_rfl)) (by unfold Func.isWrapper; first | (rw [if_pos (by decide +kernel)]; kernel_rfl) | (rw [if_neg (by decide +kernel)]; exact ⟨rfl, rfl⟩))
    (fun os started H enc _ => lifted os started H enc)
end Go.Proofs.Ytcjmapljcnmfaaa.PostTimesDone
