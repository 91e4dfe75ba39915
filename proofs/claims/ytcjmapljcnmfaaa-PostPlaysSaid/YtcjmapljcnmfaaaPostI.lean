/- The operations that come in, out of the form's reading. -/
import Derived.Test.YtcjmapljcnmfaaaLiftA
import Derived.Test.YtcjmapljcnmfaaaPostH
namespace Go.Proofs.Ytcjmapljcnmfaaa
open Go.ChangeShapes Go.WideShapes Go.ChangeAt Go.RowKit Go.Deep
section
variable {H : Type} {enc : TypeId × Value → H} {w : World} {base : Nat} {spare : Nat → Bool} {held : Bool}
def wfI (n : Int) : Prop := -9223372036854775808 ≤ n ∧ n ≤ 9223372036854775807
theorem wfI_of {n : Int} (h : (Lit.int .i64 n).wf = true) : wfI n := bounds_i64 h
/-- The numbers and letters that an operation bears fit their kinds. -/
structure OpOk (o : OpV) : Prop where
  by_ : wfI o.by_
  n : wfI o.n
  ev : wfI o.ev
  text : ∀ z ∈ o.text, 0 ≤ z ∧ z ≤ 65535
theorem opsAt_of {fuel : Nat} {v : Value} {x : DataW H × List MemPlace} (h : DataW.trod enc Try.prog w base spare held fuel 22 [v] = some x) :
    ∃ l : List OpV, OpsAt w v l ∧ ∀ o ∈ l, OpOk o := by
  rcases open_slice_fields Try.underlying22 Try.underlying32 (by kernel_rfl) (by kernel_rfl) h with ⟨hcs, _⟩ | ⟨a, len, cap, m, D, Pl, hcs, _, hl, hm, hmm, _, hel⟩
  · injection hcs with hv
    subst hv
    exact ⟨[], .inl ⟨rfl, none, 0, rfl⟩, by simp⟩
  · injection hcs with hv
    subst hv
    have hlm : len ≤ m := by rw [hmm]; split <;> omega
    rcases Nat.eq_zero_or_pos len with rfl | hp
    · exact ⟨[], .inl ⟨rfl, some a, cap, rfl⟩, by simp⟩
    obtain ⟨b, off, spot⟩ := a
    have hspot : spot = none := by
      obtain ⟨ys, n, _, _, _, hf⟩ := hel 0 (by omega)
      obtain ⟨u0, y0, k0, _, t0⟩ := hf 0 _ rfl
      simpa [Addr.add] using World.cell?_spot k0
    subst hspot
    have hadd : ∀ q, (⟨b, off, none⟩ : Addr).add q = ⟨b, off + q, none⟩ := by intro q; unfold Addr.add; split <;> simp_all
    have hone : ∀ i, i < len → ∃ o : OpV, OpOk o ∧ OpAt w b (off + i * 8) o := by
      intro i hi
      obtain ⟨ys, n, _, _, _, hf⟩ := hel i (by omega)
      obtain ⟨u0, y0, k0, _, t0⟩ := hf 0 _ rfl
      obtain ⟨u1, y1, k1, _, t1⟩ := hf 1 _ rfl
      obtain ⟨u2, y2, k2, _, t2⟩ := hf 2 _ rfl
      obtain ⟨u3, y3, k3, _, t3⟩ := hf 3 _ rfl
      obtain ⟨u4, y4, k4, _, t4⟩ := hf 4 _ rfl
      obtain ⟨u5, y5, k5, _, t5⟩ := hf 5 _ rfl
      obtain ⟨u6, y6, k6, _, t6⟩ := hf 6 _ rfl
      obtain ⟨u7, y7, k7, _, t7⟩ := hf 7 _ rfl
      obtain ⟨z0, rfl, _⟩ := cell_int Try.underlying3 t0
      obtain ⟨z1, rfl, f1⟩ := cell_int Try.underlying3 t1
      obtain ⟨z2, rfl, _⟩ := cell_int Try.underlying3 t2
      obtain ⟨z3, rfl, _⟩ := cell_int Try.underlying3 t3
      obtain ⟨z4, rfl, f4⟩ := cell_int Try.underlying3 t4
      obtain ⟨z5, rfl, f5⟩ := cell_int Try.underlying3 t5
      obtain ⟨zs, hto, _⟩ := rowAt_ints Try.underlying23 Try.underlying3 (by kernel_rfl) t6
      obtain ⟨us, htx, hus⟩ := rowAt_ints Try.underlying30 Try.underlying71 (by kernel_rfl) t7
      have hs : ∀ j, (⟨b, off, none⟩ : Addr).add (i * 8 + j) = ⟨b, off + i * 8 + j, none⟩ := by intro j; rw [hadd, Nat.add_assoc]
      have k0' : w.cell? ((⟨b, off, none⟩ : Addr).add (i * 8 + 0)) = some (.int .i64 z0) := k0
      have k1' : w.cell? ((⟨b, off, none⟩ : Addr).add (i * 8 + 1)) = some (.int .i64 z1) := k1
      have k2' : w.cell? ((⟨b, off, none⟩ : Addr).add (i * 8 + 2)) = some (.int .i64 z2) := k2
      have k3' : w.cell? ((⟨b, off, none⟩ : Addr).add (i * 8 + 3)) = some (.int .i64 z3) := k3
      have k4' : w.cell? ((⟨b, off, none⟩ : Addr).add (i * 8 + 4)) = some (.int .i64 z4) := k4
      have k5' : w.cell? ((⟨b, off, none⟩ : Addr).add (i * 8 + 5)) = some (.int .i64 z5) := k5
      have k6' : w.cell? ((⟨b, off, none⟩ : Addr).add (i * 8 + 6)) = some u6 := k6
      have k7' : w.cell? ((⟨b, off, none⟩ : Addr).add (i * 8 + 7)) = some u7 := k7
      rw [hs] at k0' k1' k2' k3' k4' k5' k6' k7'
      exact ⟨⟨z0, z1, z2, z3, z4, z5, zs, us, u6, u7⟩, ⟨wfI_of f1, wfI_of f5, wfI_of f4, fun z hz => bounds_u16 (hus z hz)⟩, ⟨k0', k1', k2', k3', k4', k5', k6', k7', hto, htx⟩⟩
    -- the list of them all
    have hlist : ∀ q, q ≤ len → ∃ l : List OpV, l.length = q ∧ (∀ o ∈ l, OpOk o) ∧ ∀ j o, l[j]? = some o → OpAt w b (off + j * 8) o := by
      intro q
      induction q with
      | zero => intro _; exact ⟨[], rfl, by simp, by simp⟩
      | succ q ih =>
        intro hq
        obtain ⟨l, hl1, hl2, hl3⟩ := ih (by omega)
        obtain ⟨o, ho1, ho2⟩ := hone q (by omega)
        refine ⟨l ++ [o], by simp [hl1], ?_, ?_⟩
        · intro x hx
          rcases List.mem_append.1 hx with h1 | h1
          · exact hl2 x h1
          · obtain rfl : x = o := by simpa using h1
            exact ho1
        · intro j x hj
          rcases Nat.lt_or_ge j l.length with h1 | h1
          · rw [List.getElem?_append_left h1] at hj
            exact hl3 j x hj
          · rw [List.getElem?_append_right h1] at hj
            have hj0 : j - l.length = 0 := by
              have := (List.getElem?_eq_some_iff.1 hj).1
              simp at this; omega
            rw [hj0] at hj
            obtain rfl : o = x := by simpa using hj
            obtain rfl : j = q := by omega
            exact ho2
    obtain ⟨l, hl1, hl2, hl3⟩ := hlist len (Nat.le_refl _)
    refine ⟨l, .inr ⟨b, off, cap, by rw [hl1], by omega, hm, ?_, hl3⟩, hl2⟩
    obtain ⟨o, _, ho⟩ := hone 0 hp
    exact World.block_lt_of_cell? w _ ho.c0
end
end Go.Proofs.Ytcjmapljcnmfaaa
