/- does: any operation of both Posts; what keeps bounded. -/
import Derived.Test.YtcjmapljcnmfaaaPostDp
import Derived.Test.YtcjmapljcnmfaaaPostDq
import Derived.Test.YtcjmapljcnmfaaaPostDr
import Derived.Test.YtcjmapljcnmfaaaPostDs
import Derived.Test.YtcjmapljcnmfaaaPostI
namespace Go.Proofs.Ytcjmapljcnmfaaa
open Go.RowKit Go.Deep
set_option linter.unusedVariables false
/-- n agents; no list above B mails; K reports at most. -/
structure Bd (n B K : Nat) (s : Mails) (rs : List (List Int × Int)) (now : Int) : Prop where
  n : s.length = n
  l : ∀ x ∈ s, x.length ≤ B
  k : rs.length ≤ K
  t : ∀ r ∈ rs, r.1.length ≤ 20000
  lo : 0 ≤ now
  hi : now ≤ 9007199254740991
theorem mem_takeS {s : Mails} {n : Int} {x : List Ml} (h : x ∈ takeS s n) : ∃ y ∈ s, x.length ≤ y.length := by
  obtain ⟨i, hi⟩ := List.mem_iff_getElem?.1 h
  unfold takeS at hi
  rw [List.getElem?_modify] at hi
  cases hs : s[i]? with
  | none => simp [hs] at hi
  | some y =>
    simp [hs] at hi
    refine ⟨y, List.mem_of_getElem? hs, ?_⟩
    subst hi
    split <;> simp
theorem mem_dropS {s : Mails} {n : Int} {x : List Ml} (h : x ∈ dropS s n) : x = [] ∨ x ∈ s := by
  unfold dropS at h
  split at h
  · rcases List.mem_or_eq_of_mem_set h with h | h
    · exact .inr h
    · exact .inl h
  · exact .inr h
theorem Bd.send {n B K : Nat} {s : Mails} {rs : List (List Int × Int)} {now : Int} (h : Bd n B K s rs now) (b : Int) (to : List Int) (m : Ml) : Bd n (B + to.length) (K + 1) (sendS s b to m) rs now :=
  ⟨by rw [length_sendS]; exact h.n, fun x hx => by obtain ⟨y, hy, hl⟩ := mem_sendS hx; have := h.l y hy; omega, by have := h.k; omega, h.t, h.lo, h.hi⟩
theorem Bd.more {n B K j : Nat} {s : Mails} {rs : List (List Int × Int)} {now : Int} (h : Bd n B K s rs now) : Bd n (B + j) (K + 1) s rs now :=
  ⟨h.n, fun x hx => by have := h.l x hx; omega, by have := h.k; omega, h.t, h.lo, h.hi⟩
def IsDone (n B K g gx : Nat) (F Fx : Nat → Prop) (w : World) (e : Ending) (w' : World) : Prop := ∃ s rs now, IsDoes g gx F Fx s rs now w e w' ∧ Bd n B K s rs now
theorem does_any (g gx : Nat) (F Fx : Nat → Prop) (s : Mails) (rs : List (List Int × Int)) (now : Int) (o : OpV) (w : World) (hB : Both w g gx F Fx s rs now) (n B K : Nat) (hbd : Bd n B K s rs now)
    (hn : n ≤ 64) (hBb : B ≤ 40000) (hK : K ≤ 1000) (hok : OpOk o) (hto : o.to.length ≤ 20000) (htx : o.text.length ≤ 20000) (hr1 : RowAt w 1 o.tv o.to.length (encI o.to)) (hr2 : RowAt w 1 o.xv o.text.length (encU o.text))
    (hf1 : 0 < o.to.length → ∀ q off c, o.tv = .slice (some ⟨q, off, none⟩) o.to.length c → ¬ (F q ∨ Fx q)) (hf2 : 0 < o.text.length → ∀ q off c, o.xv = .slice (some ⟨q, off, none⟩) o.text.length c → ¬ (F q ∨ Fx q)) :
    Calls Try.prog 22 #[.pointer (some ⟨g, 0, none⟩), .pointer (some ⟨gx, 0, none⟩), opAgg o] w (IsDone n (B + o.to.length) (K + 1) g gx F Fx w) := by
  have hfit : Fit s := fun x hx => by have := hbd.l x hx; omega
  have hrl : rs.length ≤ 1000000 := by have := hbd.k; omega
  by_cases k0 : o.kind = 0
  · exact (does_send g gx F Fx s rs now o w hB k0 hr1 hf1 (by omega) (by rw [hbd.n]; exact hn) (fun x hx => by have := hbd.l x hx; omega)).mono fun e w' h => ⟨_, _, _, h, hbd.send _ _ _⟩
  by_cases k1 : o.kind = 1
  · by_cases ha : isAg s o.by_ = false ∨ s.getD o.by_.toNat [] = []
    · exact (does_takeNo g gx F Fx s rs now o w hB k1 hfit ha).mono fun e w' h => ⟨_, _, _, h, hbd.more⟩
    · have ha1 : isAg s o.by_ = true := by
        cases h : isAg s o.by_ with
        | true => rfl
        | false => exact absurd (.inl h) ha
      have hb : 0 ≤ o.by_ ∧ o.by_ < (s.length : Int) := by simpa [isAg] using ha1
      obtain ⟨k, hk⟩ := Int.eq_ofNat_of_zero_le hb.1
      cases hm : s.getD o.by_.toNat [] with
      | nil => exact absurd (.inr hm) ha
      | cons m r =>
        rw [hk, Int.toNat_natCast] at hm
        have hks : k < s.length := by omega
        exact (does_take g gx F Fx s rs now o w hB k1 hfit k m r hk hks hm).mono fun e w' h => ⟨_, _, _, h,
          ⟨by rw [takeS, List.length_modify]; exact hbd.n, fun x hx => by obtain ⟨y, hy, hl⟩ := mem_takeS hx; have := hbd.l y hy; omega, by have := hbd.k; omega, hbd.t, hbd.lo, hbd.hi⟩⟩
  by_cases k2 : o.kind = 2
  · exact (does_drop g gx F Fx s rs now o w hB k2).mono fun e w' h => ⟨_, _, _, h,
      ⟨by unfold dropS; split <;> simp [hbd.n], fun x hx => by
        rcases mem_dropS hx with h | h
        · rw [h]; simp
        · have := hbd.l x h; omega, by have := hbd.k; omega, hbd.t, hbd.lo, hbd.hi⟩⟩
  by_cases k3 : o.kind = 3
  · exact (does_say g gx F Fx s rs now o w hB k3 hr2 hf2 (by omega) hrl).mono fun e w' h => ⟨_, _, _, h,
      ⟨hbd.n, fun x hx => by have := hbd.l x hx; omega, by have := hbd.k; simp; omega, fun r hr => by
        rcases List.mem_append.1 hr with h | h
        · exact hbd.t r h
        · obtain rfl : r = (o.text, o.ev) := by simpa using h
          exact htx, hbd.lo, hbd.hi⟩⟩
  by_cases k4 : o.kind = 4
  · cases rs with
    | nil => exact (does_hearNo g gx F Fx s now o w hB k4).mono fun e w' h => ⟨_, _, _, h, hbd.more⟩
    | cons r rs =>
      obtain ⟨t, x⟩ := r
      have hlen : rs.length + 1 ≤ K := hbd.k
      exact (does_hear g gx F Fx s rs now o w t x hB k4 (by have := hbd.t (t, x) (by simp); simp at this; omega) (by omega)).mono fun e w' h => ⟨_, _, _, h,
        ⟨hbd.n, fun y hy => by have := hbd.l y hy; omega, by omega, fun r hr => hbd.t r (by simp [hr]), hbd.lo, hbd.hi⟩⟩
  by_cases k5 : o.kind = 5
  · have h1 := hbd.lo
    have h2 := hbd.hi
    exact (does_tick g gx F Fx s rs now o w hB k5 hbd.lo hbd.hi hok.n).mono fun e w' h => ⟨_, _, _, h,
      ⟨hbd.n, fun x hx => by have := hbd.l x hx; omega, by have := hbd.k; omega, hbd.t, by unfold tickN; omega, by unfold tickN; omega⟩⟩
  · exact (does_else g gx F Fx s rs now o w hB (by simpa using k0) (by simpa using k1) (by simpa using k2) (by simpa using k3) (by simpa using k4) (by simpa using k5)).mono fun e w' h => ⟨_, _, _, h, hbd.more⟩
end Go.Proofs.Ytcjmapljcnmfaaa
