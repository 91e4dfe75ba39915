/- trim; how a number lies in memory; mag, neg, made, fits. -/
import Derived.Test.YtfhflpchfgkgcaaBigA
namespace Go.Proofs.Ytfhflpchfgkgcaa
open Go.RowKit

def lenOf : Value → Nat
  | .slice _ n _ => n
  | _ => 0
def IsTrim (A : Option Addr) (c : Nat) (m : List Nat) (w : World) (e : Ending) (w' : World) : Prop := e = .returned (.slice A (canon (val m)).length c) ∧ w = w'
set_option maxHeartbeats 800000 in
theorem trim_any (A : Option Addr) (n c : Nat) (m : List Nat) (w : World) (hr : RowAt w 1 (.slice A n c) n (encW m)) (hl : Limbs m) :
    Calls Try.prog 52 #[.slice A n c] w (IsTrim A c m w) := by
  have hn : m.length = n := by simpa [encW] using hr.1
  have hmax := row_max hr
  have Hr := hide (And.intro hr (And.intro hl hn))
  clear hr hl hn
  go_enter Try.func52, Try.ntmps52
  go_wp2
  go_loop [0] (fun v => ∃ k : Nat, k ≤ n ∧ v = .slice A k c ∧ Hid (val (m.take k) = val m)) (fun v => lenOf v)
  case atStart => exact ⟨n, Nat.le_refl _, rfl, by show _ = _; rw [List.take_of_length_le (by rw [Hr.out.2.2]; exact Nat.le_refl _)]⟩
  case round =>
    obtain ⟨k, hk, rfl, hv⟩ := hrel
    have hend : (m.take k = [] ∨ 0 < (m.take k).getD (k - 1) 0) → (canon (val m)).length = k := by
      intro ht
      have hlk : (m.take k).length = k := by rw [List.length_take, Hr.out.2.2]; omega
      have h1 : m.take k = canon (val (m.take k)) := canon_val (Hr.out.2.1.take k) (by
        rcases ht with ht | ht
        · exact .inl ht
        · exact .inr (by rw [hlk]; exact ht))
      have h2 : val (m.take k) = val m := hv
      rw [← h2, ← h1, hlk]
    have Hend := hide hend
    clear hend
    rcases Nat.eq_zero_or_pos k with rfl | hk0
    · go_wp2
      go_ret
      refine ⟨?_, rfl⟩
      rw [Hend.out (.inl (by simp))]
      rfl
    · obtain ⟨b, off, rfl, hc, hm, hb, hcell⟩ := rowW Hr.out.1 (k := k - 1) (by omega)
      obtain ⟨x, hx⟩ : ∃ x, x = m.getD (k - 1) 0 := ⟨_, rfl⟩
      rw [← hx] at hcell
      have Hx := hide hx
      have hcm : (c : Int) ≤ 9223372036854775807 := by unfold maxLen at hm; omega
      have hkc : k ≤ c := by omega
      clear hx hm
      have hd : (m.take k).getD (k - 1) 0 = m.getD (k - 1) 0 := by simp [List.getD, show k - 1 < k by omega]
      have Hd := hide hd
      clear hd
      by_cases h0 : x = 0
      · subst h0
        go_wp2
        go_round
        case rel =>
          refine ⟨k - 1, by omega, ?_, ?_⟩
          · rfl
          · show val (m.take (k - 1)) = val m
            have h1 := val_take m (k - 1)
            rw [show k - 1 + 1 = k by omega, ← Hx.out, Nat.mul_zero, Nat.add_zero] at h1
            rw [← h1]
            exact hv
        case measure => simp [lenOf]; omega
      · have h0' : ((x : Int) == 0) = false := by simp; omega
        clear h0
        go_wp2
        go_ret
        refine ⟨?_, rfl⟩
        rw [Hend.out (.inr (by rw [Hd.out, ← Hx.out]; simp at h0'; omega))]
        rfl

/-! ### How a number lies in memory -/
def sgn (b : Bool) (n : Nat) : Int := if b then -(n : Int) else n
/-- What a number that came in is worth: nothing, if it may not be one. -/
def goodI (b : Bool) (m : List Nat) : Int := if mayB b m then sgn b (val m) else 0
theorem natAbs_sgn (b : Bool) (n : Nat) : (sgn b n).natAbs = n := by cases b <;> simp [sgn]
theorem may_trim {b : Bool} {m : List Nat} (h : mayB b m = true) : Trim m ∧ m.length ≤ 8 ∧ (b = true → m ≠ []) := by
  simp only [mayB, Bool.and_eq_true, decide_eq_true_eq, Bool.or_eq_true, Bool.not_eq_true', ne_eq] at h
  obtain ⟨h8, h | h⟩ := h
  · exact ⟨.inl (List.eq_nil_of_length_eq_zero h.1), h8, fun hb => by rw [h.2] at hb; cases hb⟩
  · exact ⟨.inr (by omega), h8, fun _ h0 => by rw [h0] at h; simp at h⟩
theorem canon_good {b : Bool} {m : List Nat} (hl : Limbs m) : canon (goodI b m).natAbs = if mayB b m then m else [] := by
  unfold goodI
  split
  · rename_i h
    rw [natAbs_sgn, ← canon_val hl (may_trim h).1]
  · exact canon_zero
theorem val_pos {m : List Nat} (hl : Limbs m) (ht : Trim m) (h : m ≠ []) : 0 < val m := by
  have h1 := canon_val hl ht
  rcases Nat.eq_zero_or_pos (val m) with h0 | h0
  · rw [h0, canon_zero] at h1
    exact absurd h1 h
  · exact h0
theorem neg_good {b : Bool} {m : List Nat} (hl : Limbs m) : decide (goodI b m < 0) = (mayB b m && b) := by
  unfold goodI
  cases h : mayB b m
  · simp
  · obtain ⟨h1, _, h3⟩ := may_trim h
    cases b
    · simp [sgn]
    · have := val_pos hl h1 (h3 rfl)
      simp [sgn]; omega
theorem good_lt {b : Bool} {m : List Nat} (hl : Limbs m) : (goodI b m).natAbs < 2 ^ 256 := by
  rw [← canon_len8, canon_good hl]
  split
  · exact (may_trim ‹_›).2.1
  · simp
/-- A value that is a number that came in, worth z. -/
def BigAt (w : World) (x : Value) (z : Int) : Prop := ∃ b v m, x = .agg #[.bool b, v] ∧ RowAt w 1 v m.length (encW m) ∧ Limbs m ∧ goodI b m = z
/-- A value that is just z's number. -/
def CanAt (w : World) (x : Value) (z : Int) : Prop := ∃ d v, x = .agg #[.bool d, v] ∧ d = decide (z < 0) ∧ RowAt w 1 v (canon z.natAbs).length (encW (canon z.natAbs))
/-- A row of limbs is no part of a number's own two cells. -/
theorem RowAt.store {w : World} {v : Value} {n : Nat} {m : List Nat} {q : Nat} {t : TypeId} {f0 : Bool} {A0 : Option Addr} {n0 c0 : Nat} (h : RowAt w 1 v n (encW m)) (hb : Blk w q t [.bool f0, .slice A0 n0 c0]) (u u' : Value) :
    RowAt ((w.setCell ⟨q, 0, none⟩ u).setCell ⟨q, 1, none⟩ u') 1 v n (encW m) := by
  have hu : Upd (fun b => b = q) w ((w.setCell ⟨q, 0, none⟩ u).setCell ⟨q, 1, none⟩ u') := ((Upd.refl (fun b => b = q) w).setCell (p := ⟨q, 0, none⟩) (.inl rfl) u).setCell (p := ⟨q, 1, none⟩) (.inl rfl) u'
  have hl : m.length = n := by simpa [encW] using h.1
  refine ⟨h.1, ?_⟩
  rcases h.2 with h0 | ⟨b, off, c, hv, hc, hm, hbs, hx⟩
  · exact .inl h0
  · rcases Nat.eq_zero_or_pos n with rfl | hn
    · exact .inl ⟨rfl, _, _, hv⟩
    · refine .inr ⟨b, off, c, hv, hc, hm, Nat.lt_of_lt_of_le hbs hu.size, fun j y hj => (hu.cell (p := ⟨b, off + j, none⟩) hbs ?_).trans (hx j y hj)⟩
      rintro rfl
      have h0 := hx 0 _ (encW_get m 0 (by omega))
      have hc0 := hb.cell (off + 0)
      rw [hc0] at h0
      rcases off with _ | _ | off <;> simp at h0
theorem CanAt.store {w w2 : World} {q : Nat} {t : TypeId} {f0 : Bool} {A0 : Option Addr} {n0 c0 : Nat} {f : Bool} {A : Option Addr} {n c : Nat} {z : Int} (hcan : CanAt w2 (.agg #[.bool f, .slice A n c]) z) (hb : Blk w2 q t [.bool f0, .slice A0 n0 c0]) (hn : New w w2) (hq : w.heap.size ≤ q) :
    ∃ w3, w3 = (w2.setCell ⟨q, 0, none⟩ (.bool f)).setCell ⟨q, 1, none⟩ (.slice A n c) ∧ CanAt w3 (.agg #[.bool f, .slice A n c]) z ∧ New w w3 ∧ w3.cell? ⟨q, 0, none⟩ = some (.bool f) ∧ w3.cell? ⟨q, 1, none⟩ = some (.slice A n c) ∧
      ∀ g s cs, g ≠ q → Blk w2 g s cs → Blk w3 g s cs := by
  have hu : Upd (fun b => b = q) w2 ((w2.setCell ⟨q, 0, none⟩ (.bool f)).setCell ⟨q, 1, none⟩ (.slice A n c)) := ((Upd.refl (fun b => b = q) w2).setCell (p := ⟨q, 0, none⟩) (.inl rfl) _).setCell (p := ⟨q, 1, none⟩) (.inl rfl) _
  have hb3 := (hb.set_ 0 (.bool f)).set_ 1 (.slice A n c)
  refine ⟨_, rfl, ?_, hn.trans hu fun i hi hiq => by omega, hb3.cell 0, hb3.cell 1, fun g s cs hg hb => (hb.far (p := ⟨q, 0, none⟩) hg _).far (p := ⟨q, 1, none⟩) hg _⟩
  obtain ⟨d, v, hx, hd, hr⟩ := hcan
  exact ⟨d, v, hx, hd, hr.store hb _ _⟩
theorem BigAt.new_ {w w' : World} {x : Value} {z : Int} (h : BigAt w x z) (hu : New w w') : BigAt w' x z := by
  obtain ⟨b, v, m, hx, hr, hl, hg⟩ := h
  exact ⟨b, v, m, hx, hr.new_ hu, hl, hg⟩
theorem CanAt.new_ {w w' : World} {x : Value} {z : Int} (h : CanAt w x z) (hu : New w w') : CanAt w' x z := by
  obtain ⟨d, v, hx, hd, hr⟩ := h
  exact ⟨d, v, hx, hd, hr.new_ hu⟩
theorem BigAt.lt {w : World} {x : Value} {z : Int} (h : BigAt w x z) : z.natAbs < 2 ^ 256 := by
  obtain ⟨b, v, m, hx, hr, hl, hg⟩ := h
  rw [← hg]
  exact good_lt hl
theorem may_canon {z : Int} (h : z.natAbs < 2 ^ 256) : mayB (decide (z < 0)) (canon z.natAbs) = true := by
  have h8 := (canon_len8 z.natAbs).2 h
  simp only [mayB, Bool.and_eq_true, decide_eq_true_eq, Bool.or_eq_true, Bool.not_eq_true', ne_eq]
  refine ⟨h8, ?_⟩
  rcases trim_canon z.natAbs with h0 | h0
  · refine .inl ⟨by rw [h0]; rfl, ?_⟩
    have := canon_nil.1 h0
    simp; omega
  · refine .inr ⟨?_, by omega⟩
    rcases Nat.eq_zero_or_pos (canon z.natAbs).length with h1 | h1
    · rw [List.eq_nil_of_length_eq_zero h1] at h0
      simp at h0
    · exact h1
theorem CanAt.big {w : World} {x : Value} {z : Int} (h : CanAt w x z) (hz : z.natAbs < 2 ^ 256) : BigAt w x z := by
  obtain ⟨d, v, hx, hd, hr⟩ := h
  subst hd
  refine ⟨_, v, _, hx, hr, limbs_canon _, ?_⟩
  unfold goodI
  rw [if_pos (may_canon hz), val_canon]
  unfold sgn
  split
  · rename_i h; simp at h; omega
  · rename_i h; simp at h; omega
theorem CanAt.zero (w : World) : CanAt w (.agg #[.bool false, .slice none 0 0]) 0 := ⟨false, _, rfl, rfl, by
  rw [show (0 : Int).natAbs = 0 from rfl, canon_zero]
  exact ⟨rfl, .inl ⟨rfl, none, 0, rfl⟩⟩⟩

def IsMag (z : Int) (w : World) (e : Ending) (w' : World) : Prop := ∃ A n c, e = .returned (.slice A n c) ∧ n = (canon z.natAbs).length ∧ Own w' w.heap.size 50 1 (.slice A n c) n (encW (canon z.natAbs)) ∧ New w w'
set_option maxHeartbeats 400000 in
theorem mag_any (x : Value) (z : Int) (w : World) (h : BigAt w x z) : Calls Try.prog 58 #[x] w (IsMag z w) := by
  obtain ⟨b, v, m, rfl, hr, hl, hg⟩ := h
  have hmg := canon_good (b := b) hl
  rw [hg] at hmg
  have hr1 := hr.new_ ((Upd.refl (fun _ => False) w).alloc (.cells #[.bool b, v] 24))
  have hn1 : New w (w.alloc (.cells #[.bool b, v] 24)) := (Upd.refl _ _).alloc _
  obtain ⟨A, c, rfl⟩ := hr.form
  have Hr := hide (And.intro hr1 (And.intro hl (And.intro hg (And.intro hmg hn1))))
  clear hr hr1 hl hg hmg hn1
  cases hb : mayB b m
  · have Hb := hide hb
    clear hb
    go_enter Try.func58, Try.ntmps58
    go_wp2_with fail
    refine (may_any b _ m _ Hr.out.1).mono ?_
    rintro e w1 ⟨rfl, hn⟩
    rw [Hb.out]
    go_wp2
    go_ret
    refine ⟨_, _, _, rfl, ?_, ?_, Hr.out.2.2.2.2.transNew hn⟩
    · rw [Hr.out.2.2.2.1, Hb.out]; rfl
    · rw [Hr.out.2.2.2.1, Hb.out]; exact Own.nil_ _ _ _ _
  · have Hb := hide hb
    have h8 := (may_trim hb).2.1
    clear hb
    have hw1 : ∀ w1, New (w.alloc (.cells #[.bool b, .slice A m.length c] 24)) w1 → w1.cell? ⟨w.heap.size, 1, none⟩ = some (.slice A m.length c) := fun w1 hn =>
      (hn.cellN (p := ⟨w.heap.size, 1, none⟩) (by simp)).trans ((Blk.new w 24 [.bool b, .slice A m.length c]).cell 1)
    have Hw1 := hide hw1
    clear hw1
    go_enter Try.func58, Try.ntmps58
    go_wp2_with fail
    refine (may_any b _ m _ Hr.out.1).mono ?_
    rintro e w1 ⟨rfl, hn⟩
    rw [Hb.out]
    have hc := Hw1.out w1 hn
    go_wp2_with fail
    refine (cloneW _ m.length (encW m) _ (Hr.out.1.new_ hn) (encW_one m) (by omega)).mono ?_
    rintro e w2 ⟨v2, rfl, ho2, hn2⟩
    obtain ⟨A2, c2, rfl⟩ := ho2.row.form
    go_wp2
    go_ret
    have hm : canon z.natAbs = m := by rw [Hr.out.2.2.2.1, Hb.out]; rfl
    refine ⟨_, _, _, rfl, by rw [hm], ?_, (Hr.out.2.2.2.2.transNew hn).transNew hn2⟩
    rw [hm]
    exact ho2.more (Nat.le_trans (Nat.le_of_lt (by simp)) hn.size)
def IsNeg (z : Int) (w : World) (e : Ending) (w' : World) : Prop := ∃ d, e = .returned (.bool d) ∧ d = decide (z < 0) ∧ New w w'
set_option maxHeartbeats 400000 in
theorem neg_any (x : Value) (z : Int) (w : World) (h : BigAt w x z) : Calls Try.prog 59 #[x] w (IsNeg z w) := by
  obtain ⟨b, v, m, rfl, hr, hl, hg⟩ := h
  have hmg := neg_good (b := b) hl
  rw [hg] at hmg
  have hr1 := hr.new_ ((Upd.refl (fun _ => False) w).alloc (.cells #[.bool b, v] 24))
  have hn1 : New w (w.alloc (.cells #[.bool b, v] 24)) := (Upd.refl _ _).alloc _
  have hw1 : ∀ w1, New (w.alloc (.cells #[.bool b, v] 24)) w1 → w1.cell? ⟨w.heap.size, 0, none⟩ = some (.bool b) := fun w1 hn =>
    (hn.cellN (p := ⟨w.heap.size, 0, none⟩) (by simp)).trans ((Blk.new w 24 [.bool b, v]).cell 0)
  have Hr := hide (And.intro hr1 (And.intro hmg (And.intro hn1 hw1)))
  clear hr hr1 hl hg hmg hn1 hw1
  cases hb : mayB b m
  all_goals
    have Hb := hide hb
    clear hb
    go_enter Try.func59, Try.ntmps59
    go_wp2_with fail
    refine (may_any b _ m _ Hr.out.1).mono ?_
    rintro e w1 ⟨rfl, hn⟩
    rw [Hb.out]
    have hc := Hr.out.2.2.2 w1 hn
    go_wp2
    go_ret
    exact ⟨_, rfl, by rw [Hr.out.2.1, Hb.out]; rfl, Hr.out.2.2.1.transNew hn⟩
end Go.Proofs.Ytfhflpchfgkgcaa
