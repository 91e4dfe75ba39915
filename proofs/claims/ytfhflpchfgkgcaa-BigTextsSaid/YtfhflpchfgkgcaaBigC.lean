/- made, fits, sign, cmp. -/
import Derived.Test.YtfhflpchfgkgcaaBigB
namespace Go.Proofs.Ytfhflpchfgkgcaa
open Go.RowKit

def IsMade (z : Int) (w : World) (e : Ending) (w' : World) : Prop := ∃ f A n c, e = .returned (.agg #[.bool f, .slice A n c]) ∧ CanAt w' (.agg #[.bool f, .slice A n c]) z ∧ New w w'
theorem sgn_zero (d : Bool) : sgn d 0 = 0 := by cases d <;> rfl
theorem sgn_neg {d : Bool} {n : Nat} (h : 0 < n) : decide (sgn d n < 0) = d := by cases d <;> simp [sgn]; omega
set_option maxHeartbeats 400000 in
theorem made_any (A : Option Addr) (n c : Nat) (m : List Nat) (d : Bool) (w : World) (hr : RowAt w 1 (.slice A n c) n (encW m)) (hl : Limbs m) :
    Calls Try.prog 53 #[.slice A n c, .bool d] w (IsMade (sgn d (val m)) w) := by
  have hn1 : New w (w.alloc (.cells #[.bool false, .slice none 0 0] 24)) := (Upd.refl _ _).alloc _
  have hr1 := hr.new_ hn1
  have hn : m.length = n := by simpa [encW] using hr.1
  have hk : (canon (val m)).length ≤ n := by rw [← hn]; exact canon_len_le (val_lt hl)
  have htk := take_canon hl
  have hrk := hr.cut hk
  rw [htk] at hrk
  have Hr := hide (And.intro hr1 (And.intro hl (And.intro hn1 hrk)))
  clear hr hr1 hl hn1 hrk htk
  obtain ⟨k, hkk⟩ : ∃ k, k = (canon (val m)).length := ⟨_, rfl⟩
  rw [← hkk] at hk
  by_cases h0 : k = 0
  · subst h0
    have Hk := hide hkk
    clear hkk
    go_enter Try.func53, Try.ntmps53
    go_wp2_with fail
    refine (trim_any A n c m _ Hr.out.1 Hr.out.2.1).mono ?_
    rintro e w1 ⟨rfl, rfl⟩
    rw [← Hk.out]
    go_wp2
    have hz : sgn d (val m) = 0 := by
      have := canon_nil.1 (List.eq_nil_of_length_eq_zero Hk.out.symm)
      rw [this, sgn_zero]
    exact bodyPost_ret (v := .agg #[.bool false, .slice none 0 0]) (by simp [results, Try.results53, go_sem]) rfl ⟨_, _, _, _, rfl, by rw [hz]; exact CanAt.zero _, Hr.out.2.2.1⟩
  · have hk0 : ((k : Int) == 0) = false := by simp; omega
    have Hk := hide (And.intro hkk h0)
    clear hkk h0
    go_enter Try.func53, Try.ntmps53
    go_wp2_with fail
    refine (trim_any A n c m _ Hr.out.1 Hr.out.2.1).mono ?_
    rintro e w1 ⟨rfl, rfl⟩
    rw [← Hk.out.1]
    go_wp2
    have hv : 0 < val m := by
      rcases Nat.eq_zero_or_pos (val m) with h | h
      · have := Hk.out
        rw [h, canon_zero] at this
        exact absurd this.1 this.2
      · exact h
    have hr := Hr.out.2.2.2
    rw [← Hk.out.1] at hr
    refine bodyPost_ret (v := .agg #[.bool d, .slice A k c]) (by simp [results, Try.results53, go_sem]) rfl ⟨_, _, _, _, rfl, ⟨d, _, rfl, (sgn_neg hv).symm, ?_⟩, (Upd.refl _ _).alloc _⟩
    rw [natAbs_sgn, ← Hk.out.1]
    exact hr.new_ ((Upd.refl _ _).alloc _)
/-- z, if it has not too many limbs. -/
def capI (z : Int) : Int := if z.natAbs < 2 ^ 256 then z else 0
def okI (z : Int) : Bool := decide (z.natAbs < 2 ^ 256)
def IsFits (z : Int) (w : World) (e : Ending) (w' : World) : Prop := ∃ f A n c, e = .returned (.tuple #[.agg #[.bool f, .slice A n c], .bool (okI z)]) ∧ CanAt w' (.agg #[.bool f, .slice A n c]) (capI z) ∧ New w w'
set_option maxHeartbeats 400000 in
theorem fits_any (A : Option Addr) (n c : Nat) (m : List Nat) (d : Bool) (w : World) (hr : RowAt w 1 (.slice A n c) n (encW m)) (hl : Limbs m) :
    Calls Try.prog 72 #[.slice A n c, .bool d] w (IsFits (sgn d (val m)) w) := by
  have hn1 : New w (w.alloc (.cells #[.bool false, .slice none 0 0] 24)) := (Upd.refl _ _).alloc _
  have hn : m.length = n := by simpa [encW] using hr.1
  have hk : (canon (val m)).length ≤ n := by rw [← hn]; exact canon_len_le (val_lt hl)
  have htk := take_canon hl
  have hr1 := hr.new_ hn1
  have hrk := hr1.cut hk
  rw [htk] at hrk
  have h8 := canon_len8 (val m)
  have hmx := row_max hr
  have hb0 : Blk (w.alloc (.cells #[.bool false, .slice none 0 0] 24)) w.heap.size 24 [.bool false, .slice none 0 0] := Blk.new w _ _
  have Hr := hide (And.intro hr1 (And.intro hl (And.intro hn1 (And.intro hrk (And.intro h8 hb0)))))
  clear hr hr1 hl hn1 hrk htk h8 hb0 hn
  obtain ⟨k, hkk⟩ : ∃ k, k = (canon (val m)).length := ⟨_, rfl⟩
  rw [← hkk] at hk
  have hkm : (k : Int) ≤ 9223372036854775807 := by omega
  by_cases h0 : 8 < k
  · have Hk := hide (And.intro hkk h0)
    clear hkk
    go_enter Try.func72, Try.ntmps72
    go_wp2_with fail
    refine (trim_any A n c m _ Hr.out.1 Hr.out.2.1).mono ?_
    rintro e w1 ⟨rfl, rfl⟩
    rw [← Hk.out.1]
    go_wp2
    have hz : ¬ (sgn d (val m)).natAbs < 2 ^ 256 := by
      rw [natAbs_sgn, ← Hr.out.2.2.2.2.1, ← Hk.out.1]
      have := Hk.out.2
      omega
    refine bodyPost_ret (v := .tuple #[.agg #[.bool false, .slice none 0 0], .bool false]) (by simp [results, Try.results72, go_sem]) rfl ⟨false, none, 0, 0, ?_, ?_, Hr.out.2.2.1⟩
    · rw [okI, decide_eq_false hz]
    · rw [capI, if_neg hz]; exact CanAt.zero _
  · have Hk := hide (And.intro hkk h0)
    clear hkk
    go_enter Try.func72, Try.ntmps72
    go_wp2_with fail
    refine (trim_any A n c m _ Hr.out.1 Hr.out.2.1).mono ?_
    rintro e w1 ⟨rfl, rfl⟩
    rw [← Hk.out.1]
    have hr := Hr.out.2.2.2.1
    rw [← Hk.out.1] at hr
    have Hrow := hide hr
    clear hr
    go_wp2_with fail
    refine (made_any A k c _ d _ Hrow.out (limbs_canon _)).mono ?_
    rintro e w2 ⟨f, A2, n2, c2, rfl, hcan, hn2⟩
    rw [val_canon] at hcan
    have hz : (sgn d (val m)).natAbs < 2 ^ 256 := by
      rw [natAbs_sgn, ← Hr.out.2.2.2.2.1, ← Hk.out.1]
      have := Hk.out.2
      omega
    have hb2 := Hr.out.2.2.2.2.2.new_ hn2
    have r0 : w2.cell? ⟨w.heap.size, 0, none⟩ = some (.bool false) := hb2.cell 0
    have r1 : w2.cell? ⟨w.heap.size, 1, none⟩ = some (.slice none 0 0) := hb2.cell 1
    have f0 := hb2.frozen 0
    have f1 := hb2.frozen 1
    obtain ⟨w3, hw3, hcan3, hn3, g0, g1, _⟩ := hcan.store hb2 (Hr.out.2.2.1.transNew hn2) (Nat.le_refl _)
    have H3 := hide (And.intro hcan3 hn3)
    have Hw3 := hide hw3
    clear hb2 hcan hn2 hcan3 hn3 hw3
    go_wp2
    rw [← Hw3.out]
    refine bodyPost_ret (v := .tuple #[.agg #[.bool f, .slice A2 n2 c2], .bool true]) (by simp [results, Try.results72, go_sem, g0, g1]) rfl ⟨f, A2, n2, c2, ?_, ?_, H3.out.2⟩
    · rw [okI, decide_eq_true hz]
    · rw [capI, if_pos hz]; exact H3.out.1
end Go.Proofs.Ytfhflpchfgkgcaa
