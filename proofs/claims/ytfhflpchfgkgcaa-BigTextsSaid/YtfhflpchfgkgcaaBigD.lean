/- sign, cmp. -/
import Derived.Test.YtfhflpchfgkgcaaBigC
namespace Go.Proofs.Ytfhflpchfgkgcaa
open Go.RowKit

def sgnI (n : Int) : Int := if n < 0 then -1 else if 0 < n then 1 else 0
theorem sign_any (n : Int) (w : World) :
    Calls Try.prog 79 #[.int .i64 n] w fun e w' => e = .returned (.int .i64 (sgnI n)) ∧ w = w' := by
  by_cases h1 : n < -1
  · have hs : sgnI n = -1 := by unfold sgnI; rw [if_pos (by omega)]
    have Hs := hide hs
    clear hs
    go_enter Try.func79, Try.ntmps79
    go_wp2
    go_ret
    exact ⟨by rw [Hs.out]; rfl, rfl⟩
  · by_cases h2 : 1 < n
    · have hs : sgnI n = 1 := by unfold sgnI; rw [if_neg (by omega), if_pos (by omega)]
      have Hs := hide hs
      clear hs
      go_enter Try.func79, Try.ntmps79
      go_wp2
      go_ret
      exact ⟨by rw [Hs.out]; rfl, rfl⟩
    · have hs : sgnI n = n := by
        unfold sgnI
        by_cases h3 : n < 0
        · rw [if_pos h3]; omega
        · by_cases h4 : 0 < n
          · rw [if_neg h3, if_pos h4]; omega
          · rw [if_neg h3, if_neg h4]; omega
      have Hs := hide hs
      clear hs
      have h1' : -1 ≤ n := by omega
      have h2' : n ≤ 1 := by omega
      clear h1 h2
      go_enter Try.func79, Try.ntmps79
      go_wp2
      go_ret
      exact ⟨by rw [Hs.out]; rfl, rfl⟩
theorem sign_q (n : Int) (w : World) : Calls Try.prog 79 #[.int .i64 n] w fun e w' => e = .returned (.int .i64 (sgnI n)) ∧ w' = w :=
  (sign_any n w).mono fun _ _ h => ⟨h.1, h.2.symm⟩
def cmpI (a b : Nat) : Int := if a < b then -1 else if b < a then 1 else 0
def IsCmp (r : Int) (w : World) (e : Ending) (w' : World) : Prop := e = .returned (.int .i64 r) ∧ ∃ m, w' = w.drewN m
set_option maxHeartbeats 1600000 in
theorem cmp_any (A1 A2 : Option Addr) (n1 n2 c1 c2 : Nat) (a b : List Nat) (w : World) (h1 : RowAt w 1 (.slice A1 n1 c1) n1 (encW a)) (h2 : RowAt w 1 (.slice A2 n2 c2) n2 (encW b)) (ha : Limbs a) (hb : Limbs b) (ta : Trim a) (tb : Trim b) :
    Calls Try.prog 70 #[.slice A1 n1 c1, .slice A2 n2 c2] w (IsCmp (cmpI (val a) (val b)) w) := by
  have hl1 : a.length = n1 := by simpa [encW] using h1.1
  have hl2 : b.length = n2 := by simpa [encW] using h2.1
  have hm1 := row_max h1
  have hm2 := row_max h2
  by_cases hl : n1 = n2
  · subst hl
    have Hx := hide (And.intro hl1 (And.intro hl2 (And.intro ha hb)))
    have H1 := hide h1
    have H2 := hide h2
    clear h1 h2 hl1 hl2 ha hb ta tb
    go_enter Try.func70, Try.ntmps70
    go_wp2
    go_loopw [5] (fun i wr => ∃ k m : Nat, k ≤ n1 ∧ i = .int .i64 ((k : Int) - 1) ∧ Hid (Above a b k) ∧ wr = w.drewN m) (fun i _ => (intOf i + 1).toNat)
    case atStart => exact ⟨n1, 0, Nat.le_refl _, rfl, fun j hj => by simp [List.getD, show a.length ≤ j by rw [Hx.out.1]; exact hj, show b.length ≤ j by rw [Hx.out.2.1]; exact hj], rfl⟩
    case round =>
      obtain ⟨k, m, hk, rfl, hab, rfl⟩ := hrel
      rcases Nat.eq_zero_or_pos k with rfl | hk0
      · go_wp2
        go_ret
        refine ⟨?_, _, rfl⟩
        have : val a = val b := eq_of_above hab
        simp only [cmpI, this, Nat.lt_irrefl, if_false]
        rfl
      · obtain ⟨b1, o1, rfl, hc1, hx1, hb1, hcell1⟩ := rowW H1.out (k := k - 1) (by omega)
        obtain ⟨b2, o2, rfl, hc2, hx2, hb2, hcell2⟩ := rowW H2.out (k := k - 1) (by omega)
        obtain ⟨x, hx⟩ : ∃ x, x = a.getD (k - 1) 0 := ⟨_, rfl⟩
        obtain ⟨y, hy⟩ : ∃ y, y = b.getD (k - 1) 0 := ⟨_, rfl⟩
        rw [← hx] at hcell1
        rw [← hy] at hcell2
        have Hy := hide (And.intro hx hy)
        have hk1 : (0 : Int) ≤ (k : Int) - 1 := by omega
        have hk2 : (k : Int) - 1 < (n1 : Int) := by omega
        clear hx hy hx1 hx2
        by_cases he : x = y
        · have he' : ((x : Int) != (y : Int)) = false := by simp [he]
          have He := hide he
          clear he
          go_wp2
          go_quiet (fail)
          go_wp2
          go_roundw
          case rel =>
            refine ⟨k - 1, _, by omega, ?_, ?_, rfl⟩
            · congr 1; omega
            · show Above a b (k - 1)
              intro j hj
              rcases Nat.lt_or_ge j k with h | h
              · obtain rfl : j = k - 1 := by omega
                rw [← Hy.out.1, ← Hy.out.2, He.out]
              · exact (show Above a b k from hab) j h
          case measure => simp [intOf]; omega
        · have he' : ((x : Int) != (y : Int)) = true := by simp; omega
          have He := hide he
          clear he
          go_wp2
          go_quiet (fail)
          go_wp2
          have hxb : x < 4294967296 := by rw [Hy.out.1]; exact Hx.out.2.2.1.at _
          have hyb : y < 4294967296 := by rw [Hy.out.2]; exact Hx.out.2.2.2.at _
          have e1 : IntKind.i64.wrap (x : Int) = (x : Int) := IntWalk.i64_in _ (by omega)
          have e2 : IntKind.i64.wrap (y : Int) = (y : Int) := IntWalk.i64_in _ (by omega)
          have e3 : IntKind.i64.wrap ((x : Int) - (y : Int)) = (x : Int) - (y : Int) := IntWalk.i64_in _ (by omega)
          go_quiet ((go_at_call 79; exact (sign_q _ _).mono fun _ _ h => ⟨h.1, _, h.2⟩))
          go_wp2
          go_ret
          refine ⟨?_, _, by simp only [World.drewN_drewN]; exact rfl⟩
          have hcmp : cmpI (val a) (val b) = sgnI ((x : Int) - (y : Int)) := by
            have hab' : Above a b (k - 1 + 1) := by rw [show k - 1 + 1 = k by omega]; exact hab
            have hba' : Above b a (k - 1 + 1) := fun j hj => (hab' j hj).symm
            rcases Nat.lt_or_ge x y with h | h
            · have := lt_of_diff Hx.out.2.2.1 hab' (by rw [← Hy.out.1, ← Hy.out.2]; exact h)
              rw [cmpI, if_pos this, sgnI, if_pos (by omega)]
            · have hne := He.out
              have := lt_of_diff Hx.out.2.2.2 hba' (by rw [← Hy.out.1, ← Hy.out.2]; omega)
              rw [cmpI, if_neg (by omega), if_pos this, sgnI, if_neg (by omega), if_pos (by omega)]
          rw [hcmp]
          rfl
  · have hne : ((n1 : Int) != (n2 : Int)) = true := by simp; omega
    have hcmp : cmpI (val a) (val b) = sgnI ((n1 : Int) - (n2 : Int)) := by
      rcases Nat.lt_or_ge n1 n2 with h | h
      · have := len_lt ha tb (by omega)
        rw [cmpI, if_pos this, sgnI, if_pos (by omega)]
      · have := len_lt hb ta (by omega)
        rw [cmpI, if_neg (by omega), if_pos this, sgnI, if_neg (by omega), if_pos (by omega)]
    have Hc := hide hcmp
    clear hcmp h1 h2 ha hb ta tb hl1 hl2 hl
    go_enter Try.func70, Try.ntmps70
    go_wp2_with (go_at_call 79; refine (sign_any ((n1 : Int) - (n2 : Int)) _).mono ?_; rintro e w' ⟨rfl, rfl⟩)
    go_ret
    exact ⟨by rw [Hc.out]; rfl, 0, rfl⟩
end Go.Proofs.Ytfhflpchfgkgcaa
