/- Of, FromWord. -/
import Derived.Test.YtfhflpchfgkgcaaBigI
namespace Go.Proofs.Ytfhflpchfgkgcaa
open Go.RowKit
theorem val_two (m : Nat) : val [m % 4294967296, m / 4294967296] = m := by simp [val]; omega
theorem limbs_two {m : Nat} (h : m < 18446744073709551616) : Limbs [m % 4294967296, m / 4294967296] := Limbs.cons (by omega) (Limbs.cons (by omega) Limbs.nil)
/-- The world in which two limbs lie behind a result's cells. -/
theorem two_limbs (w : World) (m : Nat) : ∃ w1, w1 = (w.alloc (.cells #[.bool false, .slice none 0 0] 24)).alloc (.cells #[.int .u32 ((m % 4294967296 : Nat) : Int), .int .u32 ((m / 4294967296 : Nat) : Int)] 50) ∧ New w w1 ∧
    Blk w1 w.heap.size 24 [.bool false, .slice none 0 0] ∧ RowAt w1 1 (.slice (some ⟨w.heap.size + 1, 0, none⟩) 2 2) 2 (encW [m % 4294967296, m / 4294967296]) := by
  refine ⟨_, rfl, ((Upd.refl _ _).alloc _).alloc _, (Blk.new w _ _).alloc _, ?_⟩
  have := RowAt.fresh (size := 1) (w.alloc (.cells #[.bool false, .slice none 0 0] 24)) 50 (encW [m % 4294967296, m / 4294967296]) 2 2 rfl (by omega) (by unfold maxLen; omega)
  rw [show (w.alloc (.cells #[.bool false, .slice none 0 0] 24)).heap.size = w.heap.size + 1 by simp] at this
  exact this
set_option maxHeartbeats 800000 in
theorem of_any (n : Int) (w : World) (h1 : -9223372036854775808 ≤ n) (h2 : n ≤ 9223372036854775807) : Calls Try.prog 29 #[.int .i64 n] w (IsZ n w) := by
  obtain ⟨m, hm⟩ : ∃ m, m = n.natAbs := ⟨_, rfl⟩
  have hmb : m < 18446744073709551616 := by omega
  obtain ⟨w1, hw1, hn1, hb1, hr1⟩ := two_limbs w m
  have e4 : Value.int .u32 ((m : Int) % 4294967296) = .int .u32 ((m % 4294967296 : Nat) : Int) := by simp
  have e5 : Value.int .u32 ((m : Int) / 4294967296) = .int .u32 ((m / 4294967296 : Nat) : Int) := by simp
  by_cases hn : n < 0
  · have e1 : IntKind.u64.wrap (-IntKind.u64.wrap n) = (m : Int) := by rw [IntKind.wrap_u64, IntKind.wrap_u64]; omega
    have e2 : (m : Int) / 4294967296 % 4294967296 = (m : Int) / 4294967296 := by omega
    have hz : sgn true (val [m % 4294967296, m / 4294967296]) = n := by rw [val_two]; simp [sgn]; omega
    have H := hide (And.intro e1 (And.intro e2 (And.intro e4 (And.intro e5 (And.intro hz (And.intro hw1 (And.intro hn1 (And.intro hb1 hr1))))))))
    clear e1 e2 e4 e5 hz hw1 hn1 hb1 hr1 hm
    go_enter Try.func29, Try.ntmps29
    go_wp2_with fail
    rw [H.out.1, H.out.2.1, H.out.2.2.1, H.out.2.2.2.1, ← H.out.2.2.2.2.2.1]
    refine (made_any _ 2 2 _ true _ H.out.2.2.2.2.2.2.2.2 (limbs_two hmb)).mono ?_
    rw [H.out.2.2.2.2.1]
    rintro e w2 ⟨f, A2, n2, c2, rfl, hcan, hn2⟩
    have hb2 := H.out.2.2.2.2.2.2.2.1.new_ hn2
    have f0 := hb2.frozen 0
    have f1 := hb2.frozen 1
    have r0 : w2.cell? ⟨w.heap.size, 0, none⟩ = some (.bool false) := hb2.cell 0
    have r1 : w2.cell? ⟨w.heap.size, 1, none⟩ = some (.slice none 0 0) := hb2.cell 1
    obtain ⟨w3, hw3, hcan3, hn3, g0, g1, _⟩ := hcan.store hb2 (H.out.2.2.2.2.2.2.1.transNew hn2) (Nat.le_refl _)
    have H3 := hide (And.intro hcan3 (And.intro hn3 hw3))
    clear hb2 hcan hn2 hcan3 hn3 hw3
    go_wp2
    rw [← H3.out.2.2]
    exact bodyPost_ret (v := .agg #[.bool f, .slice A2 n2 c2]) (by simp [results, Try.results29, go_sem, g0, g1]) rfl ⟨f, A2, n2, c2, rfl, H3.out.1, H3.out.2.1⟩
  · obtain rfl : n = (m : Int) := by omega
    have hz : sgn false (val [m % 4294967296, m / 4294967296]) = (m : Int) := by rw [val_two]; simp [sgn]
    have H := hide (And.intro hz (And.intro hz (And.intro e4 (And.intro e5 (And.intro hz (And.intro hw1 (And.intro hn1 (And.intro hb1 hr1))))))))
    clear e4 e5 hz hw1 hn1 hb1 hr1 hm
    go_enter Try.func29, Try.ntmps29
    go_wp2_with fail
    rw [H.out.2.2.1, H.out.2.2.2.1, ← H.out.2.2.2.2.2.1]
    refine (made_any _ 2 2 _ false _ H.out.2.2.2.2.2.2.2.2 (limbs_two hmb)).mono ?_
    rw [H.out.2.2.2.2.1]
    rintro e w2 ⟨f, A2, n2, c2, rfl, hcan, hn2⟩
    have hb2 := H.out.2.2.2.2.2.2.2.1.new_ hn2
    have f0 := hb2.frozen 0
    have f1 := hb2.frozen 1
    have r0 : w2.cell? ⟨w.heap.size, 0, none⟩ = some (.bool false) := hb2.cell 0
    have r1 : w2.cell? ⟨w.heap.size, 1, none⟩ = some (.slice none 0 0) := hb2.cell 1
    obtain ⟨w3, hw3, hcan3, hn3, g0, g1, _⟩ := hcan.store hb2 (H.out.2.2.2.2.2.2.1.transNew hn2) (Nat.le_refl _)
    have H3 := hide (And.intro hcan3 (And.intro hn3 hw3))
    clear hb2 hcan hn2 hcan3 hn3 hw3
    go_wp2
    rw [← H3.out.2.2]
    exact bodyPost_ret (v := .agg #[.bool f, .slice A2 n2 c2]) (by simp [results, Try.results29, go_sem, g0, g1]) rfl ⟨f, A2, n2, c2, rfl, H3.out.1, H3.out.2.1⟩
/-- What a word is worth, with a sign or without. -/
def wordI (u : Nat) (s : Bool) : Int := if s && decide (9223372036854775808 ≤ u) then (u : Int) - 18446744073709551616 else u
theorem wordI_neg (u : Nat) (h : u < 18446744073709551616) (h2 : 9223372036854775808 ≤ u) : sgn true (18446744073709551616 - u) = wordI u true := by
  simp [sgn, wordI, h2]; omega
theorem wordI_pos (u : Nat) (s : Bool) (h2 : (s && decide (9223372036854775808 ≤ u)) = false) : sgn false u = wordI u s := by
  simp [sgn, wordI, h2]
set_option maxHeartbeats 800000 in
theorem fromWord_any (u : Nat) (s : Bool) (w : World) (hu : u < 18446744073709551616) : Calls Try.prog 27 #[.int .u64 (u : Int), .bool s] w (IsZ (wordI u s) w) := by
  cases s
  · skip
    obtain ⟨w1, hw1, hn1, hb1, hr1⟩ := two_limbs w u
    have hmb := hu
    have e4 : Value.int .u32 ((u : Int) % 4294967296) = .int .u32 ((u % 4294967296 : Nat) : Int) := by simp
    have e5 : Value.int .u32 ((u : Int) / 4294967296) = .int .u32 ((u / 4294967296 : Nat) : Int) := by simp
    have hz := wordI_pos u false rfl
    have H := hide (And.intro hz (And.intro hz (And.intro e4 (And.intro e5 (And.intro hz (And.intro hw1 (And.intro hn1 (And.intro hb1 hr1))))))))
    clear e4 e5 hz hw1 hn1 hb1 hr1
    go_enter Try.func27, Try.ntmps27
    go_wp2_with fail
    rw [H.out.2.2.1, H.out.2.2.2.1, ← H.out.2.2.2.2.2.1]
    refine (made_any _ 2 2 _ false _ H.out.2.2.2.2.2.2.2.2 (limbs_two hmb)).mono ?_
    rw [val_two, H.out.2.2.2.2.1]
    rintro e w2 ⟨f, A2, n2, c2, rfl, hcan, hn2⟩
    have hb2 := H.out.2.2.2.2.2.2.2.1.new_ hn2
    have f0 := hb2.frozen 0
    have f1 := hb2.frozen 1
    have r0 : w2.cell? ⟨w.heap.size, 0, none⟩ = some (.bool false) := hb2.cell 0
    have r1 : w2.cell? ⟨w.heap.size, 1, none⟩ = some (.slice none 0 0) := hb2.cell 1
    obtain ⟨w3, hw3, hcan3, hn3, g0, g1, _⟩ := hcan.store hb2 (H.out.2.2.2.2.2.2.1.transNew hn2) (Nat.le_refl _)
    have H3 := hide (And.intro hcan3 (And.intro hn3 hw3))
    clear hb2 hcan hn2 hcan3 hn3 hw3
    go_wp2
    rw [← H3.out.2.2]
    exact bodyPost_ret (v := .agg #[.bool f, .slice A2 n2 c2]) (by simp [results, Try.results27, go_sem, g0, g1]) rfl ⟨f, A2, n2, c2, rfl, H3.out.1, H3.out.2.1⟩
  · by_cases hge : 9223372036854775808 ≤ u
    · obtain ⟨m, hm⟩ : ∃ m, m = 18446744073709551616 - u := ⟨_, rfl⟩
      have hmb : m < 18446744073709551616 := by omega
      obtain ⟨w1, hw1, hn1, hb1, hr1⟩ := two_limbs w m
      have e1 : IntKind.u64.wrap (-(u : Int)) = (m : Int) := by rw [IntKind.wrap_u64]; omega
      have e2 : (m : Int) / 4294967296 % 4294967296 = (m : Int) / 4294967296 := by omega
      have e4 : Value.int .u32 ((m : Int) % 4294967296) = .int .u32 ((m % 4294967296 : Nat) : Int) := by simp
      have e5 : Value.int .u32 ((m : Int) / 4294967296) = .int .u32 ((m / 4294967296 : Nat) : Int) := by simp
      have hz := wordI_neg u hu hge
      rw [← hm] at hz
      have hd : ((u : Int) / 9223372036854775808 == 1) = true := by simp; omega
      have H := hide (And.intro e1 (And.intro e2 (And.intro e4 (And.intro e5 (And.intro hz (And.intro hw1 (And.intro hn1 (And.intro hb1 hr1))))))))
      clear e1 e2 e4 e5 hz hw1 hn1 hb1 hr1 hm
      go_enter Try.func27, Try.ntmps27
      go_wp2_with fail
      rw [H.out.1, H.out.2.1, H.out.2.2.1, H.out.2.2.2.1, ← H.out.2.2.2.2.2.1]
      refine (made_any _ 2 2 _ true _ H.out.2.2.2.2.2.2.2.2 (limbs_two hmb)).mono ?_
      rw [val_two, H.out.2.2.2.2.1]
      rintro e w2 ⟨f, A2, n2, c2, rfl, hcan, hn2⟩
      have hb2 := H.out.2.2.2.2.2.2.2.1.new_ hn2
      have f0 := hb2.frozen 0
      have f1 := hb2.frozen 1
      have r0 : w2.cell? ⟨w.heap.size, 0, none⟩ = some (.bool false) := hb2.cell 0
      have r1 : w2.cell? ⟨w.heap.size, 1, none⟩ = some (.slice none 0 0) := hb2.cell 1
      obtain ⟨w3, hw3, hcan3, hn3, g0, g1, _⟩ := hcan.store hb2 (H.out.2.2.2.2.2.2.1.transNew hn2) (Nat.le_refl _)
      have H3 := hide (And.intro hcan3 (And.intro hn3 hw3))
      clear hb2 hcan hn2 hcan3 hn3 hw3
      go_wp2
      rw [← H3.out.2.2]
      exact bodyPost_ret (v := .agg #[.bool f, .slice A2 n2 c2]) (by simp [results, Try.results27, go_sem, g0, g1]) rfl ⟨f, A2, n2, c2, rfl, H3.out.1, H3.out.2.1⟩
    · have hd : ((u : Int) / 9223372036854775808 == 1) = false := by simp; omega
      obtain ⟨w1, hw1, hn1, hb1, hr1⟩ := two_limbs w u
      have hmb := hu
      have e4 : Value.int .u32 ((u : Int) % 4294967296) = .int .u32 ((u % 4294967296 : Nat) : Int) := by simp
      have e5 : Value.int .u32 ((u : Int) / 4294967296) = .int .u32 ((u / 4294967296 : Nat) : Int) := by simp
      have hz := wordI_pos u true (by simp; omega)
      have H := hide (And.intro hz (And.intro hz (And.intro e4 (And.intro e5 (And.intro hz (And.intro hw1 (And.intro hn1 (And.intro hb1 hr1))))))))
      clear e4 e5 hz hw1 hn1 hb1 hr1
      go_enter Try.func27, Try.ntmps27
      go_wp2_with fail
      rw [H.out.2.2.1, H.out.2.2.2.1, ← H.out.2.2.2.2.2.1]
      refine (made_any _ 2 2 _ false _ H.out.2.2.2.2.2.2.2.2 (limbs_two hmb)).mono ?_
      rw [val_two, H.out.2.2.2.2.1]
      rintro e w2 ⟨f, A2, n2, c2, rfl, hcan, hn2⟩
      have hb2 := H.out.2.2.2.2.2.2.2.1.new_ hn2
      have f0 := hb2.frozen 0
      have f1 := hb2.frozen 1
      have r0 : w2.cell? ⟨w.heap.size, 0, none⟩ = some (.bool false) := hb2.cell 0
      have r1 : w2.cell? ⟨w.heap.size, 1, none⟩ = some (.slice none 0 0) := hb2.cell 1
      obtain ⟨w3, hw3, hcan3, hn3, g0, g1, _⟩ := hcan.store hb2 (H.out.2.2.2.2.2.2.1.transNew hn2) (Nat.le_refl _)
      have H3 := hide (And.intro hcan3 (And.intro hn3 hw3))
      clear hb2 hcan hn2 hcan3 hn3 hw3
      go_wp2
      rw [← H3.out.2.2]
      exact bodyPost_ret (v := .agg #[.bool f, .slice A2 n2 c2]) (by simp [results, Try.results27, go_sem, g0, g1]) rfl ⟨f, A2, n2, c2, rfl, H3.out.1, H3.out.2.1⟩
end Go.Proofs.Ytfhflpchfgkgcaa
