/- AsUint. -/
import Derived.Test.YtfhflpchfgkgcaaBigN
namespace Go.Proofs.Ytfhflpchfgkgcaa
open Go.RowKit
def rangeE (n : Int) : Int := if n < 0 ∨ 256 < n then 1 else 0
def asU (n : Int) (z : Int) : Int := if n < 0 ∨ 256 < n then 0 else z % 2 ^ n.toNat
theorem asU_nat {n : Nat} (h : n ≤ 256) (z : Int) : asU n z = z % 2 ^ n := by
  rw [asU, if_neg (by omega), Int.toNat_natCast]
theorem pow_cast (n : Nat) : (2 : Int) ^ n = ((2 ^ n : Nat) : Int) := by simp
theorem asU_pos {z : Int} {n : Nat} (h : ¬ z < 0) : ((z.natAbs % 2 ^ n : Nat) : Int) = z % 2 ^ n := by
  rw [pow_cast]
  conv => rhs; rw [show z = (z.natAbs : Int) by omega]
  rw [Int.natCast_emod]
theorem asU_neg {z : Int} {n : Nat} (h : z < 0) (h0 : z.natAbs % 2 ^ n ≠ 0) : ((2 ^ n - z.natAbs % 2 ^ n : Nat) : Int) = z % 2 ^ n := by
  rw [pow_cast]
  have hz : z = -(z.natAbs : Int) := by omega
  have hp : 0 < 2 ^ n := Nat.two_pow_pos n
  generalize hP : 2 ^ n = P at *
  generalize hm : z.natAbs = m at *
  subst hz
  have h1 := Nat.div_add_mod m P
  have h2 := Nat.mod_lt m hp
  have h3 : (-(m : Int)) = ((P - m % P : Nat) : Int) + (P : Int) * (-((m / P : Nat) : Int) - 1) := by
    have h4 : (m : Int) = (P : Int) * ((m / P : Nat) : Int) + ((m % P : Nat) : Int) := by exact_mod_cast h1.symm
    rw [h4, Int.mul_sub, Int.mul_neg]
    omega
  rw [h3, Int.add_mul_emod_self_left, Int.emod_eq_of_lt (by omega) (by omega)]
theorem asU_negz {z : Int} {n : Nat} (h0 : z.natAbs % 2 ^ n = 0) : (0 : Int) = z % 2 ^ n := by
  rw [pow_cast]
  have h1 : ((2 ^ n : Nat) : Int) ∣ z := by
    rw [Int.ofNat_dvd_left]
    exact Nat.dvd_of_mod_eq_zero h0
  exact (Int.emod_eq_zero_of_dvd h1).symm
theorem asU_bd (n z : Int) : 0 ≤ asU n z ∧ (asU n z).natAbs < 2 ^ 256 := by
  unfold asU
  split
  · exact ⟨Int.le_refl _, by decide⟩
  · have h1 : n.toNat ≤ 256 := by omega
    have h2 : 2 ^ n.toNat ≤ 2 ^ 256 := Nat.pow_le_pow_right (by omega) h1
    rw [pow_cast]
    have h3 : 0 < 2 ^ n.toNat := Nat.two_pow_pos _
    generalize 2 ^ n.toNat = P at *
    have h4 := Int.emod_nonneg z (show (P : Int) ≠ 0 by omega)
    have h5 := Int.emod_lt_of_pos z (show (0 : Int) < P by omega)
    omega
set_option maxHeartbeats 3200000 in
theorem asUint_any (n : Int) (x : Value) (z : Int) (w : World) (hx : BigAt w x z) : Calls Try.prog 21 #[.int .i64 n, x] w (IsZE (asU n z) (rangeE n) w) := by
  obtain ⟨bx, Ax, nx, cx, rfl⟩ := hx.form
  obtain ⟨w1, hw1, hn1, hb1, hb2, -⟩ := two_boxes w 24 (.bool bx) (.slice Ax nx cx) (.bool false) (.slice none 0 0)
  have hz := hx.new_ hn1
  have hlz := hx.len
  by_cases hr : n < 0 ∨ 256 < n
  · have hE : rangeE n = 1 := by rw [rangeE, if_pos hr]
    have hU : asU n z = 0 := by rw [asU, if_pos hr]
    have H := hide (And.intro hE (And.intro hU (And.intro hw1 hn1)))
    clear hE hU hw1 hn1 hb1 hb2 hz hlz hx
    rcases hr with hr | hr
    · go_enter Try.func21, Try.ntmps21
      go_wp2
      rw [← H.out.2.2.1]
      refine bodyPost_ret (v := .tuple #[.agg #[.bool false, .slice none 0 0], .int .i64 1]) (by rw [H.out.2.2.1]; simp [results, Try.results21, go_sem]) rfl ⟨false, none, 0, 0, by rw [H.out.1], ?_, H.out.2.2.2⟩
      rw [H.out.2.1]
      exact CanAt.zero _
    · go_enter Try.func21, Try.ntmps21
      go_wp2
      rw [← H.out.2.2.1]
      refine bodyPost_ret (v := .tuple #[.agg #[.bool false, .slice none 0 0], .int .i64 1]) (by rw [H.out.2.2.1]; simp [results, Try.results21, go_sem]) rfl ⟨false, none, 0, 0, by rw [H.out.1], ?_, H.out.2.2.2⟩
      rw [H.out.2.1]
      exact CanAt.zero _
  · obtain ⟨k, rfl⟩ := Int.eq_ofNat_of_zero_le (show 0 ≤ n by omega)
    have hk : k ≤ 256 := by omega
    have hE : rangeE k = 0 := by rw [rangeE, if_neg hr]
    have hU := asU_nat hk z
    have H := hide (And.intro hE (And.intro hU (And.intro hw1 hn1)))
    clear hE hU hw1 hr hx
    go_enter Try.func21, Try.ntmps21
    go_wp2_with fail
    rw [← H.out.2.2.1]
    refine (mag_any _ z _ hz).mono ?_
    rintro e w2 ⟨A1, n1, c1, rfl, hl1, ho1, hm1⟩
    have hs1 : n1 ≤ 8 := by omega
    have hz2 := hz.new_ hm1
    have hbA := hb1.new_ hm1
    have hbB := hb2.new_ hm1
    have hn2 := hn1.transNew hm1
    have Ho1 := hide (And.intro ho1 hl1)
    clear hz hb1 hb2 hn1 hm1 ho1 hl1 hlz
    go_wp2_with fail
    refine (low_any A1 n1 c1 k _ _ Ho1.out.1.row (limbs_canon _) hs1 hk).mono ?_
    rintro e w3 ⟨A3, n3, c3, m3, rfl, ho3, hl3, hv3, hn3', hm3⟩
    rw [val_canon] at hv3
    have hz3 := hz2.new_ hm3
    have hbA3 := hbA.new_ hm3
    have hbB3 := hbB.new_ hm3
    have hn3 := hn2.transNew hm3
    have Ho3 := hide (And.intro ho3 (And.intro hl3 (And.intro hv3 hn3')))
    clear hz2 hbA hbB hn2 hm3 ho3 hl3 hv3 hn3'
    go_wp2_with fail
    refine (trim_any A3 n3 c3 m3 _ Ho3.out.1.row Ho3.out.2.1).mono ?_
    rintro e w3' ⟨rfl, rfl⟩
    rw [Ho3.out.2.2.1]
    obtain ⟨V, hV⟩ : ∃ V, V = z.natAbs % 2 ^ k := ⟨_, rfl⟩
    rw [← hV]
    obtain ⟨j, hj⟩ : ∃ j, j = (canon V).length := ⟨_, rfl⟩
    rw [← hj]
    have hrow : RowAt w3 1 (.slice A3 j c3) j (encW (canon V)) := by
      have := (Ho3.out.1.trim Ho3.out.2.1).row
      rw [Ho3.out.2.2.1, ← hV, ← hj] at this
      exact this
    have hVk : V < 2 ^ k := by rw [hV]; exact Nat.mod_lt _ (Nat.two_pow_pos _)
    have hj8 : j ≤ 8 := by
      rw [hj, canon_len8]
      exact Nat.lt_of_lt_of_le hVk (Nat.pow_le_pow_right (by omega) hk)
    have HV := hide (And.intro hV (And.intro hj (And.intro hVk hrow)))
    clear hV hj hrow Ho3 hVk
    have x0 : w3.cell? ⟨w.heap.size, 0, none⟩ = some (.bool bx) := hbA3.cell 0
    have x1 : w3.cell? ⟨w.heap.size, 1, none⟩ = some (.slice Ax nx cx) := hbA3.cell 1
    go_wp2_with fail
    refine (neg_any _ z _ hz3).mono ?_
    rintro e w4 ⟨d, rfl, hd, hm4⟩
    have hbB4 := hbB3.new_ hm4
    have hn4 := hn3.transNew hm4
    have hrow4 := HV.out.2.2.2.new_ hm4
    have Hd := hide hd
    have Hrow4 := hide hrow4
    clear x0 x1 hd hbA3 hbB3 hn3 hm4 hz3 hrow4
    cases d
    · go_wp2_with fail
      refine (made_any A3 j c3 _ false _ Hrow4.out (limbs_canon _)).mono ?_
      rw [val_canon]
      rintro e w5 ⟨f, A5, n5, c5, rfl, hcan, hm5⟩
      have hb5 := hbB4.new_ hm5
      have f0 := hb5.frozen 0
      have f1 := hb5.frozen 1
      have r0 : w5.cell? ⟨w.heap.size + 1, 0, none⟩ = some (.bool false) := hb5.cell 0
      have r1 : w5.cell? ⟨w.heap.size + 1, 1, none⟩ = some (.slice none 0 0) := hb5.cell 1
      obtain ⟨w6, hw6, hcan6, hn6, g0, g1, _⟩ := hcan.store hb5 (hn4.transNew hm5) (by omega)
      have hfin : sgn false V = asU k z := by
        rw [H.out.2.1, HV.out.1]
        exact asU_pos (by simpa using Hd.out.symm)
      rw [hfin] at hcan6
      have H6 := hide (And.intro hcan6 (And.intro hn6 hw6))
      clear hb5 hcan hm5 hcan6 hn6 hw6 hfin hbB4 hn4
      go_wp2
      rw [← H6.out.2.2]
      refine bodyPost_ret (v := .tuple #[.agg #[.bool f, .slice A5 n5 c5], .int .i64 0]) (by simp [results, Try.results21, go_sem, g0, g1]) rfl ⟨f, A5, n5, c5, by rw [H.out.1], H6.out.1, H6.out.2.1⟩
    · by_cases hj0 : j = 0
      · subst hj0
        go_wp2_with fail
        refine (made_any A3 0 c3 _ false _ Hrow4.out (limbs_canon _)).mono ?_
        rw [val_canon]
        rintro e w5 ⟨f, A5, n5, c5, rfl, hcan, hm5⟩
        have hb5 := hbB4.new_ hm5
        have f0 := hb5.frozen 0
        have f1 := hb5.frozen 1
        have r0 : w5.cell? ⟨w.heap.size + 1, 0, none⟩ = some (.bool false) := hb5.cell 0
        have r1 : w5.cell? ⟨w.heap.size + 1, 1, none⟩ = some (.slice none 0 0) := hb5.cell 1
        obtain ⟨w6, hw6, hcan6, hn6, g0, g1, _⟩ := hcan.store hb5 (hn4.transNew hm5) (by omega)
        have hfin : sgn false V = asU k z := by
          have hV0 : V = 0 := canon_nil.1 (List.eq_nil_of_length_eq_zero HV.out.2.1.symm)
          rw [H.out.2.1, hV0]
          exact asU_negz (by rw [← HV.out.1]; exact hV0)
        rw [hfin] at hcan6
        have H6 := hide (And.intro hcan6 (And.intro hn6 hw6))
        clear hb5 hcan hm5 hcan6 hn6 hw6 hfin hbB4 hn4
        go_wp2
        rw [← H6.out.2.2]
        refine bodyPost_ret (v := .tuple #[.agg #[.bool f, .slice A5 n5 c5], .int .i64 0]) (by simp [results, Try.results21, go_sem, g0, g1]) rfl ⟨f, A5, n5, c5, by rw [H.out.1], H6.out.1, H6.out.2.1⟩
      · go_wp2_with fail
        refine (power_any k _ hk).mono ?_
        rintro e w5 ⟨A5, n5, c5, m5, rfl, ho5, hl5, hv5, hn5', hm5⟩
        have hrow5 := Hrow4.out.new_ hm5
        have hbB5 := hbB4.new_ hm5
        have hn5 := hn4.transNew hm5
        have hjn : j ≤ n5 := by
          rw [HV.out.2.1, hn5']
          refine canon_len_le (Nat.lt_of_lt_of_le HV.out.2.2.1 ?_)
          rw [pow32]
          exact Nat.pow_le_pow_right (by omega) (by omega)
        have hn5b : n5 ≤ 9 := by omega
        have hle : val (canon V) ≤ val m5 := by rw [val_canon, hv5]; exact Nat.le_of_lt HV.out.2.2.1
        have Ho5 := hide (And.intro ho5 (And.intro hl5 (And.intro hv5 (And.intro hrow5 hle))))
        clear ho5 hl5 hv5 hn5' hrow5 hle hm5 hbB4 hn4
        go_wp2_with fail
        refine (less_any A5 A3 n5 j c5 c3 m5 _ _ Ho5.out.1.row Ho5.out.2.2.2.1 Ho5.out.2.1 (limbs_canon _) (by omega) hjn Ho5.out.2.2.2.2).mono ?_
        rintro e w6 ⟨A6, n6, c6, m6, rfl, ho6, hl6, hv6, hn6', hm6⟩
        have hbB6 := hbB5.new_ hm6
        have hn6 := hn5.transNew hm6
        have Ho6 := hide (And.intro ho6 (And.intro hl6 hv6))
        clear ho6 hl6 hv6 hn6' hm6 hbB5 hn5
        go_wp2_with fail
        refine (made_any A6 n6 c6 m6 false _ Ho6.out.1.row Ho6.out.2.1).mono ?_
        rintro e w7 ⟨f, A7, n7, c7, rfl, hcan, hm7⟩
        have hb5 := hbB6.new_ hm7
        have f0 := hb5.frozen 0
        have f1 := hb5.frozen 1
        have r0 : w7.cell? ⟨w.heap.size + 1, 0, none⟩ = some (.bool false) := hb5.cell 0
        have r1 : w7.cell? ⟨w.heap.size + 1, 1, none⟩ = some (.slice none 0 0) := hb5.cell 1
        obtain ⟨w8, hw8, hcan8, hn8, g0, g1, _⟩ := hcan.store hb5 (hn6.transNew hm7) (by omega)
        have hfin : sgn false (val m6) = asU k z := by
          have hV0 : V ≠ 0 := fun h => hj0 (by rw [HV.out.2.1, h, canon_zero]; rfl)
          rw [H.out.2.1, Ho6.out.2.2, Ho5.out.2.2.1, val_canon, HV.out.1]
          exact asU_neg (by simpa using Hd.out.symm) (by rw [← HV.out.1]; exact hV0)
        rw [hfin] at hcan8
        have H6 := hide (And.intro hcan8 (And.intro hn8 hw8))
        clear hb5 hcan hm7 hcan8 hn8 hw8 hfin hbB6 hn6
        go_wp2
        rw [← H6.out.2.2]
        refine bodyPost_ret (v := .tuple #[.agg #[.bool f, .slice A7 n7 c7], .int .i64 0]) (by simp [results, Try.results21, go_sem, g0, g1]) rfl ⟨f, A7, n7, c7, by rw [H.out.1], H6.out.1, H6.out.2.1⟩
end Go.Proofs.Ytfhflpchfgkgcaa
