/- Word. -/
import Derived.Test.YtfhflpchfgkgcaaBigP
import Derived.Laws.Bits64b
namespace Go.Proofs.Ytfhflpchfgkgcaa
open Go.RowKit
/-- A number's word. -/
def wordN (z : Int) : Nat := (asU 64 z).toNat
theorem wordN_lt (z : Int) : wordN z < 18446744073709551616 := by
  have h := asU_lt 64 (by omega) z
  have h0 := (asU_bd 64 z).1
  unfold wordN
  have e : (2 : Int) ^ 64 = 18446744073709551616 := by decide
  have h' : asU 64 z < 2 ^ 64 := h
  omega
theorem or_limb {v x k : Nat} (hv : v < 2 ^ (32 * k)) : v ||| x * 2 ^ (32 * k) = v + 4294967296 ^ k * x := by
  have h := Nat.two_pow_add_eq_or_of_lt hv x
  rw [Nat.or_comm, Nat.mul_comm x, ← h, pow32]
  omega
def IsWord (u : Nat) (w : World) (e : Ending) (w' : World) : Prop := e = .returned (.int .u64 (u : Int)) ∧ New w w'
set_option maxHeartbeats 1600000 in
theorem word_any (x : Value) (z : Int) (w : World) (hx : BigAt w x z) : Calls Try.prog 25 #[x] w (IsWord (wordN z) w) := by
  obtain ⟨bx, Ax, nx, cx, rfl⟩ := hx.form
  have hn1 : New w (w.alloc (.cells #[.bool bx, .slice Ax nx cx] 24)) := (Upd.refl _ _).alloc _
  have hz := hx.new_ hn1
  clear hx
  have Hn := hide hn1
  clear hn1
  go_enter Try.func25, Try.ntmps25
  go_wp2_with fail
  refine (asUint_any 64 _ z _ hz).mono ?_
  rintro e w2 ⟨f, A, j, c, rfl, hcan, hm2⟩
  obtain ⟨-, hjl, hrow⟩ := hcan.parts
  have hn2 := Hn.out.transNew hm2
  have hW : (asU 64 z).natAbs = wordN z := by have := (asU_bd 64 z).1; unfold wordN; omega
  rw [hW] at hjl hrow
  obtain ⟨V, hV⟩ : ∃ V, V = wordN z := ⟨_, rfl⟩
  rw [← hV] at hjl hrow ⊢
  have hVb := wordN_lt z
  rw [← hV] at hVb
  have hj2 : j ≤ 2 := by
    rw [hjl]
    exact canon_len_le (by have e : 4294967296 ^ 2 = 18446744073709551616 := by decide
                           omega)
  obtain ⟨er, her⟩ : ∃ er, er = rangeE 64 := ⟨_, rfl⟩
  rw [← her]
  have hn3 : New w (w2.alloc (.cells #[.bool f, .slice A j c] 24)) := hn2.alloc _
  have hrow3 := hrow.new_ ((Upd.refl (fun _ => False) w2).alloc (.cells #[.bool f, .slice A j c] 24))
  have H := hide (And.intro hjl (And.intro hrow3 hn3))
  have HV := hide hV
  clear hz hcan hm2 hjl hrow hn2 hW hV her hn3 hrow3
  go_wp2
  obtain ⟨w3, hw3⟩ : ∃ w3, w3 = w2.alloc (.cells #[.bool f, .slice A j c] 24) := ⟨_, rfl⟩
  rw [← hw3]
  have Hr := H.out
  rw [← hw3] at Hr
  have H3 := hide Hr
  clear hw3 Hr
  go_loop [5, 16] (fun v i => ∃ k : Nat, k ≤ j ∧ i = .int .i64 k ∧ v = .int .u64 ((val ((canon V).take k) : Nat) : Int)) (fun _ i => j - (intOf i).toNat)
  case atStart => exact ⟨0, by omega, rfl, rfl⟩
  case round =>
    obtain ⟨k, hk, rfl, rfl⟩ := hrel
    have hvt := val_take_lt (limbs_canon V) k
    rw [pow32] at hvt
    obtain ⟨v, hv⟩ : ∃ v, v = val ((canon V).take k) := ⟨_, rfl⟩
    rw [← hv] at hvt ⊢
    have hvb : v < 18446744073709551616 := by
      have h2 : 2 ^ (32 * k) ≤ 2 ^ 64 := Nat.pow_le_pow_right (by omega) (by omega)
      have e : 2 ^ 64 = 18446744073709551616 := by decide
      omega
    have Hv := hide (And.intro hv hvt)
    clear hv hvt
    by_cases hlt : k < j
    · obtain ⟨b1, o1, rfl, hb1c, hb1m, hb1l, hcl1⟩ := rowW H3.out.2.1 hlt
      obtain ⟨x, hx⟩ : ∃ x, x = (canon V).getD k 0 := ⟨_, rfl⟩
      rw [← hx] at hcl1
      have hxb : x < 4294967296 := by rw [hx]; exact (limbs_canon V).at _
      have Hx := hide hx
      clear hx hb1m
      go_wp2
      go_round
      case rel =>
        refine ⟨k + 1, by omega, by go_num, ?_⟩
        have hp : x * 2 ^ (32 * k) < 18446744073709551616 := by
          have h2 : 2 ^ (32 * k) ≤ 2 ^ 32 := Nat.pow_le_pow_right (by omega) (by omega)
          have h3 : x * 2 ^ (32 * k) ≤ 4294967295 * 2 ^ 32 := Nat.mul_le_mul (by omega) h2
          have e : 4294967295 * 2 ^ 32 < 18446744073709551616 := by decide
          omega
        have hc : (x : Int) * 2 ^ (32 * k) = ((x * 2 ^ (32 * k) : Nat) : Int) := by simp
        have hw : IntKind.u64.wrap ((x : Int) * 2 ^ (32 * k)) = ((x * 2 ^ (32 * k) : Nat) : Int) := by
          rw [hc, IntKind.wrap_u64]
          generalize x * 2 ^ (32 * k) = p at hp
          omega
        rw [hw, bits_or_u64_nat _ _ hvb hp, or_limb Hv.out.2, val_take, ← Hv.out.1, ← Hx.out]
      case measure => simp [intOf] <;> omega
    · obtain rfl : k = j := by omega
      clear hlt
      go_wp2
      go_ret
      refine ⟨?_, H3.out.2.2⟩
      show Ending.returned (.int .u64 (v : Int)) = _
      rw [Hv.out.1, List.take_of_length_le (by rw [← H3.out.1]; exact Nat.le_refl _), val_canon, HV.out]
end Go.Proofs.Ytfhflpchfgkgcaa
