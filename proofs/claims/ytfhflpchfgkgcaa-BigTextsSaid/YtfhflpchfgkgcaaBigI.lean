/- divide. -/
import Derived.Test.YtfhflpchfgkgcaaBigH
import Derived.Test.YtfhflpchfgkgcaaBigDiv
import Derived.ChangeAlike
namespace Go.Proofs.Ytfhflpchfgkgcaa
open Go.RowKit
/-- What stands at the head of a round: T bits are to come. -/
structure DivAt (w wr : World) (g n : Nat) (V B T : Nat) (rv : Value) (qs : List Nat) : Prop where
  rest : ∃ A c, rv = .slice A (canon (V / 2 ^ T % B)).length c ∧ Own wr (g + 1) 50 1 rv (canon (V / 2 ^ T % B)).length (encW (canon (V / 2 ^ T % B)))
  quot : Own wr g 50 1 (.slice (some ⟨g, 0, none⟩) n n) n (encW qs)
  limbs : Limbs qs
  len : qs.length = n
  val : val qs = 2 ^ T * (V / 2 ^ T / B)
  new : New w wr
def IsDiv (a b : Nat) (n : Nat) (w : World) (e : Ending) (w' : World) : Prop :=
  ∃ A c A2 n2 c2 m, e = .returned (.tuple #[.slice A n c, .slice A2 n2 c2]) ∧ Own w' w.heap.size 50 1 (.slice A n c) n (encW m) ∧ Limbs m ∧ val m = a / b ∧
    n2 = (canon (a % b)).length ∧ Own w' w.heap.size 50 1 (.slice A2 n2 c2) n2 (encW (canon (a % b))) ∧ New w w'
set_option maxHeartbeats 6400000 in
theorem divide_any (A1 A2 : Option Addr) (n1 n2 c1 c2 : Nat) (a : List Nat) (B : Nat) (w : World) (h1 : RowAt w 1 (.slice A1 n1 c1) n1 (encW a)) (h2 : RowAt w 1 (.slice A2 n2 c2) n2 (encW (canon B))) (ha : Limbs a) (hB : 0 < B) (hs1 : n1 ≤ 1000) (hs2 : n2 ≤ 1000) (hn2 : n2 = (canon B).length) :
    Calls Try.prog 74 #[.slice A1 n1 c1, .slice A2 n2 c2] w (IsDiv (val a) B n1 w) := by
  have hl1 : a.length = n1 := by simpa [encW] using h1.1
  have hmk0 := fun W => run_make_row' (P := Try.prog) 22 50 (.int .u32 0) 4 Try.underlying22 infoW rfl .i64 .i64 n1 (by omega) (by omega) W
  have ho := made_own w 50 n1 (by unfold maxLen; omega) (.int .u32 0)
  rw [encW_rep] at ho
  go_enter Try.func74, Try.ntmps74
  go_upto_region 2 with (fail)
  obtain ⟨w1, hw1⟩ : ∃ w1, w1 = w.alloc (.cells (madeCells #[.int .u32 0] n1) 50) := ⟨_, rfl⟩
  have hn1 : New w w1 := by rw [hw1]; exact (Upd.refl _ _).alloc _
  have hsz : w1.heap.size = w.heap.size + 1 := by rw [hw1]; simp
  rw [← hw1] at ho ⊢
  have hV := val_lt ha
  rw [hl1, pow32] at hV
  have hd1 : DivAt w w1 w.heap.size n1 (val a) B (32 * n1) (.slice none 0 0) (List.replicate n1 0) := by
    have h0 : val a / 2 ^ (32 * n1) = 0 := Nat.div_eq_of_lt hV
    refine ⟨⟨none, 0, ?_, ?_⟩, ho, Limbs.rep _, by simp, by rw [h0, val_rep]; simp, hn1⟩
    · rw [h0, Nat.zero_mod, canon_zero]; rfl
    · rw [h0, Nat.zero_mod, canon_zero]; exact Own.nil_ _ _ _ _
  have Hx := hide (And.intro hl1 (And.intro ha (And.intro h1 (And.intro h2 (And.intro hn2 (And.intro hn1 hB))))))
  obtain ⟨g, hg⟩ : ∃ g, g = w.heap.size := ⟨_, rfl⟩
  rw [← hg] at hd1 ⊢
  have Hg := hide (And.intro hg hsz)
  clear hl1 ha h1 h2 hw1 hmk0 ho hn2 hV hn1 hg hsz hB
  go_wp2
  go_loopw [7, 8] (fun r i wr => ∃ (j : Nat) (qs : List Nat), j ≤ n1 ∧ i = .int .i64 ((j : Int) - 1) ∧ DivAt w wr g n1 (val a) B (32 * j) r qs) (fun _ i _ => (intOf i + 1).toNat)
  case atStart => exact ⟨n1, _, Nat.le_refl _, rfl, hd1⟩
  case round =>
    obtain ⟨j, qs, hj, rfl, hd⟩ := hrel
    clear hd1
    rcases Nat.eq_zero_or_pos j with rfl | hj0
    · obtain ⟨A, c, rfl, hor⟩ := hd.rest
      have hgw : w.heap.size ≤ g := Nat.le_of_eq Hg.out.1.symm
      have Hd := hide (And.intro hor hd)
      obtain ⟨nr, hnr⟩ : ∃ nr, nr = (canon (val a / 2 ^ (32 * 0) % B)).length := ⟨_, rfl⟩
      rw [← hnr]
      have Hnr := hide hnr
      clear hor hd hnr
      go_wp2
      go_ret2
      obtain ⟨hor, hd⟩ := Hd.out
      have hnr := Hnr.out
      have hv := hd.val
      rw [Nat.mul_zero, Nat.pow_zero, Nat.div_one, Nat.one_mul] at hv
      rw [← hnr] at hor
      rw [Nat.mul_zero, Nat.pow_zero, Nat.div_one] at hor hnr
      exact ⟨_, _, A, nr, c, qs, rfl, hd.quot.more hgw, hd.limbs, hv, hnr, hor.more (by omega), hd.new⟩
    · obtain ⟨p, rfl⟩ : ∃ p, j = p + 1 := ⟨j - 1, by omega⟩
      rw [show (((p + 1 : Nat) : Int) - 1) = (p : Int) by omega]
      have hd' : DivAt w wr g n1 (val a) B (32 * p + 32) u7 qs := hd
      clear hd hj0
      go_wp2
      go_loopw [7, 9] (fun r k wr => ∃ (t : Nat) (qs : List Nat), t ≤ 32 ∧ k = .int .i64 ((t : Int) - 1) ∧ DivAt w wr g n1 (val a) B (32 * p + t) r qs) (fun _ k _ => (intOf k + 1).toNat)
      case atStart => exact ⟨32, _, Nat.le_refl _, rfl, hd'⟩
      case round =>
        clear hd'
        obtain ⟨t, qs, ht, rfl, hd⟩ := hrel
        rcases Nat.eq_zero_or_pos t with rfl | ht0
        · go_wp2
          go_roundw
          case rel => exact ⟨p, qs, by omega, rfl, hd⟩
          case measure => simp [intOf] <;> omega
        · obtain ⟨s, rfl⟩ : ∃ s, t = s + 1 := ⟨t - 1, by omega⟩
          rw [show (((s + 1 : Nat) : Int) - 1) = (s : Int) by omega]
          have hd' : DivAt w wr g n1 (val a) B (32 * p + s + 1) u7 qs := hd
          clear hd ht0
          obtain ⟨b1, o1, rfl, hb1c, hb1m, hb1l, hcl1⟩ := rowW (Hx.out.2.2.1.new_ hd'.new) (show p < n1 by omega)
          obtain ⟨x, hx⟩ : ∃ x, x = a.getD p 0 := ⟨_, rfl⟩
          rw [← hx] at hcl1
          have hxb : x < 4294967296 := by rw [hx]; exact Hx.out.2.1.at _
          obtain ⟨c, hc⟩ : ∃ c, c = x / 2 ^ s % 2 := ⟨_, rfl⟩
          have hc1 : c ≤ 1 := by omega
          have hbit : bits .and .u32 ((x : Int) / 2 ^ s) 1 = (c : Int) := by
            have h1 : (x : Int) / 2 ^ s = ((x / 2 ^ s : Nat) : Int) := by simp
            have h2 : x / 2 ^ s ≤ x := Nat.div_le_self _ _
            have h3 := u32_and_nat (x / 2 ^ s) 1 (by omega) (by omega)
            rw [h1, hc]
            exact h3.trans (by rw [Nat.and_one_is_mod])
          have hcv : c = val a / 2 ^ (32 * p + s) % 2 := by rw [bit_of Hx.out.2.1 (by omega), ← hx, hc]
          have hdt := div_two (val a) (32 * p + s)
          rw [← hcv] at hdt
          obtain ⟨Ar, cr, rfl, hor⟩ := hd'.rest
          obtain ⟨nr, hnr⟩ : ∃ nr, nr = (canon (val a / 2 ^ (32 * p + s + 1) % B)).length := ⟨_, rfl⟩
          have hnrb : nr ≤ n2 := by
            rw [hnr, Hx.out.2.2.2.2.1]
            refine canon_len_le (Nat.lt_of_lt_of_le (Nat.mod_lt _ Hx.out.2.2.2.2.2.2) ?_)
            have h := val_lt (limbs_canon B)
            rw [val_canon] at h
            omega
          rw [← hnr] at hor ⊢
          obtain ⟨H, hH⟩ : ∃ H, H = val a / 2 ^ (32 * p + s + 1) := ⟨_, rfl⟩
          rw [← hH] at hdt hor
          have Hxx := hide (And.intro hd' (And.intro hbit (And.intro hdt (And.intro hor (And.intro hnr hH)))))
          clear hx hd' hb1m hbit hdt hor hnr hc hcv hH
          go_wp2_with fail
          rw [Hxx.out.2.1]
          refine (double_any Ar nr cr c (canon (H % B)) _ Hxx.out.2.2.2.1.row (limbs_canon _) (by omega) hc1).mono ?_
          rintro e w3 ⟨A3, n3, c3, rfl, hl3, ho3, hm3⟩
          rw [val_canon] at hl3 ho3
          have hrow2 := (Hx.out.2.2.2.1.new_ Hxx.out.1.new).new_ hm3
          have hdb := Hxx.out.2.2.1
          by_cases hge : B ≤ 2 * (H % B) + c
          · obtain ⟨hq1, hq2⟩ := div_yes Hx.out.2.2.2.2.2.2 hc1 hge
            rw [← hdb] at hq1 hq2
            have H3 := hide (And.intro hl3 (And.intro ho3 (And.intro hm3 (And.intro hrow2 (And.intro hq1 (And.intro hq2 hge))))))
            have hn3 : n2 ≤ n3 := by
              rw [hl3, Hx.out.2.2.2.2.1]
              refine canon_len_le (Nat.lt_of_le_of_lt hge ?_)
              have h := val_lt (limbs_canon (2 * (H % B) + c))
              rwa [val_canon] at h
            have hn3' : n3 ≤ n2 + 1 := by
              rw [hl3]
              refine canon_len_le ?_
              have h := val_lt (limbs_canon B)
              rw [val_canon, ← Hx.out.2.2.2.2.1] at h
              have h4 := Nat.mod_lt H Hx.out.2.2.2.2.2.2
              rw [Nat.pow_succ]
              omega
            clear hl3 ho3 hm3 hrow2 hq1 hq2 hge hdb
            go_wp2_with fail
            refine (cmp_any A3 A2 n3 n2 c3 c2 _ _ _ H3.out.2.1.row H3.out.2.2.2.1 (limbs_canon _) (limbs_canon _) (trim_canon _) (trim_canon _)).mono ?_
            rintro e w4 ⟨rfl, hm4⟩
            rw [val_canon, val_canon]
            obtain ⟨r, hr⟩ : ∃ r, r = cmpI (2 * (H % B) + c) B := ⟨_, rfl⟩
            have hr0 : 0 ≤ r := by
              rw [hr, cmpI, if_neg (by have := H3.out.2.2.2.2.2.2; omega)]
              split <;> omega
            rw [← hr]
            have hm4' : New w3 w4 := (Upd.refl _ _).drewN' hm4
            have Hr := hide (And.intro hr hm4')
            clear hr hm4 hm4'
            go_wp2_with fail
            refine (less_any A3 A2 n3 n2 c3 c2 _ _ _ (H3.out.2.1.new_ Hr.out.2).row (H3.out.2.2.2.1.new_ Hr.out.2) (limbs_canon _) (limbs_canon _) (by omega) hn3 (by rw [val_canon, val_canon]; exact H3.out.2.2.2.2.2.2)).mono ?_
            rintro e w5 ⟨A5, n5, c5, m5, rfl, ho5, hl5, hv5, hn5, hm5⟩
            rw [val_canon, val_canon] at hv5
            have H5 := hide (And.intro ho5 (And.intro hl5 (And.intro hv5 (And.intro hn5 hm5))))
            clear ho5 hl5 hv5 hn5 hm5
            go_wp2_with fail
            refine (trim_any A5 n5 c5 m5 _ H5.out.1.row H5.out.2.1).mono ?_
            rintro e w6 ⟨rfl, rfl⟩
            rw [H5.out.2.2.1, ← H3.out.2.2.2.2.2.1]
            have hnew35 : New wr w5 := (H3.out.2.2.1.transNew Hr.out.2).transNew H5.out.2.2.2.2
            have hq := Hxx.out.1.quot.new_ hnew35
            obtain ⟨g', hg', -, -, -, hglt, hcell, hfz, hset⟩ := hq.place (j := p) (by omega)
            injection hg' with hg'
            injection hg' with hg' _ _
            subst hg'
            rw [encW_get _ _ (by rw [Hxx.out.1.len]; omega)] at hcell
            obtain ⟨y, hy⟩ : ∃ y, y = qs.getD p 0 := ⟨_, rfl⟩
            rw [← hy] at hcell
            have hyb : y < 4294967296 := by rw [hy]; exact Hxx.out.1.limbs.at _
            have hpi : (0 : Int) ≤ (p : Int) ∧ (p : Int) < (n1 : Int) := by omega
            have hsi : (0 : Int) ≤ (s : Int) ∧ (s : Int) < 32 := by omega
            obtain ⟨hpi1, hpi2⟩ := hpi
            obtain ⟨hsi1, hsi2⟩ := hsi
            obtain ⟨nz, hnz⟩ : ∃ nz, nz = (canon (val a / 2 ^ (32 * p + s) % B)).length := ⟨_, rfl⟩
            rw [← hnz]
            have H6 := hide (And.intro hnew35 (And.intro hset (And.intro hy hnz)))
            clear hnew35 hq hset hy hnz
            go_wp2_with fail
            go_region
            have hor : bits .or .u32 (y : Int) ((2 : Int) ^ s % 4294967296) = ((y ||| 2 ^ s : Nat) : Int) := by
              have h1 : 2 ^ s < 2 ^ 32 := Nat.pow_lt_pow_right (by omega) (by omega)
              have h2 : (2 : Int) ^ s = ((2 ^ s : Nat) : Int) := by simp
              have h3 : (2 : Int) ^ s % 4294967296 = ((2 ^ s : Nat) : Int) := by
                rw [h2]
                generalize 2 ^ s = p at h1
                omega
              rw [h3]
              exact u32_or_nat _ _ hyb h1
            rw [hor]
            obtain ⟨hnew35, hset, hy, hnz⟩ := H6.out
            have hd0 := Hxx.out.1
            have hval := hd0.val
            rw [← Hxx.out.2.2.2.2.2] at hval
            obtain ⟨sb1, sb2, sb3⟩ := set_bit hd0.limbs (by rw [hd0.len]; omega : p < qs.length) (by omega) hval
            rw [← hy] at sb1 sb2 sb3
            have hg0 : w.heap.size ≤ g := Nat.le_of_eq Hg.out.1.symm
            have hd6 : DivAt w ((w5.setCell ⟨g, p, none⟩ (.int .u32 ((y ||| 2 ^ s : Nat) : Int))).drew) g n1 (val a) B (32 * p + s) (.slice A5 nz c5) (qs.set p (y ||| 2 ^ s)) := by
              have ht := H5.out.1.trim H5.out.2.1
              rw [H5.out.2.2.1, ← H3.out.2.2.2.2.2.1, ← hnz] at ht
              have hgw : g < wr.heap.size := by
                have h1 := Hg.out
                have h2 := hd0.quot.lt
                rcases Nat.eq_zero_or_pos n1 with h0 | h0
                · omega
                · obtain ⟨g', hg', -, -, -, hglt', -⟩ := hd0.quot.place (j := p) (by omega)
                  injection hg' with hg'
                  injection hg' with hg' _ _
                  omega
              have hwr4 : wr.heap.size ≤ w4.heap.size := Nat.le_trans H3.out.2.2.1.size Hr.out.2.size
              refine ⟨⟨A5, c5, ?_, ?_⟩, ?_, sb1, by simp [hd0.len], ?_, ?_⟩
              · rw [← hnz]
              · rw [← hnz]
                exact ((ht.more (base' := g + 1) (by omega)).upd (Upd.cellAt w5 ⟨g, p, none⟩ _) (fun q hq hqe => by
                  have h1 := (ht.lt q hq).1
                  have h2 : q = g := hqe
                  omega)).upd (Upd.refl (fun _ => False) _).drew (fun _ _ hf => hf)
              · rw [encW_set]
                exact (hset _).upd (Upd.refl (fun _ => False) _).drew (fun _ _ hf => hf)
              · rw [sb2, H3.out.2.2.2.2.1]
              · exact (New.setAt (hd0.new.transNew hnew35) hg0 p _).drew
            have Hd6 := hide hd6
            clear hor hnew35 hset hy hnz hd0 hval sb1 sb2 sb3 hd6 hg0 hcell hfz
            go_wp2
            go_roundw
            case rel => exact ⟨s, _, by omega, rfl, Hd6.out⟩
            case measure => simp [intOf] <;> omega
          · obtain ⟨hq1, hq2⟩ := div_no (by omega : 2 * (H % B) + c < B)
            rw [← hdb] at hq1 hq2
            have H3 := hide (And.intro hl3 (And.intro ho3 (And.intro hm3 (And.intro hrow2 (And.intro hq1 (And.intro hq2 hge))))))
            clear hl3 ho3 hm3 hrow2 hq1 hq2 hge hdb
            go_wp2_with fail
            refine (cmp_any A3 A2 n3 n2 c3 c2 _ _ _ H3.out.2.1.row H3.out.2.2.2.1 (limbs_canon _) (limbs_canon _) (trim_canon _) (trim_canon _)).mono ?_
            rintro e w4 ⟨rfl, hm4⟩
            rw [val_canon, val_canon]
            obtain ⟨r, hr⟩ : ∃ r, r = cmpI (2 * (H % B) + c) B := ⟨_, rfl⟩
            have hr0 : r < 0 := by
              have h := H3.out.2.2.2.2.2.2
              rw [hr, cmpI, if_pos (by omega)]
              omega
            rw [← hr]
            have hm4' : New w3 w4 := (Upd.refl _ _).drewN' hm4
            have Hr := hide (And.intro hr hm4')
            clear hr hm4 hm4'
            have hgw : g < wr.heap.size := by
              have h1 := Hg.out
              obtain ⟨g', hg', -, -, -, hglt', -⟩ := Hxx.out.1.quot.place (j := p) (by omega)
              injection hg' with hg'
              injection hg' with hg' _ _
              omega
            have hd6 : DivAt w w4 g n1 (val a) B (32 * p + s) (.slice A3 n3 c3) qs := by
              have hnew : New wr w4 := H3.out.2.2.1.transNew Hr.out.2
              have hd0 := Hxx.out.1
              refine ⟨⟨A3, c3, ?_, ?_⟩, hd0.quot.new_ hnew, hd0.limbs, hd0.len, ?_, hd0.new.transNew hnew⟩
              · rw [H3.out.2.2.2.2.2.1, H3.out.1]
              · rw [H3.out.2.2.2.2.2.1, ← H3.out.1]
                exact (H3.out.2.1.new_ Hr.out.2).more (by omega)
              · rw [hd0.val, H3.out.2.2.2.2.1, ← Hxx.out.2.2.2.2.2, Nat.pow_succ, Nat.mul_assoc]
            have Hd6 := hide hd6
            clear hd6
            go_wp2
            go_roundw
            case rel => exact ⟨s, _, by omega, rfl, Hd6.out⟩
            case measure => simp [intOf] <;> omega
end Go.Proofs.Ytfhflpchfgkgcaa
