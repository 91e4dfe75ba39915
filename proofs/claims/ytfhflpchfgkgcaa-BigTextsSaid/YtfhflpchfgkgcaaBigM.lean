/- Mul. -/
import Derived.Test.YtfhflpchfgkgcaaBigL
namespace Go.Proofs.Ytfhflpchfgkgcaa
open Go.RowKit
set_option linter.unusedSimpArgs false
set_option linter.unusedVariables false
theorem limb_zero {l : List Nat} (hl : Limbs l) {p : Nat} (h : val l < 4294967296 ^ p) : l.getD p 0 = 0 := by
  rw [← limb_of hl p, ← pow32, Nat.div_eq_of_lt h]
theorem mul_lt {x y : List Nat} (hx : Limbs x) (hy : Limbs y) (k : Nat) : val (x.take k) * val y < 4294967296 ^ (k + y.length) := by
  rw [Nat.pow_add]
  have h1 := val_take_lt hx k
  have h2 := val_lt hy
  exact Nat.mul_lt_mul'' h1 h2
/-- How the product lies at the head of a round. -/
structure MulAt (W wr : World) (g N V : Nat) (ls : List Nat) : Prop where
  own : Own wr g 50 1 (.slice (some ⟨g, 0, none⟩) N N) N (encW ls)
  limbs : Limbs ls
  len : ls.length = N
  val : val ls = V
  new : New W wr
theorem sgn_mul {a b : Int} {d d' : Bool} (ha : d = decide (a < 0)) (hb : d' = decide (b < 0)) : sgn (d != d') (a.natAbs * b.natAbs) = a * b := by
  subst ha hb
  have key : ∀ m n : Nat, ((m : Int) * (n : Int)) = ((m * n : Nat) : Int) := fun m n => by simp
  rcases Int.natAbs_eq a with h1 | h1 <;> rcases Int.natAbs_eq b with h2 | h2
  · have e1 : ¬ a < 0 := by omega
    have e2 : ¬ b < 0 := by omega
    rw [decide_eq_false e1, decide_eq_false e2]
    conv => rhs; rw [h1, h2, key]
    rfl
  · by_cases e2 : b < 0
    · have e1 : ¬ a < 0 := by omega
      rw [decide_eq_false e1, decide_eq_true e2]
      conv => rhs; rw [h1, h2, Int.mul_neg, key]
      rfl
    · have hb0 : b = 0 := by omega
      subst hb0
      simp [sgn]
  · by_cases e1 : a < 0
    · have e2 : ¬ b < 0 := by omega
      rw [decide_eq_true e1, decide_eq_false e2]
      conv => rhs; rw [h1, h2, Int.neg_mul, key]
      rfl
    · have ha0 : a = 0 := by omega
      subst ha0
      simp [sgn]
  · by_cases e1 : a < 0
    · by_cases e2 : b < 0
      · rw [decide_eq_true e1, decide_eq_true e2]
        conv => rhs; rw [h1, h2, Int.neg_mul, Int.mul_neg, Int.neg_neg, key]
        rfl
      · have hb0 : b = 0 := by omega
        subst hb0
        simp [sgn]
    · have ha0 : a = 0 := by omega
      subst ha0
      simp [sgn]
set_option maxHeartbeats 6400000 in
theorem mul_any (x y : Value) (a b : Int) (w : World) (hx : BigAt w x a) (hy : BigAt w y b) : Calls Try.prog 36 #[x, y] w (IsFits (a * b) w) := by
  obtain ⟨bx, Ax, nx, cx, rfl⟩ := hx.form
  obtain ⟨by_, Ay, ny, cy, rfl⟩ := hy.form
  obtain ⟨w1, hw1, hn1, hb1, hb2, hb3, -⟩ := three_boxes w 24 (.bool bx) (.slice Ax nx cx) (.bool by_) (.slice Ay ny cy) (.bool false) (.slice none 0 0)
  have ha := hx.new_ hn1
  have hb := hy.new_ hn1
  have hla := hx.len
  have hlb := hy.len
  have Hw1 := hide hw1
  clear hx hy hw1
  go_enter Try.func36, Try.ntmps36
  go_wp2_with fail
  rw [← Hw1.out]
  obtain ⟨q1, hq1⟩ : ∃ q, q = w.heap.size := ⟨_, rfl⟩
  obtain ⟨q2, hq2⟩ : ∃ q, q = w.heap.size + 1 := ⟨_, rfl⟩
  obtain ⟨q3, hq3⟩ : ∃ q, q = w.heap.size + 2 := ⟨_, rfl⟩
  rw [← hq3] at hb3 ⊢
  rw [← hq2] at hb2 ⊢
  rw [← hq1] at hb1 ⊢
  have hqq : q1 ≠ q3 ∧ q2 ≠ q3 ∧ w.heap.size ≤ q3 := by omega
  have Hqq := hide hqq
  clear hqq hq1 hq2 hq3
  have hS : ∀ w', New w1 w' → (Blk w' q1 24 [.bool bx, .slice Ax nx cx] ∧ Blk w' q2 24 [.bool by_, .slice Ay ny cy]) := fun w' hn => ⟨hb1.new_ hn, hb2.new_ hn⟩
  refine wp_region_dm (fun w' => Blk w' q1 24 [.bool bx, .slice Ax nx cx] ∧ Blk w' q2 24 [.bool by_, .slice Ay ny cy]) [(0, true), (2, true), (1, false), (3, false), (4, true), (5, true)] (by kernel_rfl) (by kernel_rfl) (fun _ _ d _ _ h => by cases d <;> exact h) (hS _ (Upd.refl _ _).drew) ?_
  refine st_take (a' := ?_) rfl rfl (y_load2 rfl rfl Try.isAgg24 Try.sizeOf24 (fun _ h => h.1)) ?_ ?_
  rotate_left; (simp only [Act.put, List.setIfInBounds_toArray, List.set_cons_zero, List.set_cons_succ]; rfl)
  refine st_take (a' := ?_) rfl rfl (y_load2 rfl rfl Try.isAgg24 Try.sizeOf24 (fun _ h => h.2)) ?_ ?_
  rotate_left; (simp only [Act.put, List.setIfInBounds_toArray, List.set_cons_zero, List.set_cons_succ]; rfl)
  refine st_act rfl rfl fun K hK => a_call (args := #[.agg #[.bool bx, .slice Ax nx cx]]) rfl rfl (fun w => by kernel_rfl) (mag_any _ a _ (ha.new_ (Upd.refl _ _).drew)) ?_
  rintro e w2 ⟨A1, n1, c1, rfl, hl1, ho1, hm1⟩
  have hq1_1 := (show New _ _ from (Upd.refl _ _).drew).transNew hm1
  refine ⟨_, rfl, hK _ _ (hS _ hq1_1) ?_⟩
  simp only [Act.put, List.setIfInBounds_toArray, List.set_cons_zero, List.set_cons_succ]
  refine st_act rfl rfl fun K hK => a_call (args := #[.agg #[.bool by_, .slice Ay ny cy]]) rfl rfl (fun w => by kernel_rfl) (mag_any _ b _ (hb.new_ hq1_1)) ?_
  rintro e w3 ⟨A2, n2, c2, rfl, hl2, ho2, hm2⟩
  have hq1_2 := (show New _ _ from hq1_1).transNew hm2
  refine ⟨_, rfl, hK _ _ (hS _ hq1_2) ?_⟩
  simp only [Act.put, List.setIfInBounds_toArray, List.set_cons_zero, List.set_cons_succ]
  refine st_take (a' := ?_) rfl rfl (y_assign (v := .slice A1 n1 c1) rfl rfl) ?_ ?_
  rotate_left; (simp only [Act.put, List.setIfInBounds_toArray, List.set_cons_zero, List.set_cons_succ]; rfl)
  refine st_take (a' := ?_) rfl rfl (y_assign (v := .slice A2 n2 c2) rfl rfl) ?_ ?_
  rotate_left; (simp only [Act.put, List.setIfInBounds_toArray, List.set_cons_zero, List.set_cons_succ]; rfl)
  refine st_nil ?_
  have hn13 := (show New _ _ from hq1_2)
  clear hS hq1_1 hq1_2
  have ha3 := ha.new_ hn13
  have hb3' := hb.new_ hn13
  have hbA := hb1.new_ hn13
  have hbB := hb2.new_ hn13
  have hbC := hb3.new_ hn13
  have hr1 := (ho1.new_ hm2).row
  have hr2 := ho2.row
  have hn3 := hn1.transNew hn13
  have hs1 : n1 ≤ 8 := by omega
  have hs2 : n2 ≤ 8 := by omega
  have hmk0 := fun W => run_make_row' (P := Try.prog) 22 50 (.int .u32 0) 4 Try.underlying22 infoW rfl .i64 .i64 (n1 + n2) (by omega) (by omega) W
  rw [show (((n1 + n2 : Nat)) : Int) = (n1 : Int) + (n2 : Int) by omega] at hmk0
  have ho := made_own w3 50 (n1 + n2) (by unfold maxLen; omega) (.int .u32 0)
  rw [encW_rep] at ho
  have hlx : (canon a.natAbs).length = n1 := hl1.symm
  have hly : (canon b.natAbs).length = n2 := hl2.symm
  obtain ⟨xs, hxs⟩ : ∃ xs, xs = canon a.natAbs := ⟨_, rfl⟩
  obtain ⟨ys, hys⟩ : ∃ ys, ys = canon b.natAbs := ⟨_, rfl⟩
  have hvx : val xs = a.natAbs := by rw [hxs, val_canon]
  have hvy : val ys = b.natAbs := by rw [hys, val_canon]
  have hLx : Limbs xs := by rw [hxs]; exact limbs_canon _
  have hLy : Limbs ys := by rw [hys]; exact limbs_canon _
  rw [← hxs] at hr1 hlx
  rw [← hys] at hr2 hly
  clear ha hb hb1 hb2 hb3 hn1 hn13 hm1 hm2 ho1 ho2 hl1 hl2 hla hlb hxs hys
  go_upto_region 3 with (fail)
  obtain ⟨w4, hw4⟩ : ∃ w4, w4 = w3.alloc (.cells (madeCells #[.int .u32 0] (n1 + n2)) 50) := ⟨_, rfl⟩
  have hn34 : New w3 w4 := by rw [hw4]; exact (Upd.refl _ _).alloc _
  rw [← hw4] at ho ⊢
  obtain ⟨g, hg⟩ : ∃ g, g = w3.heap.size := ⟨_, rfl⟩
  obtain ⟨N, hN⟩ : ∃ N, N = n1 + n2 := ⟨_, rfl⟩
  rw [← hg, ← hN] at ho ⊢
  have hM : MulAt w3 w4 g N 0 (List.replicate N 0) := ⟨ho, Limbs.rep _, by simp, val_rep _, hn34⟩
  have Hb := hide (And.intro ha3 (And.intro hb3' (And.intro hbA (And.intro hbB (And.intro hbC hn3)))))
  have Hv := hide (And.intro hvx (And.intro hvy (And.intro hLx (And.intro hLy (And.intro hlx hly)))))
  have Hg := hide hg
  have Hr := hide (And.intro hr1 hr2)
  have hN1 : n1 + n2 ≤ N := by omega
  have hN2 : N ≤ 16 := by omega
  clear hw4 hmk0 ho hn34 hg ha3 hb3' hbA hbB hbC hn3 hvx hvy hLx hLy hlx hly hr1 hr2
  go_wp2
  go_loopw [26] (fun i wr => ∃ (k : Nat) (ls : List Nat), k ≤ n1 ∧ i = .int .i64 k ∧ MulAt w3 wr g N (val (xs.take k) * val ys) ls) (fun i _ => n1 - (intOf i).toNat)
  case atStart => exact ⟨0, _, by omega, rfl, by simpa [val] using hM⟩
  case round =>
    clear hM
    obtain ⟨k, ls, hk, rfl, hM⟩ := hrel
    by_cases hlt : k < n1
    · obtain ⟨bX, oX, rfl, hXc, hXm, hXl, hclx⟩ := rowW (Hr.out.1.new_ hM.new) hlt
      obtain ⟨u, hu⟩ : ∃ u, u = xs.getD k 0 := ⟨_, rfl⟩
      rw [← hu] at hclx
      have hub : u < 4294967296 := by rw [hu]; exact Hv.out.2.2.1.at _
      have Hu := hide hu
      have HM := hide hM
      have hI : MulAt w3 wr g N (val (xs.take k) * val ys) ls ∧ val ls + 4294967296 ^ (k + 0) * 0 = val ls + u * (4294967296 ^ k * val (ys.take 0)) := ⟨hM, by simp [val]⟩
      clear hu hXm hM
      go_wp2
      go_loopw [11, 33] (fun c i wr => ∃ (t cc : Nat) (l2 : List Nat), t ≤ n2 ∧ i = .int .i64 t ∧ c = .int .u64 (cc : Int) ∧ cc < 4294967296 ∧ Hid ((∃ V, MulAt w3 wr g N V l2) ∧ val l2 + 4294967296 ^ (k + t) * cc = val ls + u * (4294967296 ^ k * val (ys.take t)) ∧ ∀ j, k + t ≤ j → l2.getD j 0 = ls.getD j 0)) (fun _ i _ => n2 - (intOf i).toNat)
      case atStart => exact ⟨0, 0, ls, by omega, rfl, rfl, by omega, ⟨⟨_, hI.1⟩, hI.2, fun _ _ => rfl⟩⟩
      case round =>
        clear hI
        obtain ⟨t, cc, l2, ht, rfl, rfl, hcc, hd⟩ := hrel
        have Hd := hide (show (∃ V, MulAt w3 wr g N V l2) ∧ val l2 + 4294967296 ^ (k + t) * cc = val ls + u * (4294967296 ^ k * val (ys.take t)) ∧ ∀ j, k + t ≤ j → l2.getD j 0 = ls.getD j 0 from hd)
        clear hd
        obtain ⟨V, hMM⟩ := Hd.out.1
        have hkt : k + t ≤ n1 + n2 := by omega
        by_cases hlt2 : t < n2
        · obtain ⟨bY, oY, rfl, hYc, hYm, hYl, hcly⟩ := rowW (Hr.out.2.new_ hMM.new) hlt2
          obtain ⟨v, hv⟩ : ∃ v, v = ys.getD t 0 := ⟨_, rfl⟩
          rw [← hv] at hcly
          have hvb : v < 4294967296 := by rw [hv]; exact Hv.out.2.2.2.1.at _
          obtain ⟨g', hg', -, -, -, hglt, hcell, hfz, hset⟩ := hMM.own.place (j := k + t) (by omega)
          injection hg' with hg'
          injection hg' with hg' _ _
          subst hg'
          rw [encW_get _ _ (by rw [hMM.len]; omega)] at hcell
          obtain ⟨z, hz⟩ : ∃ z, z = l2.getD (k + t) 0 := ⟨_, rfl⟩
          rw [← hz] at hcell
          have hzb : z < 4294967296 := by rw [hz]; exact hMM.limbs.at _
          have hP0 : u * v ≤ 4294967295 * 4294967295 := Nat.mul_le_mul (by omega) (by omega)
          have hPc : ((u * v : Nat) : Int) = (u : Int) * (v : Int) := by simp
          have hP1 : 0 ≤ (u : Int) * (v : Int) := by rw [← hPc]; omega
          have hP2 : (u : Int) * (v : Int) ≤ 18446744065119617025 := by rw [← hPc]; omega
          have hstep := mul_step (l0 := ls) (u := u) hMM.limbs Hv.out.2.2.2.1 (k := t) (i := k) (by rw [hMM.len]; omega) hub hcc Hd.out.2.1
          rw [← hv, ← hz] at hstep
          obtain ⟨s, hs⟩ : ∃ s, s = cc + (u * v + z) := ⟨_, rfl⟩
          rw [← hs] at hstep
          have e1 : Value.int .u32 (((cc : Int) + ((u : Int) * (v : Int) + (z : Int))) % 4294967296) = .int .u32 ((s % 4294967296 : Nat) : Int) := by congr 1; rw [hs]; simp
          have e2 : Value.int .u64 (((cc : Int) + ((u : Int) * (v : Int) + (z : Int))) / 4294967296) = .int .u64 ((s / 4294967296 : Nat) : Int) := by congr 1; rw [hs]; simp
          have Hs := hide (And.intro hstep (And.intro e1 (And.intro e2 (And.intro hset hMM))))
          clear hv hz hPc hstep hs e1 e2 hset hMM hYm hP0
          go_wp2
          go_roundw
          case rel =>
            obtain ⟨hstep, e1, e2, hset, hMM⟩ := Hs.out
            have ho2 := hset (.int .u32 ((s % 4294967296 : Nat) : Int))
            rw [← encW_set] at ho2
            refine ⟨t + 1, s / 4294967296, l2.set (k + t) (s % 4294967296), by omega, by go_num, e2, hstep.2.1, ⟨⟨val (l2.set (k + t) (s % 4294967296)), ?_⟩, hstep.2.2.2, ?_⟩⟩
            · rw [e1]
              exact ⟨ho2, hstep.1, by simp [hMM.len], rfl, New.setAt hMM.new (Nat.le_of_eq Hg.out.symm) _ _⟩
            · intro j hj
              rw [← Hd.out.2.2 j (by omega)]
              simp [List.getD, List.getElem?_set, show k + t ≠ j by omega]
          case measure => simp [intOf] <;> omega
        · obtain rfl : t = n2 := by omega
          obtain ⟨g', hg', -, -, -, hglt, hcell, hfz, hset⟩ := hMM.own.place (j := k + t) (by omega)
          injection hg' with hg'
          injection hg' with hg' _ _
          subst hg'
          rw [encW_get _ _ (by rw [hMM.len]; omega)] at hcell
          have hfinal : val (l2.set (k + t) cc) = val (xs.take (k + 1)) * val ys := by
            have h1 := Hd.out.2.1
            rw [List.take_of_length_le (by rw [Hv.out.2.2.2.2.2]; exact Nat.le_refl _)] at h1
            have h2 := val_set l2 (k + t) cc (by rw [hMM.len]; omega)
            have h4 : val (xs.take (k + 1)) * val ys = val ls + u * (4294967296 ^ k * val ys) := by
              rw [val_take, HM.out.val, ← Hu.out]
              grind
            have h5 : val ls < 4294967296 ^ (k + t) := by
              rw [HM.out.val]
              have := mul_lt Hv.out.2.2.1 Hv.out.2.2.2.1 k
              rwa [Hv.out.2.2.2.2.2] at this
            have h6 : l2.getD (k + t) 0 = 0 := by rw [Hd.out.2.2 _ (Nat.le_refl _), limb_zero HM.out.limbs h5]
            rw [h6, Nat.mul_zero, Nat.add_zero] at h2
            rw [h2, h1, h4]
          have hlim := hMM.limbs.set (k + t) hcc
          have hlen : (l2.set (k + t) cc).length = N := by simp [hMM.len]
          have hset' := fun u => (hset u)
          have Hs := hide (And.intro hfinal (And.intro hset (And.intro hMM.new (And.intro hlim hlen))))
          clear hfinal hset hset' hMM hlim hlen
          go_wp2
          go_roundw
          case rel =>
            obtain ⟨hfinal, hset, hnew, hlim, hlen⟩ := Hs.out
            have ho2 := hset (.int .u32 (cc : Int))
            rw [← encW_set] at ho2
            exact ⟨k + 1, l2.set (k + t) cc, by omega, by go_num, ⟨ho2, hlim, hlen, hfinal, New.setAt hnew (Nat.le_of_eq Hg.out.symm) _ _⟩⟩
          case measure => simp [intOf] <;> omega
    · obtain rfl : k = n1 := by omega
      have hval : val ls = a.natAbs * b.natAbs := by
        rw [hM.val, List.take_of_length_le (by rw [Hv.out.2.2.2.2.1]; exact Nat.le_refl _), Hv.out.1, Hv.out.2.1]
      have ho := hM.own
      have hL := hM.limbs
      obtain ⟨ha3, hb3', hbA, hbB, hbC, hn3⟩ := Hb.out
      have ha5 := ha3.new_ hM.new
      have hb5 := hb3'.new_ hM.new
      have hbA5 := hbA.new_ hM.new
      have hbB5 := hbB.new_ hM.new
      have hbC5 := hbC.new_ hM.new
      have hn5 := hn3.transNew hM.new
      have Hval := hide hval
      clear hval ha3 hb3' hbA hbB hbC hn3 hM
      go_wp2_with fail
      have hqq := Hqq.out
      obtain ⟨hqa, hqb, hqc⟩ := hqq
      have hS : ∀ w', New wr w' → (Blk w' q1 24 [.bool bx, .slice Ax nx cx] ∧ Blk w' q2 24 [.bool by_, .slice Ay ny cy]) := fun w' hn => ⟨hbA5.new_ hn, hbB5.new_ hn⟩
      refine wp_region_dm (fun w' => Blk w' q1 24 [.bool bx, .slice Ax nx cx] ∧ Blk w' q2 24 [.bool by_, .slice Ay ny cy]) [(0, true), (1, true), (3, true), (2, false), (4, false), (5, true), (6, false), (7, true), (8, true), (9, false), (10, true)] (by kernel_rfl) (by kernel_rfl) (fun _ _ d _ _ h => by cases d <;> exact h) (hS _ (Upd.refl _ _).drew) ?_
      refine st_take (a' := ?_) rfl rfl (y_move (v := .slice (some ⟨g, 0, none⟩) N N) rfl rfl) ?_ ?_
      rotate_left; (simp only [Act.put, List.setIfInBounds_toArray, List.set_cons_zero, List.set_cons_succ]; rfl)
      refine st_take (a' := ?_) rfl rfl (y_load2 rfl rfl Try.isAgg24 Try.sizeOf24 (fun _ h => h.1)) ?_ ?_
      rotate_left; (simp only [Act.put, List.setIfInBounds_toArray, List.set_cons_zero, List.set_cons_succ]; rfl)
      refine st_take (a' := ?_) rfl rfl (y_load2 rfl rfl Try.isAgg24 Try.sizeOf24 (fun _ h => h.2)) ?_ ?_
      rotate_left; (simp only [Act.put, List.setIfInBounds_toArray, List.set_cons_zero, List.set_cons_succ]; rfl)
      refine st_act rfl rfl fun K hK => a_call (args := #[.agg #[.bool bx, .slice Ax nx cx]]) rfl rfl (fun w => by kernel_rfl) (neg_any _ a _ (ha5.new_ (Upd.refl _ _).drew)) ?_
      rintro e w6 ⟨da, rfl, hda, hm1⟩
      have hq2_1 := (show New _ _ from (Upd.refl _ _).drew).transNew hm1
      refine ⟨_, rfl, hK _ _ (hS _ hq2_1) ?_⟩
      simp only [Act.put, List.setIfInBounds_toArray, List.set_cons_zero, List.set_cons_succ]
      refine st_act rfl rfl fun K hK => a_call (args := #[.agg #[.bool by_, .slice Ay ny cy]]) rfl rfl (fun w => by kernel_rfl) (neg_any _ b _ (hb5.new_ hq2_1)) ?_
      rintro e w7 ⟨db, rfl, hdb, hm2⟩
      have hq2_2 := (show New _ _ from hq2_1).transNew hm2
      refine ⟨_, rfl, hK _ _ (hS _ hq2_2) ?_⟩
      simp only [Act.put, List.setIfInBounds_toArray, List.set_cons_zero, List.set_cons_succ]
      refine st_take (a' := ?_) rfl rfl (y_run (v := .bool (da != db)) fun w => by cases da <;> cases db <;> kernel_rfl) ?_ ?_
      rotate_left; (simp only [Act.put, List.setIfInBounds_toArray, List.set_cons_zero, List.set_cons_succ]; rfl)
      refine st_act rfl rfl fun K hK => a_call (args := #[.slice (some ⟨g, 0, none⟩) N N, .bool (da != db)]) rfl rfl (fun w => by kernel_rfl) (fits_any (some ⟨g, 0, none⟩) N N ls (da != db) _ ((ho.new_ hq2_2).row) hL) ?_
      rintro e w8 ⟨f, A7, n7, c7, rfl, hcan, hm7⟩
      have hq2_3 := (show New _ _ from hq2_2).transNew hm7
      refine ⟨_, rfl, hK _ _ (hS _ hq2_3) ?_⟩
      simp only [Act.put, List.setIfInBounds_toArray, List.set_cons_zero, List.set_cons_succ]
      refine st_take (a' := ?_) rfl rfl (y_extract (v := .agg #[.bool f, .slice A7 n7 c7]) rfl rfl rfl) ?_ ?_
      rotate_left; (simp only [Act.put, List.setIfInBounds_toArray, List.set_cons_zero, List.set_cons_succ]; rfl)
      refine st_take (a' := ?_) rfl rfl (y_extract (v := .bool (okI (sgn (da != db) (val ls)))) rfl rfl rfl) ?_ ?_
      rotate_left; (simp only [Act.put, List.setIfInBounds_toArray, List.set_cons_zero, List.set_cons_succ]; rfl)
      obtain ⟨w9, hw2_4, hcan9, hn9, g0, g1, hfar2_4⟩ := CanAt.store hcan (hbC5.new_ hq2_3) (hn5.transNew hq2_3) hqc
      refine st_act rfl rfl fun K hK => a_store2 (b := q3) (off := 0) (v0 := .bool f) (v1 := (.slice A7 n7 c7)) rfl rfl rfl Try.sizeOf24 rfl rfl rfl ((hbC5.new_ hq2_3).cell 0) ((hbC5.new_ hq2_3).frozen 0) (((hbC5.new_ hq2_3).set_ 0 (.bool f)).cell 1) (((hbC5.new_ hq2_3).set_ 0 (.bool f)).frozen 1) ?_
      rw [← hw2_4]
      have hS2_4 : Blk w9 q1 24 [.bool bx, .slice Ax nx cx] ∧ Blk w9 q2 24 [.bool by_, .slice Ay ny cy] := ⟨hfar2_4 _ _ _ (by omega) (hS _ hq2_3).1, hfar2_4 _ _ _ (by omega) (hS _ hq2_3).2⟩
      refine hK _ _ hS2_4 ?_
      simp only [Act.put, List.setIfInBounds_toArray, List.set_cons_zero, List.set_cons_succ]
      refine st_take (a' := ?_) rfl rfl (y_assign (v := .bool (okI (sgn (da != db) (val ls)))) rfl rfl) ?_ ?_
      rotate_left; (simp only [Act.put, List.setIfInBounds_toArray, List.set_cons_zero, List.set_cons_succ]; rfl)
      refine st_nil ?_
      clear hS hq2_1 hq2_2 hq2_3 hfar2_4 hw2_4 hS2_4
      have hfin : sgn (da != db) (val ls) = a * b := by
        rw [Hval.out]
        exact sgn_mul hda hdb
      rw [hfin] at hcan9 ⊢
      have H9 := hide (And.intro hcan9 hn9)
      obtain ⟨ok, hok⟩ : ∃ ok, ok = okI (a * b) := ⟨_, rfl⟩
      rw [← hok]
      have Hok := hide hok
      clear hcan hcan9 hn9 hfin hok hm1 hm2 hm7 hda hdb ho hL
      go_wp2
      exact bodyPost_ret (v := .tuple #[.agg #[.bool f, .slice A7 n7 c7], .bool ok]) (by simp [results, Try.results36, go_sem, g0, g1]) rfl ⟨f, A7, n7, c7, by rw [Hok.out], H9.out.1, H9.out.2⟩
end Go.Proofs.Ytfhflpchfgkgcaa
