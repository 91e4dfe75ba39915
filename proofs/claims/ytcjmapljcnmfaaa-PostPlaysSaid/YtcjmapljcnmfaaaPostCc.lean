/- same: two Posts that stand alike. Printed by wip/mkSame.py. -/
import Derived.Test.YtcjmapljcnmfaaaPostCb
import Derived.Test.YtcjmapljcnmfaaaPostDm
import Derived.Test.YtcjmapljcnmfaaaPostRh
import Derived.Test.YtcjmapljcnmfaaaPostRb
namespace Go.Proofs.Ytcjmapljcnmfaaa
open Go.RowKit Go.Deep
set_option linter.unusedVariables false
/-- What lies for n. -/
def liesOf (s : Mails) (n : Int) : List Ml := if isAg s n then s.getD n.toNat [] else []
def IsLies (l : List Ml) (w : World) (e : Ending) (w' : World) : Prop := ∃ A c, e = .returned (.slice A l.length c) ∧ RowAt w' 4 (.slice A l.length c) l.length (encL l) ∧ New w w'
theorem RowAt.nil0 (w : World) (size : Nat) (A : Option Addr) (c : Nat) : RowAt w size (.slice A 0 c) 0 [] := ⟨by simp, .inl ⟨rfl, A, c, rfl⟩⟩
theorem IsMails.lies {s : Mails} {n : Int} {w w' : World} {e : Ending} (h : IsMails s n w e w') : IsLies (liesOf s n) w e w' := by
  obtain ⟨v, rfl, h1, hn⟩ := h
  unfold liesOf
  by_cases ha : isAg s n = true
  · rw [if_pos ha] at h1 ⊢
    obtain ⟨A, c, rfl⟩ := h1.row.form
    exact ⟨A, c, rfl, h1.row, hn⟩
  · rw [if_neg ha] at h1 ⊢
    subst h1
    exact ⟨none, 0, rfl, RowAt.nil0 _ _ _ _, hn⟩
theorem R.IsMails.lies {s : Mails} {n : Int} {w w' : World} {e : Ending} (h : R.IsMails s n w e w') : IsLies (liesOf s n) w e w' := by
  obtain ⟨v, rfl, h1, hn⟩ := h
  unfold liesOf
  by_cases ha : isAg s n = true
  · rw [if_pos ha] at h1 ⊢
    obtain ⟨A, c, rfl⟩ := h1.row.form
    exact ⟨A, c, rfl, h1.row, hn⟩
  · rw [if_neg ha] at h1 ⊢
    subst h1
    exact ⟨none, 0, rfl, RowAt.nil0 _ _ _ _, hn⟩
/-- A row's block, when it has something. -/
theorem RowAt.has {w : World} {size n : Nat} {A : Option Addr} {c : Nat} {xs : List Value} (h : RowAt w size (.slice A n c) n xs) {k : Nat} (hk : k < n) :
    ∃ b off, A = some ⟨b, off, none⟩ ∧ n ≤ c ∧ c ≤ maxLen ∧ b < w.heap.size ∧ ∀ j u, xs[j]? = some u → w.cell? ⟨b, off + j, none⟩ = some u := by
  rcases h.2 with ⟨h0, _⟩ | ⟨b, off, c', hv, hc, hm, hb, hx⟩
  · omega
  · injection hv with hA _ hc'
    subst hA hc'
    exact ⟨b, off, rfl, hc, hm, hb, hx⟩
theorem RowAt.max {w : World} {size n : Nat} {A : Option Addr} {c : Nat} {xs : List Value} (h : RowAt w size (.slice A n c) n xs) : (n : Int) ≤ 9223372036854775807 := by
  rcases h.2 with ⟨h0, _⟩ | ⟨_, _, c', _, hc, hm, _⟩
  · omega
  · unfold maxLen at hm; omega
def IsYes (w : World) (e : Ending) (w' : World) : Prop := e = .returned (.bool true) ∧ New w w'
set_option maxHeartbeats 6400000 in
theorem same_any (g gx : Nat) (F Fx : Nat → Prop) (s : Mails) (rs : List (List Int × Int)) (now : Int) (w : World) (hp : PostAt w g F s rs now) (hx : R.PostAt w gx Fx s rs now)
    (hfit : Fit s) (hs64 : s.length ≤ 64) (hrs : rs.length ≤ 1000000) (hts : ∀ r ∈ rs, r.1.length ≤ 1000000) :
    Calls Try.prog 23 #[.pointer (some ⟨g, 0, none⟩), .pointer (some ⟨gx, 0, none⟩)] w (IsYes w) := by
  have hx' := hx
  obtain ⟨⟨gmx, capx, ivx, restx, svx, hinx⟩, hltx⟩ := hx
  have hgx : gx < w.heap.size := hltx gx hinx.fg
  have hx0 : w.cell? ⟨gx, 0, none⟩ = some (.slice (some ⟨gmx, 0, none⟩) s.length capx) := hinx.blk.cell 0
  obtain ⟨xsx, hox, _, hxx⟩ := hinx.said
  obtain ⟨Ax, cx, rfl⟩ := hox.row.form
  have hxw1 : w.cell? ⟨gx, 1, none⟩ = some (.slice Ax rs.length cx) := hinx.blk.cell 1
  have hxw2 : w.cell? ⟨gx, 2, none⟩ = some (.int .i64 now) := hinx.blk.cell 2
  have hsl : (s.length : Int) ≤ 64 := by omega
  have hrl : (rs.length : Int) ≤ 1000000 := by omega
  have Hp := hide (And.intro hp (And.intro hx' hfit))
  have Hx := hide (And.intro hox.row (And.intro hxx (And.intro hxw1 hxw2)))
  have Hts := hide hts
  clear hp hx' hfit hinx hltx hox hxx hxw1 hxw2 hts
  go_enter Try.func23, Try.ntmps23
  go_wp2
  go_loopw [5] (fun i wr => ∃ k : Nat, k ≤ s.length + 2 ∧ i = .int .i64 ((k : Int) - 1) ∧ New w wr) (fun i _ => (s.length + 2 : Nat) - (intOf i + 1).toNat)
  case atStart => exact ⟨0, by omega, rfl, Upd.refl _ _⟩
  case round =>
    obtain ⟨k, hk, rfl, hnw⟩ := hrel
    have hx0r : wr.cell? ⟨gx, 0, none⟩ = some (.slice (some ⟨gmx, 0, none⟩) s.length capx) := (hnw.cellN (p := ⟨gx, 0, none⟩) hgx).trans hx0
    by_cases hlt : k < s.length + 2
    · have hki : (k : Int) - 1 ≤ (s.length : Int) := by omega
      have hkl : (-9223372036854775808 : Int) ≤ (k : Int) - 1 ∧ (k : Int) - 1 ≤ 64 := by omega
      obtain ⟨a, ha⟩ : ∃ a, a = (k : Int) - 1 := ⟨_, rfl⟩
      rw [← ha] at hki hkl ⊢
      obtain ⟨hkl0, hkl1⟩ := hkl
      obtain ⟨l, hl⟩ : ∃ l, l = liesOf s a := ⟨_, rfl⟩
      obtain ⟨ob, hob⟩ : ∃ ob, ob = openB s a := ⟨_, rfl⟩
      have Hl := hide (And.intro hl hob)
      have Hnw := hide hnw
      have Ha := hide ha
      clear hl hob hnw ha
      go_wp2_with (first
        | (go_at_call 11
           refine (mails_any g F s rs now a wr (Hp.out.1.keepN Hnw.out) Hp.out.2.2).mono ?_
           intro e1 w1 hm1
           obtain ⟨A1, c1, rfl, hr1, hn1⟩ := hm1.lies
           rw [← Hl.out.1] at hr1
           rw [← Hl.out.1]
           have H1 := hide (And.intro hr1 hn1)
           have hmx1 := hr1.max
           clear hm1 hr1 hn1)
        | (go_at_call 42
           refine (R.mails_any gx Fx s rs now a w1 (Hp.out.2.1.keepN (Hnw.out.transNew H1.out.2)) Hp.out.2.2).mono ?_
           intro e2 w2 hm2
           obtain ⟨A2, c2, rfl, hr2, hn2⟩ := R.IsMails.lies hm2
           rw [← Hl.out.1] at hr2
           rw [← Hl.out.1]
           have H2 := hide (And.intro hr2 hn2)
           clear hm2 hr2 hn2)
        | (go_at_call 13
           refine (open_any g F s rs now a w2 (Hp.out.1.keepN ((Hnw.out.transNew H1.out.2).transNew H2.out.2))).mono ?_
           rintro e3 w3 ⟨rfl, hn3⟩
           rw [← Hl.out.2]
           have H3 := hide hn3
           clear hn3)
        | (go_at_call 43
           refine (R.open_any gx Fx s rs now a w3 (Hp.out.2.1.keepN (((Hnw.out.transNew H1.out.2).transNew H2.out.2).transNew H3.out))).mono ?_
           rintro e4 w4 ⟨rfl, hn4⟩
           rw [← Hl.out.2]
           have H4 := hide hn4
           clear hn4))
      go_loopw [8] (fun i wr => ∃ j : Nat, j ≤ l.length ∧ i = .int .i64 j ∧ New w4 wr) (fun i _ => l.length - (intOf i).toNat)
      case atStart => exact ⟨0, by omega, rfl, Upd.refl _ _⟩
      case round =>
        obtain ⟨j, hjl, rfl, hnz⟩ := hrel
        by_cases hj : j < l.length
        · have hr1 := (((H1.out.1.new_ H2.out.2).new_ H3.out).new_ H4.out).new_ hnz
          have hr2 := ((H2.out.1.new_ H3.out).new_ H4.out).new_ hnz
          obtain ⟨m, hm⟩ : ∃ m, l[j]? = some m := ⟨l[j], List.getElem?_eq_getElem hj⟩
          obtain ⟨b1, o1, rfl, hc1, hm1, hb1, hy1⟩ := hr1.has hj
          obtain ⟨b2, o2, rfl, hc2, hm2, hb2, hy2⟩ := hr2.has hj
          obtain ⟨p0, p1, p2, p3⟩ := cellsM (w := wr) hy1 hm
          obtain ⟨q0, q1, q2, q3⟩ := cellsM (w := wr) hy2 hm
          have hji : (j : Int) < (l.length : Int) := by omega
          have hj0 : (0 : Int) ≤ (j : Int) := by omega
          have Hz := hide hnz
          have Hq := hide (And.intro p0 (And.intro p1 (And.intro p2 (And.intro p3 (And.intro q0 (And.intro q1 (And.intro q2 q3)))))))
          clear hr1 hr2 hm hc1 hm1 hy1 hc2 hm2 hy2 hnz p0 p1 p2 p3 q0 q1 q2 q3
          go_wp2
          obtain ⟨p0, p1, p2, p3, q0, q1, q2, q3⟩ := Hq.out
          refine wp_region_dm (fun w' => New wr w') [(0, true), (1, true), (2, true), (3, true), (5, true), (6, true), (7, true), (8, true), (4, false), (9, true)] (by kernel_rfl) (by kernel_rfl) (fun _ _ d _ _ h => by cases d <;> exact h) (Upd.refl _ wr).drew ?_
          refine st_take (a' := ?_) rfl rfl (y_move (v := .slice (some ⟨b1, o1, none⟩) l.length c1) rfl rfl) ?_ ?_
          rotate_left; (simp only [Act.put, List.setIfInBounds_toArray, List.set_cons_zero, List.set_cons_succ]; rfl)
          refine st_take (a' := ?_) rfl rfl (y_move (v := .int .i64 (j : Int)) rfl rfl) ?_ ?_
          rotate_left; (simp only [Act.put, List.setIfInBounds_toArray, List.set_cons_zero, List.set_cons_succ]; rfl)
          refine st_take (a' := ?_) rfl rfl (y_index rfl rfl rfl Try.underlying34 Try.sizeOf37 hj rfl) ?_ ?_
          rotate_left; (simp only [Act.put, List.setIfInBounds_toArray, List.set_cons_zero, List.set_cons_succ]; rfl)
          refine st_take (a' := ?_) rfl rfl (y_load4 rfl rfl Try.isAgg37 Try.sizeOf37 fun _ h => ⟨(h.cellN (p := ⟨b1, o1 + j * 4, none⟩) hb1).trans p0, (h.cellN (p := ⟨b1, o1 + j * 4 + 1, none⟩) hb1).trans p1, (h.cellN (p := ⟨b1, o1 + j * 4 + 2, none⟩) hb1).trans p2, (h.cellN (p := ⟨b1, o1 + j * 4 + 3, none⟩) hb1).trans p3⟩) ?_ ?_
          rotate_left; (simp only [Act.put, List.setIfInBounds_toArray, List.set_cons_zero, List.set_cons_succ]; rfl)
          refine st_take (a' := ?_) rfl rfl (y_move (v := .slice (some ⟨b2, o2, none⟩) l.length c2) rfl rfl) ?_ ?_
          rotate_left; (simp only [Act.put, List.setIfInBounds_toArray, List.set_cons_zero, List.set_cons_succ]; rfl)
          refine st_take (a' := ?_) rfl rfl (y_move (v := .int .i64 (j : Int)) rfl rfl) ?_ ?_
          rotate_left; (simp only [Act.put, List.setIfInBounds_toArray, List.set_cons_zero, List.set_cons_succ]; rfl)
          refine st_take (a' := ?_) rfl rfl (y_index rfl rfl rfl Try.underlying87 Try.sizeOf79 hj rfl) ?_ ?_
          rotate_left; (simp only [Act.put, List.setIfInBounds_toArray, List.set_cons_zero, List.set_cons_succ]; rfl)
          refine st_take (a' := ?_) rfl rfl (y_load4 rfl rfl Try.isAgg79 Try.sizeOf79 fun _ h => ⟨(h.cellN (p := ⟨b2, o2 + j * 4, none⟩) hb2).trans q0, (h.cellN (p := ⟨b2, o2 + j * 4 + 1, none⟩) hb2).trans q1, (h.cellN (p := ⟨b2, o2 + j * 4 + 2, none⟩) hb2).trans q2, (h.cellN (p := ⟨b2, o2 + j * 4 + 3, none⟩) hb2).trans q3⟩) ?_ ?_
          rotate_left; (simp only [Act.put, List.setIfInBounds_toArray, List.set_cons_zero, List.set_cons_succ]; rfl)
          refine st_act rfl rfl fun K hK => a_call (args := #[aggM m]) rfl rfl (fun w => by kernel_rfl) (mail_any m wr.drew) ?_
          rintro e wq ⟨rfl, hq0⟩
          have hqn := (show New wr _ from (Upd.refl _ wr).drew).transNew hq0
          refine ⟨_, rfl, hK _ _ hqn ?_⟩
          simp only [Act.put, List.setIfInBounds_toArray, List.set_cons_zero, List.set_cons_succ]
          refine st_take (a' := ?_) rfl rfl (R.y_neqM (m := m) rfl rfl rfl) ?_ ?_
          rotate_left; (simp only [Act.put, List.setIfInBounds_toArray, List.set_cons_zero, List.set_cons_succ]; rfl)
          refine st_nil ?_
          have Hqn := hide hqn
          clear hqn p0 p1 p2 p3 q0 q1 q2 q3 hq0
          go_wp2
          go_roundw
          case rel => exact ⟨j + 1, by omega, by go_num, Hz.out.transNew Hqn.out⟩
          case measure => simp [intOf]; omega
        · have hj' : j = l.length := by omega
          subst hj'
          have Hz := hide hnz
          clear hj hnz
          go_wp2
          go_roundw
          case rel =>
            have ha := Ha.out
            exact ⟨k + 1, by omega, by rw [show ((k + 1 : Nat) : Int) - 1 = a + 1 by omega], ((((Hnw.out.transNew H1.out.2).transNew H2.out.2).transNew H3.out).transNew H4.out).transNew Hz.out⟩
          case measure => have ha := Ha.out; simp [intOf]; omega
    · have hk' : k = s.length + 2 := by omega
      subst hk'
      have hgt : ¬ (((s.length + 2 : Nat) : Int) - 1 ≤ (s.length : Int)) := by omega
      have hle1 : (((s.length + 2 : Nat) : Int) - 1) ≤ 65 := by omega
      obtain ⟨a, ha⟩ : ∃ a, a = ((s.length + 2 : Nat) : Int) - 1 := ⟨_, rfl⟩
      rw [← ha] at hgt hle1 ⊢
      have hgt' : (s.length : Int) < a := by omega
      have Hnw := hide hnw
      clear hlt ha hgt hnw
      go_wp2_with (go_at_call 31
                   refine (said_any g F s rs now wr (Hp.out.1.keepN Hnw.out) hrs Hts.out).mono ?_
                   rintro e w1 ⟨v, rfl, ⟨xs, ho, hy⟩, hn1⟩
                   obtain ⟨As, cs, rfl⟩ := ho.row.form
                   have Hs := hide (And.intro ho (And.intro hy hn1))
                   clear ho hy hn1)
      have Hn1 := hide (Hnw.out.transNew Hs.out.2.2)
      have hgx1 : gx < w1.heap.size := Nat.lt_of_lt_of_le hgx Hn1.out.size
      have hx1 : w1.cell? ⟨gx, 1, none⟩ = some (.slice Ax rs.length cx) := (Hn1.out.cellN (p := ⟨gx, 1, none⟩) hgx).trans Hx.out.2.2.1
      have hx2 : w1.cell? ⟨gx, 2, none⟩ = some (.int .i64 now) := (Hn1.out.cellN (p := ⟨gx, 2, none⟩) hgx).trans Hx.out.2.2.2
      refine wp_region_dm (fun w' => New w1 w') [(0, true), (1, true), (2, true), (3, true), (4, true), (5, true), (6, true), (7, true), (8, true), (9, true), (11, true), (12, true), (13, true), (14, true), (10, false), (15, true), (16, true)] (by kernel_rfl) (by kernel_rfl) (fun _ _ d _ _ h => by cases d <;> exact h) (Upd.refl _ w1).drew ?_
      refine st_take (a' := ?_) rfl rfl (y_move (v := .slice As rs.length cs) rfl rfl) ?_ ?_
      rotate_left; (simp only [Act.put, List.setIfInBounds_toArray, List.set_cons_zero, List.set_cons_succ]; rfl)
      refine st_take (a' := ?_) rfl rfl (y_run (v := .int .i64 (rs.length : Int)) fun w => by kernel_rfl) ?_ ?_
      rotate_left; (simp only [Act.put, List.setIfInBounds_toArray, List.set_cons_zero, List.set_cons_succ]; rfl)
      refine st_take (a' := ?_) rfl rfl (y_move (v := .pointer (some ⟨gx, 0, none⟩)) rfl rfl) ?_ ?_
      rotate_left; (simp only [Act.put, List.setIfInBounds_toArray, List.set_cons_zero, List.set_cons_succ]; rfl)
      refine st_take (a' := ?_) rfl rfl (y_nil rfl rfl) ?_ ?_
      rotate_left; (simp only [Act.put, List.setIfInBounds_toArray, List.set_cons_zero, List.set_cons_succ]; rfl)
      refine st_take (a' := ?_) rfl rfl (y_field rfl rfl (R.field64_1 gx)) ?_ ?_
      rotate_left; (simp only [Act.put, List.setIfInBounds_toArray, List.set_cons_zero, List.set_cons_succ]; rfl)
      refine st_take (a' := ?_) rfl rfl (y_load rfl rfl Try.isAgg73 fun _ h => (h.cellN (p := ⟨gx, 1, none⟩) hgx1).trans hx1) ?_ ?_
      rotate_left; (simp only [Act.put, List.setIfInBounds_toArray, List.set_cons_zero, List.set_cons_succ]; rfl)
      refine st_take (a' := ?_) rfl rfl (y_run (v := .int .i64 (rs.length : Int)) fun w => by kernel_rfl) ?_ ?_
      rotate_left; (simp only [Act.put, List.setIfInBounds_toArray, List.set_cons_zero, List.set_cons_succ]; rfl)
      refine st_take (a' := ?_) rfl rfl (y_bin (v := .bool false) rfl rfl rfl r_neqI) ?_ ?_
      rotate_left; (simp only [Act.put, List.setIfInBounds_toArray, List.set_cons_zero, List.set_cons_succ]; rfl)
      refine st_take (a' := ?_) rfl rfl (y_move (v := .bool false) rfl rfl) ?_ ?_
      rotate_left; (simp only [Act.put, List.setIfInBounds_toArray, List.set_cons_zero, List.set_cons_succ]; rfl)
      refine st_take (a' := ?_) rfl rfl (y_move (v := .pointer (some ⟨g, 0, none⟩)) rfl rfl) ?_ ?_
      rotate_left; (simp only [Act.put, List.setIfInBounds_toArray, List.set_cons_zero, List.set_cons_succ]; rfl)
      refine st_take (a' := ?_) rfl rfl (y_move (v := .pointer (some ⟨gx, 0, none⟩)) rfl rfl) ?_ ?_
      rotate_left; (simp only [Act.put, List.setIfInBounds_toArray, List.set_cons_zero, List.set_cons_succ]; rfl)
      refine st_take (a' := ?_) rfl rfl (y_nil rfl rfl) ?_ ?_
      rotate_left; (simp only [Act.put, List.setIfInBounds_toArray, List.set_cons_zero, List.set_cons_succ]; rfl)
      refine st_take (a' := ?_) rfl rfl (y_field rfl rfl (R.field64_2 gx)) ?_ ?_
      rotate_left; (simp only [Act.put, List.setIfInBounds_toArray, List.set_cons_zero, List.set_cons_succ]; rfl)
      refine st_take (a' := ?_) rfl rfl (y_load rfl rfl Try.isAgg3 fun _ h => (h.cellN (p := ⟨gx, 2, none⟩) hgx1).trans hx2) ?_ ?_
      rotate_left; (simp only [Act.put, List.setIfInBounds_toArray, List.set_cons_zero, List.set_cons_succ]; rfl)
      refine st_act rfl rfl fun K hK => a_call (args := #[.pointer (some ⟨g, 0, none⟩)]) rfl rfl (fun w => by kernel_rfl) (now_any g F s rs now w1.drew (Hp.out.1.keepN (Hn1.out.drew))) ?_
      rintro e wq ⟨rfl, rfl⟩
      have hqn := (show New w1 w1.drew from (Upd.refl _ w1).drew)
      refine ⟨_, rfl, hK _ _ hqn ?_⟩
      simp only [Act.put, List.setIfInBounds_toArray, List.set_cons_zero, List.set_cons_succ]
      refine st_take (a' := ?_) rfl rfl (y_bin (v := .bool false) rfl rfl rfl r_neqI) ?_ ?_
      rotate_left; (simp only [Act.put, List.setIfInBounds_toArray, List.set_cons_zero, List.set_cons_succ]; rfl)
      refine st_take (a' := ?_) rfl rfl (y_pick (b := false) (v := .bool false) rfl rfl rfl) ?_ ?_
      rotate_left; (simp only [Act.put, List.setIfInBounds_toArray, List.set_cons_zero, List.set_cons_succ]; rfl)
      refine st_nil ?_
      have Hw := hide hqn
      clear hqn hx1 hx2
      obtain ⟨wd, hwd⟩ : ∃ wd, wd = w1.drew := ⟨_, rfl⟩
      rw [← hwd] at Hw ⊢
      clear hwd
      go_wp2
      go_loopw [10] (fun i wr => ∃ k : Nat, k ≤ rs.length ∧ i = .int .i64 k ∧ New w1 wr) (fun i _ => rs.length - (intOf i).toNat)
      case atStart => exact ⟨0, by omega, rfl, Hw.out⟩
      case round =>
        obtain ⟨k, hkl, rfl, hnz⟩ := hrel
        by_cases hk : k < rs.length
        · obtain ⟨⟨t, n⟩, htn⟩ : ∃ p, rs[k]? = some p := ⟨_, List.getElem?_eq_getElem hk⟩
          obtain ⟨tv, k0, k1, hot⟩ := Hs.out.2.1 k t n htn
          obtain ⟨tx, x0, x1, hotx, _⟩ := Hx.out.2.1 k t n htn
          obtain ⟨At, ct, rfl⟩ := hot.row.form
          obtain ⟨Bt, dt, rfl⟩ := hotx.row.form
          have hwz := Hn1.out.transNew hnz
          have hr1 := (Hs.out.1.new_ hnz).row
          have hr2 := Hx.out.1.new_ hwz
          obtain ⟨b1, o1, rfl, hc1, hm1, hb1, hy1⟩ := hr1.has hk
          obtain ⟨b2, o2, rfl, hc2, hm2, hb2, hy2⟩ := hr2.has hk
          have p0 : wr.cell? ⟨b1, o1 + k * 2, none⟩ = some (.slice At t.length ct) := by rw [Nat.mul_comm]; exact hy1 _ _ k0
          have p1 : wr.cell? ⟨b1, o1 + k * 2 + 1, none⟩ = some (.int .i64 n) := by rw [Nat.mul_comm]; exact hy1 _ _ k1
          have q0 : wr.cell? ⟨b2, o2 + k * 2, none⟩ = some (.slice Bt t.length dt) := by rw [Nat.mul_comm]; exact hy2 _ _ x0
          have q1 : wr.cell? ⟨b2, o2 + k * 2 + 1, none⟩ = some (.int .i64 n) := by rw [Nat.mul_comm]; exact hy2 _ _ x1
          have hxz : wr.cell? ⟨gx, 1, none⟩ = some (.slice (some ⟨b2, o2, none⟩) rs.length cx) := (hwz.cellN (p := ⟨gx, 1, none⟩) hgx).trans Hx.out.2.2.1
          have hgxz : gx < wr.heap.size := Nat.lt_of_lt_of_le hgx hwz.size
          have Ht := hide (And.intro ((hot.new_ hnz).row.new_ (Upd.refl _ wr).drew) ((hotx.new_ hwz).row.new_ (Upd.refl _ wr).drew))
          have hki : (k : Int) < (rs.length : Int) := by omega
          have hk0 : (0 : Int) ≤ (k : Int) := by omega
          have Hz := hide hnz
          have Hq := hide (And.intro p0 (And.intro p1 (And.intro q0 (And.intro q1 hxz))))
          clear hot hotx htn k0 k1 x0 x1 hr1 hr2 hc1 hm1 hy1 hc2 hm2 hy2 hnz hwz p0 p1 q0 q1 hxz
          go_wp2
          obtain ⟨p0, p1, q0, q1, hxz⟩ := Hq.out
          refine wp_region_dm (fun w' => New wr w') [(0, true), (1, true), (2, true), (3, true), (4, true), (5, true), (6, true), (7, true), (8, true), (9, true), (10, true), (11, true), (12, true), (13, false), (14, true), (15, true), (16, true), (17, true), (18, true), (19, true), (20, true), (21, true), (22, true), (23, true), (24, true), (25, true), (26, true), (27, true), (28, true), (29, true), (30, true)] (by kernel_rfl) (by kernel_rfl) (fun _ _ d _ _ h => by cases d <;> exact h) (Upd.refl _ wr).drew ?_
          refine st_take (a' := ?_) rfl rfl (y_move (v := .slice (some ⟨b1, o1, none⟩) rs.length cs) rfl rfl) ?_ ?_
          rotate_left; (simp only [Act.put, List.setIfInBounds_toArray, List.set_cons_zero, List.set_cons_succ]; rfl)
          refine st_take (a' := ?_) rfl rfl (y_move (v := .int .i64 (k : Int)) rfl rfl) ?_ ?_
          rotate_left; (simp only [Act.put, List.setIfInBounds_toArray, List.set_cons_zero, List.set_cons_succ]; rfl)
          refine st_take (a' := ?_) rfl rfl (y_index rfl rfl rfl Try.underlying62 Try.sizeOf47 hk rfl) ?_ ?_
          rotate_left; (simp only [Act.put, List.setIfInBounds_toArray, List.set_cons_zero, List.set_cons_succ]; rfl)
          refine st_take (a' := ?_) rfl rfl (y_field rfl rfl (fieldRo_0 b1 (o1 + k * 2))) ?_ ?_
          rotate_left; (simp only [Act.put, List.setIfInBounds_toArray, List.set_cons_zero, List.set_cons_succ]; rfl)
          refine st_take (a' := ?_) rfl rfl (y_load rfl rfl Try.isAgg30 fun _ h => (h.cellN (p := ⟨b1, o1 + k * 2, none⟩) hb1).trans p0) ?_ ?_
          rotate_left; (simp only [Act.put, List.setIfInBounds_toArray, List.set_cons_zero, List.set_cons_succ]; rfl)
          refine st_take (a' := ?_) rfl rfl (y_move (v := .pointer (some ⟨gx, 0, none⟩)) rfl rfl) ?_ ?_
          rotate_left; (simp only [Act.put, List.setIfInBounds_toArray, List.set_cons_zero, List.set_cons_succ]; rfl)
          refine st_take (a' := ?_) rfl rfl (y_nil rfl rfl) ?_ ?_
          rotate_left; (simp only [Act.put, List.setIfInBounds_toArray, List.set_cons_zero, List.set_cons_succ]; rfl)
          refine st_take (a' := ?_) rfl rfl (y_field rfl rfl (R.field64_1 gx)) ?_ ?_
          rotate_left; (simp only [Act.put, List.setIfInBounds_toArray, List.set_cons_zero, List.set_cons_succ]; rfl)
          refine st_take (a' := ?_) rfl rfl (y_load rfl rfl Try.isAgg73 fun _ h => (h.cellN (p := ⟨gx, 1, none⟩) hgxz).trans hxz) ?_ ?_
          rotate_left; (simp only [Act.put, List.setIfInBounds_toArray, List.set_cons_zero, List.set_cons_succ]; rfl)
          refine st_take (a' := ?_) rfl rfl (y_move (v := .int .i64 (k : Int)) rfl rfl) ?_ ?_
          rotate_left; (simp only [Act.put, List.setIfInBounds_toArray, List.set_cons_zero, List.set_cons_succ]; rfl)
          refine st_take (a' := ?_) rfl rfl (y_index rfl rfl rfl Try.underlying73 Try.sizeOf84 hk rfl) ?_ ?_
          rotate_left; (simp only [Act.put, List.setIfInBounds_toArray, List.set_cons_zero, List.set_cons_succ]; rfl)
          refine st_take (a' := ?_) rfl rfl (y_field rfl rfl (fieldRx_0 b2 (o2 + k * 2))) ?_ ?_
          rotate_left; (simp only [Act.put, List.setIfInBounds_toArray, List.set_cons_zero, List.set_cons_succ]; rfl)
          refine st_take (a' := ?_) rfl rfl (y_load rfl rfl Try.isAgg30 fun _ h => (h.cellN (p := ⟨b2, o2 + k * 2, none⟩) hb2).trans q0) ?_ ?_
          rotate_left; (simp only [Act.put, List.setIfInBounds_toArray, List.set_cons_zero, List.set_cons_succ]; rfl)
          refine st_act rfl rfl fun K hK => a_call (args := #[.slice At t.length ct, .slice Bt t.length dt]) rfl rfl (fun w => by kernel_rfl) (units_any (.slice At t.length ct) (.slice Bt t.length dt) t t wr.drew Ht.out.1 Ht.out.2) ?_
          rintro e wq ⟨he, md, rfl⟩
          rw [show (t == t) = true by simp] at he
          subst he
          have hqn := (show New wr _ from (Upd.refl _ wr).drew.drewN md)
          refine ⟨_, rfl, hK _ _ hqn ?_⟩
          simp only [Act.put, List.setIfInBounds_toArray, List.set_cons_zero, List.set_cons_succ]
          refine st_take (a' := ?_) rfl rfl (y_run (v := .bool false) fun w => by kernel_rfl) ?_ ?_
          rotate_left; (simp only [Act.put, List.setIfInBounds_toArray, List.set_cons_zero, List.set_cons_succ]; rfl)
          refine st_take (a' := ?_) rfl rfl (y_move (v := .bool false) rfl rfl) ?_ ?_
          rotate_left; (simp only [Act.put, List.setIfInBounds_toArray, List.set_cons_zero, List.set_cons_succ]; rfl)
          refine st_take (a' := ?_) rfl rfl (y_move (v := .slice (some ⟨b1, o1, none⟩) rs.length cs) rfl rfl) ?_ ?_
          rotate_left; (simp only [Act.put, List.setIfInBounds_toArray, List.set_cons_zero, List.set_cons_succ]; rfl)
          refine st_take (a' := ?_) rfl rfl (y_move (v := .int .i64 (k : Int)) rfl rfl) ?_ ?_
          rotate_left; (simp only [Act.put, List.setIfInBounds_toArray, List.set_cons_zero, List.set_cons_succ]; rfl)
          refine st_take (a' := ?_) rfl rfl (y_index rfl rfl rfl Try.underlying62 Try.sizeOf47 hk rfl) ?_ ?_
          rotate_left; (simp only [Act.put, List.setIfInBounds_toArray, List.set_cons_zero, List.set_cons_succ]; rfl)
          refine st_take (a' := ?_) rfl rfl (y_field rfl rfl (fieldRo_1 b1 (o1 + k * 2))) ?_ ?_
          rotate_left; (simp only [Act.put, List.setIfInBounds_toArray, List.set_cons_zero, List.set_cons_succ]; rfl)
          refine st_take (a' := ?_) rfl rfl (y_load rfl rfl Try.isAgg3 fun _ h => (h.cellN (p := ⟨b1, o1 + k * 2 + 1, none⟩) hb1).trans p1) ?_ ?_
          rotate_left; (simp only [Act.put, List.setIfInBounds_toArray, List.set_cons_zero, List.set_cons_succ]; rfl)
          refine st_take (a' := ?_) rfl rfl (y_move (v := .pointer (some ⟨gx, 0, none⟩)) rfl rfl) ?_ ?_
          rotate_left; (simp only [Act.put, List.setIfInBounds_toArray, List.set_cons_zero, List.set_cons_succ]; rfl)
          refine st_take (a' := ?_) rfl rfl (y_nil rfl rfl) ?_ ?_
          rotate_left; (simp only [Act.put, List.setIfInBounds_toArray, List.set_cons_zero, List.set_cons_succ]; rfl)
          refine st_take (a' := ?_) rfl rfl (y_field rfl rfl (R.field64_1 gx)) ?_ ?_
          rotate_left; (simp only [Act.put, List.setIfInBounds_toArray, List.set_cons_zero, List.set_cons_succ]; rfl)
          refine st_take (a' := ?_) rfl rfl (y_load rfl rfl Try.isAgg73 fun _ h => (h.cellN (p := ⟨gx, 1, none⟩) hgxz).trans hxz) ?_ ?_
          rotate_left; (simp only [Act.put, List.setIfInBounds_toArray, List.set_cons_zero, List.set_cons_succ]; rfl)
          refine st_take (a' := ?_) rfl rfl (y_move (v := .int .i64 (k : Int)) rfl rfl) ?_ ?_
          rotate_left; (simp only [Act.put, List.setIfInBounds_toArray, List.set_cons_zero, List.set_cons_succ]; rfl)
          refine st_take (a' := ?_) rfl rfl (y_index rfl rfl rfl Try.underlying73 Try.sizeOf84 hk rfl) ?_ ?_
          rotate_left; (simp only [Act.put, List.setIfInBounds_toArray, List.set_cons_zero, List.set_cons_succ]; rfl)
          refine st_take (a' := ?_) rfl rfl (y_field rfl rfl (fieldRx_1 b2 (o2 + k * 2))) ?_ ?_
          rotate_left; (simp only [Act.put, List.setIfInBounds_toArray, List.set_cons_zero, List.set_cons_succ]; rfl)
          refine st_take (a' := ?_) rfl rfl (y_load rfl rfl Try.isAgg3 fun _ h => (h.cellN (p := ⟨b2, o2 + k * 2 + 1, none⟩) hb2).trans q1) ?_ ?_
          rotate_left; (simp only [Act.put, List.setIfInBounds_toArray, List.set_cons_zero, List.set_cons_succ]; rfl)
          refine st_take (a' := ?_) rfl rfl (y_bin (v := .bool false) rfl rfl rfl r_neqI) ?_ ?_
          rotate_left; (simp only [Act.put, List.setIfInBounds_toArray, List.set_cons_zero, List.set_cons_succ]; rfl)
          refine st_take (a' := ?_) rfl rfl (y_pick (b := false) (v := .bool false) rfl rfl rfl) ?_ ?_
          rotate_left; (simp only [Act.put, List.setIfInBounds_toArray, List.set_cons_zero, List.set_cons_succ]; rfl)
          refine st_nil ?_
          have Hqn := hide hqn
          clear hqn p0 p1 q0 q1 hxz
          obtain ⟨wd2, hwd2⟩ : ∃ wd2, wd2 = wr.drew.drewN md := ⟨_, rfl⟩
          rw [← hwd2] at Hqn ⊢
          clear hwd2
          go_wp2
          go_roundw
          case rel => exact ⟨k + 1, by omega, by go_num, Hz.out.transNew Hqn.out⟩
          case measure => simp [intOf]; omega
        · have hk' : k = rs.length := by omega
          subst hk'
          have Hz := hide hnz
          clear hk hnz
          go_wp2
          go_ret
          exact ⟨rfl, Hn1.out.transNew Hz.out⟩
end Go.Proofs.Ytcjmapljcnmfaaa
