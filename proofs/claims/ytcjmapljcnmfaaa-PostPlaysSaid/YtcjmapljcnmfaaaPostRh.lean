/- The document's Send. Printed by wip/mkRh.py. -/
import Derived.Test.YtcjmapljcnmfaaaPostRc
import Derived.Test.YtcjmapljcnmfaaaPostRd
import Derived.Test.YtcjmapljcnmfaaaPostE
namespace Go.Proofs.Ytcjmapljcnmfaaa.R
open Go.RowKit Go.Deep
set_option linter.unusedVariables false
def seenC (s : Mails) (l : List Int) : List Value := (List.range s.length).map fun (a : Nat) => Value.bool (l.contains (a : Int))
theorem seenC_nil (s : Mails) : seenC s [] = List.replicate s.length (.bool false) := by
  unfold seenC
  apply List.ext_getElem?
  intro i
  simp only [List.getElem?_map, List.getElem?_range, List.getElem?_replicate, List.contains_nil]
  by_cases h : i < s.length
  · simp [h]
  · simp [h]
theorem seenC_at {s : Mails} (l : List Int) {q : Nat} (h : q < s.length) : (seenC s l)[q]? = some (.bool (l.contains (q : Int))) := by
  unfold seenC
  simp [h]
theorem seenC_set {s : Mails} {l : List Int} {q : Nat} (h : q < s.length) : (seenC s l).set q (.bool true) = seenC s (l ++ [(q : Int)]) := by
  apply List.ext_getElem?
  intro i
  have hlen : (seenC s l).length = s.length := by simp [seenC]
  by_cases hi : q = i
  · subst hi
    rw [List.getElem?_set_self (by rw [hlen]; exact h), seenC_at _ h]
    simp
  · rw [List.getElem?_set_ne hi]
    by_cases h2 : i < s.length
    · rw [seenC_at _ h2, seenC_at _ h2]
      have h3 : ¬ (i : Int) = (q : Int) := by omega
      simp [h3]
    · rw [List.getElem?_eq_none (by rw [hlen]; omega), List.getElem?_eq_none (by simp [seenC]; omega)]
theorem infoB : (Try.prog.info? 4).map (fun i => (i.zero, i.size, i.bytes)) = some (some (.bool false), 1, 1) := by kernel_rfl
def IsSend (g : Nat) (F : Nat → Prop) (s : Mails) (rs : List (List Int × Int)) (now b : Int) (to : List Int) (m : Ml) (w : World) (e : Ending) (w' : World) : Prop :=
  e = .returned (.int .i64 (sendE s b to)) ∧ ∃ F', PostAt w' g F' (sendS s b to m) rs now ∧ Upd F w w' ∧ ∀ q, F' q → F q ∨ w.heap.size ≤ q
theorem IsSend.stay {g : Nat} {F : Nat → Prop} {s : Mails} {rs : List (List Int × Int)} {now b : Int} {to : List Int} {m : Ml} {w w' : World} {x : Int} (hp : PostAt w g F s rs now) (hn : New w w') (hx : x = sendE s b to) (h0 : x ≠ 0) :
    IsSend g F s rs now b to m w (.returned (.int .i64 x)) w' := by
  subst hx
  refine ⟨rfl, F, ?_, hn.ofNew F, fun q hq => .inl hq⟩
  unfold sendS
  rw [if_neg h0]
  exact hp.keepN hn
set_option maxHeartbeats 3200000 in
theorem send_any (g : Nat) (F : Nat → Prop) (s : Mails) (rs : List (List Int × Int)) (now b : Int) (tv : Value) (n : Nat) (to : List Int) (m : Ml) (w : World) (hb : m.by_ = b) (hp : PostAt w g F s rs now) (hn : n ≤ 1000000) (hs64 : s.length ≤ 64)
    (hr : RowAt w 1 tv n (encI to)) (hto : 0 < n → ∀ q off c, tv = .slice (some ⟨q, off, none⟩) n c → ¬ F q) (hfits : ∀ l ∈ s, l.length + n ≤ 1000000) :
    Calls Try.prog 33 #[.pointer (some ⟨g, 0, none⟩), .int .i64 b, tv, .int .i64 m.bl, .int .i64 m.ln, .int .i64 m.ev] w (IsSend g F s rs now b to m w) := by
  subst hb
  obtain ⟨A, c, rfl⟩ := hr.form
  have hl : to.length = n := by simpa [encI] using hr.1
  have hp' := hp
  obtain ⟨⟨gm, cap, iv, rest, sv, hin⟩, hlt⟩ := hp
  have h0 : w.cell? ⟨g, 0, none⟩ = some (.slice (some ⟨gm, 0, none⟩) s.length cap) := hin.blk.cell 0
  have hn1 : (n : Int) ≤ 1000000 := by omega
  have hs641 : (s.length : Int) ≤ 64 := by omega
  have Hl := hide hl
  clear hl
  by_cases ha : isAg s m.by_ = true
  · have ha1 : (decide (0 ≤ m.by_) && decide (m.by_ < (s.length : Int))) = true := ha
    have hmk := fun W => run_make_row' (P := Try.prog) 91 4 (.bool false) 1 Try.underlying91 infoB rfl .i64 .i64 s.length (by omega) (by omega) W
    have Ha := hide ha
    have Ha1 := hide ha1
    clear ha ha1
    obtain ⟨wA, hwA⟩ : ∃ wA, wA = w.alloc (.cells (madeCells #[Value.bool false] s.length) 4) := ⟨_, rfl⟩
    have hnA : New w wA := by rw [hwA]; exact (Upd.refl _ _).alloc _
    have hbA : Blk wA w.heap.size 4 (seenC s []) := by
      rw [hwA, seenC_nil]
      have hcs : madeCells #[Value.bool false] s.length = (List.replicate s.length (Value.bool false)).toArray := by
        apply Array.ext'
        rw [toList_madeCells_one]
      rw [hcs]
      exact Blk.new w _ _
    have hgl0 := hlt g hin.fg
    have hqs0 : ∀ q, F q → q ≠ w.heap.size := fun q hq => by have := hlt q hq; omega
    have Hkeep := hide (And.intro hin hlt)
    clear hin hlt
    go_enter Try.func33, Try.ntmps33
    go_wp2_with (go_at_call 47; refine (agent_any g m.by_ w _ _ _ h0).mono ?_; rintro e w' ⟨rfl, rfl⟩; rw [Ha1.out])
    rw [← hwA]
    clear hwA
    go_loopw [14] (fun i wr => ∃ k : Nat, k ≤ n ∧ i = .int .i64 k ∧ (∀ j, j < k → badAt s m.by_ to j = false) ∧ Blk wr w.heap.size 4 (seenC s (to.take k)) ∧ Upd (fun q => q = w.heap.size) wA wr) (fun i _ => n - (intOf i).toNat)
    case atStart => exact ⟨0, by omega, rfl, by omega, by simpa using hbA, Upd.refl _ _⟩
    case round =>
      obtain ⟨k, hk, rfl, hno, hblk, hur1⟩ := hrel
      have Hno := hide hno
      have huw : Upd (fun _ => False) w wr := hnA.trans hur1 (fun i hi hq => by omega)
      have h0r : wr.cell? ⟨g, 0, none⟩ = some (.slice (some ⟨gm, 0, none⟩) s.length cap) := (huw.cellN (p := ⟨g, 0, none⟩) hgl0).trans h0
      clear hno
      by_cases hlt' : k < n
      · obtain ⟨b', off, rfl, hc, hm, hb', hcell0⟩ := rowI hr hlt'
        have hcell : wr.cell? ⟨b', off + k, none⟩ = some (.int .i64 (to.getD k 0)) := (huw.cellN (p := ⟨b', off + k, none⟩) hb').trans hcell0
        obtain ⟨y, hy⟩ : ∃ y, y = to.getD k 0 := ⟨_, rfl⟩
        rw [← hy] at hcell
        have hcn : (c : Int) ≤ 9223372036854775807 := by unfold maxLen at hm; omega
        have hkc : (k : Int) ≤ (c : Int) := by omega
        have hbk : badAt s m.by_ to k = (!isAg s y || y == m.by_ || (to.take k).contains y) := by rw [hy]; rfl
        have hkto : k < to.length := by rw [Hl.out]; exact hlt'
        have htk : to.take (k + 1) = to.take k ++ [y] := by rw [List.take_succ_eq_append_getElem hkto, hy]; simp [List.getD, hkto]
        have Hy := hide (And.intro hy htk)
        have Hr := hide hr
        have Hbk := hide hbk
        clear hr hm hy hbk hcell0 htk
        by_cases c1 : isAg s y = true
        · have c1' : (decide (0 ≤ y) && decide (y < (s.length : Int))) = true := c1
          have hyb : 0 ≤ y ∧ y < (s.length : Int) := by simpa [isAg] using c1
          obtain ⟨q, rfl⟩ := Int.eq_ofNat_of_zero_le hyb.1
          obtain ⟨hy0, hy1⟩ := hyb
          have hqs : q < s.length := by omega
          have hseen := (hblk.cell q).trans (seenC_at (to.take k) hqs)
          have hfz := hblk.frozen q
          have hblk2 := hblk.set_ q (.bool true)
          rw [seenC_set hqs] at hblk2
          have hur2 : Upd (fun q => q = w.heap.size) wA (wr.setCell ⟨w.heap.size, q, none⟩ (.bool true)) := hur1.setCell (p := ⟨w.heap.size, q, none⟩) (.inl rfl) _
          have Hblk2 := hide (And.intro hblk2 hur2)
          have C1 := hide c1'
          have C1' := hide c1
          clear c1 c1' hblk hblk2 hur2
          by_cases c2 : ((q : Int) == m.by_) = true
          · go_wp2_with (go_at_call 47; refine (agent_any g q wr _ _ _ h0r).mono ?_; rintro e w' ⟨rfl, rfl⟩; rw [C1.out])
            go_ret
            refine IsSend.stay hp' huw ?_ (by decide)
            unfold sendE
            rw [badTo_of (k := k) (by rw [Hl.out]; exact hlt') (by rw [Hbk.out, c2]; simp), Ha.out]
            rfl
          · have c2' : ((q : Int) == m.by_) = false := by simpa using c2
            clear c2
            by_cases c3 : (to.take k).contains (q : Int) = true
            · rw [c3] at hseen
              go_wp2_with (go_at_call 47; refine (agent_any g q wr _ _ _ h0r).mono ?_; rintro e w' ⟨rfl, rfl⟩; rw [C1.out])
              go_ret
              refine IsSend.stay hp' huw ?_ (by decide)
              unfold sendE
              rw [badTo_of (k := k) (by rw [Hl.out]; exact hlt') (by rw [Hbk.out, c3]; simp), Ha.out]
              rfl
            · have c3' : (to.take k).contains (q : Int) = false := by simpa using c3
              rw [c3'] at hseen
              clear c3
              go_wp2_with (go_at_call 47; refine (agent_any g q wr _ _ _ h0r).mono ?_; rintro e w' ⟨rfl, rfl⟩; rw [C1.out])
              go_roundw
              case rel =>
                refine ⟨k + 1, by omega, by go_num, fun j hj => ?_, by rw [Hy.out.2]; exact Hblk2.out.1, Hblk2.out.2⟩
                rcases Nat.lt_or_ge j k with h1 | h1
                · exact Hno.out j h1
                · obtain rfl : j = k := by omega
                  rw [Hbk.out, C1'.out, c2', c3']
                  rfl
              case measure => simp [intOf]; omega
        · have c1' : (decide (0 ≤ y) && decide (y < (s.length : Int))) = false := by simpa [isAg] using c1
          have c1'' : isAg s y = false := by simpa using c1
          have C1 := hide c1'
          have C1' := hide c1''
          clear c1 c1' c1'' hblk
          go_wp2_with (go_at_call 47; refine (agent_any g y wr _ _ _ h0r).mono ?_; rintro e w' ⟨rfl, rfl⟩; rw [C1.out])
          go_ret
          refine IsSend.stay hp' huw ?_ (by decide)
          unfold sendE
          rw [badTo_of (k := k) (by rw [Hl.out]; exact hlt') (by rw [Hbk.out, C1'.out]; rfl), Ha.out]
          rfl
      · have hk' : k = n := by omega
        subst hk'
        clear hlt' hblk
        have hbad : badTo s m.by_ to = false := badTo_none fun j hj => Hno.out j (by rw [← Hl.out]; exact hj)
        have hpo : PostAt wr g F s rs now := hp'.keepN huw
        have huo : Upd F w wr := huw.ofNew F
        have Hbad := hide hbad
        have Hr := hide hr
        clear hbad hr
        by_cases ho : openB s m.by_ = true
        · go_wp2_with (go_at_call 43; refine (open_any g F s rs now m.by_ wr hpo).mono ?_; rintro e w1 ⟨rfl, hn1'⟩; rw [ho])
          go_ret
          refine IsSend.stay hp' (huw.transNew hn1') ?_ (by decide)
          unfold sendE
          rw [Hbad.out, Ha.out, ho]
          rfl
        · have ho' : openB s m.by_ = false := by simpa using ho
          have hse : sendE s m.by_ to = 0 := by unfold sendE; rw [Hbad.out, Ha.out, ho']; rfl
          have Hse := hide hse
          clear ho hse
          go_wp2_with (go_at_call 43; refine (open_any g F s rs now m.by_ wr hpo).mono ?_; rintro e w1 ⟨rfl, hnew1⟩; rw [ho'])
          go_loopw [15] (fun i wr => ∃ (j : Nat) (F' : Nat → Prop), j ≤ k ∧ i = .int .i64 j ∧ PostAt wr g F' (sendAll s m (to.take j)) rs now ∧ Upd F w wr ∧ ∀ q, F' q → F q ∨ w.heap.size ≤ q) (fun i _ => k - (intOf i).toNat)
          case atStart => exact ⟨0, F, by omega, rfl, hpo.keepN hnew1, huo.transNew hnew1, fun q hq => .inl hq⟩
          case round =>
            obtain ⟨j, F', hj, rfl, hpr, hur, hF'⟩ := hrel
            by_cases hlt' : j < k
            · have hlt'0 := hlt'
              obtain ⟨b', off, rfl, hc, hm, hb', hcell⟩ := rowI Hr.out hlt'
              have hFb : ¬ F b' := hto (by omega) b' off c rfl
              have hcr : wr.cell? ⟨b', off + j, none⟩ = some (.int .i64 (to.getD j 0)) := (hur.cell (p := ⟨b', off + j, none⟩) hb' hFb).trans hcell
              have hjl : j < to.length := by rw [Hl.out]; exact hlt'
              have hgood := badTo_false Hbad.out
              have hyag : isAg s (to.getD j 0) = true := hgood.1 _ (by simp [List.getD, hjl])
              have hyb : 0 ≤ to.getD j 0 ∧ to.getD j 0 < (s.length : Int) := by simpa [isAg] using hyag
              obtain ⟨q, hq⟩ := Int.eq_ofNat_of_zero_le hyb.1
              have hstep := sendAll_take_succ s m to j hjl
              rw [hq] at hcr hyb hstep
              have hqs : q < (sendAll s m (to.take j)).length := by rw [length_sendAll]; omega
              obtain ⟨s', hs'⟩ : ∃ s', s' = sendAll s m (to.take j) := ⟨_, rfl⟩
              have hlen' : s'.length = s.length := by rw [hs']; exact length_sendAll _ _ _
              have hroom : ∀ l0 ∈ s', l0.length ≤ 1000000 := by
                intro l0 h0
                rw [hs'] at h0
                obtain ⟨l1, h1, h2⟩ := mem_sendAll _ _ _ _ h0
                have h3 := hfits l1 h1
                simp at h2
                omega
              rw [← hs'] at hpr hqs hstep
              have Hstep := hide hstep
              clear hs' hstep hcell hgood hyag hq hm
              have hpr0 := hpr
              obtain ⟨⟨gm', cap', iv', rest', sv', hin'⟩, hlt'⟩ := hpr
              have hsq : s'[q]? = some (s'[q]'hqs) := List.getElem?_eq_getElem hqs
              obtain ⟨v, hv, hown, hcv⟩ := hin'.at_ hsq
              obtain ⟨A1, c1, rfl⟩ := hown.row.form
              obtain ⟨l, hl'⟩ : ∃ l, l = s'[q]'hqs := ⟨_, rfl⟩
              have hll : l.length ≤ 1000000 := by rw [hl']; exact hroom _ (List.getElem_mem _)
              rw [← hl'] at hv hown hcv
              have hgg : wr.cell? ⟨g, 0, none⟩ = some (.slice (some ⟨gm', 0, none⟩) s'.length cap') := hin'.blk.cell 0
              have hgl := hlt' g hin'.fg
              have hgml := hlt' gm' hin'.fm
              have Hl' := hide hl'
              have Hown := hide (And.intro hv hown)
              have hj0 : (0 : Int) ≤ (j : Int) := Int.natCast_nonneg j
              clear hl' hv hown hsq hroom
              go_wp2
              have hidx : (⟨gm', 0 + q * 1, none⟩ : Addr) = ⟨gm', q, none⟩ := by simp
              have hcto : (wr.cell? ⟨b', off + j, none⟩) = some (.int .i64 (q : Int)) := hcr
              have hidt : (⟨b', off + j * 1, none⟩ : Addr) = ⟨b', off + j, none⟩ := by simp
              have hfacts : wr.drew.cell? ⟨g, 0, none⟩ = some (.slice (some ⟨gm', 0, none⟩) s'.length cap') ∧ wr.drew.cell? ⟨gm', q, none⟩ = some (.slice A1 l.length c1) ∧ wr.drew.cell? ⟨b', off + j, none⟩ = some (.int .i64 (q : Int)) := ⟨hgg, hcv, hcto⟩
              refine wp_region_df (b := ?bb) (fun w' => w'.cell? ⟨g, 0, none⟩ = some (.slice (some ⟨gm', 0, none⟩) s'.length cap') ∧ w'.cell? ⟨gm', q, none⟩ = some (.slice A1 l.length c1) ∧ w'.cell? ⟨b', off + j, none⟩ = some (.int .i64 (q : Int))) 26
                [0, 1, 2, 3, 4, 5, 6, 7, 8, 9, 10, 11, 12, 13, 14, 15, 16, 17, 18, 19, 20, 21, 22] [23, 24, 25, 26] (by kernel_rfl) (by kernel_rfl) (fun _ _ d _ _ h => by cases d <;> exact h) hfacts ?reads ?acts
              case reads =>
                  refine readsTo_step (a' := ?_) rfl rfl (y_move (v := .pointer (some ⟨g, 0, none⟩)) rfl rfl) ?_ ?_
                  rotate_left; (simp only [Act.put, List.setIfInBounds_toArray, List.set_cons_zero, List.set_cons_succ]; rfl)
                  refine readsTo_step (a' := ?_) rfl rfl (y_nil rfl rfl) ?_ ?_
                  rotate_left; (simp only [Act.put, List.setIfInBounds_toArray, List.set_cons_zero, List.set_cons_succ]; rfl)
                  refine readsTo_step (a' := ?_) rfl rfl (y_field rfl rfl (field64_0 g)) ?_ ?_
                  rotate_left; (simp only [Act.put, List.setIfInBounds_toArray, List.set_cons_zero, List.set_cons_succ]; rfl)
                  refine readsTo_step (a' := ?_) rfl rfl (y_load rfl rfl Try.isAgg72 fun _ h => h.1) ?_ ?_
                  rotate_left; (simp only [Act.put, List.setIfInBounds_toArray, List.set_cons_zero, List.set_cons_succ]; rfl)
                  refine readsTo_step (a' := ?_) rfl rfl (y_move (v := .slice (some ⟨b', off, none⟩) k c) rfl rfl) ?_ ?_
                  rotate_left; (simp only [Act.put, List.setIfInBounds_toArray, List.set_cons_zero, List.set_cons_succ]; rfl)
                  refine readsTo_step (a' := ?_) rfl rfl (y_move (v := .int .i64 (j : Int)) rfl rfl) ?_ ?_
                  rotate_left; (simp only [Act.put, List.setIfInBounds_toArray, List.set_cons_zero, List.set_cons_succ]; rfl)
                  refine readsTo_step (a' := ?_) rfl rfl (y_index rfl rfl rfl Try.underlying23 Try.sizeOf3 hlt'0 hidt) ?_ ?_
                  rotate_left; (simp only [Act.put, List.setIfInBounds_toArray, List.set_cons_zero, List.set_cons_succ]; rfl)
                  refine readsTo_step (a' := ?_) rfl rfl (y_load rfl rfl Try.isAgg3 fun _ h => h.2.2) ?_ ?_
                  rotate_left; (simp only [Act.put, List.setIfInBounds_toArray, List.set_cons_zero, List.set_cons_succ]; rfl)
                  refine readsTo_step (a' := ?_) rfl rfl (y_move (v := .pointer (some ⟨g, 0, none⟩)) rfl rfl) ?_ ?_
                  rotate_left; (simp only [Act.put, List.setIfInBounds_toArray, List.set_cons_zero, List.set_cons_succ]; rfl)
                  refine readsTo_step (a' := ?_) rfl rfl (y_nil rfl rfl) ?_ ?_
                  rotate_left; (simp only [Act.put, List.setIfInBounds_toArray, List.set_cons_zero, List.set_cons_succ]; rfl)
                  refine readsTo_step (a' := ?_) rfl rfl (y_field rfl rfl (field64_0 g)) ?_ ?_
                  rotate_left; (simp only [Act.put, List.setIfInBounds_toArray, List.set_cons_zero, List.set_cons_succ]; rfl)
                  refine readsTo_step (a' := ?_) rfl rfl (y_load rfl rfl Try.isAgg72 fun _ h => h.1) ?_ ?_
                  rotate_left; (simp only [Act.put, List.setIfInBounds_toArray, List.set_cons_zero, List.set_cons_succ]; rfl)
                  refine readsTo_step (a' := ?_) rfl rfl (y_move (v := .slice (some ⟨b', off, none⟩) k c) rfl rfl) ?_ ?_
                  rotate_left; (simp only [Act.put, List.setIfInBounds_toArray, List.set_cons_zero, List.set_cons_succ]; rfl)
                  refine readsTo_step (a' := ?_) rfl rfl (y_move (v := .int .i64 (j : Int)) rfl rfl) ?_ ?_
                  rotate_left; (simp only [Act.put, List.setIfInBounds_toArray, List.set_cons_zero, List.set_cons_succ]; rfl)
                  refine readsTo_step (a' := ?_) rfl rfl (y_index rfl rfl rfl Try.underlying23 Try.sizeOf3 hlt'0 hidt) ?_ ?_
                  rotate_left; (simp only [Act.put, List.setIfInBounds_toArray, List.set_cons_zero, List.set_cons_succ]; rfl)
                  refine readsTo_step (a' := ?_) rfl rfl (y_load rfl rfl Try.isAgg3 fun _ h => h.2.2) ?_ ?_
                  rotate_left; (simp only [Act.put, List.setIfInBounds_toArray, List.set_cons_zero, List.set_cons_succ]; rfl)
                  refine readsTo_step (a' := ?_) rfl rfl (y_index rfl rfl rfl Try.underlying72 Try.sizeOf87 hqs hidx) ?_ ?_
                  rotate_left; (simp only [Act.put, List.setIfInBounds_toArray, List.set_cons_zero, List.set_cons_succ]; rfl)
                  refine readsTo_step (a' := ?_) rfl rfl (y_load rfl rfl Try.isAgg87 fun _ h => h.2.1) ?_ ?_
                  rotate_left; (simp only [Act.put, List.setIfInBounds_toArray, List.set_cons_zero, List.set_cons_succ]; rfl)
                  refine readsTo_step (a' := ?_) rfl rfl (y_move (v := .int .i64 m.bl) rfl rfl) ?_ ?_
                  rotate_left; (simp only [Act.put, List.setIfInBounds_toArray, List.set_cons_zero, List.set_cons_succ]; rfl)
                  refine readsTo_step (a' := ?_) rfl rfl (y_move (v := .int .i64 m.ln) rfl rfl) ?_ ?_
                  rotate_left; (simp only [Act.put, List.setIfInBounds_toArray, List.set_cons_zero, List.set_cons_succ]; rfl)
                  refine readsTo_step (a' := ?_) rfl rfl (y_move (v := .int .i64 m.by_) rfl rfl) ?_ ?_
                  rotate_left; (simp only [Act.put, List.setIfInBounds_toArray, List.set_cons_zero, List.set_cons_succ]; rfl)
                  refine readsTo_step (a' := ?_) rfl rfl (y_move (v := .int .i64 m.ev) rfl rfl) ?_ ?_
                  rotate_left; (simp only [Act.put, List.setIfInBounds_toArray, List.set_cons_zero, List.set_cons_succ]; rfl)
                  refine readsTo_step (a' := ?_) rfl rfl (y_run (v := aggM m) fun w => by kernel_rfl) ?_ ?_
                  rotate_left; (simp only [Act.put, List.setIfInBounds_toArray, List.set_cons_zero, List.set_cons_succ]; rfl)
                  exact readsTo_nil _
              case acts =>
                have hbr' : b' < wr.heap.size := Nat.lt_of_lt_of_le hb' hur.size
                have hnb : New wr (wr.drew.alloc (.cells #[.int .i64 m.bl, .int .i64 m.ln, .int .i64 m.by_, .int .i64 m.ev] 79)) := (Upd.refl _ wr).drew.alloc _
                refine actsTo_cons rfl rfl fun K hK => a_run (v := .slice (some ⟨wr.heap.size, 0, none⟩) 1 1) (w' := wr.drew.alloc (.cells #[.int .i64 m.bl, .int .i64 m.ln, .int .i64 m.by_, .int .i64 m.ev] 79)) (by kernel_rfl) (hK _ _ (.inr ⟨(hnb.cellN (p := ⟨g, 0, none⟩) hgl).trans hgg, (hnb.cellN (p := ⟨gm', q, none⟩) hgml).trans hcv, (hnb.cellN (p := ⟨b', off + j, none⟩) hbr').trans hcto⟩) ?_)
                have hownb := Hown.out.2.new_ hnb
                have hrowm : RowAt (wr.drew.alloc (.cells #[.int .i64 m.bl, .int .i64 m.ln, .int .i64 m.by_, .int .i64 m.ev] 79)) 4 (.slice (some ⟨wr.heap.size, 0, none⟩) 1 1) 1 (encM m) := RowAt.fresh wr.drew _ (encM m) 1 1 rfl (by omega) (by unfold maxLen; omega)
                obtain ⟨wb, hwb⟩ : ∃ wb, wb = wr.drew.alloc (.cells #[.int .i64 m.bl, .int .i64 m.ln, .int .i64 m.by_, .int .i64 m.ev] 79) := ⟨_, rfl⟩
                rw [← hwb] at hnb hownb hrowm ⊢
                have hwbs : wb.heap.size = wr.heap.size + 1 := by rw [hwb]; simp
                clear hwb
                refine actsTo_cons rfl rfl fun K hK => wp_append_row wb (.tmp 88) (.tmp 94) el37 rfl 0 (.slice A1 l.length c1) l.length (encL l) rfl hownb (.slice (some ⟨wr.heap.size, 0, none⟩) 1 1) 1 (encM m) rfl hrowm (encL_one [m]) (by omega) (by unfold maxLen; omega) (Nat.zero_le _) ?_
                intro v2 w2 hown2 hg2 hat2
                obtain ⟨A2, c2, rfl⟩ := hown2.row.form
                have hneg : some g ≠ ownB (.slice A1 l.length c1) := fun h => hownb.ne_blk (hin'.blk.new_ hnb) (by decide) g h.symm rfl
                have hnegm : some gm' ≠ ownB (.slice A1 l.length c1) := fun h => hownb.ne_blk (hin'.mb.new_ hnb) (by decide) gm' h.symm rfl
                have hgb : g < wb.heap.size := by omega
                have hgmb : gm' < wb.heap.size := by omega
                have hc1' := (hg2.cell_far ⟨g, 0, none⟩ hgb hneg).trans ((hnb.cellN (p := ⟨g, 0, none⟩) hgl).trans hgg)
                have hc2' := (hg2.cell_far ⟨gm', q, none⟩ hgmb hnegm).trans ((hnb.cellN (p := ⟨gm', q, none⟩) hgml).trans hcv)
                have hf2' := (hg2.frozen_far ⟨gm', q, none⟩ hgmb hnegm).trans ((hnb.frozenN (p := ⟨gm', q, none⟩) hgml).trans (hin'.mb.frozen q))
                have hnegt : some b' ≠ ownB (.slice A1 l.length c1) := fun h => by
                  rcases hF' _ (hin'.own _ (List.mem_of_getElem? Hown.out.1) b' h.symm) with h1 | h1
                  · exact hFb h1
                  · omega
                have hc3' := (hg2.cell_far ⟨b', off + j, none⟩ (by show b' < wb.heap.size; omega) hnegt).trans ((hnb.cellN (p := ⟨b', off + j, none⟩) hbr').trans hcto)
                refine hK _ _ (.inr ⟨hc1', hc2', hc3'⟩) ?_
                simp only [Act.put, List.setIfInBounds_toArray, List.set_cons_zero, List.set_cons_succ]
                refine actsTo_cons rfl rfl fun K hK => a_read (y_index rfl rfl rfl Try.underlying72 Try.sizeOf87 hqs hidx) (hK _ _ (.inr ⟨hc1', hc2', hc3'⟩) ?_)
                refine actsTo_cons rfl rfl fun K hK => a_store (v := .slice A2 (l.length + 1) c2) rfl rfl rfl Try.sizeOf87 rfl rfl hc2' hf2' (hK _ _ (.inl rfl) ?_)
                refine actsTo_nil ?_
                simp only [Act.put, List.setIfInBounds_toArray, List.set_cons_zero, List.set_cons_succ]
                have hlen2 : (l ++ [m]).length = l.length + 1 := by simp
                have henc2 : encL (l ++ [m]) = encL l ++ encM m := by simp [encL]
                have hu02 : Upd (fun b => ownB (.slice A1 l.length c1) = some b) wr w2 := (hnb.ofNew _).grown hg2 (fun b hb => .inl hb)
                have hin3 := hin'.setRow (vk := .slice A1 l.length c1) (v := .slice A2 (l.length + 1) c2) (l := l ++ [m]) (F' := fun b => F' b ∨ ownB (.slice A2 (l.length + 1) c2) = some b) hqs Hown.out.1 hu02 (by rw [hlen2, henc2]; exact hown2) (fun _ h => .inl h) (fun _ h => .inr h) (fun b hb i u hi hu hub => by
                  rcases hat2 with h | h
                  · rw [h] at hb
                    exact hi (hin'.apart i q u _ b hu Hown.out.1 hub hb)
                  · rw [h] at hb
                    injection hb with hb
                    have := hlt' b (hin'.own u (List.mem_of_getElem? hu) b hub)
                    omega)
                have hown2lt := hown2.lt
                have hset : putM s' (q : Int) m = s'.set q (l ++ [m]) := by
                  unfold putM
                  rw [Int.toNat_natCast, Hl'.out]
                  apply List.ext_getElem?
                  intro i
                  simp only [List.getElem?_modify, List.getElem?_set, hqs, if_true]
                  by_cases hi : q = i
                  · subst hi; simp [hqs]
                  · simp [hi]
                have hur3 : Upd F' wr (w2.setCell ⟨gm', q, none⟩ (.slice A2 (l.length + 1) c2)) :=
                  ((hnb.ofNew F').grown hg2 (fun b hb => .inl (hin'.own _ (List.mem_of_getElem? Hown.out.1) b hb))).setCell (p := ⟨gm', q, none⟩) (.inl hin'.fm) _
                have hnext : PostAt (w2.setCell ⟨gm', q, none⟩ (.slice A2 (l.length + 1) c2)) g (fun b => F' b ∨ ownB (.slice A2 (l.length + 1) c2) = some b) (sendAll s m (to.take (j + 1))) rs now := by
                  refine ⟨⟨gm', cap', _, rest', sv', by rw [Hstep.out, hset]; exact hin3⟩, ?_⟩
                  rintro b (hb | hb)
                  · exact Nat.lt_of_lt_of_le (hlt' b hb) hur3.size
                  · have := (hown2lt b hb).2
                    simpa [World.setCell] using this
                have hunext : Upd F w (w2.setCell ⟨gm', q, none⟩ (.slice A2 (l.length + 1) c2)) := hur.trans hur3 fun b hb1 hb2 => by
                  rcases hF' b hb2 with h | h
                  · exact h
                  · omega
                have hFn : ∀ b, (F' b ∨ ownB (.slice A2 (l.length + 1) c2) = some b) → F b ∨ w.heap.size ≤ b := by
                  rintro b (hb | hb)
                  · exact hF' b hb
                  · rcases hat2 with h | h
                    · rw [h] at hb
                      exact hF' b (hin'.own _ (List.mem_of_getElem? Hown.out.1) b hb)
                    · rw [h] at hb
                      injection hb with hb
                      have := hur.size
                      exact .inr (by omega)
                obtain ⟨w3, hw3⟩ : ∃ w3, w3 = w2.setCell ⟨gm', q, none⟩ (.slice A2 (l.length + 1) c2) := ⟨_, rfl⟩
                rw [← hw3] at hnext hunext ⊢
                clear hw3 hin3 hset hfacts hgg hcv hc1' hc2' hc3' hf2' hlen2 henc2 hat2
                go_wp2
                go_roundw
                case rel => exact ⟨j + 1, _, by omega, by go_num, hnext, hunext, hFn⟩
                case measure => simp [intOf]; omega
            · have hj' : j = k := by omega
              subst hj'
              clear hlt'
              go_wp2
              go_ret
              refine ⟨by rw [Hse.out]; rfl, F', ?_, hur, hF'⟩
              unfold sendS
              rw [if_pos Hse.out]
              rw [List.take_of_length_le (by rw [Hl.out]; exact Nat.le_refl _)] at hpr
              exact hpr
  · have ha1 : (decide (0 ≤ m.by_) && decide (m.by_ < (s.length : Int))) = false := by simpa [isAg] using ha
    have ha' : isAg s m.by_ = false := by simpa using ha
    have Ha := hide ha'
    have Ha1 := hide ha1
    clear ha ha1 ha'
    go_enter Try.func33, Try.ntmps33
    go_wp2_with (go_at_call 47; refine (agent_any g m.by_ w _ _ _ h0).mono ?_; rintro e w' ⟨rfl, rfl⟩; rw [Ha1.out])
    go_ret
    refine IsSend.stay hp' (Upd.refl _ _) ?_ (by decide)
    unfold sendE
    rw [Ha.out]
    rfl
end Go.Proofs.Ytcjmapljcnmfaaa.R
