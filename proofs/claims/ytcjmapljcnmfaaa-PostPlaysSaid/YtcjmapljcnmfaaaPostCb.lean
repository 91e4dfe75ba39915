/- Copy: another Post alike, of blocks of its own. -/
import Derived.Test.YtcjmapljcnmfaaaPostCa
namespace Go.Proofs.Ytcjmapljcnmfaaa
open Go.RowKit Go.Deep
set_option linter.unusedVariables false
/-- The reports lie so, in blocks from base on. -/
def SaidN (w : World) (base : Nat) (v : Value) (rs : List (List Int × Int)) : Prop :=
  ∃ xs : List Value, Own w base 47 2 v rs.length xs ∧
    ∀ (j : Nat) (t : List Int) (n : Int), rs[j]? = some (t, n) → ∃ tv, xs[2 * j]? = some tv ∧ xs[2 * j + 1]? = some (.int .i64 n) ∧ Own w base 71 1 tv t.length (encU t)
theorem SaidN.upd {w w' : World} {base : Nat} {v : Value} {rs : List (List Int × Int)} {G : Nat → Prop} (h : SaidN w base v rs) (hu : Upd G w w')
    (h1 : ∀ xs n, Own w base 47 2 v n xs → ∀ k, ownB v = some k → ¬ G k) (h2 : ∀ tv n xs, Own w base 71 1 tv n xs → ∀ k, ownB tv = some k → ¬ G k) : SaidN w' base v rs := by
  obtain ⟨xs, ho, hx⟩ := h
  refine ⟨xs, ho.upd hu (h1 _ _ ho), fun j t n hj => ?_⟩
  obtain ⟨tv, k0, k1, k2⟩ := hx j t n hj
  exact ⟨tv, k0, k1, k2.upd hu (h2 _ _ _ k2)⟩
/-- A Post that is being made: k of its rows are there. -/
structure Part (w0 w : World) (q0 k : Nat) (s : Mails) (rs : List (List Int × Int)) (now : Int) (vm sv : Value) (mv : List Value) : Prop where
  blk : Blk w q0 64 [vm, sv, .int .i64 now]
  row : Own w w0.heap.size 34 1 vm k mv
  rows : ∀ (j : Nat) (l : List Ml), j < k → s[j]? = some l → ∃ v, mv[j]? = some v ∧ Own w w0.heap.size 37 4 v l.length (encL l)
  apart : ∀ (j j' : Nat) (v u : Value) (b : Nat), mv[j]? = some v → mv[j']? = some u → ownB v = some b → ownB u = some b → j = j'
  said : SaidN w w0.heap.size sv rs
  new_ : New w0 w
  far : w0.heap.size ≤ q0
def IsCopy (s : Mails) (rs : List (List Int × Int)) (now : Int) (w : World) (e : Ending) (w' : World) : Prop :=
  ∃ g F, e = .returned (.pointer (some ⟨g, 0, none⟩)) ∧ PostAt w' g F s rs now ∧ (∀ q, F q → w.heap.size ≤ q) ∧ New w w'
theorem Part.post {w0 w : World} {q0 : Nat} {s : Mails} {rs : List (List Int × Int)} {now : Int} {vm sv : Value} {mv : List Value} (h : Part w0 w q0 s.length s rs now vm sv mv) (hs : 1 ≤ s.length) :
    ∃ F, PostAt w q0 F s rs now ∧ ∀ q, F q → w0.heap.size ≤ q := by
  obtain ⟨hblk, hrow, hrows, hap, hsaid, hnew, hfar⟩ := h
  have hrow0 := hrow
  rcases hrow with ⟨hl, h2⟩ | ⟨h0, _⟩
  · rcases h2 with ⟨_, h0⟩ | ⟨gm, cap, cur, rfl, hb, hg, hn, hm, hsz, ht⟩
    · omega
    · refine ⟨fun q => w0.heap.size ≤ q ∧ q < w.heap.size, ⟨⟨gm, cap, mv, cur.toList.drop s.length, sv, ?_⟩, fun q hq => hq.2⟩, fun q hq => hq.1⟩
      have hcur : cur.toList = mv ++ cur.toList.drop s.length := by
        rw [Nat.mul_one] at ht
        conv => lhs; rw [← List.take_append_drop s.length cur.toList]
        rw [ht]
      have hmb : Blk w gm 34 (mv ++ cur.toList.drop s.length) := by
        unfold Blk
        rw [← hcur]
        simpa using hg
      have hl1 : mv.length = s.length := by simpa using hl
      refine { blk := hblk, mb := hmb, len := hl1, caps := hn, capm := hm, rows := ?_, apart := hap, own := ?_, said := ?_, fg := ⟨hfar, hblk.lt⟩, fm := ⟨hb, hmb.lt⟩ }
      · intro j l hj
        obtain ⟨v, k0, k1⟩ := hrows j l (List.getElem?_eq_some_iff.1 hj).1 hj
        exact ⟨v, k0, k1.more (Nat.zero_le _)⟩
      · intro v hv b hb'
        obtain ⟨j, hj⟩ := List.mem_iff_getElem?.1 hv
        have hjl : j < s.length := by have := (List.getElem?_eq_some_iff.1 hj).1; omega
        obtain ⟨u, k0, k1⟩ := hrows j _ hjl (List.getElem?_eq_getElem hjl)
        rw [hj] at k0
        injection k0 with k0
        subst k0
        exact k1.lt b hb'
      · obtain ⟨xs, ho, hx⟩ := hsaid
        refine ⟨xs, ho.more (Nat.zero_le _), fun q hq => ho.lt q hq, fun j t e hj => ?_⟩
        obtain ⟨tv, k0, k1, k2⟩ := hx j t e hj
        exact ⟨tv, k0, k1, k2.more (Nat.zero_le _), fun q hq => k2.lt q hq⟩
  · omega
theorem el61 : ElemT Try.prog 61 34 (.slice none 0 0) 1 24 := ⟨Try.underlying61, by kernel_rfl, rfl, by omega⟩
set_option maxHeartbeats 3200000 in
theorem copy_any (g : Nat) (F : Nat → Prop) (s : Mails) (rs : List (List Int × Int)) (now : Int) (w : World) (hp : PostAt w g F s rs now) (hs : 1 ≤ s.length) (hs64 : s.length ≤ 64) (hfit : Fit s) (hrs : rs.length ≤ 1000000) (hts : ∀ r ∈ rs, r.1.length ≤ 1000000) :
    Calls Try.prog 21 #[.pointer (some ⟨g, 0, none⟩)] w (IsCopy s rs now w) := by
  have hp' := hp
  obtain ⟨⟨gm, cap, iv, rest, sv, hin⟩, hlt⟩ := hp
  have h2 : w.drew.cell? ⟨g, 2, none⟩ = some (.int .i64 now) := hin.blk.cell 2
  have hgl : g < w.heap.size := hlt g hin.fg
  have hgml : gm < w.heap.size := hlt gm hin.fm
  have h0 : w.cell? ⟨g, 0, none⟩ = some (.slice (some ⟨gm, 0, none⟩) s.length cap) := hin.blk.cell 0
  have hsl : (s.length : Int) ≤ 64 := by omega
  have Hin := hide (And.intro hin (And.intro hfit hp'))
  clear hin hlt hfit hp'
  go_enter Try.func21, Try.ntmps21
  go_wp2
  refine wp_region_df (b := ?bb) (fun w' => w'.cell? ⟨g, 2, none⟩ = some (.int .i64 now)) 8
    [0, 2, 3, 4, 5] [1, 6, 7, 8] (by kernel_rfl) (by kernel_rfl) (fun _ _ d _ _ h => by cases d <;> exact h) h2 ?reads ?acts
  case reads =>
    refine readsTo_step (a' := ?_) rfl rfl (y_move (v := .pointer (some ⟨g, 0, none⟩)) rfl rfl) ?_ ?_
    rotate_left; (simp only [Act.put, List.setIfInBounds_toArray, List.set_cons_zero, List.set_cons_succ]; rfl)
    refine readsTo_step (a' := ?_) rfl rfl (y_move (v := .pointer (some ⟨g, 0, none⟩)) rfl rfl) ?_ ?_
    rotate_left; (simp only [Act.put, List.setIfInBounds_toArray, List.set_cons_zero, List.set_cons_succ]; rfl)
    refine readsTo_step (a' := ?_) rfl rfl (y_nil rfl rfl) ?_ ?_
    rotate_left; (simp only [Act.put, List.setIfInBounds_toArray, List.set_cons_zero, List.set_cons_succ]; rfl)
    refine readsTo_step (a' := ?_) rfl rfl (y_field rfl rfl (field64_2 g)) ?_ ?_
    rotate_left; (simp only [Act.put, List.setIfInBounds_toArray, List.set_cons_zero, List.set_cons_succ]; rfl)
    refine readsTo_step (a' := ?_) rfl rfl (y_load rfl rfl Try.isAgg3 fun _ h => h) ?_ ?_
    rotate_left; (simp only [Act.put, List.setIfInBounds_toArray, List.set_cons_zero, List.set_cons_succ]; rfl)
    exact readsTo_nil _
  case acts =>
    refine actsTo_cons rfl rfl fun K hK => a_call (args := #[.pointer (some ⟨g, 0, none⟩)]) rfl rfl (fun w => by kernel_rfl) (said_any g F s rs now w.drew (Hin.out.2.2.keepN (Upd.refl _ w).drew) hrs hts) ?_
    rintro e w1 ⟨v1, rfl, hsd, hn1⟩
    have hnw1 : New w w1 := (Upd.refl _ w).drew.transNew hn1
    have h21 := (hnw1.cellN (p := ⟨g, 2, none⟩) hgl).trans h2
    refine ⟨_, rfl, hK _ _ (.inr h21) ?_⟩
    refine actsTo_cons rfl rfl fun K hK => a_run (v := .agg #[.slice none 0 0, v1, .int .i64 now]) (w' := w1) (by obtain ⟨xs, ho, _⟩ := hsd; obtain ⟨A, c, rfl⟩ := ho.row.form; kernel_rfl) (hK _ _ (.inr h21) ?_)
    have hna : New w1 (w1.alloc (.cells #[.slice none 0 0, v1, .int .i64 now] 64)) := (Upd.refl _ w1).alloc _
    refine actsTo_cons rfl rfl fun K hK => a_run (v := .pointer (some ⟨w1.heap.size, 0, none⟩)) (w' := w1.alloc (.cells #[.slice none 0 0, v1, .int .i64 now] 64)) (by obtain ⟨xs, ho, _⟩ := hsd; obtain ⟨A, c, rfl⟩ := ho.row.form; kernel_rfl) (hK _ _ (.inr ((hna.cellN (p := ⟨g, 2, none⟩) (Nat.lt_of_lt_of_le hgl hnw1.size)).trans h21)) ?_)
    refine actsTo_cons rfl rfl fun K hK => a_read (y_assign (v := .pointer (some ⟨w1.heap.size, 0, none⟩)) rfl rfl) (hK _ _ (.inl rfl) ?_)
    refine actsTo_nil ?_
    simp only [Act.put, List.setIfInBounds_toArray, List.set_cons_zero, List.set_cons_succ]
    have hpart : Part w (w1.alloc (.cells #[.slice none 0 0, v1, .int .i64 now] 64)) w1.heap.size 0 s rs now (.slice none 0 0) v1 [] :=
      { blk := Blk.new w1 _ [.slice none 0 0, v1, .int .i64 now], row := Own.nil_ _ _ _ _, rows := fun j l hj => absurd hj (Nat.not_lt_zero _), apart := fun j j' v u b h => by simp at h,
        said := by
          obtain ⟨xs, ho, hx⟩ := hsd
          refine ⟨xs, ho.new_ hna, fun j t n hj => ?_⟩
          obtain ⟨tv, k0, k1, k2⟩ := hx j t n hj
          exact ⟨tv, k0, k1, k2.new_ hna⟩
        new_ := hnw1.transNew hna, far := hnw1.size }
    obtain ⟨wa, hwa⟩ : ∃ wa, wa = w1.alloc (.cells #[.slice none 0 0, v1, .int .i64 now] 64) := ⟨_, rfl⟩
    obtain ⟨q0, hq0⟩ : ∃ q0, q0 = w1.heap.size := ⟨_, rfl⟩
    rw [← hwa, ← hq0] at hpart
    rw [← hwa, ← hq0]
    have h0a : wa.cell? ⟨g, 0, none⟩ = some (.slice (some ⟨gm, 0, none⟩) s.length cap) := (hpart.new_.cellN (p := ⟨g, 0, none⟩) hgl).trans h0
    have Hp := hide hpart
    clear hwa hq0 hna hpart h21 hnw1 hn1 hsd h2 h0
    go_wp2
    go_loopw [19] (fun i wr => ∃ (k : Nat) (vm : Value) (mv : List Value), k ≤ s.length ∧ i = .int .i64 k ∧ Part w wr q0 k s rs now vm v1 mv) (fun i _ => s.length - (intOf i).toNat)
    case atStart => exact ⟨0, _, [], by omega, rfl, Hp.out⟩
    case round =>
      obtain ⟨k, vm, mv, hk, rfl, hpt⟩ := hrel
      by_cases hlt : k < s.length
      · obtain ⟨hin, hfit, _⟩ := Hin.out
        obtain ⟨v, hv, hown, hcell⟩ := hin.at_ (List.getElem?_eq_getElem hlt)
        obtain ⟨l, hl⟩ : ∃ l, l = s[k] := ⟨_, rfl⟩
        rw [← hl] at hown
        have hsk : s[k]? = some l := by rw [hl]; exact List.getElem?_eq_getElem hlt
        have hcr : wr.cell? ⟨gm, k, none⟩ = some v := (hpt.new_.cellN (p := ⟨gm, k, none⟩) hgml).trans hcell
        have hrow := (hown.new_ hpt.new_).row
        have hlb : l.length * 32 ≤ 140737488355328 := by rw [hl]; exact hfit.at_ (List.getElem?_eq_getElem hlt)
        obtain ⟨Al, cl, rfl⟩ := hrow.form
        obtain ⟨Am, cm, rfl⟩ := hpt.row.row.form
        have hki : (k : Int) < (s.length : Int) := by omega
        have hk0 : (0 : Int) ≤ (k : Int) := by omega
        have hcq : wr.drew.cell? ⟨q0, 0, none⟩ = some (.slice Am k cm) := hpt.blk.cell 0
        have Hk := hide (And.intro hpt (And.intro hrow (And.intro hlb hsk)))
        clear hin hfit hv hown hcell hl hsk hrow hlb hpt
        go_wp2
        refine wp_region_df (b := ?bb2) (fun w' => w'.cell? ⟨q0, 0, none⟩ = some (.slice Am k cm)) 11
          [0, 1, 2, 3, 4, 5] [6, 7, 8, 9, 10, 11] (by kernel_rfl) (by kernel_rfl) (fun _ _ d _ _ h => by cases d <;> exact h) hcq ?reads2 ?acts2
        case reads2 =>
          refine readsTo_step (a' := ?_) rfl rfl (y_move (v := .pointer (some ⟨q0, 0, none⟩)) rfl rfl) ?_ ?_
          rotate_left; (simp only [Act.put, List.setIfInBounds_toArray, List.set_cons_zero, List.set_cons_succ]; rfl)
          refine readsTo_step (a' := ?_) rfl rfl (y_move (v := .pointer (some ⟨q0, 0, none⟩)) rfl rfl) ?_ ?_
          rotate_left; (simp only [Act.put, List.setIfInBounds_toArray, List.set_cons_zero, List.set_cons_succ]; rfl)
          refine readsTo_step (a' := ?_) rfl rfl (y_nil rfl rfl) ?_ ?_
          rotate_left; (simp only [Act.put, List.setIfInBounds_toArray, List.set_cons_zero, List.set_cons_succ]; rfl)
          refine readsTo_step (a' := ?_) rfl rfl (y_field rfl rfl (field64_0 q0)) ?_ ?_
          rotate_left; (simp only [Act.put, List.setIfInBounds_toArray, List.set_cons_zero, List.set_cons_succ]; rfl)
          refine readsTo_step (a' := ?_) rfl rfl (y_load rfl rfl Try.isAgg61 fun _ h => h) ?_ ?_
          rotate_left; (simp only [Act.put, List.setIfInBounds_toArray, List.set_cons_zero, List.set_cons_succ]; rfl)
          refine readsTo_step (a' := ?_) rfl rfl (y_move (v := .slice Al l.length cl) rfl rfl) ?_ ?_
          rotate_left; (simp only [Act.put, List.setIfInBounds_toArray, List.set_cons_zero, List.set_cons_succ]; rfl)
          exact readsTo_nil _
        case acts2 =>
          obtain ⟨hpt, hrow, hlb, hsk⟩ := Hk.out
          refine actsTo_cons rfl rfl fun K hK => a_call (args := #[.slice Al l.length cl]) rfl rfl (fun w => by kernel_rfl) (cloneM _ l.length (encL l) wr.drew hrow (encL_one l) hlb) ?_
          rintro e w2 ⟨v2, rfl, ho2, hn2⟩
          obtain ⟨A2, c2, rfl⟩ := ho2.row.form
          have hnw2 : New wr w2 := (Upd.refl _ wr).drew.transNew hn2
          have hql : q0 < wr.heap.size := hpt.blk.lt
          have hcq2 := (hnw2.cellN (p := ⟨q0, 0, none⟩) hql).trans hcq
          refine ⟨_, rfl, hK _ _ (.inr hcq2) ?_⟩
          simp only [Act.put, List.setIfInBounds_toArray, List.set_cons_zero, List.set_cons_succ]
          have hnb : New w2 (w2.alloc (.cells #[.slice A2 l.length c2] 34)) := (Upd.refl _ w2).alloc _
          refine actsTo_cons rfl rfl fun K hK => a_run (v := .slice (some ⟨w2.heap.size, 0, none⟩) 1 1) (w' := w2.alloc (.cells #[.slice A2 l.length c2] 34)) (by kernel_rfl) (hK _ _ (.inr ((hnb.cellN (p := ⟨q0, 0, none⟩) (Nat.lt_of_lt_of_le hql hnw2.size)).trans hcq2)) ?_)
          have hrm : RowAt (w2.alloc (.cells #[.slice A2 l.length c2] 34)) 1 (.slice (some ⟨w2.heap.size, 0, none⟩) 1 1) 1 [.slice A2 l.length c2] := RowAt.fresh w2 _ [.slice A2 l.length c2] 1 1 rfl (by omega) (by unfold maxLen; omega)
          have hone : ∀ u ∈ [Value.slice A2 l.length c2], u.oneCell' = true := by intro u hu; simp at hu; subst hu; rfl
          have hnwb := hnw2.transNew hnb
          have ho2b := ho2.new_ hnb
          have hrb := hpt.row.new_ hnwb
          obtain ⟨wb, hwb⟩ : ∃ wb, wb = w2.alloc (.cells #[.slice A2 l.length c2] 34) := ⟨_, rfl⟩
          rw [← hwb] at hnb hrm hnwb ho2b hrb ⊢
          clear hwb
          have hbs : w.heap.size ≤ wb.heap.size := Nat.le_trans hpt.new_.size hnwb.size
          simp only [Act.put, List.setIfInBounds_toArray, List.set_cons_zero, List.set_cons_succ]
          refine actsTo_cons rfl rfl fun K hK => wp_append_row wb (.tmp 27) (.tmp 30) el61 rfl w.heap.size (.slice Am k cm) k mv rfl hrb (.slice (some ⟨w2.heap.size, 0, none⟩) 1 1) 1 [.slice A2 l.length c2] rfl hrm hone (by omega) (by unfold maxLen; omega) hbs ?_
          intro v3 w3 hown3 hg3 hat3
          obtain ⟨A3, c3, rfl⟩ := hown3.row.form
          have hub : Upd (fun q => ownB (.slice Am k cm) = some q) wb w3 := (Upd.refl _ wb).grown hg3 (fun q hq => .inl hq)
          have hbb := hpt.blk.new_ hnwb
          have hneq : ∀ q, ownB (.slice Am k cm) = some q → q ≠ q0 := hrb.ne_blk hbb (by decide)
          have hb3 := hbb.upd hub (fun h => hneq _ h rfl)
          have hc3 : w3.cell? ⟨q0, 0, none⟩ = some (.slice Am k cm) := hb3.cell 0
          have hf3 := hb3.frozen 0
          refine hK _ _ (.inr hc3) ?_
          simp only [Act.put, List.setIfInBounds_toArray, List.set_cons_zero, List.set_cons_succ]
          refine actsTo_cons rfl rfl fun K hK => a_read (y_nil rfl rfl) (hK _ _ (.inr hc3) ?_)
          refine actsTo_cons rfl rfl fun K hK => a_read (y_field rfl rfl (field64_0 q0)) (hK _ _ (.inr hc3) ?_)
          refine actsTo_cons rfl rfl fun K hK => a_store (v := .slice A3 (k + 1) c3) rfl rfl rfl Try.sizeOf61 rfl rfl hc3 hf3 (hK _ _ (.inl rfl) ?_)
          refine actsTo_nil ?_
          have hu4 := Upd.cellAt w3 ⟨q0, 0, none⟩ (.slice A3 (k + 1) c3)
          have hb4 := hb3.set_ 0 (.slice A3 (k + 1) c3)
          have hsz : w.heap.size ≤ wr.heap.size := hpt.new_.size
          have hmvl : mv.length = k := by simpa using hpt.row.len
          have ho2w := (ho2b.more (base' := w.heap.size) (by simp only [World.size_drew]; exact hsz))
          have ho2lt := ho2.lt
          have hrow2 : ∀ v n xs, Own wb w.heap.size 37 4 v n xs → Own (w3.setCell ⟨q0, 0, none⟩ (.slice A3 (k + 1) c3)) w.heap.size 37 4 v n xs := fun v n xs h => by
            have h1 := h.upd hub fun q hq hq' => h.ne_own hrb (by decide) q hq hq'
            exact h1.upd hu4 fun q hq => h1.ne_blk hb3 (by decide) q hq
          have hnext : Part w (w3.setCell ⟨q0, 0, none⟩ (.slice A3 (k + 1) c3)) q0 (k + 1) s rs now (.slice A3 (k + 1) c3) v1 (mv ++ [.slice A2 l.length c2]) := by
            refine { blk := hb4, row := hown3.upd hu4 (fun q hq => hown3.ne_blk hb3 (by decide) q hq), rows := ?_, apart := ?_, said := ?_, new_ := ?_, far := hpt.far }
            · intro j l' hj hjl
              rcases Nat.lt_or_ge j k with h | h
              · obtain ⟨u, k0, k1⟩ := hpt.rows j l' h hjl
                exact ⟨u, by rw [List.getElem?_append_left (by omega)]; exact k0, hrow2 _ _ _ (k1.new_ hnwb)⟩
              · obtain rfl : j = k := by omega
                rw [hsk] at hjl
                injection hjl with hjl
                subst hjl
                exact ⟨_, by rw [List.getElem?_append_right (by omega), hmvl, Nat.sub_self]; rfl, hrow2 _ _ _ ho2w⟩
            · have hold : ∀ (j : Nat) (u : Value) (b : Nat), mv[j]? = some u → ownB u = some b → b < wr.heap.size := fun j u b hj hb => by
                have hjk : j < k := by have := (List.getElem?_eq_some_iff.1 hj).1; omega
                have hjs : j < s.length := by omega
                obtain ⟨u', k0, k1⟩ := hpt.rows j _ hjk (List.getElem?_eq_getElem hjs)
                rw [hj] at k0
                injection k0 with k0
                subst k0
                exact (k1.lt b hb).2
              have hnewb : ∀ b, ownB (.slice A2 l.length c2) = some b → wr.heap.size ≤ b := fun b hb => by have := (ho2lt b hb).1; simpa only [World.size_drew] using this
              intro i j u u' b hi hj hb hb'
              have hil : i < k + 1 := by have := (List.getElem?_eq_some_iff.1 hi).1; simp [hmvl] at this; omega
              have hjl : j < k + 1 := by have := (List.getElem?_eq_some_iff.1 hj).1; simp [hmvl] at this; omega
              rcases Nat.lt_or_ge i k with h1 | h1 <;> rcases Nat.lt_or_ge j k with h2 | h2
              · rw [List.getElem?_append_left (by omega)] at hi hj
                exact hpt.apart i j u u' b hi hj hb hb'
              · rw [List.getElem?_append_left (by omega)] at hi
                obtain rfl : j = k := by omega
                rw [List.getElem?_append_right (by omega), hmvl, Nat.sub_self] at hj
                injection hj with hj
                subst hj
                have := hold i u b hi hb
                have := hnewb b hb'
                omega
              · rw [List.getElem?_append_left (by omega)] at hj
                obtain rfl : i = k := by omega
                rw [List.getElem?_append_right (by omega), hmvl, Nat.sub_self] at hi
                injection hi with hi
                subst hi
                have := hold j u' b hj hb'
                have := hnewb b hb
                omega
              · omega
            · have hsb : SaidN wb w.heap.size v1 rs := hpt.said.upd hnwb (fun _ _ _ _ _ h => h) (fun _ _ _ _ _ _ h => h)
              have hs3 : SaidN w3 w.heap.size v1 rs := hsb.upd hub (fun xs n h q hq hq' => h.ne_own hrb (by decide) q hq hq') (fun tv n xs h q hq hq' => h.ne_own hrb (by decide) q hq hq')
              exact hs3.upd hu4 (fun xs n h q hq => h.ne_blk hb3 (by decide) q hq) (fun tv n xs h q hq => h.ne_blk hb3 (by decide) q hq)
            · have h1 : New w w3 := (hpt.new_.transNew hnwb).grown hg3 (fun q hq => .inr (hrb.lt q hq).1)
              exact h1.setCell (p := ⟨q0, 0, none⟩) (.inr hpt.far) _
          obtain ⟨w4, hw4⟩ : ∃ w4, w4 = w3.setCell ⟨q0, 0, none⟩ (.slice A3 (k + 1) c3) := ⟨_, rfl⟩
          rw [← hw4] at hnext ⊢
          have Hn := hide hnext
          clear hw4 hnext hrow2 hu4 hb4 hpt hrow hlb hsk hcq2 hcr hcq hc3 hf3 hb3 hbb hneq hub ho2w ho2lt ho2b hrb hmvl
          simp only [Act.put, List.setIfInBounds_toArray, List.set_cons_zero, List.set_cons_succ]
          go_wp2
          go_roundw
          case rel => exact ⟨k + 1, _, _, by omega, by go_num, Hn.out⟩
          case measure => simp [intOf]; omega
      · have hk' : k = s.length := by omega
        subst hk'
        clear hlt
        obtain ⟨F', hF1, hF2⟩ := hpt.post hs
        have Hf := hide (And.intro hF1 (And.intro hF2 hpt.new_))
        clear hF1 hF2 hpt
        go_wp2
        go_ret
        exact ⟨q0, F', rfl, Hf.out.1, Hf.out.2.1, Hf.out.2.2⟩
end Go.Proofs.Ytcjmapljcnmfaaa
