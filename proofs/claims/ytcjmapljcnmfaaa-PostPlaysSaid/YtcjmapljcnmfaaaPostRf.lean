/- The document's Say. Printed by wip/mkRf.py out of package post's. -/
import Derived.Test.YtcjmapljcnmfaaaPostRb
namespace Go.Proofs.Ytcjmapljcnmfaaa.R
open Go.RowKit Go.Deep
set_option linter.unusedVariables false
set_option maxHeartbeats 3200000 in
theorem say_any (g : Nat) (F : Nat → Prop) (s : Mails) (rs : List (List Int × Int)) (now : Int) (v : Value) (t : List Int) (n : Int) (w : World) (hp : PostAt w g F s rs now) (hr : RowAt w 1 v t.length (encU t)) (hb : t.length ≤ 1000000) (hrs : rs.length ≤ 1000000) :
    Calls Try.prog 39 #[.pointer (some ⟨g, 0, none⟩), v, .int .i64 n] w (IsSay g F s rs now t n w) := by
  obtain ⟨A, c, rfl⟩ := hr.form
  obtain ⟨⟨gm, cap, iv, rest, sv, hin⟩, hlt⟩ := hp
  obtain ⟨xs, ho, hFs, hx⟩ := hin.said
  obtain ⟨As, cs, rfl⟩ := ho.row.form
  have hcs : w.drew.cell? ⟨g, 1, none⟩ = some (.slice As rs.length cs) := hin.blk.cell 1
  have hgl : g < w.heap.size := hlt g hin.fg
  have Hin := hide (And.intro hin (And.intro hFs hx))
  clear hin hFs hx
  go_enter Try.func39, Try.ntmps39
  go_wp2
  refine wp_region_df (b := ?bb) (fun w' => w'.cell? ⟨g, 1, none⟩ = some (.slice As rs.length cs)) 13
    [0, 1, 2, 3, 4, 5, 7] [6, 8, 9, 10, 11, 12, 13] (by kernel_rfl) (by kernel_rfl) (fun _ _ d _ _ h => by cases d <;> exact h) hcs ?reads ?acts
  case reads =>
    refine readsTo_step (a' := ?_) rfl rfl (y_move (v := .pointer (some ⟨g, 0, none⟩)) rfl rfl) ?_ ?_
    rotate_left; (simp only [Act.put, List.setIfInBounds_toArray, List.set_cons_zero, List.set_cons_succ]; rfl)
    refine readsTo_step (a' := ?_) rfl rfl (y_move (v := .pointer (some ⟨g, 0, none⟩)) rfl rfl) ?_ ?_
    rotate_left; (simp only [Act.put, List.setIfInBounds_toArray, List.set_cons_zero, List.set_cons_succ]; rfl)
    refine readsTo_step (a' := ?_) rfl rfl (y_nil rfl rfl) ?_ ?_
    rotate_left; (simp only [Act.put, List.setIfInBounds_toArray, List.set_cons_zero, List.set_cons_succ]; rfl)
    refine readsTo_step (a' := ?_) rfl rfl (y_field rfl rfl (field64_1 g)) ?_ ?_
    rotate_left; (simp only [Act.put, List.setIfInBounds_toArray, List.set_cons_zero, List.set_cons_succ]; rfl)
    refine readsTo_step (a' := ?_) rfl rfl (y_load rfl rfl Try.isAgg73 fun _ h => h) ?_ ?_
    rotate_left; (simp only [Act.put, List.setIfInBounds_toArray, List.set_cons_zero, List.set_cons_succ]; rfl)
    refine readsTo_step (a' := ?_) rfl rfl (y_move (v := .slice A t.length c) rfl rfl) ?_ ?_
    rotate_left; (simp only [Act.put, List.setIfInBounds_toArray, List.set_cons_zero, List.set_cons_succ]; rfl)
    refine readsTo_step (a' := ?_) rfl rfl (y_move (v := .int .i64 n) rfl rfl) ?_ ?_
    rotate_left; (simp only [Act.put, List.setIfInBounds_toArray, List.set_cons_zero, List.set_cons_succ]; rfl)
    exact readsTo_nil _
  case acts =>
    refine actsTo_cons rfl rfl fun K hK => a_call (args := #[.slice A t.length c]) rfl rfl (fun w => by kernel_rfl) (copyUnits _ t.length (encU t) w.drew hr (encU_one t) hb) ?_
    rintro x w1 ⟨v1, rfl, ho1, hn1⟩
    obtain ⟨A1, c1, rfl⟩ := ho1.row.form
    have hnw1 : New w w1 := (Upd.refl _ w).drew.transNew hn1
    have hcs1 : w1.cell? ⟨g, 1, none⟩ = some (.slice As rs.length cs) := (hnw1.cellN (p := ⟨g, 1, none⟩) hgl).trans hcs
    refine ⟨_, rfl, hK _ _ (.inr hcs1) ?_⟩
    simp only [Act.put, List.setIfInBounds_toArray, List.set_cons_zero, List.set_cons_succ]
    refine actsTo_cons rfl rfl fun K hK => a_run (v := .agg #[.slice A1 t.length c1, .int .i64 n]) (w' := w1) (by kernel_rfl) (hK _ _ (.inr hcs1) ?_)
    have hnb : New w (w1.alloc (.cells #[.slice A1 t.length c1, .int .i64 n] 84)) := hnw1.alloc _
    refine actsTo_cons rfl rfl fun K hK => a_run (v := .slice (some ⟨w1.heap.size, 0, none⟩) 1 1) (w' := w1.alloc (.cells #[.slice A1 t.length c1, .int .i64 n] 84)) (by kernel_rfl) (hK _ _ (.inr ((hnb.cellN (p := ⟨g, 1, none⟩) hgl).trans hcs)) ?_)
    have hone : ∀ u ∈ [Value.slice A1 t.length c1, Value.int .i64 n], u.oneCell' = true := by intro u hu; simp at hu; rcases hu with rfl | rfl <;> rfl
    have hownb := ho.new_ hnb
    have hrowm : RowAt (w1.alloc (.cells #[.slice A1 t.length c1, .int .i64 n] 84)) 2 (.slice (some ⟨w1.heap.size, 0, none⟩) 1 1) 1 [.slice A1 t.length c1, .int .i64 n] := RowAt.fresh w1 _ [.slice A1 t.length c1, .int .i64 n] 1 1 rfl (by omega) (by unfold maxLen; omega)
    have htb := ho1.new_ ((Upd.refl (fun _ => False) w1).alloc (.cells #[.slice A1 t.length c1, .int .i64 n] 84))
    obtain ⟨wb, hwb⟩ : ∃ wb, wb = w1.alloc (.cells #[.slice A1 t.length c1, .int .i64 n] 84) := ⟨_, rfl⟩
    rw [← hwb] at hnb hownb hrowm htb ⊢
    have hwbs : w1.heap.size ≤ wb.heap.size := by rw [hwb]; simp
    clear hwb
    refine actsTo_cons rfl rfl fun K hK => wp_append_row wb (.tmp 10) (.tmp 15) elR rfl 0 (.slice As rs.length cs) rs.length xs rfl hownb (.slice (some ⟨w1.heap.size, 0, none⟩) 1 1) 1 [.slice A1 t.length c1, .int .i64 n] rfl hrowm hone (by omega) (by unfold maxLen; omega) (Nat.zero_le _) ?_
    intro v2 w2 hown2 hg2 hat2
    obtain ⟨A2, c2, rfl⟩ := hown2.row.form
    obtain ⟨hin, hFs, hx⟩ := Hin.out
    have hneg : some g ≠ ownB (.slice As rs.length cs) := fun h => hownb.ne_blk (hin.blk.new_ hnb) (by decide) g h.symm rfl
    have hgb : g < wb.heap.size := Nat.lt_of_lt_of_le hgl hnb.size
    have hc1' := (hg2.cell_far ⟨g, 1, none⟩ hgb hneg).trans ((hnb.cellN (p := ⟨g, 1, none⟩) hgl).trans hcs)
    have hf1' := (hg2.frozen_far ⟨g, 1, none⟩ hgb hneg).trans ((hnb.frozenN (p := ⟨g, 1, none⟩) hgl).trans (hin.blk.frozen 1))
    refine hK _ _ (.inr hc1') ?_
    simp only [Act.put, List.setIfInBounds_toArray, List.set_cons_zero, List.set_cons_succ]
    refine actsTo_cons rfl rfl fun K hK => a_read (y_nil rfl rfl) (hK _ _ (.inr hc1') ?_)
    refine actsTo_cons rfl rfl fun K hK => a_read (y_field rfl rfl (field64_1 g)) (hK _ _ (.inr hc1') ?_)
    refine actsTo_cons rfl rfl fun K hK => a_store (v := .slice A2 (rs.length + 1) c2) rfl rfl rfl Try.sizeOf73 rfl rfl hc1' hf1' (hK _ _ (.inl rfl) ?_)
    refine actsTo_nil ?_
    have hu02 : Upd (fun b => ownB (.slice As rs.length cs) = some b) w w2 := (hnb.ofNew _).grown hg2 (fun b hb => .inl hb)
    have hub2 : Upd (fun b => ownB (.slice As rs.length cs) = some b) wb w2 := (Upd.refl _ wb).grown hg2 (fun b hb => .inl hb)
    have hxl : xs.length = rs.length * 2 := ho.len
    have hsaid : SaidAt w2 (fun b => F b ∨ ownB (.slice A2 (rs.length + 1) c2) = some b ∨ ownB (.slice A1 t.length c1) = some b) (.slice A2 (rs.length + 1) c2) (rs ++ [(t, n)]) := by
      refine ⟨xs ++ [.slice A1 t.length c1, .int .i64 n], by simpa using hown2, fun k hk => .inr (.inl hk), fun j t' e' hj => ?_⟩
      rcases Nat.lt_or_ge j rs.length with h | h
      · rw [List.getElem?_append_left h] at hj
        obtain ⟨tv, h1, h2, h3, h4⟩ := hx j t' e' hj
        refine ⟨tv, by rw [List.getElem?_append_left (by omega)]; exact h1, by rw [List.getElem?_append_left (by omega)]; exact h2, h3.upd hu02 fun b hb hb' => h3.ne_own ho (by decide) b hb hb', fun k hk => .inl (h4 k hk)⟩
      · have hj0 : j = rs.length := by
          have := (List.getElem?_eq_some_iff.1 hj).1
          simp at this; omega
        subst hj0
        simp at hj
        obtain ⟨rfl, rfl⟩ := hj
        refine ⟨.slice A1 t.length c1, ?_, ?_, (htb.more (Nat.zero_le _)).upd hub2 fun b hb hb' => htb.ne_own hownb (by decide) b hb hb', fun k hk => .inr (.inr hk)⟩
        · rw [List.getElem?_append_right (by omega), show 2 * rs.length - xs.length = 0 by omega]; rfl
        · rw [List.getElem?_append_right (by omega), show 2 * rs.length + 1 - xs.length = 1 by omega]; rfl
    have hin3 := hin.setSaid hu02 hsaid (fun _ h => .inl h)
    have hu3 : Upd F w (w2.setCell ⟨g, 1, none⟩ (.slice A2 (rs.length + 1) c2)) := ((hnb.ofNew F).grown hg2 (fun b hb => .inl (hFs b hb))).setCell (p := ⟨g, 1, none⟩) (.inl hin.fg) _
    have hF3 : ∀ b, (F b ∨ ownB (.slice A2 (rs.length + 1) c2) = some b ∨ ownB (.slice A1 t.length c1) = some b) → F b ∨ w.heap.size ≤ b := by
      rintro b (hb | hb | hb)
      · exact .inl hb
      · rcases hat2 with h | h
        · rw [h] at hb
          exact .inl (hFs b hb)
        · rw [h] at hb
          injection hb with hb
          have := hnb.size
          exact .inr (by omega)
      · have := (ho1.lt b hb).1
        simp only [World.size_drew] at this
        exact .inr this
    have hlt3 : ∀ b, (F b ∨ ownB (.slice A2 (rs.length + 1) c2) = some b ∨ ownB (.slice A1 t.length c1) = some b) → b < (w2.setCell ⟨g, 1, none⟩ (.slice A2 (rs.length + 1) c2)).heap.size := by
      rintro b (hb | hb | hb)
      · exact Nat.lt_of_lt_of_le (hlt b hb) hu3.size
      · have := (hown2.lt b hb).2
        simpa [World.setCell] using this
      · have h1 := (htb.lt b hb).2
        have h2 := hub2.size
        have : b < w2.heap.size := by omega
        simpa [World.setCell] using this
    obtain ⟨w3, hw3⟩ : ∃ w3, w3 = w2.setCell ⟨g, 1, none⟩ (.slice A2 (rs.length + 1) c2) := ⟨_, rfl⟩
    rw [← hw3] at hin3 hu3 hlt3 ⊢
    have Hfin := hide (And.intro hin3 (And.intro hu3 (And.intro hF3 hlt3)))
    clear hw3 hin3 hu3 hF3 hlt3 hsaid hx hFs hin hcs hcs1 hc1' hf1'
    simp only [Act.put, List.setIfInBounds_toArray, List.set_cons_zero, List.set_cons_succ]
    go_wp2
    exact bodyPost_ret (v := .tuple #[]) (by simp [results, Try.results39, go_sem]) rfl ⟨rfl, _, ⟨⟨gm, cap, _, rest, _, Hfin.out.1⟩, Hfin.out.2.2.2⟩, Hfin.out.2.1, Hfin.out.2.2.1⟩
end Go.Proofs.Ytcjmapljcnmfaaa.R
