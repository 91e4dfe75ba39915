/- copied: a report with a text of its own. -/
import Derived.Test.YtcjmapljcnmfaaaPostP
namespace Go.Proofs.Ytcjmapljcnmfaaa
open Go.RowKit Go.Deep
def IsCopied (t : List Int) (e : Int) (w : World) (x : Ending) (w' : World) : Prop :=
  ∃ A c, x = .returned (.agg #[.slice A t.length c, .int .i64 e]) ∧ Own w' w.heap.size 71 1 (.slice A t.length c) t.length (encU t) ∧ New w w'
theorem fieldR_0 (g : Nat) (w : World) : (Instr.fieldAt 47 (.pointer (some ⟨g, 0, none⟩)) 0).run Try.prog w = .ok (.pointer (some ⟨g, 0, none⟩)) w := by kernel_rfl
theorem fieldR_1 (g : Nat) (w : World) : (Instr.fieldAt 47 (.pointer (some ⟨g, 0, none⟩)) 1).run Try.prog w = .ok (.pointer (some ⟨g, 1, none⟩)) w := by kernel_rfl
theorem encU_one (t : List Int) : ∀ u ∈ encU t, u.oneCell' = true := by
  intro u hu
  obtain ⟨x, _, rfl⟩ := List.mem_map.1 hu
  rfl
section
variable {P : Program} {Q : Exit → Act → World → Prop}
theorem a_store2 {o : Oper} {a : Act} {t : TypeId} {x y : Operand} {b off : Nat} {u0 u1 v0 v1 : Value} {K : Act → World → Prop} {w : World} (ho : o.op = .store t x y) (hx : a.eval x = .pointer (some ⟨b, off, none⟩)) (hy : a.eval y = .agg #[v0, v1]) (hs : ∀ w, (sizeOf t).run P w = .ok 2 w)
    (hv : (Value.agg #[v0, v1]).cells = #[v0, v1]) (h0 : v0.oneCell' = true) (h1 : v1.oneCell' = true) (hc0 : w.cell? ⟨b, off, none⟩ = some u0) (hf0 : w.frozen? ⟨b, off, none⟩ = false)
    (hc1 : (w.setCell ⟨b, off, none⟩ v0).cell? ⟨b, off + 1, none⟩ = some u1) (hf1 : (w.setCell ⟨b, off, none⟩ v0).frozen? ⟨b, off + 1, none⟩ = false)
    (h : K (a.put o.dst undef) ((w.setCell ⟨b, off, none⟩ v0).setCell ⟨b, off + 1, none⟩ v1)) : o.wp P a w K Q := by
  unfold Oper.wp
  have hst0 : (store ⟨b, off, none⟩ v0).run P w = .ok () (w.setCell ⟨b, off, none⟩ v0) := by
    rw [run_store P w _ v0 _ h0]
    simp [hc0, hf0]
  have hst1 : (store ⟨b, off + 1, none⟩ v1).run P (w.setCell ⟨b, off, none⟩ v0) = .ok () ((w.setCell ⟨b, off, none⟩ v0).setCell ⟨b, off + 1, none⟩ v1) := by
    rw [run_store P _ _ v1 _ h1]
    simp [hc1, hf1]
  have hadd : (⟨b, off, none⟩ : Addr).add 1 = ⟨b, off + 1, none⟩ := by simp [Addr.add]
  have hadd0 : (⟨b, off, none⟩ : Addr).add 0 = ⟨b, off, none⟩ := by simp [Addr.add]
  simp [execOp, ho, hx, hy, Instr.storeAt, Instr.sureAddr, storeVar, hs, hv, storeCells, hadd, hadd0, hst0, hst1, Oper.upon_skip, h]
end
set_option maxHeartbeats 1600000 in
theorem copied_any (v : Value) (t : List Int) (e : Int) (w : World) (hr : RowAt w 1 v t.length (encU t)) (hb : t.length ≤ 1000000) :
    Calls Try.prog 29 #[.agg #[v, .int .i64 e]] w (IsCopied t e w) := by
  obtain ⟨A, c, rfl⟩ := hr.form
  go_enter Try.func29, Try.ntmps29
  go_wp2
  obtain ⟨w1, hw1⟩ : ∃ w1, w1 = (w.alloc (.cells #[.slice A t.length c, .int .i64 e] 47)).alloc (.cells #[.slice none 0 0, .int .i64 0] 47) := ⟨_, rfl⟩
  have hn1 : New w w1 := by rw [hw1]; exact ((Upd.refl _ _).alloc _).alloc _
  have hb1 : Blk w1 w.heap.size 47 [.slice A t.length c, .int .i64 e] := by rw [hw1]; exact (Blk.new w _ _).alloc _
  have hb2 : Blk w1 (w.heap.size + 1) 47 [.slice none 0 0, .int .i64 0] := by
    rw [hw1]
    have := Blk.new (w.alloc (.cells #[.slice A t.length c, .int .i64 e] 47)) 47 [.slice none 0 0, .int .i64 0]
    simpa using this
  rw [← hw1]
  clear hw1
  have hlt2 := hb2.lt
  obtain ⟨q1, hq1⟩ : ∃ q1, q1 = w.heap.size := ⟨_, rfl⟩
  obtain ⟨q2, hq2⟩ : ∃ q2, q2 = w.heap.size + 1 := ⟨_, rfl⟩
  rw [← hq2] at hb2 hlt2 ⊢
  rw [← hq1] at hb1 ⊢
  have Hq := hide (And.intro hq1 hq2)
  clear hq1 hq2
  have hr1 := hr.new_ hn1
  have hfacts : w1.drew.cell? ⟨q1, 0, none⟩ = some (.slice A t.length c) ∧ w1.drew.cell? ⟨q1, 1, none⟩ = some (.int .i64 e) := ⟨hb1.cell 0, hb1.cell 1⟩
  refine wp_region_df (b := ?bb) (fun w' => w'.cell? ⟨q1, 0, none⟩ = some (.slice A t.length c) ∧ w'.cell? ⟨q1, 1, none⟩ = some (.int .i64 e)) 6
    [0, 1, 3, 4] [2, 5, 6] (by kernel_rfl) (by kernel_rfl) (fun _ _ d _ _ h => by cases d <;> exact h) hfacts ?reads ?acts
  case reads =>
    refine readsTo_step (a' := ?_) rfl rfl (y_field rfl rfl (fieldR_0 q1)) ?_ ?_
    rotate_left; (simp only [Act.put, List.setIfInBounds_toArray, List.set_cons_zero, List.set_cons_succ]; rfl)
    refine readsTo_step (a' := ?_) rfl rfl (y_load rfl rfl Try.isAgg30 fun _ h => h.1) ?_ ?_
    rotate_left; (simp only [Act.put, List.setIfInBounds_toArray, List.set_cons_zero, List.set_cons_succ]; rfl)
    refine readsTo_step (a' := ?_) rfl rfl (y_field rfl rfl (fieldR_1 q1)) ?_ ?_
    rotate_left; (simp only [Act.put, List.setIfInBounds_toArray, List.set_cons_zero, List.set_cons_succ]; rfl)
    refine readsTo_step (a' := ?_) rfl rfl (y_load rfl rfl Try.isAgg3 fun _ h => h.2) ?_ ?_
    rotate_left; (simp only [Act.put, List.setIfInBounds_toArray, List.set_cons_zero, List.set_cons_succ]; rfl)
    exact readsTo_nil _
  case acts =>
    refine actsTo_cons rfl rfl fun K hK => a_call (args := #[.slice A t.length c]) rfl rfl (fun w => by kernel_rfl) (cloneU _ t.length (encU t) w1.drew hr1 (encU_one t) (by omega)) ?_
    rintro x w2 ⟨v2, rfl, ho2, hn2⟩
    obtain ⟨A2, c2, rfl⟩ := ho2.row.form
    have hb12 := hb1.drew.new_ hn2
    have hb22 := hb2.drew.new_ hn2
    refine ⟨_, rfl, hK _ _ (.inr ⟨hb12.cell 0, hb12.cell 1⟩) ?_⟩
    refine actsTo_cons rfl rfl fun K hK => a_run (v := .agg #[.slice A2 t.length c2, .int .i64 e]) (w' := w2) (by kernel_rfl) (hK _ _ (.inr ⟨hb12.cell 0, hb12.cell 1⟩) ?_)
    have hb23 := hb22.set_ 0 (.slice A2 t.length c2)
    refine actsTo_cons rfl rfl fun K hK => a_store2 (b := q2) (off := 0) (v0 := .slice A2 t.length c2) (v1 := .int .i64 e) rfl rfl rfl Try.sizeOf47 rfl rfl rfl (hb22.cell 0) (hb22.frozen 0) (hb23.cell 1) (hb23.frozen 1) (hK _ _ (.inl rfl) ?_)
    refine actsTo_nil ?_
    have hb24 := hb23.set_ 1 (.int .i64 e)
    have hu4 : Upd (fun q => q = q2) w2 ((w2.setCell ⟨q2, 0, none⟩ (.slice A2 t.length c2)).setCell ⟨q2, 0 + 1, none⟩ (.int .i64 e)) := ((Upd.refl (fun q => q = q2) w2).setCell (p := ⟨q2, 0, none⟩) (.inl rfl) _).setCell (p := ⟨q2, 0 + 1, none⟩) (.inl rfl) _
    have ho4 := ho2.upd hu4 (fun q hq hqe => by have := (ho2.lt q hq).1; simp only [World.size_drew] at this; omega)
    have hnew : New w ((w2.setCell ⟨q2, 0, none⟩ (.slice A2 t.length c2)).setCell ⟨q2, 0 + 1, none⟩ (.int .i64 e)) :=
      ((hn1.drew).transNew hn2).trans hu4 fun i hi hq => by have := Hq.out.2; omega
    have hsz : w.heap.size ≤ w1.heap.size := hn1.size
    obtain ⟨w4, hw4⟩ : ∃ w4, w4 = (w2.setCell ⟨q2, 0, none⟩ (.slice A2 t.length c2)).setCell ⟨q2, 0 + 1, none⟩ (.int .i64 e) := ⟨_, rfl⟩
    have hb25 : Blk w4 q2 47 [.slice A2 t.length c2, .int .i64 e] := by rw [hw4]; exact hb24
    rw [← hw4] at ho4 hnew ⊢
    clear hw4 hb24 hb23 hb22 hb12 hu4 hfacts
    have c0 : w4.cell? ⟨q2, 0, none⟩ = some (.slice A2 t.length c2) := hb25.cell 0
    have c1 : w4.cell? ⟨q2, 1, none⟩ = some (.int .i64 e) := hb25.cell 1
    simp only [Act.put, List.setIfInBounds_toArray, List.set_cons_zero, List.set_cons_succ]
    go_wp2
    exact bodyPost_ret (v := .agg #[.slice A2 t.length c2, .int .i64 e]) (by simp [results, Try.results29, go_sem, c0, c1]) rfl ⟨A2, c2, rfl, ho4.more (by simp only [World.size_drew]; exact hsz), hnew⟩
end Go.Proofs.Ytcjmapljcnmfaaa
