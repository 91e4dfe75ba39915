/- does: an operation of both Posts: take. Printed by wip/mkDoes.py. -/
import Derived.Test.YtcjmapljcnmfaaaPostDo
namespace Go.Proofs.Ytcjmapljcnmfaaa
open Go.RowKit Go.Deep
set_option linter.unusedVariables false
theorem R.eqlM (m : Ml) (w : World) : (binOp .eql 79 (aggM m) (aggM m)).run Try.prog w = .ok (.bool true) w := by
  have u3 := Try.underlying3
  have a3 := Try.isAgg3
  have z3 := Try.sizeOf3
  have hS : Try.prog.underlying 79 = some (.struct (Try.prog.fieldsOf 79)) := by kernel_rfl
  have hp : Try.prog.stoodInHeld 79 = false := by kernel_rfl
  simp only [aggM]
  rw [run_eql_struct, show (10000 : Nat) = 9999 + 1 from rfl, run_equalIn_agg w 9999 79 _ _ hS hp]
  simp only [Program.fieldsOf, Try.underlying79]
  go_simp
theorem R.y_eqlM {S : World → Prop} {a : Act} {o : Oper} {x y : Operand} {m : Ml} (ho : o.op = .binOp .eql 79 x y 79) (hx : a.eval x = aggM m) (hy : a.eval y = aggM m) :
    ∀ w, S w → (execOp a.eval o).run Try.prog w = .ok (.value (.bool true)) w := by
  intro w _
  have hg := run_eqGuard_agg (P := Try.prog) (w := w) .eql 79 x y #[.int .i64 m.bl, .int .i64 m.ln, .int .i64 m.by_, .int .i64 m.ev] #[.int .i64 m.bl, .int .i64 m.ln, .int .i64 m.by_, .int .i64 m.ev] (by kernel_rfl)
  have hn := R.eqlM m w
  simp only [aggM] at hn hx hy
  simp [execOp, ho, hx, hy, hg, hn]
set_option maxHeartbeats 3200000 in
theorem does_take (g gx : Nat) (F Fx : Nat → Prop) (s : Mails) (rs : List (List Int × Int)) (now : Int) (o : OpV) (w : World) (hB : Both w g gx F Fx s rs now) (hk : o.kind = 1) (hfit : Fit s) (k : Nat) (m : Ml) (r : List Ml) (hok : o.by_ = (k : Int)) (hks : k < s.length) (hm : s.getD k [] = m :: r) :
    Calls Try.prog 22 #[.pointer (some ⟨g, 0, none⟩), .pointer (some ⟨gx, 0, none⟩), opAgg o] w (IsDoes g gx F Fx (takeS s k) rs now w) := by
  obtain ⟨w0, hw0, hn0, hbx, hsz0⟩ := box32 w o
  have hB0 := hB.keepN hn0
  have hbF : ¬ (F w.heap.size ∨ Fx w.heap.size) := fun h => absurd (hB.lt _ h) (Nat.lt_irrefl _)
  have a0 : w0.cell? ⟨w.heap.size, 0, none⟩ = some (.int .i64 o.kind) := hbx.cell 0
  have a1 : w0.cell? ⟨w.heap.size, 1, none⟩ = some (.int .i64 o.by_) := hbx.cell 1
  have a2 : w0.cell? ⟨w.heap.size, 2, none⟩ = some (.int .i64 o.bl) := hbx.cell 2
  have a3 : w0.cell? ⟨w.heap.size, 3, none⟩ = some (.int .i64 o.ln) := hbx.cell 3
  have a4 : w0.cell? ⟨w.heap.size, 4, none⟩ = some (.int .i64 o.ev) := hbx.cell 4
  have a5 : w0.cell? ⟨w.heap.size, 5, none⟩ = some (.int .i64 o.n) := hbx.cell 5
  have a6 : w0.cell? ⟨w.heap.size, 6, none⟩ = some o.tv := hbx.cell 6
  have a7 : w0.cell? ⟨w.heap.size, 7, none⟩ = some o.xv := hbx.cell 7
  have H0 := hide (And.intro hB0 (And.intro hbx (And.intro hbF (And.intro hsz0 hn0))))
  clear hB hB0 hbx hbF hsz0 hn0
  rw [hk] at hw0 a0
  rw [hok] at hw0 a1
  unfold opAgg
  go_enter Try.func22, Try.ntmps22
  go_wp2_with fail
  rw [← hw0]
  clear hw0
  refine (take_yes g F s rs now k m r w0 H0.out.1.p hfit hks hm).mono ?_
  rintro e w1 ⟨rfl, F1, hp1, hu1, hf1⟩
  unfold aggM
  have hbx1 := H0.out.2.1.upd hu1 (fun h => H0.out.2.2.1 (.inl h))
  have hb1 : Blk (w1.alloc (.cells #[.int .i64 m.bl, .int .i64 m.ln, .int .i64 m.by_, .int .i64 m.ev] 37)) w1.heap.size 37 (encM m) := Blk.new w1 _ (encM m)
  have hna : New w1 (w1.alloc (.cells #[.int .i64 m.bl, .int .i64 m.ln, .int .i64 m.by_, .int .i64 m.ev] 37)) := (Upd.refl _ _).alloc _
  have d1 : (w1.alloc (.cells #[.int .i64 m.bl, .int .i64 m.ln, .int .i64 m.by_, .int .i64 m.ev] 37)).cell? ⟨w.heap.size, 1, none⟩ = some (.int .i64 (k : Int)) := (by first | exact (hbx1.new_ hna).cell 1 | (rw [← hok]; exact (hbx1.new_ hna).cell 1))
  have H1 := hide (And.intro hp1 (And.intro hu1 (And.intro hf1 (And.intro hna (And.intro hb1 hbx1)))))
  clear hp1 hu1 hf1 hna hb1 hbx1
  go_wp2_with (first
    | (go_at_call 12; fail)
    | (go_at_call 35
       refine (R.take_yes gx Fx s rs now k m r _ ((H0.out.1.x.keep H1.out.2.1 (fun q hx hq => H0.out.1.d q hq hx)).keepN H1.out.2.2.2.1) hfit hks hm).mono ?_
       rintro e w2 ⟨rfl, Fx2, hp2, hu2, hf2⟩
       unfold aggM
       have hq1 : ¬ Fx w1.heap.size := fun h => by
         have h1 := H0.out.1.x.2 _ h
         have h2 := H1.out.2.1.size
         omega
       have hb12 := H1.out.2.2.2.2.1.upd hu2 hq1
       have H2 := hide (And.intro hp2 (And.intro hu2 (And.intro hf2 hb12)))
       clear hp2 hu2 hf2 hb12))
  have hnb : New w2 (w2.alloc (.cells #[.int .i64 m.bl, .int .i64 m.ln, .int .i64 m.by_, .int .i64 m.ev] 79)) := (Upd.refl _ _).alloc _
  have hb2 : Blk (w2.alloc (.cells #[.int .i64 m.bl, .int .i64 m.ln, .int .i64 m.by_, .int .i64 m.ev] 79)) w2.heap.size 79 (encM m) := Blk.new w2 _ (encM m)
  obtain ⟨w4, hw4⟩ : ∃ w4, w4 = w2.alloc (.cells #[.int .i64 m.bl, .int .i64 m.ln, .int .i64 m.by_, .int .i64 m.ev] 79) := ⟨_, rfl⟩
  rw [← hw4] at hnb hb2
  rw [← hw4]
  have Hm := hide (And.intro (H2.out.2.2.2.new_ hnb) hb2)
  have Hnb := hide hnb
  clear hw4 hnb hb2
  refine wp_region_dm (fun w' => New w4 w') [(0, true), (2, true), (1, false), (3, true), (4, true), (5, true), (6, true), (7, true), (8, true), (9, true)] (by kernel_rfl) (by kernel_rfl) (fun _ _ d _ _ h => by cases d <;> exact h) (Upd.refl _ w4).drew ?_
  refine st_take (a' := ?_) rfl rfl (y_load4 rfl rfl Try.isAgg37 Try.sizeOf37 fun _ h => ⟨((Hm.out.1.new_ h).cell 0), ((Hm.out.1.new_ h).cell 1), ((Hm.out.1.new_ h).cell 2), ((Hm.out.1.new_ h).cell 3)⟩) ?_ ?_
  rotate_left; (simp only [Act.put, List.setIfInBounds_toArray, List.set_cons_zero, List.set_cons_succ]; rfl)
  refine st_take (a' := ?_) rfl rfl (y_load4 rfl rfl Try.isAgg79 Try.sizeOf79 fun _ h => ⟨((Hm.out.2.new_ h).cell 0), ((Hm.out.2.new_ h).cell 1), ((Hm.out.2.new_ h).cell 2), ((Hm.out.2.new_ h).cell 3)⟩) ?_ ?_
  rotate_left; (simp only [Act.put, List.setIfInBounds_toArray, List.set_cons_zero, List.set_cons_succ]; rfl)
  refine st_act rfl rfl fun K hK => a_call (args := #[aggM m]) rfl rfl (fun w => by kernel_rfl) (mail_any m w4.drew) ?_
  rintro e wq ⟨rfl, hq0⟩
  have hqn := (show New w4 _ from (Upd.refl _ w4).drew).transNew hq0
  refine ⟨_, rfl, hK _ _ hqn ?_⟩
  simp only [Act.put, List.setIfInBounds_toArray, List.set_cons_zero, List.set_cons_succ]
  refine st_take (a' := ?_) rfl rfl (R.y_eqlM (m := m) rfl rfl rfl) ?_ ?_
  rotate_left; (simp only [Act.put, List.setIfInBounds_toArray, List.set_cons_zero, List.set_cons_succ]; rfl)
  refine st_take (a' := ?_) rfl rfl (y_move (v := .bool true) rfl rfl) ?_ ?_
  rotate_left; (simp only [Act.put, List.setIfInBounds_toArray, List.set_cons_zero, List.set_cons_succ]; rfl)
  refine st_take (a' := ?_) rfl rfl (y_move (v := .bool true) rfl rfl) ?_ ?_
  rotate_left; (simp only [Act.put, List.setIfInBounds_toArray, List.set_cons_zero, List.set_cons_succ]; rfl)
  refine st_take (a' := ?_) rfl rfl (y_move (v := .bool true) rfl rfl) ?_ ?_
  rotate_left; (simp only [Act.put, List.setIfInBounds_toArray, List.set_cons_zero, List.set_cons_succ]; rfl)
  refine st_take (a' := ?_) rfl rfl (y_run (v := .bool true) fun w => by kernel_rfl) ?_ ?_
  rotate_left; (simp only [Act.put, List.setIfInBounds_toArray, List.set_cons_zero, List.set_cons_succ]; rfl)
  refine st_take (a' := ?_) rfl rfl (y_pick (b := true) (v := .bool true) rfl rfl rfl) ?_ ?_
  rotate_left; (simp only [Act.put, List.setIfInBounds_toArray, List.set_cons_zero, List.set_cons_succ]; rfl)
  refine st_take (a' := ?_) rfl rfl (y_assign (v := .bool true) rfl rfl) ?_ ?_
  rotate_left; (simp only [Act.put, List.setIfInBounds_toArray, List.set_cons_zero, List.set_cons_succ]; rfl)
  refine st_nil ?_
  have Hqn := hide hqn
  clear hqn
  go_wp2
  go_ret
  have hall := H0.out.1.next H1.out.1 H1.out.2.1 H1.out.2.2.1 H1.out.2.2.2.1 H2.out.1 H2.out.2.1 H2.out.2.2.1
  have hnn := Hnb.out.transNew Hqn.out
  exact .of H0.out.2.2.2.2 ⟨hall.1.keepN hnn, hall.2.1.transNew hnn, hall.2.2⟩

set_option maxHeartbeats 3200000 in
theorem does_takeNo (g gx : Nat) (F Fx : Nat → Prop) (s : Mails) (rs : List (List Int × Int)) (now : Int) (o : OpV) (w : World) (hB : Both w g gx F Fx s rs now) (hk : o.kind = 1) (hfit : Fit s) (hno : isAg s o.by_ = false ∨ s.getD o.by_.toNat [] = []) :
    Calls Try.prog 22 #[.pointer (some ⟨g, 0, none⟩), .pointer (some ⟨gx, 0, none⟩), opAgg o] w (IsDoes g gx F Fx s rs now w) := by
  obtain ⟨w0, hw0, hn0, hbx, hsz0⟩ := box32 w o
  have hB0 := hB.keepN hn0
  have hbF : ¬ (F w.heap.size ∨ Fx w.heap.size) := fun h => absurd (hB.lt _ h) (Nat.lt_irrefl _)
  have a0 : w0.cell? ⟨w.heap.size, 0, none⟩ = some (.int .i64 o.kind) := hbx.cell 0
  have a1 : w0.cell? ⟨w.heap.size, 1, none⟩ = some (.int .i64 o.by_) := hbx.cell 1
  have a2 : w0.cell? ⟨w.heap.size, 2, none⟩ = some (.int .i64 o.bl) := hbx.cell 2
  have a3 : w0.cell? ⟨w.heap.size, 3, none⟩ = some (.int .i64 o.ln) := hbx.cell 3
  have a4 : w0.cell? ⟨w.heap.size, 4, none⟩ = some (.int .i64 o.ev) := hbx.cell 4
  have a5 : w0.cell? ⟨w.heap.size, 5, none⟩ = some (.int .i64 o.n) := hbx.cell 5
  have a6 : w0.cell? ⟨w.heap.size, 6, none⟩ = some o.tv := hbx.cell 6
  have a7 : w0.cell? ⟨w.heap.size, 7, none⟩ = some o.xv := hbx.cell 7
  have H0 := hide (And.intro hB0 (And.intro hbx (And.intro hbF (And.intro hsz0 hn0))))
  clear hB hB0 hbx hbF hsz0 hn0
  rw [hk] at hw0 a0
  obtain ⟨m, hm⟩ : ∃ m : Ml, m = ⟨0, 0, 0, 0⟩ := ⟨_, rfl⟩
  have Hm0 := hide hm
  clear hm
  unfold opAgg
  go_enter Try.func22, Try.ntmps22
  go_wp2_with fail
  rw [← hw0]
  clear hw0
  refine (take_no g F s rs now o.by_ w0 H0.out.1.p hno).mono ?_
  rintro e w1 ⟨rfl, hn1⟩
  rw [← Hm0.out]
  unfold aggM
  have hp1 := H0.out.1.p.keepN hn1
  have hu1 : Upd F w0 w1 := hn1.ofNew F
  have hf1 : ∀ q, F q → F q ∨ w0.heap.size ≤ q := fun q hq => .inl hq
  have hbx1 := H0.out.2.1.upd hu1 (fun h => H0.out.2.2.1 (.inl h))
  have hb1 : Blk (w1.alloc (.cells #[.int .i64 m.bl, .int .i64 m.ln, .int .i64 m.by_, .int .i64 m.ev] 37)) w1.heap.size 37 (encM m) := Blk.new w1 _ (encM m)
  have hna : New w1 (w1.alloc (.cells #[.int .i64 m.bl, .int .i64 m.ln, .int .i64 m.by_, .int .i64 m.ev] 37)) := (Upd.refl _ _).alloc _
  have d1 : (w1.alloc (.cells #[.int .i64 m.bl, .int .i64 m.ln, .int .i64 m.by_, .int .i64 m.ev] 37)).cell? ⟨w.heap.size, 1, none⟩ = some (.int .i64 o.by_) := (by first | exact (hbx1.new_ hna).cell 1 | (rw [← hok]; exact (hbx1.new_ hna).cell 1))
  have H1 := hide (And.intro hp1 (And.intro hu1 (And.intro hf1 (And.intro hna (And.intro hb1 hbx1)))))
  clear hp1 hu1 hf1 hna hb1 hbx1
  go_wp2_with (first
    | (go_at_call 12; fail)
    | (go_at_call 35
       refine (R.take_no gx Fx s rs now o.by_ _ ((H0.out.1.x.keep H1.out.2.1 (fun q hx hq => H0.out.1.d q hq hx)).keepN H1.out.2.2.2.1) hno).mono ?_
       rintro e w2 ⟨rfl, hn2⟩
       rw [← Hm0.out]
       unfold aggM
       have hp2 := ((H0.out.1.x.keep H1.out.2.1 (fun q hx hq => H0.out.1.d q hq hx)).keepN H1.out.2.2.2.1).keepN hn2
       have hu2 : Upd Fx (w1.alloc (.cells #[.int .i64 m.bl, .int .i64 m.ln, .int .i64 m.by_, .int .i64 m.ev] 37)) w2 := hn2.ofNew Fx
       have hf2 : ∀ q, Fx q → Fx q ∨ ((w1.alloc (.cells #[.int .i64 m.bl, .int .i64 m.ln, .int .i64 m.by_, .int .i64 m.ev] 37))).heap.size ≤ q := fun q hq => .inl hq
       have hq1 : ¬ Fx w1.heap.size := fun h => by
         have h1 := H0.out.1.x.2 _ h
         have h2 := H1.out.2.1.size
         omega
       have hb12 := H1.out.2.2.2.2.1.upd hu2 hq1
       have H2 := hide (And.intro hp2 (And.intro hu2 (And.intro hf2 hb12)))
       clear hp2 hu2 hf2 hb12))
  have hnb : New w2 (w2.alloc (.cells #[.int .i64 m.bl, .int .i64 m.ln, .int .i64 m.by_, .int .i64 m.ev] 79)) := (Upd.refl _ _).alloc _
  have hb2 : Blk (w2.alloc (.cells #[.int .i64 m.bl, .int .i64 m.ln, .int .i64 m.by_, .int .i64 m.ev] 79)) w2.heap.size 79 (encM m) := Blk.new w2 _ (encM m)
  obtain ⟨w4, hw4⟩ : ∃ w4, w4 = w2.alloc (.cells #[.int .i64 m.bl, .int .i64 m.ln, .int .i64 m.by_, .int .i64 m.ev] 79) := ⟨_, rfl⟩
  rw [← hw4] at hnb hb2
  rw [← hw4]
  have Hm := hide (And.intro (H2.out.2.2.2.new_ hnb) hb2)
  have Hnb := hide hnb
  clear hw4 hnb hb2
  refine wp_region_dm (fun w' => New w4 w') [(0, true), (2, true), (1, false), (3, true), (4, true), (5, true), (6, true), (7, true), (8, true), (9, true)] (by kernel_rfl) (by kernel_rfl) (fun _ _ d _ _ h => by cases d <;> exact h) (Upd.refl _ w4).drew ?_
  refine st_take (a' := ?_) rfl rfl (y_load4 rfl rfl Try.isAgg37 Try.sizeOf37 fun _ h => ⟨((Hm.out.1.new_ h).cell 0), ((Hm.out.1.new_ h).cell 1), ((Hm.out.1.new_ h).cell 2), ((Hm.out.1.new_ h).cell 3)⟩) ?_ ?_
  rotate_left; (simp only [Act.put, List.setIfInBounds_toArray, List.set_cons_zero, List.set_cons_succ]; rfl)
  refine st_take (a' := ?_) rfl rfl (y_load4 rfl rfl Try.isAgg79 Try.sizeOf79 fun _ h => ⟨((Hm.out.2.new_ h).cell 0), ((Hm.out.2.new_ h).cell 1), ((Hm.out.2.new_ h).cell 2), ((Hm.out.2.new_ h).cell 3)⟩) ?_ ?_
  rotate_left; (simp only [Act.put, List.setIfInBounds_toArray, List.set_cons_zero, List.set_cons_succ]; rfl)
  refine st_act rfl rfl fun K hK => a_call (args := #[aggM m]) rfl rfl (fun w => by kernel_rfl) (mail_any m w4.drew) ?_
  rintro e wq ⟨rfl, hq0⟩
  have hqn := (show New w4 _ from (Upd.refl _ w4).drew).transNew hq0
  refine ⟨_, rfl, hK _ _ hqn ?_⟩
  simp only [Act.put, List.setIfInBounds_toArray, List.set_cons_zero, List.set_cons_succ]
  refine st_take (a' := ?_) rfl rfl (R.y_eqlM (m := m) rfl rfl rfl) ?_ ?_
  rotate_left; (simp only [Act.put, List.setIfInBounds_toArray, List.set_cons_zero, List.set_cons_succ]; rfl)
  refine st_take (a' := ?_) rfl rfl (y_move (v := .bool true) rfl rfl) ?_ ?_
  rotate_left; (simp only [Act.put, List.setIfInBounds_toArray, List.set_cons_zero, List.set_cons_succ]; rfl)
  refine st_take (a' := ?_) rfl rfl (y_move (v := .bool false) rfl rfl) ?_ ?_
  rotate_left; (simp only [Act.put, List.setIfInBounds_toArray, List.set_cons_zero, List.set_cons_succ]; rfl)
  refine st_take (a' := ?_) rfl rfl (y_move (v := .bool false) rfl rfl) ?_ ?_
  rotate_left; (simp only [Act.put, List.setIfInBounds_toArray, List.set_cons_zero, List.set_cons_succ]; rfl)
  refine st_take (a' := ?_) rfl rfl (y_run (v := .bool true) fun w => by kernel_rfl) ?_ ?_
  rotate_left; (simp only [Act.put, List.setIfInBounds_toArray, List.set_cons_zero, List.set_cons_succ]; rfl)
  refine st_take (a' := ?_) rfl rfl (y_pick (b := true) (v := .bool true) rfl rfl rfl) ?_ ?_
  rotate_left; (simp only [Act.put, List.setIfInBounds_toArray, List.set_cons_zero, List.set_cons_succ]; rfl)
  refine st_take (a' := ?_) rfl rfl (y_assign (v := .bool true) rfl rfl) ?_ ?_
  rotate_left; (simp only [Act.put, List.setIfInBounds_toArray, List.set_cons_zero, List.set_cons_succ]; rfl)
  refine st_nil ?_
  have Hqn := hide hqn
  clear hqn
  go_wp2
  go_ret
  have hall := H0.out.1.next H1.out.1 H1.out.2.1 H1.out.2.2.1 H1.out.2.2.2.1 H2.out.1 H2.out.2.1 H2.out.2.2.1
  have hnn := Hnb.out.transNew Hqn.out
  exact .of H0.out.2.2.2.2 ⟨hall.1.keepN hnn, hall.2.1.transNew hnn, hall.2.2⟩
end Go.Proofs.Ytcjmapljcnmfaaa
