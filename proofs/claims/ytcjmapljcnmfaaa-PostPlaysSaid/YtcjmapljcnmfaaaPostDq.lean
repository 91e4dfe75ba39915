/- does: an operation of both Posts: hear. Printed by wip/mkDoes.py. -/
import Derived.Test.YtcjmapljcnmfaaaPostDo
namespace Go.Proofs.Ytcjmapljcnmfaaa
open Go.RowKit Go.Deep
set_option linter.unusedVariables false
set_option maxHeartbeats 3200000 in
theorem does_hear (g gx : Nat) (F Fx : Nat → Prop) (s : Mails) (rs : List (List Int × Int)) (now : Int) (o : OpV) (w : World) (t : List Int) (n : Int) (hB : Both w g gx F Fx s ((t, n) :: rs) now) (hk : o.kind = 4) (htl : t.length ≤ 1000000) (hrl : rs.length ≤ 1000000) :
    Calls Try.prog 22 #[.pointer (some ⟨g, 0, none⟩), .pointer (some ⟨gx, 0, none⟩), opAgg o] w (IsDoes g gx F Fx s rs now w) := by
  obtain ⟨w0, hw0, hn0, hbx, hsz0⟩ := box32 w o
  have hB0 := hB.keepN hn0
  have hbF : ¬ (F w.heap.size ∨ Fx w.heap.size) := fun h => absurd (hB.lt _ h) (Nat.lt_irrefl _)
  have a0 : w0.cell? ⟨w.heap.size, 0, none⟩ = some (.int .i64 o.kind) := hbx.cell 0
  have a1 : w0.cell? ⟨w.heap.size, 1, none⟩ = some (.int .i64 o.by_) := hbx.cell 1
  have a2 : w0.cell? ⟨w.heap.size, 2, none⟩ = some (.int .i64 o.bl) := hbx.cell 2
  have a3 : w0.cell? ⟨w.heap.size, 3, none⟩ = some (.int .i64 o.ln) := hbx.cell 3
  have a4 : w0.cell? ⟨w.heap.size, 4, none⟩ = some (.int .i64 o.ev) := hbx.cell 4
  have a5 : w0.cell? ⟨w.heap.size, 5, none⟩ = some (.int .i64 o.n) := hbx.cell 5
  have a6 : w0.cell? ⟨w.heap.size, 6, none⟩ = some o.tv := hbx.cell 6
  have a7 : w0.cell? ⟨w.heap.size, 7, none⟩ = some o.xv := hbx.cell 7
  have H0 := hide (And.intro hB0 (And.intro hbx (And.intro hbF (And.intro hsz0 hn0))))
  clear hB hB0 hbx hbF hsz0 hn0
  rw [hk] at hw0 a0
  unfold opAgg
  go_enter Try.func22, Try.ntmps22
  go_wp2_with fail
  rw [← hw0]
  clear hw0
  refine (hear_yes g F s rs now t n w0 H0.out.1.p htl hrl).mono ?_
  rintro e w1 ⟨A1, c1, rfl, hot, F1, hp1, hu1, hf1, _⟩
  have hna : New w1 (w1.alloc (.cells #[.slice A1 t.length c1, .int .i64 n] 47)) := (Upd.refl _ _).alloc _
  have hb1 : Blk (w1.alloc (.cells #[.slice A1 t.length c1, .int .i64 n] 47)) w1.heap.size 47 [.slice A1 t.length c1, .int .i64 n] := Blk.new w1 _ [.slice A1 t.length c1, .int .i64 n]
  have H1 := hide (And.intro hp1 (And.intro hu1 (And.intro hf1 (And.intro hna (And.intro hb1 hot)))))
  clear hp1 hu1 hf1 hna hb1 hot
  go_wp2_with (first
    | (go_at_call 17; fail)
    | (go_at_call 40
       refine (R.hear_yes gx Fx s rs now t n _ ((H0.out.1.x.keep H1.out.2.1 (fun q hx hq => H0.out.1.d q hq hx)).keepN H1.out.2.2.2.1) htl hrl).mono ?_
       rintro e w2 ⟨A2, c2, rfl, hr2, Fx2, hp2, hu2, hf2⟩
       have hq1 : ¬ Fx w1.heap.size := fun h => by
         have h1 := H0.out.1.x.2 _ h
         have h2 := H1.out.2.1.size
         omega
       have hb12 := H1.out.2.2.2.2.1.upd hu2 hq1
       have hnb : New w2 (w2.alloc (.cells #[.slice A2 t.length c2, .int .i64 n] 84)) := (Upd.refl _ _).alloc _
       have hb13 := hb12.new_ hnb
       have hb2 : Blk (w2.alloc (.cells #[.slice A2 t.length c2, .int .i64 n] 84)) w2.heap.size 84 [.slice A2 t.length c2, .int .i64 n] := Blk.new w2 _ [.slice A2 t.length c2, .int .i64 n]
       have d0 : (w2.alloc (.cells #[.slice A2 t.length c2, .int .i64 n] 84)).cell? ⟨w1.heap.size, 0, none⟩ = some (.slice A1 t.length c1) := hb13.cell 0
       have d1 : (w2.alloc (.cells #[.slice A2 t.length c2, .int .i64 n] 84)).cell? ⟨w1.heap.size, 1, none⟩ = some (.int .i64 n) := hb13.cell 1
       have e1 : (w2.alloc (.cells #[.slice A2 t.length c2, .int .i64 n] 84)).cell? ⟨w2.heap.size, 1, none⟩ = some (.int .i64 n) := hb2.cell 1
       have H2 := hide (And.intro hp2 (And.intro hu2 (And.intro hf2 (And.intro hnb (And.intro hb13 hr2)))))
       clear hp2 hu2 hf2 hnb hb12 hb13 hb2 hr2)
    | (go_at_call 18
       refine (units_any (.slice A1 t.length c1) (.slice A2 t.length c2) t t _ ((((H1.out.2.2.2.2.2.new_ H1.out.2.2.2.1).upd H2.out.2.1 (fun q hq hx => by have h1 := (H1.out.2.2.2.2.2.lt q hq).1; have h2 := H0.out.1.x.2 q hx; omega)).new_ H2.out.2.2.2.1).row) (H2.out.2.2.2.2.2.new_ H2.out.2.2.2.1)).mono ?_
       rintro e w3 ⟨he, md, rfl⟩
       rw [show (t == t) = true by simp] at he
       subst he
       have d2 : ((w2.alloc (.cells #[.slice A2 t.length c2, .int .i64 n] 84)).drewN md).cell? ⟨w1.heap.size, 1, none⟩ = some (.int .i64 n) := d1
       have e2 : ((w2.alloc (.cells #[.slice A2 t.length c2, .int .i64 n] 84)).drewN md).cell? ⟨w2.heap.size, 1, none⟩ = some (.int .i64 n) := e1))
  go_ret
  have hall := H0.out.1.next H1.out.1 H1.out.2.1 H1.out.2.2.1 H1.out.2.2.2.1 H2.out.1 H2.out.2.1 H2.out.2.2.1
  have hnn := H2.out.2.2.2.1.drewN md
  exact .of H0.out.2.2.2.2 ⟨hall.1.keepN hnn, hall.2.1.transNew hnn, hall.2.2⟩

set_option maxHeartbeats 3200000 in
theorem does_hearNo (g gx : Nat) (F Fx : Nat → Prop) (s : Mails) (now : Int) (o : OpV) (w : World) (hB : Both w g gx F Fx s [] now) (hk : o.kind = 4) :
    Calls Try.prog 22 #[.pointer (some ⟨g, 0, none⟩), .pointer (some ⟨gx, 0, none⟩), opAgg o] w (IsDoes g gx F Fx s [] now w) := by
  obtain ⟨w0, hw0, hn0, hbx, hsz0⟩ := box32 w o
  have hB0 := hB.keepN hn0
  have hbF : ¬ (F w.heap.size ∨ Fx w.heap.size) := fun h => absurd (hB.lt _ h) (Nat.lt_irrefl _)
  have a0 : w0.cell? ⟨w.heap.size, 0, none⟩ = some (.int .i64 o.kind) := hbx.cell 0
  have a1 : w0.cell? ⟨w.heap.size, 1, none⟩ = some (.int .i64 o.by_) := hbx.cell 1
  have a2 : w0.cell? ⟨w.heap.size, 2, none⟩ = some (.int .i64 o.bl) := hbx.cell 2
  have a3 : w0.cell? ⟨w.heap.size, 3, none⟩ = some (.int .i64 o.ln) := hbx.cell 3
  have a4 : w0.cell? ⟨w.heap.size, 4, none⟩ = some (.int .i64 o.ev) := hbx.cell 4
  have a5 : w0.cell? ⟨w.heap.size, 5, none⟩ = some (.int .i64 o.n) := hbx.cell 5
  have a6 : w0.cell? ⟨w.heap.size, 6, none⟩ = some o.tv := hbx.cell 6
  have a7 : w0.cell? ⟨w.heap.size, 7, none⟩ = some o.xv := hbx.cell 7
  have H0 := hide (And.intro hB0 (And.intro hbx (And.intro hbF (And.intro hsz0 hn0))))
  clear hB hB0 hbx hbF hsz0 hn0
  rw [hk] at hw0 a0
  unfold opAgg
  go_enter Try.func22, Try.ntmps22
  go_wp2_with fail
  rw [← hw0]
  clear hw0
  refine (hear_no g F s now w0 H0.out.1.p).mono ?_
  rintro e w1 ⟨rfl, hn1⟩
  have hp1 := H0.out.1.p.keepN hn1
  have hu1 : Upd F w0 w1 := hn1.ofNew F
  have hf1 : ∀ q, F q → F q ∨ w0.heap.size ≤ q := fun q hq => .inl hq
  have hot : True := trivial
  have hna : New w1 (w1.alloc (.cells #[.slice none 0 0, .int .i64 0] 47)) := (Upd.refl _ _).alloc _
  have hb1 : Blk (w1.alloc (.cells #[.slice none 0 0, .int .i64 0] 47)) w1.heap.size 47 [.slice none 0 0, .int .i64 0] := Blk.new w1 _ [.slice none 0 0, .int .i64 0]
  have H1 := hide (And.intro hp1 (And.intro hu1 (And.intro hf1 (And.intro hna (And.intro hb1 hot)))))
  clear hp1 hu1 hf1 hna hb1 hot
  go_wp2_with (first
    | (go_at_call 17; fail)
    | (go_at_call 40
       refine (R.hear_no gx Fx s now _ ((H0.out.1.x.keep H1.out.2.1 (fun q hx hq => H0.out.1.d q hq hx)).keepN H1.out.2.2.2.1)).mono ?_
       rintro e w2 ⟨rfl, hn2⟩
       have hp2 := ((H0.out.1.x.keep H1.out.2.1 (fun q hx hq => H0.out.1.d q hq hx)).keepN H1.out.2.2.2.1).keepN hn2
       have hu2 : Upd Fx (w1.alloc (.cells #[.slice none 0 0, .int .i64 0] 47)) w2 := hn2.ofNew Fx
       have hf2 : ∀ q, Fx q → Fx q ∨ ((w1.alloc (.cells #[.slice none 0 0, .int .i64 0] 47))).heap.size ≤ q := fun q hq => .inl hq
       have hr2 : True := trivial
       have hq1 : ¬ Fx w1.heap.size := fun h => by
         have h1 := H0.out.1.x.2 _ h
         have h2 := H1.out.2.1.size
         omega
       have hb12 := H1.out.2.2.2.2.1.upd hu2 hq1
       have hnb : New w2 (w2.alloc (.cells #[.slice none 0 0, .int .i64 0] 84)) := (Upd.refl _ _).alloc _
       have hb13 := hb12.new_ hnb
       have hb2 : Blk (w2.alloc (.cells #[.slice none 0 0, .int .i64 0] 84)) w2.heap.size 84 [.slice none 0 0, .int .i64 0] := Blk.new w2 _ [.slice none 0 0, .int .i64 0]
       have d0 : (w2.alloc (.cells #[.slice none 0 0, .int .i64 0] 84)).cell? ⟨w1.heap.size, 0, none⟩ = some (.slice none 0 0) := hb13.cell 0
       have d1 : (w2.alloc (.cells #[.slice none 0 0, .int .i64 0] 84)).cell? ⟨w1.heap.size, 1, none⟩ = some (.int .i64 0) := hb13.cell 1
       have e1 : (w2.alloc (.cells #[.slice none 0 0, .int .i64 0] 84)).cell? ⟨w2.heap.size, 1, none⟩ = some (.int .i64 0) := hb2.cell 1
       have H2 := hide (And.intro hp2 (And.intro hu2 (And.intro hf2 (And.intro hnb (And.intro hb13 hr2)))))
       clear hp2 hu2 hf2 hnb hb12 hb13 hb2 hr2)
    | (go_at_call 18
       refine (units_any (.slice none 0 0) (.slice none 0 0) ([] : List Int) ([] : List Int) _ (RowAt.nil0 _ 1 none 0) (RowAt.nil0 _ 1 none 0)).mono ?_
       rintro e w3 ⟨he, md, rfl⟩
       rw [show (([] : List Int) == ([] : List Int)) = true by simp] at he
       subst he
       have d2 : ((w2.alloc (.cells #[.slice none 0 0, .int .i64 0] 84)).drewN md).cell? ⟨w1.heap.size, 1, none⟩ = some (.int .i64 0) := d1
       have e2 : ((w2.alloc (.cells #[.slice none 0 0, .int .i64 0] 84)).drewN md).cell? ⟨w2.heap.size, 1, none⟩ = some (.int .i64 0) := e1))
  go_ret
  have hall := H0.out.1.next H1.out.1 H1.out.2.1 H1.out.2.2.1 H1.out.2.2.2.1 H2.out.1 H2.out.2.1 H2.out.2.2.1
  have hnn := H2.out.2.2.2.1.drewN md
  exact .of H0.out.2.2.2.2 ⟨hall.1.keepN hnn, hall.2.1.transNew hnn, hall.2.2⟩
end Go.Proofs.Ytcjmapljcnmfaaa
