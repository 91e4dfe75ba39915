/- does: an operation of both Posts: drop, tick, nothing. Printed by wip/mkDoes.py. -/
import Derived.Test.YtcjmapljcnmfaaaPostCc
import Derived.Test.YtcjmapljcnmfaaaPostL
import Derived.Test.YtcjmapljcnmfaaaPostS
import Derived.Test.YtcjmapljcnmfaaaPostRf
import Derived.Test.YtcjmapljcnmfaaaPostRg
import Derived.Test.YtcjmapljcnmfaaaPostRe
namespace Go.Proofs.Ytcjmapljcnmfaaa
open Go.RowKit Go.Deep
set_option linter.unusedVariables false
theorem RowAt.updP {F : Nat → Prop} {w w' : World} {size n : Nat} {v : Value} {xs : List Value} (h : RowAt w size v n xs) (hu : Upd F w w') (hF : 0 < n → ∀ b off c, v = .slice (some ⟨b, off, none⟩) n c → ¬ F b) : RowAt w' size v n xs := by
  rcases Nat.eq_zero_or_pos n with rfl | hn
  · obtain ⟨A, c, rfl⟩ := h.form
    exact ⟨h.1, .inl ⟨rfl, A, c, rfl⟩⟩
  · exact h.upd hu (hF hn)
/-- The code's Post and the document's stand alike, apart from one another. -/
structure Both (w : World) (g gx : Nat) (F Fx : Nat → Prop) (s : Mails) (rs : List (List Int × Int)) (now : Int) : Prop where
  p : PostAt w g F s rs now
  x : R.PostAt w gx Fx s rs now
  d : ∀ q, F q → ¬ Fx q
theorem Both.lt {w : World} {g gx : Nat} {F Fx : Nat → Prop} {s : Mails} {rs : List (List Int × Int)} {now : Int} (h : Both w g gx F Fx s rs now) : ∀ q, (F q ∨ Fx q) → q < w.heap.size := by
  rintro q (hq | hq)
  · exact h.p.2 q hq
  · exact h.x.2 q hq
theorem Both.keepN {w w' : World} {g gx : Nat} {F Fx : Nat → Prop} {s : Mails} {rs : List (List Int × Int)} {now : Int} (h : Both w g gx F Fx s rs now) (hn : New w w') : Both w' g gx F Fx s rs now :=
  ⟨h.p.keepN hn, h.x.keepN hn, h.d⟩
/-- First the code's goes on, then the document's. -/
theorem Both.next {w w1 w1' w2 : World} {g gx : Nat} {F Fx F1 Fx2 : Nat → Prop} {s s1 : Mails} {rs rs1 : List (List Int × Int)} {now now1 : Int} (h : Both w g gx F Fx s rs now)
    (h1 : PostAt w1 g F1 s1 rs1 now1) (u1 : Upd F w w1) (f1 : ∀ q, F1 q → F q ∨ w.heap.size ≤ q) (hn : New w1 w1') (h2 : R.PostAt w2 gx Fx2 s1 rs1 now1) (u2 : Upd Fx w1' w2) (f2 : ∀ q, Fx2 q → Fx q ∨ w1'.heap.size ≤ q) :
    Both w2 g gx F1 Fx2 s1 rs1 now1 ∧ Upd (fun q => F q ∨ Fx q) w w2 ∧ ∀ q, (F1 q ∨ Fx2 q) → (F q ∨ Fx q) ∨ w.heap.size ≤ q := by
  have hd1 : ∀ q, F1 q → ¬ Fx q := fun q hq hx => by
    rcases f1 q hq with h3 | h3
    · exact h.d q h3 hx
    · have := h.x.2 q hx; omega
  refine ⟨⟨(h1.keepN hn).keep u2 hd1, h2, fun q hq hx => ?_⟩, ?_, ?_⟩
  · rcases f2 q hx with h3 | h3
    · exact hd1 q hq h3
    · have := h1.2 q hq
      have := hn.size
      omega
  · exact ((u1.mono fun _ _ hq => .inl hq).transNew hn).trans u2 fun _ _ hq => .inr hq
  · rintro q (hq | hq)
    · rcases f1 q hq with h3 | h3
      · exact .inl (.inl h3)
      · exact .inr h3
    · rcases f2 q hq with h3 | h3
      · exact .inl (.inr h3)
      · have := u1.size
        have := hn.size
        exact .inr (by omega)
def opAgg (o : OpV) : Value := .agg #[.int .i64 o.kind, .int .i64 o.by_, .int .i64 o.bl, .int .i64 o.ln, .int .i64 o.ev, .int .i64 o.n, o.tv, o.xv]
def opCells (o : OpV) : List Value := [.int .i64 o.kind, .int .i64 o.by_, .int .i64 o.bl, .int .i64 o.ln, .int .i64 o.ev, .int .i64 o.n, o.tv, o.xv]
/-- What an operation leaves. -/
def IsDoes (g gx : Nat) (F Fx : Nat → Prop) (s : Mails) (rs : List (List Int × Int)) (now : Int) (w : World) (e : Ending) (w' : World) : Prop :=
  e = .returned (.bool true) ∧ ∃ F' Fx', Both w' g gx F' Fx' s rs now ∧ Upd (fun q => F q ∨ Fx q) w w' ∧ ∀ q, (F' q ∨ Fx' q) → (F q ∨ Fx q) ∨ w.heap.size ≤ q
theorem IsDoes.of {g gx : Nat} {F Fx F' Fx' : Nat → Prop} {s : Mails} {rs : List (List Int × Int)} {now : Int} {w w0 w' : World} (hn : New w w0)
    (h : Both w' g gx F' Fx' s rs now ∧ Upd (fun q => F q ∨ Fx q) w0 w' ∧ ∀ q, (F' q ∨ Fx' q) → (F q ∨ Fx q) ∨ w0.heap.size ≤ q) : IsDoes g gx F Fx s rs now w (.returned (.bool true)) w' := by
  refine ⟨rfl, F', Fx', h.1, (hn.ofNew _).trans h.2.1 fun _ _ h => h, fun q hq => ?_⟩
  rcases h.2.2 q hq with h1 | h1
  · exact .inl h1
  · have := hn.size; exact .inr (by omega)
theorem box32 (w : World) (o : OpV) : ∃ w0, w0 = w.alloc (.cells #[.int .i64 o.kind, .int .i64 o.by_, .int .i64 o.bl, .int .i64 o.ln, .int .i64 o.ev, .int .i64 o.n, o.tv, o.xv] 32) ∧ New w w0 ∧ Blk w0 w.heap.size 32 (opCells o) ∧ w0.heap.size = w.heap.size + 1 :=
  ⟨_, rfl, (Upd.refl _ _).alloc _, Blk.new w _ (opCells o), by simp⟩
theorem field32_5 (b p : Nat) (w : World) : (Instr.fieldAt 32 (.pointer (some ⟨b, p, none⟩)) 5).run Try.prog w = .ok (.pointer (some ⟨b, p + 5, none⟩)) w := by kernel_rfl
section
variable {P : Program}
theorem r_eqlI {t : TypeId} {k : IntKind} {x : Int} : ∀ w, (binOp .eql t (.int k x) (.int k x)).run P w = .ok (.bool true) w := by
  intro w; simp [binOp, Op.intCmp]
end
set_option maxHeartbeats 1600000 in
theorem does_else (g gx : Nat) (F Fx : Nat → Prop) (s : Mails) (rs : List (List Int × Int)) (now : Int) (o : OpV) (w : World) (hB : Both w g gx F Fx s rs now) (h0 : (o.kind == 0) = false) (h1 : (o.kind == 1) = false) (h2 : (o.kind == 2) = false) (h3 : (o.kind == 3) = false) (h4 : (o.kind == 4) = false) (h5 : (o.kind == 5) = false) :
    Calls Try.prog 22 #[.pointer (some ⟨g, 0, none⟩), .pointer (some ⟨gx, 0, none⟩), opAgg o] w (IsDoes g gx F Fx s rs now w) := by
  obtain ⟨w0, hw0, hn0, hbx, hsz0⟩ := box32 w o
  have hB0 := hB.keepN hn0
  have hbF : ¬ (F w.heap.size ∨ Fx w.heap.size) := fun h => absurd (hB.lt _ h) (Nat.lt_irrefl _)
  have a0 : w0.cell? ⟨w.heap.size, 0, none⟩ = some (.int .i64 o.kind) := hbx.cell 0
  have a1 : w0.cell? ⟨w.heap.size, 1, none⟩ = some (.int .i64 o.by_) := hbx.cell 1
  have a2 : w0.cell? ⟨w.heap.size, 2, none⟩ = some (.int .i64 o.bl) := hbx.cell 2
  have a3 : w0.cell? ⟨w.heap.size, 3, none⟩ = some (.int .i64 o.ln) := hbx.cell 3
  have a4 : w0.cell? ⟨w.heap.size, 4, none⟩ = some (.int .i64 o.ev) := hbx.cell 4
  have a5 : w0.cell? ⟨w.heap.size, 5, none⟩ = some (.int .i64 o.n) := hbx.cell 5
  have a6 : w0.cell? ⟨w.heap.size, 6, none⟩ = some o.tv := hbx.cell 6
  have a7 : w0.cell? ⟨w.heap.size, 7, none⟩ = some o.xv := hbx.cell 7
  have H0 := hide (And.intro hB0 (And.intro hbx (And.intro hbF (And.intro hsz0 hn0))))
  clear hB hB0 hbx hbF hsz0 hn0
  unfold opAgg
  go_enter Try.func22, Try.ntmps22
  go_wp2_with fail
  rw [← hw0]
  clear hw0
  go_wp2
  go_ret
  have h := H0.out
  exact .of h.2.2.2.2 ⟨h.1, Upd.refl _ _, fun q hq => .inl hq⟩

set_option maxHeartbeats 1600000 in
theorem does_drop (g gx : Nat) (F Fx : Nat → Prop) (s : Mails) (rs : List (List Int × Int)) (now : Int) (o : OpV) (w : World) (hB : Both w g gx F Fx s rs now) (hk : o.kind = 2) :
    Calls Try.prog 22 #[.pointer (some ⟨g, 0, none⟩), .pointer (some ⟨gx, 0, none⟩), opAgg o] w (IsDoes g gx F Fx (dropS s o.by_) rs now w) := by
  obtain ⟨w0, hw0, hn0, hbx, hsz0⟩ := box32 w o
  have hB0 := hB.keepN hn0
  have hbF : ¬ (F w.heap.size ∨ Fx w.heap.size) := fun h => absurd (hB.lt _ h) (Nat.lt_irrefl _)
  have a0 : w0.cell? ⟨w.heap.size, 0, none⟩ = some (.int .i64 o.kind) := hbx.cell 0
  have a1 : w0.cell? ⟨w.heap.size, 1, none⟩ = some (.int .i64 o.by_) := hbx.cell 1
  have a2 : w0.cell? ⟨w.heap.size, 2, none⟩ = some (.int .i64 o.bl) := hbx.cell 2
  have a3 : w0.cell? ⟨w.heap.size, 3, none⟩ = some (.int .i64 o.ln) := hbx.cell 3
  have a4 : w0.cell? ⟨w.heap.size, 4, none⟩ = some (.int .i64 o.ev) := hbx.cell 4
  have a5 : w0.cell? ⟨w.heap.size, 5, none⟩ = some (.int .i64 o.n) := hbx.cell 5
  have a6 : w0.cell? ⟨w.heap.size, 6, none⟩ = some o.tv := hbx.cell 6
  have a7 : w0.cell? ⟨w.heap.size, 7, none⟩ = some o.xv := hbx.cell 7
  have H0 := hide (And.intro hB0 (And.intro hbx (And.intro hbF (And.intro hsz0 hn0))))
  clear hB hB0 hbx hbF hsz0 hn0
  rw [hk] at hw0 a0
  unfold opAgg
  go_enter Try.func22, Try.ntmps22
  go_wp2_with fail
  rw [← hw0]
  clear hw0
  go_wp2_with (first
    | (go_at_call 19
       refine (drop_any g F s rs now o.by_ w0 H0.out.1.p).mono ?_
       rintro e w1 ⟨rfl, hp1, hu1⟩
       have hbx1 := H0.out.2.1.upd hu1 (fun h => H0.out.2.2.1 (.inl h))
       have d1 : w1.cell? ⟨w.heap.size, 1, none⟩ = some (.int .i64 o.by_) := hbx1.cell 1
       have H1 := hide (And.intro hp1 hu1)
       clear hp1 hu1 hbx1)
    | (go_at_call 37
       refine (R.drop_any gx Fx s rs now o.by_ w1 (H0.out.1.x.keep H1.out.2 (fun q hx hq => H0.out.1.d q hq hx))).mono ?_
       rintro e w2 ⟨rfl, hp2, hu2⟩
       have H2 := hide (And.intro hp2 hu2)
       clear hp2 hu2))
  go_ret
  exact .of H0.out.2.2.2.2 (H0.out.1.next H1.out.1 H1.out.2 (fun q hq => .inl hq) (Upd.refl _ _) H2.out.1 H2.out.2 (fun q hq => .inl hq))

set_option maxHeartbeats 1600000 in
theorem does_tick (g gx : Nat) (F Fx : Nat → Prop) (s : Mails) (rs : List (List Int × Int)) (now : Int) (o : OpV) (w : World) (hB : Both w g gx F Fx s rs now) (hk : o.kind = 5) (hn0 : 0 ≤ now) (hn1 : now ≤ 9007199254740991) (hnn : -9223372036854775808 ≤ o.n ∧ o.n ≤ 9223372036854775807) :
    Calls Try.prog 22 #[.pointer (some ⟨g, 0, none⟩), .pointer (some ⟨gx, 0, none⟩), opAgg o] w (IsDoes g gx F Fx s rs (tickN now o.n) w) := by
  obtain ⟨w0, hw0, hn0, hbx, hsz0⟩ := box32 w o
  have hB0 := hB.keepN hn0
  have hbF : ¬ (F w.heap.size ∨ Fx w.heap.size) := fun h => absurd (hB.lt _ h) (Nat.lt_irrefl _)
  have a0 : w0.cell? ⟨w.heap.size, 0, none⟩ = some (.int .i64 o.kind) := hbx.cell 0
  have a1 : w0.cell? ⟨w.heap.size, 1, none⟩ = some (.int .i64 o.by_) := hbx.cell 1
  have a2 : w0.cell? ⟨w.heap.size, 2, none⟩ = some (.int .i64 o.bl) := hbx.cell 2
  have a3 : w0.cell? ⟨w.heap.size, 3, none⟩ = some (.int .i64 o.ln) := hbx.cell 3
  have a4 : w0.cell? ⟨w.heap.size, 4, none⟩ = some (.int .i64 o.ev) := hbx.cell 4
  have a5 : w0.cell? ⟨w.heap.size, 5, none⟩ = some (.int .i64 o.n) := hbx.cell 5
  have a6 : w0.cell? ⟨w.heap.size, 6, none⟩ = some o.tv := hbx.cell 6
  have a7 : w0.cell? ⟨w.heap.size, 7, none⟩ = some o.xv := hbx.cell 7
  have H0 := hide (And.intro hB0 (And.intro hbx (And.intro hbF (And.intro hsz0 hn0))))
  clear hB hB0 hbx hbF hsz0 hn0
  rw [hk] at hw0 a0
  unfold opAgg
  go_enter Try.func22, Try.ntmps22
  go_wp2_with fail
  rw [← hw0]
  clear hw0
  go_wp2
  have hS0 : w0.drew.cell? ⟨w.heap.size, 5, none⟩ = some (.int .i64 o.n) := a5
  have hq5 : w.heap.size < w0.heap.size := H0.out.2.1.lt
  refine wp_region_dm (fun w' => w'.cell? ⟨w.heap.size, 5, none⟩ = some (.int .i64 o.n)) [(0, true), (1, true), (2, true), (4, true), (5, true), (6, true), (3, false), (7, false), (8, true), (9, true)] (by kernel_rfl) (by kernel_rfl) (fun _ _ d _ _ h => by cases d <;> exact h) hS0 ?_
  refine st_take (a' := ?_) rfl rfl (y_move (v := .pointer (some ⟨g, 0, none⟩)) rfl rfl) ?_ ?_
  rotate_left; (simp only [Act.put, List.setIfInBounds_toArray, List.set_cons_zero, List.set_cons_succ]; rfl)
  refine st_take (a' := ?_) rfl rfl (y_field rfl rfl (field32_5 w.heap.size 0)) ?_ ?_
  rotate_left; (simp only [Act.put, List.setIfInBounds_toArray, List.set_cons_zero, List.set_cons_succ]; rfl)
  refine st_take (a' := ?_) rfl rfl (y_load rfl rfl Try.isAgg3 fun _ h => h) ?_ ?_
  rotate_left; (simp only [Act.put, List.setIfInBounds_toArray, List.set_cons_zero, List.set_cons_succ]; rfl)
  refine st_take (a' := ?_) rfl rfl (y_move (v := .pointer (some ⟨gx, 0, none⟩)) rfl rfl) ?_ ?_
  rotate_left; (simp only [Act.put, List.setIfInBounds_toArray, List.set_cons_zero, List.set_cons_succ]; rfl)
  refine st_take (a' := ?_) rfl rfl (y_field rfl rfl (field32_5 w.heap.size 0)) ?_ ?_
  rotate_left; (simp only [Act.put, List.setIfInBounds_toArray, List.set_cons_zero, List.set_cons_succ]; rfl)
  refine st_take (a' := ?_) rfl rfl (y_load rfl rfl Try.isAgg3 fun _ h => h) ?_ ?_
  rotate_left; (simp only [Act.put, List.setIfInBounds_toArray, List.set_cons_zero, List.set_cons_succ]; rfl)
  refine st_act rfl rfl fun K hK => a_call (args := #[.pointer (some ⟨g, 0, none⟩), .int .i64 o.n]) rfl rfl (fun w => by kernel_rfl) (tick_any g F s rs now o.n w0.drew (H0.out.1.p.keepN (Upd.refl _ w0).drew) hn0 hn1 hnn) ?_
  rintro e w1 ⟨rfl, hp1, hu1⟩
  have hbx1 := H0.out.2.1.drew.upd hu1 (fun h => H0.out.2.2.1 (.inl h))
  refine ⟨_, rfl, hK _ _ (hbx1.cell 5) ?_⟩
  simp only [Act.put, List.setIfInBounds_toArray, List.set_cons_zero, List.set_cons_succ]
  refine st_act rfl rfl fun K hK => a_call (args := #[.pointer (some ⟨gx, 0, none⟩), .int .i64 o.n]) rfl rfl (fun w => by kernel_rfl) (R.tick_any gx Fx s rs now o.n w1 ((H0.out.1.x.keepN (Upd.refl _ w0).drew).keep hu1 (fun q hx hq => H0.out.1.d q hq hx)) hn0 hn1 hnn) ?_
  rintro e w2 ⟨rfl, hp2, hu2⟩
  have hbx2 := hbx1.upd hu2 (fun h => H0.out.2.2.1 (.inr h))
  refine ⟨_, rfl, hK _ _ (hbx2.cell 5) ?_⟩
  simp only [Act.put, List.setIfInBounds_toArray, List.set_cons_zero, List.set_cons_succ]
  refine st_take (a' := ?_) rfl rfl (y_bin (v := .bool true) rfl rfl rfl r_eqlI) ?_ ?_
  rotate_left; (simp only [Act.put, List.setIfInBounds_toArray, List.set_cons_zero, List.set_cons_succ]; rfl)
  refine st_take (a' := ?_) rfl rfl (y_assign (v := .bool true) rfl rfl) ?_ ?_
  rotate_left; (simp only [Act.put, List.setIfInBounds_toArray, List.set_cons_zero, List.set_cons_succ]; rfl)
  refine st_nil ?_
  have H2 := hide (And.intro hp1 (And.intro hu1 (And.intro hp2 hu2)))
  clear hp1 hu1 hp2 hu2 hbx1 hbx2 hS0
  go_wp2
  go_ret
  have hnd : New w0 w0.drew := (Upd.refl _ w0).drew
  exact .of (H0.out.2.2.2.2.transNew hnd) ((H0.out.1.keepN hnd).next H2.out.1 H2.out.2.1 (fun q hq => .inl hq) (Upd.refl _ _) H2.out.2.2.1 H2.out.2.2.2 (fun q hq => .inl hq))
end Go.Proofs.Ytcjmapljcnmfaaa
