/- does: an operation of both Posts: send. Printed by wip/mkDoes.py. -/
import Derived.Test.YtcjmapljcnmfaaaPostDo
namespace Go.Proofs.Ytcjmapljcnmfaaa
open Go.RowKit Go.Deep
set_option linter.unusedVariables false
theorem encI_one (t : List Int) : ∀ u ∈ encI t, u.oneCell' = true := by
  intro u hu
  obtain ⟨x, _, rfl⟩ := List.mem_map.1 hu
  rfl
set_option maxHeartbeats 3200000 in
theorem does_send (g gx : Nat) (F Fx : Nat → Prop) (s : Mails) (rs : List (List Int × Int)) (now : Int) (o : OpV) (w : World) (hB : Both w g gx F Fx s rs now) (hk : o.kind = 0) (hr : RowAt w 1 o.tv o.to.length (encI o.to)) (hfar : (0 < o.to.length → ∀ q off c, o.tv = .slice (some ⟨q, off, none⟩) o.to.length c → ¬ (F q ∨ Fx q))) (htl : o.to.length ≤ 1000000) (hs64 : s.length ≤ 64) (hfits : ∀ l ∈ s, l.length + o.to.length ≤ 1000000) :
    Calls Try.prog 22 #[.pointer (some ⟨g, 0, none⟩), .pointer (some ⟨gx, 0, none⟩), opAgg o] w (IsDoes g gx F Fx (sendS s o.by_ o.to ⟨o.bl, o.ln, o.by_, o.ev⟩) rs now w) := by
  obtain ⟨w0, hw0, hn0, hbx, hsz0⟩ := box32 w o
  have hB0 := hB.keepN hn0
  have hbF : ¬ (F w.heap.size ∨ Fx w.heap.size) := fun h => absurd (hB.lt _ h) (Nat.lt_irrefl _)
  have a0 : w0.cell? ⟨w.heap.size, 0, none⟩ = some (.int .i64 o.kind) := hbx.cell 0
  have a1 : w0.cell? ⟨w.heap.size, 1, none⟩ = some (.int .i64 o.by_) := hbx.cell 1
  have a2 : w0.cell? ⟨w.heap.size, 2, none⟩ = some (.int .i64 o.bl) := hbx.cell 2
  have a3 : w0.cell? ⟨w.heap.size, 3, none⟩ = some (.int .i64 o.ln) := hbx.cell 3
  have a4 : w0.cell? ⟨w.heap.size, 4, none⟩ = some (.int .i64 o.ev) := hbx.cell 4
  have a5 : w0.cell? ⟨w.heap.size, 5, none⟩ = some (.int .i64 o.n) := hbx.cell 5
  have a6 : w0.cell? ⟨w.heap.size, 6, none⟩ = some o.tv := hbx.cell 6
  have a7 : w0.cell? ⟨w.heap.size, 7, none⟩ = some o.xv := hbx.cell 7
  have H0 := hide (And.intro hB0 (And.intro hbx (And.intro hbF (And.intro hsz0 hn0))))
  clear hB hB0 hbx hbF hsz0 hn0
  have hr0 := hr.new_ H0.out.2.2.2.2
  rw [hk] at hw0 a0
  unfold opAgg
  go_enter Try.func22, Try.ntmps22
  go_wp2_with fail
  rw [← hw0]
  clear hw0
  have Hr0 := hide (And.intro hr0 hfar)
  clear hr hr0 hfar
  go_wp2_with (first
    | (go_at_call 32
       refine (copyInts _ o.to.length (encI o.to) w0 Hr0.out.1 (encI_one o.to) htl).mono ?_
       rintro e w1 ⟨v, rfl, ho, hn1⟩
       obtain ⟨Au, cu, rfl⟩ := ho.row.form
       have hbx1 := H0.out.2.1.new_ hn1
       have d1 : w1.cell? ⟨w.heap.size, 1, none⟩ = some (.int .i64 o.by_) := hbx1.cell 1
       have d2 : w1.cell? ⟨w.heap.size, 2, none⟩ = some (.int .i64 o.bl) := hbx1.cell 2
       have d3 : w1.cell? ⟨w.heap.size, 3, none⟩ = some (.int .i64 o.ln) := hbx1.cell 3
       have d4 : w1.cell? ⟨w.heap.size, 4, none⟩ = some (.int .i64 o.ev) := hbx1.cell 4
       have Hu := hide (And.intro ho (And.intro hn1 hbx1))
       clear ho hn1 hbx1)
    | (go_at_call 10
       refine (send_any g F s rs now o.by_ _ o.to.length o.to ⟨o.bl, o.ln, o.by_, o.ev⟩ w1 rfl (H0.out.1.p.keepN Hu.out.2.1) htl Hu.out.1.row (fun h0 q off c h hF => by
          have h1 := Hu.out.1
          have h2 : ownB (.slice Au o.to.length cu) = some q := by
            rcases h1 with ⟨_, ⟨_, h3⟩ | ⟨b, cap, cur, hv, _, _, hn, _⟩⟩ | ⟨h3, _⟩
            · omega
            · injection hv with hA _ hc
              subst hA hc
              injection h with hA _ hc
              injection hA with hA
              injection hA with hA _ _
              subst hA
              obtain ⟨c', rfl⟩ : ∃ c', cu = c' + 1 := ⟨cu - 1, by omega⟩
              rfl
            · omega
          have h3 := (Hu.out.1.lt q h2).1
          have h4 := H0.out.1.p.2 q hF
          omega) hfits).mono ?_
       rintro e w2 ⟨rfl, F1, hp1, hu1, hf1⟩
       have hbx2 := Hu.out.2.2.upd hu1 (fun h => H0.out.2.2.1 (.inl h))
       have g1 : w2.cell? ⟨w.heap.size, 1, none⟩ = some (.int .i64 o.by_) := hbx2.cell 1
       have g2 : w2.cell? ⟨w.heap.size, 2, none⟩ = some (.int .i64 o.bl) := hbx2.cell 2
       have g3 : w2.cell? ⟨w.heap.size, 3, none⟩ = some (.int .i64 o.ln) := hbx2.cell 3
       have g4 : w2.cell? ⟨w.heap.size, 4, none⟩ = some (.int .i64 o.ev) := hbx2.cell 4
       have g6 : w2.cell? ⟨w.heap.size, 6, none⟩ = some o.tv := hbx2.cell 6
       obtain ⟨se, hse⟩ : ∃ se, se = sendE s o.by_ o.to := ⟨_, rfl⟩
       rw [← hse]
       have H1 := hide (And.intro hp1 (And.intro hu1 (And.intro hf1 (And.intro hbx2 hse))))
       clear hp1 hu1 hf1 hbx2 hse)
    | (go_at_call 33
       refine (R.send_any gx Fx s rs now o.by_ _ o.to.length o.to ⟨o.bl, o.ln, o.by_, o.ev⟩ w2 rfl ((H0.out.1.x.keepN Hu.out.2.1).keep H1.out.2.1 (fun q hx hq => H0.out.1.d q hq hx)) htl hs64 ((Hr0.out.1.new_ Hu.out.2.1).updP H1.out.2.1 (fun h0 q off c h hF => Hr0.out.2 h0 q off c h (.inl hF))) (fun h0 q off c h hF => Hr0.out.2 h0 q off c h (.inr hF)) hfits).mono ?_
       rintro e w3 ⟨rfl, Fx2, hp2, hu2, hf2⟩
       have hbx3 := H1.out.2.2.2.1.upd hu2 (fun h => H0.out.2.2.1 (.inr h))
       have i6 : w3.cell? ⟨w.heap.size, 6, none⟩ = some o.tv := hbx3.cell 6
       rw [← H1.out.2.2.2.2]
       have H2 := hide (And.intro hp2 (And.intro hu2 hf2))
       clear hp2 hu2 hf2 hbx3)
    | (go_at_call 34
       refine (ints_any _ _ o.to o.to w3 ((Hu.out.1.upd H1.out.2.1 (fun q hq hF => by have h1 := (Hu.out.1.lt q hq).1; have h2 := H0.out.1.p.2 q hF; omega)).upd H2.out.2.1 (fun q hq hF => by have h1 := (Hu.out.1.lt q hq).1; have h2 := H0.out.1.x.2 q hF; omega)).row
         (((Hr0.out.1.new_ Hu.out.2.1).updP H1.out.2.1 (fun h0 q off c h hF => Hr0.out.2 h0 q off c h (.inl hF))).updP H2.out.2.1 (fun h0 q off c h hF => Hr0.out.2 h0 q off c h (.inr hF)))).mono ?_
       rintro e w4 ⟨he, md, rfl⟩
       rw [show (o.to == o.to) = true by simp] at he
       subst he))
  go_ret
  have hall := (H0.out.1.keepN Hu.out.2.1).next H1.out.1 H1.out.2.1 H1.out.2.2.1 (Upd.refl _ _) H2.out.1 H2.out.2.1 H2.out.2.2
  have hnn : New w3 (w3.drewN md) := (Upd.refl _ w3).drewN md
  exact .of (H0.out.2.2.2.2.transNew Hu.out.2.1) ⟨hall.1.keepN hnn, hall.2.1.transNew hnn, hall.2.2⟩
end Go.Proofs.Ytcjmapljcnmfaaa
