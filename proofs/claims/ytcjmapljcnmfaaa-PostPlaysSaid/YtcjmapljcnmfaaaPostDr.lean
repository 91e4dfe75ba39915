/- does: an operation of both Posts: say. Printed by wip/mkDoes.py. -/
import Derived.Test.YtcjmapljcnmfaaaPostDo
namespace Go.Proofs.Ytcjmapljcnmfaaa
open Go.RowKit Go.Deep
set_option linter.unusedVariables false
set_option maxHeartbeats 3200000 in
theorem does_say (g gx : Nat) (F Fx : Nat → Prop) (s : Mails) (rs : List (List Int × Int)) (now : Int) (o : OpV) (w : World) (hB : Both w g gx F Fx s rs now) (hk : o.kind = 3) (hr : RowAt w 1 o.xv o.text.length (encU o.text)) (hfar : (0 < o.text.length → ∀ q off c, o.xv = .slice (some ⟨q, off, none⟩) o.text.length c → ¬ (F q ∨ Fx q))) (htl : o.text.length ≤ 1000000) (hrl : rs.length ≤ 1000000) :
    Calls Try.prog 22 #[.pointer (some ⟨g, 0, none⟩), .pointer (some ⟨gx, 0, none⟩), opAgg o] w (IsDoes g gx F Fx s (rs ++ [(o.text, o.ev)]) now w) := by
  obtain ⟨w0, hw0, hn0, hbx, hsz0⟩ := box32 w o
  have hB0 := hB.keepN hn0
  have hbF : ¬ (F w.heap.size ∨ Fx w.heap.size) := fun h => absurd (hB.lt _ h) (Nat.lt_irrefl _)
  have a0 : w0.cell? ⟨w.heap.size, 0, none⟩ = some (.int .i64 o.kind) := hbx.cell 0
  have a1 : w0.cell? ⟨w.heap.size, 1, none⟩ = some (.int .i64 o.by_) := hbx.cell 1
  have a2 : w0.cell? ⟨w.heap.size, 2, none⟩ = some (.int .i64 o.bl) := hbx.cell 2
  have a3 : w0.cell? ⟨w.heap.size, 3, none⟩ = some (.int .i64 o.ln) := hbx.cell 3
  have a4 : w0.cell? ⟨w.heap.size, 4, none⟩ = some (.int .i64 o.ev) := hbx.cell 4
  have a5 : w0.cell? ⟨w.heap.size, 5, none⟩ = some (.int .i64 o.n) := hbx.cell 5
  have a6 : w0.cell? ⟨w.heap.size, 6, none⟩ = some o.tv := hbx.cell 6
  have a7 : w0.cell? ⟨w.heap.size, 7, none⟩ = some o.xv := hbx.cell 7
  have H0 := hide (And.intro hB0 (And.intro hbx (And.intro hbF (And.intro hsz0 hn0))))
  clear hB hB0 hbx hbF hsz0 hn0
  have hr0 := hr.new_ H0.out.2.2.2.2
  rw [hk] at hw0 a0
  unfold opAgg
  go_enter Try.func22, Try.ntmps22
  go_wp2_with fail
  rw [← hw0]
  clear hw0
  have Hr0 := hide (And.intro hr0 hfar)
  clear hr hr0 hfar
  go_wp2_with (first
    | (go_at_call 38
       refine (copyUnits _ o.text.length (encU o.text) w0 Hr0.out.1 (encU_one o.text) htl).mono ?_
       rintro e w1 ⟨v, rfl, ho, hn1⟩
       obtain ⟨Au, cu, rfl⟩ := ho.row.form
       have hbx1 := H0.out.2.1.new_ hn1
       have d4 : w1.cell? ⟨w.heap.size, 4, none⟩ = some (.int .i64 o.ev) := hbx1.cell 4
       have Hu := hide (And.intro ho (And.intro hn1 hbx1))
       clear ho hn1 hbx1)
    | (go_at_call 16
       refine (say_any g F s rs now _ o.text o.ev w1 (H0.out.1.p.keepN Hu.out.2.1) Hu.out.1.row htl hrl).mono ?_
       rintro e w2 ⟨rfl, F1, hp1, hu1, hf1⟩
       have hbx2 := Hu.out.2.2.upd hu1 (fun h => H0.out.2.2.1 (.inl h))
       have g4 : w2.cell? ⟨w.heap.size, 4, none⟩ = some (.int .i64 o.ev) := hbx2.cell 4
       have g7 : w2.cell? ⟨w.heap.size, 7, none⟩ = some o.xv := hbx2.cell 7
       have H1 := hide (And.intro hp1 (And.intro hu1 hf1))
       clear hp1 hu1 hf1 hbx2)
    | (go_at_call 39
       refine (R.say_any gx Fx s rs now _ o.text o.ev w2 ((H0.out.1.x.keepN Hu.out.2.1).keep H1.out.2.1 (fun q hx hq => H0.out.1.d q hq hx)) ((Hr0.out.1.new_ Hu.out.2.1).updP H1.out.2.1 (fun h0 q off c h hF => Hr0.out.2 h0 q off c h (.inl hF))) htl hrl).mono ?_
       rintro e w3 ⟨rfl, Fx2, hp2, hu2, hf2⟩
       have H2 := hide (And.intro hp2 (And.intro hu2 hf2))
       clear hp2 hu2 hf2))
  -- the copy is written over
  have hsz1 : w0.heap.size ≤ w1.heap.size := Hu.out.2.1.size
  have hall := (H0.out.1.keepN Hu.out.2.1).next H1.out.1 H1.out.2.1 H1.out.2.2 (Upd.refl _ _) H2.out.1 H2.out.2.1 H2.out.2.2
  have hult := Hu.out.1.lt
  have hown3 : Own w3 w0.heap.size 71 1 (.slice Au o.text.length cu) o.text.length (encU o.text) := Hu.out.1.upd hall.2.1 (fun q hq hF => by
    have h1 := (hult q hq).1
    have h2 := H0.out.1.lt q hF
    omega)
  have hFu : ∀ q, ownB (.slice Au o.text.length cu) = some q → ¬ (F1 q ∨ Fx2 q) := fun q hq hF => by
    have h1 := hult q hq
    rcases hF with hF | hF
    · rcases H1.out.2.2 q hF with h2 | h2
      · have := H0.out.1.p.2 q h2; omega
      · omega
    · rcases H2.out.2.2 q hF with h2 | h2
      · have := H0.out.1.x.2 q h2; omega
      · have := H1.out.2.1.size; omega
  have Hall := hide (And.intro hall (And.intro hFu hown3))
  have htli : (o.text.length : Int) ≤ 1000000 := by omega
  clear hall hown3 hFu hult
  go_loopw [14] (fun i wr => ∃ k : Nat, k ≤ o.text.length ∧ i = .int .i64 k ∧ Upd (fun q => ownB (.slice Au o.text.length cu) = some q) w3 wr ∧
    (k < o.text.length → ∃ b cs, Au = some ⟨b, 0, none⟩ ∧ ownB (.slice Au o.text.length cu) = some b ∧ Blk wr b 71 cs ∧ o.text.length ≤ cs.length ∧ o.text.length ≤ cu ∧ cu ≤ maxLen)) (fun i _ => o.text.length - (intOf i).toNat)
  case atStart =>
    refine ⟨0, by omega, rfl, Upd.refl _ _, fun h0 => ?_⟩
    rcases Hall.out.2.2 with ⟨hl, h2⟩ | ⟨h2, _⟩
    · rcases h2 with ⟨_, h2⟩ | ⟨b, cap, cur, hv, hb, hg, hn, hm, hs, ht⟩
      · omega
      · injection hv with hA _ hc
        subst hA hc
        obtain ⟨c', rfl⟩ : ∃ c', cu = c' + 1 := ⟨cu - 1, by omega⟩
        exact ⟨b, cur.toList, rfl, rfl, by unfold Blk; simpa using hg, by rw [Array.length_toList, hs]; omega, hn, hm⟩
    · omega
  case round =>
    obtain ⟨k, hk1, rfl, hur, hcells⟩ := hrel
    by_cases hlt : k < o.text.length
    · obtain ⟨b, cs, rfl, hob, hblk, hcl, hcu, hcm⟩ := hcells hlt
      obtain ⟨cv, hcv⟩ : ∃ cv, cs[k]? = some cv := ⟨_, List.getElem?_eq_getElem (by omega)⟩
      have hck : wr.cell? ⟨b, k, none⟩ = some cv := (hblk.cell k).trans hcv
      have hfk : wr.frozen? ⟨b, k, none⟩ = false := hblk.frozen k
      have hki : (k : Int) < (o.text.length : Int) := by omega
      have hk0 : (0 : Int) ≤ (k : Int) := by omega
      have hcmi : (o.text.length : Int) ≤ (cu : Int) ∧ (cu : Int) ≤ 9223372036854775807 := by unfold maxLen at hcm; omega
      obtain ⟨hcm1, hcm2⟩ := hcmi
      have Hb := hide (And.intro hob (And.intro hblk (And.intro hcl (And.intro hur hcm))))
      clear hcells hob hblk hcl hcv hur hcm
      go_wp2
      go_roundw
      case rel =>
        refine ⟨k + 1, by omega, by go_num, Hb.out.2.2.2.1.setCell (p := ⟨b, k, none⟩) (.inl Hb.out.1) _, fun _ => ⟨b, _, rfl, Hb.out.1, Hb.out.2.1.set_ k _, by rw [List.length_set]; exact Hb.out.2.2.1, hcu, Hb.out.2.2.2.2⟩⟩
      case measure => simp [intOf]; omega
    · have hk' : k = o.text.length := by omega
      subst hk'
      have Hur := hide hur
      clear hlt hcells hur
      go_wp2
      go_ret
      obtain ⟨⟨hB3, hu3, hf3⟩, hFu, hown3⟩ := Hall.out
      have hnew1 : New w w1 := H0.out.2.2.2.2.transNew Hu.out.2.1
      refine ⟨rfl, F1, Fx2, ⟨hB3.p.keep Hur.out (fun q hq h => hFu q h (.inl hq)), hB3.x.keep Hur.out (fun q hq h => hFu q h (.inr hq)), hB3.d⟩, ?_, ?_⟩
      · exact ((hnew1.ofNew _).trans hu3 fun _ _ h => h).trans Hur.out fun q hq h => by
          have h1 := (Hu.out.1.lt q h).1
          have h2 := H0.out.2.2.2.1
          omega
      · intro q hq
        rcases hf3 q hq with h | h
        · exact .inl h
        · have := hnew1.size; exact .inr (by omega)
end Go.Proofs.Ytcjmapljcnmfaaa
