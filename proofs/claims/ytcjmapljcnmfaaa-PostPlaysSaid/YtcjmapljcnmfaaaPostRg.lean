/- The document's Hear. Printed by wip/mkRf.py out of package post's. -/
import Derived.Test.YtcjmapljcnmfaaaPostRb
namespace Go.Proofs.Ytcjmapljcnmfaaa.R
open Go.RowKit Go.Deep
set_option linter.unusedVariables false
def IsHearNo (w : World) (e : Ending) (w' : World) : Prop := e = .returned (.tuple #[.agg #[.slice none 0 0, .int .i64 0], .bool false]) ∧ New w w'
def IsHear (g : Nat) (F : Nat → Prop) (s : Mails) (rs : List (List Int × Int)) (now : Int) (t : List Int) (n : Int) (w : World) (e : Ending) (w' : World) : Prop :=
  ∃ A c, e = .returned (.tuple #[.agg #[.slice A t.length c, .int .i64 n], .bool true]) ∧ RowAt w' 1 (.slice A t.length c) t.length (encU t) ∧
    ∃ F', PostAt w' g F' s rs now ∧ Upd F w w' ∧ ∀ b, F' b → F b ∨ w.heap.size ≤ b
theorem hear_no (g : Nat) (F : Nat → Prop) (s : Mails) (now : Int) (w : World) (hp : PostAt w g F s [] now) :
    Calls Try.prog 40 #[.pointer (some ⟨g, 0, none⟩)] w (IsHearNo w) := by
  obtain ⟨⟨gm, cap, iv, rest, sv, hin⟩, hlt⟩ := hp
  obtain ⟨xs, ho, _, _⟩ := hin.said
  obtain ⟨As, cs, rfl⟩ := ho.row.form
  have h1 : (w.alloc (.cells #[.slice none 0 0, .int .i64 0] 84)).cell? ⟨g, 1, none⟩ = some (.slice As 0 cs) := (hin.blk.alloc _).cell 1
  clear hin ho
  go_enter Try.func40, Try.ntmps40
  go_wp2
  exact bodyPost_ret (v := .tuple #[.agg #[.slice none 0 0, .int .i64 0], .bool false]) (by simp [results, Try.results40, go_sem]) rfl ⟨rfl, (Upd.refl _ _).alloc _⟩
set_option maxHeartbeats 1600000 in
theorem hear_yes (g : Nat) (F : Nat → Prop) (s : Mails) (rs : List (List Int × Int)) (now : Int) (t : List Int) (n : Int) (w : World) (hp : PostAt w g F s ((t, n) :: rs) now) (hb : t.length ≤ 1000000) (hrs : rs.length ≤ 1000000) :
    Calls Try.prog 40 #[.pointer (some ⟨g, 0, none⟩)] w (IsHear g F s rs now t n w) := by
  obtain ⟨⟨gm, cap, iv, rest, sv, hin⟩, hlt⟩ := hp
  obtain ⟨w0, hw0⟩ : ∃ w0, w0 = w.alloc (.cells #[.slice none 0 0, .int .i64 0] 84) := ⟨_, rfl⟩
  have hn0 : New w w0 := by rw [hw0]; exact (Upd.refl _ _).alloc _
  have hres : Blk w0 w.heap.size 84 [.slice none 0 0, .int .i64 0] := by rw [hw0]; exact Blk.new w _ _
  have hin0 := hin.keep (G := fun _ => False) hn0 (fun _ _ hf => hf)
  obtain ⟨xs, ho, hFs, hx⟩ := hin0.said
  have hrow := ho.row
  have hlen : ((t, n) :: rs).length = rs.length + 1 := rfl
  rw [hlen] at ho hrow
  obtain ⟨b, off, c, rfl, hcc, hmx, hbk, hxs⟩ : ∃ b off c, sv = .slice (some ⟨b, off, none⟩) (rs.length + 1) c ∧ rs.length + 1 ≤ c ∧ c ≤ maxLen ∧ b < w0.heap.size ∧ ∀ j u, xs[j]? = some u → w0.cell? ⟨b, off + j, none⟩ = some u := by
    rcases hrow.2 with ⟨h0, _⟩ | h
    · omega
    · exact h
  obtain ⟨tv, hx0, hx1, hot, hFt⟩ := hx 0 t n rfl
  obtain ⟨At, ct, rfl⟩ := hot.row.form
  have c0 : w0.cell? ⟨b, off, none⟩ = some (.slice At t.length ct) := hxs 0 _ hx0
  have c1 : w0.cell? ⟨b, off + 1, none⟩ = some (.int .i64 n) := hxs 1 _ hx1
  have h1 : w0.cell? ⟨g, 1, none⟩ = some (.slice (some ⟨b, off, none⟩) (rs.length + 1) c) := hin0.blk.cell 1
  have hnz : (((rs.length + 1 : Nat) : Int) == 0) = false := by simp; omega
  have hnn : ((rs.length + 1 : Nat) : Int) ≤ c ∧ (c : Int) ≤ 9223372036854775807 ∧ 1 ≤ rs.length + 1 := by unfold maxLen at hmx; omega
  obtain ⟨hnn1, hnn2, hnn3⟩ := hnn
  obtain ⟨nr, hnr⟩ : ∃ nr, nr = rs.length + 1 := ⟨_, rfl⟩
  rw [← hnr] at hnz hnn1 hnn3 h1 ho hrow hcc
  obtain ⟨v1, hcut0, hrow1, _⟩ := run_cut elR hrow .i64 1 hnn3
  have hcut : ∀ W : World, (Instr.slice 73 (.slice (some ⟨b, off, none⟩) nr c) (some (.int .i64 1)) none none).run Try.prog W = .ok v1 W := hcut0
  clear hcut0
  rw [show nr - 1 = rs.length by omega] at hrow1
  obtain ⟨Av, cv, rfl⟩ := hrow1.form
  have hxl : xs.length = nr * 2 := ho.len
  have hone : ∀ u ∈ xs, u.oneCell' = true := by
    intro u hu
    obtain ⟨j, hj, hju⟩ := List.getElem_of_mem hu
    have hd : j / 2 < ((t, n) :: rs).length := by rw [List.length_cons]; omega
    obtain ⟨⟨t', e'⟩, ht'⟩ : ∃ p, ((t, n) :: rs)[j / 2]? = some p := ⟨_, List.getElem?_eq_getElem hd⟩
    obtain ⟨tv', k0, k1, k2, _⟩ := hx (j / 2) t' e' ht'
    obtain ⟨A', c', rfl⟩ := k2.row.form
    rcases Nat.mod_two_eq_zero_or_one j with h | h
    · rw [show 2 * (j / 2) = j by omega, List.getElem?_eq_getElem hj, hju] at k0
      injection k0 with k0
      rw [k0]; rfl
    · rw [show 2 * (j / 2) + 1 = j by omega, List.getElem?_eq_getElem hj, hju] at k1
      injection k1 with k1
      rw [k1]; rfl
  have Hs := hide (And.intro ho (And.intro hFs (And.intro hx (And.intro hot (And.intro hFt (And.intro hrow1 (And.intro hone (And.intro hxl hnr))))))))
  have hg0 : g < w0.heap.size := Nat.lt_of_lt_of_le (hlt g hin.fg) hn0.size
  have Hin := hide (And.intro hin0 (And.intro hin hres))
  clear ho hFs hx hot hFt hrow1 hone hxl hnr hrow hxs hx0 hx1 hmx hin hin0 hres hlen hcc
  obtain ⟨w1, hw1⟩ : ∃ w1, w1 = w0.alloc (.cells #[.slice At t.length ct, .int .i64 n] 84) := ⟨_, rfl⟩
  have hn1 : New w0 w1 := by rw [hw1]; exact (Upd.refl _ _).alloc _
  have hloc : Blk w1 w0.heap.size 84 [.slice At t.length ct, .int .i64 n] := by rw [hw1]; exact Blk.new w0 _ _
  have h1b : w1.cell? ⟨g, 1, none⟩ = some (.slice (some ⟨b, off, none⟩) nr c) := (hn1.cellN (p := ⟨g, 1, none⟩) hg0).trans h1
  have hsz0 : w0.heap.size = w.heap.size + 1 := by rw [hw0]; simp
  have Hloc := hide (And.intro hloc (And.intro hn1 (And.intro hn0 hsz0)))
  have Hw1 := hide (And.intro hw1 hw0)
  have h1c : (w1.alloc (.cells #[] 84)).cell? ⟨g, 1, none⟩ = some (.slice (some ⟨b, off, none⟩) nr c) := (((Upd.refl (fun _ => False) w1).alloc _).cellN (p := ⟨g, 1, none⟩) (Nat.lt_of_lt_of_le hg0 hn1.size)).trans h1b
  rw [hw1, hw0] at h1b h1c
  rw [hw0] at c0 c1 h1
  clear hloc hn1 hn0 hw1 hw0 hsz0
  have hna : New w1 (w1.alloc (.cells #[] 84)) := (Upd.refl _ _).alloc _
  obtain ⟨hloc, hn1, hn0, hsz0⟩ := Hloc.out
  have Ha := hide (And.intro ((Hs.out.2.2.2.2.2.1.new_ hn1).new_ hna) (And.intro (fun (u : Value) (hu : u ∈ xs.drop 2) => Hs.out.2.2.2.2.2.2.1 u (List.mem_of_mem_drop hu)) (And.intro hna
    (show Own (w1.alloc (.cells #[] 84)) w1.heap.size 84 2 (.slice (some ⟨w.heap.size + 1 + 1, 0, none⟩) 0 0) 0 [] from .inr ⟨rfl, rfl, _, rfl⟩))))
  rw [hsz0] at hloc
  obtain ⟨hin0, hin, hres⟩ := Hin.out
  have hin1 := hin0.keep (G := fun _ => False) hn1 (fun _ _ hf => hf)
  have hgw : g < w.heap.size := hlt g hin.fg
  have hg1 : g < w1.heap.size := Nat.lt_of_lt_of_le hg0 hn1.size
  have hc1 : w1.cell? ⟨g, 1, none⟩ = some (.slice (some ⟨b, off, none⟩) (rs.length + 1) c) := hin1.blk.cell 1
  have Hg := hide (And.intro hg1 (And.intro hc1 (And.intro (hin1.blk.frozen 1) (And.intro (hres.new_ hn1) hloc))))
  have Hin1 := hide (And.intro hin1 (And.intro hin (And.intro hn1 hn0)))
  clear hna hin0 hin1 hin hn1 hn0 hsz0 hres hloc hg1 hc1 Hin Hloc
  go_enter Try.func40, Try.ntmps40
  go_wp2_with (at_builtin; rw [← Hw1.out.2, ← Hw1.out.1]; refine wpList_append_row _ rfl (.tmp 19) (.tmp 24) elR rfl w1.heap.size (.slice (some ⟨w.heap.size + 1 + 1, 0, none⟩) 0 0) 0 [] rfl Ha.out.2.2.2 (.slice Av rs.length cv) rs.length (xs.drop 2) rfl Ha.out.1 Ha.out.2.1 (by omega) (by rw [Nat.zero_add]; unfold maxLen; omega) Ha.out.2.2.1.size ?_
               intro v2 w2 ho20 hg2 hat2
               have ho2 : Own w2 w1.heap.size 84 2 v2 rs.length (xs.drop 2) := (by simpa using ho20)
               obtain ⟨A2, c2, rfl⟩ := ho2.row.form
               have hn2 : New w1 w2 := Ha.out.2.2.1.grown hg2 (fun k hk => by simp [ownB] at hk)
               have hc2 := (hn2.cellN (p := ⟨g, 1, none⟩) Hg.out.1).trans Hg.out.2.1
               have hf2 := (hn2.frozenN (p := ⟨g, 1, none⟩) Hg.out.1).trans Hg.out.2.2.1
               have hres3 := (Hg.out.2.2.2.1.new_ hn2).far (p := ⟨g, 1, none⟩) (by show w.heap.size ≠ g; omega) (.slice A2 rs.length c2)
               have hloc3 := (Hg.out.2.2.2.2.new_ hn2).far (p := ⟨g, 1, none⟩) (by show w.heap.size + 1 ≠ g; omega) (.slice A2 rs.length c2)
               have d0 : (w2.setCell ⟨g, 1, none⟩ (.slice A2 rs.length c2)).cell? ⟨w.heap.size + 1, 0, none⟩ = some (.slice At t.length ct) := hloc3.cell 0
               have d1 : (w2.setCell ⟨g, 1, none⟩ (.slice A2 rs.length c2)).cell? ⟨w.heap.size + 1, 1, none⟩ = some (.int .i64 n) := hloc3.cell 1
               have r0 : (w2.setCell ⟨g, 1, none⟩ (.slice A2 rs.length c2)).cell? ⟨w.heap.size, 0, none⟩ = some (.slice none 0 0) := hres3.cell 0
               have r1 : (w2.setCell ⟨g, 1, none⟩ (.slice A2 rs.length c2)).cell? ⟨w.heap.size, 1, none⟩ = some (.int .i64 0) := hres3.cell 1
               have f0 : (w2.setCell ⟨g, 1, none⟩ (.slice A2 rs.length c2)).frozen? ⟨w.heap.size, 0, none⟩ = false := hres3.frozen 0
               have f1 : (w2.setCell ⟨g, 1, none⟩ (.slice A2 rs.length c2)).frozen? ⟨w.heap.size, 1, none⟩ = false := hres3.frozen 1
               have Hx := hide (And.intro hres3 (And.intro ho2 hn2))
               clear ho20 hat2 hg2 hres3 hloc3 ho2 hn2)
  obtain ⟨hres3, ho2, hn2⟩ := Hx.out
  have hloc := Hg.out.2.2.2.2
  have Hres3 := hide hres3
  obtain ⟨hin1, hin, hn1, hn0⟩ := Hin1.out
  obtain ⟨ho, hFs, hx, hot, hFt, hrow1, hone, hxl, hnr⟩ := Hs.out
  have hin2 := hin1.keep (G := fun _ => False) hn2 (fun _ _ hf => hf)
  have hn02 := hn1.transNew hn2
  have hsaid : SaidAt w2 (fun q => F q ∨ ownB (.slice A2 rs.length c2) = some q) (.slice A2 rs.length c2) rs := by
    refine ⟨xs.drop 2, ho2.more (Nat.zero_le _), fun q hq => .inr hq, fun j t' e' hj => ?_⟩
    obtain ⟨tv', k0, k1, k2, k3⟩ := hx (j + 1) t' e' (by simpa using hj)
    exact ⟨tv', by rw [List.getElem?_drop, show 2 + 2 * j = 2 * (j + 1) by omega]; exact k0, by rw [List.getElem?_drop, show 2 + (2 * j + 1) = 2 * (j + 1) + 1 by omega]; exact k1, k2.new_ hn02, fun q hq => .inl (k3 q hq)⟩
  have hin3 := hin2.setSaid (Upd.refl _ _) hsaid (fun _ hq => .inl hq)
  have hu3 : Upd F w (w2.setCell ⟨g, 1, none⟩ (.slice A2 rs.length c2)) := ((hn0.transNew hn02).ofNew F).setCell (.inl hin.fg) _
  have hot3 := (hot.new_ hn02).upd (Upd.cellAt w2 ⟨g, 1, none⟩ (.slice A2 rs.length c2)) (fun q hq => (hot.new_ hn02).ne_blk hin2.blk (by decide) q hq)
  have hsz1 : w.heap.size ≤ w1.heap.size := Nat.le_trans hn0.size hn1.size
  have hF3 : ∀ q, (F q ∨ ownB (.slice A2 rs.length c2) = some q) → F q ∨ w.heap.size + 2 ≤ q := by
    rintro q (hq | hq)
    · exact .inl hq
    · have h1 := (ho2.lt q hq).1
      have h2 := hloc.lt
      exact .inr (by omega)
  have hlt3 : ∀ q, (F q ∨ ownB (.slice A2 rs.length c2) = some q) → q < (w2.setCell ⟨g, 1, none⟩ (.slice A2 rs.length c2)).heap.size := by
    rintro q (hq | hq)
    · exact Nat.lt_of_lt_of_le (hlt q hq) hu3.size
    · have := (ho2.lt q hq).2
      simpa [World.setCell] using this
  obtain ⟨w3, hw3⟩ : ∃ w3, w3 = w2.setCell ⟨g, 1, none⟩ (.slice A2 rs.length c2) := ⟨_, rfl⟩
  have Hres3' := Hres3.out
  rw [← hw3] at hin3 hu3 hot3 hlt3 Hres3' ⊢
  clear hw3
  have hr5 := (Hres3'.set_ 0 (.slice At t.length ct)).set_ 1 (.int .i64 n)
  have hu5 : Upd (fun q => q = w.heap.size) w3 ((w3.setCell ⟨w.heap.size, 0, none⟩ (.slice At t.length ct)).setCell ⟨w.heap.size, 1, none⟩ (.int .i64 n)) :=
    ((Upd.refl (fun q => q = w.heap.size) w3).setCell (p := ⟨w.heap.size, 0, none⟩) (.inl rfl) _).setCell (p := ⟨w.heap.size, 1, none⟩) (.inl rfl) _
  obtain ⟨w5, hw5⟩ : ∃ w5, w5 = (w3.setCell ⟨w.heap.size, 0, none⟩ (.slice At t.length ct)).setCell ⟨w.heap.size, 1, none⟩ (.int .i64 n) := ⟨_, rfl⟩
  rw [← hw5] at hr5 hu5 ⊢
  have e0 : w5.cell? ⟨w.heap.size, 0, none⟩ = some (.slice At t.length ct) := hr5.cell 0
  have e1 : w5.cell? ⟨w.heap.size, 1, none⟩ = some (.int .i64 n) := hr5.cell 1
  have hr3lt := Hres3'.lt
  have hF4 : ∀ q, (F q ∨ ownB (.slice A2 rs.length c2) = some q) → q ≠ w.heap.size := fun q hq => by
    rcases hF3 q hq with h | h
    · have := hlt q h; omega
    · omega
  have hin5 := hin3.keep (G := fun q => q = w.heap.size) hu5 hF4
  have hot5 := hot3.upd hu5 (fun q hq hqe => hF4 q (.inl (hFt q hq)) hqe)
  refine bodyPost_ret (v := .tuple #[.agg #[.slice At t.length ct, .int .i64 n], .bool true]) (by simp [results, Try.results40, go_sem, e0, e1]) rfl ⟨At, ct, rfl, hot5.row, _, ⟨⟨gm, cap, iv, rest, _, hin5⟩, ?_⟩, ?_, ?_⟩
  · exact fun q hq => Nat.lt_of_lt_of_le (hlt3 q hq) hu5.size
  · exact hu3.trans hu5 fun i hi hq => by omega
  · intro q hq
    rcases hF3 q hq with h | h
    · exact .inl h
    · exact .inr (by omega)

end Go.Proofs.Ytcjmapljcnmfaaa.R
