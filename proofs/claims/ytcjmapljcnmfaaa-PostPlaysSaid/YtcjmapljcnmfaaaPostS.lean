/- Hear, Now, Units: the first report; the clock; texts held against one another. -/
import Derived.Test.YtcjmapljcnmfaaaPostR
namespace Go.Proofs.Ytcjmapljcnmfaaa
open Go.RowKit Go.Deep
def IsHearNo (w : World) (e : Ending) (w' : World) : Prop := e = .returned (.tuple #[.agg #[.slice none 0 0, .int .i64 0], .bool false]) ∧ New w w'
theorem hear_no (g : Nat) (F : Nat → Prop) (s : Mails) (now : Int) (w : World) (hp : PostAt w g F s [] now) :
    Calls Try.prog 17 #[.pointer (some ⟨g, 0, none⟩)] w (IsHearNo w) := by
  obtain ⟨⟨gm, cap, iv, rest, sv, hin⟩, hlt⟩ := hp
  obtain ⟨xs, ho, _, _⟩ := hin.said
  obtain ⟨As, cs, rfl⟩ := ho.row.form
  have h1 : (w.alloc (.cells #[.slice none 0 0, .int .i64 0] 47)).cell? ⟨g, 1, none⟩ = some (.slice As 0 cs) := (hin.blk.alloc _).cell 1
  clear hin ho
  go_enter Try.func17, Try.ntmps17
  go_wp2
  exact bodyPost_ret (v := .tuple #[.agg #[.slice none 0 0, .int .i64 0], .bool false]) (by simp [results, Try.results17, go_sem]) rfl ⟨rfl, (Upd.refl _ _).alloc _⟩
def IsHear (g : Nat) (F : Nat → Prop) (s : Mails) (rs : List (List Int × Int)) (now : Int) (t : List Int) (n : Int) (w : World) (e : Ending) (w' : World) : Prop :=
  ∃ A c, e = .returned (.tuple #[.agg #[.slice A t.length c, .int .i64 n], .bool true]) ∧ Own w' w.heap.size 71 1 (.slice A t.length c) t.length (encU t) ∧
    ∃ F', PostAt w' g F' s rs now ∧ Upd F w w' ∧ (∀ b, F' b → F b ∨ w.heap.size ≤ b) ∧ ∀ b, ownB (.slice A t.length c) = some b → ¬ F' b
set_option maxHeartbeats 1600000 in
theorem hear_yes (g : Nat) (F : Nat → Prop) (s : Mails) (rs : List (List Int × Int)) (now : Int) (t : List Int) (n : Int) (w : World) (hp : PostAt w g F s ((t, n) :: rs) now) (hb : t.length ≤ 1000000) (hrs : rs.length ≤ 1000000) :
    Calls Try.prog 17 #[.pointer (some ⟨g, 0, none⟩)] w (IsHear g F s rs now t n w) := by
  obtain ⟨⟨gm, cap, iv, rest, sv, hin⟩, hlt⟩ := hp
  obtain ⟨w0, hw0⟩ : ∃ w0, w0 = w.alloc (.cells #[.slice none 0 0, .int .i64 0] 47) := ⟨_, rfl⟩
  have hn0 : New w w0 := by rw [hw0]; exact (Upd.refl _ _).alloc _
  have hres : Blk w0 w.heap.size 47 [.slice none 0 0, .int .i64 0] := by rw [hw0]; exact Blk.new w _ _
  have hin0 := hin.keep (G := fun _ => False) hn0 (fun _ _ hf => hf)
  obtain ⟨xs, ho, hFs, hx⟩ := hin0.said
  have hrow := ho.row
  have hlen : ((t, n) :: rs).length = rs.length + 1 := rfl
  rw [hlen] at ho hrow
  obtain ⟨b, off, c, rfl, hcc, hmx, hbk, hxs⟩ : ∃ b off c, sv = .slice (some ⟨b, off, none⟩) (rs.length + 1) c ∧ rs.length + 1 ≤ c ∧ c ≤ maxLen ∧ b < w0.heap.size ∧ ∀ j u, xs[j]? = some u → w0.cell? ⟨b, off + j, none⟩ = some u := by
    rcases hrow.2 with ⟨h0, _⟩ | h
    · omega
    · exact h
  obtain ⟨tv, hx0, hx1, hot, hFt⟩ := hx 0 t n rfl
  obtain ⟨At, ct, rfl⟩ := hot.row.form
  have c0 : w0.cell? ⟨b, off, none⟩ = some (.slice At t.length ct) := hxs 0 _ hx0
  have c1 : w0.cell? ⟨b, off + 1, none⟩ = some (.int .i64 n) := hxs 1 _ hx1
  have h1 : w0.cell? ⟨g, 1, none⟩ = some (.slice (some ⟨b, off, none⟩) (rs.length + 1) c) := hin0.blk.cell 1
  have hnz : (((rs.length + 1 : Nat) : Int) == 0) = false := by simp; omega
  have hnn : ((rs.length + 1 : Nat) : Int) ≤ c ∧ (c : Int) ≤ 9223372036854775807 ∧ 1 ≤ rs.length + 1 := by unfold maxLen at hmx; omega
  obtain ⟨hnn1, hnn2, hnn3⟩ := hnn
  obtain ⟨nr, hnr⟩ : ∃ nr, nr = rs.length + 1 := ⟨_, rfl⟩
  rw [← hnr] at hnz hnn1 hnn3 h1 ho hrow hcc
  obtain ⟨v1, hcut0, hrow1, _⟩ := run_cut elR hrow .i64 1 hnn3
  have hcut : ∀ W : World, (Instr.slice 62 (.slice (some ⟨b, off, none⟩) nr c) (some (.int .i64 1)) none none).run Try.prog W = .ok v1 W := hcut0
  clear hcut0
  rw [show nr - 1 = rs.length by omega] at hrow1
  have hxl : xs.length = nr * 2 := ho.len
  have hone : ∀ u ∈ xs, u.oneCell' = true := by
    intro u hu
    obtain ⟨j, hj, hju⟩ := List.getElem_of_mem hu
    have hd : j / 2 < ((t, n) :: rs).length := by rw [List.length_cons]; omega
    obtain ⟨⟨t', e'⟩, ht'⟩ : ∃ p, ((t, n) :: rs)[j / 2]? = some p := ⟨_, List.getElem?_eq_getElem hd⟩
    obtain ⟨tv', k0, k1, k2, _⟩ := hx (j / 2) t' e' ht'
    obtain ⟨A', c', rfl⟩ := k2.row.form
    rcases Nat.mod_two_eq_zero_or_one j with h | h
    · rw [show 2 * (j / 2) = j by omega, List.getElem?_eq_getElem hj, hju] at k0
      injection k0 with k0
      rw [k0]; rfl
    · rw [show 2 * (j / 2) + 1 = j by omega, List.getElem?_eq_getElem hj, hju] at k1
      injection k1 with k1
      rw [k1]; rfl
  have Hs := hide (And.intro ho (And.intro hFs (And.intro hx (And.intro hot (And.intro hFt (And.intro hrow1 (And.intro hone (And.intro hxl hnr))))))))
  have hg0 : g < w0.heap.size := Nat.lt_of_lt_of_le (hlt g hin.fg) hn0.size
  have Hin := hide (And.intro hin0 (And.intro hin hres))
  clear ho hFs hx hot hFt hrow1 hone hxl hnr hrow hxs hx0 hx1 hmx hin hin0 hres hlen hcc
  obtain ⟨w1, hw1⟩ : ∃ w1, w1 = w0.alloc (.cells #[.slice At t.length ct, .int .i64 n] 47) := ⟨_, rfl⟩
  have hn1 : New w0 w1 := by rw [hw1]; exact (Upd.refl _ _).alloc _
  have hloc : Blk w1 w0.heap.size 47 [.slice At t.length ct, .int .i64 n] := by rw [hw1]; exact Blk.new w0 _ _
  have h1b : w1.cell? ⟨g, 1, none⟩ = some (.slice (some ⟨b, off, none⟩) nr c) := (hn1.cellN (p := ⟨g, 1, none⟩) hg0).trans h1
  have hsz0 : w0.heap.size = w.heap.size + 1 := by rw [hw0]; simp
  have Hloc := hide (And.intro hloc (And.intro hn1 (And.intro hn0 hsz0)))
  have Hw1 := hide (And.intro hw1 hw0)
  rw [hw1, hw0] at h1b
  rw [hw0] at c0 c1 h1
  clear hloc hn1 hn0 hw1 hw0 hsz0
  go_enter Try.func17, Try.ntmps17
  go_wp2_with fail
  rw [← Hw1.out.2, ← Hw1.out.1]
  obtain ⟨hloc, hn1, hn0, hsz0⟩ := Hloc.out
  rw [hsz0] at hloc
  obtain ⟨hin0, hin, hres⟩ := Hin.out
  have hin1 := hin0.keep (G := fun _ => False) hn1 (fun _ _ hf => hf)
  have hgw : g < w.heap.size := hlt g hin.fg
  have hg1 : g < w1.heap.size := Nat.lt_of_lt_of_le hg0 hn1.size
  have hc1 : w1.cell? ⟨g, 1, none⟩ = some (.slice (some ⟨b, off, none⟩) (rs.length + 1) c) := hin1.blk.cell 1
  have hf1 := hin1.blk.frozen 1
  have hres1 := hres.new_ hn1
  have Hin1 := hide (And.intro hin1 (And.intro hin (And.intro hn1 hn0)))
  have hrow1 := Hs.out.2.2.2.2.2.1
  have hrow1' : RowAt w1 2 v1 rs.length (xs.drop 2) := hrow1.new_ hn1
  have hone' : ∀ u ∈ xs.drop 2, u.oneCell' = true := fun u hu => Hs.out.2.2.2.2.2.2.1 u (List.mem_of_mem_drop hu)
  clear h1 h1b c0 c1 hin0 hin1 hin hn1 hn0 hsz0 hres hrow1 Hin Hloc Hw1
  refine (cloneR v1 rs.length (xs.drop 2) w1 hrow1' hone' (by omega)).mono ?_
  rintro e w2 ⟨v2, rfl, ho2, hn2⟩
  obtain ⟨A2, c2, rfl⟩ := ho2.row.form
  have hc2 := (hn2.cellN (p := ⟨g, 1, none⟩) hg1).trans hc1
  have hf2 := (hn2.frozenN (p := ⟨g, 1, none⟩) hg1).trans hf1
  have hres3 := (hres1.new_ hn2).far (p := ⟨g, 1, none⟩) (by show w.heap.size ≠ g; omega) (.slice A2 rs.length c2)
  have hloc3 := (hloc.new_ hn2).far (p := ⟨g, 1, none⟩) (by show w.heap.size + 1 ≠ g; omega) (.slice A2 rs.length c2)
  have d0 : (w2.setCell ⟨g, 1, none⟩ (.slice A2 rs.length c2)).cell? ⟨w.heap.size + 1, 0, none⟩ = some (.slice At t.length ct) := hloc3.cell 0
  have d1 : (w2.setCell ⟨g, 1, none⟩ (.slice A2 rs.length c2)).cell? ⟨w.heap.size + 1, 1, none⟩ = some (.int .i64 n) := hloc3.cell 1
  have Hres3 := hide hres3
  have Hloc3 := hide hloc3
  clear hres3 hloc3 hc1 hf1 hcut hrow1' hone' hnz hnn1 hnn3 hnn2
  go_wp2_with fail
  obtain ⟨hin1, hin, hn1, hn0⟩ := Hin1.out
  obtain ⟨ho, hFs, hx, hot, hFt, hrow1, hone, hxl, hnr⟩ := Hs.out
  have hin2 := hin1.keep (G := fun _ => False) hn2 (fun _ _ hf => hf)
  have hn02 := hn1.transNew hn2
  have hsaid : SaidAt w2 (fun q => F q ∨ ownB (.slice A2 rs.length c2) = some q) (.slice A2 rs.length c2) rs := by
    refine ⟨xs.drop 2, ho2.more (Nat.zero_le _), fun q hq => .inr hq, fun j t' e' hj => ?_⟩
    obtain ⟨tv', k0, k1, k2, k3⟩ := hx (j + 1) t' e' (by simpa using hj)
    exact ⟨tv', by rw [List.getElem?_drop, show 2 + 2 * j = 2 * (j + 1) by omega]; exact k0, by rw [List.getElem?_drop, show 2 + (2 * j + 1) = 2 * (j + 1) + 1 by omega]; exact k1, k2.new_ hn02, fun q hq => .inl (k3 q hq)⟩
  have hin3 := hin2.setSaid (Upd.refl _ _) hsaid (fun _ hq => .inl hq)
  have hu3 : Upd F w (w2.setCell ⟨g, 1, none⟩ (.slice A2 rs.length c2)) := ((hn0.transNew hn02).ofNew F).setCell (.inl hin.fg) _
  have hot3 := (hot.new_ hn02).upd (Upd.cellAt w2 ⟨g, 1, none⟩ (.slice A2 rs.length c2)) (fun q hq => (hot.new_ hn02).ne_blk hin2.blk (by decide) q hq)
  have hsz1 : w.heap.size ≤ w1.heap.size := Nat.le_trans hn0.size hn1.size
  have hF3 : ∀ q, (F q ∨ ownB (.slice A2 rs.length c2) = some q) → F q ∨ w.heap.size + 2 ≤ q := by
    rintro q (hq | hq)
    · exact .inl hq
    · have h1 := (ho2.lt q hq).1
      have h2 := hloc.lt
      exact .inr (by omega)
  have hlt3 : ∀ q, (F q ∨ ownB (.slice A2 rs.length c2) = some q) → q < (w2.setCell ⟨g, 1, none⟩ (.slice A2 rs.length c2)).heap.size := by
    rintro q (hq | hq)
    · exact Nat.lt_of_lt_of_le (hlt q hq) hu3.size
    · have := (ho2.lt q hq).2
      simpa [World.setCell] using this
  obtain ⟨w3, hw3⟩ : ∃ w3, w3 = w2.setCell ⟨g, 1, none⟩ (.slice A2 rs.length c2) := ⟨_, rfl⟩
  have Hres3' := Hres3.out
  rw [← hw3] at hin3 hu3 hot3 hlt3 Hres3' ⊢
  have Hk := hide (And.intro hin3 (And.intro hu3 (And.intro hF3 hlt3)))
  have Hr := hide Hres3'
  clear hw3 d0 d1 Hres3 Hloc3 Hres3' hc2 hf2 hin1 hin hn1 hn0 ho hFs hx hot hFt hrow1 hone hxl hnr hin2 hn02 hsaid hin3 hu3 hF3 hlt3 hloc Hs
  refine (copied_any _ t n w3 hot3.row hb).mono ?_
  rintro e w4 ⟨A4, c4, rfl, ho4, hn4⟩
  have hr4 := Hr.out.new_ hn4
  have r0 : w4.cell? ⟨w.heap.size, 0, none⟩ = some (.slice none 0 0) := hr4.cell 0
  have r1 : w4.cell? ⟨w.heap.size, 1, none⟩ = some (.int .i64 0) := hr4.cell 1
  have f0 := hr4.frozen 0
  have f1 := hr4.frozen 1
  have Hr4 := hide hr4
  have H4 := hide (And.intro ho4 hn4)
  clear hr4 ho4 hn4 hot3 ho2 hn2 hres1
  go_wp2
  have hr5 := (Hr4.out.set_ 0 (.slice A4 t.length c4)).set_ 1 (.int .i64 n)
  obtain ⟨ho4, hn4⟩ := H4.out
  obtain ⟨hin3, hu3, hF3, hlt3⟩ := Hk.out
  have hu5 : Upd (fun q => q = w.heap.size) w4 ((w4.setCell ⟨w.heap.size, 0, none⟩ (.slice A4 t.length c4)).setCell ⟨w.heap.size, 1, none⟩ (.int .i64 n)) :=
    ((Upd.refl (fun q => q = w.heap.size) w4).setCell (p := ⟨w.heap.size, 0, none⟩) (.inl rfl) _).setCell (p := ⟨w.heap.size, 1, none⟩) (.inl rfl) _
  obtain ⟨w5, hw5⟩ : ∃ w5, w5 = (w4.setCell ⟨w.heap.size, 0, none⟩ (.slice A4 t.length c4)).setCell ⟨w.heap.size, 1, none⟩ (.int .i64 n) := ⟨_, rfl⟩
  rw [← hw5] at hr5 hu5 ⊢
  have e0 : w5.cell? ⟨w.heap.size, 0, none⟩ = some (.slice A4 t.length c4) := hr5.cell 0
  have e1 : w5.cell? ⟨w.heap.size, 1, none⟩ = some (.int .i64 n) := hr5.cell 1
  have hw3s : w.heap.size ≤ w3.heap.size := hu3.size
  have hr3lt := Hr.out.lt
  have hF4 : ∀ q, (F q ∨ ownB (.slice A2 rs.length c2) = some q) → q ≠ w.heap.size := fun q hq => by
    rcases hF3 q hq with h | h
    · have := hlt q h; omega
    · omega
  have hin5 := hin3.keep (G := fun q => q = w.heap.size) ((hn4.ofNew _).trans hu5 fun _ _ h => h) hF4
  have ho5 := ho4.upd hu5 (fun q hq hqe => by have := (ho4.lt q hq).1; omega)
  refine bodyPost_ret (v := .tuple #[.agg #[.slice A4 t.length c4, .int .i64 n], .bool true]) (by simp [results, Try.results17, go_sem, e0, e1]) rfl ⟨A4, c4, rfl, ho5.more hw3s, _, ⟨⟨gm, cap, iv, rest, _, hin5⟩, ?_⟩, ?_, ?_, ?_⟩
  · exact fun q hq => Nat.lt_of_lt_of_le (hlt3 q hq) (Nat.le_trans hn4.size hu5.size)
  · exact (hu3.transNew hn4).trans hu5 fun i hi hq => by omega
  · intro q hq
    rcases hF3 q hq with h | h
    · exact .inl h
    · exact .inr (by omega)
  · intro q hq hqF
    have h1 := (ho4.lt q hq).1
    have h2 := hlt3 q hqF
    omega
end Go.Proofs.Ytcjmapljcnmfaaa
