/- Take: the first mail that lies for an agent. -/
import Derived.Test.YtcjmapljcnmfaaaPostB
import Derived.Test.YtcjmapljcnmfaaaReg
import Derived.OwnWalk
namespace Go.Proofs.Ytcjmapljcnmfaaa
open Go.RowKit

/-! ### Take -/
theorem field64_0 (g : Nat) (w : World) : (Instr.fieldAt 64 (.pointer (some ⟨g, 0, none⟩)) 0).run Try.prog w = .ok (.pointer (some ⟨g, 0, none⟩)) w := by kernel_rfl
theorem field64_1 (g : Nat) (w : World) : (Instr.fieldAt 64 (.pointer (some ⟨g, 0, none⟩)) 1).run Try.prog w = .ok (.pointer (some ⟨g, 1, none⟩)) w := by kernel_rfl
/-- The state behind a taking. -/
def takeS (s : Mails) (n : Int) : Mails := s.modify n.toNat (·.drop 1)
def IsTake (g : Nat) (F : Nat → Prop) (s : Mails) (rs : List (List Int × Int)) (now : Int) (k : Nat) (m : Ml) (w : World) (e : Ending) (w' : World) : Prop :=
  e = .returned (.tuple #[aggM m, .bool true]) ∧ ∃ F', PostAt w' g F' (takeS s k) rs now ∧ Upd F w w' ∧ ∀ b, F' b → F b ∨ w.heap.size ≤ b
def IsTakeNo (w : World) (e : Ending) (w' : World) : Prop := e = .returned (.tuple #[aggM ⟨0, 0, 0, 0⟩, .bool false]) ∧ New w w'
theorem take_no (g : Nat) (F : Nat → Prop) (s : Mails) (rs : List (List Int × Int)) (now : Int) (n : Int) (w : World) (hp : PostAt w g F s rs now) (hno : isAg s n = false ∨ s.getD n.toNat [] = []) :
    Calls Try.prog 12 #[.pointer (some ⟨g, 0, none⟩), .int .i64 n] w (IsTakeNo w) := by
  obtain ⟨⟨gm, cap, iv, rest, sv, hin⟩, hlt⟩ := hp
  have hb1 := hin.blk.alloc (.cells #[.int .i64 0, .int .i64 0, .int .i64 0, .int .i64 0] 37)
  have h0 : (w.alloc (.cells #[.int .i64 0, .int .i64 0, .int .i64 0, .int .i64 0] 37)).cell? ⟨g, 0, none⟩ = some (.slice (some ⟨gm, 0, none⟩) s.length cap) := hb1.cell 0
  by_cases ha : isAg s n = true
  · have hag : (decide (0 ≤ n) && decide (n < (s.length : Int))) = true := by simpa [isAg] using ha
    have hb : 0 ≤ n ∧ n < (s.length : Int) := by simpa [isAg] using ha
    obtain ⟨k, rfl⟩ := Int.eq_ofNat_of_zero_le hb.1
    obtain ⟨hb0, hb1'⟩ := hb
    have hk : k < s.length := by omega
    have hd : s.getD k [] = s[k] := by simp [List.getD, hk]
    have hnil : s[k] = [] := by
      rcases hno with h | h
      · rw [ha] at h; cases h
      · rw [← hd]; simpa using h
    obtain ⟨v, hv, hown, hcell⟩ := hin.at_ (List.getElem?_eq_getElem hk)
    have hcell' : (w.alloc (.cells #[.int .i64 0, .int .i64 0, .int .i64 0, .int .i64 0] 37)).cell? ⟨gm, k, none⟩ = some v := ((Upd.refl (fun _ => False) w).alloc _).cellN (p := ⟨gm, k, none⟩) (hlt gm hin.fm) |>.trans hcell
    rw [hnil] at hown
    obtain ⟨A, c, rfl⟩ := hown.row.form
    have Hag := hide hag
    clear hv hown hd hag ha hno hnil hcell
    go_enter Try.func12, Try.ntmps12
    go_wp2_with (go_at_call 24; refine (agent_any g k _ _ _ _ h0).mono ?_; rintro e w' ⟨rfl, rfl⟩; rw [Hag.out])
    exact bodyPost_ret (v := .tuple #[aggM ⟨0, 0, 0, 0⟩, .bool false]) (by simp [results, Try.results12, go_sem, aggM]) rfl ⟨rfl, (Upd.refl _ _).alloc _⟩
  · have hag : (decide (0 ≤ n) && decide (n < (s.length : Int))) = false := by simpa [isAg] using ha
    have Hag := hide hag
    clear hag ha hno
    go_enter Try.func12, Try.ntmps12
    go_wp2_with (go_at_call 24; refine (agent_any g n _ _ _ _ h0).mono ?_; rintro e w' ⟨rfl, rfl⟩; rw [Hag.out])
    exact bodyPost_ret (v := .tuple #[aggM ⟨0, 0, 0, 0⟩, .bool false]) (by simp [results, Try.results12, go_sem, aggM]) rfl ⟨rfl, (Upd.refl _ _).alloc _⟩
set_option maxHeartbeats 1600000 in
theorem take_yes (g : Nat) (F : Nat → Prop) (s : Mails) (rs : List (List Int × Int)) (now : Int) (k : Nat) (m : Ml) (r : List Ml) (w : World) (hp : PostAt w g F s rs now) (hfit : Fit s) (hk : k < s.length) (hm : s.getD k [] = m :: r) :
    Calls Try.prog 12 #[.pointer (some ⟨g, 0, none⟩), .int .i64 (k : Int)] w (IsTake g F s rs now k m w) := by
  obtain ⟨⟨gm, cap, iv, rest, sv, hin⟩, hlt⟩ := hp
  obtain ⟨w0, hw0⟩ : ∃ w0, w0 = w.alloc (.cells #[.int .i64 0, .int .i64 0, .int .i64 0, .int .i64 0] 37) := ⟨_, rfl⟩
  have hn0 : New w w0 := by rw [hw0]; exact (Upd.refl _ _).alloc _
  have hres : Blk w0 w.heap.size 37 [.int .i64 0, .int .i64 0, .int .i64 0, .int .i64 0] := by rw [hw0]; exact Blk.new w _ _
  have hsk : s[k]? = some (m :: r) := by rw [← hm]; simp [List.getD, hk]
  have hin0 := hin.keep (G := fun _ => False) hn0 (fun _ _ hf => hf)
  have h0 : w0.cell? ⟨g, 0, none⟩ = some (.slice (some ⟨gm, 0, none⟩) s.length cap) := hin0.blk.cell 0
  obtain ⟨v, hv, hown, hcell⟩ := hin0.at_ hsk
  have hrow := hown.row
  obtain ⟨b, off, c, rfl, hcc, hmx, hbk, hx⟩ : ∃ b off c, v = .slice (some ⟨b, off, none⟩) (m :: r).length c ∧ (m :: r).length ≤ c ∧ c ≤ maxLen ∧ b < w0.heap.size ∧ ∀ j u, (encL (m :: r))[j]? = some u → w0.cell? ⟨b, off + j, none⟩ = some u := by
    rcases hrow.2 with ⟨h0, _⟩ | h
    · simp at h0
    · exact h
  obtain ⟨c0, c1, c2, c3⟩ := cellsM (w := w0) hx (k := 0) (m := m) rfl
  simp only [Nat.zero_mul, Nat.add_zero] at c0 c1 c2 c3
  obtain ⟨nm, hnm⟩ : ∃ nm, nm = (m :: r).length := ⟨_, rfl⟩
  have hnm1 : 1 ≤ nm := by rw [hnm]; simp
  have hnm2 : (nm : Int) ≤ c := by rw [hnm]; omega
  have hnm3 : (c : Int) ≤ 9223372036854775807 := by unfold maxLen at hmx; omega
  have hnm4 : ((nm : Int) == 0) = false := by simp; omega
  rw [← hnm] at hcell hown hcc hv
  have Hnm := hide hnm
  have hag : (decide (0 ≤ (k : Int)) && decide ((k : Int) < (s.length : Int))) = true := by simp; omega
  have hkl : (k : Int) < s.length := by omega
  have Hag := hide hag
  have Hown := hide hown
  have Hm := hide hm
  have Hv := hide hv
  clear hag hm hx hrow hsk hv hown hnm hmx
  go_enter Try.func12, Try.ntmps12
  go_wp2_with fail
  rw [← hw0]
  clear hw0
  go_wp2_with (go_at_call 24; refine (agent_any g k _ _ _ _ h0).mono ?_; rintro e w' ⟨rfl, rfl⟩; rw [Hag.out])
  obtain ⟨w1, hw1⟩ : ∃ w1, w1 = w0.alloc (.cells #[.int .i64 m.bl, .int .i64 m.ln, .int .i64 m.by_, .int .i64 m.ev] 37) := ⟨_, rfl⟩
  have hn1 : New w0 w1 := by rw [hw1]; exact (Upd.refl _ _).alloc _
  have hloc : Blk w1 w0.heap.size 37 (encM m) := by rw [hw1]; exact Blk.new w0 _ (encM m)
  rw [← hw1]
  clear hw1
  have hin1 := hin0.keep (G := fun _ => False) hn1 (fun _ _ hf => hf)
  have hres1 := hres.new_ hn1
  have h0' : w1.cell? ⟨g, 0, none⟩ = some (.slice (some ⟨gm, 0, none⟩) s.length cap) := hin1.blk.cell 0
  have hgm0 : gm < w0.heap.size := Nat.lt_of_lt_of_le (hlt gm hin.fm) hn0.size
  have hg0 : g < w0.heap.size := Nat.lt_of_lt_of_le (hlt g hin.fg) hn0.size
  have hcell' : w1.cell? ⟨gm, k, none⟩ = some (.slice (some ⟨b, off, none⟩) nm c) := (hn1.cellN (p := ⟨gm, k, none⟩) hgm0).trans hcell
  have hfz' : w1.frozen? ⟨gm, k, none⟩ = false := hin1.mb.frozen k
  obtain ⟨v1, hcut0, hrow1, _⟩ := run_cut el37 (Hown.out.new_ hn1).row .i64 1 hnm1
  have hcut : ∀ W : World, (Instr.slice 34 (.slice (some ⟨b, off, none⟩) nm c) (some (.int .i64 1)) none none).run Try.prog W = .ok v1 W := hcut0
  clear hcut0
  have hgm1 : gm < w1.heap.size := Nat.lt_of_lt_of_le hgm0 hn1.size
  have hg1 : g < w1.heap.size := Nat.lt_of_lt_of_le hg0 hn1.size
  have hdrop : (encL (m :: r)).drop (1 * 4) = encL r := by simp [encL, encM]
  have hrl : nm - 1 = r.length := by rw [Hnm.out]; simp
  rw [hdrop, hrl] at hrow1
  have hbr : r.length * 32 ≤ 140737488355328 := by
    have h1 := hfit.at_ (j := k) (l := m :: r) (by rw [← Hm.out]; simp [List.getD, hk])
    simp at h1; omega
  have Hrow1 := hide hrow1
  have Hdrop := hide (And.intro hdrop hrl)
  have hk0 : (0 : Int) ≤ (k : Int) := Int.natCast_nonneg k
  clear hrow1 hdrop hrl c0 c1 c2 c3 h0 hcell
  have hidx : (⟨gm, 0 + k * 1, none⟩ : Addr) = ⟨gm, k, none⟩ := by simp
  have hfacts : w1.drew.cell? ⟨g, 0, none⟩ = some (.slice (some ⟨gm, 0, none⟩) s.length cap) ∧ w1.drew.cell? ⟨gm, k, none⟩ = some (.slice (some ⟨b, off, none⟩) nm c) := ⟨h0', hcell'⟩
  refine wp_region_df (b := ?bb) (fun w' => w'.cell? ⟨g, 0, none⟩ = some (.slice (some ⟨gm, 0, none⟩) s.length cap) ∧ w'.cell? ⟨gm, k, none⟩ = some (.slice (some ⟨b, off, none⟩) nm c)) 15
    [0, 1, 2, 3, 4, 5, 6, 7, 8, 9, 10, 11, 12] [13, 14, 15] (by kernel_rfl) (by kernel_rfl) (fun _ _ d _ _ h => by cases d <;> exact h) hfacts ?reads ?acts
  case reads =>
    refine readsTo_step (a' := ?_) rfl rfl (y_move (v := .pointer (some ⟨g, 0, none⟩)) rfl rfl) ?_ ?_
    rotate_left; (simp only [Act.put, List.setIfInBounds_toArray, List.set_cons_zero, List.set_cons_succ]; rfl)
    refine readsTo_step (a' := ?_) rfl rfl (y_nil rfl rfl) ?_ ?_
    rotate_left; (simp only [Act.put, List.setIfInBounds_toArray, List.set_cons_zero, List.set_cons_succ]; rfl)
    refine readsTo_step (a' := ?_) rfl rfl (y_field rfl rfl (field64_0 g)) ?_ ?_
    rotate_left; (simp only [Act.put, List.setIfInBounds_toArray, List.set_cons_zero, List.set_cons_succ]; rfl)
    refine readsTo_step (a' := ?_) rfl rfl (y_load rfl rfl Try.isAgg61 fun _ h => h.1) ?_ ?_
    rotate_left; (simp only [Act.put, List.setIfInBounds_toArray, List.set_cons_zero, List.set_cons_succ]; rfl)
    refine readsTo_step (a' := ?_) rfl rfl (y_move (v := .int .i64 (k : Int)) rfl rfl) ?_ ?_
    rotate_left; (simp only [Act.put, List.setIfInBounds_toArray, List.set_cons_zero, List.set_cons_succ]; rfl)
    refine readsTo_step (a' := ?_) rfl rfl (y_move (v := .pointer (some ⟨g, 0, none⟩)) rfl rfl) ?_ ?_
    rotate_left; (simp only [Act.put, List.setIfInBounds_toArray, List.set_cons_zero, List.set_cons_succ]; rfl)
    refine readsTo_step (a' := ?_) rfl rfl (y_nil rfl rfl) ?_ ?_
    rotate_left; (simp only [Act.put, List.setIfInBounds_toArray, List.set_cons_zero, List.set_cons_succ]; rfl)
    refine readsTo_step (a' := ?_) rfl rfl (y_field rfl rfl (field64_0 g)) ?_ ?_
    rotate_left; (simp only [Act.put, List.setIfInBounds_toArray, List.set_cons_zero, List.set_cons_succ]; rfl)
    refine readsTo_step (a' := ?_) rfl rfl (y_load rfl rfl Try.isAgg61 fun _ h => h.1) ?_ ?_
    rotate_left; (simp only [Act.put, List.setIfInBounds_toArray, List.set_cons_zero, List.set_cons_succ]; rfl)
    refine readsTo_step (a' := ?_) rfl rfl (y_move (v := .int .i64 (k : Int)) rfl rfl) ?_ ?_
    rotate_left; (simp only [Act.put, List.setIfInBounds_toArray, List.set_cons_zero, List.set_cons_succ]; rfl)
    refine readsTo_step (a' := ?_) rfl rfl (y_index rfl rfl rfl Try.underlying61 Try.sizeOf34 hk hidx) ?_ ?_
    rotate_left; (simp only [Act.put, List.setIfInBounds_toArray, List.set_cons_zero, List.set_cons_succ]; rfl)
    refine readsTo_step (a' := ?_) rfl rfl (y_load rfl rfl Try.isAgg34 fun _ h => h.2) ?_ ?_
    rotate_left; (simp only [Act.put, List.setIfInBounds_toArray, List.set_cons_zero, List.set_cons_succ]; rfl)
    refine readsTo_step (a' := ?_) rfl rfl (y_slice rfl Try.underlying34 rfl hcut) ?_ ?_
    rotate_left; (simp only [Act.put, List.setIfInBounds_toArray, List.set_cons_zero, List.set_cons_succ]; rfl)
    exact readsTo_nil _
  case acts =>
    refine actsTo_cons rfl rfl fun K hK => a_call (args := #[v1]) rfl rfl (fun w => by kernel_rfl) (cloneM v1 r.length (encL r) _ (by exact Hrow1.out) (encL_one r) hbr) ?_
    rintro e w' ⟨v', rfl, hown', hnew⟩
    obtain ⟨A', c', rfl⟩ := hown'.row.form
    have hc1 := (hnew.cellN (p := ⟨g, 0, none⟩) hg1).trans h0'
    have hc2 := (hnew.cellN (p := ⟨gm, k, none⟩) hgm1).trans hcell'
    have hf2 := (hnew.frozenN (p := ⟨gm, k, none⟩) hgm1).trans hfz'
    refine ⟨_, rfl, hK _ _ (.inr ⟨hc1, hc2⟩) ?_⟩
    refine actsTo_cons rfl rfl fun K hK => a_read (y_index rfl rfl rfl Try.underlying61 Try.sizeOf34 hk hidx) (hK _ _ (.inr ⟨hc1, hc2⟩) ?_)
    refine actsTo_cons rfl rfl fun K hK => a_store (v := .slice A' r.length c') rfl rfl rfl Try.sizeOf34 rfl rfl hc2 hf2 (hK _ _ (.inl rfl) ?_)
    refine actsTo_nil ?_
    simp only [Act.put, List.setIfInBounds_toArray, List.set_cons_zero, List.set_cons_succ]
    have hinx := hin1.keep (G := fun _ => False) ((Upd.refl (fun _ => False) w1).drew.transNew hnew) (fun _ _ hf => hf)
    have hin3 := hinx.setRow (vk := .slice (some ⟨b, off, none⟩) nm c) (F' := fun q => F q ∨ ownB (.slice A' r.length c') = some q) hk Hv.out (Upd.refl _ _) (hown'.more (Nat.zero_le _)) (fun _ hq => .inl hq) (fun _ hq => .inr hq) (fun q hq j u _ hj hu => by
      have h1 := hlt q (hin.own u (List.mem_of_getElem? hj) q hu)
      have h2 := (hown'.lt q hq).1
      have h3 := Nat.le_trans hn0.size hn1.size
      simp only [World.size_drew] at h2
      omega)
    have hw3 : Upd F w (w'.setCell ⟨gm, k, none⟩ (.slice A' r.length c')) :=
      ((((hn0.transNew hn1).drew).transNew hnew).ofNew F).setCell (.inl hin.fm) _
    have hlt3 : ∀ q, (F q ∨ ownB (.slice A' r.length c') = some q) → q < (w'.setCell ⟨gm, k, none⟩ (.slice A' r.length c')).heap.size := by
      rintro q (hq | hq)
      · exact Nat.lt_of_lt_of_le (hlt q hq) hw3.size
      · have := (hown'.lt q hq).2
        simpa [World.setCell] using this
    have hgmlt := hlt gm hin.fm
    have hloc3 : Blk (w'.setCell ⟨gm, k, none⟩ (.slice A' r.length c')) w0.heap.size 37 (encM m) := ((hloc.drew).new_ hnew).far (by show w0.heap.size ≠ gm; omega) _
    have hres3 : Blk (w'.setCell ⟨gm, k, none⟩ (.slice A' r.length c')) w.heap.size 37 [.int .i64 0, .int .i64 0, .int .i64 0, .int .i64 0] := ((hres1.drew).new_ hnew).far (by show w.heap.size ≠ gm; omega) _
    obtain ⟨w3, hw3e⟩ : ∃ w3, w3 = w'.setCell ⟨gm, k, none⟩ (.slice A' r.length c') := ⟨_, rfl⟩
    rw [← hw3e] at hin3 hw3 hlt3 hloc3 hres3 ⊢
    have l0 := hloc3.cell 0
    have l1 := hloc3.cell 1
    have l2 := hloc3.cell 2
    have l3 := hloc3.cell 3
    have r0 := hres3.cell 0
    have r1 := hres3.cell 1
    have r2 := hres3.cell 2
    have r3 := hres3.cell 3
    have f0 := hres3.frozen 0
    have f1 := hres3.frozen 1
    have f2 := hres3.frozen 2
    have f3 := hres3.frozen 3
    simp only [encM, List.getElem?_cons_zero, List.getElem?_cons_succ] at l0 l1 l2 l3 r0 r1 r2 r3
    have Hin3 := hide hin3
    clear hw3e hinx hc1 hc2 hf2 hfacts hcut h0' hcell' hfz' hin3 hin1 hin0
    go_wp2
    have hfin := (((hres3.set_ 0 (.int .i64 m.bl)).set_ 1 (.int .i64 m.ln)).set_ 2 (.int .i64 m.by_)).set_ 3 (.int .i64 m.ev)
    have hufin : Upd (fun q => q = w.heap.size) w3 ((((w3.setCell ⟨w.heap.size, 0, none⟩ (.int .i64 m.bl)).setCell ⟨w.heap.size, 1, none⟩ (.int .i64 m.ln)).setCell ⟨w.heap.size, 2, none⟩ (.int .i64 m.by_)).setCell ⟨w.heap.size, 3, none⟩ (.int .i64 m.ev)) :=
      ((((Upd.refl (fun q => q = w.heap.size) w3).setCell (p := ⟨w.heap.size, 0, none⟩) (.inl rfl) _).setCell (p := ⟨w.heap.size, 1, none⟩) (.inl rfl) _).setCell (p := ⟨w.heap.size, 2, none⟩) (.inl rfl) _).setCell (p := ⟨w.heap.size, 3, none⟩) (.inl rfl) _
    obtain ⟨w4, hw4⟩ : ∃ w4, w4 = (((w3.setCell ⟨w.heap.size, 0, none⟩ (.int .i64 m.bl)).setCell ⟨w.heap.size, 1, none⟩ (.int .i64 m.ln)).setCell ⟨w.heap.size, 2, none⟩ (.int .i64 m.by_)).setCell ⟨w.heap.size, 3, none⟩ (.int .i64 m.ev) := ⟨_, rfl⟩
    rw [← hw4] at hfin hufin ⊢
    clear hw4
    have e0 := hfin.cell 0
    have e1 := hfin.cell 1
    have e2 := hfin.cell 2
    have e3 := hfin.cell 3
    simp only [List.set_cons_zero, List.set_cons_succ, List.getElem?_cons_zero, List.getElem?_cons_succ] at e0 e1 e2 e3
    refine bodyPost_ret (v := .tuple #[aggM m, .bool true]) (by simp [results, Try.results12, go_sem, aggM, e0, e1, e2, e3]) rfl ⟨rfl, fun q => F q ∨ ownB (.slice A' r.length c') = some q, ⟨⟨gm, cap, iv.set k (.slice A' r.length c'), rest, sv, ?_⟩, ?_⟩, ?_, ?_⟩
    · have hts : takeS s k = s.set k r := by
        unfold takeS
        rw [Int.toNat_natCast]
        apply List.ext_getElem?
        intro j
        have := Hm.out
        simp only [List.getElem?_modify, List.getElem?_set, hk, if_true]
        by_cases hj : k = j
        · subst hj
          simp [List.getD, hk] at this
          simp [this, hk]
        · simp [hj]
      rw [hts]
      exact Hin3.out.keep hufin fun q hq hqe => by
        subst hqe
        rcases hq with hq | hq
        · have := hlt _ hq; omega
        · have := (hown'.lt _ hq).1
          have h3 := Nat.le_trans hn0.size hn1.size
          have h4 : w.heap.size < w0.heap.size := by have := hres.lt; exact this
          have h5 := hn1.size
          simp only [World.size_drew] at this
          omega
    · exact fun q hq => Nat.lt_of_lt_of_le (hlt3 q hq) hufin.size
    · exact hw3.trans hufin fun q hq hqe => by omega
    · rintro q (hq | hq)
      · exact .inl hq
      · have := (hown'.lt q hq).1
        have h3 := Nat.le_trans hn0.size hn1.size
        simp only [World.size_drew] at this
        exact .inr (by omega)
end Go.Proofs.Ytcjmapljcnmfaaa
