/- The operations that come in; few. -/
import Derived.Test.YtcjmapljcnmfaaaPostG
import Derived.Deep.QuietTactic
import Derived.BigQuiet
namespace Go.Proofs.Ytcjmapljcnmfaaa
open Go.RowKit

/-- An operation as it comes in: its numbers, its lists, and the two slice values. -/
structure OpV where
  kind : Int
  by_ : Int
  bl : Int
  ln : Int
  ev : Int
  n : Int
  to : List Int
  text : List Int
  tv : Value
  xv : Value
structure OpAt (w : World) (b p : Nat) (o : OpV) : Prop where
  c0 : w.cell? ⟨b, p, none⟩ = some (.int .i64 o.kind)
  c1 : w.cell? ⟨b, p + 1, none⟩ = some (.int .i64 o.by_)
  c2 : w.cell? ⟨b, p + 2, none⟩ = some (.int .i64 o.bl)
  c3 : w.cell? ⟨b, p + 3, none⟩ = some (.int .i64 o.ln)
  c4 : w.cell? ⟨b, p + 4, none⟩ = some (.int .i64 o.ev)
  c5 : w.cell? ⟨b, p + 5, none⟩ = some (.int .i64 o.n)
  c6 : w.cell? ⟨b, p + 6, none⟩ = some o.tv
  c7 : w.cell? ⟨b, p + 7, none⟩ = some o.xv
  to : RowAt w 1 o.tv o.to.length (encI o.to)
  text : RowAt w 1 o.xv o.text.length (encU o.text)
theorem OpAt.new_ {w w' : World} {b p : Nat} {o : OpV} (h : OpAt w b p o) (hu : New w w') (hb : b < w.heap.size) : OpAt w' b p o :=
  ⟨(hu.cellN hb).trans h.c0, (hu.cellN hb).trans h.c1, (hu.cellN hb).trans h.c2, (hu.cellN hb).trans h.c3, (hu.cellN hb).trans h.c4, (hu.cellN hb).trans h.c5, (hu.cellN hb).trans h.c6, (hu.cellN hb).trans h.c7, h.to.new_ hu, h.text.new_ hu⟩
def OpsAt (w : World) (v : Value) (l : List OpV) : Prop :=
  (l = [] ∧ ∃ A c, v = .slice A 0 c) ∨
    ∃ b off c, v = .slice (some ⟨b, off, none⟩) l.length c ∧ l.length ≤ c ∧ c ≤ maxLen ∧ b < w.heap.size ∧ ∀ j o, l[j]? = some o → OpAt w b (off + j * 8) o
theorem OpsAt.form {w : World} {v : Value} {l : List OpV} (h : OpsAt w v l) : ∃ A c, v = .slice A l.length c := by
  rcases h with ⟨rfl, A, c, rfl⟩ | ⟨b, off, c, rfl, _⟩
  · exact ⟨A, c, rfl⟩
  · exact ⟨_, c, rfl⟩
theorem OpsAt.new_ {w w' : World} {v : Value} {l : List OpV} (h : OpsAt w v l) (hu : New w w') : OpsAt w' v l := by
  rcases h with h | ⟨b, off, c, hv, hc, hm, hb, hx⟩
  · exact .inl h
  · exact .inr ⟨b, off, c, hv, hc, hm, Nat.lt_of_lt_of_le hb hu.size, fun j o hj => (hx j o hj).new_ hu hb⟩
theorem OpsAt.at_ {w : World} {A : Option Addr} {c : Nat} {l : List OpV} (h : OpsAt w (.slice A l.length c) l) {k : Nat} (hk : k < l.length) :
    ∃ b off, A = some ⟨b, off, none⟩ ∧ l.length ≤ c ∧ c ≤ maxLen ∧ b < w.heap.size ∧ OpAt w b (off + k * 8) l[k] := by
  rcases h with ⟨rfl, _⟩ | ⟨b, off, c', hv, hc, hm, hb, hx⟩
  · simp at hk
  · injection hv with hA _ hc'
    subst hA hc'
    exact ⟨b, off, rfl, hc, hm, hb, hx k _ (List.getElem?_eq_getElem hk)⟩

def wt (o : OpV) : Nat := min o.to.length 20001 + min o.text.length 20001
def fewN (l : List OpV) : Nat := (l.map wt).sum
def fewB (l : List OpV) : Bool := decide (l.length ≤ 200) && decide (fewN (l.take 200) ≤ 20000)
def IsFew (l : List OpV) (w : World) (e : Ending) (w' : World) : Prop := e = .returned (.bool (fewB l)) ∧ New w w'
theorem fewN_le (l : List OpV) (k : Nat) : fewN (l.take k) ≤ 40002 * k := by
  induction l generalizing k with
  | nil => simp [fewN]
  | cons o l ih =>
    cases k with
    | zero => simp [fewN]
    | succ k =>
      have := ih k
      have h1 : wt o ≤ 40002 := by unfold wt; omega
      simp only [fewN, List.take_succ_cons, List.map_cons, List.sum_cons] at this ⊢
      omega
theorem fewN_succ (l : List OpV) (k : Nat) (h : k < l.length) : fewN (l.take (k + 1)) = fewN (l.take k) + wt l[k] := by
  unfold fewN
  rw [List.take_succ_eq_append_getElem h, List.map_append, List.sum_append]
  simp
theorem field32_0 (b p : Nat) (w : World) : (Instr.fieldAt 32 (.pointer (some ⟨b, p, none⟩)) 0).run Try.prog w = .ok (.pointer (some ⟨b, p, none⟩)) w := by kernel_rfl
theorem field32_1 (b p : Nat) (w : World) : (Instr.fieldAt 32 (.pointer (some ⟨b, p, none⟩)) 1).run Try.prog w = .ok (.pointer (some ⟨b, p + 1, none⟩)) w := by kernel_rfl
theorem field32_2 (b p : Nat) (w : World) : (Instr.fieldAt 32 (.pointer (some ⟨b, p, none⟩)) 2).run Try.prog w = .ok (.pointer (some ⟨b, p + 2, none⟩)) w := by kernel_rfl
theorem field32_3 (b p : Nat) (w : World) : (Instr.fieldAt 32 (.pointer (some ⟨b, p, none⟩)) 3).run Try.prog w = .ok (.pointer (some ⟨b, p + 3, none⟩)) w := by kernel_rfl
theorem field32_4 (b p : Nat) (w : World) : (Instr.fieldAt 32 (.pointer (some ⟨b, p, none⟩)) 4).run Try.prog w = .ok (.pointer (some ⟨b, p + 4, none⟩)) w := by kernel_rfl
theorem field32_6 (b p : Nat) (w : World) : (Instr.fieldAt 32 (.pointer (some ⟨b, p, none⟩)) 6).run Try.prog w = .ok (.pointer (some ⟨b, p + 6, none⟩)) w := by kernel_rfl
theorem field32_7 (b p : Nat) (w : World) : (Instr.fieldAt 32 (.pointer (some ⟨b, p, none⟩)) 7).run Try.prog w = .ok (.pointer (some ⟨b, p + 7, none⟩)) w := by kernel_rfl
set_option maxHeartbeats 1600000 in
set_option maxRecDepth 100000 in
theorem few_any (v : Value) (l : List OpV) (w : World) (h : OpsAt w v l) : Calls Try.prog 9 #[v] w (IsFew l w) := by
  obtain ⟨A, c, rfl⟩ := h.form
  have hmax : (l.length : Int) ≤ 9223372036854775807 := by
    rcases h with ⟨rfl, _⟩ | ⟨_, _, c', _, hc, hm, _⟩
    · simp
    · unfold maxLen at hm; omega
  go_enter Try.func9, Try.ntmps9
  go_wp2
  go_loopw [3, 4] (fun s i wr => ∃ k : Nat, k ≤ l.length ∧ k ≤ 200 ∧ i = .int .i64 k ∧ s = .int .i64 (fewN (l.take k) : Nat) ∧ New w wr) (fun _ i _ => 200 - (intOf i).toNat)
  case atStart => exact ⟨0, by omega, by omega, rfl, by simp [fewN], Upd.refl _ _⟩
  case round =>
    obtain ⟨k, hk, hk2, rfl, rfl, hn⟩ := hrel
    have hle := fewN_le l k
    obtain ⟨q, hq⟩ : ∃ q, q = fewN (l.take k) := ⟨_, rfl⟩
    rw [← hq] at hle ⊢
    have hqb : (q : Int) ≤ 40002 * 200 := by omega
    have Hq := hide hq
    clear hq hle
    by_cases hlt : k < l.length ∧ k < 200
    · obtain ⟨hlt1, hlt2⟩ := hlt
      obtain ⟨b, off, rfl, hc, hm, hb, hop⟩ := (h.new_ hn).at_ hlt1
      obtain ⟨o, ho⟩ : ∃ o, o = l[k] := ⟨_, rfl⟩
      rw [← ho] at hop
      obtain ⟨A1, d1, ht⟩ := hop.to.form
      obtain ⟨A2, d2, hx⟩ := hop.text.form
      have g6 := hop.c6
      have g7 := hop.c7
      rw [ht] at g6
      rw [hx] at g7
      have Ho := hide ho
      have Hh := hide h
      clear ho ht hx hm hop h
      go_wp2
      have hv1 : Value.int .i64 (if (20001 : Int) < (o.to.length : Int) then 20001 else (o.to.length : Int)) = .int .i64 ((min o.to.length 20001 : Nat) : Int) := by congr 1; split <;> omega
      have hv2 : Value.int .i64 (if (20001 : Int) < (o.text.length : Int) then 20001 else (o.text.length : Int)) = .int .i64 ((min o.text.length 20001 : Nat) : Int) := by congr 1; split <;> omega
      have hfacts : wr.drew.cell? ⟨b, off + k * 8 + 6, none⟩ = some (.slice A1 o.to.length d1) ∧ wr.drew.cell? ⟨b, off + k * 8 + 7, none⟩ = some (.slice A2 o.text.length d2) := ⟨g6, g7⟩
      refine wp_region_df (b := ?bb) (fun w' => w'.cell? ⟨b, off + k * 8 + 6, none⟩ = some (.slice A1 o.to.length d1) ∧ w'.cell? ⟨b, off + k * 8 + 7, none⟩ = some (.slice A2 o.text.length d2)) 17
        [0, 1, 2, 3, 4, 5, 6, 7, 8, 9, 10, 11, 12, 13, 14, 15, 16] [17] (by kernel_rfl) (by kernel_rfl) (fun _ _ d _ _ h => by cases d <;> exact h) hfacts ?reads ?acts
      case reads =>
        refine readsTo_step (a' := ?_) rfl rfl (y_move (v := .int .i64 (q : Int)) rfl rfl) ?_ ?_
        rotate_left; (simp only [Act.put, List.setIfInBounds_toArray, List.set_cons_zero, List.set_cons_succ]; rfl)
        refine readsTo_step (a' := ?_) rfl rfl (y_move (v := .slice (some ⟨b, off, none⟩) l.length c) rfl rfl) ?_ ?_
        rotate_left; (simp only [Act.put, List.setIfInBounds_toArray, List.set_cons_zero, List.set_cons_succ]; rfl)
        refine readsTo_step (a' := ?_) rfl rfl (y_move (v := .int .i64 (k : Int)) rfl rfl) ?_ ?_
        rotate_left; (simp only [Act.put, List.setIfInBounds_toArray, List.set_cons_zero, List.set_cons_succ]; rfl)
        refine readsTo_step (a' := ?_) rfl rfl (y_index rfl rfl rfl Try.underlying22 Try.sizeOf32 hlt1 rfl) ?_ ?_
        rotate_left; (simp only [Act.put, List.setIfInBounds_toArray, List.set_cons_zero, List.set_cons_succ]; rfl)
        refine readsTo_step (a' := ?_) rfl rfl (y_field rfl rfl (field32_6 b (off + k * 8))) ?_ ?_
        rotate_left; (simp only [Act.put, List.setIfInBounds_toArray, List.set_cons_zero, List.set_cons_succ]; rfl)
        refine readsTo_step (a' := ?_) rfl rfl (y_load rfl rfl Try.isAgg23 fun _ h => h.1) ?_ ?_
        rotate_left; (simp only [Act.put, List.setIfInBounds_toArray, List.set_cons_zero, List.set_cons_succ]; rfl)
        refine readsTo_step (a' := ?_) rfl rfl (y_run (v := .int .i64 (o.to.length : Int)) fun w => by kernel_rfl) ?_ ?_
        rotate_left; (simp only [Act.put, List.setIfInBounds_toArray, List.set_cons_zero, List.set_cons_succ]; rfl)
        refine readsTo_step (a' := ?_) rfl rfl (y_min (v := .int .i64 (min o.to.length 20001 : Nat)) rfl rfl rfl hv1) ?_ ?_
        rotate_left; (simp only [Act.put, List.setIfInBounds_toArray, List.set_cons_zero, List.set_cons_succ]; rfl)
        refine readsTo_step (a' := ?_) rfl rfl (y_bin (v := .int .i64 ((q + min o.to.length 20001 : Nat) : Int)) rfl rfl rfl (r_add (by omega) (by omega))) ?_ ?_
        rotate_left; (simp only [Act.put, List.setIfInBounds_toArray, List.set_cons_zero, List.set_cons_succ]; rfl)
        refine readsTo_step (a' := ?_) rfl rfl (y_move (v := .slice (some ⟨b, off, none⟩) l.length c) rfl rfl) ?_ ?_
        rotate_left; (simp only [Act.put, List.setIfInBounds_toArray, List.set_cons_zero, List.set_cons_succ]; rfl)
        refine readsTo_step (a' := ?_) rfl rfl (y_move (v := .int .i64 (k : Int)) rfl rfl) ?_ ?_
        rotate_left; (simp only [Act.put, List.setIfInBounds_toArray, List.set_cons_zero, List.set_cons_succ]; rfl)
        refine readsTo_step (a' := ?_) rfl rfl (y_index rfl rfl rfl Try.underlying22 Try.sizeOf32 hlt1 rfl) ?_ ?_
        rotate_left; (simp only [Act.put, List.setIfInBounds_toArray, List.set_cons_zero, List.set_cons_succ]; rfl)
        refine readsTo_step (a' := ?_) rfl rfl (y_field rfl rfl (field32_7 b (off + k * 8))) ?_ ?_
        rotate_left; (simp only [Act.put, List.setIfInBounds_toArray, List.set_cons_zero, List.set_cons_succ]; rfl)
        refine readsTo_step (a' := ?_) rfl rfl (y_load rfl rfl Try.isAgg30 fun _ h => h.2) ?_ ?_
        rotate_left; (simp only [Act.put, List.setIfInBounds_toArray, List.set_cons_zero, List.set_cons_succ]; rfl)
        refine readsTo_step (a' := ?_) rfl rfl (y_run (v := .int .i64 (o.text.length : Int)) fun w => by kernel_rfl) ?_ ?_
        rotate_left; (simp only [Act.put, List.setIfInBounds_toArray, List.set_cons_zero, List.set_cons_succ]; rfl)
        refine readsTo_step (a' := ?_) rfl rfl (y_min (v := .int .i64 (min o.text.length 20001 : Nat)) rfl rfl rfl hv2) ?_ ?_
        rotate_left; (simp only [Act.put, List.setIfInBounds_toArray, List.set_cons_zero, List.set_cons_succ]; rfl)
        refine readsTo_step (a' := ?_) rfl rfl (y_bin (v := .int .i64 ((q + min o.to.length 20001 + min o.text.length 20001 : Nat) : Int)) rfl rfl rfl (r_add (by omega) (by omega))) ?_ ?_
        rotate_left; (simp only [Act.put, List.setIfInBounds_toArray, List.set_cons_zero, List.set_cons_succ]; rfl)
        exact readsTo_nil _
      case acts =>
        refine actsTo_cons rfl rfl fun K hK => a_read (y_assign (v := .int .i64 ((q + min o.to.length 20001 + min o.text.length 20001 : Nat) : Int)) rfl rfl) (hK _ _ (.inl rfl) ?_)
        refine actsTo_nil ?_
        simp only [Act.put, List.setIfInBounds_toArray, List.set_cons_zero, List.set_cons_succ]
        have hn2 : New w wr.drew := hn.drew
        obtain ⟨w2, hw2⟩ : ∃ w2, w2 = wr.drew := ⟨_, rfl⟩
        rw [← hw2] at hn2 ⊢
        clear hw2 hfacts hv1 hv2 g6 g7
        go_wp2
        go_roundw
        case rel =>
          refine ⟨k + 1, by omega, by omega, by go_num, ?_, hn2⟩
          rw [fewN_succ l k hlt1, ← Hq.out, ← Ho.out]
          congr 2
          unfold wt
          omega
        case measure => simp [intOf]; omega
    · by_cases hl2 : l.length ≤ 200
      · have hkl : k = l.length := by omega
        subst hkl
        clear hlt
        have hl2' : (l.length : Int) ≤ 200 := by omega
        go_wp2
        go_ret
        refine ⟨?_, hn⟩
        show Ending.returned (.bool (decide ((q : Int) ≤ 20000))) = _
        unfold fewB
        rw [List.take_of_length_le hl2]
        have hqq := Hq.out
        rw [List.take_of_length_le (Nat.le_refl _)] at hqq
        rw [← hqq, decide_eq_true hl2, Bool.true_and]
        congr 2
        rw [decide_eq_decide]
        omega
      · have hkl : k = 200 := by omega
        subst hkl
        clear hlt
        have hl2' : (200 : Int) < (l.length : Int) := by omega
        go_wp2
        go_ret
        refine ⟨?_, hn⟩
        unfold fewB
        rw [decide_eq_false hl2, Bool.false_and]
        rfl
end Go.Proofs.Ytcjmapljcnmfaaa
