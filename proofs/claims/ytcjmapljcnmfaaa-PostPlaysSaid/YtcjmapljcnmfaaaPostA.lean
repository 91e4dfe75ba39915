/- Contracts of package post's small functions: agent, Clone. -/
import Derived.Test.YtcjmapljcnmfaaaProg
import Derived.Test.YtcjmapljcnmfaaaMem
import Derived.Test.YtcjmapljcnmfaaaPostPlain
import Derived.WalkLawsBesides
import Derived.WalkSpells
import Derived.Outline
import Derived.KernelRfl
namespace Go.Proofs.Ytcjmapljcnmfaaa
open Go.RowKit

theorem el37 : ElemT Try.prog 34 37 (.agg #[.int .i64 0, .int .i64 0, .int .i64 0, .int .i64 0]) 4 32 := ⟨Try.underlying34, by kernel_rfl, rfl, by omega⟩

theorem agent_any (g : Nat) (n : Int) (w : World) (A : Option Addr) (len cap : Nat) (h0 : w.cell? ⟨g, 0, none⟩ = some (.slice A len cap)) :
    Calls Try.prog 24 #[.pointer (some ⟨g, 0, none⟩), .int .i64 n] w fun e w' => e = .returned (.bool (decide (0 ≤ n) && decide (n < len))) ∧ w = w' := by
  by_cases hn : 0 ≤ n
  · go_enter Try.func24, Try.ntmps24
    go_wp2
    go_ret
    exact ⟨by simp [hn], rfl⟩
  · have hn' : n < 0 := by omega
    go_enter Try.func24, Try.ntmps24
    go_wp2
    go_ret
    exact ⟨by simp; omega, rfl⟩

set_option maxHeartbeats 400000 in
theorem cloneM (v : Value) (n : Nat) (xs : List Value) (w : World) (hr : RowAt w 4 v n xs) (h1 : ∀ u ∈ xs, u.oneCell' = true) (hb : n * 32 ≤ 140737488355328) :
    Calls Try.prog 26 #[v] w fun e w' => ∃ v', e = .returned v' ∧ Own w' w.heap.size 37 4 v' n xs ∧ New w w' := by
  have hm : n ≤ maxLen := by unfold maxLen; omega
  obtain ⟨A, c, rfl⟩ := hr.form
  cases A with
  | none =>
    obtain ⟨rfl, rfl⟩ : n = 0 ∧ xs = [] := by
      rcases hr.2 with ⟨h0, _⟩ | ⟨b, off, c', hv, _⟩
      · exact ⟨h0, List.eq_nil_of_length_eq_zero (by rw [hr.1, h0])⟩
      · cases hv
    have hE : ∀ W : World, (binOp .eql 34 (.slice none 0 c) (.slice none 0 0)).run Try.prog W = .ok (.bool true) W := fun W => Lib.run_eql_slice_nil W _ _ _ _ _ _ _ Try.underlying34
    go_enter Try.func26, Try.ntmps26
    go_wp2
    go_ret
    exact ⟨_, rfl, Own.nil_ _ _ _ _, Upd.refl _ _⟩
  | some a =>
    have hE : ∀ W : World, (binOp .eql 34 (.slice (some a) n c) (.slice none 0 0)).run Try.prog W = .ok (.bool false) W := fun W => Lib.run_eql_slice_nil W _ _ _ _ _ _ _ Try.underlying34
    have hr1 : RowAt (w.alloc (.cells #[] 37)) 4 (.slice (some a) n c) n xs := hr.new_ ((Upd.refl _ _).alloc _)
    have ho : Own (w.alloc (.cells #[] 37)) w.heap.size 37 4 (.slice (some ⟨w.heap.size, 0, none⟩) 0 0) 0 [] := .inr ⟨rfl, rfl, _, rfl⟩
    go_enter Try.func26, Try.ntmps26
    go_wp2_with (at_builtin; refine wpList_append_row _ rfl (.tmp 5) (.tmp 6) el37 rfl w.heap.size (.slice (some ⟨w.heap.size, 0, none⟩) 0 0) 0 [] rfl ho _ n xs rfl hr1 h1 (by rw [Nat.zero_add]; exact hb) (by rw [Nat.zero_add]; exact hm) (by simp) ?_; intro v' w' hown hg hat)
    go_ret
    refine ⟨v', rfl, by simpa using hown, (((Upd.refl _ _).alloc _).grown hg (fun k hk => by simp [ownB] at hk))⟩

/-! ### Open: the closure, IndexFunc, ContainsFunc -/
def encM (m : Ml) : List Value := [.int .i64 m.bl, .int .i64 m.ln, .int .i64 m.by_, .int .i64 m.ev]
def aggM (m : Ml) : Value := .agg #[.int .i64 m.bl, .int .i64 m.ln, .int .i64 m.by_, .int .i64 m.ev]
def encL (l : List Ml) : List Value := l.flatMap encM
theorem length_encL (l : List Ml) : (encL l).length = l.length * 4 := by
  induction l with
  | nil => rfl
  | cons m l ih => simp [encL, encM] at ih ⊢; omega
theorem encL_append (a b : List Ml) : encL (a ++ b) = encL a ++ encL b := by simp [encL]
theorem encL_one (l : List Ml) : ∀ u ∈ encL l, u.oneCell' = true := by
  intro u hu
  simp only [encL, List.mem_flatMap, encM] at hu
  obtain ⟨m, _, hm⟩ := hu
  simp at hm
  rcases hm with rfl | rfl | rfl | rfl <;> rfl
theorem encL_at (l : List Ml) : ∀ (k j : Nat) (m : Ml), l[k]? = some m → j < 4 → (encL l)[4 * k + j]? = (encM m)[j]? := by
  induction l with
  | nil => intro k j m h; simp at h
  | cons x l ih =>
    intro k j m h hj
    cases k with
    | zero =>
      simp at h
      subst h
      have : j < (encM x).length := by simpa [encM] using hj
      simp only [encL, List.flatMap_cons, Nat.mul_zero, Nat.zero_add]
      rw [List.getElem?_append_left this]
    | succ k =>
      have h' : l[k]? = some m := by simpa using h
      have := ih k j m h' hj
      simp only [encL, List.flatMap_cons] at this ⊢
      rw [List.getElem?_append_right (by simp [encM]; omega)]
      rw [← this]
      congr 1
      simp [encM]; omega
/-- The four cells of the k-th mail, in the walk's spelling. -/
theorem cellsM {w : World} {b off : Nat} {l : List Ml} (hx : ∀ j u, (encL l)[j]? = some u → w.cell? ⟨b, off + j, none⟩ = some u) {k : Nat} {m : Ml} (hm : l[k]? = some m) :
    w.cell? ⟨b, off + k * 4, none⟩ = some (.int .i64 m.bl) ∧ w.cell? ⟨b, off + k * 4 + 1, none⟩ = some (.int .i64 m.ln) ∧ w.cell? ⟨b, off + k * 4 + 2, none⟩ = some (.int .i64 m.by_) ∧ w.cell? ⟨b, off + k * 4 + 3, none⟩ = some (.int .i64 m.ev) := by
  have e : ∀ j, j < 4 → (encL l)[4 * k + j]? = (encM m)[j]? := fun j hj => encL_at l k j m hm hj
  refine ⟨?_, ?_, ?_, ?_⟩
  · have := hx (4 * k + 0) _ ((e 0 (by omega)).trans rfl); rw [show off + k * 4 = off + (4 * k + 0) by omega]; exact this
  · have := hx (4 * k + 1) _ ((e 1 (by omega)).trans rfl); rw [show off + k * 4 + 1 = off + (4 * k + 1) by omega]; exact this
  · have := hx (4 * k + 2) _ ((e 2 (by omega)).trans rfl); rw [show off + k * 4 + 2 = off + (4 * k + 2) by omega]; exact this
  · have := hx (4 * k + 3) _ ((e 3 (by omega)).trans rfl); rw [show off + k * 4 + 3 = off + (4 * k + 3) by omega]; exact this

theorem open1 (m : Ml) (bb : Nat) (b : Int) (w : World) (hb : bb < w.heap.size) (hc : w.cell? ⟨bb, 0, none⟩ = some (.int .i64 b)) :
    Calls Try.prog 28 #[aggM m, .pointer (some ⟨bb, 0, none⟩)] w fun e w' => e = .returned (.bool (m.by_ == b)) ∧ New w w' := by
  unfold aggM
  go_enter Try.func28, Try.ntmps28
  go_wp2
  go_ret
  exact ⟨rfl, (Upd.refl _ _).alloc _⟩

set_option maxHeartbeats 800000 in
theorem indexFunc (v : Value) (l : List Ml) (bb : Nat) (b : Int) (w : World) (hr : RowAt w 4 v l.length (encL l)) (hb : bb < w.heap.size) (hc : w.cell? ⟨bb, 0, none⟩ = some (.int .i64 b)) :
    Calls Try.prog 45 #[v, .func (.func 28) #[] #[.pointer (some ⟨bb, 0, none⟩)]] w fun e w' =>
      (∃ r : Int, e = .returned (.int .i64 r) ∧ decide (0 ≤ r) = (l.any fun m => m.by_ == b)) ∧ New w w' := by
  obtain ⟨A, c, rfl⟩ := hr.form
  go_enter Try.func45, Try.ntmps45
  go_wp2_with fail
  go_loopw [8] (fun i wr => ∃ k : Nat, k ≤ l.length ∧ i = .int .i64 k ∧ ((l.take k).any fun m => m.by_ == b) = false ∧ New w wr) (fun i _ => l.length - (intOf i).toNat)
  case atStart => exact ⟨0, by omega, rfl, by simp, Upd.refl _ _⟩
  case round =>
    obtain ⟨k, hk, rfl, hno, hnew⟩ := hrel
    have hbr : bb < wr.heap.size := Nat.lt_of_lt_of_le hb hnew.size
    have hcr : wr.cell? ⟨bb, 0, none⟩ = some (.int .i64 b) := (hnew.cellN (p := ⟨bb, 0, none⟩) hb).trans hc
    by_cases hlt : k < l.length
    · obtain ⟨m, hm⟩ : ∃ m, l[k]? = some m := ⟨l[k], List.getElem?_eq_getElem hlt⟩
      obtain ⟨bk, off, c', hv, hcc, hmx, hbk, hx⟩ : ∃ bk off c', Value.slice A l.length c = .slice (some ⟨bk, off, none⟩) l.length c' ∧ l.length ≤ c' ∧ c' ≤ maxLen ∧ bk < w.heap.size ∧ ∀ j u, (encL l)[j]? = some u → w.cell? ⟨bk, off + j, none⟩ = some u := by
        rcases hr.2 with ⟨h0, _⟩ | h
        · omega
        · exact h
      injection hv with hA _ hc'
      subst hA hc'
      obtain ⟨c0, c1, c2, c3⟩ := cellsM (w := w) hx hm
      rw [← hnew.cellN (by exact hbk)] at c0 c1 c2 c3
      have hmax : (l.length : Int) ≤ 9223372036854775807 := by unfold maxLen at hmx; omega
      have Hm := hide hm
      have Hno := hide hno
      have Hc := hide hc
      clear hm hno hx hr hcc hmx hc
      by_cases hp : (m.by_ == b) = true
      · go_wp2_with (go_at_call 28; refine (open1 m bb b _ hbr hcr).mono ?_; rintro e w' ⟨rfl, hn1⟩)
        go_ret
        refine ⟨⟨k, rfl, ?_⟩, hnew.transNew hn1⟩
        rw [List.any_eq_true.2 ⟨m, List.mem_of_getElem? Hm.out, hp⟩]
        simp
      · have hp' : (m.by_ == b) = false := by simpa using hp
        clear hp
        go_wp2_with (go_at_call 28; refine (open1 m bb b _ hbr hcr).mono ?_; rintro e w' ⟨rfl, hn1⟩)
        go_roundw
        case rel =>
          refine ⟨k + 1, by omega, by go_num, ?_, hnew.transNew hn1⟩
          rw [List.take_add_one, Hm.out, List.any_append, Hno.out]
          simpa using hp'
        case measure => simp [intOf]; omega
    · have hk' : k = l.length := by omega
      subst hk'
      clear hlt
      have Hno := hide hno
      clear hno
      go_wp2
      go_ret
      refine ⟨⟨-1, rfl, ?_⟩, hnew⟩
      have := Hno.out
      rw [List.take_of_length_le (Nat.le_refl _)] at this
      rw [this]
      rfl

theorem containsFunc (v : Value) (l : List Ml) (bb : Nat) (b : Int) (w : World) (hr : RowAt w 4 v l.length (encL l)) (hb : bb < w.heap.size) (hc : w.cell? ⟨bb, 0, none⟩ = some (.int .i64 b)) :
    Calls Try.prog 27 #[v, .func (.func 28) #[] #[.pointer (some ⟨bb, 0, none⟩)]] w fun e w' =>
      e = .returned (.bool (l.any fun m => m.by_ == b)) ∧ New w w' := by
  go_enter Try.func27, Try.ntmps27
  go_wp2_with (go_at_call 45; refine (indexFunc v l bb b _ hr hb hc).mono ?_; rintro e w' ⟨⟨r, rfl, hany⟩, hn1⟩; have Hany := hide hany; clear hany)
  go_ret
  refine ⟨?_, hn1⟩
  show Ending.returned (.bool (decide (0 ≤ r))) = _
  rw [Hany.out]
end Go.Proofs.Ytcjmapljcnmfaaa
