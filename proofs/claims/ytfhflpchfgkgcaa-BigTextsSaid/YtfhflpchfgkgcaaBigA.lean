/- Contracts of package big's small functions: Clone, May, trim. -/
import Derived.Test.YtfhflpchfgkgcaaProg
import Derived.Test.YtfhflpchfgkgcaaMem
import Derived.Test.YtfhflpchfgkgcaaReg
import Derived.Test.YtfhflpchfgkgcaaBigPlain
import Derived.WalkLawsBesides
import Derived.WalkSpells
import Derived.Outline
import Derived.KernelRfl
import Derived.RegionTactic
import Derived.Deep.QuietTactic
import Derived.BigQuiet
import Derived.OwnWalk
namespace Go.Proofs.Ytfhflpchfgkgcaa
open Go.RowKit

def encW (m : List Nat) : List Value := m.map fun x : Nat => .int .u32 (x : Int)
theorem length_encW (m : List Nat) : (encW m).length = m.length := by simp [encW]
theorem encW_one (m : List Nat) : ∀ u ∈ encW m, u.oneCell' = true := by
  intro u hu
  obtain ⟨x, _, rfl⟩ := List.mem_map.1 hu
  rfl
theorem encW_app (a b : List Nat) : encW (a ++ b) = encW a ++ encW b := by simp [encW]
theorem encW_take (a : List Nat) (k : Nat) : encW (a.take k) = (encW a).take k := by simp [encW]
theorem encW_set (a : List Nat) (k x : Nat) : encW (a.set k x) = (encW a).set k (.int .u32 (x : Int)) := by simp [encW]
theorem encW_get (a : List Nat) (k : Nat) (h : k < a.length) : (encW a)[k]? = some (.int .u32 ((a.getD k 0 : Nat) : Int)) := by simp [encW, List.getD, h]
theorem elW : ElemT Try.prog 22 50 (.int .u32 0) 1 4 := ⟨Try.underlying22, by kernel_rfl, rfl, by omega⟩
theorem rowW {w : World} {A : Option Addr} {n c : Nat} {m : List Nat} (h : RowAt w 1 (.slice A n c) n (encW m)) {k : Nat} (hk : k < n) :
    ∃ b off, A = some ⟨b, off, none⟩ ∧ n ≤ c ∧ c ≤ maxLen ∧ b < w.heap.size ∧ w.cell? ⟨b, off + k, none⟩ = some (.int .u32 ((m.getD k 0 : Nat) : Int)) := by
  rcases h.2 with ⟨h0, _⟩ | ⟨b, off, c', hv, hc, hm, hb, hx⟩
  · omega
  · injection hv with hA _ hc'
    subst hA hc'
    have hl : m.length = n := by simpa [encW] using h.1
    exact ⟨b, off, rfl, hc, hm, hb, hx k _ (encW_get m k (by omega))⟩
theorem row_max {w : World} {size n : Nat} {v : Value} {xs : List Value} (h : RowAt w size v n xs) : (n : Int) ≤ 9223372036854775807 := by
  rcases h.2 with ⟨h0, _⟩ | ⟨_, _, c', _, hc, hm, _⟩
  · omega
  · unfold maxLen at hm; omega
/-- A shorter piece of a row reads as the piece. -/
theorem RowAt.cut {w : World} {A : Option Addr} {n c : Nat} {m : List Nat} (h : RowAt w 1 (.slice A n c) n (encW m)) {k : Nat} (hk : k ≤ n) : RowAt w 1 (.slice A k c) k (encW (m.take k)) := by
  have hl : m.length = n := by simpa [encW] using h.1
  refine ⟨by simp [encW]; omega, ?_⟩
  rcases h.2 with ⟨rfl, _⟩ | ⟨b, off, c', hv, hc, hm, hb, hx⟩
  · exact .inl ⟨by omega, A, c, by rw [show k = 0 by omega]⟩
  · injection hv with hA _ hc'
    subst hA hc'
    refine .inr ⟨b, off, c, rfl, by omega, hm, hb, fun j u hj => hx j u ?_⟩
    simp only [encW, List.map_take, List.getElem?_take] at hj ⊢
    split at hj
    · exact hj
    · cases hj
set_option maxHeartbeats 400000 in
theorem cloneW (v : Value) (n : Nat) (xs : List Value) (w : World) (hr : RowAt w 1 v n xs) (h1 : ∀ u ∈ xs, u.oneCell' = true) (hb : n * 4 ≤ 140737488355328) :
    Calls Try.prog 77 #[v] w fun e w' => ∃ v', e = .returned v' ∧ Own w' w.heap.size 50 1 v' n xs ∧ New w w' := by
  have hm : n ≤ maxLen := by unfold maxLen; omega
  obtain ⟨A, c, rfl⟩ := hr.form
  cases A with
  | none =>
    obtain ⟨rfl, rfl⟩ : n = 0 ∧ xs = [] := by
      rcases hr.2 with ⟨h0, _⟩ | ⟨b, off, c', hv, _⟩
      · exact ⟨h0, List.eq_nil_of_length_eq_zero (by rw [hr.1, h0])⟩
      · cases hv
    have hE : ∀ W : World, (binOp .eql 22 (.slice none 0 c) (.slice none 0 0)).run Try.prog W = .ok (.bool true) W := fun W => Lib.run_eql_slice_nil W _ _ _ _ _ _ _ Try.underlying22
    go_enter Try.func77, Try.ntmps77
    go_wp2
    go_ret
    exact ⟨_, rfl, Own.nil_ _ _ _ _, Upd.refl _ _⟩
  | some a =>
    have hE : ∀ W : World, (binOp .eql 22 (.slice (some a) n c) (.slice none 0 0)).run Try.prog W = .ok (.bool false) W := fun W => Lib.run_eql_slice_nil W _ _ _ _ _ _ _ Try.underlying22
    have hr1 : RowAt (w.alloc (.cells #[] 50)) 1 (.slice (some a) n c) n xs := hr.new_ ((Upd.refl _ _).alloc _)
    have ho : Own (w.alloc (.cells #[] 50)) w.heap.size 50 1 (.slice (some ⟨w.heap.size, 0, none⟩) 0 0) 0 [] := .inr ⟨rfl, rfl, _, rfl⟩
    go_enter Try.func77, Try.ntmps77
    go_wp2_with (at_builtin; refine wpList_append_row _ rfl (.tmp 5) (.tmp 6) elW rfl w.heap.size (.slice (some ⟨w.heap.size, 0, none⟩) 0 0) 0 [] rfl ho _ n xs rfl hr1 h1 (by rw [Nat.zero_add]; exact hb) (by rw [Nat.zero_add]; exact hm) (by simp) ?_; intro v' w' hown hg hat)
    go_ret
    refine ⟨v', rfl, by simpa using hown, (((Upd.refl _ _).alloc _).grown hg (fun k hk => by simp [ownB] at hk))⟩

/-- May it be one? -/
def mayB (b : Bool) (m : List Nat) : Bool := decide (m.length ≤ 8) && ((decide (m.length = 0) && !b) || (decide (0 < m.length) && decide (m.getD (m.length - 1) 0 ≠ 0)))
def IsMay (b : Bool) (m : List Nat) (w : World) (e : Ending) (w' : World) : Prop := e = .returned (.bool (mayB b m)) ∧ New w w'
theorem may_any (b : Bool) (v : Value) (m : List Nat) (w : World) (hr : RowAt w 1 v m.length (encW m)) :
    Calls Try.prog 48 #[.agg #[.bool b, v]] w (IsMay b m w) := by
  obtain ⟨A, c, rfl⟩ := hr.form
  have hmax := row_max hr
  by_cases h8 : m.length ≤ 8
  · rcases Nat.eq_zero_or_pos m.length with h0 | h0
    · have hb : mayB b m = !b := by simp [mayB, h0]
      rw [h0] at hr ⊢
      have Hb := hide hb
      clear hb hr hmax h0 h8
      cases b
      all_goals
        go_enter Try.func48, Try.ntmps48
        go_wp2
        go_ret
        exact ⟨by rw [Hb.out]; rfl, (Upd.refl _ _).alloc _⟩
    · obtain ⟨b1, off, rfl, hc, hm, hb1, hcell⟩ := rowW hr (k := m.length - 1) (by omega)
      have hb : mayB b m = decide (m.getD (m.length - 1) 0 ≠ 0) := by
        have : m.length ≠ 0 := by omega
        simp [mayB, h8, h0, this]
      obtain ⟨x, hx⟩ : ∃ x, x = m.getD (m.length - 1) 0 := ⟨_, rfl⟩
      rw [← hx] at hcell hb
      have hcell1 : (w.alloc (.cells #[.bool b, .slice (some ⟨b1, off, none⟩) m.length c] 24)).cell? ⟨b1, off + (m.length - 1), none⟩ = some (.int .u32 (x : Int)) := (((Upd.refl (fun _ => False) w).alloc _).cellN (p := ⟨b1, off + (m.length - 1), none⟩) hb1).trans hcell
      obtain ⟨n, hn⟩ : ∃ n, n = m.length := ⟨_, rfl⟩
      rw [← hn] at hcell1 hc h8 h0 hmax ⊢
      have hz : ((n : Int) == 0) = false := by simp; omega
      have Hb := hide hb
      clear hb hr hx hcell hn hm
      go_enter Try.func48, Try.ntmps48
      go_wp2
      go_ret
      refine ⟨?_, (Upd.refl _ _).alloc _⟩
      rw [Hb.out]
      by_cases h : x = 0 <;> simp [h]
  · have hb : mayB b m = false := by simp [mayB]; omega
    have Hb := hide hb
    clear hb hr
    go_enter Try.func48, Try.ntmps48
    go_wp2
    go_ret
    exact ⟨by rw [Hb.out]; rfl, (Upd.refl _ _).alloc _⟩
end Go.Proofs.Ytfhflpchfgkgcaa
