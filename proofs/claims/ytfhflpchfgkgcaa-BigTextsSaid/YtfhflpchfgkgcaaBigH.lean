/- Rows of limbs that are made and written; power. -/
import Derived.Test.YtfhflpchfgkgcaaBigG
import Derived.Deep.OwnRows
import Derived.Deep.DeepCutAuto
import Derived.Deep.CutBlock
namespace Go.Proofs.Ytfhflpchfgkgcaa
open Go.RowKit
theorem infoW : (Try.prog.info? 50).map (fun i => (i.zero, i.size, i.bytes)) = some (some (.int .u32 0), 1, 4) := by kernel_rfl
theorem made_own (w : World) (t : TypeId) (k : Nat) (hk : k ≤ maxLen) (z : Value) : Own (w.alloc (.cells (madeCells #[z] k) t)) w.heap.size t 1 (.slice (some ⟨w.heap.size, 0, none⟩) k k) k (List.replicate k z) := by
  have hcs : madeCells #[z] k = (List.replicate k z).toArray := by
    apply Array.ext'
    rw [toList_madeCells_one]
  refine .inl ⟨by simp, .inr ⟨w.heap.size, k, madeCells #[z] k, rfl, Nat.le_refl _, heap_alloc_new w _, Nat.le_refl _, hk, by rw [hcs]; simp, by rw [hcs]; simp⟩⟩
/-- A place of a row of one's own: what it holds, that it may be written, and the row behind that. -/
theorem Own.place {w : World} {base : Nat} {t : TypeId} {A : Option Addr} {n c : Nat} {xs : List Value} (h : Own w base t 1 (.slice A n c) n xs) {j : Nat} (hj : j < n) :
    ∃ g, A = some ⟨g, 0, none⟩ ∧ n ≤ c ∧ c ≤ maxLen ∧ base ≤ g ∧ g < w.heap.size ∧ w.cell? ⟨g, j, none⟩ = xs[j]? ∧ w.frozen? ⟨g, j, none⟩ = false ∧
      ∀ u : Value, Own (w.setCell ⟨g, j, none⟩ u) base t 1 (.slice (some ⟨g, 0, none⟩) n c) n (xs.set j u) := by
  rcases h with ⟨h1, h2⟩ | ⟨h0, _⟩
  · rcases h2 with ⟨hv, _⟩ | ⟨g, cap, cur, hv, hb, hg, hn, hm, hs, ht⟩
    · injection hv with _ hn _; omega
    · injection hv with hA _ hc
      subst hA hc
      have ht' : cur.toList.take n = xs := by simpa using ht
      have hlt : g < w.heap.size := (Array.getElem?_eq_some_iff.1 hg).1
      have hbk : Blk w g t cur.toList := by unfold Blk; simpa using hg
      have hcur : j < cur.size := by omega
      refine ⟨g, rfl, hn, hm, hb, hlt, ?_, hbk.frozen j, fun u => .inl ⟨by simpa using h1, .inr ⟨g, c, cur.setIfInBounds j u, rfl, hb, ?_, hn, hm, by simpa using hs, ?_⟩⟩⟩
      · rw [hbk.cell j, ← ht', List.getElem?_take, if_pos hj]
      · have := hbk.set_ j u
        unfold Blk at this
        rw [this]
        congr 2
        apply Array.ext'
        simp
      · rw [← ht']
        simp [List.take_set]
  · omega

theorem encW_rep (k : Nat) : List.replicate k (Value.int .u32 0) = encW (List.replicate k 0) := by simp [encW]
theorem New.setAt {w w' : World} (h : New w w') {g : Nat} (hg : w.heap.size ≤ g) (j : Nat) (u : Value) : New w (w'.setCell ⟨g, j, none⟩ u) := h.setCell (p := ⟨g, j, none⟩) (.inr hg) u
/-- .. and the list has no nought at its end. -/
def IsRowT (V : Nat) (N : Nat) (w : World) (e : Ending) (w' : World) : Prop :=
  ∃ A n c m, e = .returned (.slice A n c) ∧ Own w' w.heap.size 50 1 (.slice A n c) n (encW m) ∧ Limbs m ∧ val m = V ∧ n = N ∧ Trim m ∧ New w w'
set_option maxHeartbeats 800000 in
theorem power_t (n : Nat) (w : World) (hn : n ≤ 256) : Calls Try.prog 67 #[.int .i64 (n : Int)] w (IsRowT (2 ^ n) (n / 32 + 1) w) := by
  have hmk0 := fun W => run_make_row' (P := Try.prog) 22 50 (.int .u32 0) 4 Try.underlying22 infoW rfl .i64 .i64 (n / 32 + 1) (by omega) (by omega) W
  have hc : (((n / 32 + 1 : Nat)) : Int) = (n : Int) / 32 + 1 := by omega
  rw [hc] at hmk0
  have ho := made_own w 50 (n / 32 + 1) (by unfold maxLen; omega) (.int .u32 0)
  rw [encW_rep] at ho
  clear hc
  go_enter Try.func67, Try.ntmps67
  go_upto_region 2 with (fail)
  obtain ⟨w1, hw1⟩ : ∃ w1, w1 = w.alloc (.cells (madeCells #[.int .u32 0] (n / 32 + 1)) 50) := ⟨_, rfl⟩
  have hn1 : New w w1 := by rw [hw1]; exact (Upd.refl _ _).alloc _
  rw [← hw1] at ho ⊢
  obtain ⟨g, hg, -, -, hbg, hlt, hcell, hfz, hset⟩ := ho.place (j := n / 32) (by omega)
  injection hg with hg
  injection hg with hg _ _
  subst hg
  rw [encW_get _ _ (by simp)] at hcell
  have H := hide (And.intro hn1 (And.intro hset hw1))
  clear hw1 hmk0 ho hset hn1
  go_wp2
  go_ret
  obtain ⟨hn1, hset, -⟩ := H.out
  have ho := hset (.int .u32 ((2 : Int) ^ (n % 32) % 4294967296))
  have hx : Value.int .u32 ((2 : Int) ^ (n % 32) % 4294967296) = .int .u32 ((2 ^ (n % 32) : Nat) : Int) := by
    congr 1
    have h1 : 2 ^ (n % 32) < 2 ^ 32 := Nat.pow_lt_pow_right (by omega) (Nat.mod_lt _ (by omega))
    have h2 : ((2 ^ (n % 32) : Nat) : Int) = (2 : Int) ^ (n % 32) := by simp
    rw [← h2]
    generalize 2 ^ (n % 32) = p at h1
    omega
  rw [hx] at ho ⊢
  rw [← encW_set] at ho
  refine ⟨_, _, _, (List.replicate (n / 32 + 1) 0).set (n / 32) (2 ^ (n % 32)), rfl, ho, (Limbs.rep _).set _ ?_, ?_, rfl, .inr ?_, hn1.setAt (Nat.le_refl _) _ _⟩
  · have h1 : 2 ^ (n % 32) < 2 ^ 32 := Nat.pow_lt_pow_right (by omega) (Nat.mod_lt _ (by omega))
    omega
  · have h := val_set (List.replicate (n / 32 + 1) 0) (n / 32) (2 ^ (n % 32)) (by simp)
    rw [val_rep] at h
    have h0 : (List.replicate (n / 32 + 1) 0).getD (n / 32) 0 = 0 := by simp [List.getD]
    rw [h0, pow_limb] at h
    omega
  · rw [List.length_set, List.length_replicate, Nat.add_sub_cancel]
    simp [List.getD]
    exact Nat.two_pow_pos _
theorem power_any (n : Nat) (w : World) (hn : n ≤ 256) : Calls Try.prog 67 #[.int .i64 (n : Int)] w (IsRow (2 ^ n) (n / 32 + 1) w) :=
  (power_t n w hn).mono fun _ _ ⟨A, k, c, m, h1, h2, h3, h4, h5, _, h7⟩ => ⟨A, k, c, m, h1, h2, h3, h4, h5, h7⟩
end Go.Proofs.Ytfhflpchfgkgcaa
