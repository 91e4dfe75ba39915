/- Memory, for contracts: 'Upd F w w'': of what was there only the blocks in F may have turned. 'RowAt': a slice value reads as a list of cells. 'Own': a slice value owns its row. append, over whatever source and onto whatever own row. -/
import Derived.WalkKit
import Derived.Deep.AppendLies
import Derived.Maps.AppendAt
import Derived.Deep.Draws
namespace Go.Proofs.Ytcjmapljcnmfaaa
open Go.RowKit

structure Upd (F : Nat → Prop) (w w' : World) : Prop where
  os : w'.os = w.os
  tape : w'.tape = w.tape
  output : w'.output = w.output
  size : w.heap.size ≤ w'.heap.size
  block : ∀ k, k < w.heap.size → ¬ F k → w'.heap[k]? = w.heap[k]?
abbrev New (w w' : World) : Prop := Upd (fun _ => False) w w'

namespace Upd
variable {F G : Nat → Prop} {a b c w w' : World}
theorem refl (F : Nat → Prop) (w : World) : Upd F w w := ⟨rfl, rfl, rfl, Nat.le_refl _, fun _ _ _ => rfl⟩
theorem mono (h : Upd F w w') (hG : ∀ k, k < w.heap.size → F k → G k) : Upd G w w' :=
  ⟨h.os, h.tape, h.output, h.size, fun k hk hn => h.block k hk fun hf => hn (hG k hk hf)⟩
theorem ofNew (h : New w w') (F : Nat → Prop) : Upd F w w' := h.mono fun _ _ hf => hf.elim
theorem trans (h : Upd F a b) (k : Upd G b c) (hG : ∀ i, i < a.heap.size → G i → F i) : Upd F a c :=
  ⟨k.os.trans h.os, k.tape.trans h.tape, k.output.trans h.output, Nat.le_trans h.size k.size, fun i hi hn =>
    (k.block i (Nat.lt_of_lt_of_le hi h.size) fun hg => hn (hG i hi hg)).trans (h.block i hi hn)⟩
theorem transNew (h : Upd F a b) (k : New b c) : Upd F a c := h.trans k fun _ _ hf => hf.elim
theorem drew (h : Upd F a w) : Upd F a w.drew := ⟨h.os, h.tape, h.output, h.size, h.block⟩
theorem drewN (h : Upd F a w) (n : Nat) : Upd F a (w.drewN n) := ⟨h.os, h.tape, h.output, h.size, h.block⟩
theorem alloc (h : Upd F a w) (o : Obj) : Upd F a (w.alloc o) :=
  ⟨h.os, h.tape, h.output, Nat.le_trans h.size (by simp), fun i hi hn => (Below.heap_alloc w o i (Nat.lt_of_lt_of_le hi h.size)).trans (h.block i hi hn)⟩
theorem setCell (h : Upd F a w) {p : Addr} (hp : F p.block ∨ a.heap.size ≤ p.block) (u : Value) : Upd F a (w.setCell p u) :=
  ⟨h.os, h.tape, h.output, by simpa [World.setCell] using h.size, fun i hi hn => (Below.heap_setCell w p u i (by
    rintro rfl
    rcases hp with hp | hp
    · exact hn hp
    · omega)).trans (h.block i hi hn)⟩
theorem grown {row : Option Nat} (h : Upd F a w) (hg : w.grownBy w' row) (hr : ∀ k, row = some k → F k ∨ a.heap.size ≤ k) : Upd F a w' :=
  ⟨hg.os.trans h.os, hg.tape.trans h.tape, hg.output.trans h.output, Nat.le_trans h.size hg.size, fun i hi hn =>
    (hg.block i (Nat.lt_of_lt_of_le hi h.size) (fun e => by
      rcases hr i e.symm with hf | hf
      · exact hn hf
      · omega)).trans (h.block i hi hn)⟩
theorem below (h : New w w') : Below w.heap.size w w' := ⟨h.os, h.tape, h.output, h.size, fun k hk => h.block k hk (fun hf => hf)⟩
theorem ofBelow (h : Below w.heap.size w w') : New w w' := ⟨h.os, h.tape, h.output, h.size, fun k hk _ => h.block k hk⟩
theorem cell (h : Upd F w w') {p : Addr} (hp : p.block < w.heap.size) (hF : ¬ F p.block) : w'.cell? p = w.cell? p := World.cell?_of_block (w := w) (h.block p.block hp hF)
theorem frozen (h : Upd F w w') {p : Addr} (hp : p.block < w.heap.size) (hF : ¬ F p.block) : w'.frozen? p = w.frozen? p := World.frozen?_of_block (w := w) (h.block p.block hp hF)
theorem cellN (h : New w w') {p : Addr} (hp : p.block < w.heap.size) : w'.cell? p = w.cell? p := h.cell hp (fun hf => hf)
theorem frozenN (h : New w w') {p : Addr} (hp : p.block < w.heap.size) : w'.frozen? p = w.frozen? p := h.frozen hp (fun hf => hf)
end Upd

def Blk (w : World) (g : Nat) (t : TypeId) (cs : List Value) : Prop := w.heap[g]? = some (.cells cs.toArray t (0, 0))
namespace Blk
variable {w w' : World} {g : Nat} {t : TypeId} {cs : List Value}
theorem lt (h : Blk w g t cs) : g < w.heap.size := by
  rcases Nat.lt_or_ge g w.heap.size with hlt | hge
  · exact hlt
  · unfold Blk at h; rw [Array.getElem?_eq_none hge] at h; cases h
theorem cell (h : Blk w g t cs) (i : Nat) : w.cell? ⟨g, i, none⟩ = cs[i]? := by
  have := cell_of_row w g i cs.toArray t (0, 0) h
  simpa using this
theorem frozen (h : Blk w g t cs) (i : Nat) : w.frozen? ⟨g, i, none⟩ = false := by
  unfold Blk at h
  simp [World.frozen?, h]
theorem new (w : World) (t : TypeId) (cs : List Value) : Blk (w.alloc (.cells cs.toArray t)) w.heap.size t cs := heap_alloc_new w _
theorem drew (h : Blk w g t cs) : Blk w.drew g t cs := h
theorem drewN (h : Blk w g t cs) (n : Nat) : Blk (w.drewN n) g t cs := h
theorem alloc (h : Blk w g t cs) (o : Obj) : Blk (w.alloc o) g t cs := (Below.heap_alloc w o g h.lt).trans h
theorem set_ (h : Blk w g t cs) (i : Nat) (u : Value) : Blk (w.setCell ⟨g, i, none⟩ u) g t (cs.set i u) := by
  unfold Blk at h ⊢
  simp [World.setCell, Array.getElem?_modify, h]
theorem far (h : Blk w g t cs) {p : Addr} (hp : g ≠ p.block) (u : Value) : Blk (w.setCell p u) g t cs := (Below.heap_setCell w p u g hp).trans h
theorem upd {F : Nat → Prop} (h : Blk w g t cs) (hb : Upd F w w') (hF : ¬ F g) : Blk w' g t cs := (hb.block g h.lt hF).trans h
theorem new_ (h : Blk w g t cs) (hb : New w w') : Blk w' g t cs := h.upd hb (fun hf => hf)
theorem grown {row : Option Nat} (h : Blk w g t cs) (hb : w.grownBy w' row) (hg : some g ≠ row) : Blk w' g t cs := (hb.block g h.lt hg).trans h
theorem ne_ {g' : Nat} {t' : TypeId} {cs' : List Value} (h : Blk w g t cs) (h' : Blk w g' t' cs') (hne : t ≠ t') : g ≠ g' := by
  rintro rfl
  unfold Blk at h h'
  rw [h] at h'
  injection h' with h'
  injection h' with _ ht
  exact hne ht
end Blk

def RowAt (w : World) (size : Nat) (v : Value) (n : Nat) (xs : List Value) : Prop :=
  xs.length = n * size ∧ ((n = 0 ∧ ∃ A c, v = .slice A 0 c) ∨
    ∃ b off c, v = .slice (some ⟨b, off, none⟩) n c ∧ n ≤ c ∧ c ≤ maxLen ∧ b < w.heap.size ∧ ∀ j u, xs[j]? = some u → w.cell? ⟨b, off + j, none⟩ = some u)
namespace RowAt
variable {F : Nat → Prop} {w w' : World} {size n : Nat} {v : Value} {xs : List Value}
theorem upd (h : RowAt w size v n xs) (hu : Upd F w w') (hF : ∀ b off c, v = .slice (some ⟨b, off, none⟩) n c → ¬ F b) : RowAt w' size v n xs := by
  refine ⟨h.1, ?_⟩
  rcases h.2 with h0 | ⟨b, off, c, hv, hc, hm, hb, hx⟩
  · exact .inl h0
  · exact .inr ⟨b, off, c, hv, hc, hm, Nat.lt_of_lt_of_le hb hu.size, fun j u hj => (hu.cell (p := ⟨b, off + j, none⟩) hb (hF b off c hv)).trans (hx j u hj)⟩
theorem new_ (h : RowAt w size v n xs) (hu : New w w') : RowAt w' size v n xs := h.upd hu fun _ _ _ _ hf => hf
theorem form (h : RowAt w size v n xs) : ∃ A c, v = .slice A n c := by
  rcases h.2 with ⟨rfl, A, c, rfl⟩ | ⟨b, off, c, rfl, _⟩
  · exact ⟨A, c, rfl⟩
  · exact ⟨_, c, rfl⟩
end RowAt

def Own (w : World) (base : Nat) (e : TypeId) (size : Nat) (v : Value) (n : Nat) (xs : List Value) : Prop :=
  w.ownsRow base e size v n xs ∨ (n = 0 ∧ xs = [] ∧ ∃ A, v = .slice A 0 0)
def ownB : Value → Option Nat
  | .slice (some a) _ (_ + 1) => some a.block
  | _ => none
theorem ownB_le {v : Value} {k : Nat} (h : ownB v = some k) : v.ownBlock = some k := by
  unfold ownB at h
  split at h
  · simpa [Value.ownBlock] using h
  · cases h
namespace Own
variable {F : Nat → Prop} {w w' : World} {base : Nat} {e : TypeId} {size n : Nat} {v : Value} {xs : List Value}
theorem nil_ (w : World) (base : Nat) (e : TypeId) (size : Nat) : Own w base e size (.slice none 0 0) 0 [] := .inl (World.ownsRow_nil w base e size)
theorem len (h : Own w base e size v n xs) : xs.length = n * size := by
  rcases h with h | ⟨rfl, rfl, _⟩
  · exact h.1
  · simp
theorem lt (h : Own w base e size v n xs) : ∀ k, ownB v = some k → base ≤ k ∧ k < w.heap.size := by
  intro k hk
  rcases h with h | ⟨rfl, rfl, A, rfl⟩
  · exact h.lt k (ownB_le hk)
  · cases A <;> simp [ownB] at hk
theorem kept (h : Own w base e size v n xs) (hk : ∀ k, ownB v = some k → w'.heap[k]? = w.heap[k]?) : Own w' base e size v n xs := by
  rcases h with ⟨h1, h2⟩ | h
  · rcases h2 with h2 | ⟨g, cap, cur, rfl, hb, hg, hn, hm, hs, ht⟩
    · exact .inl ⟨h1, .inl h2⟩
    · cases cap with
      | zero =>
        obtain rfl : n = 0 := by omega
        exact .inr ⟨rfl, List.eq_nil_of_length_eq_zero (by simpa using h1), _, rfl⟩
      | succ cap => exact .inl ⟨h1, .inr ⟨g, cap + 1, cur, rfl, hb, (hk g rfl).trans hg, hn, hm, hs, ht⟩⟩
  · exact .inr h
theorem upd (h : Own w base e size v n xs) (hu : Upd F w w') (hF : ∀ k, ownB v = some k → ¬ F k) : Own w' base e size v n xs :=
  h.kept fun k hk => hu.block k (h.lt k hk).2 (hF k hk)
theorem new_ (h : Own w base e size v n xs) (hu : New w w') : Own w' base e size v n xs := h.upd hu fun _ _ hf => hf
theorem row (h : Own w base e size v n xs) : RowAt w size v n xs := by
  refine ⟨h.len, ?_⟩
  rcases h with ⟨h1, h2⟩ | ⟨rfl, rfl, A, rfl⟩
  · rcases h2 with ⟨rfl, rfl⟩ | ⟨g, cap, cur, rfl, hb, hg, hn, hm, hs, ht⟩
    · exact .inl ⟨rfl, none, 0, rfl⟩
    · refine .inr ⟨g, 0, cap, rfl, hn, hm, (Array.getElem?_eq_some_iff.1 hg).1, fun j u hj => ?_⟩
      have := World.ownsRow.cells (base := base) (e := e) (size := size) (w := w) (v := .slice (some ⟨g, 0, none⟩) n cap) (n := n) (xs := xs) ⟨h1, .inr ⟨g, cap, cur, rfl, hb, hg, hn, hm, hs, ht⟩⟩ (g := g) rfl j u hj
      have hadd : (⟨g, 0, none⟩ : Addr).add j = ⟨g, 0 + j, none⟩ := by unfold Addr.add; split <;> simp_all
      rw [← hadd]; exact this
  · exact .inl ⟨rfl, A, 0, rfl⟩
theorem more (h : Own w base e size v n xs) {base' : Nat} (hb' : base' ≤ base) : Own w base' e size v n xs := by
  rcases h with ⟨h1, h2⟩ | h
  · rcases h2 with h2 | ⟨g, cap, cur, rfl, hb, r⟩
    · exact .inl ⟨h1, .inl h2⟩
    · exact .inl ⟨h1, .inr ⟨g, cap, cur, rfl, by omega, r⟩⟩
  · exact .inr h
end Own

theorem Own.ne_blk {w : World} {base : Nat} {e : TypeId} {size n : Nat} {v : Value} {xs : List Value} {g : Nat} {t : TypeId} {cs : List Value} (h : Own w base e size v n xs) (hg : Blk w g t cs) (hne : e ≠ t) : ∀ k, ownB v = some k → k ≠ g := by
  intro k hk hkg
  subst hkg
  rcases h with ⟨_, ⟨rfl, _⟩ | ⟨g', cap, cur, rfl, _, hh, _⟩⟩ | ⟨_, _, A, rfl⟩
  · cases hk
  · have : g' = k := by simpa [Value.ownBlock] using ownB_le hk
    subst this
    unfold Blk at hg
    rw [hh] at hg
    injection hg with hg
    injection hg with _ ht
    exact hne ht
  · cases A <;> cases hk
theorem Own.ne_own {w : World} {base base' : Nat} {e e' : TypeId} {size size' n n' : Nat} {v v' : Value} {xs xs' : List Value} (h : Own w base e size v n xs) (h' : Own w base' e' size' v' n' xs') (hne : e ≠ e') : ∀ k, ownB v = some k → ownB v' ≠ some k := by
  intro k hk hk'
  rcases h' with ⟨_, ⟨rfl, _⟩ | ⟨g', cap, cur, rfl, _, hh, _⟩⟩ | ⟨_, _, A, rfl⟩
  · cases hk'
  · have : g' = k := by simpa [Value.ownBlock] using ownB_le hk'
    subst this
    exact h.ne_blk (cs := cur.toList) (by unfold Blk; simpa using hh) hne _ hk rfl
  · cases A <;> cases hk'
theorem Upd.cellAt (w : World) (p : Addr) (v : Value) : Upd (fun b => b = p.block) w (w.setCell p v) := (Upd.refl (fun b => b = p.block) w).setCell (.inl rfl) v

section
variable {P : Program} (w : World)

theorem run_append_row (base : Nat) (t ty e : TypeId) (i : TypeInfo) (z : Value) (size bytes : Nat) (ht : P.underlying t = some (.slice e)) (hi : P.info? e = some i) (hz : i.zero = some z)
    (hsize : i.size = size) (hby : i.bytes = bytes) (hzs : z.cells.size = size) (hsz : 0 < size)
    (v : Value) (n : Nat) (xs : List Value) (hown : Own w base e size v n xs)
    (s : Value) (m : Nat) (news : List Value) (hr : RowAt w size s m news) (h1 : ∀ u ∈ news, u.oneCell' = true)
    (h63 : n + m ≤ maxLen) (hbytes : (n + m) * bytes ≤ 140737488355328) (hbase : base ≤ w.heap.size) :
    ∃ v' w', (Builtin.append_ #[t, t] ty #[v, s]).run P w = .ok v' w' ∧ Own w' base e size v' (n + m) (xs ++ news) ∧ w.grownBy w' (ownB v) ∧
      (ownB v' = ownB v ∨ ownB v' = some w.heap.size) := by
  have hnone : ∀ (A : Option Addr) (c : Nat), ∃ w', (Builtin.append_ #[t, t] ty #[v, .slice A 0 c]).run P w = .ok v w' ∧ w' = w := by
    intro A c
    refine ⟨w, ?_, rfl⟩
    have hlc : ∀ a : Addr, (loadCells a 0).run P w = .ok #[] w := by intro a; simp [loadCells, loadCellsFrom]
    rcases hown with ⟨h1', h2⟩ | ⟨rfl, rfl, A', rfl⟩
    · rcases h2 with ⟨rfl, rfl⟩ | ⟨g, cap, cur, rfl, hb, hg, hn, hm, hs, ht'⟩
      · cases A <;> simp [Builtin.append_, run_underlying ht, sizeOf, typeInfo, hi, Builtin.lenOf, Builtin.firstCells, hlc]
      · cases A <;> simp [Builtin.append_, run_underlying ht, sizeOf, typeInfo, hi, Builtin.lenOf, Builtin.firstCells, hn, storeCells, hlc]
    · cases A <;> cases A' <;> simp [Builtin.append_, run_underlying ht, sizeOf, typeInfo, hi, Builtin.lenOf, Builtin.firstCells, storeCells, hlc]
  rcases Nat.eq_zero_or_pos m with rfl | hm
  · obtain ⟨A, c, rfl⟩ := hr.form
    obtain ⟨w', hrun, rfl⟩ := hnone A c
    have hn : news = [] := List.eq_nil_of_length_eq_zero (by simpa using hr.1)
    subst hn
    exact ⟨v, w', hrun, by simpa using hown, ⟨rfl, rfl, rfl, Nat.le_refl _, fun _ _ _ => rfl⟩, .inl rfl⟩
  · obtain ⟨b, off, c, rfl, hc, hcm, hb, hx⟩ : ∃ b off c, s = .slice (some ⟨b, off, none⟩) m c ∧ m ≤ c ∧ c ≤ maxLen ∧ b < w.heap.size ∧ ∀ j u, news[j]? = some u → w.cell? ⟨b, off + j, none⟩ = some u := by
      rcases hr.2 with ⟨h0, _⟩ | h
      · omega
      · exact h
    have hnews : ∀ j u, news[j]? = some u → w.cell? ((⟨b, off, none⟩ : Addr).add j) = some u := by
      intro j u hj
      have hadd : (⟨b, off, none⟩ : Addr).add j = ⟨b, off + j, none⟩ := by unfold Addr.add; split <;> simp_all
      rw [hadd]; exact hx j u hj
    -- a new row, whatever was there before
    have fresh : ∀ (cap : Nat) (row : Option Nat),
        Own (w.drew.alloc (.cells (xs.toArray ++ news.toArray ++ Builtin.zeroCells z.cells (grownCap w (n + m) cap e - (n + m))) e)) base e size
          (.slice (some ⟨w.heap.size, 0, none⟩) (n + m) (grownCap w (n + m) cap e)) (n + m) (xs ++ news) ∧
        w.grownBy (w.drew.alloc (.cells (xs.toArray ++ news.toArray ++ Builtin.zeroCells z.cells (grownCap w (n + m) cap e - (n + m))) e)) row ∧
        ownB (.slice (some ⟨w.heap.size, 0, none⟩) (n + m) (grownCap w (n + m) cap e)) = some w.heap.size := by
      intro cap row
      have hlen : (xs ++ news).length = (n + m) * size := by rw [List.length_append, hown.len, hr.1, Nat.add_mul]
      have hge := grownCap_ge w (n + m) cap e
      have hcm' : grownCap w (n + m) cap e ≤ maxLen := grownCap_le_maxLen w (n + m) cap e h63
      refine ⟨.inl ⟨hlen, .inr ⟨w.heap.size, _, _, rfl, hbase, heap_alloc_new w.drew _, hge, hcm', ?_, ?_⟩⟩, ⟨rfl, rfl, rfl, by simp, fun k hk _ => Below.heap_alloc w.drew _ k hk⟩, ?_⟩
      · simp only [Array.size_append, List.size_toArray, size_zeroCells, hzs, hown.len, hr.1, ← Nat.add_mul]
        congr 1
        omega
      · simp only [Array.toList_append, List.append_assoc]
        rw [← List.append_assoc, ← hlen]
        exact List.take_left
      · obtain ⟨q, hq⟩ : ∃ q, grownCap w (n + m) cap e = q + 1 := ⟨grownCap w (n + m) cap e - 1, by omega⟩
        rw [hq]; rfl
    have hfit0 : ∀ cap, cap < n + m → Builtin.nextslicecap (n + m) cap * i.bytes ≤ 281474976710656 := fun cap hc => growslice_fits hc (by rw [hby]; exact hbytes)
    have h63' : ((n + m : Nat) : Int) ≤ 9223372036854775807 := by simp only [maxLen] at h63; omega
    have zcap : n = 0 → xs = [] → ∀ A, v = .slice A 0 0 → ∃ v' w', (Builtin.append_ #[t, t] ty #[v, .slice (some ⟨b, off, none⟩) m c]).run P w = .ok v' w' ∧ Own w' base e size v' (n + m) (xs ++ news) ∧ w.grownBy w' (ownB v) ∧
      (ownB v' = ownB v ∨ ownB v' = some w.heap.size) := by
      rintro hn0 hxs A rfl
      subst hn0
      subst hxs
      obtain ⟨f1, f2, f3⟩ := fresh 0 (ownB (.slice A 0 0))
      have hl' : news.length = m * i.size := by rw [hsize]; exact hr.1
      cases A with
      | none =>
        have hrun := run_append_nil (P := P) w t ty e i z ht hi hz ⟨b, off, none⟩ m c news hl' hnews hm (by simpa using h63') (by rw [hby]; simp at hbytes; omega)
        simp only [Nat.zero_add, List.nil_append, Array.empty_append] at f1 f2 f3 ⊢
        exact ⟨_, _, hrun, f1, f2, .inr f3⟩
      | some a =>
        have hrun := run_append_grow (P := P) w t ty e i z ht hi hz a 0 0 [] (by simp) (by simp) ⟨b, off, none⟩ m c news hl' hnews (by omega) h63' (hfit0 0 (by omega))
        exact ⟨_, _, hrun, f1, f2, .inr f3⟩
    rcases hown with ⟨h1', ⟨rfl, rfl⟩ | ⟨g, cap, cur, rfl, hbg, hg, hn, hm', hs, ht'⟩⟩ | ⟨h0, hxs, A, hv⟩
    · exact zcap rfl (List.eq_nil_of_length_eq_zero (by simpa using h1')) none rfl
    · rcases Nat.eq_zero_or_pos cap with rfl | hcap
      · have h0 : n = 0 := by omega
        subst h0
        exact zcap rfl (List.eq_nil_of_length_eq_zero (by simpa using h1')) _ rfl
      · have hown' : w.ownsRow base e size (.slice (some ⟨g, 0, none⟩) n cap) n xs := ⟨h1', .inr ⟨g, cap, cur, rfl, hbg, hg, hn, hm', hs, ht'⟩⟩
        obtain ⟨q, rfl⟩ : ∃ q, cap = q + 1 := ⟨cap - 1, by omega⟩
        obtain ⟨v', w', hrun, h2, h3, _, h5⟩ := run_append_own_at (P := P) w base t ty e i z size bytes ht hi hz hsize hby hzs hsz _ n xs hown' ⟨b, off, none⟩ m c news hr.1 hnews h1 h63 hbytes hbase
        refine ⟨v', w', hrun, .inl h2, h3, ?_⟩
        have hq : ownB v' = v'.ownBlock := by
          rcases h2.2 with ⟨_, h0⟩ | ⟨g', cap', cur', rfl, _, _, hn', _⟩
          · omega
          · obtain ⟨r, rfl⟩ : ∃ r, cap' = r + 1 := ⟨cap' - 1, by omega⟩
            rfl
        rw [hq]
        exact h5
    · exact zcap h0 hxs A hv

def ElemT (P : Program) (t e : TypeId) (z : Value) (size bytes : Nat) : Prop :=
  P.underlying t = some (.slice e) ∧ (P.info? e).map (fun i => (i.zero, i.size, i.bytes)) = some (some z, size, bytes) ∧ z.cells.size = size ∧ 0 < size

theorem run_append_e {t e : TypeId} {z : Value} {size bytes : Nat} (hE : ElemT P t e z size bytes) (ty base : Nat)
    (v : Value) (n : Nat) (xs : List Value) (hown : Own w base e size v n xs)
    (s : Value) (m : Nat) (news : List Value) (hr : RowAt w size s m news) (h1 : ∀ u ∈ news, u.oneCell' = true)
    (hbytes : (n + m) * bytes ≤ 140737488355328) (h63 : n + m ≤ maxLen) (hbase : base ≤ w.heap.size) :
    ∃ v' w', (Builtin.append_ #[t, t] ty #[v, s]).run P w = .ok v' w' ∧ Own w' base e size v' (n + m) (xs ++ news) ∧ w.grownBy w' (ownB v) ∧
      (ownB v' = ownB v ∨ ownB v' = some w.heap.size) := by
  obtain ⟨ht, hinfo, hzs, hsz⟩ := hE
  obtain ⟨i, hi, hz, hsize, hby⟩ := info_parts hinfo
  exact run_append_row w base t ty e i z size bytes ht hi hz hsize hby hzs hsz v n xs hown s m news hr h1 h63 hbytes hbase

theorem wp_append_row {o : Oper} {a : Act} {K : Act → World → Prop} {Q : Exit → Act → World → Prop} (s x : Operand) {t e : TypeId} {z : Value} {size bytes : Nat} (hE : ElemT P t e z size bytes)
    (ho : o.op = .call { callee := .builtin .append, args := #[s, x], argTypes := #[t, t] })
    (base : Nat) (v : Value) (n : Nat) (xs : List Value) (hs : a.eval s = v) (hown : Own w base e size v n xs)
    (sv : Value) (m : Nat) (news : List Value) (hx : a.eval x = sv) (hr : RowAt w size sv m news) (h1 : ∀ u ∈ news, u.oneCell' = true)
    (hbytes : (n + m) * bytes ≤ 140737488355328) (h63 : n + m ≤ maxLen) (hbase : base ≤ w.heap.size)
    (h : ∀ v' w', Own w' base e size v' (n + m) (xs ++ news) → w.grownBy w' (ownB v) → (ownB v' = ownB v ∨ ownB v' = some w.heap.size) → K (a.put o.dst v') w') : o.wp P a w K Q := by
  obtain ⟨v', w', hrun, h2, h3, h4⟩ := run_append_e (P := P) w hE o.type base v n xs hown sv m news hr h1 hbytes h63 hbase
  unfold Oper.wp execOp
  simp only [ho, resolve, invoke, builtin, Sem.run_bind, Sem.run_pure, Result.andThen_ok, List.map_toArray, List.map_cons, List.map_nil, hs, hx, hrun]
  exact h v' w' h2 h3 h4

theorem wpList_append_row {ops : Array Oper} {rest : List Oper} {o : Oper} {a : Act} {Q : Exit → Act → World → Prop} (hgd : o.guard = none) (s x : Operand) {t e : TypeId} {z : Value} {size bytes : Nat} (hE : ElemT P t e z size bytes)
    (ho : o.op = .call { callee := .builtin .append, args := #[s, x], argTypes := #[t, t] })
    (base : Nat) (v : Value) (n : Nat) (xs : List Value) (hs : a.eval s = v) (hown : Own w base e size v n xs)
    (sv : Value) (m : Nat) (news : List Value) (hx : a.eval x = sv) (hr : RowAt w size sv m news) (h1 : ∀ u ∈ news, u.oneCell' = true)
    (hbytes : (n + m) * bytes ≤ 140737488355328) (h63 : n + m ≤ maxLen) (hbase : base ≤ w.heap.size)
    (h : ∀ v' w', Own w' base e size v' (n + m) (xs ++ news) → w.grownBy w' (ownB v) → (ownB v' = ownB v ∨ ownB v' = some w.heap.size) → wpList P ops Q rest (a.put o.dst v') w') : wpList P ops Q (o :: rest) a w :=
  wpList_plain hgd fun _ hK => wp_append_row w s x hE ho base v n xs hs hown sv m news hx hr h1 hbytes h63 hbase fun v' w' h2 h3 h4 => hK _ _ (h v' w' h2 h3 h4)

theorem step_append_row {ops : Array Oper} {o : Oper} {a : Act} {K : Act → World → Prop} {Q : Exit → Act → World → Prop} {E : Prop} (hgd : o.guard = none) (s x : Operand) {t e : TypeId} {z : Value} {size bytes : Nat} (hE : ElemT P t e z size bytes)
    (ho : o.op = .call { callee := .builtin .append, args := #[s, x], argTypes := #[t, t] })
    (base : Nat) (v : Value) (n : Nat) (xs : List Value) (hs : a.eval s = v) (hown : Own w base e size v n xs)
    (sv : Value) (m : Nat) (news : List Value) (hx : a.eval x = sv) (hr : RowAt w size sv m news) (h1 : ∀ u ∈ news, u.oneCell' = true)
    (hbytes : (n + m) * bytes ≤ 140737488355328) (h63 : n + m ≤ maxLen) (hbase : base ≤ w.heap.size)
    (h : ∀ v' w', Own w' base e size v' (n + m) (xs ++ news) → w.grownBy w' (ownB v) → (ownB v' = ownB v ∨ ownB v' = some w.heap.size) → K (a.put o.dst v') w') :
    if Region.wanted o (yielded ops a.tmps) = true then Oper.wp P o a w K Q else E := by
  have hw : Region.wanted o (yielded ops a.tmps) = true := by simp [Region.wanted, hgd]
  rw [if_pos hw]
  exact wp_append_row w s x hE ho base v n xs hs hown sv m news hx hr h1 hbytes h63 hbase h
end

theorem hide {p : Prop} (h : p) : Hid p := h

namespace RowAt
variable {F : Nat → Prop} {w w' : World} {size n : Nat} {v : Value} {xs : List Value}
theorem fresh (w : World) (t : TypeId) (cs : List Value) (n c : Nat) (hl : cs.length = n * size) (hn : n ≤ c) (hc : c ≤ maxLen) : RowAt (w.alloc (.cells cs.toArray t)) size (.slice (some ⟨w.heap.size, 0, none⟩) n c) n cs := by
  refine ⟨hl, .inr ⟨_, 0, c, rfl, hn, hc, by simp, fun j u hj => ?_⟩⟩
  rw [Nat.zero_add, (Blk.new w t cs).cell j, hj]
theorem at_ (h : RowAt w size v n xs) {j : Nat} (hj : j < n * size) : ∃ b off c, v = .slice (some ⟨b, off, none⟩) n c ∧ n ≤ c ∧ c ≤ maxLen ∧ b < w.heap.size ∧ w.cell? ⟨b, off + j, none⟩ = some (xs.getD j undef) := by
  rcases h.2 with ⟨rfl, _⟩ | ⟨b, off, c, hv, hc, hm, hb, hx⟩
  · omega
  · refine ⟨b, off, c, hv, hc, hm, hb, hx j _ ?_⟩
    have : j < xs.length := by rw [h.1]; exact hj
    simp [List.getD, this]
end RowAt

theorem run_cut {P : Program} {w : World} {t e : TypeId} {z : Value} {size bytes : Nat} (hE : ElemT P t e z size bytes) {v : Value} {n : Nat} {xs : List Value} (hr : RowAt w size v n xs) (k : IntKind) (l : Nat) (hl : l ≤ n) :
    ∃ v1, (∀ W : World, (Instr.slice t v (some (.int k (l : Int))) none none).run P W = .ok v1 W) ∧ RowAt w size v1 (n - l) (xs.drop (l * size)) ∧
      (∀ b off c b' off' c', v = .slice (some ⟨b, off, none⟩) n c → v1 = .slice (some ⟨b', off', none⟩) (n - l) c' → b' = b) := by
  obtain ⟨ht, hinfo, _, _⟩ := hE
  obtain ⟨i, hi, _, hsize, _⟩ := info_parts hinfo
  have hlen : (xs.drop (l * size)).length = (n - l) * size := by rw [List.length_drop, hr.1, Nat.sub_mul]
  obtain ⟨A, c, rfl⟩ := hr.form
  have hrun : ∀ W : World, (Instr.slice t (.slice A n c) (some (.int k (l : Int))) none none).run P W = .ok (.slice (if c = l then A else A.map (·.add (l * size))) (n - l) (c - l)) W := by
    intro W
    have h1 : (0 : Int) ≤ (l : Int) ∧ (l : Int) ≤ (n : Int) := by omega
    simp [Instr.slice, run_underlying ht, Instr.sliceBounds, Instr.sliceBound, asIntOf, sizeOf, typeInfo, hi, hsize, hl]
  refine ⟨_, hrun, ⟨hlen, ?_⟩, ?_⟩
  · rcases Nat.lt_or_ge l n with hlt | hge
    · rcases hr.2 with ⟨h0, _⟩ | ⟨b, off, c', hv, hc, hm, hb, hx⟩
      · omega
      · injection hv with hA _ hc'
        subst hA hc'
        rw [if_neg (by omega)]
        have hadd : (⟨b, off, none⟩ : Addr).add (l * size) = ⟨b, off + l * size, none⟩ := by unfold Addr.add; split <;> simp_all
        refine .inr ⟨b, off + l * size, c - l, by simp [hadd], by omega, by omega, hb, fun j u hj => ?_⟩
        rw [Nat.add_assoc]
        exact hx _ u (by rw [← hj, List.getElem?_drop])
    · exact .inl ⟨by omega, _, _, by rw [show n - l = 0 by omega]⟩
  · intro b off c1 b' off' c' h1 h2
    injection h1 with hA _ hc'
    subst hA
    injection h2 with h2 _ _
    split at h2
    · injection h2 with h2; injection h2 with h2 _ _; exact h2.symm
    · have hadd : (⟨b, off, none⟩ : Addr).add (l * size) = ⟨b, off + l * size, none⟩ := by unfold Addr.add; split <;> simp_all
      simp [hadd] at h2
      exact h2.1.symm
end Go.Proofs.Ytcjmapljcnmfaaa
