/- Slices as lists of numbers: reading, cutting, building, making, one behind the other; for walks over an abstract act. -/
import Derived.Test.YtjakfchffigkkaaGreatDoorSym
import Derived.Great.BuildSlice
import Derived.Laws.OwnMore
import Derived.Laws.MakeOwn
namespace Go.Proofs.YtjakfchffigkkaaGreatDoor
open Go.RowKit
set_option linter.unusedVariables false
set_option linter.unusedSimpArgs false
def enc (k : IntKind) (xs : List Nat) : List Value := xs.map fun x : Nat => .int k (x : Int)
theorem enc_len (k : IntKind) (xs : List Nat) : (enc k xs).length = xs.length := by simp [enc]
theorem enc_get (k : IntKind) (xs : List Nat) (i : Nat) (h : i < xs.length) : (enc k xs)[i]? = some (.int k ((xs.getD i 0 : Nat) : Int)) := by simp [enc, List.getD, h]
theorem enc_one (k : IntKind) (xs : List Nat) : ∀ u ∈ enc k xs, u.oneCell' = true := by
  intro u hu
  obtain ⟨x, _, rfl⟩ := List.mem_map.1 hu
  rfl
abbrev sv (A : Option Addr) (xs : List Nat) (c : Nat) : Value := .slice A xs.length c
def SRow (w : World) (k : IntKind) (A : Option Addr) (xs : List Nat) (c : Nat) : Prop := RowAt w 1 (sv A xs c) xs.length (enc k xs)
def SOwn (w : World) (b : Nat) (e : TypeId) (k : IntKind) (A : Option Addr) (xs : List Nat) (c : Nat) : Prop := Own w b e 1 (sv A xs c) xs.length (enc k xs)
def SElem (w : World) (b o : Nat) (X : Value) : Prop := w.cell? ⟨b, o, none⟩ = some X ∧ b < w.heap.size
def notK (k : IntKind) : Value → Bool
  | .int k' _ => decide (k ≠ k')
  | _ => true
section
variable {w w' : World} {k : IntKind} {A : Option Addr} {xs : List Nat} {c b q : Nat} {e T : TypeId} {cs : List Value} {X : Value}
theorem SRow.new_ (h : SRow w k A xs c) (hn : New w w') : SRow w' k A xs c := RowAt.new_ h hn
theorem SOwn.new_ (h : SOwn w b e k A xs c) (hn : New w w') : SOwn w' b e k A xs c := Own.new_ h hn
theorem SElem.new_ {o : Nat} (h : SElem w b o X) (hn : New w w') : SElem w' b o X := ⟨(hn.cellN (p := ⟨b, o, none⟩) h.2).trans h.1, Nat.lt_of_lt_of_le h.2 hn.size⟩
theorem SOwn.row (h : SOwn w b e k A xs c) : SRow w k A xs c := Own.row h
theorem SOwn.more (h : SOwn w b e k A xs c) {b' : Nat} (hb : b' ≤ b) : SOwn w b' e k A xs c := Own.more h hb
theorem SRow.nil (w : World) (k : IntKind) : SRow w k none [] 0 := ⟨rfl, .inl ⟨rfl, none, 0, rfl⟩⟩
theorem SOwn.nil (w : World) (b : Nat) (e : TypeId) (k : IntKind) : SOwn w b e k none [] 0 := Own.nil_ w b e 1
theorem SRow.at (h : SRow w k A xs c) {i : Nat} (hi : i < xs.length) : ∃ b o, A = some ⟨b, o, none⟩ ∧ SElem w b (o + i) (.int k ((xs.getD i 0 : Nat) : Int)) := by
  rcases h.2 with ⟨h0, _⟩ | ⟨b, o, c', hv, hc, hm, hb, hx⟩
  · omega
  · injection hv with hA _ _
    exact ⟨b, o, hA, hx i _ (enc_get k xs i hi), hb⟩
theorem SRow.max (h : SRow w k A xs c) : (xs.length : Int) ≤ 9223372036854775807 := by
  rcases h.2 with ⟨h0, _⟩ | ⟨_, _, c', _, hc, hm, _⟩
  · omega
  · unfold maxLen at hm; omega
theorem SRow.far (h : SRow w k A xs c) (hb : Blk w q T cs) (hu : Upd (fun b => b = q) w w') (hn : cs.all (notK k) = true) : SRow w' k A xs c := by
  refine ⟨h.1, ?_⟩
  rcases h.2 with h0 | ⟨b, off, c', hv, hc, hm, hbs, hx⟩
  · exact .inl h0
  · rcases Nat.eq_zero_or_pos xs.length with h0 | hn0
    · exact .inl ⟨h0, A, c, by unfold sv; rw [h0]⟩
    · refine .inr ⟨b, off, c', hv, hc, hm, Nat.lt_of_lt_of_le hbs hu.size, fun j y hj => (hu.cell (p := ⟨b, off + j, none⟩) hbs ?_).trans (hx j y hj)⟩
      rintro rfl
      have h0 := hx 0 _ (enc_get k xs 0 hn0)
      rw [hb.cell (off + 0)] at h0
      have := List.all_eq_true.1 hn _ (List.mem_of_getElem? h0)
      simp [notK] at this
theorem SOwn.far (h : SOwn w b e k A xs c) (hb : Blk w q T cs) (hu : Upd (fun b => b = q) w w') (hne : e ≠ T) : SOwn w' b e k A xs c := Own.upd h hu fun k hk => Own.ne_blk h hb hne k hk
theorem SOwn.head (h : SOwn w b e k A xs c) (hp : 0 < xs.length) : ∃ g, A = some ⟨g, 0, none⟩ ∧ b ≤ g := by
  rcases h with h | ⟨h0, _⟩
  · rcases h.2 with ⟨_, h0⟩ | ⟨g, cap, cur, hv, hb, _⟩
    · omega
    · injection hv with hA _ _
      exact ⟨g, hA, hb⟩
  · omega
theorem SOwn.blk (h : SOwn w b e k (some ⟨q, 0, none⟩) xs c) (hp : 0 < xs.length) : b ≤ q ∧ ∃ cur, w.heap[q]? = some (.cells cur e (0, 0)) := by
  rcases h with h | ⟨h0, _⟩
  · rcases h.2 with ⟨_, h0⟩ | ⟨g, cap, cur, hv, hb, hg, _⟩
    · omega
    · injection hv with hA _ _
      injection hA with hA
      injection hA with hA _ _
      subst hA
      exact ⟨hb, cur, hg⟩
  · omega
theorem SOwn.glt (h : SOwn w b e k (some ⟨q, 0, none⟩) xs c) (hp : 0 < xs.length) : q < w.heap.size := by
  obtain ⟨_, cur, hg⟩ := h.blk hp
  exact (Array.getElem?_eq_some_iff.1 hg).1
theorem SOwn.above (h : SOwn w (q + 1) e k A xs c) (hu : Upd (fun b => b = q) w w') : SOwn w' (q + 1) e k A xs c := Own.upd h hu fun i hi he => by
  have := (Own.lt h i hi).1
  omega
theorem s_elem {P : Program} {t : TypeId} {g i : Nat} (y : Int) (hs : ∀ w, (sizeOf t).run P w = .ok 1 w) (h : SOwn w b e k (some ⟨g, 0, none⟩) xs c) (hi : i < xs.length) (hy : 0 ≤ y) :
    ∃ w', w' = w.setCell ⟨g, i, none⟩ (.int k y) ∧ (storeVar t ⟨g, i, none⟩ (.int k y)).run P w = .ok () w' ∧ SOwn w' b e k (some ⟨g, 0, none⟩) (xs.set i y.toNat) c ∧ b ≤ g ∧ Upd (fun q => q = g) w w' ∧
      ∀ q T cs, e ≠ T → Blk w q T cs → Blk w' q T cs := by
  obtain ⟨hbg, cur, hg⟩ := h.blk (by omega)
  have hrow := h.row
  obtain ⟨b', o, hA, hel⟩ := hrow.at hi
  injection hA with hA
  injection hA with hA ho _
  subst hA ho
  have hst : (store ⟨g, i, none⟩ (.int k y)).run P w = .ok () (w.setCell ⟨g, i, none⟩ (.int k y)) := by
    rw [run_store P w _ _ _ rfl]
    have h1 := hel.1
    rw [Nat.zero_add] at h1
    rw [h1]
    have : w.frozen? ⟨g, i, none⟩ = false := by simp [World.frozen?, hg]
    simp [this]
  have hadd0 : (⟨g, i, none⟩ : Addr).add 0 = ⟨g, i, none⟩ := by simp [Addr.add]
  have hu : Upd (fun q => q = g) w (w.setCell ⟨g, i, none⟩ (.int k y)) := (Upd.refl (fun k => k = g) w).setCell (.inl rfl) _
  refine ⟨_, rfl, ?_, ?_, hbg, hu, fun q T cs hne hb => hb.far (p := ⟨g, i, none⟩) (by
    rintro rfl
    unfold Blk at hb
    rw [hg] at hb
    injection hb with hb
    injection hb with _ hb _
    exact hne hb) _⟩
  · simp [storeVar, hs, show (Value.int k y).cells = #[.int k y] from rfl, storeCells, hadd0, hst]
  · rcases h with h | ⟨h0, _⟩
    · have h2 := (World.ownsRow.stored h i (.int k y)).1
      unfold SOwn sv
      rw [List.length_set]
      refine .inl ?_
      have e2 : enc k (xs.set i y.toNat) = (enc k xs).set i (.int k y) := by
        unfold enc
        rw [List.map_set, Int.toNat_of_nonneg hy]
      rw [e2]
      exact h2
    · omega
theorem sv_set (A : Option Addr) (xs : List Nat) (c i y : Nat) : sv A xs c = sv A (xs.set i y) c := by simp [sv]
end
section
variable {P : Program} {o : Oper} {a : Act} {w : World} {t e : TypeId} {z : Value} {by_ : Nat} {k : IntKind} {A B : Option Addr} {xs ys : List Nat} {c d b : Nat}
theorem v_lenR {x : Operand} (ho : o.op = .call { callee := .builtin .len, args := #[x], argTypes := #[t] }) (hE : ElemT P t e z 1 by_) (hx : a.eval x = sv A xs c) : (execOp a.eval o).run P w = .ok (.value (.int .i64 (xs.length : Int))) w := by
  have h : (Builtin.len_ #[t] o.type #[.slice A xs.length c]).run P w = .ok (goInt xs.length) w := by simp [Builtin.len_, run_underlying hE.1]
  simp [execOp, ho, resolve, invoke, builtin, hx, h, goInt]
theorem v_eaddr {x y : Operand} {k' : IntKind} {i : Int} (ho : o.op = .indexAddr t x y) (hE : ElemT P t e z 1 by_) (hx : a.eval x = sv A xs c) (hy : a.eval y = .int k' i) (hr : SRow w k A xs c) (hi : 0 ≤ i ∧ i < xs.length) :
    ∃ b o', (execOp a.eval o).run P w = .ok (.value (.pointer (some ⟨b, o', none⟩))) w ∧ SElem w b o' (.int k ((xs.getD i.toNat 0 : Nat) : Int)) := by
  obtain ⟨ht, hinfo, _, _⟩ := hE
  obtain ⟨it, hit, _, hsize, _⟩ := info_parts hinfo
  obtain ⟨b, o', rfl, he⟩ := hr.at (i := i.toNat) (by omega)
  refine ⟨b, o' + i.toNat, ?_, he⟩
  have hadd : (⟨b, o', none⟩ : Addr).add i.toNat = ⟨b, o' + i.toNat, none⟩ := by unfold Addr.add; split <;> simp_all
  simp [execOp, ho, hx, hy, Instr.indexAt, run_underlying ht, asIntOf, sizeOf, typeInfo, hit, hsize, hi, hadd]
theorem v_eptr {x y : Operand} {k' : IntKind} {i : Int} {g : Nat} (ho : o.op = .indexAddr t x y) (hE : ElemT P t e z 1 by_) (hx : a.eval x = sv (some ⟨g, 0, none⟩) xs c) (hy : a.eval y = .int k' i) (hi : 0 ≤ i ∧ i < xs.length) :
    (execOp a.eval o).run P w = .ok (.value (.pointer (some ⟨g, i.toNat, none⟩))) w := by
  obtain ⟨ht, hinfo, _, _⟩ := hE
  obtain ⟨it, hit, _, hsize, _⟩ := info_parts hinfo
  have hadd : (⟨g, 0, none⟩ : Addr).add i.toNat = ⟨g, i.toNat, none⟩ := by unfold Addr.add; split <;> simp_all
  simp [execOp, ho, hx, hy, Instr.indexAt, run_underlying ht, asIntOf, sizeOf, typeInfo, hit, hsize, hi, hadd]
theorem l_own {g i : Nat} {t' : TypeId} (ht : ∀ w, (isAgg t').run P w = .ok false w) (h : SRow w k (some ⟨g, 0, none⟩) xs c) (hi : i < xs.length) : (loadVar t' ⟨g, i, none⟩).run P w = .ok (.int k ((xs.getD i 0 : Nat) : Int)) w := by
  obtain ⟨b, o', hA, he⟩ := h.at hi
  injection hA with hA
  injection hA with hA ho _
  subst hA ho
  rw [Nat.zero_add] at he
  exact l_one ht he.1
theorem cut_row (h : SRow w k A xs c) {l hh : Nat} (h1 : l ≤ hh) (h2 : hh ≤ xs.length) :
    ∃ A' , Go.sliced A l hh c 1 = sv A' ((xs.take hh).drop l) (c - l) ∧ SRow w k A' ((xs.take hh).drop l) (c - l) := by
  have hlen : ((xs.take hh).drop l).length = hh - l := by simp; omega
  refine ⟨if c = l then A else A.map (·.add (l * 1)), ?_, ?_⟩
  · unfold Go.sliced sv; rw [hlen]
  · refine ⟨by simp [enc], ?_⟩
    rw [hlen]
    rcases Nat.lt_or_ge l hh with hlt | hge
    · rcases h.2 with ⟨h0, _⟩ | ⟨b, off, c', hv, hc, hm, hb, hx⟩
      · omega
      · injection hv with hA _ hc'
        subst hA hc'
        rw [if_neg (by omega)]
        have hadd : (⟨b, off, none⟩ : Addr).add (l * 1) = ⟨b, off + l, none⟩ := by unfold Addr.add; split <;> simp_all
        refine .inr ⟨b, off + l, c - l, by simp only [Option.map_some, hadd, sv, hlen], by omega, by omega, hb, fun j u hj => ?_⟩
        rw [Nat.add_assoc]
        refine hx _ u ?_
        simp only [enc, List.getElem?_map, List.getElem?_drop, List.getElem?_take] at hj ⊢
        split at hj
        · exact hj
        · simp at hj
    · exact .inl ⟨by omega, _, _, by unfold sv; rw [hlen, show hh - l = 0 by omega]⟩
theorem v_cutLH {x y y' : Operand} {k1 k2 : IntKind} {l hh : Int} (ho : o.op = .slice t x (some y) (some y') none) (hE : ElemT P t e z 1 by_) (hx : a.eval x = sv A xs c) (hy : a.eval y = .int k1 l) (hy' : a.eval y' = .int k2 hh) (hr : SRow w k A xs c) (hl : 0 ≤ l ∧ l ≤ hh ∧ hh ≤ xs.length) :
    ∃ A' c', (execOp a.eval o).run P w = .ok (.value (sv A' ((xs.take hh.toNat).drop l.toNat) c')) w ∧ SRow w k A' ((xs.take hh.toNat).drop l.toNat) c' := by
  obtain ⟨ht, hinfo, _, _⟩ := hE
  obtain ⟨it, hit, _, hsize, _⟩ := info_parts hinfo
  obtain ⟨A', hs, hr'⟩ := cut_row hr (l := l.toNat) (hh := hh.toNat) (by omega) (by omega)
  refine ⟨A', _, ?_, hr'⟩
  have hc : xs.length ≤ c := by
    rcases hr.2 with ⟨h0, _⟩ | ⟨_, _, c', hv, hc, _⟩
    · omega
    · injection hv with _ _ h3; omega
  have e1 : (hh.toNat : Int) = hh := Int.toNat_of_nonneg (by omega)
  have e2 : (l.toNat : Int) = l := Int.toNat_of_nonneg (by omega)
  rw [← hs]
  simp [execOp, ho, hx, hy, hy', Instr.sliceAt, Instr.slice, run_underlying ht, Instr.sliceBounds, Instr.sliceBound, asIntOf, sizeOf, typeInfo, hit, hsize, Go.sliced, show 0 ≤ hh by omega, show hh ≤ (c : Int) by omega, hl.1, hl.2.1, e1]
theorem v_cutH {x y' : Operand} {k2 : IntKind} {hh : Int} (ho : o.op = .slice t x none (some y') none) (hE : ElemT P t e z 1 by_) (hx : a.eval x = sv A xs c) (hy' : a.eval y' = .int k2 hh) (hr : SRow w k A xs c) (hl : 0 ≤ hh ∧ hh ≤ xs.length) :
    ∃ A' c', (execOp a.eval o).run P w = .ok (.value (sv A' (xs.take hh.toNat) c')) w ∧ SRow w k A' (xs.take hh.toNat) c' := by
  obtain ⟨ht, hinfo, _, _⟩ := hE
  obtain ⟨it, hit, _, hsize, _⟩ := info_parts hinfo
  obtain ⟨A', hs, hr'⟩ := cut_row hr (l := 0) (hh := hh.toNat) (by omega) (by omega)
  rw [List.drop_zero] at hs hr'
  refine ⟨A', _, ?_, hr'⟩
  have hc : xs.length ≤ c ∨ xs.length = 0 := by
    rcases hr.2 with ⟨h0, _⟩ | ⟨_, _, c', hv, hc, _⟩
    · exact .inr h0
    · injection hv with _ _ h3; omega
  have e1 : (hh.toNat : Int) = hh := Int.toNat_of_nonneg (by omega)
  rw [← hs]
  simp [execOp, ho, hx, hy', Instr.sliceAt, Instr.slice, run_underlying ht, Instr.sliceBounds, Instr.sliceBound, asIntOf, sizeOf, typeInfo, hit, hsize, Go.sliced, hl.1, show hh ≤ (c : Int) by omega, e1]
theorem v_cutL {x y : Operand} {k1 : IntKind} {l : Int} (ho : o.op = .slice t x (some y) none none) (hE : ElemT P t e z 1 by_) (hx : a.eval x = sv A xs c) (hy : a.eval y = .int k1 l) (hr : SRow w k A xs c) (hl : 0 ≤ l ∧ l ≤ xs.length) :
    ∃ A' c', (execOp a.eval o).run P w = .ok (.value (sv A' (xs.drop l.toNat) c')) w ∧ SRow w k A' (xs.drop l.toNat) c' := by
  obtain ⟨ht, hinfo, _, _⟩ := hE
  obtain ⟨it, hit, _, hsize, _⟩ := info_parts hinfo
  obtain ⟨A', hs, hr'⟩ := cut_row hr (l := l.toNat) (hh := xs.length) (by omega) (by omega)
  rw [List.take_length] at hs hr'
  refine ⟨A', _, ?_, hr'⟩
  have e2 : (l.toNat : Int) = l := Int.toNat_of_nonneg (by omega)
  rw [← hs]
  simp [execOp, ho, hx, hy, Instr.sliceAt, Instr.slice, run_underlying ht, Instr.sliceBounds, Instr.sliceBound, asIntOf, sizeOf, typeInfo, hit, hsize, Go.sliced, hl.1, hl.2]
theorem own_fresh (w : World) (k : IntKind) (e : TypeId) (ys : List Nat) (hm : ys.length ≤ maxLen) : SOwn (w.alloc (.cells (enc k ys).toArray e)) w.heap.size e k (some ⟨w.heap.size, 0, none⟩) ys ys.length := by
  refine .inl ⟨by simp [enc], .inr ⟨w.heap.size, _, _, rfl, Nat.le_refl _, heap_alloc_new w _, Nat.le_refl _, hm, by simp [enc], ?_⟩⟩
  rw [Nat.mul_one]
  exact List.take_of_length_le (by simp [enc])
theorem v_bslice {parts : Array (Nat × Operand)} {n : Nat} {ps : List (Nat × Value)} (ys : List Nat) (ho : o.op = .buildSlice t n parts) (hp : (parts.map fun (i, x) => (i, a.eval x)) = ps.toArray) (hE : ElemT P t e z 1 by_) (hn : n = ys.length) (hn0 : 0 < n) (hsm : n ≤ 1000000)
    (hf : Instr.fill (fun i => some (i * 1, 1)) ((Array.range (n * 1)).map (z.cells[· % z.cells.size]!)) ps = some (enc k ys).toArray) :
    ∃ A' c' w', (execOp a.eval o).run P w = .ok (.value (sv A' ys c')) w' ∧ New w w' ∧ SOwn w' w.heap.size e k A' ys c' := by
  obtain ⟨ht, hinfo, _, _⟩ := hE
  obtain ⟨it, hit, hz, hsize, _⟩ := info_parts hinfo
  refine ⟨some ⟨w.heap.size, 0, none⟩, ys.length, w.alloc (.cells (enc k ys).toArray e), ?_, (Upd.refl _ _).alloc _, own_fresh w k e ys (by unfold maxLen; omega)⟩
  have h := run_buildSlice (P := P) w t e n ps.toArray (enc k ys).toArray it z ht hit hz (by rw [hsize]; omega) (by rw [hsize]; omega) (by rw [hsize]; exact hf)
  simp only [execOp, ho, hp, Sem.run_bind, h, Result.andThen_ok]
  rw [hn]
  rfl
theorem v_bslice0 {parts : Array (Nat × Operand)} (k : IntKind) (ho : o.op = .buildSlice t 0 parts) (hp : (parts.map fun (i, x) => (i, a.eval x)) = ([] : List (Nat × Value)).toArray) (hE : ElemT P t e z 1 by_) :
    ∃ A' c' w', (execOp a.eval o).run P w = .ok (.value (sv A' [] c')) w' ∧ New w w' ∧ SOwn w' w.heap.size e k A' [] c' := by
  obtain ⟨ht, hinfo, _, _⟩ := hE
  obtain ⟨it, hit, hz, hsize, _⟩ := info_parts hinfo
  refine ⟨some ⟨w.heap.size, 0, none⟩, 0, w.alloc (.cells (enc k []).toArray e), ?_, (Upd.refl _ _).alloc _, own_fresh w k e [] (by simp)⟩
  simp only [execOp, ho, hp]
  simp [Instr.buildSlice, run_underlying ht, sizeOf, typeInfo, hit, hsize, Instr.fill, newRow, enc, sv, Array.range_zero']
theorem enc_rep (k : IntKind) (n : Nat) : enc k (List.replicate n 0) = List.replicate n (.int k 0) := by simp [enc]
theorem v_make {x y : Operand} {kl : IntKind} {n : Int} (k : IntKind) (ho : o.op = .makeSlice t x y) (hx : a.eval x = .int kl n) (hy : a.eval y = .int kl n) (hE : ElemT P t e (.int k 0) 1 by_) (h0 : 0 ≤ n) (hb : (by_ : Int) * n ≤ 281474976710656) (h63 : n ≤ 4611686018427387904) :
    ∃ A' c' w', (execOp a.eval o).run P w = .ok (.value (sv A' (List.replicate n.toNat 0) c')) w' ∧ New w w' ∧ SOwn w' w.heap.size e k A' (List.replicate n.toNat 0) c' := by
  obtain ⟨ht, hinfo, _, _⟩ := hE
  obtain ⟨it, hit, hz, hsize, hby⟩ := info_parts hinfo
  have h := run_make (P := P) w t e it (.int k 0) ht hit hz kl kl n n h0 (Int.le_refl _) (by rw [hby]; exact hb) (by omega)
  have hcs : madeCells (Value.int k 0).cells (n.toNat * it.size) = (enc k (List.replicate n.toNat 0)).toArray := by
    apply Array.ext'
    rw [hsize, Nat.mul_one, enc_rep, show (Value.int k 0).cells = #[Value.int k 0] from rfl, toList_madeCells_one]
  rw [hcs] at h
  have ho2 := own_fresh w k e (List.replicate n.toNat 0) (by simp [maxLen]; omega)
  refine ⟨some ⟨w.heap.size, 0, none⟩, (List.replicate n.toNat 0).length, w.alloc (.cells (enc k (List.replicate n.toNat 0)).toArray e), ?_, (Upd.refl _ _).alloc _, ho2⟩
  unfold sv
  rw [List.length_replicate]
  simp only [execOp, ho, hx, hy, Sem.run_bind, h, Result.andThen_ok]
  rfl
theorem a_append {K : Act → World → Prop} {Q : Exit → Act → World → Prop} {s x : Operand} (ho : o.op = .call { callee := .builtin .append, args := #[s, x], argTypes := #[t, t] }) (hE : ElemT P t e z 1 by_) (hs : a.eval s = sv A xs c) (hown : SOwn w b e k A xs c) (hx : a.eval x = sv B ys d) (hr : SRow w k B ys d)
    (hby : (xs.length + ys.length) * by_ ≤ 140737488355328) (h63 : xs.length + ys.length ≤ 4611686018427387904) (hb : b ≤ w.heap.size)
    (h : ∀ A' c' w', SOwn w' b e k A' (xs ++ ys) c' → w.grownBy w' (ownB (sv A xs c)) → K (a.put o.dst (sv A' (xs ++ ys) c')) w') : o.wp P a w K Q := by
  refine wp_append_row w s x hE ho b (sv A xs c) xs.length (enc k xs) hs hown (sv B ys d) ys.length (enc k ys) hx hr (enc_one k ys) hby (by unfold maxLen; omega) hb fun v' w' h2 h3 h4 => ?_
  obtain ⟨A', c', rfl⟩ := h2.row.form
  have h5 : SOwn w' b e k A' (xs ++ ys) c' := by
    unfold SOwn sv
    rw [List.length_append, show enc k (xs ++ ys) = enc k xs ++ enc k ys by simp [enc]]
    exact h2
  have h6 := h A' c' w' h5 h3
  unfold sv at h6
  rw [List.length_append] at h6
  exact h6
theorem Upd.ownGrown {w0 w w' : World} {A : Option Addr} {xs : List Nat} {c : Nat} (hN : New w0 w) (hown : SOwn w w0.heap.size e k A xs c) (hg : w.grownBy w' (ownB (sv A xs c))) : New w0 w' := hN.grown hg fun k hk => .inr (Own.lt hown k hk).1
theorem Blk.ownGrown {w w' : World} {q : Nat} {T : TypeId} {cs : List Value} (hb : Blk w q T cs) (hown : SOwn w b e k A xs c) (hne : e ≠ T) (hg : w.grownBy w' (ownB (sv A xs c))) : Blk w' q T cs := hb.grown hg fun he => Own.ne_blk hown hb hne q he.symm rfl
end
section
variable {P : Program}
section
variable {o : Oper} {a : Act} {w : World} {t e : TypeId} {z : Value} {by_ : Nat} {k : IntKind} {A B : Option Addr} {xs ys : List Nat} {c d b : Nat} {T : Value → World → Prop}
theorem x_eaddr {x y : Operand} {k' : IntKind} {i : Int} (ho : o.op = .indexAddr t x y) (hE : ElemT P t e z 1 by_) (hx : a.eval x = sv A xs c) (hy : a.eval y = .int k' i) (hr : SRow w k A xs c) (hi : 0 ≤ i ∧ i < xs.length)
    (h : ∀ b o', SElem w b o' (.int k ((xs.getD i.toNat 0 : Nat) : Int)) → T (.pointer (some ⟨b, o', none⟩)) w) : ∃ v, (execOp a.eval o).run P w = .ok (.value v) w ∧ T v w := by
  obtain ⟨b, o', hrun, he⟩ := v_eaddr ho hE hx hy hr hi
  exact ⟨_, hrun, h _ _ he⟩
theorem x_cutLH {x y y' : Operand} {k1 k2 : IntKind} {l hh : Int} (ho : o.op = .slice t x (some y) (some y') none) (hE : ElemT P t e z 1 by_) (hx : a.eval x = sv A xs c) (hy : a.eval y = .int k1 l) (hy' : a.eval y' = .int k2 hh) (hr : SRow w k A xs c) (hl : 0 ≤ l ∧ l ≤ hh ∧ hh ≤ xs.length)
    (h : ∀ A' c', SRow w k A' ((xs.take hh.toNat).drop l.toNat) c' → T (sv A' ((xs.take hh.toNat).drop l.toNat) c') w) : ∃ v, (execOp a.eval o).run P w = .ok (.value v) w ∧ T v w := by
  obtain ⟨A', c', hrun, he⟩ := v_cutLH ho hE hx hy hy' hr hl
  exact ⟨_, hrun, h _ _ he⟩
theorem x_cutH {x y' : Operand} {k2 : IntKind} {hh : Int} (ho : o.op = .slice t x none (some y') none) (hE : ElemT P t e z 1 by_) (hx : a.eval x = sv A xs c) (hy' : a.eval y' = .int k2 hh) (hr : SRow w k A xs c) (hl : 0 ≤ hh ∧ hh ≤ xs.length)
    (h : ∀ A' c', SRow w k A' (xs.take hh.toNat) c' → T (sv A' (xs.take hh.toNat) c') w) : ∃ v, (execOp a.eval o).run P w = .ok (.value v) w ∧ T v w := by
  obtain ⟨A', c', hrun, he⟩ := v_cutH ho hE hx hy' hr hl
  exact ⟨_, hrun, h _ _ he⟩
theorem x_cutL {x y : Operand} {k1 : IntKind} {l : Int} (ho : o.op = .slice t x (some y) none none) (hE : ElemT P t e z 1 by_) (hx : a.eval x = sv A xs c) (hy : a.eval y = .int k1 l) (hr : SRow w k A xs c) (hl : 0 ≤ l ∧ l ≤ xs.length)
    (h : ∀ A' c', SRow w k A' (xs.drop l.toNat) c' → T (sv A' (xs.drop l.toNat) c') w) : ∃ v, (execOp a.eval o).run P w = .ok (.value v) w ∧ T v w := by
  obtain ⟨A', c', hrun, he⟩ := v_cutL ho hE hx hy hr hl
  exact ⟨_, hrun, h _ _ he⟩
theorem x_bslice {parts : Array (Nat × Operand)} {n : Nat} {ps : List (Nat × Value)} (ys : List Nat) (ho : o.op = .buildSlice t n parts) (hp : (parts.map fun (i, x) => (i, a.eval x)) = ps.toArray) (hE : ElemT P t e z 1 by_) (hn : n = ys.length) (hn0 : 0 < n) (hsm : n ≤ 1000000)
    (hf : Instr.fill (fun i => some (i * 1, 1)) ((Array.range (n * 1)).map (z.cells[· % z.cells.size]!)) ps = some (enc k ys).toArray)
    (h : ∀ A' c' w', SOwn w' w.heap.size e k A' ys c' → T (sv A' ys c') w') : ∃ v w', (execOp a.eval o).run P w = .ok (.value v) w' ∧ New w w' ∧ T v w' := by
  obtain ⟨A', c', w', hrun, hn, he⟩ := v_bslice ys ho hp hE hn hn0 hsm hf
  exact ⟨_, _, hrun, hn, h _ _ _ he⟩
theorem x_bslice0 {parts : Array (Nat × Operand)} (k : IntKind) (ho : o.op = .buildSlice t 0 parts) (hp : (parts.map fun (i, x) => (i, a.eval x)) = ([] : List (Nat × Value)).toArray) (hE : ElemT P t e z 1 by_)
    (h : ∀ A' c' w', SOwn w' w.heap.size e k A' [] c' → T (sv A' [] c') w') : ∃ v w', (execOp a.eval o).run P w = .ok (.value v) w' ∧ New w w' ∧ T v w' := by
  obtain ⟨A', c', w', hrun, hn, he⟩ := v_bslice0 k ho hp hE
  exact ⟨_, _, hrun, hn, h _ _ _ he⟩
theorem x_make {x y : Operand} {kl : IntKind} {n : Int} (k : IntKind) (ho : o.op = .makeSlice t x y) (hx : a.eval x = .int kl n) (hy : a.eval y = .int kl n) (hE : ElemT P t e (.int k 0) 1 by_) (h0 : 0 ≤ n) (hb : (by_ : Int) * n ≤ 281474976710656) (h63 : n ≤ 4611686018427387904)
    (h : ∀ A' c' w', SOwn w' w.heap.size e k A' (List.replicate n.toNat 0) c' → T (sv A' (List.replicate n.toNat 0) c') w') : ∃ v w', (execOp a.eval o).run P w = .ok (.value v) w' ∧ New w w' ∧ T v w' := by
  obtain ⟨A', c', w', hrun, hn, he⟩ := v_make k ho hx hy hE h0 hb h63
  exact ⟨_, _, hrun, hn, h _ _ _ he⟩
end
end
section
variable {P : Program} {ops : Array Oper} {Q : Exit → Act → World → Prop} {T : Nat → Value → World → Prop} {F : Array Bool} {a0 : Act} {w0 : World} {i : Nat}
theorem tkA {o : Oper} (hi : ops.toList[i]? = some o) (hw : ∀ a w, New w0 w → Known ops F T a0 i a w → Region.wanted o (yielded ops a.tmps) = true)
    (h : ∀ a w, New w0 w → Known ops F T a0 i a w → ∃ v w', (execOp a.eval o).run P w = .ok (.value v) w' ∧ New w w' ∧ T i v w') : StepOk P ops Q F T a0 w0 i := by
  refine ⟨o, hi, fun a w hn hk => ?_⟩
  obtain ⟨v, w', hv, hn', hT⟩ := h a w hn hk
  have hi' : ops[i]? = some o := by rw [← Array.getElem?_toList]; exact hi
  unfold wpOp
  simp only [hi', hw a w hn hk, if_true, Oper.wp, hv, Oper.upon]
  exact .inl ⟨v, rfl, hn', hT⟩
theorem tkC {o : Oper} {f : FuncId} {xs : Array Operand} {ats : Array TypeId} (hi : ops.toList[i]? = some o) (hw : ∀ a w, New w0 w → Known ops F T a0 i a w → Region.wanted o (yielded ops a.tmps) = true)
    (ho : o.op = .call { callee := .value (.func f), args := xs, argTypes := ats })
    (h : ∀ a w, New w0 w → Known ops F T a0 i a w → ∃ (args : Array Value) (R : Ending → World → Prop), xs.toList.map a.eval = args.toList ∧ (∀ w, (callFunc f args).run P w = .ok (.enter f args) w) ∧ Calls P f args w R ∧ ∀ e w', R e w' → ∃ v, e = .returned v ∧ New w w' ∧ T i v w') : StepOk P ops Q F T a0 w0 i := step_callG hi hw ho h
end
def RetS (T : TypeId) (k : IntKind) (xs : List Nat) (w : World) (en : Ending) (w' : World) : Prop := ∃ A c, en = .returned (sv A xs c) ∧ SOwn w' w.heap.size T k A xs c ∧ New w w'
def RetF (F : Value → Value) (k : IntKind) (xs : List Nat) (w : World) (en : Ending) (w' : World) : Prop := ∃ A c, en = .returned (F (sv A xs c)) ∧ SRow w' k A xs c ∧ New w w'
section
variable {t : TypeId} {x y r : Int}
theorem and_mask (n : Nat) (k : Nat) : n &&& (2 ^ k - 1) = n % 2 ^ k := Nat.and_two_pow_sub_one_eq_mod n k
end
end Go.Proofs.YtjakfchffigkkaaGreatDoor
