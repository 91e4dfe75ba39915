/- A drawn region once more: guarded operations; loads of a struct of two cells; its store. -/
import Derived.Test.YtjakfchffigkkaaGreatDoorReg
import Derived.Test.YtjakfchffigkkaaGreatDoorMem
namespace Go.Proofs.YtjakfchffigkkaaGreatDoor
open Go.RowKit
set_option linter.unusedSimpArgs false
set_option linter.unusedVariables false
section
variable {P : Program} {ops : Array Oper} {S : World → Prop} {Q : Exit → Act → World → Prop} {e : Nat}
theorem readsTo_stepG {i : Nat} {r : List Nat} {a a' b : Act} {o : Oper} {v : Value} (hi : ops.toList[i]? = some o) (hw : Region.wanted o (yielded ops a.tmps) = true)
    (hy : ∀ w, S w → (execOp a.eval o).run P w = .ok (.value v) w) (ha : a.put o.dst v = a') (h : readsTo P ops S r a' b) : readsTo P ops S (i :: r) a b :=
  ⟨o, v, by rw [← Array.getElem?_toList]; exact hi, .inl ⟨hw, hy⟩, by rw [ha]; exact h⟩
theorem readsTo_skip {i : Nat} {r : List Nat} {a a' b : Act} {o : Oper} (hi : ops.toList[i]? = some o) (hw : Region.wanted o (yielded ops a.tmps) = false)
    (ha : a.put o.dst undef = a') (h : readsTo P ops S r a' b) : readsTo P ops S (i :: r) a b :=
  ⟨o, undef, by rw [← Array.getElem?_toList]; exact hi, .inr ⟨hw, rfl⟩, by rw [ha]; exact h⟩
theorem actsTo_consG {j : Nat} {r : List Nat} {a : Act} {w : World} {o : Oper} (hi0 : ops.toList[j]? = some o) (hw : Region.wanted o (yielded ops a.tmps) = true)
    (h : ∀ K : Act → World → Prop, (∀ a' w', (j = e ∨ S w') → actsTo P ops S Q e r a' w' → K a' w') → o.wp P a w K Q) : actsTo P ops S Q e (j :: r) a w := by
  have hi : ops[j]? = some o := by rw [← Array.getElem?_toList]; exact hi0
  unfold actsTo wpOp
  simp only [hi, hw, if_true]
  exact .inl (h _ fun _ _ h1 h2 => ⟨h1, h2⟩)
theorem actsTo_skip {j : Nat} {r : List Nat} {a a' : Act} {w : World} {o : Oper} (hi0 : ops.toList[j]? = some o) (hw : Region.wanted o (yielded ops a.tmps) = false)
    (hs : j = e ∨ S w) (ha : a.put o.dst undef = a') (h : actsTo P ops S Q e r a' w) : actsTo P ops S Q e (j :: r) a w := by
  have hi : ops[j]? = some o := by rw [← Array.getElem?_toList]; exact hi0
  unfold actsTo wpOp
  simp only [hi, hw, Bool.false_eq_true, if_false]
  rw [ha]
  exact ⟨hs, h⟩
def chkM (md : Region.Mode) (ops : Array Oper) : List (Nat × Bool) → Array Bool → Bool
  | [], l => Region.ready md ops l == []
  | (i, true) :: r, l => Region.free md ops l i && (Region.ready md ops l).contains i && chkM md ops r (l.setIfInBounds i true)
  | (j, false) :: r, l => Region.ready md ops l == [j] && chkM md ops r (l.setIfInBounds j true)
def dmCheck (md : Region.Mode) (ops : Array Oper) (R : List (Nat × Bool)) : Bool :=
  Region.noSelect ops && (R.length == ops.size) && decide (ops.size < 1000) && chkM md ops R (Array.replicate ops.size false)
def stepsTo (P : Program) (ops : Array Oper) (S : World → Prop) (Q : Exit → Act → World → Prop) : List (Nat × Bool) → Act → World → Prop
  | [], a, w => Q .normal a w
  | (i, true) :: r, a, w => ∃ o v, ops[i]? = some o ∧ YieldsIf P ops S o v a ∧ stepsTo P ops S Q r (a.put o.dst v) w
  | (j, false) :: r, a, w => wpOp P ops Q j (fun a' w' => S w' ∧ stepsTo P ops S Q r a' w') a w
theorem wpJ_steps {md : Region.Mode} (hs : Region.noSelect ops = true) (h1000 : ops.size < 1000) (hQ : ∀ c a d v w, Q (.panic c) (a.put d v) w → Q (.panic c) a w) :
    ∀ (R : List (Nat × Bool)) (l : Array Bool) (a : Act) (w : World), chkM md ops R l = true → S w → stepsTo P ops S Q R a w → wpJ P md ops Q S 1000 R.length l a w
  | [], l, a, w, hc, _, h => ⟨by simpa [chkM] using hc, h⟩
  | (i, true) :: r, l, a, w, hc, hS, h => by
    obtain ⟨o, v, hi, hy, h'⟩ := h
    simp only [chkM, Bool.and_eq_true] at hc
    obtain ⟨⟨hf, hrd⟩, hc'⟩ := hc
    rw [List.length_cons]
    refine wpJ_first hi (Region.noSelect_spec hs) (fun c a w => hQ c a _ _ w) ?_ _ l a w (Region.free_spec hi hf) (by simpa using hrd) hy hS (wpJ_steps hs h1000 hQ r _ _ w hc' hS h')
    intro oe hoe
    rw [Array.getElem?_eq_none (by omega)] at hoe
    cases hoe
  | (j, false) :: r, l, a, w, hc, hS, h => by
    simp only [chkM, Bool.and_eq_true, beq_iff_eq] at hc
    refine ⟨fun h0 => (by rw [hc.1] at h0; cases h0), fun i hi => ?_⟩
    rw [hc.1] at hi
    obtain rfl : i = j := by simpa using hi
    exact wpOp_mono (fun a' w' h' => ⟨.inr h'.1, wpJ_steps hs h1000 hQ r _ a' w' hc.2 h'.1 h'.2⟩) h
theorem wp_region_dm {id : Nat} {a : Act} {w : World} (S : World → Prop) (R : List (Nat × Bool)) (hm : P.follows .mixedOrders = true) (hc : dmCheck .any ops R = true)
    (hQ : ∀ c a d v w, Q (.panic c) (a.put d v) w → Q (.panic c) a w) (hS : S w.drew) (h : stepsTo P ops S Q R a w.drew) : (Code.region id ops true).wp P Q a w := by
  simp only [dmCheck, Bool.and_eq_true, beq_iff_eq, decide_eq_true_eq] at hc
  obtain ⟨⟨⟨hs, hl⟩, h1000⟩, hc'⟩ := hc
  refine wp_region_any hm (wpAny_of_J (S := S) (e := 1000) _ _ _ _ ?_)
  rw [← hl]
  exact wpJ_steps hs h1000 hQ R _ a _ (by rw [hl]; exact hc') hS h
theorem st_take {i : Nat} {r : List (Nat × Bool)} {a a' : Act} {w : World} {o : Oper} {v : Value} (hi : ops.toList[i]? = some o) (hw : Region.wanted o (yielded ops a.tmps) = true)
    (hy : ∀ w, S w → (execOp a.eval o).run P w = .ok (.value v) w) (ha : a.put o.dst v = a') (h : stepsTo P ops S Q r a' w) : stepsTo P ops S Q ((i, true) :: r) a w :=
  ⟨o, v, by rw [← Array.getElem?_toList]; exact hi, .inl ⟨hw, hy⟩, by rw [ha]; exact h⟩
theorem st_skip {i : Nat} {r : List (Nat × Bool)} {a a' : Act} {w : World} {o : Oper} (hi : ops.toList[i]? = some o) (hw : Region.wanted o (yielded ops a.tmps) = false)
    (ha : a.put o.dst undef = a') (h : stepsTo P ops S Q r a' w) : stepsTo P ops S Q ((i, true) :: r) a w :=
  ⟨o, undef, by rw [← Array.getElem?_toList]; exact hi, .inr ⟨hw, rfl⟩, by rw [ha]; exact h⟩
theorem st_act {j : Nat} {r : List (Nat × Bool)} {a : Act} {w : World} {o : Oper} (hi0 : ops.toList[j]? = some o) (hw : Region.wanted o (yielded ops a.tmps) = true)
    (h : ∀ K : Act → World → Prop, (∀ a' w', S w' → stepsTo P ops S Q r a' w' → K a' w') → o.wp P a w K Q) : stepsTo P ops S Q ((j, false) :: r) a w := by
  have hi : ops[j]? = some o := by rw [← Array.getElem?_toList]; exact hi0
  unfold stepsTo wpOp
  simp only [hi, hw, if_true]
  exact .inl (h _ fun _ _ h1 h2 => ⟨h1, h2⟩)
theorem st_nil {a : Act} {w : World} (h : Q .normal a w) : stepsTo P ops S Q [] a w := h
theorem y_load2 {a : Act} {o : Oper} {t : TypeId} {x : Operand} {b : Nat} {tt : TypeId} {v0 v1 : Value} (ho : o.op = .load t x) (hx : a.eval x = .pointer (some ⟨b, 0, none⟩)) (ht : ∀ w, (isAgg t).run P w = .ok true w) (hs : ∀ w, (sizeOf t).run P w = .ok 2 w)
    (hc : ∀ w, S w → Blk w b tt [v0, v1]) :
    ∀ w, S w → (execOp a.eval o).run P w = .ok (.value (.agg #[v0, v1])) w := by
  intro w hS
  have h0 : w.cell? ⟨b, 0, none⟩ = some v0 := (hc w hS).cell 0
  have h1 : w.cell? ⟨b, 1, none⟩ = some v1 := (hc w hS).cell 1
  have hadd : (⟨b, 0, none⟩ : Addr).add 1 = ⟨b, 1, none⟩ := by simp [Addr.add]
  have hadd0 : (⟨b, 0, none⟩ : Addr).add 0 = ⟨b, 0, none⟩ := by simp [Addr.add]
  simp [execOp, ho, hx, Instr.loadAt, Instr.sureAddr, loadVar, ht, hs, loadCells, loadCellsFrom, load, Sem.run, hadd, hadd0, h0, h1]
theorem y_notb {a : Act} {o : Oper} {t : TypeId} {x : Operand} {b : Bool} (ho : o.op = .unOp .not t x) (hx : a.eval x = .bool b) :
    ∀ w, S w → (execOp a.eval o).run P w = .ok (.value (.bool (!b))) w := by
  intro w _
  simp [execOp, ho, hx, Op.unary, asBool]
theorem y_extract {a : Act} {o : Oper} {x : Operand} {k : Nat} {vs : Array Value} {v : Value} (ho : o.op = .extract x k) (hx : a.eval x = .tuple vs) (hv : vs[k]? = some v) :
    ∀ w, S w → (execOp a.eval o).run P w = .ok (.value v) w := by
  intro w _
  simp [execOp, ho, hx, Instr.extract, hv]
theorem y_pick {a : Act} {o : Oper} {c x y : Operand} {b : Bool} {v : Value} (ho : o.op = .pick c x y) (hc : a.eval c = .bool b) (hv : (if b then a.eval x else a.eval y) = v) :
    ∀ w, S w → (execOp a.eval o).run P w = .ok (.value v) w := by
  intro w _
  subst hv
  cases b <;> simp [execOp, ho, hc, asBool]
theorem a_store2 {o : Oper} {a : Act} {t : TypeId} {x y : Operand} {b off : Nat} {u0 u1 v0 v1 : Value} {K : Act → World → Prop} {w : World} (ho : o.op = .store t x y) (hx : a.eval x = .pointer (some ⟨b, off, none⟩)) (hy : a.eval y = .agg #[v0, v1]) (hs : ∀ w, (sizeOf t).run P w = .ok 2 w)
    (hv : (Value.agg #[v0, v1]).cells = #[v0, v1]) (h0 : v0.oneCell' = true) (h1 : v1.oneCell' = true) (hc0 : w.cell? ⟨b, off, none⟩ = some u0) (hf0 : w.frozen? ⟨b, off, none⟩ = false)
    (hc1 : (w.setCell ⟨b, off, none⟩ v0).cell? ⟨b, off + 1, none⟩ = some u1) (hf1 : (w.setCell ⟨b, off, none⟩ v0).frozen? ⟨b, off + 1, none⟩ = false)
    (h : K (a.put o.dst undef) ((w.setCell ⟨b, off, none⟩ v0).setCell ⟨b, off + 1, none⟩ v1)) : o.wp P a w K Q := by
  unfold Oper.wp
  have hst0 : (store ⟨b, off, none⟩ v0).run P w = .ok () (w.setCell ⟨b, off, none⟩ v0) := by
    rw [run_store P w _ v0 _ h0]
    simp [hc0, hf0]
  have hst1 : (store ⟨b, off + 1, none⟩ v1).run P (w.setCell ⟨b, off, none⟩ v0) = .ok () ((w.setCell ⟨b, off, none⟩ v0).setCell ⟨b, off + 1, none⟩ v1) := by
    rw [run_store P _ _ v1 _ h1]
    simp [hc1, hf1]
  have hadd : (⟨b, off, none⟩ : Addr).add 1 = ⟨b, off + 1, none⟩ := by simp [Addr.add]
  have hadd0 : (⟨b, off, none⟩ : Addr).add 0 = ⟨b, off, none⟩ := by simp [Addr.add]
  simp [execOp, ho, hx, hy, Instr.storeAt, Instr.sureAddr, storeVar, hs, hv, storeCells, hadd, hadd0, hst0, hst1, Oper.upon_skip, h]
end
end Go.Proofs.YtjakfchffigkkaaGreatDoor
