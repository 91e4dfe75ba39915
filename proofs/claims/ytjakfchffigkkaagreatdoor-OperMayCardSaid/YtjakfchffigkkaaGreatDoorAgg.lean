import Derived.Test.YtjakfchffigkkaaGreatDoorRegS
import Derived.Laws.CopyRow
namespace Go.Proofs.YtjakfchffigkkaaGreatDoor
open Go.RowKit
set_option linter.unusedVariables false
set_option linter.unusedSimpArgs false
section
variable {P : Program} {w : World}
theorem l_part {t tt : TypeId} {b i n : Nat} {cs : List Value} (ht : ∀ w, (isAgg t).run P w = .ok true w) (hs : ∀ w, (sizeOf t).run P w = .ok n w) (hb : Blk w b tt cs) (hn : i + n ≤ cs.length) :
    (loadVar t ⟨b, i, none⟩).run P w = .ok (.agg ((cs.drop i).take n).toArray) w := by
  have h := run_loadCells_list (P := P) w ⟨b, i, none⟩ ((cs.drop i).take n) (fun j v hj => by
    have hadd : (⟨b, i, none⟩ : Addr).add j = ⟨b, i + j, none⟩ := by unfold Addr.add; split <;> simp_all
    rw [hadd, hb.cell]
    rw [List.getElem?_take] at hj
    split at hj
    · rw [List.getElem?_drop] at hj; exact hj
    · cases hj)
  have hl : ((cs.drop i).take n).length = n := by rw [List.length_take, List.length_drop]; omega
  rw [hl] at h
  simp [loadVar, ht, hs, h]
theorem l_agg {t tt : TypeId} {b n : Nat} {cs : List Value} (ht : ∀ w, (isAgg t).run P w = .ok true w) (hs : ∀ w, (sizeOf t).run P w = .ok n w) (hb : Blk w b tt cs) (hn : cs.length = n) :
    (loadVar t ⟨b, 0, none⟩).run P w = .ok (.agg cs.toArray) w := by
  have h := l_part (i := 0) ht hs hb (by omega)
  rw [List.drop_zero, List.take_of_length_le (by omega)] at h
  exact h
def putAt (cs : List Value) (i : Nat) : List Value → List Value
  | [] => cs
  | v :: vs => putAt (cs.set i v) (i + 1) vs
theorem putAt_len (i : Nat) : ∀ (vs : List Value) (cs : List Value), (putAt cs i vs).length = cs.length := by
  intro vs
  induction vs generalizing i with
  | nil => intro cs; rfl
  | cons v vs ih => intro cs; simp [putAt, ih]
theorem s_cells {tt : TypeId} {b o : Nat} : ∀ (vs : List Value) (k : Nat) (w : World) (cs : List Value), Blk w b tt cs → o + k + vs.length ≤ cs.length → (∀ v ∈ vs, v.oneCell' = true) →
    ∃ w', (storeCells ⟨b, o, none⟩ vs k).run P w = .ok () w' ∧ Blk w' b tt (putAt cs (o + k) vs) ∧ Upd (fun q => q = b) w w' ∧ ∀ g s cs, g ≠ b → Blk w g s cs → Blk w' g s cs
  | [], k, w, cs, hb, _, _ => ⟨w, rfl, hb, Upd.refl _ _, fun _ _ _ _ h => h⟩
  | v :: vs, k, w, cs, hb, hl, h1 => by
    rw [List.length_cons] at hl
    have hadd : (⟨b, o, none⟩ : Addr).add k = ⟨b, o + k, none⟩ := by unfold Addr.add; split <;> simp_all
    have hst : (store ⟨b, o + k, none⟩ v).run P w = .ok () (w.setCell ⟨b, o + k, none⟩ v) := by
      rw [run_store P w _ v _ (h1 v (by simp))]
      have := hb.cell (o + k)
      rw [List.getElem?_eq_getElem (by omega)] at this
      simp [this, hb.frozen (o + k)]
    obtain ⟨w', hrun, hb', hu, hf⟩ := s_cells (o := o) vs (k + 1) (w.setCell ⟨b, o + k, none⟩ v) (cs.set (o + k) v) (hb.set_ (o + k) v) (by simp; omega) (fun x hx => h1 x (by simp [hx]))
    refine ⟨w', ?_, hb', ((Upd.refl (fun q => q = b) w).setCell (.inl rfl) v).trans hu (fun _ _ h => h), fun g s cs hg h => hf g s cs hg (h.far hg _)⟩
    rw [show storeCells ⟨b, o, none⟩ (v :: vs) k = (do store ((⟨b, o, none⟩ : Addr).add k) v; storeCells ⟨b, o, none⟩ vs (k + 1)) from rfl, hadd]
    simp [hst, hrun]
theorem s_many {t tt : TypeId} {b i n : Nat} {cs : List Value} (vs : List Value) (hs : ∀ w, (sizeOf t).run P w = .ok n w) (hn : vs.length = n) (hv : (Value.agg vs.toArray).cells = vs.toArray) (h1 : (vs.all (·.oneCell')) = true) (hb : Blk w b tt cs) (hi : i + vs.length ≤ cs.length) :
    ∃ w', (storeVar t ⟨b, i, none⟩ (.agg vs.toArray)).run P w = .ok () w' ∧ Blk w' b tt (putAt cs i vs) ∧ Upd (fun k => k = b) w w' ∧ ∀ g s cs, g ≠ b → Blk w g s cs → Blk w' g s cs := by
  obtain ⟨w', hrun, hb', hu, hf⟩ := s_cells (P := P) (o := i) vs 0 w cs hb (by omega) (fun v hv => List.all_eq_true.1 h1 v hv)
  refine ⟨w', ?_, by rw [Nat.add_zero] at hb'; exact hb', hu, hf⟩
  simp [storeVar, hs, hv, hn, hrun]
theorem v_fieldN {o : Oper} {a : Act} {s : TypeId} {x : Operand} {f : Nat} {u v : Value} (ho : o.op = .field s x f) (hx : a.eval x = u) (hf : ∀ w, (Instr.field s u f).run P w = .ok v w) : (execOp a.eval o).run P w = .ok (.value v) w := v_fieldv ho hx hf
end
section
variable {P : Program} {Q : Exit → Act → World → Prop} {a : Act} {o : Oper}
theorem a_callV {c : Operand} {f : FuncId} {xs : Array Operand} {ats : Array TypeId} {args : Array Value} {K : Act → World → Prop} {w : World} {R : Ending → World → Prop} (ho : o.op = .call { callee := .value c, args := xs, argTypes := ats }) (hcl : a.eval c = .func (.func f) #[] #[])
    (hx0 : xs.toList.map a.eval = args.toList) (hcf : ∀ w, (callFunc f args).run P w = .ok (.enter f args) w) (hc : Calls P f args w R) (h : ∀ e w', R e w' → ∃ v, e = .returned v ∧ K (a.put o.dst v) w') : o.wp P a w K Q := by
  have hx : xs.map a.eval = args := by apply Array.ext'; rw [Array.toList_map]; exact hx0
  have hrun : (execOp a.eval o).run P w = .ok (.enter f args) w := by
    simp [execOp, ho, resolve, invoke, hx, hcl, Deferred.ofValue, hcf]
  unfold Oper.wp
  rw [hrun]
  refine hc.mono fun e w' he => ?_
  obtain ⟨v, rfl, hk⟩ := h e w' he
  exact hk
end
section
variable {P : Program} {ops : Array Oper} {Q : Exit → Act → World → Prop} {T : Nat → Value → World → Prop} {F : Array Bool} {a0 : Act} {w0 : World} {i : Nat}
theorem tkV {o : Oper} {c : Operand} {xs : Array Operand} {ats : Array TypeId} (hi : ops.toList[i]? = some o) (hw : ∀ a w, New w0 w → Known ops F T a0 i a w → Region.wanted o (yielded ops a.tmps) = true)
    (ho : o.op = .call { callee := .value c, args := xs, argTypes := ats })
    (h : ∀ a w, New w0 w → Known ops F T a0 i a w → ∃ (f : FuncId) (args : Array Value) (R : Ending → World → Prop), a.eval c = .func (.func f) #[] #[] ∧ xs.toList.map a.eval = args.toList ∧ (∀ w, (callFunc f args).run P w = .ok (.enter f args) w) ∧ Calls P f args w R ∧ ∀ e w', R e w' → ∃ v, e = .returned v ∧ New w w' ∧ T i v w') : StepOk P ops Q F T a0 w0 i := by
  refine ⟨o, hi, fun a w hn hk => ?_⟩
  obtain ⟨f, args, R, hcl, hx, hcf, hc, hR⟩ := h a w hn hk
  have hi' : ops[i]? = some o := by rw [← Array.getElem?_toList]; exact hi
  unfold wpOp
  simp only [hi', hw a w hn hk, if_true]
  refine .inl (a_callV ho hcl hx hcf hc fun e w' he => ?_)
  obtain ⟨v, rfl, hn, hT⟩ := hR e w' he
  exact ⟨v, rfl, v, rfl, hn, hT⟩
end
end Go.Proofs.YtjakfchffigkkaaGreatDoor
