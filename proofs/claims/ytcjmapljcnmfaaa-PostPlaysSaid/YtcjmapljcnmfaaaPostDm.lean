/- A drawn region in one row of takes and acts (out of XReg2, without what the Post texts have already). -/
import Derived.Test.YtcjmapljcnmfaaaPostJ2
namespace Go.Proofs.Ytcjmapljcnmfaaa
open Go.RowKit
set_option linter.unusedVariables false
set_option linter.unusedSimpArgs false
section
variable {P : Program} {ops : Array Oper} {S : World → Prop} {Q : Exit → Act → World → Prop} {e : Nat}
def chkM (md : Region.Mode) (ops : Array Oper) : List (Nat × Bool) → Array Bool → Bool
  | [], l => Region.ready md ops l == []
  | (i, true) :: r, l => Region.free md ops l i && (Region.ready md ops l).contains i && chkM md ops r (l.setIfInBounds i true)
  | (j, false) :: r, l => Region.ready md ops l == [j] && chkM md ops r (l.setIfInBounds j true)
def dmCheck (md : Region.Mode) (ops : Array Oper) (R : List (Nat × Bool)) : Bool :=
  Region.noSelect ops && (R.length == ops.size) && decide (ops.size < 1000) && chkM md ops R (Array.replicate ops.size false)
def stepsTo (P : Program) (ops : Array Oper) (S : World → Prop) (Q : Exit → Act → World → Prop) : List (Nat × Bool) → Act → World → Prop
  | [], a, w => Q .normal a w
  | (i, true) :: r, a, w => ∃ o v, ops[i]? = some o ∧ YieldsIf P ops S o v a ∧ stepsTo P ops S Q r (a.put o.dst v) w
  | (j, false) :: r, a, w => wpOp P ops Q j (fun a' w' => S w' ∧ stepsTo P ops S Q r a' w') a w
theorem wpJ_steps {md : Region.Mode} (hs : Region.noSelect ops = true) (h1000 : ops.size < 1000) (hQ : ∀ c a d v w, Q (.panic c) (a.put d v) w → Q (.panic c) a w) :
    ∀ (R : List (Nat × Bool)) (l : Array Bool) (a : Act) (w : World), chkM md ops R l = true → S w → stepsTo P ops S Q R a w → wpJ P md ops Q S 1000 R.length l a w
  | [], l, a, w, hc, _, h => ⟨by simpa [chkM] using hc, h⟩
  | (i, true) :: r, l, a, w, hc, hS, h => by
    obtain ⟨o, v, hi, hy, h'⟩ := h
    simp only [chkM, Bool.and_eq_true] at hc
    obtain ⟨⟨hf, hrd⟩, hc'⟩ := hc
    rw [List.length_cons]
    refine wpJ_first hi (Region.noSelect_spec hs) (fun c a w => hQ c a _ _ w) ?_ _ l a w (Region.free_spec hi hf) (by simpa using hrd) hy hS (wpJ_steps hs h1000 hQ r _ _ w hc' hS h')
    intro oe hoe
    rw [Array.getElem?_eq_none (by omega)] at hoe
    cases hoe
  | (j, false) :: r, l, a, w, hc, hS, h => by
    simp only [chkM, Bool.and_eq_true, beq_iff_eq] at hc
    refine ⟨fun h0 => (by rw [hc.1] at h0; cases h0), fun i hi => ?_⟩
    rw [hc.1] at hi
    obtain rfl : i = j := by simpa using hi
    exact wpOp_mono (fun a' w' h' => ⟨.inr h'.1, wpJ_steps hs h1000 hQ r _ a' w' hc.2 h'.1 h'.2⟩) h
theorem wp_region_dm {id : Nat} {a : Act} {w : World} (S : World → Prop) (R : List (Nat × Bool)) (hm : P.follows .mixedOrders = true) (hc : dmCheck .any ops R = true)
    (hQ : ∀ c a d v w, Q (.panic c) (a.put d v) w → Q (.panic c) a w) (hS : S w.drew) (h : stepsTo P ops S Q R a w.drew) : (Code.region id ops true).wp P Q a w := by
  simp only [dmCheck, Bool.and_eq_true, beq_iff_eq, decide_eq_true_eq] at hc
  obtain ⟨⟨⟨hs, hl⟩, h1000⟩, hc'⟩ := hc
  refine wp_region_any hm (wpAny_of_J (S := S) (e := 1000) _ _ _ _ ?_)
  rw [← hl]
  exact wpJ_steps hs h1000 hQ R _ a _ (by rw [hl]; exact hc') hS h
theorem st_take {i : Nat} {r : List (Nat × Bool)} {a a' : Act} {w : World} {o : Oper} {v : Value} (hi : ops.toList[i]? = some o) (hw : Region.wanted o (yielded ops a.tmps) = true)
    (hy : ∀ w, S w → (execOp a.eval o).run P w = .ok (.value v) w) (ha : a.put o.dst v = a') (h : stepsTo P ops S Q r a' w) : stepsTo P ops S Q ((i, true) :: r) a w :=
  ⟨o, v, by rw [← Array.getElem?_toList]; exact hi, .inl ⟨hw, hy⟩, by rw [ha]; exact h⟩
theorem st_skip {i : Nat} {r : List (Nat × Bool)} {a a' : Act} {w : World} {o : Oper} (hi : ops.toList[i]? = some o) (hw : Region.wanted o (yielded ops a.tmps) = false)
    (ha : a.put o.dst undef = a') (h : stepsTo P ops S Q r a' w) : stepsTo P ops S Q ((i, true) :: r) a w :=
  ⟨o, undef, by rw [← Array.getElem?_toList]; exact hi, .inr ⟨hw, rfl⟩, by rw [ha]; exact h⟩
theorem st_act {j : Nat} {r : List (Nat × Bool)} {a : Act} {w : World} {o : Oper} (hi0 : ops.toList[j]? = some o) (hw : Region.wanted o (yielded ops a.tmps) = true)
    (h : ∀ K : Act → World → Prop, (∀ a' w', S w' → stepsTo P ops S Q r a' w' → K a' w') → o.wp P a w K Q) : stepsTo P ops S Q ((j, false) :: r) a w := by
  have hi : ops[j]? = some o := by rw [← Array.getElem?_toList]; exact hi0
  unfold stepsTo wpOp
  simp only [hi, hw, if_true]
  exact .inl (h _ fun _ _ h1 h2 => ⟨h1, h2⟩)
theorem st_nil {a : Act} {w : World} (h : Q .normal a w) : stepsTo P ops S Q [] a w := h
theorem y_notb {a : Act} {o : Oper} {t : TypeId} {x : Operand} {b : Bool} (ho : o.op = .unOp .not t x) (hx : a.eval x = .bool b) :
    ∀ w, S w → (execOp a.eval o).run P w = .ok (.value (.bool (!b))) w := by
  intro w _
  simp [execOp, ho, hx, Op.unary, asBool]
theorem y_pick {a : Act} {o : Oper} {c x y : Operand} {b : Bool} {v : Value} (ho : o.op = .pick c x y) (hc : a.eval c = .bool b) (hv : (if b then a.eval x else a.eval y) = v) :
    ∀ w, S w → (execOp a.eval o).run P w = .ok (.value v) w := by
  intro w _
  subst hv
  cases b <;> simp [execOp, ho, hc, asBool]
theorem r_neqI {t : TypeId} {k : IntKind} {x : Int} : ∀ w, (binOp .neq t (.int k x) (.int k x)).run P w = .ok (.bool false) w := by
  intro w; simp [binOp, Op.intCmp]
end
theorem fieldRo_0 (b p : Nat) (w : World) : (Instr.fieldAt 47 (.pointer (some ⟨b, p, none⟩)) 0).run Try.prog w = .ok (.pointer (some ⟨b, p, none⟩)) w := by kernel_rfl
theorem fieldRo_1 (b p : Nat) (w : World) : (Instr.fieldAt 47 (.pointer (some ⟨b, p, none⟩)) 1).run Try.prog w = .ok (.pointer (some ⟨b, p + 1, none⟩)) w := by kernel_rfl
theorem fieldRx_0 (b p : Nat) (w : World) : (Instr.fieldAt 84 (.pointer (some ⟨b, p, none⟩)) 0).run Try.prog w = .ok (.pointer (some ⟨b, p, none⟩)) w := by kernel_rfl
theorem fieldRx_1 (b p : Nat) (w : World) : (Instr.fieldAt 84 (.pointer (some ⟨b, p, none⟩)) 1).run Try.prog w = .ok (.pointer (some ⟨b, p + 1, none⟩)) w := by kernel_rfl
end Go.Proofs.Ytcjmapljcnmfaaa
namespace Go.Proofs.Ytcjmapljcnmfaaa.R
open Go.RowKit
theorem neqM (m : Ml) (w : World) : (binOp .neq 79 (aggM m) (aggM m)).run Try.prog w = .ok (.bool false) w := by
  have u3 := Try.underlying3
  have a3 := Try.isAgg3
  have z3 := Try.sizeOf3
  have hS : Try.prog.underlying 79 = some (.struct (Try.prog.fieldsOf 79)) := by kernel_rfl
  have hp : Try.prog.stoodInHeld 79 = false := by kernel_rfl
  simp only [aggM]
  rw [run_neq_struct, show (10000 : Nat) = 9999 + 1 from rfl, run_equalIn_agg w 9999 79 _ _ hS hp]
  simp only [Program.fieldsOf, Try.underlying79]
  go_simp
theorem y_neqM {S : World → Prop} {a : Act} {o : Oper} {x y : Operand} {m : Ml} (ho : o.op = .binOp .neq 79 x y 79) (hx : a.eval x = aggM m) (hy : a.eval y = aggM m) :
    ∀ w, S w → (execOp a.eval o).run Try.prog w = .ok (.value (.bool false)) w := by
  intro w _
  have hg := run_eqGuard_agg (P := Try.prog) (w := w) .neq 79 x y #[.int .i64 m.bl, .int .i64 m.ln, .int .i64 m.by_, .int .i64 m.ev] #[.int .i64 m.bl, .int .i64 m.ln, .int .i64 m.by_, .int .i64 m.ev] (by kernel_rfl)
  have hn := neqM m w
  simp only [aggM] at hn hx hy
  simp [execOp, ho, hx, hy, hg, hn]
end Go.Proofs.Ytcjmapljcnmfaaa.R
