import Derived.Test.YtjakfchffigkkaaGreatDoorRegS
import Derived.Test.YtjakfchffigkkaaGreatDoorRow
import Derived.Test.YtjakfchffigkkaaGreatDoorLoop
namespace Go.Proofs.YtjakfchffigkkaaGreatDoor
open Go.RowKit
set_option linter.unusedVariables false
theorem lb {a b : Nat} (h : Nat.ble a b = true := by rfl) : a ≤ b := Nat.le_of_ble_eq_true h
theorem bc (b : Bool) : b = true ∨ b = false := Bool.eq_false_or_eq_true b
theorem oT {p : Prop} [Decidable p] (h : decide p = true) : p := of_decide_eq_true h
theorem oF {p : Prop} [Decidable p] (h : decide p = false) : ¬ p := of_decide_eq_false h
theorem pn {a a' : Act} {d j : Nat} {v x : Value} (h : a' = a.put (some d) v) (hx : a.eval (.tmp j) = x) (hd : d ≠ j) : a'.eval (.tmp j) = x := by rw [h, put_ne _ _ _ _ hd]; exact hx
theorem hB {v : Value} {t b : Bool} (h : v = .bool t) (ht : t = b) : v = .bool b := h.trans (congrArg Value.bool ht)
theorem aft {ops : Array Oper} {F : Array Bool} {news : List Nat} {T : Nat → Value → World → Prop} {a0 a : Act} {w w0 w1 : World} {N : Nat} {Fr : Nat → Prop} (h : After ops F news T a0 a w) (hs : a0.tmps.size = N) (hd : a0.defers = []) (hN : Upd Fr w0 w1) (hn : New w1 w) : a.tmps.size = N ∧ a.defers = [] ∧ Upd Fr w0 w := ⟨h.size.trans hs, h.defers.trans hd, hN.transNew hn⟩
theorem aftI {ops : Array Oper} {F : Array Bool} {news : List Nat} {T : Nat → Value → World → Prop} {a0 : Act} {w0 w1 : World} {N : Nat} {Fr : Nat → Prop} {G : Act → World → Prop} (hs : a0.tmps.size = N) (hd : a0.defers = []) (hN : Upd Fr w0 w1) (h : ∀ a w, a.tmps.size = N → a.defers = [] → Upd Fr w0 w → New w1 w → After ops F news T a0 a w → G a w) : ∀ a w, New w1 w → After ops F news T a0 a w → G a w := fun a w hn ha => h a w (ha.size.trans hs) (ha.defers.trans hd) (hN.transNew hn) hn ha
abbrev vF : Value → World → Prop := ve (.bool false)
abbrev vT : Value → World → Prop := ve (.bool true)
abbrev vU : Value → World → Prop := ve undef
abbrev EP (x : Value) : Value → World → Prop := fun v W => ∃ (b : Nat) (o : Nat), v = .pointer (some ⟨b, o, none⟩) ∧ SElem W b o x
abbrev RP (k : IntKind) (xs : List Nat) : Value → World → Prop := fun v W => ∃ (A : Option Addr) (c : Nat), v = sv A xs c ∧ SRow W k A xs c
abbrev OP (b : Nat) (e : TypeId) (k : IntKind) (xs : List Nat) : Value → World → Prop := fun v W => ∃ (A : Option Addr) (c : Nat), v = sv A xs c ∧ SOwn W b e k A xs c
theorem pz {a a' : Act} {d : Option Tmp} {v : Value} {N : Nat} (h : a' = a.put d v) (hs : a.tmps.size = N) : a'.tmps.size = N := by rw [h, put_size]; exact hs
theorem pd {a a' : Act} {d : Option Tmp} {v : Value} (h : a' = a.put d v) (hs : a.defers = []) : a'.defers = [] := by rw [h, put_defers]; exact hs
def opAt (ops : Array Oper) (i : Nat) : Oper := (ops.toList[i]?).getD { dst := none, op := .move (.tmp 0), type := 0, pos := "", after := #[], guard := none }
section
variable {P : Program} {ops : Array Oper} {Q : Exit → Act → World → Prop} {T : Nat → Value → World → Prop} {F : Array Bool} {a0 : Act} {w0 : World} {news E : List Nat} {r : List Bool} {i : Nat}
theorem AllAt.t (h : ∀ a w, New w0 w → Known ops F T a0 i a w → ∃ v, (execOp a.eval (opAt ops i)).run P w = .ok (.value v) w ∧ T i v w) (t : AllAt (fun i => E.contains i = false → StepG P ops Q F T a0 w0 news i) r (i + 1))
    (hi : ops.toList[i]? = some (opAt ops i) := by rfl) (hg : (opAt ops i).guard = none := by rfl) (hn : news.contains i = false := by rfl) : AllAt (fun i => E.contains i = false → StepG P ops Q F T a0 w0 news i) (true :: r) i := .o1 (tk hi hg h) t hn
theorem AllAt.m {x : Operand} {v : Value} (h : ∀ {a w}, Known ops F T a0 i a w → a.eval x = v) (t : AllAt (fun i => E.contains i = false → StepG P ops Q F T a0 w0 news i) r (i + 1))
    (hi : ops.toList[i]? = some (opAt ops i) := by rfl) (hg : (opAt ops i).guard = none := by rfl) (ho : (opAt ops i).op = .move x := by rfl) (hT : ∀ w, T i v w := by exact fun _ => rfl) (hn : news.contains i = false := by rfl) : AllAt (fun i => E.contains i = false → StepG P ops Q F T a0 w0 news i) (true :: r) i :=
  .o1 (tk hi hg fun a w h1 h2 => ⟨v, v_move ho (h h2), hT w⟩) t hn
theorem AllAt.a {x : Operand} {v : Value} (h : ∀ {a w}, Known ops F T a0 i a w → a.eval x = v) (t : AllAt (fun i => E.contains i = false → StepG P ops Q F T a0 w0 news i) r (i + 1))
    (hi : ops.toList[i]? = some (opAt ops i) := by rfl) (hg : (opAt ops i).guard = none := by rfl) (ho : (opAt ops i).op = .assign x := by rfl) (hT : ∀ w, T i v w := by exact fun _ => rfl) (hn : news.contains i = false := by rfl) : AllAt (fun i => E.contains i = false → StepG P ops Q F T a0 w0 news i) (true :: r) i :=
  .o1 (tk hi hg fun a w h1 h2 => ⟨v, v_assign ho (h h2), hT w⟩) t hn
theorem AllAt.f {x : Operand} {p : Addr} (h : ∀ {a w}, Known ops F T a0 i a w → a.eval x = .pointer (some p)) (t : AllAt (fun i => E.contains i = false → StepG P ops Q F T a0 w0 news i) r (i + 1))
    (hi : ops.toList[i]? = some (opAt ops i) := by rfl) (hg : (opAt ops i).guard = none := by rfl) (ho : ∃ s f p', (opAt ops i).op = .fieldAddr s x f ∧ (∀ w, (Instr.fieldAt s (.pointer (some p)) f).run P w = .ok (.pointer (some p')) w) ∧ ∀ w, T i (.pointer (some p')) w := by exact ⟨_, _, _, rfl, fun _ => rfl, fun _ => rfl⟩) (hn : news.contains i = false := by rfl) : AllAt (fun i => E.contains i = false → StepG P ops Q F T a0 w0 news i) (true :: r) i := by
  obtain ⟨s, f, p', h1, h2, h3⟩ := ho
  exact .o1 (tk hi hg fun a w k1 k2 => ⟨_, v_field h1 (h k2) h2, h3 w⟩) t hn
theorem AllAt.g {d : Nat} {want : Bool} (hv : ∀ {a w}, Known ops F T a0 i a w → a.eval (.tmp d) = .bool want) (h : ∀ a w, New w0 w → Known ops F T a0 i a w → ∃ v, (execOp a.eval (opAt ops i)).run P w = .ok (.value v) w ∧ T i v w) (t : AllAt (fun i => E.contains i = false → StepG P ops Q F T a0 w0 news i) r (i + 1))
    (hi : ops.toList[i]? = some (opAt ops i) := by rfl) (hg : ∃ j, (opAt ops i).guard = some (j, want) ∧ (ops[j]?).bind (·.dst) = some d := by exact ⟨_, rfl, rfl⟩) (hn : news.contains i = false := by rfl) : AllAt (fun i => E.contains i = false → StepG P ops Q F T a0 w0 news i) (true :: r) i := by
  obtain ⟨j, h1, h2⟩ := hg
  exact .o1 (tg hi h1 h2 (fun _ _ k => hv k) h) t hn
theorem AllAt.s {d : Nat} {b : Bool} (hv : ∀ {a w}, Known ops F T a0 i a w → a.eval (.tmp d) = .bool b) (t : AllAt (fun i => E.contains i = false → StepG P ops Q F T a0 w0 news i) r (i + 1))
    (hi : ops.toList[i]? = some (opAt ops i) := by rfl) (hg : ∃ j, (opAt ops i).guard = some (j, !b) ∧ (ops[j]?).bind (·.dst) = some d := by exact ⟨_, rfl, rfl⟩) (hT : ∀ w, T i undef w := by exact fun _ => rfl) (hn : news.contains i = false := by rfl) : AllAt (fun i => E.contains i = false → StepG P ops Q F T a0 w0 news i) (true :: r) i := by
  obtain ⟨j, h1, h2⟩ := hg
  exact .o1 (sk hi h1 h2 (fun a w k1 k2 => by rw [Bool.not_not]; exact hv k2) hT) t hn
theorem AllAt.gm {d : Nat} {want : Bool} {x : Operand} {v : Value} (hv : ∀ {a w}, Known ops F T a0 i a w → a.eval (.tmp d) = .bool want) (h : ∀ {a w}, Known ops F T a0 i a w → a.eval x = v) (t : AllAt (fun i => E.contains i = false → StepG P ops Q F T a0 w0 news i) r (i + 1))
    (hi : ops.toList[i]? = some (opAt ops i) := by rfl) (hg : ∃ j, (opAt ops i).guard = some (j, want) ∧ (ops[j]?).bind (·.dst) = some d := by exact ⟨_, rfl, rfl⟩) (ho : (opAt ops i).op = .move x := by rfl) (hT : ∀ w, T i v w := by exact fun _ => rfl) (hn : news.contains i = false := by rfl) : AllAt (fun i => E.contains i = false → StepG P ops Q F T a0 w0 news i) (true :: r) i :=
  .g hv (fun _ w _ k => ⟨v, v_move ho (h k), hT w⟩) t hi hg hn
theorem AllAt.gf {d : Nat} {want : Bool} {x : Operand} {p : Addr} (hv : ∀ {a w}, Known ops F T a0 i a w → a.eval (.tmp d) = .bool want) (h : ∀ {a w}, Known ops F T a0 i a w → a.eval x = .pointer (some p)) (t : AllAt (fun i => E.contains i = false → StepG P ops Q F T a0 w0 news i) r (i + 1))
    (hi : ops.toList[i]? = some (opAt ops i) := by rfl) (hg : ∃ j, (opAt ops i).guard = some (j, want) ∧ (ops[j]?).bind (·.dst) = some d := by exact ⟨_, rfl, rfl⟩) (ho : ∃ s f p', (opAt ops i).op = .fieldAddr s x f ∧ (∀ w, (Instr.fieldAt s (.pointer (some p)) f).run P w = .ok (.pointer (some p')) w) ∧ ∀ w, T i (.pointer (some p')) w := by exact ⟨_, _, _, rfl, fun _ => rfl, fun _ => rfl⟩) (hn : news.contains i = false := by rfl) : AllAt (fun i => E.contains i = false → StepG P ops Q F T a0 w0 news i) (true :: r) i := by
  obtain ⟨s, f, p', h1, h2, h3⟩ := ho
  exact .g hv (fun _ w _ k => ⟨_, v_field h1 (h k) h2, h3 w⟩) t hi hg hn
end
end Go.Proofs.YtjakfchffigkkaaGreatDoor
