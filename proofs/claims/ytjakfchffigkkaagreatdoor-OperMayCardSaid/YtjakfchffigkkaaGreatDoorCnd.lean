/- Operations under a guard that is not known: what they yield, if the guard says so; conditions in chains. -/
import Derived.Test.YtjakfchffigkkaaGreatDoorRow
import Derived.Test.YtjakfchffigkkaaGreatDoorRegS
import Derived.Test.YtjakfchffigkkaaGreatDoorCvSeat
namespace Go.Proofs.YtjakfchffigkkaaGreatDoor
open Go.RowKit
set_option linter.unusedVariables false
abbrev gq (G : Bool) (X : Value) : Value := bif G then X else undef
theorem cT {G : Bool} {X v : Value} (h : G = true) (hv : v = gq G X) : v = X := by rw [hv, h]; rfl
theorem al {a b : Bool} (h : (a && b) = true) : a = true := by cases a; exact h; rfl
theorem ar {a b : Bool} (h : (a && b) = true) : b = true := by cases a; cases h; exact h
theorem ol {a b : Bool} (h : (a || b) = false) : a = false := by cases a; rfl; cases h
theorem or_ {a b : Bool} (h : (a || b) = false) : b = false := by cases a; exact h; cases h
theorem aj {a b : Bool} (h : a = true) (h2 : b = true) : (a && b) = true := by rw [h, h2]; rfl
theorem nF {a : Bool} (h : (!a) = true) : a = false := by cases a; rfl; cases h
theorem nT {a : Bool} (h : (!a) = false) : a = true := by cases a; cases h; rfl
theorem nt {a : Bool} (h : a = false) : (!a) = true := by rw [h]; rfl
theorem nf {a : Bool} (h : a = true) : (!a) = false := by rw [h]; rfl
theorem ax1 {a b : Bool} (h : (a && b) = false) (h2 : a = true) : b = false := by rw [h2] at h; exact h
theorem ax2 {a b : Bool} (h : (a && b) = false) (h2 : b = true) : a = false := by rw [h2, Bool.and_true] at h; exact h
theorem ox1 {a b : Bool} (h : (a || b) = true) (h2 : a = false) : b = true := by rw [h2] at h; exact h
theorem ox2 {a b : Bool} (h : (a || b) = true) (h2 : b = false) : a = true := by rw [h2, Bool.or_false] at h; exact h
abbrev GI (want G : Bool) (v : Value) : Prop := (G = true → v = .bool want) ∧ (G = false → v = .bool (!want) ∨ v = undef)
theorem g0 {g : Bool} {v : Value} (h : v = .bool g) : GI true g v := ⟨fun e => by rw [h, e], fun e => .inl (by rw [h, e]; rfl)⟩
theorem g0' {g : Bool} {v : Value} (h : v = .bool g) : GI false (!g) v := ⟨fun e => by rw [h, nF e], fun e => .inl (by rw [h, nT e]; rfl)⟩
theorem g1 {A g : Bool} {v : Value} (h : v = gq A (.bool g)) : GI true (A && g) v := ⟨fun e => by rw [h, al e, ar e]; rfl, fun e => by
  rw [h]
  cases A
  · exact .inr rfl
  · cases g
    · exact .inl rfl
    · cases e⟩
theorem g1' {A g : Bool} {v : Value} (h : v = gq A (.bool g)) : GI false (A && !g) v := ⟨fun e => by rw [h, al e, nF (ar e)]; rfl, fun e => by
  rw [h]
  cases A
  · exact .inr rfl
  · cases g
    · cases e
    · exact .inl rfl⟩
theorem gL {A want : Bool} {v : Value} (h : v = gq A (.bool want)) : GI want A v := ⟨fun e => by rw [h, e]; rfl, fun e => .inr (by rw [h, e]; rfl)⟩
theorem gN {A want : Bool} {v : Value} (h : v = gq A (.bool (!want))) : v = .bool (!want) ∨ v = undef := by
  rw [h]
  cases A
  · exact .inr rfl
  · exact .inl rfl
section
variable {P : Program} {ops : Array Oper} {Q : Exit → Act → World → Prop} {T : Nat → Value → World → Prop} {F : Array Bool} {a0 : Act} {w0 : World} {i : Nat}
theorem sc {o : Oper} {j d : Nat} {want G : Bool} {X : Value} (hi : ops.toList[i]? = some o) (hg : o.guard = some (j, want)) (hj : (ops[j]?).bind (·.dst) = some d) (hv : ∀ a w, Known ops F T a0 i a w → GI want G (a.eval (.tmp d)))
    (h : G = true → ∀ a w, New w0 w → Known ops F T a0 i a w → (execOp a.eval o).run P w = .ok (.value X) w) (hT : ∀ w, T i (gq G X) w := by exact fun _ => rfl) : StepOk P ops Q F T a0 w0 i := by
  cases hG : G with
  | false => exact g_skip hi hg hj (fun a w _ hk => (hv a w hk).2 hG) (fun w => by have := hT w; rw [hG] at this; exact this)
  | true => exact step_takeG hi (onG hg hj fun a w hk => (hv a w hk).1 hG) fun a w hn hk => ⟨X, h hG a w hn hk, by have := hT w; rw [hG] at this; exact this⟩
theorem scC {o : Oper} {f : FuncId} {xs : Array Operand} {ats : Array TypeId} {j d : Nat} {want G : Bool} {V : Value} (hi : ops.toList[i]? = some o) (hg : o.guard = some (j, want)) (hj : (ops[j]?).bind (·.dst) = some d) (hv : ∀ a w, Known ops F T a0 i a w → GI want G (a.eval (.tmp d)))
    (ho : o.op = .call { callee := .value (.func f), args := xs, argTypes := ats })
    (h : G = true → ∀ a w, New w0 w → Known ops F T a0 i a w → ∃ args : Array Value, xs.toList.map a.eval = args.toList ∧ (∀ w, (callFunc f args).run P w = .ok (.enter f args) w) ∧ Calls P f args w (fun e w' => e = .returned V ∧ New w w')) (hT : ∀ w, T i (gq G V) w := by exact fun _ => rfl) : StepOk P ops Q F T a0 w0 i := by
  cases hG : G with
  | false => exact g_skip hi hg hj (fun a w _ hk => (hv a w hk).2 hG) (fun w => by have := hT w; rw [hG] at this; exact this)
  | true =>
    refine step_callG hi (onG hg hj fun a w hk => (hv a w hk).1 hG) ho fun a w hn hk => ?_
    obtain ⟨args, h1, h2, h3⟩ := h hG a w hn hk
    exact ⟨args, _, h1, h2, h3, fun e w' ⟨he, hn'⟩ => ⟨V, he, hn', by have := hT w'; rw [hG] at this; exact this⟩⟩
theorem sN {o : Oper} {j d : Nat} {want : Bool} (hi : ops.toList[i]? = some o) (hg : o.guard = some (j, want)) (hj : (ops[j]?).bind (·.dst) = some d) (hv : ∀ a w, Known ops F T a0 i a w → a.eval (.tmp d) = .bool (!want) ∨ a.eval (.tmp d) = undef) (hT : ∀ w, T i undef w) : StepOk P ops Q F T a0 w0 i := g_skip hi hg hj (fun a w _ hk => hv a w hk) hT
end
section
variable {P : Program} {o : Oper} {a : Act} {w : World}
theorem v_and {c x y : Operand} {g r : Bool} (ho : o.op = .pick c x y) (hc : a.eval c = .bool g) (hx : g = true → a.eval x = .bool r) (hy : a.eval y = .bool false) : (execOp a.eval o).run P w = .ok (.value (.bool (g && r))) w := v_pick ho hc (by
  cases g with
  | false => rw [if_neg (by simp), hy]; rfl
  | true => rw [if_pos rfl, hx rfl]; rfl)
theorem v_or {c x y : Operand} {g r : Bool} (ho : o.op = .pick c x y) (hc : a.eval c = .bool g) (hx : a.eval x = .bool true) (hy : g = false → a.eval y = .bool r) : (execOp a.eval o).run P w = .ok (.value (.bool (g || r))) w := v_pick ho hc (by
  cases g with
  | false => rw [if_neg (by simp), hy rfl]; rfl
  | true => rw [if_pos rfl, hx]; rfl)
end
theorem res_cct {P : Program} {fn : Func} {t u s : Tmp} {ty ty2 : TypeId} {p p2 : Addr} {a : Act} {v x y : Value} {w : World} (hf : fn.results = #[.cell t ty, .cell u ty2, .tmp s]) (h : a.eval (.tmp t) = .pointer (some p)) (h1 : a.eval (.tmp u) = .pointer (some p2)) (h2 : a.eval (.tmp s) = y) (hl : (loadVar ty p).run P w = .ok v w) (hl2 : (loadVar ty2 p2).run P w = .ok x w) : (results fn a.tmps).run P w = .ok (.tuple #[v, x, y]) w := by
  have h' : a.tmps.getD t undef = .pointer (some p) := h
  have h1' : a.tmps.getD u undef = .pointer (some p2) := h1
  have h2' : a.tmps.getD s undef = y := h2
  simp only [Array.getD_eq_getD_getElem?] at h' h1' h2'
  simp [results, hf, h', h1', h2', asAddr, hl, hl2]
theorem r_neqB (x y : Bool) : ∀ w, (binOp .neq 4 (.bool x) (.bool y)).run Tryz.prog w = .ok (.bool (x != y)) w := by
  intro w; cases x <;> cases y <;> kernel_rfl
theorem r_eqlB (x y : Bool) : ∀ w, (binOp .eql 4 (.bool x) (.bool y)).run Tryz.prog w = .ok (.bool (x == y)) w := by
  intro w; cases x <;> cases y <;> kernel_rfl
end Go.Proofs.YtjakfchffigkkaaGreatDoor
