/- A region that draws its order: reads in one fixed order first, then the operations that act, one forced behind the other; what the reads lean on (S) must stand behind each acting operation, but for one (e) that waits for every read. -/
import Derived.WalkKit
import Derived.OrdersHeld
import Derived.KernelRfl
namespace Go.Proofs.Ytcjmapljcnmfaaa
open Go.RowKit
section
variable {P : Program} {md : Region.Mode} {ops : Array Oper} {Q : Exit → Act → World → Prop} {S : World → Prop} {e : Nat}

def wpJ (P : Program) (md : Region.Mode) (ops : Array Oper) (Q : Exit → Act → World → Prop) (S : World → Prop) (e : Nat) : Nat → Array Bool → Act → World → Prop
  | 0, l, a, w => Region.ready md ops l = [] ∧ Q .normal a w
  | n + 1, l, a, w => (Region.ready md ops l = [] → Q .normal a w) ∧
      ∀ i ∈ Region.ready md ops l, wpOp P ops Q i (fun a' w' => (i = e ∨ S w') ∧ wpJ P md ops Q S e n (l.setIfInBounds i true) a' w') a w

theorem wpAny_of_J : ∀ (n : Nat) (l : Array Bool) (a : Act) (w : World), wpJ P md ops Q S e n l a w → wpAny P md ops Q n l a w
  | 0, _, _, _, h => h
  | n + 1, _, _, _, h => ⟨h.1, fun i hi => wpOp_mono (fun a' w' h' => wpAny_of_J n _ a' w' h'.2) (h.2 i hi)⟩

theorem wpJ_first {i : Nat} {oi : Oper} {v : Value} (hi : ops[i]? = some oi) (hsel : ∀ (j : Nat) (o : Oper) cs b, ops[j]? = some o → o.op ≠ .select cs b)
    (hQ : ∀ c a w, Q (.panic c) (a.put oi.dst v) w → Q (.panic c) a w)
    (hlast : ∀ oe, ops[e]? = some oe → ∃ ed ∈ oe.after, Region.binds md ed = true ∧ ed.on = i) :
    ∀ (n : Nat) (l : Array Bool) (a : Act) (w : World),
      (∀ j oj, ops[j]? = some oj → j ≠ i → l.getD j true = false → (∀ ed ∈ oj.after, Region.binds md ed = true → ed.on ≠ i) → oi.apart ops oj = true) →
      i ∈ Region.ready md ops l → YieldsIf P ops S oi v a → S w →
      wpJ P md ops Q S e n (l.setIfInBounds i true) (a.put oi.dst v) w → wpJ P md ops Q S e (n + 1) l a w := by
  intro n
  induction n with
  | zero =>
    intro l a w _ hr hy hS H
    refine ⟨fun h => (by rw [h] at hr; cases hr), fun j hj => ?_⟩
    rcases Nat.decEq j i with hji | rfl
    · have := ready_mono hj hji
      rw [H.1] at this
      cases this
    · exact hy.wpOp hi hS ⟨.inr hS, H⟩
  | succ n ih =>
    intro l a w hfree hr hy hS H
    refine ⟨fun h => (by rw [h] at hr; cases hr), fun j hj => ?_⟩
    rcases Nat.decEq j i with hji | rfl
    · have h1 := H.2 j (ready_mono hj hji)
      obtain ⟨hjun, oj, hoj, hall⟩ := mem_ready.1 hj
      have hnot : ∀ ed ∈ oj.after, Region.binds md ed = true → ed.on ≠ i := fun ed he hb heq => by
        have g1 := hall ed he hb
        have g0 := (mem_ready.1 hr).1
        rw [heq] at g1
        rcases Nat.lt_or_ge i l.size with hs | hs
        · simp [hs] at g0 g1
          rw [g0] at g1
          cases g1
        · simp [Array.getElem?_eq_none hs] at g1
      have hje : j ≠ e := by
        rintro rfl
        obtain ⟨ed, hed, hb, hon⟩ := hlast oj hoj
        exact hnot ed hed hb hon
      have h2 := wpOp_putIf hoj (hfree j oj hoj hji hjun hnot) (fun cs b => hsel i oi cs b hi) (fun cs b => hsel j oj cs b hoj) hQ hy h1
      have hr' : i ∈ Region.ready md ops (l.setIfInBounds j true) := ready_mono hr (Ne.symm hji)
      have hfree' : ∀ k ok, ops[k]? = some ok → k ≠ i → (l.setIfInBounds j true).getD k true = false →
          (∀ ed ∈ ok.after, Region.binds md ed = true → ed.on ≠ i) → oi.apart ops ok = true := fun k ok hk hki hun hno => by
        refine hfree k ok hk hki ?_ hno
        by_cases hjk : j = k
        · subst hjk; exact hjun
        · rw [getD_set_ne true hjk] at hun; exact hun
      refine wpOp_mono (fun a' w' h3 => ?_) h2
      obtain ⟨hy', hS', h4⟩ := h3
      have hSw := hS'.resolve_left hje
      refine ⟨.inr hSw, ih (l.setIfInBounds j true) a' w' hfree' hr' hy' hSw ?_⟩
      rw [Array.setIfInBounds_comm _ _ hji]
      exact h4
    · exact hy.wpOp hi hS ⟨.inr hS, H⟩

def waitsFor (md : Region.Mode) (ops : Array Oper) (e i : Nat) : Bool :=
  match ops[e]? with
  | none => true
  | some oe => oe.after.any fun ed => Region.binds md ed && ed.on == i
def chkR (md : Region.Mode) (ops : Array Oper) (e : Nat) (E : List Nat) : List Nat → Array Bool → Bool
  | [], l => chkE E l
  | i :: r, l => Region.free md ops l i && (Region.ready md ops l).contains i && waitsFor md ops e i && chkR md ops e E r (l.setIfInBounds i true)
where chkE : List Nat → Array Bool → Bool
  | [], l => Region.ready md ops l == []
  | j :: r, l => Region.ready md ops l == [j] && chkE r (l.setIfInBounds j true)
def dfCheck (md : Region.Mode) (ops : Array Oper) (e : Nat) (R E : List Nat) : Bool :=
  Region.noSelect ops && (R.length + E.length == ops.size) && chkR md ops e E R (Array.replicate ops.size false)

def readsTo (P : Program) (ops : Array Oper) (S : World → Prop) : List Nat → Act → Act → Prop
  | [], a, b => a = b
  | i :: r, a, b => ∃ o v, ops[i]? = some o ∧ YieldsIf P ops S o v a ∧ readsTo P ops S r (a.put o.dst v) b
theorem readsTo_nil (a : Act) : readsTo P ops S [] a a := rfl
theorem readsTo_cons {i : Nat} {r : List Nat} {a b : Act} {o : Oper} {v : Value} (hi : ops[i]? = some o) (hg : o.guard = none)
    (hy : ∀ w, S w → (execOp a.eval o).run P w = .ok (.value v) w) (h : readsTo P ops S r (a.put o.dst v) b) : readsTo P ops S (i :: r) a b :=
  ⟨o, v, hi, .inl ⟨by simp [Region.wanted, hg], hy⟩, h⟩
theorem readsTo_step {i : Nat} {r : List Nat} {a a' b : Act} {o : Oper} {v : Value} (hi : ops.toList[i]? = some o) (hg : o.guard = none)
    (hy : ∀ w, S w → (execOp a.eval o).run P w = .ok (.value v) w) (ha : a.put o.dst v = a') (h : readsTo P ops S r a' b) : readsTo P ops S (i :: r) a b :=
  readsTo_cons (by rw [← Array.getElem?_toList]; exact hi) hg hy (by rw [ha]; exact h)
def actsTo (P : Program) (ops : Array Oper) (S : World → Prop) (Q : Exit → Act → World → Prop) (e : Nat) : List Nat → Act → World → Prop
  | [], a, w => Q .normal a w
  | j :: r, a, w => wpOp P ops Q j (fun a' w' => (j = e ∨ S w') ∧ actsTo P ops S Q e r a' w') a w

theorem readsTo_norm {a b : Act} (h : a = b) : readsTo P ops S [] a b := h
theorem actsTo_cons {j : Nat} {r : List Nat} {a : Act} {w : World} {o : Oper} (hi0 : ops.toList[j]? = some o) (hg : o.guard = none)
    (h : ∀ K : Act → World → Prop, (∀ a' w', (j = e ∨ S w') → actsTo P ops S Q e r a' w' → K a' w') → o.wp P a w K Q) : actsTo P ops S Q e (j :: r) a w := by
  have hi : ops[j]? = some o := by rw [← Array.getElem?_toList]; exact hi0
  unfold actsTo wpOp
  simp only [hi, Region.wanted, hg, if_true]
  exact .inl (h _ fun _ _ h1 h2 => ⟨h1, h2⟩)
theorem actsTo_nil {a : Act} {w : World} (h : Q .normal a w) : actsTo P ops S Q e [] a w := h

theorem wpJ_acts : ∀ (E : List Nat) (l : Array Bool) (a : Act) (w : World), chkR.chkE md ops E l = true → actsTo P ops S Q e E a w → wpJ P md ops Q S e E.length l a w
  | [], l, a, w, hc, h => ⟨by simpa [chkR.chkE] using hc, h⟩
  | j :: r, l, a, w, hc, h => by
    simp only [chkR.chkE, Bool.and_eq_true, beq_iff_eq] at hc
    refine ⟨fun h0 => (by rw [hc.1] at h0; cases h0), fun i hi => ?_⟩
    rw [hc.1] at hi
    obtain rfl : i = j := by simpa using hi
    exact wpOp_mono (fun a' w' h' => ⟨h'.1, wpJ_acts r _ a' w' hc.2 h'.2⟩) h

theorem wpJ_reads (hs : Region.noSelect ops = true) (hQ : ∀ c a d v w, Q (.panic c) (a.put d v) w → Q (.panic c) a w) (E : List Nat) :
    ∀ (R : List Nat) (l : Array Bool) (a b : Act) (w : World), chkR md ops e E R l = true → S w → readsTo P ops S R a b → actsTo P ops S Q e E b w → wpJ P md ops Q S e (R.length + E.length) l a w
  | [], l, a, b, w, hc, _, hr, h => by
    obtain rfl : a = b := hr
    rw [List.length_nil, Nat.zero_add]
    exact wpJ_acts E l a w hc h
  | i :: r, l, a, b, w, hc, hS, hr, h => by
    obtain ⟨o, v, hi, hy, hr'⟩ := hr
    simp only [chkR, Bool.and_eq_true] at hc
    obtain ⟨⟨⟨hf, hrd⟩, hw⟩, hc'⟩ := hc
    rw [List.length_cons, Nat.add_right_comm]
    refine wpJ_first hi (Region.noSelect_spec hs) (fun c a w => hQ c a _ _ w) ?_ _ l a w (Region.free_spec hi hf) (by simpa using hrd) hy hS (wpJ_reads hs hQ E r _ _ b w hc' hS hr' h)
    intro oe hoe
    simp only [waitsFor, hoe] at hw
    obtain ⟨ed, he, hb⟩ := Array.any_eq_true'.1 hw
    simp only [Bool.and_eq_true, beq_iff_eq] at hb
    exact ⟨ed, he, hb⟩

theorem wp_region_df {id : Nat} {a b : Act} {w : World} (S : World → Prop) (e : Nat) (R E : List Nat) (hm : P.follows .mixedOrders = true) (hc : dfCheck .any ops e R E = true)
    (hQ : ∀ c a d v w, Q (.panic c) (a.put d v) w → Q (.panic c) a w) (hS : S w.drew) (hr : readsTo P ops S R a b) (h : actsTo P ops S Q e E b w.drew) : (Code.region id ops true).wp P Q a w := by
  simp only [dfCheck, Bool.and_eq_true, beq_iff_eq] at hc
  obtain ⟨⟨hs, hl⟩, hc'⟩ := hc
  refine wp_region_any hm (wpAny_of_J (S := S) (e := e) _ _ _ _ ?_)
  rw [← hl]
  exact wpJ_reads hs hQ E R _ a b _ (by rw [hl]; exact hc') hS hr h

section
variable {a : Act} {o : Oper}
theorem y_move {x : Operand} {v : Value} (ho : o.op = .move x) (hx : a.eval x = v) : ∀ w, S w → (execOp a.eval o).run P w = .ok (.value v) w := by
  intro w _; simp [execOp, ho, hx]
theorem y_assign {x : Operand} {v : Value} (ho : o.op = .assign x) (hx : a.eval x = v) : ∀ w, S w → (execOp a.eval o).run P w = .ok (.value v) w := by
  intro w _; simp [execOp, ho, hx]
theorem y_nil {x : Operand} {p : Addr} (ho : o.op = .nilCheck x) (hx : a.eval x = .pointer (some p)) : ∀ w, S w → (execOp a.eval o).run P w = .ok (.value (.pointer (some p))) w := by
  intro w _; simp [execOp, ho, hx]
theorem y_field {s : TypeId} {x : Operand} {f : Nat} {p p' : Addr} (ho : o.op = .fieldAddr s x f) (hx : a.eval x = .pointer (some p))
    (hf : ∀ w, (Instr.fieldAt s (.pointer (some p)) f).run P w = .ok (.pointer (some p')) w) : ∀ w, S w → (execOp a.eval o).run P w = .ok (.value (.pointer (some p'))) w := by
  intro w _; simp [execOp, ho, hx, hf]
theorem y_load {t : TypeId} {x : Operand} {p : Addr} {v : Value} (ho : o.op = .load t x) (hx : a.eval x = .pointer (some p)) (ht : ∀ w, (isAgg t).run P w = .ok false w)
    (hc : ∀ w, S w → w.cell? p = some v) : ∀ w, S w → (execOp a.eval o).run P w = .ok (.value v) w := by
  intro w hS
  simp [execOp, ho, hx, Instr.loadAt, Instr.sureAddr, loadVar, ht, load, Sem.run, hc w hS]
theorem y_index {t e : TypeId} {x ix : Operand} {b off n c k sz : Nat} {kd : IntKind} {p' : Addr} (ho : o.op = .indexAddr t x ix) (hx : a.eval x = .slice (some ⟨b, off, none⟩) n c) (hi : a.eval ix = .int kd (k : Int))
    (hu : P.underlying t = some (.slice e)) (hs : ∀ w, (sizeOf e).run P w = .ok sz w) (hk : k < n) (hp : (⟨b, off + k * sz, none⟩ : Addr) = p') : ∀ w, S w → (execOp a.eval o).run P w = .ok (.value (.pointer (some p'))) w := by
  intro w _
  have hadd : (⟨b, off, none⟩ : Addr).add (k * sz) = p' := by rw [← hp]; unfold Addr.add; split <;> simp_all
  have h1 : (0 : Int) ≤ (k : Int) ∧ (k : Int) < (n : Int) := by omega
  simp [execOp, ho, hx, hi, Instr.indexAt, asIntOf, run_underlying hu, hk, hs, hadd]
theorem y_slice {t e : TypeId} {x : Operand} {lo hi mx : Option Operand} {v v1 : Value} (ho : o.op = .slice t x lo hi mx) (hu : P.underlying t = some (.slice e)) (hx : a.eval x = v)
    (hr : ∀ w, (Instr.slice t v (lo.map a.eval) (hi.map a.eval) (mx.map a.eval)).run P w = .ok v1 w) : ∀ w, S w → (execOp a.eval o).run P w = .ok (.value v1) w := by
  intro w _
  simp [execOp, ho, hx, Instr.sliceAt, run_underlying hu, hr]
theorem y_max {x y : Operand} {ats : Array TypeId} {k k' : IntKind} {m n : Int} {v : Value} (ho : o.op = .call { callee := .builtin .max, args := #[x, y], argTypes := ats }) (hx : a.eval x = .int k m) (hy : a.eval y = .int k' n)
    (hv : .int k (if n > m then n else m) = v) : ∀ w, S w → (execOp a.eval o).run P w = .ok (.value v) w := by
  intro w _; subst hv; simp [execOp, ho, resolve, invoke, builtin, hx, hy, Builtin.max_, Builtin.max2]
theorem y_min {x y : Operand} {ats : Array TypeId} {k k' : IntKind} {m n : Int} {v : Value} (ho : o.op = .call { callee := .builtin .min, args := #[x, y], argTypes := ats }) (hx : a.eval x = .int k m) (hy : a.eval y = .int k' n)
    (hv : .int k (if n < m then n else m) = v) : ∀ w, S w → (execOp a.eval o).run P w = .ok (.value v) w := by
  intro w _; subst hv; simp [execOp, ho, resolve, invoke, builtin, hx, hy, Builtin.min_, Builtin.min2]
theorem y_len {x : Operand} {ats : Array TypeId} {t : TypeId} {A : Option Addr} {n c : Nat} (ho : o.op = .call { callee := .builtin .len, args := #[x], argTypes := ats }) (hx : a.eval x = .slice A n c)
    (hl : ∀ w, (Builtin.len_ ats t #[.slice A n c]).run P w = .ok (.int .i64 (n : Int)) w) (ht : o.type = t) : ∀ w, S w → (execOp a.eval o).run P w = .ok (.value (.int .i64 (n : Int))) w := by
  intro w _; simp [execOp, ho, resolve, invoke, builtin, hx, ht, hl]
theorem y_bin {op : BinOp} {t t' : TypeId} {x y : Operand} {k : IntKind} {m n : Int} {v : Value} (ho : o.op = .binOp op t x y t') (hx : a.eval x = .int k m) (hy : a.eval y = .int k n)
    (hr : ∀ w, (binOp op t (.int k m) (.int k n)).run P w = .ok v w) : ∀ w, S w → (execOp a.eval o).run P w = .ok (.value v) w := by
  intro w _; simp [execOp, ho, hx, hy, eqGuard, hr]
theorem y_run {v : Value} (h : ∀ w, (execOp a.eval o).run P w = .ok (.value v) w) : ∀ w, S w → (execOp a.eval o).run P w = .ok (.value v) w := fun w _ => h w

theorem r_add {t : TypeId} {x y r : Int} (h : x + y = r) (hr : -9223372036854775808 ≤ r ∧ r ≤ 9223372036854775807) : ∀ w, (binOp .add t (.int .i64 x) (.int .i64 y)).run P w = .ok (.int .i64 r) w := by
  intro w; simp [binOp, Op.intArith, h, IntWalk.i64_in r hr]
theorem r_sub {t : TypeId} {x y r : Int} (h : x - y = r) (hr : -9223372036854775808 ≤ r ∧ r ≤ 9223372036854775807) : ∀ w, (binOp .sub t (.int .i64 x) (.int .i64 y)).run P w = .ok (.int .i64 r) w := by
  intro w; simp [binOp, Op.intArith, h, IntWalk.i64_in r hr]

theorem a_call {f : FuncId} {xs : Array Operand} {ats : Array TypeId} {args : Array Value} {K : Act → World → Prop} {w : World} {R : Ending → World → Prop} (ho : o.op = .call { callee := .value (.func f), args := xs, argTypes := ats })
    (hx0 : xs.toList.map a.eval = args.toList) (hcf : ∀ w, (callFunc f args).run P w = .ok (.enter f args) w) (hc : Calls P f args w R) (h : ∀ e w', R e w' → ∃ v, e = .returned v ∧ K (a.put o.dst v) w') : o.wp P a w K Q := by
  have hx : xs.map a.eval = args := by apply Array.ext'; rw [Array.toList_map]; exact hx0
  have hrun : (execOp a.eval o).run P w = .ok (.enter f args) w := by
    simp [execOp, ho, resolve, invoke, hx, Act.eval, Deferred.ofValue, hcf]
  unfold Oper.wp
  rw [hrun]
  refine hc.mono fun e w' he => ?_
  obtain ⟨v, rfl, hk⟩ := h e w' he
  exact hk
theorem a_read {K : Act → World → Prop} {w : World} {v : Value} (hy : ∀ w', w' = w → (execOp a.eval o).run P w' = .ok (.value v) w') (h : K (a.put o.dst v) w) : o.wp P a w K Q := by
  unfold Oper.wp
  rw [hy w rfl]
  exact h
theorem a_run {K : Act → World → Prop} {w w' : World} {v : Value} (hy : (execOp a.eval o).run P w = .ok (.value v) w') (h : K (a.put o.dst v) w') : o.wp P a w K Q := by
  unfold Oper.wp
  rw [hy]
  exact h
theorem a_store {t : TypeId} {x y : Operand} {p : Addr} {u v : Value} {K : Act → World → Prop} {w : World} (ho : o.op = .store t x y) (hx : a.eval x = .pointer (some p)) (hy : a.eval y = v) (hs : ∀ w, (sizeOf t).run P w = .ok 1 w)
    (hv : v.cells = #[v]) (h1 : v.oneCell' = true) (hc : w.cell? p = some u) (hf : w.frozen? p = false) (h : K (a.put o.dst undef) (w.setCell p v)) : o.wp P a w K Q := by
  unfold Oper.wp
  have hst : (store p v).run P w = .ok () (w.setCell p v) := by
    rw [run_store P w p v _ h1]
    simp [hc, hf]
  have h0 : p.add 0 = p := by simp [Addr.add]
  simp [execOp, ho, hx, hy, Instr.storeAt, Instr.sureAddr, storeVar, hs, hv, storeCells, h0, hst, Oper.upon_skip, h]
end
end
end Go.Proofs.Ytcjmapljcnmfaaa
