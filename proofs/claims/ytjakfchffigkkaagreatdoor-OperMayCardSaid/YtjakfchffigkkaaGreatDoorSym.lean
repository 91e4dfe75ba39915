/- Walking a function over an act that is known by its slots alone: regions (drawn or not) whose operations are each shown once, branches, returns. -/
import Derived.Test.YtjakfchffigkkaaGreatDoorReg3
import Derived.Laws.BytesArg
import Derived.Laws.Tables
namespace Go.Proofs.YtjakfchffigkkaaGreatDoor
open Go.RowKit
set_option linter.unusedVariables false
section
variable {P : Program} {ops : Array Oper} {Q : Exit → Act → World → Prop}
theorem enter_abs {f : FuncId} {fn : Func} {c : Code} {args : Array Value} {w : World} {R : Ending → World → Prop} (hf : P.funcs[f]? = some fn) (hb : fn.body = some c)
    (h : ∀ a : Act, a.tmps.size = args.size + (fn.ntmps - args.size) → a.defers = [] → (∀ i v, args.toList[i]? = some v → a.eval (.tmp i) = v) → c.wp P (bodyPost P fn R) a w) : Calls P f args w R := by
  refine calls_of_wp hf hb (h _ (by simp) rfl fun i v hi => ?_)
  have hlt : i < args.size := by rw [List.getElem?_eq_some_iff] at hi; obtain ⟨h, _⟩ := hi; simpa using h
  have hv : args[i]? = some v := by rw [← Array.getElem?_toList]; exact hi
  simp only [Act.eval, Array.getD_eq_getD_getElem?]
  rw [Array.getElem?_append_left hlt, hv]
  rfl
theorem leave {fn : Func} {R : Ending → World → Prop} {a : Act} {w : World} {v : Value} (hd : a.defers = []) (hr : (results fn a.tmps).run P w = .ok v w) (h : R (.returned v) w) : Code.ret.wp P (bodyPost P fn R) a w :=
  wp_ret ⟨hd, v, hr, h⟩
theorem ret_k {fn : Func} {R : Ending → World → Prop} {a : Act} {w : World} {v : Value} (hd : a.defers = []) (hr : (results fn a.tmps).run P w = .ok v w) (h : R (.returned v) w) : bodyPost P fn R .ret a w := ⟨hd, v, hr, h⟩
theorem ret_n {fn : Func} {R : Ending → World → Prop} {a : Act} {w : World} {v : Value} (hd : a.defers = []) (hr : (results fn a.tmps).run P w = .ok v w) (h : R (.returned v) w) : bodyPost P fn R .normal a w := ⟨hd, v, hr, h⟩
theorem res_t {fn : Func} {t : Tmp} {a : Act} {v : Value} (hf : fn.results = #[.tmp t]) (h : a.eval (.tmp t) = v) (w : World) : (results fn a.tmps).run P w = .ok v w := by
  have h' : a.tmps.getD t undef = v := h
  simp only [Array.getD_eq_getD_getElem?] at h'
  simp [results, hf, h']
theorem res_tt {fn : Func} {t u : Tmp} {a : Act} {v x : Value} (hf : fn.results = #[.tmp t, .tmp u]) (h : a.eval (.tmp t) = v) (h2 : a.eval (.tmp u) = x) (w : World) : (results fn a.tmps).run P w = .ok (.tuple #[v, x]) w := by
  have h' : a.tmps.getD t undef = v := h
  have h2' : a.tmps.getD u undef = x := h2
  simp only [Array.getD_eq_getD_getElem?] at h' h2'
  simp [results, hf, h', h2']
theorem res_c {fn : Func} {t : Tmp} {ty : TypeId} {p : Addr} {a : Act} {v : Value} {w : World} (hf : fn.results = #[.cell t ty]) (h : a.eval (.tmp t) = .pointer (some p)) (hl : (loadVar ty p).run P w = .ok v w) : (results fn a.tmps).run P w = .ok v w := by
  have h' : a.tmps.getD t undef = .pointer (some p) := h
  simp only [Array.getD_eq_getD_getElem?] at h'
  simp [results, hf, h', asAddr, hl]
theorem res_ct {fn : Func} {t u : Tmp} {ty : TypeId} {p : Addr} {a : Act} {v x : Value} {w : World} (hf : fn.results = #[.cell t ty, .tmp u]) (h : a.eval (.tmp t) = .pointer (some p)) (h2 : a.eval (.tmp u) = x) (hl : (loadVar ty p).run P w = .ok v w) : (results fn a.tmps).run P w = .ok (.tuple #[v, x]) w := by
  have h' : a.tmps.getD t undef = .pointer (some p) := h
  have h2' : a.tmps.getD u undef = x := h2
  simp only [Array.getD_eq_getD_getElem?] at h' h2'
  simp [results, hf, h', h2', asAddr, hl]
def TL (Ts : List (Value → World → Prop)) (i : Nat) (v : Value) (w : World) : Prop := (Ts.getD i fun _ _ => True) v w
inductive Monos : List (Value → World → Prop) → Prop
  | nil : Monos []
  | cons {p : Value → World → Prop} {ps : List (Value → World → Prop)} (h : ∀ v w w', New w w' → p v w → p v w') (t : Monos ps) : Monos (p :: ps)
theorem Monos.eq {X : Value} {ps : List (Value → World → Prop)} (t : Monos ps) : Monos ((fun v _ => v = X) :: ps) := .cons (fun _ _ _ _ h => h) t
theorem Monos.new_ : ∀ {Ts : List (Value → World → Prop)}, Monos Ts → ∀ (i : Nat) (v : Value) (w w' : World), New w w' → TL Ts i v w → TL Ts i v w'
  | [], _, _, _, _, _, _, _ => trivial
  | _ :: _, .cons h _, 0, v, w, w', hn, hp => h v w w' hn hp
  | _ :: _, .cons _ t, i + 1, v, w, w', hn, hp => t.new_ i v w w' hn hp
def AllAt (p : Nat → Prop) : List Bool → Nat → Prop
  | [], _ => True
  | true :: r, i => p i ∧ AllAt p r (i + 1)
  | false :: r, i => AllAt p r (i + 1)
theorem AllAt.get {p : Nat → Prop} : ∀ {fs : List Bool} {k : Nat}, AllAt p fs k → ∀ i, fs.getD i false = true → p (k + i)
  | true :: _, _, h, 0, _ => h.1
  | false :: _, _, _, 0, hi => by simp at hi
  | true :: r, k, h, i + 1, hi => by
    have := AllAt.get (fs := r) h.2 i (by simpa using hi)
    rw [show k + (i + 1) = k + 1 + i by omega]; exact this
  | false :: r, k, h, i + 1, hi => by
    have := AllAt.get (fs := r) (k := k + 1) h i (by simpa using hi)
    rw [show k + (i + 1) = k + 1 + i by omega]; exact this
  | [], _, _, _, hi => by simp at hi
theorem AllAt.on {p : Nat → Prop} {r : List Bool} {i : Nat} (h : p i) (t : AllAt p r (i + 1)) : AllAt p (true :: r) i := ⟨h, t⟩
theorem AllAt.off {p : Nat → Prop} {r : List Bool} {i : Nat} (t : AllAt p r (i + 1)) : AllAt p (false :: r) i := t
theorem AllAt.nil {p : Nat → Prop} {i : Nat} : AllAt p [] i := trivial
theorem Known.eq {F : Array Bool} {Ts : List (Value → World → Prop)} {a0 a : Act} {i : Nat} {w : World} (hk : Known ops F (TL Ts) a0 i a w) (k d : Nat) (X : Value) (h1 : (afterOf ops i).contains k = true) (h2 : (ops[k]?).bind (·.dst) = some d) (h3 : Ts[k]? = some fun v _ => v = X) : a.eval (.tmp d) = X := by
  have h := hk.dep k d h1 h2
  unfold TL at h
  rw [List.getD_eq_getElem?_getD, h3] at h
  exact h
def IsNew (w0 : World) (T : TypeId) (cs : List Value) (v : Value) (w : World) : Prop := ∃ q, v = .pointer (some ⟨q, 0, none⟩) ∧ w0.heap.size ≤ q ∧ Blk w q T cs
theorem IsNew.old {w0 : World} {T : TypeId} {cs : List Value} {v : Value} {w : World} (h : IsNew w0 T cs v w) : OldPtr v w := by
  obtain ⟨q, he, hq, hb⟩ := h; exact ⟨q, he, hb.lt⟩
theorem IsNew.new_ {w0 : World} {T : TypeId} {cs : List Value} {v : Value} {w w' : World} (h : IsNew w0 T cs v w) (hn : New w w') : IsNew w0 T cs v w' := by
  obtain ⟨q, he, hq, hb⟩ := h; exact ⟨q, he, hq, hb.new_ hn⟩
structure After (ops : Array Oper) (F : Array Bool) (news : List Nat) (T : Nat → Value → World → Prop) (a0 a : Act) (w : World) : Prop where
  size : a.tmps.size = a0.tmps.size
  defers : a.defers = a0.defers
  fix : ∀ d, fixedB ops F d = true → a.eval (.tmp d) = a0.eval (.tmp d)
  got : ∀ i d, F.getD i false = true → (ops[i]?).bind (·.dst) = some d → T i (a.eval (.tmp d)) w
  far : ∀ i j d e, (F.getD i false && F.getD j false && news.contains i && news.contains j && !(i == j)) = true → (ops[i]?).bind (·.dst) = some d → (ops[j]?).bind (·.dst) = some e → a.eval (.tmp d) ≠ a.eval (.tmp e)
theorem wpJ_gen {a0 : Act} {w0 : World} {F : Array Bool} {E : List Nat} {R : List (Nat × Bool)} {N : Nat} (T : Nat → Value → World → Prop) (news : List Nat) (hEN : ∀ i, E.contains i = true → news.contains i = false) (hold : ∀ j, news.contains j = true → ∀ v w, T j v w → OldPtr v w) (hc : invCheck ops F E R N = true) (hN : a0.tmps.size = N)
    (hQ : ∀ c a d v w, Q (.panic c) (a.put d v) w → Q (.panic c) a w)
    (hT : ∀ i v w w', New w w' → T i v w → T i v w')
    (hstep : ∀ i, F.getD i false = true → E.contains i = false → StepG P ops Q F T a0 w0 news i) (heager : ∀ i, E.contains i = true → EagerOk P ops F T a0 w0 i)
    (hend : ∀ a w, New w0 w → After ops F news T a0 a w → stepsTo P ops (fun _ => True) Q R a w) :
    ∀ (n : Nat) (l : Array Bool) (vals : Nat → Value) (a : Act) (w : World), cntU F l ops.size = n → l.size = ops.size → (∀ i, l.getD i false = true → F.getD i false = true) →
      (∀ i o, ops[i]? = some o → l.getD i false = true → ∀ e ∈ o.after, Region.binds .any e = true → l.getD e.on false = true) →
      Shape ops a0 vals l a → New w0 w → (∀ i, l.getD i false = true → T i (vals i) w) →
      (∀ i j, l.getD i false = true → l.getD j false = true → news.contains i = true → news.contains j = true → i ≠ j → vals i ≠ vals j) → wpJ P .any ops Q (fun _ => True) 1000 (n + R.length) l a w := by
  have hdst : dstsOk ops N = true := by
    simp only [invCheck, Bool.and_eq_true, beq_iff_eq, decide_eq_true_eq] at hc
    exact hc.1.1.1.1.2
  have hval : ∀ vals i d, F.getD i false = true → (ops[i]?).bind (·.dst) = some d → (putAll F vals ops.toList 0 a0).tmps.getD d undef = vals i := by
    intro vals i d hF hdo
    cases ho : ops[i]? with
    | none => rw [ho] at hdo; simp at hdo
    | some o =>
      rw [ho] at hdo
      have hdo' : o.dst = some d := by simpa using hdo
      have h1 := putAll_got F vals N d (dsts_spec hdst ho hdo').1 ops.toList 0 a0 hN i o (by simpa using ho) (by simpa using hF) hdo' fun j oj hj hdj => (dsts_spec hdst ho hdo').2 j oj (by simpa using hj) hdj
      rw [Nat.zero_add] at h1
      exact h1
  refine wpJ_inv T news hEN hold hc hN hQ hT hstep heager fun vals w hw hTl hD => hend _ w hw ⟨putAll_size .., putAll_defers .., fun d hd => ?_, fun i d hF hdo => ?_, fun i j d e hc hdo heo => ?_⟩
  · refine putAll_far F vals d ops.toList 0 a0 fun k ok hk hFk hdk => ?_
    unfold fixedB at hd
    have hk' : ops[k]? = some ok := by simpa using hk
    have hlt : k < ops.size := by rw [Array.getElem?_eq_some_iff] at hk'; exact hk'.1
    have := (List.all_eq_true.1 hd) k (List.mem_range.2 hlt)
    rw [Nat.zero_add] at hFk
    rw [hFk, hk'] at this
    simp [hdk] at this
  · show T i ((putAll F vals ops.toList 0 a0).tmps.getD d undef) w
    rw [hval vals i d hF hdo]
    exact hTl i hF
  · simp only [Bool.and_eq_true, Bool.not_eq_true', beq_eq_false_iff_ne] at hc
    show (putAll F vals ops.toList 0 a0).tmps.getD d undef ≠ (putAll F vals ops.toList 0 a0).tmps.getD e undef
    rw [hval vals i d hc.1.1.1.1 hdo, hval vals j e hc.1.1.1.2 heo]
    exact hD i j hc.1.1.1.1 hc.1.1.1.2 hc.1.1.2 hc.1.2 hc.2
theorem wpOps_of_any (hlow : ∀ i o, ops[i]? = some o → ∀ e ∈ o.after, Region.binds .any e = true → e.on < i) : ∀ (n k : Nat) (l : Array Bool) (a : Act) (w : World), k + n = ops.size → l.size = ops.size → (∀ i, l.getD i false = decide (i < k)) →
    wpAny P .any ops Q n l a w → wpOps P ops Q (List.range' k n) a w
  | 0, k, l, a, w, _, _, _, h => h.2
  | n + 1, k, l, a, w, hk, hls, hl, h => by
    rw [List.range'_succ, wpOps_cons]
    have hlt : k < ops.size := by omega
    have ho : ops[k]? = some ops[k] := Array.getElem?_eq_getElem hlt
    have hr : k ∈ Region.ready .any ops l := by
      refine mem_ready.2 ⟨?_, ops[k], ho, fun e he hb => ?_⟩
      · have h1 := hl k
        have hlt' : k < l.size := by omega
        simp [Array.getD, hlt'] at h1 ⊢
        exact h1
      · rw [hl]
        have := hlow k ops[k] ho e he hb
        simpa using this
    refine wpOp_mono (fun a' w' h' => wpOps_of_any hlow n (k + 1) (l.setIfInBounds k true) a' w' (by omega) (by simpa using hls) (fun i => ?_) h') (h.2 k hr)
    by_cases hik : i = k
    · subst hik
      have hlt' : i < l.size := by omega
      simp [hlt']
    · rw [getD_set_ne false (fun h => hik h.symm), hl]
      rw [decide_eq_decide]
      omega
theorem wp_gen {id : Nat} {dr : Bool} {a0 : Act} {w0 : World} (fs : List Bool) (E : List Nat) (R : List (Nat × Bool)) (N : Nat) (Ts : List (Value → World → Prop)) (news : List Nat) (hEN : (E.all fun i => !news.contains i) = true) (hold : ∀ j, j ∈ news → ∀ v w, TL Ts j v w → OldPtr v w) (hm : P.follows .mixedOrders = true) (hc : invCheck ops fs.toArray E R N = true) (hN : a0.tmps.size = N)
    (hQ : ∀ c a d v w, Q (.panic c) (a.put d v) w → Q (.panic c) a w) (hT : Monos Ts)
    (hstep : AllAt (fun i => E.contains i = false → StepG P ops Q fs.toArray (TL Ts) a0 w0 news i) fs 0) (heager : ∀ i, E.contains i = true → EagerOk P ops fs.toArray (TL Ts) a0 w0 i)
    (hend : ∀ a w, New w0 w → After ops fs.toArray news (TL Ts) a0 a w → stepsTo P ops (fun _ => True) Q R a w) : (Code.region id ops dr).wp P Q a0 w0 := by
  have hget : ∀ i, fs.toArray.getD i false = fs.getD i false := fun i => by simp [Array.getD, List.getD]; split <;> simp [*]
  have hc0 := hc
  simp only [invCheck, Bool.and_eq_true, beq_iff_eq, decide_eq_true_eq] at hc0
  obtain ⟨⟨⟨⟨⟨⟨⟨⟨hsel, hFs⟩, h1000⟩, hcnt⟩, hdst⟩, hlow⟩, hup⟩, hE⟩, hM⟩ := hc0
  have hgo : ∀ w1, New w0 w1 → wpAny P .any ops Q ops.size (Array.replicate ops.size false) a0 w1 := by
    intro w1 hw1
    have hgo := wpJ_gen (w0 := w0) (Q := Q) (TL Ts) news (fun i hi => (by have := (List.all_eq_true.1 hEN) i (by simpa using hi); simpa using this)) (fun j hj => hold j (by simpa using hj)) hc hN hQ hT.new_ (fun i h1 h2 => (by have := AllAt.get hstep i (by rw [← hget]; exact h1); rw [Nat.zero_add] at this; exact this h2)) heager hend _ (Array.replicate ops.size false) (fun _ => undef) a0 w1 rfl (by simp) (fun i h => ?_) (fun i o _ h => ?_) ⟨rfl, rfl, fun i o d _ _ h => ?_, fun _ _ => rfl⟩ hw1 (fun i h => ?_) (fun i j h => ?_)
    · rw [hcnt] at hgo; exact wpAny_of_J _ _ _ _ hgo
    all_goals
      rw [cntU_none (ops := ops) i] at h
      cases h
  cases dr with
  | true => exact wp_region_any hm (hgo _ (Upd.refl _ _).drew)
  | false =>
    refine wp_region ?_
    rw [List.range_eq_range']
    refine wpOps_of_any (fun i o ho e he hb => ?_) ops.size 0 (Array.replicate ops.size false) a0 w0 (by omega) (by simp) (fun i => by rw [cntU_none]; simp) (hgo w0 (Upd.refl _ _))
    have hlt : i < ops.size := by rw [Array.getElem?_eq_some_iff] at ho; exact ho.1
    have h2 := (List.all_eq_true.1 hlow) i (List.mem_range.2 hlt)
    rw [ho] at h2
    obtain ⟨k, hk, rfl⟩ := Array.getElem_of_mem he
    have h3 := (Array.all_eq_true.1 h2) k hk
    rw [hb] at h3
    simp only [Bool.not_true, Bool.false_or, Bool.and_eq_true, decide_eq_true_eq] at h3
    exact h3.1
theorem wanted_of {o : Oper} {a : Act} {j d : Nat} {want b : Bool} (hg : o.guard = some (j, want)) (hj : (ops[j]?).bind (·.dst) = some d) (hv : a.eval (.tmp d) = .bool b) : Region.wanted o (yielded ops a.tmps) = (b == want) := by
  have hv' : a.tmps.getD d undef = .bool b := hv
  have h1 : a.tmps[d]? = some (.bool b) := by
    rw [Array.getD_eq_getD_getElem?] at hv'
    cases h : a.tmps[d]? with
    | none => rw [h] at hv'; simp [undef] at hv'
    | some x => rw [h] at hv'; simpa using hv'
  have hy : yielded ops a.tmps j = some b := by
    unfold yielded
    rw [hj]
    simp [h1]
  simp [Region.wanted, hg, hy]
variable {T : Nat → Value → World → Prop} {F : Array Bool} {a0 : Act} {w0 : World}
theorem g_skip {i : Nat} {o : Oper} {j d : Nat} {want : Bool} (hi : ops.toList[i]? = some o) (hg : o.guard = some (j, want)) (hj : (ops[j]?).bind (·.dst) = some d)
    (hv : ∀ a w, New w0 w → Known ops F T a0 i a w → a.eval (.tmp d) = .bool (!want) ∨ a.eval (.tmp d) = undef) (hT : ∀ w, T i undef w) : StepOk P ops Q F T a0 w0 i := by
  refine ⟨o, hi, fun a w hw hk => ?_⟩
  have hi' : ops[i]? = some o := by rw [← Array.getElem?_toList]; exact hi
  have hwt : Region.wanted o (yielded ops a.tmps) = false := by
    rcases hv a w hw hk with h | h
    · rw [wanted_of hg hj h]; cases want <;> rfl
    · have h' : a.tmps.getD d undef = undef := h
      have hy : yielded ops a.tmps j = none := by
        unfold yielded
        rw [hj]
        simp only [Option.bind_some]
        rw [Array.getD_eq_getD_getElem?] at h'
        cases hx : a.tmps[d]? with
        | none => rfl
        | some x => rw [hx] at h'; simp only [Option.getD_some] at h'; subst h'; rfl
      simp [Region.wanted, hg, hy]
  unfold wpOp
  simp only [hi', hwt, Bool.false_eq_true, if_false]
  exact ⟨undef, rfl, Upd.refl _ _, hT w⟩
theorem step_takeG {i : Nat} {o : Oper} (hi : ops.toList[i]? = some o) (hw : ∀ a w, New w0 w → Known ops F T a0 i a w → Region.wanted o (yielded ops a.tmps) = true)
    (h : ∀ a w, New w0 w → Known ops F T a0 i a w → ∃ v, (execOp a.eval o).run P w = .ok (.value v) w ∧ T i v w) : StepOk P ops Q F T a0 w0 i := by
  refine ⟨o, hi, fun a w hn hk => ?_⟩
  obtain ⟨v, hv, hT⟩ := h a w hn hk
  have hi' : ops[i]? = some o := by rw [← Array.getElem?_toList]; exact hi
  unfold wpOp
  simp only [hi', hw a w hn hk, if_true, Oper.wp, hv, Oper.upon]
  exact .inl ⟨v, rfl, Upd.refl _ _, hT⟩
theorem step_callG {i : Nat} {o : Oper} {f : FuncId} {xs : Array Operand} {ats : Array TypeId} (hi : ops.toList[i]? = some o) (hw : ∀ a w, New w0 w → Known ops F T a0 i a w → Region.wanted o (yielded ops a.tmps) = true)
    (ho : o.op = .call { callee := .value (.func f), args := xs, argTypes := ats })
    (h : ∀ a w, New w0 w → Known ops F T a0 i a w → ∃ (args : Array Value) (R : Ending → World → Prop), xs.toList.map a.eval = args.toList ∧ (∀ w, (callFunc f args).run P w = .ok (.enter f args) w) ∧ Calls P f args w R ∧ ∀ e w', R e w' → ∃ v, e = .returned v ∧ New w w' ∧ T i v w') : StepOk P ops Q F T a0 w0 i := by
  refine ⟨o, hi, fun a w hn hk => ?_⟩
  obtain ⟨args, R, hx, hcf, hc, hR⟩ := h a w hn hk
  have hi' : ops[i]? = some o := by rw [← Array.getElem?_toList]; exact hi
  unfold wpOp
  simp only [hi', hw a w hn hk, if_true]
  refine .inl (a_call ho hx hcf hc fun e w' he => ?_)
  obtain ⟨v, rfl, hn, hT⟩ := hR e w' he
  exact ⟨v, rfl, v, rfl, hn, hT⟩
theorem newsNil {Ts : List (Value → World → Prop)} : ∀ j, j ∈ ([] : List Nat) → ∀ v w, TL Ts j v w → OldPtr v w := fun _ h => by cases h
theorem newsCons {Ts : List (Value → World → Prop)} {k : Nat} {l : List Nat} (h : ∀ v w, TL Ts k v w → OldPtr v w) (t : ∀ j, j ∈ l → ∀ v w, TL Ts j v w → OldPtr v w) : ∀ j, j ∈ k :: l → ∀ v w, TL Ts j v w → OldPtr v w := fun j hj => by
  rcases List.mem_cons.1 hj with rfl | hj
  · exact h
  · exact t j hj
theorem step_allocN {i : Nat} {o : Oper} {t : TypeId} {cs : List Value} (hi : ops.toList[i]? = some o) (hw : ∀ a w, New w0 w → Known ops F T a0 i a w → Region.wanted o (yielded ops a.tmps) = true)
    (hrun : ∀ a w, New w0 w → Known ops F T a0 i a w → (execOp (Act.eval a) o).run P w = .ok (.value (.pointer (some ⟨w.heap.size, 0, none⟩))) (w.alloc (.cells cs.toArray t)))
    (hT : ∀ q w, w0.heap.size ≤ q → Blk w q t cs → T i (.pointer (some ⟨q, 0, none⟩)) w) : StepOkN P ops Q F T a0 w0 i := by
  refine ⟨o, hi, fun a w hn hk => ?_⟩
  have hi' : ops[i]? = some o := by rw [← Array.getElem?_toList]; exact hi
  unfold wpOp
  simp only [hi', hw a w hn hk, if_true, Oper.wp, hrun a w hn hk, Oper.upon]
  exact .inl ⟨_, rfl, (Upd.refl _ _).alloc _, hT _ _ hn.size (Blk.new w t cs), w.heap.size, rfl, Nat.le_refl _⟩
theorem ptr_ne {a : Act} {d e : Nat} {q r : Nat} (h : a.eval (.tmp d) ≠ a.eval (.tmp e)) (h1 : a.eval (.tmp d) = .pointer (some ⟨q, 0, none⟩)) (h2 : a.eval (.tmp e) = .pointer (some ⟨r, 0, none⟩)) : q ≠ r := fun he => h (by rw [h1, h2, he])
theorem step_allocG {i : Nat} {o : Oper} {t : TypeId} {cs : List Value} (hi : ops.toList[i]? = some o) (hw : ∀ a w, New w0 w → Known ops F T a0 i a w → Region.wanted o (yielded ops a.tmps) = true)
    (hrun : ∀ a w, New w0 w → Known ops F T a0 i a w → (execOp (Act.eval a) o).run P w = .ok (.value (.pointer (some ⟨w.heap.size, 0, none⟩))) (w.alloc (.cells cs.toArray t)))
    (hT : ∀ q w, w0.heap.size ≤ q → Blk w q t cs → T i (.pointer (some ⟨q, 0, none⟩)) w) : StepOk P ops Q F T a0 w0 i := by
  refine ⟨o, hi, fun a w hn hk => ?_⟩
  have hi' : ops[i]? = some o := by rw [← Array.getElem?_toList]; exact hi
  unfold wpOp
  simp only [hi', hw a w hn hk, if_true, Oper.wp, hrun a w hn hk, Oper.upon]
  exact .inl ⟨_, rfl, (Upd.refl _ _).alloc _, hT _ _ hn.size (Blk.new w t cs)⟩
theorem noG {i : Nat} {o : Oper} (hg : o.guard = none) : ∀ (a : Act) (w : World), New w0 w → Known ops F T a0 i a w → Region.wanted o (yielded ops a.tmps) = true := fun a w _ _ => by simp [Region.wanted, hg]
theorem onG {i : Nat} {o : Oper} {j d : Nat} {want : Bool} (hg : o.guard = some (j, want)) (hj : (ops[j]?).bind (·.dst) = some d) (hv : ∀ a w, Known ops F T a0 i a w → a.eval (.tmp d) = .bool want) : ∀ (a : Act) (w : World), New w0 w → Known ops F T a0 i a w → Region.wanted o (yielded ops a.tmps) = true := fun a w _ hk => by
  rw [wanted_of hg hj (hv a w hk)]; cases want <;> rfl
end
section
variable {P : Program} {ops : Array Oper} {Q : Exit → Act → World → Prop} {T : Nat → Value → World → Prop} {F : Array Bool} {a0 a : Act} {w0 w : World} {Ts : List (Value → World → Prop)} {news E : List Nat} {r : List Bool} {i : Nat}
theorem AllAt.o1 (h : StepOk P ops Q F T a0 w0 i) (t : AllAt (fun i => E.contains i = false → StepG P ops Q F T a0 w0 news i) r (i + 1)) (hn : news.contains i = false := by rfl) : AllAt (fun i => E.contains i = false → StepG P ops Q F T a0 w0 news i) (true :: r) i := ⟨fun _ => .inl ⟨hn, h⟩, t⟩
theorem AllAt.o2 (h : StepOkN P ops Q F T a0 w0 i) (t : AllAt (fun i => E.contains i = false → StepG P ops Q F T a0 w0 news i) r (i + 1)) : AllAt (fun i => E.contains i = false → StepG P ops Q F T a0 w0 news i) (true :: r) i := ⟨fun _ => .inr h, t⟩
theorem AllAt.o3 (t : AllAt (fun i => E.contains i = false → StepG P ops Q F T a0 w0 news i) r (i + 1)) (hn : E.contains i = true := by rfl) : AllAt (fun i => E.contains i = false → StepG P ops Q F T a0 w0 news i) (true :: r) i := ⟨fun h => (by rw [hn] at h; cases h), t⟩
theorem Known.eq1 (hk : Known ops F (TL Ts) a0 i a w) (k d : Nat) {X : Value} (h3 : Ts[k]? = some fun v _ => v = X) (h1 : (afterOf ops i).contains k = true := by kernel_rfl) (h2 : (ops[k]?).bind (·.dst) = some d := by kernel_rfl) : a.eval (.tmp d) = X := hk.eq k d X h1 h2 h3
theorem Known.fx (hk : Known ops F (TL Ts) a0 i a w) (d : Nat) {X : Value} (h : a0.eval (.tmp d) = X) (h1 : fixedB ops F d = true := by kernel_rfl) : a.eval (.tmp d) = X := (hk.fix d h1).trans h
theorem After.fx (ha : After ops F news (TL Ts) a0 a w) (d : Nat) {X : Value} (h : a0.eval (.tmp d) = X) (h1 : fixedB ops F d = true := by kernel_rfl) : a.eval (.tmp d) = X := (ha.fix d h1).trans h
theorem After.ge (ha : After ops F news (TL Ts) a0 a w) (k d : Nat) {X : Value} (h3 : Ts[k]? = some fun v _ => v = X) (h1 : F.getD k false = true := by rfl) (h2 : (ops[k]?).bind (·.dst) = some d := by kernel_rfl) : a.eval (.tmp d) = X := by
  have h := ha.got k d h1 h2
  unfold TL at h
  rw [List.getD_eq_getElem?_getD, h3] at h
  exact h
theorem tk {o : Oper} (hi : ops.toList[i]? = some o) (hg : o.guard = none) (h : ∀ a w, New w0 w → Known ops F T a0 i a w → ∃ v, (execOp a.eval o).run P w = .ok (.value v) w ∧ T i v w) : StepOk P ops Q F T a0 w0 i := step_takeG hi (noG hg) h
theorem tg {o : Oper} {j d : Nat} {want : Bool} (hi : ops.toList[i]? = some o) (hg : o.guard = some (j, want)) (hj : (ops[j]?).bind (·.dst) = some d) (hv : ∀ a w, Known ops F T a0 i a w → a.eval (.tmp d) = .bool want)
    (h : ∀ a w, New w0 w → Known ops F T a0 i a w → ∃ v, (execOp a.eval o).run P w = .ok (.value v) w ∧ T i v w) : StepOk P ops Q F T a0 w0 i := step_takeG hi (onG hg hj hv) h
theorem ck {o : Oper} {f : FuncId} {xs : Array Operand} {ats : Array TypeId} {V : Value} (hi : ops.toList[i]? = some o) (hg : o.guard = none) (ho : o.op = .call { callee := .value (.func f), args := xs, argTypes := ats })
    (h : ∀ a w, New w0 w → Known ops F T a0 i a w → ∃ args : Array Value, xs.toList.map a.eval = args.toList ∧ (∀ w, (callFunc f args).run P w = .ok (.enter f args) w) ∧ Calls P f args w (fun e w' => e = .returned V ∧ New w w')) (ht : ∀ w, T i V w) : StepOk P ops Q F T a0 w0 i :=
  step_callG hi (noG hg) ho fun a w hn hk => by
    obtain ⟨args, h1, h2, h3⟩ := h a w hn hk
    exact ⟨args, _, h1, h2, h3, fun e w' ⟨he, hn'⟩ => ⟨V, he, hn', ht w'⟩⟩
theorem cg {o : Oper} {f : FuncId} {xs : Array Operand} {ats : Array TypeId} {V : Value} {j d : Nat} {want : Bool} (hi : ops.toList[i]? = some o) (hg : o.guard = some (j, want)) (hj : (ops[j]?).bind (·.dst) = some d) (hv : ∀ a w, Known ops F T a0 i a w → a.eval (.tmp d) = .bool want) (ho : o.op = .call { callee := .value (.func f), args := xs, argTypes := ats })
    (h : ∀ a w, New w0 w → Known ops F T a0 i a w → ∃ args : Array Value, xs.toList.map a.eval = args.toList ∧ (∀ w, (callFunc f args).run P w = .ok (.enter f args) w) ∧ Calls P f args w (fun e w' => e = .returned V ∧ New w w')) (ht : ∀ w, T i V w) : StepOk P ops Q F T a0 w0 i :=
  step_callG hi (onG hg hj hv) ho fun a w hn hk => by
    obtain ⟨args, h1, h2, h3⟩ := h a w hn hk
    exact ⟨args, _, h1, h2, h3, fun e w' ⟨he, hn'⟩ => ⟨V, he, hn', ht w'⟩⟩
theorem sk {o : Oper} {j d : Nat} {want : Bool} (hi : ops.toList[i]? = some o) (hg : o.guard = some (j, want)) (hj : (ops[j]?).bind (·.dst) = some d) (hv : ∀ a w, New w0 w → Known ops F T a0 i a w → a.eval (.tmp d) = .bool (!want)) (hT : ∀ w, T i undef w) : StepOk P ops Q F T a0 w0 i := g_skip hi hg hj (fun a w h1 h2 => .inl (hv a w h1 h2)) hT
theorem su {o : Oper} {j d : Nat} {want : Bool} (hi : ops.toList[i]? = some o) (hg : o.guard = some (j, want)) (hj : (ops[j]?).bind (·.dst) = some d) (hv : ∀ a w, New w0 w → Known ops F T a0 i a w → a.eval (.tmp d) = undef) (hT : ∀ w, T i undef w) : StepOk P ops Q F T a0 w0 i := g_skip hi hg hj (fun a w h1 h2 => .inr (hv a w h1 h2)) hT
end
section
variable {P : Program} {ops : Array Oper} {Q : Exit → Act → World → Prop}
abbrev ve (X : Value) : Value → World → Prop := fun v _ => v = X
abbrev vt : Value → World → Prop := fun _ _ => True
abbrev iv (n : Int) : Value := .int .i64 n
abbrev pv (q : Nat) : Value := .pointer (some ⟨q, 0, none⟩)
theorem Monos.tt {ps : List (Value → World → Prop)} (t : Monos ps) : Monos (vt :: ps) := .cons (fun _ _ _ _ h => h) t
theorem Monos.nw {w0 : World} {T : TypeId} {cs : List Value} {ps : List (Value → World → Prop)} (t : Monos ps) : Monos (IsNew w0 T cs :: ps) := .cons (fun _ _ _ hn h => IsNew.new_ h hn) t
theorem After.ne {F : Array Bool} {news : List Nat} {T : Nat → Value → World → Prop} {a0 a : Act} {w : World} (ha : After ops F news T a0 a w) (i j d e : Nat) {q r : Nat} (h1 : a.eval (.tmp d) = .pointer (some ⟨q, 0, none⟩)) (h2 : a.eval (.tmp e) = .pointer (some ⟨r, 0, none⟩))
    (c1 : (F.getD i false && F.getD j false && news.contains i && news.contains j && !(i == j)) = true := by rfl) (c2 : (ops[i]?).bind (·.dst) = some d := by kernel_rfl) (c3 : (ops[j]?).bind (·.dst) = some e := by kernel_rfl) : q ≠ r := ptr_ne (ha.far i j d e c1 c2 c3) h1 h2
theorem wp_g {id : Nat} {dr : Bool} {a0 : Act} {w0 : World} (fs : List Bool) (E : List Nat) (R : List (Nat × Bool)) (N : Nat) (Ts : List (Value → World → Prop)) (news : List Nat) (hold : ∀ j, j ∈ news → ∀ v w, TL Ts j v w → OldPtr v w) (hN : a0.tmps.size = N) (hT : Monos Ts)
    (hstep : AllAt (fun i => E.contains i = false → StepG P ops Q fs.toArray (TL Ts) a0 w0 news i) fs 0) (heager : ∀ i, E.contains i = true → EagerOk P ops fs.toArray (TL Ts) a0 w0 i)
    (hend : ∀ a w, New w0 w → After ops fs.toArray news (TL Ts) a0 a w → stepsTo P ops (fun _ => True) Q R a w)
    (hEN : (E.all fun i => !news.contains i) = true := by kernel_rfl) (hm : P.follows .mixedOrders = true := by kernel_rfl) (hc : invCheck ops fs.toArray E R N = true := by kernel_rfl)
    (hQ : ∀ c a d v w, Q (.panic c) (a.put d v) w → Q (.panic c) a w := by (intro _ _ d _ _ h; cases d <;> exact h)) : (Code.region id ops dr).wp P Q a0 w0 := wp_gen fs E R N Ts news hEN hold hm hc hN hQ hT hstep heager hend
theorem wp_g0 {id : Nat} {dr : Bool} {a0 : Act} {w0 : World} (fs : List Bool) (R : List (Nat × Bool)) (N : Nat) (Ts : List (Value → World → Prop)) (hN : a0.tmps.size = N) (hT : Monos Ts)
    (hstep : AllAt (fun i => ([] : List Nat).contains i = false → StepG P ops Q fs.toArray (TL Ts) a0 w0 [] i) fs 0)
    (hend : ∀ a w, New w0 w → After ops fs.toArray [] (TL Ts) a0 a w → stepsTo P ops (fun _ => True) Q R a w)
    (hm : P.follows .mixedOrders = true := by kernel_rfl) (hc : invCheck ops fs.toArray [] R N = true := by kernel_rfl)
    (hQ : ∀ c a d v w, Q (.panic c) (a.put d v) w → Q (.panic c) a w := by (intro _ _ d _ _ h; cases d <;> exact h)) : (Code.region id ops dr).wp P Q a0 w0 := wp_gen fs [] R N Ts [] rfl newsNil hm hc hN hQ hT hstep (fun i h => by cases h) hend
end
section
variable {P : Program} {o : Oper} {a : Act} {w : World}
theorem v_move {x : Operand} {v : Value} (ho : o.op = .move x) (hx : a.eval x = v) : (execOp a.eval o).run P w = .ok (.value v) w := y_move (S := fun _ => True) ho hx w trivial
theorem v_assign {x : Operand} {v : Value} (ho : o.op = .assign x) (hx : a.eval x = v) : (execOp a.eval o).run P w = .ok (.value v) w := y_assign (S := fun _ => True) ho hx w trivial
theorem v_field {s : TypeId} {x : Operand} {f : Nat} {p p' : Addr} (ho : o.op = .fieldAddr s x f) (hx : a.eval x = .pointer (some p)) (hp : ∀ w, (Instr.fieldAt s (.pointer (some p)) f).run P w = .ok (.pointer (some p')) w) : (execOp a.eval o).run P w = .ok (.value (.pointer (some p'))) w := y_field (S := fun _ => True) ho hx hp w trivial
theorem v_extract {x : Operand} {k : Nat} {vs : Array Value} {v : Value} (ho : o.op = .extract x k) (hx : a.eval x = .tuple vs) (hv : vs[k]? = some v) : (execOp a.eval o).run P w = .ok (.value v) w := y_extract (S := fun _ => True) ho hx hv w trivial
theorem v_not {t : TypeId} {x : Operand} {b : Bool} (ho : o.op = .unOp .not t x) (hx : a.eval x = .bool b) : (execOp a.eval o).run P w = .ok (.value (.bool (!b))) w := y_notb (S := fun _ => True) ho hx w trivial
theorem v_pick {c x y : Operand} {b : Bool} {v : Value} (ho : o.op = .pick c x y) (hc : a.eval c = .bool b) (hv : (if b then a.eval x else a.eval y) = v) : (execOp a.eval o).run P w = .ok (.value v) w := y_pick (S := fun _ => True) ho hc hv w trivial
theorem v_fieldv {s : TypeId} {x : Operand} {f : Nat} {u v : Value} (ho : o.op = .field s x f) (hx : a.eval x = u) (hf : ∀ w, (Instr.field s u f).run P w = .ok v w) : (execOp a.eval o).run P w = .ok (.value v) w := by
  simp [execOp, ho, hx, hf]
theorem v_pickT {c x y : Operand} {v : Value} (ho : o.op = .pick c x y) (hc : a.eval c = .bool true) (hv : a.eval x = v) : (execOp a.eval o).run P w = .ok (.value v) w := v_pick ho hc (by rw [if_pos rfl]; exact hv)
theorem v_pickF {c x y : Operand} {v : Value} (ho : o.op = .pick c x y) (hc : a.eval c = .bool false) (hv : a.eval y = v) : (execOp a.eval o).run P w = .ok (.value v) w := v_pick ho hc (by rw [if_neg (by simp)]; exact hv)
theorem v_max {x y : Operand} {ats : Array TypeId} {k k' : IntKind} {m n : Int} (ho : o.op = .call { callee := .builtin .max, args := #[x, y], argTypes := ats }) (hx : a.eval x = .int k m) (hy : a.eval y = .int k' n) : (execOp a.eval o).run P w = .ok (.value (.int k (max m n))) w := y_max (S := fun _ => True) ho hx hy (by simp [Int.max_def]; split <;> (try split) <;> omega) w trivial
theorem v_min {x y : Operand} {ats : Array TypeId} {k k' : IntKind} {m n : Int} (ho : o.op = .call { callee := .builtin .min, args := #[x, y], argTypes := ats }) (hx : a.eval x = .int k m) (hy : a.eval y = .int k' n) : (execOp a.eval o).run P w = .ok (.value (.int k (min m n))) w := y_min (S := fun _ => True) ho hx hy (by simp [Int.min_def]; split <;> (try split) <;> omega) w trivial
theorem v_len {x : Operand} {ats : Array TypeId} {t : TypeId} {A : Option Addr} {n c : Nat} (ho : o.op = .call { callee := .builtin .len, args := #[x], argTypes := ats }) (hx : a.eval x = .slice A n c) (hl : ∀ w, (Builtin.len_ ats t #[.slice A n c]).run P w = .ok (.int .i64 (n : Int)) w) (ht : o.type = t) : (execOp a.eval o).run P w = .ok (.value (.int .i64 (n : Int))) w := y_len (S := fun _ => True) ho hx hl ht w trivial
theorem v_box {t : TypeId} {x : Operand} {u : Value} {cs : List Value} (ho : o.op = .box t x) (hx : a.eval x = u) (h : ∀ w, (Instr.box t u).run P w = .ok (.pointer (some ⟨w.heap.size, 0, none⟩)) (w.alloc (.cells cs.toArray t))) : (execOp a.eval o).run P w = .ok (.value (.pointer (some ⟨w.heap.size, 0, none⟩))) (w.alloc (.cells cs.toArray t)) := by
  simp [execOp, ho, hx, h]
theorem args1 {x : Operand} {u : Value} (h : a.eval x = u) : (#[x] : Array Operand).toList.map a.eval = (#[u] : Array Value).toList := by simp [h]
theorem args2 {x y : Operand} {u v : Value} (h : a.eval x = u) (h2 : a.eval y = v) : (#[x, y] : Array Operand).toList.map a.eval = (#[u, v] : Array Value).toList := by simp [h, h2]
theorem args3 {x y z : Operand} {u v r : Value} (h : a.eval x = u) (h2 : a.eval y = v) (h3 : a.eval z = r) : (#[x, y, z] : Array Operand).toList.map a.eval = (#[u, v, r] : Array Value).toList := by simp [h, h2, h3]
theorem args4 {x y z s : Operand} {u v r q : Value} (h : a.eval x = u) (h2 : a.eval y = v) (h3 : a.eval z = r) (h4 : a.eval s = q) : (#[x, y, z, s] : Array Operand).toList.map a.eval = (#[u, v, r, q] : Array Value).toList := by simp [h, h2, h3, h4]
theorem v_build {t : TypeId} {parts : Array (Nat × Operand)} {ps : List (Nat × Value)} {cells : Array Value} (ho : o.op = .build t parts) (hp : (parts.map fun (i, x) => (i, a.eval x)) = ps.toArray) (h : P.built t ps = some cells) : (execOp a.eval o).run P w = .ok (.value (.agg cells)) w := by
  simp only [execOp, ho, hp, Sem.run_bind, run_build w t ps.toArray cells h, Result.andThen_ok]
  rfl
theorem parts0 : ((#[] : Array (Nat × Operand)).map fun (i, x) => (i, a.eval x)) = ([] : List (Nat × Value)).toArray := by simp
theorem parts1 {i : Nat} {x : Operand} {u : Value} (h : a.eval x = u) : ((#[(i, x)] : Array (Nat × Operand)).map fun (i, x) => (i, a.eval x)) = [(i, u)].toArray := by simp [h]
theorem parts2 {i j : Nat} {x y : Operand} {u v : Value} (h : a.eval x = u) (h2 : a.eval y = v) : ((#[(i, x), (j, y)] : Array (Nat × Operand)).map fun (i, x) => (i, a.eval x)) = [(i, u), (j, v)].toArray := by simp [h, h2]
theorem parts3 {i j k : Nat} {x y z : Operand} {u v r : Value} (h : a.eval x = u) (h2 : a.eval y = v) (h3 : a.eval z = r) : ((#[(i, x), (j, y), (k, z)] : Array (Nat × Operand)).map fun (i, x) => (i, a.eval x)) = [(i, u), (j, v), (k, r)].toArray := by simp [h, h2, h3]
theorem v_neg {t : TypeId} {x : Operand} {m : Int} (ho : o.op = .unOp .neg t x) (hx : a.eval x = .int .i64 m) (hr : -9223372036854775808 ≤ -m ∧ -m ≤ 9223372036854775807) : (execOp a.eval o).run P w = .ok (.value (.int .i64 (-m))) w := by
  simp [execOp, ho, hx, Op.unary, Op.intArith, IntWalk.i64_in (-m) hr]
theorem v_conv {s d : TypeId} {x : Operand} {u v : Value} (ho : o.op = .convert s d x) (hx : a.eval x = u) (h : (convert s d u).run P w = .ok v w) : (execOp a.eval o).run P w = .ok (.value v) w := by
  simp [execOp, ho, hx, h]
theorem v_bin {op : BinOp} {t t' : TypeId} {x y : Operand} {u v r : Value} (ho : o.op = .binOp op t x y t') (hx : a.eval x = u) (hy : a.eval y = v) (hg : ∀ w, (eqGuard op t x y u v).run P w = .ok () w) (h : ∀ w, (binOp op t u v).run P w = .ok r w) : (execOp a.eval o).run P w = .ok (.value r) w := by
  simp [execOp, ho, hx, hy, hg, h]
theorem v_load {t : TypeId} {x : Operand} {p : Addr} {v : Value} (ho : o.op = .load t x) (hx : a.eval x = .pointer (some p)) (hl : (loadVar t p).run P w = .ok v w) : (execOp a.eval o).run P w = .ok (.value v) w := by
  simp [execOp, ho, hx, Instr.loadAt, Instr.sureAddr, hl]
theorem l_one {t : TypeId} {p : Addr} {v : Value} (ht : ∀ w, (isAgg t).run P w = .ok false w) (hc : w.cell? p = some v) : (loadVar t p).run P w = .ok v w := by
  simp [loadVar, ht, load, Sem.run, hc]
theorem l_two {t tt : TypeId} {b : Nat} {v0 v1 : Value} (ht : ∀ w, (isAgg t).run P w = .ok true w) (hs : ∀ w, (sizeOf t).run P w = .ok 2 w) (hc : Blk w b tt [v0, v1]) : (loadVar t ⟨b, 0, none⟩).run P w = .ok (.agg #[v0, v1]) w := by
  have h0 : w.cell? ⟨b, 0, none⟩ = some v0 := hc.cell 0
  have h1 : w.cell? ⟨b, 1, none⟩ = some v1 := hc.cell 1
  have hadd : (⟨b, 0, none⟩ : Addr).add 1 = ⟨b, 1, none⟩ := by simp [Addr.add]
  have hadd0 : (⟨b, 0, none⟩ : Addr).add 0 = ⟨b, 0, none⟩ := by simp [Addr.add]
  simp [loadVar, ht, hs, loadCells, loadCellsFrom, load, Sem.run, hadd, hadd0, h0, h1]
theorem a_store' {t : TypeId} {x y : Operand} {p : Addr} {v : Value} {K : Act → World → Prop} {Q : Exit → Act → World → Prop} {w' : World} (ho : o.op = .store t x y) (hx : a.eval x = .pointer (some p)) (hy : a.eval y = v) (hs : (storeVar t p v).run P w = .ok () w') (h : K (a.put o.dst undef) w') : o.wp P a w K Q := by
  unfold Oper.wp
  simp [execOp, ho, hx, hy, Instr.storeAt, Instr.sureAddr, hs, Oper.upon_skip, h]
theorem s_two {t tt : TypeId} {b : Nat} {u0 u1 v0 v1 : Value} (hs : ∀ w, (sizeOf t).run P w = .ok 2 w) (hv : (Value.agg #[v0, v1]).cells = #[v0, v1]) (h0 : v0.oneCell' = true) (h1 : v1.oneCell' = true) (hb : Blk w b tt [u0, u1]) :
    ∃ w', w' = (w.setCell ⟨b, 0, none⟩ v0).setCell ⟨b, 1, none⟩ v1 ∧ (storeVar t ⟨b, 0, none⟩ (.agg #[v0, v1])).run P w = .ok () w' ∧ Blk w' b tt [v0, v1] ∧ Upd (fun k => k = b) w w' ∧ ∀ g s cs, g ≠ b → Blk w g s cs → Blk w' g s cs := by
  have hb1 := hb.set_ 0 v0
  have hst0 : (store ⟨b, 0, none⟩ v0).run P w = .ok () (w.setCell ⟨b, 0, none⟩ v0) := by
    rw [run_store P w _ v0 _ h0]
    have := hb.cell 0
    simp [this, hb.frozen 0]
  have hst1 : (store ⟨b, 1, none⟩ v1).run P (w.setCell ⟨b, 0, none⟩ v0) = .ok () ((w.setCell ⟨b, 0, none⟩ v0).setCell ⟨b, 1, none⟩ v1) := by
    rw [run_store P _ _ v1 _ h1]
    have := hb1.cell 1
    simp [this, hb1.frozen 1]
  have hadd : (⟨b, 0, none⟩ : Addr).add 1 = ⟨b, 1, none⟩ := by simp [Addr.add]
  have hadd0 : (⟨b, 0, none⟩ : Addr).add 0 = ⟨b, 0, none⟩ := by simp [Addr.add]
  refine ⟨_, rfl, ?_, (hb.set_ 0 v0).set_ 1 v1, ((Upd.refl (fun k => k = b) w).setCell (.inl rfl) v0).setCell (.inl rfl) v1, fun g s cs hg h => (h.far hg _).far hg _⟩
  simp [storeVar, hs, hv, storeCells, hadd, hadd0, hst0, hst1]
theorem s_one {t tt : TypeId} {b i : Nat} {cs : List Value} {v : Value} (hs : ∀ w, (sizeOf t).run P w = .ok 1 w) (hv : v.cells = #[v]) (h1 : v.oneCell' = true) (hb : Blk w b tt cs) (hi : i < cs.length) :
    ∃ w', w' = w.setCell ⟨b, i, none⟩ v ∧ (storeVar t ⟨b, i, none⟩ v).run P w = .ok () w' ∧ Blk w' b tt (cs.set i v) ∧ Upd (fun k => k = b) w w' ∧ ∀ g s cs, g ≠ b → Blk w g s cs → Blk w' g s cs := by
  have hst : (store ⟨b, i, none⟩ v).run P w = .ok () (w.setCell ⟨b, i, none⟩ v) := by
    rw [run_store P w _ v _ h1]
    have := hb.cell i
    rw [List.getElem?_eq_getElem hi] at this
    simp [this, hb.frozen i]
  have hadd0 : (⟨b, i, none⟩ : Addr).add 0 = ⟨b, i, none⟩ := by simp [Addr.add]
  refine ⟨_, rfl, ?_, hb.set_ i v, (Upd.refl (fun k => k = b) w).setCell (.inl rfl) v, fun g s cs hg h => h.far hg _⟩
  simp [storeVar, hs, hv, storeCells, hadd0, hst]
theorem put_got {a : Act} {d : Nat} {v : Value} {N : Nat} (hs : a.tmps.size = N) (h : (d < N : Prop)) : (a.put (some d) v).eval (.tmp d) = v := put_same a d v (by omega)
end
section
variable {P : Program} {t : TypeId} {k : IntKind} {x y : Int} {r : Bool}
theorem r_eql (h : decide (x = y) = r) : ∀ w, (binOp .eql t (.int k x) (.int k y)).run P w = .ok (.bool r) w := by
  intro w; subst h; simp [binOp, Op.intCmp]; rfl
theorem r_neq (h : decide (x = y) = r) : ∀ w, (binOp .neq t (.int k x) (.int k y)).run P w = .ok (.bool (!r)) w := by
  intro w; subst h; simp [binOp, Op.intCmp]; rfl
theorem r_lssK (h : decide (x < y) = r) : ∀ w, (binOp .lss t (.int k x) (.int k y)).run P w = .ok (.bool r) w := by
  intro w; subst h; simp [binOp, Op.intCmp]
theorem r_geqK (h : decide (x < y) = r) : ∀ w, (binOp .geq t (.int k x) (.int k y)).run P w = .ok (.bool (!r)) w := by
  intro w; subst h; simp [binOp, Op.intCmp]; rw [← decide_not]; congr 1; simp
theorem r_leqK (h : decide (x ≤ y) = r) : ∀ w, (binOp .leq t (.int k x) (.int k y)).run P w = .ok (.bool r) w := by
  intro w; subst h; simp [binOp, Op.intCmp]
theorem r_gtrK (h : decide (x ≤ y) = r) : ∀ w, (binOp .gtr t (.int k x) (.int k y)).run P w = .ok (.bool (!r)) w := by
  intro w; subst h; simp [binOp, Op.intCmp]; rw [← decide_not]; congr 1; simp
end
def strEq (a b : ByteArray) : Bool := a.toList == b.toList
theorem r_eqlS {P : Program} {t : TypeId} {a b : ByteArray} {r : Bool} (h : strEq a b = r) : ∀ w, (binOp .eql t (.string a) (.string b)).run P w = .ok (.bool r) w := by
  intro w; subst h; simp [binOp, Op.stringOp]; rfl
theorem r_neqS {P : Program} {t : TypeId} {a b : ByteArray} {r : Bool} (h : strEq a b = r) : ∀ w, (binOp .neq t (.string a) (.string b)).run P w = .ok (.bool (!r)) w := by
  intro w; subst h; simp [binOp, Op.stringOp]; rfl
def IsRet (v : Value) (w : World) (e : Ending) (w' : World) : Prop := e = .returned v ∧ New w w'
end Go.Proofs.YtjakfchffigkkaaGreatDoor
