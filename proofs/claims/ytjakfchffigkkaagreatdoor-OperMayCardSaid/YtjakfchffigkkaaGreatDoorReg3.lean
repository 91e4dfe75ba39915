/- A drawn region in two parts: operations that may come in any order (calls that make memory beside loads and new boxes), each shown once; then operations in one forced order. -/
import Derived.Test.YtjakfchffigkkaaGreatDoorReg2
namespace Go.Proofs.YtjakfchffigkkaaGreatDoor
open Go.RowKit
section
variable {P : Program} {ops : Array Oper} {Q : Exit → Act → World → Prop}
theorem put_size (a : Act) (d : Option Tmp) (v : Value) : (a.put d v).tmps.size = a.tmps.size := by cases d <;> simp [Act.put]
theorem put_defers (a : Act) (d : Option Tmp) (v : Value) : (a.put d v).defers = a.defers := by cases d <;> rfl
theorem put_same (a : Act) (d : Nat) (v : Value) (h : d < a.tmps.size) : (a.put (some d) v).eval (.tmp d) = v := by simp [Act.put, Act.eval, Array.getD, h]
theorem put_ne (a : Act) (d j : Nat) (v : Value) (h : d ≠ j) : (a.put (some d) v).eval (.tmp j) = a.eval (.tmp j) := by simp [Act.put, Act.eval, Array.getElem?_setIfInBounds_ne h]
def cntU (F l : Array Bool) : Nat → Nat
  | 0 => 0
  | n + 1 => cntU F l n + if F.getD n false && !l.getD n false then 1 else 0
theorem cntU_far (F l : Array Bool) {i n : Nat} (h : n ≤ i) : cntU F (l.setIfInBounds i true) n = cntU F l n := by
  induction n with
  | zero => rfl
  | succ n ih => rw [cntU, cntU, ih (by omega), getD_set_ne false (by omega)]
theorem cntU_set (F l : Array Bool) {i n : Nat} (h : i < n) (hF : F.getD i false = true) (hl : l.getD i false = false) (hs : i < l.size) : cntU F (l.setIfInBounds i true) n + 1 = cntU F l n := by
  induction n with
  | zero => omega
  | succ n ih =>
    rw [cntU, cntU]
    by_cases hin : i = n
    · subst hin
      rw [cntU_far F l (Nat.le_refl _), hF, hl]
      simp [hs]
    · rw [getD_set_ne false (by omega), ← ih (by omega)]
      omega
theorem cntU_zero (F l : Array Bool) {n : Nat} (h : cntU F l n = 0) : ∀ i, i < n → F.getD i false = true → l.getD i false = true := by
  induction n with
  | zero => intro i hi; omega
  | succ n ih =>
    rw [cntU] at h
    intro i hi hF
    by_cases hin : i = n
    · subst hin
      cases hb : l.getD i false with
      | true => rfl
      | false => rw [hF, hb] at h; simp at h
    · exact ih (by omega) i (by omega) hF
def inUp (ops : Array Oper) : Nat → Nat → Nat → Bool
  | 0, _, _ => false
  | n + 1, j, f => match ops[j]? with
    | none => false
    | some o => o.after.any fun e => Region.binds .any e && (e.on == f || inUp ops n e.on f)
def dstsOk (ops : Array Oper) (N : Nat) : Bool :=
  (List.range ops.size).all fun i => match (ops[i]?).bind (·.dst) with
    | none => true
    | some d => decide (d < N) && (List.range ops.size).all fun j => i == j || !((ops[j]?).bind (·.dst) == some d)
def freeAll (ops : Array Oper) (i : Nat) : Bool :=
  match ops[i]? with
  | none => false
  | some oi => (List.range ops.size).all fun j => match ops[j]? with
    | none => true
    | some oj => j == i || inUp ops 6 i j || oj.after.any (fun e => Region.binds .any e && e.on == i) || oi.apart ops oj
def invCheck (ops : Array Oper) (F : Array Bool) (E : List Nat) (R : List (Nat × Bool)) (N : Nat) : Bool :=
  Region.noSelect ops && (F.size == ops.size) && decide (ops.size < 1000) && (cntU F (Array.replicate ops.size false) ops.size + R.length == ops.size) && dstsOk ops N
    && ((List.range ops.size).all fun i => match ops[i]? with
      | none => true
      | some o => o.after.all fun e => !Region.binds .any e || (decide (e.on < i) && (!F.getD i false || F.getD e.on false)))
    && ((List.range ops.size).all fun j => F.getD j false || (List.range ops.size).all fun f => !F.getD f false || E.contains f || inUp ops 6 j f)
    && (E.all fun i => F.getD i false && freeAll ops i)
    && chkM .any ops R F
def putAll (F : Array Bool) (vals : Nat → Value) : List Oper → Nat → Act → Act
  | [], _, a => a
  | o :: r, i, a => putAll F vals r (i + 1) (if F.getD i false then a.put o.dst (vals i) else a)
structure Shape (ops : Array Oper) (a0 : Act) (vals : Nat → Value) (l : Array Bool) (a : Act) : Prop where
  size : a.tmps.size = a0.tmps.size
  defers : a.defers = a0.defers
  got : ∀ i o d, ops[i]? = some o → o.dst = some d → l.getD i false = true → a.tmps.getD d undef = vals i
  rest : ∀ d, (∀ i o, ops[i]? = some o → l.getD i false = true → o.dst ≠ some d) → a.tmps.getD d undef = a0.tmps.getD d undef
def upd1 (vals : Nat → Value) (i : Nat) (v : Value) : Nat → Value := fun k => if k = i then v else vals k
theorem dsts_spec {N : Nat} (h : dstsOk ops N = true) {i : Nat} {o : Oper} {d : Nat} (hi : ops[i]? = some o) (hd : o.dst = some d) : d < N ∧ ∀ j oj, ops[j]? = some oj → oj.dst = some d → i = j := by
  have hlt : i < ops.size := by rw [Array.getElem?_eq_some_iff] at hi; exact hi.1
  unfold dstsOk at h
  rw [List.all_eq_true] at h
  have h1 := h i (List.mem_range.2 hlt)
  rw [hi] at h1
  simp only [Option.bind_some, hd, Bool.and_eq_true, decide_eq_true_eq, List.all_eq_true] at h1
  refine ⟨h1.1, fun j oj hj hdj => ?_⟩
  have hltj : j < ops.size := by rw [Array.getElem?_eq_some_iff] at hj; exact hj.1
  have h2 := h1.2 j (List.mem_range.2 hltj)
  rw [hj] at h2
  simp only [Option.bind_some, hdj, beq_self_eq_true, Bool.not_true, Bool.or_false, beq_iff_eq] at h2
  exact h2
theorem Shape.put {a0 a : Act} {vals : Nat → Value} {l : Array Bool} (h : Shape ops a0 vals l a) {N : Nat} (hN : a0.tmps.size = N) (hd : dstsOk ops N = true) {i : Nat} {o : Oper} (hi : ops[i]? = some o) (hl : l.getD i false = false) (hs : i < l.size) (v : Value) :
    Shape ops a0 (upd1 vals i v) (l.setIfInBounds i true) (a.put o.dst v) := by
  have hone : ∀ j, (l.setIfInBounds i true).getD j false = if j = i then true else l.getD j false := fun j => by
    by_cases hj : j = i
    · subst hj; simp [hs]
    · rw [if_neg hj, getD_set_ne false (fun h => hj h.symm)]
  refine ⟨by rw [put_size]; exact h.size, by rw [put_defers]; exact h.defers, ?_, ?_⟩
  · intro j oj d hj hdj hlj
    rw [hone] at hlj
    by_cases hji : j = i
    · subst hji
      obtain rfl : oj = o := by rw [hi] at hj; cases hj; rfl
      rw [hdj, upd1, if_pos rfl]
      exact put_same a d v (by rw [h.size, hN]; exact (dsts_spec hd hj hdj).1)
    · rw [if_neg hji] at hlj
      rw [upd1, if_neg hji, ← h.got j oj d hj hdj hlj]
      cases hdo : o.dst with
      | none => rfl
      | some d' =>
        exact put_ne a d' d v (fun he => hji ((dsts_spec hd hj hdj).2 i o hi (by rw [hdo, he])))
  · intro d hno
    have h1 := hno i o hi (by rw [hone, if_pos rfl])
    rw [← h.rest d fun j oj hj hlj => hno j oj hj (by rw [hone]; split; rfl; exact hlj)]
    cases hdo : o.dst with
    | none => rfl
    | some d' => exact put_ne a d' d v (fun he => h1 (by rw [hdo, he]))
theorem Act.ext_eval {a b : Act} (hs : a.tmps.size = b.tmps.size) (hd : a.defers = b.defers) (h : ∀ d, a.tmps.getD d undef = b.tmps.getD d undef) : a = b := by
  cases a with | mk t ds => cases b with | mk t' ds' =>
    simp only at hs hd h
    subst hd
    congr 1
    apply Array.ext hs
    intro i h1 h2
    have := h i
    simpa [Array.getD, h1, h2] using this
theorem putAll_size (F : Array Bool) (vals : Nat → Value) : ∀ (os : List Oper) (k : Nat) (a : Act), (putAll F vals os k a).tmps.size = a.tmps.size
  | [], _, _ => rfl
  | o :: r, k, a => by
    rw [putAll, putAll_size F vals r]
    split
    · rw [put_size]
    · rfl
theorem putAll_defers (F : Array Bool) (vals : Nat → Value) : ∀ (os : List Oper) (k : Nat) (a : Act), (putAll F vals os k a).defers = a.defers
  | [], _, _ => rfl
  | o :: r, k, a => by
    rw [putAll, putAll_defers F vals r]
    split
    · rw [put_defers]
    · rfl
theorem putAll_far (F : Array Bool) (vals : Nat → Value) (d : Nat) : ∀ (os : List Oper) (k : Nat) (a : Act), (∀ i o, os[i]? = some o → F.getD (k + i) false = true → o.dst ≠ some d) → (putAll F vals os k a).tmps.getD d undef = a.tmps.getD d undef
  | [], _, _, _ => rfl
  | o :: r, k, a, h => by
    rw [putAll, putAll_far F vals d r (k + 1) _ fun i o' hi hF => h (i + 1) o' (by simpa using hi) (by rw [← hF]; congr 1; omega)]
    split
    · rename_i hF
      have h0 := h 0 o rfl hF
      cases hdo : o.dst with
      | none => rfl
      | some d' => exact put_ne a d' d _ (fun he => h0 (by rw [hdo, he]))
    · rfl
theorem putAll_got (F : Array Bool) (vals : Nat → Value) (N d : Nat) (hd : d < N) : ∀ (os : List Oper) (k : Nat) (a : Act), a.tmps.size = N → ∀ i o, os[i]? = some o → F.getD (k + i) false = true → o.dst = some d → (∀ j oj, os[j]? = some oj → oj.dst = some d → i = j) → (putAll F vals os k a).tmps.getD d undef = vals (k + i)
  | [], _, _, _, i, o, hi, _, _, _ => by simp at hi
  | x :: r, k, a, hN, 0, o, hi, hF, hdo, hone => by
    obtain rfl : x = o := by simpa using hi
    rw [putAll, putAll_far F vals d r (k + 1) _ fun j oj hj _ hdj => by have := hone (j + 1) oj (by simpa using hj) hdj; omega]
    rw [Nat.add_zero] at hF ⊢
    rw [if_pos hF, hdo]
    exact put_same a d _ (by omega)
  | x :: r, k, a, hN, i + 1, o, hi, hF, hdo, hone => by
    rw [putAll, putAll_got F vals N d hd r (k + 1) _ (by split <;> first | (rw [put_size]; exact hN) | exact hN) i o (by simpa using hi) (by rw [← hF]; congr 1; omega) hdo fun j oj hj hdj => by have := hone (j + 1) oj (by simpa using hj) hdj; omega]
    congr 1
    omega
theorem Shape.all {a0 a : Act} {vals : Nat → Value} {F : Array Bool} (h : Shape ops a0 vals F a) {N : Nat} (hN : a0.tmps.size = N) (hd : dstsOk ops N = true) : a = putAll F vals ops.toList 0 a0 := by
  refine Act.ext_eval (by rw [h.size, putAll_size]) (by rw [h.defers, putAll_defers]) fun d => ?_
  by_cases hx : ∃ i o, ops[i]? = some o ∧ F.getD i false = true ∧ o.dst = some d
  · obtain ⟨i, o, hi, hF, hdo⟩ := hx
    rw [h.got i o d hi hdo hF, putAll_got F vals N d (dsts_spec hd hi hdo).1 ops.toList 0 a0 hN i o (by simpa using hi) (by simpa using hF) hdo fun j oj hj hdj => (dsts_spec hd hi hdo).2 j oj (by simpa using hj) hdj]
    simp
  · rw [h.rest d fun i o hi hF hdo => hx ⟨i, o, hi, hF, hdo⟩, putAll_far F vals d ops.toList 0 a0 fun i o hi hF hdo => hx ⟨i, o, by simpa using hi, by simpa using hF, hdo⟩]
theorem inUp_listed {l : Array Bool} (hcl : ∀ i o, ops[i]? = some o → l.getD i false = true → ∀ e ∈ o.after, Region.binds .any e = true → l.getD e.on false = true) :
    ∀ (n j f : Nat), inUp ops n j f = true → (∀ o, ops[j]? = some o → ∀ e ∈ o.after, Region.binds .any e = true → l.getD e.on false = true) → l.getD f false = true
  | 0, _, _, h, _ => by simp [inUp] at h
  | n + 1, j, f, h, hj => by
    rw [inUp] at h
    split at h
    · cases h
    · rename_i o ho
      rw [Array.any_eq_true] at h
      obtain ⟨k, hk, he⟩ := h
      simp only [Bool.and_eq_true, Bool.or_eq_true, beq_iff_eq] at he
      have h1 := hj o ho _ (Array.getElem_mem hk) he.1
      rcases he.2 with he2 | he2
      · rw [he2] at h1; exact h1
      · exact inUp_listed hcl n _ f he2 fun o' ho' => hcl _ o' ho' h1
theorem freeAll_spec {i : Nat} {oi : Oper} (hi : ops[i]? = some oi) (h : freeAll ops i = true) : ∀ j oj, ops[j]? = some oj → j ≠ i → inUp ops 6 i j = false → (∀ ed ∈ oj.after, Region.binds .any ed = true → ed.on ≠ i) → oi.apart ops oj = true := by
  unfold freeAll at h
  rw [hi] at h
  intro j oj hj hji hnu hno
  have hlt : j < ops.size := by rw [Array.getElem?_eq_some_iff] at hj; exact hj.1
  have h1 := (List.all_eq_true.1 h) j (List.mem_range.2 hlt)
  rw [hj] at h1
  rw [hnu] at h1
  simp only [Bool.or_eq_true, Bool.false_eq_true, or_false, beq_iff_eq] at h1
  rcases h1 with (h1 | h1) | h1
  · exact absurd h1 hji
  · rw [Array.any_eq_true] at h1
    obtain ⟨k, hk, he⟩ := h1
    simp only [Bool.and_eq_true, beq_iff_eq] at he
    exact absurd he.2 (hno _ (Array.getElem_mem hk) he.1)
  · exact h1
def afterOf (ops : Array Oper) (i : Nat) : List Nat := match ops[i]? with
  | none => []
  | some o => (o.after.toList.filter fun e => Region.binds .any e).map (·.on)
def fixedB (ops : Array Oper) (F : Array Bool) (d : Nat) : Bool := (List.range ops.size).all fun k => !F.getD k false || !((ops[k]?).bind (·.dst) == some d)
structure Known (ops : Array Oper) (F : Array Bool) (T : Nat → Value → World → Prop) (a0 : Act) (i : Nat) (a : Act) (w : World) : Prop where
  dep : ∀ k d, (afterOf ops i).contains k = true → (ops[k]?).bind (·.dst) = some d → T k (a.eval (.tmp d)) w
  fix : ∀ d, fixedB ops F d = true → a.eval (.tmp d) = a0.eval (.tmp d)
def StepOk (P : Program) (ops : Array Oper) (Q : Exit → Act → World → Prop) (F : Array Bool) (T : Nat → Value → World → Prop) (a0 : Act) (w0 : World) (i : Nat) : Prop :=
  ∃ o, ops.toList[i]? = some o ∧ ∀ a w, New w0 w → Known ops F T a0 i a w → wpOp P ops Q i (fun a' w' => ∃ v, a' = a.put o.dst v ∧ New w w' ∧ T i v w') a w
def NewPtr (v : Value) (w : World) : Prop := ∃ q, v = .pointer (some ⟨q, 0, none⟩) ∧ w.heap.size ≤ q
def OldPtr (v : Value) (w : World) : Prop := ∃ q, v = .pointer (some ⟨q, 0, none⟩) ∧ q < w.heap.size
def StepOkN (P : Program) (ops : Array Oper) (Q : Exit → Act → World → Prop) (F : Array Bool) (T : Nat → Value → World → Prop) (a0 : Act) (w0 : World) (i : Nat) : Prop :=
  ∃ o, ops.toList[i]? = some o ∧ ∀ a w, New w0 w → Known ops F T a0 i a w → wpOp P ops Q i (fun a' w' => ∃ v, a' = a.put o.dst v ∧ New w w' ∧ T i v w' ∧ NewPtr v w) a w
def StepG (P : Program) (ops : Array Oper) (Q : Exit → Act → World → Prop) (F : Array Bool) (T : Nat → Value → World → Prop) (a0 : Act) (w0 : World) (news : List Nat) (i : Nat) : Prop :=
  (news.contains i = false ∧ StepOk P ops Q F T a0 w0 i) ∨ StepOkN P ops Q F T a0 w0 i
def EagerOk (P : Program) (ops : Array Oper) (F : Array Bool) (T : Nat → Value → World → Prop) (a0 : Act) (w0 : World) (i : Nat) : Prop :=
  ∃ o, ops.toList[i]? = some o ∧ ∀ a w, New w0 w → Known ops F T a0 i a w → ∃ v, YieldsIf P ops (fun _ => True) o v a ∧ T i v w
theorem wpJ_inv {a0 : Act} {w0 : World} {F : Array Bool} {E : List Nat} {R : List (Nat × Bool)} {N : Nat} (T : Nat → Value → World → Prop) (news : List Nat) (hEN : ∀ i, E.contains i = true → news.contains i = false) (hold : ∀ j, news.contains j = true → ∀ v w, T j v w → OldPtr v w) (hc : invCheck ops F E R N = true) (hN : a0.tmps.size = N)
    (hQ : ∀ c a d v w, Q (.panic c) (a.put d v) w → Q (.panic c) a w)
    (hT : ∀ i v w w', New w w' → T i v w → T i v w')
    (hstep : ∀ i, F.getD i false = true → E.contains i = false → StepG P ops Q F T a0 w0 news i) (heager : ∀ i, E.contains i = true → EagerOk P ops F T a0 w0 i)
    (hend : ∀ vals w, New w0 w → (∀ i, F.getD i false = true → T i (vals i) w) → (∀ i j, F.getD i false = true → F.getD j false = true → news.contains i = true → news.contains j = true → i ≠ j → vals i ≠ vals j) → stepsTo P ops (fun _ => True) Q R (putAll F vals ops.toList 0 a0) w) :
    ∀ (n : Nat) (l : Array Bool) (vals : Nat → Value) (a : Act) (w : World), cntU F l ops.size = n → l.size = ops.size → (∀ i, l.getD i false = true → F.getD i false = true) →
      (∀ i o, ops[i]? = some o → l.getD i false = true → ∀ e ∈ o.after, Region.binds .any e = true → l.getD e.on false = true) →
      Shape ops a0 vals l a → New w0 w → (∀ i, l.getD i false = true → T i (vals i) w) →
      (∀ i j, l.getD i false = true → l.getD j false = true → news.contains i = true → news.contains j = true → i ≠ j → vals i ≠ vals j) → wpJ P .any ops Q (fun _ => True) 1000 (n + R.length) l a w := by
  have hc0 := hc
  simp only [invCheck, Bool.and_eq_true, beq_iff_eq, decide_eq_true_eq] at hc
  obtain ⟨⟨⟨⟨⟨⟨⟨⟨hsel, hFs⟩, h1000⟩, hcnt⟩, hdst⟩, hlow⟩, hup⟩, hE⟩, hM⟩ := hc
  rw [List.all_eq_true] at hE
  have hEF : ∀ i, E.contains i = true → F.getD i false = true ∧ freeAll ops i = true := fun i hi => by
    have := hE i (by simpa using hi)
    simpa using this
  intro n
  induction n with
  | zero =>
    intro l vals a w hn hls hlF hcl hsh hw hTl hD
    obtain rfl : l = F := by
      apply Array.ext (by rw [hls, hFs])
      intro i h1 h2
      have e1 : l.getD i false = l[i] := by simp [Array.getD, h1]
      have e2 : F.getD i false = F[i] := by simp [Array.getD, h2]
      rw [← e1, ← e2]
      cases hb : F.getD i false with
      | true => exact cntU_zero F l hn i (by omega) hb
      | false => cases hb2 : l.getD i false with
        | false => rfl
        | true => rw [hlF i hb2] at hb; cases hb
    rw [Nat.zero_add, hsh.all hN hdst]
    exact wpJ_steps hsel h1000 hQ R _ _ w hM trivial (hend vals w hw hTl hD)
  | succ n ih =>
    intro l vals a w hn hls hlF hcl hsh hw hTl hD
    have hknown : ∀ i o, ops[i]? = some o → (∀ e ∈ o.after, Region.binds .any e = true → l.getD e.on false = true) → Known ops F T a0 i a w := by
      intro i o ho hall
      refine ⟨fun k d hk hd => ?_, fun d hd => ?_⟩
      · have hmem : ∃ e ∈ o.after, Region.binds .any e = true ∧ e.on = k := by
          unfold afterOf at hk
          rw [ho] at hk
          simp only [List.contains_eq_mem, List.mem_map, List.mem_filter, Array.mem_toList_iff, decide_eq_true_eq] at hk
          obtain ⟨e, ⟨h1, h2⟩, h3⟩ := hk
          exact ⟨e, h1, h2, h3⟩
        obtain ⟨e, he, hb, rfl⟩ := hmem
        have hle := hall e he hb
        cases hok : ops[e.on]? with
        | none => rw [hok] at hd; simp at hd
        | some ok =>
          rw [hok] at hd
          have := hsh.got e.on ok d hok (by simpa using hd) hle
          show T e.on (a.tmps.getD d undef) w
          rw [this]
          exact hTl e.on hle
      · refine hsh.rest d fun k ok hk hlk hdk => ?_
        unfold fixedB at hd
        have hlt : k < ops.size := by rw [Array.getElem?_eq_some_iff] at hk; exact hk.1
        have := (List.all_eq_true.1 hd) k (List.mem_range.2 hlt)
        rw [hlF k hlk, hk] at this
        simp [hdk] at this
    have hgo : ∀ i o, ops[i]? = some o → F.getD i false = true → l.getD i false = false → (∀ e ∈ o.after, Region.binds .any e = true → l.getD e.on false = true) →
        ∀ v w', New w w' → T i v w' → (news.contains i = true → NewPtr v w) → wpJ P .any ops Q (fun _ => True) 1000 (n + R.length) (l.setIfInBounds i true) (a.put o.dst v) w' := by
      intro i o ho hF hl0 hall v w' hnw hTv hNv
      have hlt : i < ops.size := by rw [Array.getElem?_eq_some_iff] at ho; exact ho.1
      refine ih (l.setIfInBounds i true) (upd1 vals i v) _ w' ?_ (by simpa using hls) ?_ ?_ (hsh.put hN hdst ho hl0 (by omega) v) (hw.transNew hnw) ?_ ?_
      · have := cntU_set F l hlt hF hl0 (by omega); omega
      · intro j hj
        by_cases hji : j = i
        · rw [hji]; exact hF
        · rw [getD_set_ne false (fun h => hji h.symm)] at hj; exact hlF j hj
      · intro j oj hoj hj e he hb
        by_cases hji : j = i
        · subst hji
          rw [ho] at hoj; cases hoj
          exact getD_set_true (hall e he hb)
        · rw [getD_set_ne false (fun h => hji h.symm)] at hj
          exact getD_set_true (hcl j oj hoj hj e he hb)
      · intro j hj
        unfold upd1
        by_cases hji : j = i
        · rw [if_pos hji, hji]; exact hTv
        · rw [if_neg hji]
          rw [getD_set_ne false (fun h => hji h.symm)] at hj
          exact hT j _ _ _ hnw (hTl j hj)
      · have hne : ∀ j, j ≠ i → (l.setIfInBounds i true).getD j false = true → news.contains i = true → news.contains j = true → v ≠ vals j := by
          intro j hji hj hni hnj
          rw [getD_set_ne false (fun h => hji h.symm)] at hj
          obtain ⟨q, rfl, hq⟩ := hNv hni
          obtain ⟨q', hq', hlt'⟩ := hold j hnj _ _ (hTl j hj)
          rw [hq']
          intro he
          injection he with he
          injection he with he
          injection he with he _ _
          omega
        intro j k hj hk hnj hnk hjk
        unfold upd1
        by_cases hji : j = i
        · subst hji
          rw [if_pos rfl, if_neg (fun h => hjk h.symm)]
          exact hne k (fun h => hjk h.symm) hk hnj hnk
        · rw [if_neg hji]
          by_cases hki : k = i
          · subst hki
            rw [if_pos rfl]
            exact fun h => hne j hji hj hnk hnj h.symm
          · rw [if_neg hki]
            rw [getD_set_ne false (fun h => hji h.symm)] at hj
            rw [getD_set_ne false (fun h => hki h.symm)] at hk
            exact hD j k hj hk hnj hnk hjk
    have hrdy : ∀ i o, ops[i]? = some o → l.getD i false = false → (∀ e ∈ o.after, Region.binds .any e = true → l.getD e.on false = true) → i ∈ Region.ready .any ops l := by
      intro i o ho hl0 hall
      have hlt : i < l.size := by rw [Array.getElem?_eq_some_iff] at ho; obtain ⟨h, _⟩ := ho; omega
      refine mem_ready.2 ⟨?_, o, ho, hall⟩
      simp [Array.getD, hlt] at hl0 ⊢
      exact hl0
    rw [Nat.succ_add]
    by_cases heag : ∃ i o, E.contains i = true ∧ ops[i]? = some o ∧ l.getD i false = false ∧ ∀ e ∈ o.after, Region.binds .any e = true → l.getD e.on false = true
    · obtain ⟨i, o, hEi, ho, hl0, hall⟩ := heag
      obtain ⟨o', ho', hy⟩ := heager i hEi
      obtain rfl : o = o' := by rw [Array.getElem?_toList, ho] at ho'; cases ho'; rfl
      obtain ⟨v, hyv, hTv⟩ := hy a w hw (hknown i o ho hall)
      refine wpJ_first ho (Region.noSelect_spec hsel) (fun c a w => hQ c a _ _ w) ?_ _ l a w (fun j oj hj hji hun hno => freeAll_spec ho (hEF i hEi).2 j oj hj hji (by
        cases hu : inUp ops 6 i j with
        | false => rfl
        | true =>
          have h4 := inUp_listed hcl 6 i j hu fun o' ho' => by rw [ho] at ho'; cases ho'; exact hall
          have hlt : j < l.size := by rw [Array.getElem?_eq_some_iff] at hj; obtain ⟨h, _⟩ := hj; omega
          simp [Array.getD, hlt] at hun h4
          rw [h4] at hun
          cases hun) hno) (hrdy i o ho hl0 hall) hyv trivial (hgo i o ho (hEF i hEi).1 hl0 hall v w (Upd.refl _ _) hTv (fun h => by rw [hEN i hEi] at h; cases h))
      intro oe hoe
      rw [Array.getElem?_eq_none (by omega)] at hoe
      cases hoe
    · have hfull : (∀ i, i < ops.size → F.getD i false = true → l.getD i false = true) → False := by
        intro hall
        have hz : ∀ m, m ≤ ops.size → cntU F l m = 0 := by
          intro m
          induction m with
          | zero => intro _; rfl
          | succ m ihm =>
            intro hm
            rw [cntU, ihm (by omega)]
            cases hFm : F.getD m false with
            | false => simp
            | true => rw [hall m (by omega) hFm]; simp
        rw [hz _ (Nat.le_refl _)] at hn
        omega
      have hlowest : (∀ i o, ops[i]? = some o → F.getD i false = true → l.getD i false = false → (∀ e ∈ o.after, Region.binds .any e = true → l.getD e.on false = true) → False) → False := by
        intro hno
        refine hfull ?_
        have : ∀ m i, i < m → i < ops.size → F.getD i false = true → l.getD i false = true := by
          intro m
          induction m with
          | zero => intro i hi; omega
          | succ m ihm =>
            intro i hi hlt hF
            cases hb : l.getD i false with
            | true => rfl
            | false =>
              exfalso
              have ho : ops[i]? = some ops[i] := Array.getElem?_eq_getElem hlt
              have h2 := (List.all_eq_true.1 hlow) i (List.mem_range.2 hlt)
              rw [ho] at h2
              refine hno i ops[i] ho hF hb fun e he hbd => ?_
              obtain ⟨k, hk, rfl⟩ := Array.getElem_of_mem he
              have h3 := (Array.all_eq_true.1 h2) k hk
              rw [hbd, hF] at h3
              simp only [Bool.not_true, Bool.false_or, Bool.and_eq_true, decide_eq_true_eq] at h3
              exact ihm _ (by omega) (by omega) h3.2
        exact fun i hi hF => this (i + 1) i (by omega) hi hF
      have key : ∀ i ∈ Region.ready .any ops l, F.getD i false = true ∧ E.contains i = false := by
        intro i hi
        obtain ⟨hun, o, ho, hall⟩ := mem_ready.1 hi
        have hlt : i < ops.size := by rw [Array.getElem?_eq_some_iff] at ho; exact ho.1
        have hl0 : l.getD i false = false := by
          have : i < l.size := by omega
          simp [Array.getD, this] at hun ⊢
          exact hun
        have h2 := (List.all_eq_true.1 hup) i (List.mem_range.2 hlt)
        refine ⟨?_, ?_⟩
        · cases hF : F.getD i false with
          | true => rfl
          | false =>
            rw [hF, Bool.false_or, List.all_eq_true] at h2
            exfalso
            refine hlowest fun k ok hok hFk hlk hallk => ?_
            have hltk : k < ops.size := by rw [Array.getElem?_eq_some_iff] at hok; exact hok.1
            have h3 := h2 k (List.mem_range.2 hltk)
            rw [hFk] at h3
            cases hEk : E.contains k with
            | true => exact heag ⟨k, ok, hEk, hok, hlk, hallk⟩
            | false =>
              rw [hEk] at h3
              have h4 := inUp_listed hcl 6 i k (by simpa using h3) fun o' ho' => by rw [ho] at ho'; cases ho'; exact hall
              rw [h4] at hlk; cases hlk
        · cases hEi : E.contains i with
          | false => rfl
          | true => exact absurd ⟨i, o, hEi, ho, hl0, hall⟩ heag
      refine ⟨fun hr => ?_, fun i hi => ?_⟩
      · exfalso
        refine hlowest fun k ok hok hFk hlk hallk => ?_
        have := hrdy k ok hok hlk hallk
        rw [hr] at this
        cases this
      · obtain ⟨hun, o, ho, hall⟩ := mem_ready.1 hi
        have hlt : i < ops.size := by rw [Array.getElem?_eq_some_iff] at ho; exact ho.1
        have hl0 : l.getD i false = false := by
          have : i < l.size := by omega
          simp [Array.getD, this] at hun ⊢
          exact hun
        rcases hstep i (key i hi).1 (key i hi).2 with ⟨hni, o', ho', hst⟩ | ⟨o', ho', hst⟩
        · obtain rfl : o = o' := by rw [Array.getElem?_toList, ho] at ho'; cases ho'; rfl
          refine wpOp_mono ?_ (hst a w hw (hknown i o ho hall))
          rintro a' w' ⟨v, rfl, hnw, hTv⟩
          exact ⟨.inr trivial, hgo i o ho (key i hi).1 hl0 hall v w' hnw hTv (fun h => by rw [hni] at h; cases h)⟩
        · obtain rfl : o = o' := by rw [Array.getElem?_toList, ho] at ho'; cases ho'; rfl
          refine wpOp_mono ?_ (hst a w hw (hknown i o ho hall))
          rintro a' w' ⟨v, rfl, hnw, hTv, hNv⟩
          exact ⟨.inr trivial, hgo i o ho (key i hi).1 hl0 hall v w' hnw hTv (fun _ => hNv)⟩
theorem cntU_none : ∀ i, (Array.replicate ops.size false).getD i false = false := fun i => by
  simp only [Array.getD]
  split
  · simp
  · rfl
def putL (vals : Nat → Value) : List Bool → List Oper → Nat → Act → Act
  | true :: fs, o :: r, i, a => putL vals fs r (i + 1) (a.put o.dst (vals i))
  | false :: fs, _ :: r, i, a => putL vals fs r (i + 1) a
  | _, _, _, a => a
theorem putAll_putL (F : Array Bool) (vals : Nat → Value) : ∀ (os : List Oper) (fs : List Bool) (i : Nat) (a : Act), fs.length = os.length → (∀ k, k < fs.length → fs[k]? = some (F.getD (i + k) false)) → putAll F vals os i a = putL vals fs os i a
  | [], [], _, _, _, _ => rfl
  | o :: r, f :: fs, i, a, hl, h => by
    have h0 := h 0 (by simp)
    simp only [List.getElem?_cons_zero, Nat.add_zero, Option.some.injEq] at h0
    have ih := fun b => putAll_putL F vals r fs (i + 1) b (by simpa using hl) fun k hk => by
      have := h (k + 1) (by simpa using hk)
      rw [List.getElem?_cons_succ] at this
      rw [this]
      congr 2
      omega
    rw [putAll, ← h0]
    cases f
    · rw [putL, if_neg (by simp)]; exact ih _
    · rw [putL, if_pos rfl]; exact ih _
  | [], _ :: _, _, _, hl, _ => by simp at hl
  | _ :: _, [], _, _, hl, _ => by simp at hl
theorem wp_region_inv {id : Nat} {a0 : Act} {w0 : World} (fs : List Bool) (E : List Nat) (R : List (Nat × Bool)) (N : Nat) (T : Nat → Value → World → Prop) (hm : P.follows .mixedOrders = true) (hc : invCheck ops fs.toArray E R N = true) (hN : a0.tmps.size = N)
    (hQ : ∀ c a d v w, Q (.panic c) (a.put d v) w → Q (.panic c) a w)
    (hT : ∀ i v w w', New w w' → T i v w → T i v w')
    (hstep : ∀ i, fs.getD i false = true → E.contains i = false → StepOk P ops Q fs.toArray T a0 w0 i) (heager : ∀ i, E.contains i = true → EagerOk P ops fs.toArray T a0 w0 i)
    (hend : ∀ vals w, New w0 w → (∀ i, fs.getD i false = true → T i (vals i) w) → stepsTo P ops (fun _ => True) Q R (putL vals fs ops.toList 0 a0) w) : (Code.region id ops true).wp P Q a0 w0 := by
  have hget : ∀ i, fs.toArray.getD i false = fs.getD i false := fun i => by simp [Array.getD, List.getD]; split <;> simp [*]
  have hc0 := hc
  simp only [invCheck, Bool.and_eq_true, beq_iff_eq, decide_eq_true_eq] at hc0
  obtain ⟨⟨⟨⟨⟨⟨⟨⟨hsel, hFs⟩, h1000⟩, hcnt⟩, hdst⟩, hlow⟩, hup⟩, hE⟩, hM⟩ := hc0
  refine wp_region_any hm ?_
  have hgo := wpJ_inv (w0 := w0) (Q := Q) T [] (fun _ _ => rfl) (fun j h => by simp at h) hc hN hQ hT (fun i h1 h2 => .inl ⟨rfl, hstep i (by rw [← hget]; exact h1) h2⟩) heager ?_ _ (Array.replicate ops.size false) (fun _ => undef) a0 { w0 with drawn := w0.drawn + 1 } rfl (by simp) (fun i h => ?_) (fun i o _ h => ?_) ⟨rfl, rfl, fun i o d _ _ h => ?_, fun _ _ => rfl⟩ (Upd.refl _ _).drew (fun i h => ?_) (fun i j h => ?_)
  · rw [hcnt] at hgo; exact wpAny_of_J _ _ _ _ hgo
  · intro vals w hw hTl _
    rw [putAll_putL fs.toArray vals ops.toList fs 0 a0 (by simpa using hFs) fun k hk => by rw [Nat.zero_add, hget]; simp [List.getD, hk]]
    exact hend vals w hw fun i hi => hTl i (by rw [hget]; exact hi)
  all_goals
    rw [cntU_none (ops := ops) i] at h
    cases h
theorem step_take {T : Nat → Value → World → Prop} {F : Array Bool} {a0 : Act} {w0 : World} {i : Nat} {o : Oper} (hi : ops.toList[i]? = some o) (hg : o.guard = none)
    (h : ∀ a w, New w0 w → Known ops F T a0 i a w → ∃ v, (execOp a.eval o).run P w = .ok (.value v) w ∧ T i v w) : StepOk P ops Q F T a0 w0 i := by
  refine ⟨o, hi, fun a w hw hk => ?_⟩
  obtain ⟨v, hv, hT⟩ := h a w hw hk
  have hi' : ops[i]? = some o := by rw [← Array.getElem?_toList]; exact hi
  have hwt : Region.wanted o (yielded ops a.tmps) = true := by simp [Region.wanted, hg]
  unfold wpOp
  simp only [hi', hwt, if_true, Oper.wp, hv, Oper.upon]
  exact .inl ⟨v, rfl, Upd.refl _ _, hT⟩
theorem step_call {T : Nat → Value → World → Prop} {F : Array Bool} {a0 : Act} {w0 : World} {i : Nat} {o : Oper} {f : FuncId} {xs : Array Operand} {ats : Array TypeId} (hi : ops.toList[i]? = some o) (hg : o.guard = none)
    (ho : o.op = .call { callee := .value (.func f), args := xs, argTypes := ats })
    (h : ∀ a w, New w0 w → Known ops F T a0 i a w → ∃ (args : Array Value) (R : Ending → World → Prop), xs.toList.map a.eval = args.toList ∧ (∀ w, (callFunc f args).run P w = .ok (.enter f args) w) ∧ Calls P f args w R ∧ ∀ e w', R e w' → ∃ v, e = .returned v ∧ New w w' ∧ T i v w') : StepOk P ops Q F T a0 w0 i := by
  refine ⟨o, hi, fun a w hw hk => ?_⟩
  obtain ⟨args, R, hx, hcf, hc, hR⟩ := h a w hw hk
  have hi' : ops[i]? = some o := by rw [← Array.getElem?_toList]; exact hi
  have hwt : Region.wanted o (yielded ops a.tmps) = true := by simp [Region.wanted, hg]
  unfold wpOp
  simp only [hi', hwt, if_true]
  refine .inl (a_call ho hx hcf hc fun e w' he => ?_)
  obtain ⟨v, rfl, hn, hT⟩ := hR e w' he
  exact ⟨v, rfl, v, rfl, hn, hT⟩
theorem step_alloc {T : Nat → Value → World → Prop} {F : Array Bool} {a0 : Act} {w0 : World} {i : Nat} {o : Oper} {t : TypeId} {cs : List Value} (hi : ops.toList[i]? = some o) (hg : o.guard = none)
    (hrun : ∀ a w, (execOp (Act.eval a) o).run P w = .ok (.value (.pointer (some ⟨w.heap.size, 0, none⟩))) (w.alloc (.cells cs.toArray t)))
    (hT : ∀ q w, w0.heap.size ≤ q → Blk w q t cs → T i (.pointer (some ⟨q, 0, none⟩)) w) : StepOk P ops Q F T a0 w0 i := by
  refine ⟨o, hi, fun a w hw hk => ?_⟩
  have hi' : ops[i]? = some o := by rw [← Array.getElem?_toList]; exact hi
  have hwt : Region.wanted o (yielded ops a.tmps) = true := by simp [Region.wanted, hg]
  unfold wpOp
  simp only [hi', hwt, if_true, Oper.wp, hrun, Oper.upon]
  exact .inl ⟨_, rfl, (Upd.refl _ _).alloc _, hT _ _ hw.size (Blk.new w t cs)⟩
theorem eager_take {T : Nat → Value → World → Prop} {F : Array Bool} {a0 : Act} {w0 : World} {i : Nat} {o : Oper} (hi : ops.toList[i]? = some o) (hg : o.guard = none)
    (h : ∀ a w, New w0 w → Known ops F T a0 i a w → ∃ v, (∀ w, (execOp a.eval o).run P w = .ok (.value v) w) ∧ T i v w) : EagerOk P ops F T a0 w0 i := by
  refine ⟨o, hi, fun a w hw hk => ?_⟩
  obtain ⟨v, hv, hT⟩ := h a w hw hk
  exact ⟨v, .inl ⟨by simp [Region.wanted, hg], fun w _ => hv w⟩, hT⟩
end
end Go.Proofs.YtjakfchffigkkaaGreatDoor
