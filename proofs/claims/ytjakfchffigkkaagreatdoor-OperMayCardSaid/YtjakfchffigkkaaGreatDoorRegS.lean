/- Regions once more: takes that read memory may float beside what is written, where they read what stays. -/
import Derived.Test.YtjakfchffigkkaaGreatDoorRow
namespace Go.Proofs.YtjakfchffigkkaaGreatDoor
open Go.RowKit
set_option linter.unusedSimpArgs false
set_option linter.unusedVariables false
section
variable {P : Program} {ops : Array Oper} {Q : Exit → Act → World → Prop}
def EagerOkS (P : Program) (ops : Array Oper) (S : World → Prop) (F : Array Bool) (T : Nat → Value → World → Prop) (a0 : Act) (w0 : World) (i : Nat) : Prop :=
  ∃ o, ops.toList[i]? = some o ∧ ∀ a w, New w0 w → Known ops F T a0 i a w → ∃ v, YieldsIf P ops S o v a ∧ T i v w
theorem wpJ_invS {S : World → Prop} (hSn : ∀ w w', New w w' → S w → S w') {a0 : Act} {w0 : World} {F : Array Bool} {E : List Nat} {R : List (Nat × Bool)} {N : Nat} (T : Nat → Value → World → Prop) (news : List Nat) (hEN : ∀ i, E.contains i = true → news.contains i = false) (hold : ∀ j, news.contains j = true → ∀ v w, T j v w → OldPtr v w) (hc : invCheck ops F E R N = true) (hN : a0.tmps.size = N)
    (hQ : ∀ c a d v w, Q (.panic c) (a.put d v) w → Q (.panic c) a w)
    (hT : ∀ i v w w', New w w' → T i v w → T i v w')
    (hstep : ∀ i, F.getD i false = true → E.contains i = false → StepG P ops Q F T a0 w0 news i) (heager : ∀ i, E.contains i = true → EagerOkS P ops S F T a0 w0 i)
    (hend : ∀ vals w, S w → New w0 w → (∀ i, F.getD i false = true → T i (vals i) w) → (∀ i j, F.getD i false = true → F.getD j false = true → news.contains i = true → news.contains j = true → i ≠ j → vals i ≠ vals j) → stepsTo P ops S Q R (putAll F vals ops.toList 0 a0) w) :
    ∀ (n : Nat) (l : Array Bool) (vals : Nat → Value) (a : Act) (w : World), cntU F l ops.size = n → l.size = ops.size → (∀ i, l.getD i false = true → F.getD i false = true) →
      (∀ i o, ops[i]? = some o → l.getD i false = true → ∀ e ∈ o.after, Region.binds .any e = true → l.getD e.on false = true) →
      Shape ops a0 vals l a → S w → New w0 w → (∀ i, l.getD i false = true → T i (vals i) w) →
      (∀ i j, l.getD i false = true → l.getD j false = true → news.contains i = true → news.contains j = true → i ≠ j → vals i ≠ vals j) → wpJ P .any ops Q S 1000 (n + R.length) l a w := by
  have hc0 := hc
  simp only [invCheck, Bool.and_eq_true, beq_iff_eq, decide_eq_true_eq] at hc
  obtain ⟨⟨⟨⟨⟨⟨⟨⟨hsel, hFs⟩, h1000⟩, hcnt⟩, hdst⟩, hlow⟩, hup⟩, hE⟩, hM⟩ := hc
  rw [List.all_eq_true] at hE
  have hEF : ∀ i, E.contains i = true → F.getD i false = true ∧ freeAll ops i = true := fun i hi => by
    have := hE i (by simpa using hi)
    simpa using this
  intro n
  induction n with
  | zero =>
    intro l vals a w hn hls hlF hcl hsh hS hw hTl hD
    obtain rfl : l = F := by
      apply Array.ext (by rw [hls, hFs])
      intro i h1 h2
      have e1 : l.getD i false = l[i] := by simp [Array.getD, h1]
      have e2 : F.getD i false = F[i] := by simp [Array.getD, h2]
      rw [← e1, ← e2]
      cases hb : F.getD i false with
      | true => exact cntU_zero F l hn i (by omega) hb
      | false => cases hb2 : l.getD i false with
        | false => rfl
        | true => rw [hlF i hb2] at hb; cases hb
    rw [Nat.zero_add, hsh.all hN hdst]
    exact wpJ_steps hsel h1000 hQ R _ _ w hM hS (hend vals w hS hw hTl hD)
  | succ n ih =>
    intro l vals a w hn hls hlF hcl hsh hS hw hTl hD
    have hknown : ∀ i o, ops[i]? = some o → (∀ e ∈ o.after, Region.binds .any e = true → l.getD e.on false = true) → Known ops F T a0 i a w := by
      intro i o ho hall
      refine ⟨fun k d hk hd => ?_, fun d hd => ?_⟩
      · have hmem : ∃ e ∈ o.after, Region.binds .any e = true ∧ e.on = k := by
          unfold afterOf at hk
          rw [ho] at hk
          simp only [List.contains_eq_mem, List.mem_map, List.mem_filter, Array.mem_toList_iff, decide_eq_true_eq] at hk
          obtain ⟨e, ⟨h1, h2⟩, h3⟩ := hk
          exact ⟨e, h1, h2, h3⟩
        obtain ⟨e, he, hb, rfl⟩ := hmem
        have hle := hall e he hb
        cases hok : ops[e.on]? with
        | none => rw [hok] at hd; simp at hd
        | some ok =>
          rw [hok] at hd
          have := hsh.got e.on ok d hok (by simpa using hd) hle
          show T e.on (a.tmps.getD d undef) w
          rw [this]
          exact hTl e.on hle
      · refine hsh.rest d fun k ok hk hlk hdk => ?_
        unfold fixedB at hd
        have hlt : k < ops.size := by rw [Array.getElem?_eq_some_iff] at hk; exact hk.1
        have := (List.all_eq_true.1 hd) k (List.mem_range.2 hlt)
        rw [hlF k hlk, hk] at this
        simp [hdk] at this
    have hgo : ∀ i o, ops[i]? = some o → F.getD i false = true → l.getD i false = false → (∀ e ∈ o.after, Region.binds .any e = true → l.getD e.on false = true) →
        ∀ v w', New w w' → T i v w' → (news.contains i = true → NewPtr v w) → wpJ P .any ops Q S 1000 (n + R.length) (l.setIfInBounds i true) (a.put o.dst v) w' := by
      intro i o ho hF hl0 hall v w' hnw hTv hNv
      have hlt : i < ops.size := by rw [Array.getElem?_eq_some_iff] at ho; exact ho.1
      refine ih (l.setIfInBounds i true) (upd1 vals i v) _ w' ?_ (by simpa using hls) ?_ ?_ (hsh.put hN hdst ho hl0 (by omega) v) (hSn _ _ hnw hS) (hw.transNew hnw) ?_ ?_
      · have := cntU_set F l hlt hF hl0 (by omega); omega
      · intro j hj
        by_cases hji : j = i
        · rw [hji]; exact hF
        · rw [getD_set_ne false (fun h => hji h.symm)] at hj; exact hlF j hj
      · intro j oj hoj hj e he hb
        by_cases hji : j = i
        · subst hji
          rw [ho] at hoj; cases hoj
          exact getD_set_true (hall e he hb)
        · rw [getD_set_ne false (fun h => hji h.symm)] at hj
          exact getD_set_true (hcl j oj hoj hj e he hb)
      · intro j hj
        unfold upd1
        by_cases hji : j = i
        · rw [if_pos hji, hji]; exact hTv
        · rw [if_neg hji]
          rw [getD_set_ne false (fun h => hji h.symm)] at hj
          exact hT j _ _ _ hnw (hTl j hj)
      · have hne : ∀ j, j ≠ i → (l.setIfInBounds i true).getD j false = true → news.contains i = true → news.contains j = true → v ≠ vals j := by
          intro j hji hj hni hnj
          rw [getD_set_ne false (fun h => hji h.symm)] at hj
          obtain ⟨q, rfl, hq⟩ := hNv hni
          obtain ⟨q', hq', hlt'⟩ := hold j hnj _ _ (hTl j hj)
          rw [hq']
          intro he
          injection he with he
          injection he with he
          injection he with he _ _
          omega
        intro j k hj hk hnj hnk hjk
        unfold upd1
        by_cases hji : j = i
        · subst hji
          rw [if_pos rfl, if_neg (fun h => hjk h.symm)]
          exact hne k (fun h => hjk h.symm) hk hnj hnk
        · rw [if_neg hji]
          by_cases hki : k = i
          · subst hki
            rw [if_pos rfl]
            exact fun h => hne j hji hj hnk hnj h.symm
          · rw [if_neg hki]
            rw [getD_set_ne false (fun h => hji h.symm)] at hj
            rw [getD_set_ne false (fun h => hki h.symm)] at hk
            exact hD j k hj hk hnj hnk hjk
    have hrdy : ∀ i o, ops[i]? = some o → l.getD i false = false → (∀ e ∈ o.after, Region.binds .any e = true → l.getD e.on false = true) → i ∈ Region.ready .any ops l := by
      intro i o ho hl0 hall
      have hlt : i < l.size := by rw [Array.getElem?_eq_some_iff] at ho; obtain ⟨h, _⟩ := ho; omega
      refine mem_ready.2 ⟨?_, o, ho, hall⟩
      simp [Array.getD, hlt] at hl0 ⊢
      exact hl0
    rw [Nat.succ_add]
    by_cases heag : ∃ i o, E.contains i = true ∧ ops[i]? = some o ∧ l.getD i false = false ∧ ∀ e ∈ o.after, Region.binds .any e = true → l.getD e.on false = true
    · obtain ⟨i, o, hEi, ho, hl0, hall⟩ := heag
      obtain ⟨o', ho', hy⟩ := heager i hEi
      obtain rfl : o = o' := by rw [Array.getElem?_toList, ho] at ho'; cases ho'; rfl
      obtain ⟨v, hyv, hTv⟩ := hy a w hw (hknown i o ho hall)
      refine wpJ_first ho (Region.noSelect_spec hsel) (fun c a w => hQ c a _ _ w) ?_ _ l a w (fun j oj hj hji hun hno => freeAll_spec ho (hEF i hEi).2 j oj hj hji (by
        cases hu : inUp ops 6 i j with
        | false => rfl
        | true =>
          have h4 := inUp_listed hcl 6 i j hu fun o' ho' => by rw [ho] at ho'; cases ho'; exact hall
          have hlt : j < l.size := by rw [Array.getElem?_eq_some_iff] at hj; obtain ⟨h, _⟩ := hj; omega
          simp [Array.getD, hlt] at hun h4
          rw [h4] at hun
          cases hun) hno) (hrdy i o ho hl0 hall) hyv hS (hgo i o ho (hEF i hEi).1 hl0 hall v w (Upd.refl _ _) hTv (fun h => by rw [hEN i hEi] at h; cases h))
      intro oe hoe
      rw [Array.getElem?_eq_none (by omega)] at hoe
      cases hoe
    · have hfull : (∀ i, i < ops.size → F.getD i false = true → l.getD i false = true) → False := by
        intro hall
        have hz : ∀ m, m ≤ ops.size → cntU F l m = 0 := by
          intro m
          induction m with
          | zero => intro _; rfl
          | succ m ihm =>
            intro hm
            rw [cntU, ihm (by omega)]
            cases hFm : F.getD m false with
            | false => simp
            | true => rw [hall m (by omega) hFm]; simp
        rw [hz _ (Nat.le_refl _)] at hn
        omega
      have hlowest : (∀ i o, ops[i]? = some o → F.getD i false = true → l.getD i false = false → (∀ e ∈ o.after, Region.binds .any e = true → l.getD e.on false = true) → False) → False := by
        intro hno
        refine hfull ?_
        have : ∀ m i, i < m → i < ops.size → F.getD i false = true → l.getD i false = true := by
          intro m
          induction m with
          | zero => intro i hi; omega
          | succ m ihm =>
            intro i hi hlt hF
            cases hb : l.getD i false with
            | true => rfl
            | false =>
              exfalso
              have ho : ops[i]? = some ops[i] := Array.getElem?_eq_getElem hlt
              have h2 := (List.all_eq_true.1 hlow) i (List.mem_range.2 hlt)
              rw [ho] at h2
              refine hno i ops[i] ho hF hb fun e he hbd => ?_
              obtain ⟨k, hk, rfl⟩ := Array.getElem_of_mem he
              have h3 := (Array.all_eq_true.1 h2) k hk
              rw [hbd, hF] at h3
              simp only [Bool.not_true, Bool.false_or, Bool.and_eq_true, decide_eq_true_eq] at h3
              exact ihm _ (by omega) (by omega) h3.2
        exact fun i hi hF => this (i + 1) i (by omega) hi hF
      have key : ∀ i ∈ Region.ready .any ops l, F.getD i false = true ∧ E.contains i = false := by
        intro i hi
        obtain ⟨hun, o, ho, hall⟩ := mem_ready.1 hi
        have hlt : i < ops.size := by rw [Array.getElem?_eq_some_iff] at ho; exact ho.1
        have hl0 : l.getD i false = false := by
          have : i < l.size := by omega
          simp [Array.getD, this] at hun ⊢
          exact hun
        have h2 := (List.all_eq_true.1 hup) i (List.mem_range.2 hlt)
        refine ⟨?_, ?_⟩
        · cases hF : F.getD i false with
          | true => rfl
          | false =>
            rw [hF, Bool.false_or, List.all_eq_true] at h2
            exfalso
            refine hlowest fun k ok hok hFk hlk hallk => ?_
            have hltk : k < ops.size := by rw [Array.getElem?_eq_some_iff] at hok; exact hok.1
            have h3 := h2 k (List.mem_range.2 hltk)
            rw [hFk] at h3
            cases hEk : E.contains k with
            | true => exact heag ⟨k, ok, hEk, hok, hlk, hallk⟩
            | false =>
              rw [hEk] at h3
              have h4 := inUp_listed hcl 6 i k (by simpa using h3) fun o' ho' => by rw [ho] at ho'; cases ho'; exact hall
              rw [h4] at hlk; cases hlk
        · cases hEi : E.contains i with
          | false => rfl
          | true => exact absurd ⟨i, o, hEi, ho, hl0, hall⟩ heag
      refine ⟨fun hr => ?_, fun i hi => ?_⟩
      · exfalso
        refine hlowest fun k ok hok hFk hlk hallk => ?_
        have := hrdy k ok hok hlk hallk
        rw [hr] at this
        cases this
      · obtain ⟨hun, o, ho, hall⟩ := mem_ready.1 hi
        have hlt : i < ops.size := by rw [Array.getElem?_eq_some_iff] at ho; exact ho.1
        have hl0 : l.getD i false = false := by
          have : i < l.size := by omega
          simp [Array.getD, this] at hun ⊢
          exact hun
        rcases hstep i (key i hi).1 (key i hi).2 with ⟨hni, o', ho', hst⟩ | ⟨o', ho', hst⟩
        · obtain rfl : o = o' := by rw [Array.getElem?_toList, ho] at ho'; cases ho'; rfl
          refine wpOp_mono ?_ (hst a w hw (hknown i o ho hall))
          rintro a' w' ⟨v, rfl, hnw, hTv⟩
          exact ⟨.inr (hSn _ _ hnw hS), hgo i o ho (key i hi).1 hl0 hall v w' hnw hTv (fun h => by rw [hni] at h; cases h)⟩
        · obtain rfl : o = o' := by rw [Array.getElem?_toList, ho] at ho'; cases ho'; rfl
          refine wpOp_mono ?_ (hst a w hw (hknown i o ho hall))
          rintro a' w' ⟨v, rfl, hnw, hTv, hNv⟩
          exact ⟨.inr (hSn _ _ hnw hS), hgo i o ho (key i hi).1 hl0 hall v w' hnw hTv (fun _ => hNv)⟩
end
section
variable {P : Program} {ops : Array Oper} {Q : Exit → Act → World → Prop}
theorem wpJ_genS {S : World → Prop} (hSn : ∀ w w', New w w' → S w → S w') {a0 : Act} {w0 : World} {F : Array Bool} {E : List Nat} {R : List (Nat × Bool)} {N : Nat} (T : Nat → Value → World → Prop) (news : List Nat) (hEN : ∀ i, E.contains i = true → news.contains i = false) (hold : ∀ j, news.contains j = true → ∀ v w, T j v w → OldPtr v w) (hc : invCheck ops F E R N = true) (hN : a0.tmps.size = N)
    (hQ : ∀ c a d v w, Q (.panic c) (a.put d v) w → Q (.panic c) a w)
    (hT : ∀ i v w w', New w w' → T i v w → T i v w')
    (hstep : ∀ i, F.getD i false = true → E.contains i = false → StepG P ops Q F T a0 w0 news i) (heager : ∀ i, E.contains i = true → EagerOkS P ops S F T a0 w0 i)
    (hend : ∀ a w, S w → New w0 w → After ops F news T a0 a w → stepsTo P ops S Q R a w) :
    ∀ (n : Nat) (l : Array Bool) (vals : Nat → Value) (a : Act) (w : World), cntU F l ops.size = n → l.size = ops.size → (∀ i, l.getD i false = true → F.getD i false = true) →
      (∀ i o, ops[i]? = some o → l.getD i false = true → ∀ e ∈ o.after, Region.binds .any e = true → l.getD e.on false = true) →
      Shape ops a0 vals l a → S w → New w0 w → (∀ i, l.getD i false = true → T i (vals i) w) →
      (∀ i j, l.getD i false = true → l.getD j false = true → news.contains i = true → news.contains j = true → i ≠ j → vals i ≠ vals j) → wpJ P .any ops Q S 1000 (n + R.length) l a w := by
  have hdst : dstsOk ops N = true := by
    simp only [invCheck, Bool.and_eq_true, beq_iff_eq, decide_eq_true_eq] at hc
    exact hc.1.1.1.1.2
  have hval : ∀ vals i d, F.getD i false = true → (ops[i]?).bind (·.dst) = some d → (putAll F vals ops.toList 0 a0).tmps.getD d undef = vals i := by
    intro vals i d hF hdo
    cases ho : ops[i]? with
    | none => rw [ho] at hdo; simp at hdo
    | some o =>
      rw [ho] at hdo
      have hdo' : o.dst = some d := by simpa using hdo
      have h1 := putAll_got F vals N d (dsts_spec hdst ho hdo').1 ops.toList 0 a0 hN i o (by simpa using ho) (by simpa using hF) hdo' fun j oj hj hdj => (dsts_spec hdst ho hdo').2 j oj (by simpa using hj) hdj
      rw [Nat.zero_add] at h1
      exact h1
  refine wpJ_invS hSn T news hEN hold hc hN hQ hT hstep heager fun vals w hS hw hTl hD => hend _ w hS hw ⟨putAll_size .., putAll_defers .., fun d hd => ?_, fun i d hF hdo => ?_, fun i j d e hc hdo heo => ?_⟩
  · refine putAll_far F vals d ops.toList 0 a0 fun k ok hk hFk hdk => ?_
    unfold fixedB at hd
    have hk' : ops[k]? = some ok := by simpa using hk
    have hlt : k < ops.size := by rw [Array.getElem?_eq_some_iff] at hk'; exact hk'.1
    have := (List.all_eq_true.1 hd) k (List.mem_range.2 hlt)
    rw [Nat.zero_add] at hFk
    rw [hFk, hk'] at this
    simp [hdk] at this
  · show T i ((putAll F vals ops.toList 0 a0).tmps.getD d undef) w
    rw [hval vals i d hF hdo]
    exact hTl i hF
  · simp only [Bool.and_eq_true, Bool.not_eq_true', beq_eq_false_iff_ne] at hc
    show (putAll F vals ops.toList 0 a0).tmps.getD d undef ≠ (putAll F vals ops.toList 0 a0).tmps.getD e undef
    rw [hval vals i d hc.1.1.1.1 hdo, hval vals j e hc.1.1.1.2 heo]
    exact hD i j hc.1.1.1.1 hc.1.1.1.2 hc.1.1.2 hc.1.2 hc.2
theorem wp_genS {S : World → Prop} (hSn : ∀ w w', New w w' → S w → S w') {id : Nat} {dr : Bool} {a0 : Act} {w0 : World} (fs : List Bool) (E : List Nat) (R : List (Nat × Bool)) (N : Nat) (Ts : List (Value → World → Prop)) (news : List Nat) (hEN : (E.all fun i => !news.contains i) = true) (hold : ∀ j, j ∈ news → ∀ v w, TL Ts j v w → OldPtr v w) (hS0 : S w0) (hm : P.follows .mixedOrders = true) (hc : invCheck ops fs.toArray E R N = true) (hN : a0.tmps.size = N)
    (hQ : ∀ c a d v w, Q (.panic c) (a.put d v) w → Q (.panic c) a w) (hT : Monos Ts)
    (hstep : AllAt (fun i => E.contains i = false → StepG P ops Q fs.toArray (TL Ts) a0 w0 news i) fs 0) (heager : ∀ i, E.contains i = true → EagerOkS P ops S fs.toArray (TL Ts) a0 w0 i)
    (hend : ∀ a w, S w → New w0 w → After ops fs.toArray news (TL Ts) a0 a w → stepsTo P ops S Q R a w) : (Code.region id ops dr).wp P Q a0 w0 := by
  have hget : ∀ i, fs.toArray.getD i false = fs.getD i false := fun i => by simp [Array.getD, List.getD]; split <;> simp [*]
  have hc0 := hc
  simp only [invCheck, Bool.and_eq_true, beq_iff_eq, decide_eq_true_eq] at hc0
  obtain ⟨⟨⟨⟨⟨⟨⟨⟨hsel, hFs⟩, h1000⟩, hcnt⟩, hdst⟩, hlow⟩, hup⟩, hE⟩, hM⟩ := hc0
  have hgo : ∀ w1, New w0 w1 → wpAny P .any ops Q ops.size (Array.replicate ops.size false) a0 w1 := by
    intro w1 hw1
    have hgo := wpJ_genS hSn (w0 := w0) (Q := Q) (TL Ts) news (fun i hi => (by have := (List.all_eq_true.1 hEN) i (by simpa using hi); simpa using this)) (fun j hj => hold j (by simpa using hj)) hc hN hQ hT.new_ (fun i h1 h2 => (by have := AllAt.get hstep i (by rw [← hget]; exact h1); rw [Nat.zero_add] at this; exact this h2)) heager hend _ (Array.replicate ops.size false) (fun _ => undef) a0 w1 rfl (by simp) (fun i h => ?_) (fun i o _ h => ?_) ⟨rfl, rfl, fun i o d _ _ h => ?_, fun _ _ => rfl⟩ (hSn _ _ hw1 hS0) hw1 (fun i h => ?_) (fun i j h => ?_)
    · rw [hcnt] at hgo; exact wpAny_of_J _ _ _ _ hgo
    all_goals
      rw [cntU_none (ops := ops) i] at h
      cases h
  cases dr with
  | true => exact wp_region_any hm (hgo _ (Upd.refl _ _).drew)
  | false =>
    refine wp_region ?_
    rw [List.range_eq_range']
    refine wpOps_of_any (fun i o ho e he hb => ?_) ops.size 0 (Array.replicate ops.size false) a0 w0 (by omega) (by simp) (fun i => by rw [cntU_none]; simp) (hgo w0 (Upd.refl _ _))
    have hlt : i < ops.size := by rw [Array.getElem?_eq_some_iff] at ho; exact ho.1
    have h2 := (List.all_eq_true.1 hlow) i (List.mem_range.2 hlt)
    rw [ho] at h2
    obtain ⟨k, hk, rfl⟩ := Array.getElem_of_mem he
    have h3 := (Array.all_eq_true.1 h2) k hk
    rw [hb] at h3
    simp only [Bool.not_true, Bool.false_or, Bool.and_eq_true, decide_eq_true_eq] at h3
    exact h3.1
end
section
variable {P : Program} {ops : Array Oper} {Q : Exit → Act → World → Prop}
theorem wp_gS {id : Nat} {dr : Bool} {a0 : Act} {w0 : World} (S : World → Prop) (hSn : ∀ w w', New w w' → S w → S w') (hS0 : S w0) (fs : List Bool) (E : List Nat) (R : List (Nat × Bool)) (N : Nat) (Ts : List (Value → World → Prop)) (news : List Nat) (hold : ∀ j, j ∈ news → ∀ v w, TL Ts j v w → OldPtr v w) (hN : a0.tmps.size = N) (hT : Monos Ts)
    (hstep : AllAt (fun i => E.contains i = false → StepG P ops Q fs.toArray (TL Ts) a0 w0 news i) fs 0) (heager : ∀ i, E.contains i = true → EagerOkS P ops S fs.toArray (TL Ts) a0 w0 i)
    (hend : ∀ a w, S w → New w0 w → After ops fs.toArray news (TL Ts) a0 a w → stepsTo P ops S Q R a w)
    (hEN : (E.all fun i => !news.contains i) = true := by kernel_rfl) (hm : P.follows .mixedOrders = true := by kernel_rfl) (hc : invCheck ops fs.toArray E R N = true := by kernel_rfl)
    (hQ : ∀ c a d v w, Q (.panic c) (a.put d v) w → Q (.panic c) a w := by (intro _ _ d _ _ h; cases d <;> exact h)) : (Code.region id ops dr).wp P Q a0 w0 := wp_genS hSn fs E R N Ts news hEN hold hS0 hm hc hN hQ hT hstep heager hend
variable {T : Nat → Value → World → Prop} {F : Array Bool} {a0 : Act} {w0 : World} {S : World → Prop}
theorem eager_takeG {i : Nat} {o : Oper} (hi : ops.toList[i]? = some o) (hw : ∀ a w, New w0 w → Known ops F T a0 i a w → Region.wanted o (yielded ops a.tmps) = true)
    (h : ∀ a w, New w0 w → Known ops F T a0 i a w → ∃ v, (∀ w, S w → (execOp a.eval o).run P w = .ok (.value v) w) ∧ T i v w) : EagerOkS P ops S F T a0 w0 i := by
  refine ⟨o, hi, fun a w hn hk => ?_⟩
  obtain ⟨v, hv, hT⟩ := h a w hn hk
  exact ⟨v, .inl ⟨hw a w hn hk, hv⟩, hT⟩
theorem eager_skip {i : Nat} {o : Oper} {j d : Nat} {want : Bool} (hi : ops.toList[i]? = some o) (hg : o.guard = some (j, want)) (hj : (ops[j]?).bind (·.dst) = some d) (hv : ∀ a w, New w0 w → Known ops F T a0 i a w → a.eval (.tmp d) = .bool (!want)) (hT : ∀ w, T i undef w) : EagerOkS P ops S F T a0 w0 i := by
  refine ⟨o, hi, fun a w hn hk => ⟨undef, .inr ⟨?_, rfl⟩, hT w⟩⟩
  rw [wanted_of hg hj (hv a w hn hk)]; cases want <;> rfl
end
theorem Blk.elem {w : World} {q : Nat} {T : TypeId} {cs : List Value} (h : Blk w q T cs) {i : Nat} {X : Value} (hi : cs[i]? = some X) : SElem w q i X := ⟨(h.cell i).trans hi, h.lt⟩
end Go.Proofs.YtjakfchffigkkaaGreatDoor
