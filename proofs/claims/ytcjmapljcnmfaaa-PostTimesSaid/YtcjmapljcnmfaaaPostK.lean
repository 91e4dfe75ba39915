/- PostOnce: the walk. -/
import Derived.Test.YtcjmapljcnmfaaaPostJ2
import Derived.Deep.DeepCutAuto
import Derived.Deep.CutBlock
namespace Go.Proofs.Ytcjmapljcnmfaaa
open Go.RowKit

/-- What a law has made so far: a Post of its own, nothing of old memory turned. -/
def Made (W w : World) (g : Nat) (F : Nat → Prop) (s : Mails) (rs : List (List Int × Int)) (now : Int) : Prop := PostAt w g F s rs now ∧ New W w ∧ ∀ q, F q → W.heap.size ≤ q
theorem Made.next {W w w' : World} {g : Nat} {F F' : Nat → Prop} {s s' : Mails} {rs rs' : List (List Int × Int)} {now now' : Int} (h : Made W w g F s rs now) (hp : PostAt w' g F' s' rs' now') (hu : Upd F w w') (hF : ∀ q, F' q → F q ∨ w.heap.size ≤ q) : Made W w' g F' s' rs' now' := by
  obtain ⟨h1, h2⟩ := new_step h.2.1 hu h.2.2 hF
  exact ⟨hp, h1, h2⟩
theorem Made.new_ {W w w' : World} {g : Nat} {F : Nat → Prop} {s : Mails} {rs : List (List Int × Int)} {now : Int} (h : Made W w g F s rs now) (hu : New w w') : Made W w' g F s rs now :=
  ⟨h.1.keepN hu, h.2.1.transNew hu, h.2.2⟩
/-- An old row is none of the Post's. -/
theorem Made.old {W w : World} {g : Nat} {F : Nat → Prop} {s : Mails} {rs : List (List Int × Int)} {now : Int} (h : Made W w g F s rs now) {size n : Nat} {v : Value} {xs : List Value} (hr : RowAt W size v n xs) : ∀ q off c, v = .slice (some ⟨q, off, none⟩) n c → 0 < n * size → ¬ F q := by
  intro q off c hv hn hq
  rcases hr.2 with ⟨h0, _⟩ | ⟨b, off', c', hv', _, _, hb, _⟩
  · subst h0; omega
  · rw [hv'] at hv
    injection hv with hv _ _
    injection hv with hv
    injection hv with hv _ _
    subst hv
    have := h.2.2 b hq
    omega
theorem el3 : ElemT Try.prog 23 3 (.int .i64 0) 1 8 := ⟨Try.underlying23, by kernel_rfl, rfl, by omega⟩
theorem encI_one (l : List Int) : ∀ u ∈ encI l, u.oneCell' = true := by
  intro u hu
  obtain ⟨x, _, rfl⟩ := List.mem_map.1 hu
  rfl
/-- A row of the law's own grows: nothing of the Post's turns. -/
theorem Made.grown {W w w' : World} {g : Nat} {F : Nat → Prop} {s : Mails} {rs : List (List Int × Int)} {now : Int} (h : Made W w g F s rs now) {row : Option Nat} (hg : w.grownBy w' row) (hr : ∀ q, row = some q → ¬ F q ∧ W.heap.size ≤ q) : Made W w' g F s rs now := by
  have hu : Upd (fun q => row = some q) w w' := (Upd.refl _ w).grown hg fun q hq => .inl hq
  exact ⟨h.1.keep hu fun q hq hq' => (hr q hq').1 hq, h.2.1.trans hu fun i hi hq => by have := (hr i hq).2; omega, h.2.2⟩
/-- Is a mail sent to a? -/
def nu (f : Int) (a : Nat) (t : List Int) : Int := if f = 0 ∧ (a : Int) ∈ t then 1 else 0
theorem nu_nil (f : Int) (a : Nat) : nu f a [] = 0 := by simp [nu]
theorem nu_no {f : Int} (h : f ≠ 0) (a : Nat) (t : List Int) : nu f a t = 0 := by simp [nu, h]
theorem nu_hit {f : Int} (h : f = 0) (a : Nat) (t : List Int) {j : Nat} (hj : j < t.length) (he : t.getD j 0 = (a : Int)) : nu f a (t.take (j + 1)) = 1 := by
  have : (a : Int) ∈ t.take (j + 1) := by
    rw [List.take_succ_eq_append_getElem hj]
    simp [List.getD, hj] at he
    simp [he]
  simp [nu, h, this]
theorem nu_miss {f : Int} (a : Nat) (t : List Int) {j : Nat} (hj : j < t.length) (he : t.getD j 0 ≠ (a : Int)) : nu f a (t.take (j + 1)) = nu f a (t.take j) := by
  have : ((a : Int) ∈ t.take (j + 1)) ↔ ((a : Int) ∈ t.take j) := by
    rw [List.take_succ_eq_append_getElem hj]
    simp [List.getD, hj] at he
    simp only [List.mem_append, List.mem_singleton]
    exact ⟨fun h => h.resolve_right fun h => he h.symm, .inl⟩
  unfold nu
  simp only [this]
set_option maxHeartbeats 6400000 in
set_option maxRecDepth 100000 in
theorem once_walk (ag by_ event : Int) (lv tv : Value) (l : List OpV) (tos : List Int) (W : World) (hl : OpsAt W lv l) (hok : ∀ o ∈ l, OpOk o) (ht : RowAt W 1 tv tos.length (encI tos)) :
    Calls Try.prog 3 #[.int .i64 ag, lv, .int .i64 by_, .int .i64 event, tv] W fun e w' => e = .returned (.bool true) ∧ New W w' := by
  obtain ⟨A, c, rfl⟩ := hl.form
  obtain ⟨At, ct, rfl⟩ := ht.form
  have hmax : (l.length : Int) ≤ 9223372036854775807 := by
    rcases hl with ⟨rfl, _⟩ | ⟨_, _, c', _, hc, hm, _⟩
    · simp
    · unfold maxLen at hm; omega
  have hmaxt : (tos.length : Int) ≤ 9223372036854775807 := by
    rcases ht.2 with ⟨h0, _⟩ | ⟨_, _, c', _, hc, hm, _⟩
    · omega
    · unfold maxLen at hm; omega
  go_enter Try.func3, Try.ntmps3
  go_wp2_with (go_at_call 7; refine (first_any _).mono ?_; rintro e w1 ⟨rfl, hn1⟩)
  by_cases hag : 1 ≤ ag ∧ ag ≤ 64
  · obtain ⟨n, rfl⟩ := Int.eq_ofNat_of_zero_le (show 0 ≤ ag by omega)
    refine (new_yes n w1 (by omega) (by omega)).mono ?_
    rintro e w2 ⟨g, F, rfl, hp2, hF2, hn2⟩
    have hM : Made W w2 g F (List.replicate n []) [] 0 := ⟨hp2, hn1.transNew hn2, fun q hq => Nat.le_trans hn1.size (hF2 q hq)⟩
    clear hp2 hF2 hn2
    by_cases hf : fewB l = true
    · go_wp2_with (go_at_call 9; refine (few_any _ l _ (hl.new_ hM.2.1)).mono ?_; rintro e w3 ⟨rfl, hn3⟩; rw [hf])
      · have hM3 := hM.new_ hn3
        refine (first_any _).mono ?_
        rintro e w4 ⟨rfl, hn4⟩
        go_wp2
        go_ret
        exact ⟨rfl, hM3.2.1.transNew hn4⟩
      · have hM3 := hM.new_ hn3
        have hlt100 : (tos.length : Int) ≤ 100 := by assumption
        obtain ⟨hl200, hl20k⟩ := few_to hf
        have hfitk := fit_playS hl20k (s := List.replicate n []) (fun x hx => (List.mem_replicate.1 hx).2)
        have Hfitk := hide hfitk
        have Hl20k := hide hl20k
        have Hok := hide hok
        have Hl := hide hl
        have Ht := hide ht
        clear hfitk hl20k hf hM hok hl ht hn3 hn1
        go_loopw [13] (fun i wr => ∃ (k : Nat) (F' : Nat → Prop), k ≤ l.length ∧ i = .int .i64 k ∧ Made W wr g F' (playS (List.replicate n []) (l.take k)) [] 0) (fun i _ => l.length - (intOf i).toNat)
        case atStart => exact ⟨0, F, by omega, rfl, hM3⟩
        case round =>
          clear hM3
          obtain ⟨k, F', hk, rfl, hMr⟩ := hrel
          by_cases hlt1 : k < l.length
          · obtain ⟨b, off, rfl, hc, hm, hb, hopW⟩ := Hl.out.at_ hlt1
            have hop := hopW.new_ hMr.2.1 hb
            have hstep := playS_succ (List.replicate n []) l k hlt1
            have hmem := List.getElem_mem hlt1
            have hfk := Hfitk.out k hk
            obtain ⟨o, ho⟩ : ∃ o, o = l[k] := ⟨_, rfl⟩
            rw [← ho] at hop hopW hstep hmem
            have hwt := to_le (wt_le Hl20k.out hmem)
            have hwt2 := wt_le Hl20k.out hmem
            have hfm := fewN_mono l k
            have hf20 := Hl20k.out
            have hto1 : o.to.length ≤ 20000 := by omega
            have hfit2 : ∀ x ∈ playS (List.replicate n []) (l.take k), x.length + o.to.length ≤ 1000000 := fun x hx => by have := hfk x hx; omega
            have Hstep := hide hstep
            have Hfit2 := hide hfit2
            have Hop := hide hop
            have HopW := hide hopW
            have c0 := hop.c0
            clear hstep hfit2 hop hopW hmem hfk ho hwt hwt2 hfm hf20 hm
            by_cases hkd : (o.kind == 0) = true
            · go_wp2
              have hfacts : wr.drew.cell? ⟨b, off + k * 8 + 1, none⟩ = some (.int .i64 o.by_) ∧ wr.drew.cell? ⟨b, off + k * 8 + 6, none⟩ = some o.tv ∧ wr.drew.cell? ⟨b, off + k * 8 + 2, none⟩ = some (.int .i64 o.bl) ∧ wr.drew.cell? ⟨b, off + k * 8 + 3, none⟩ = some (.int .i64 o.ln) ∧ wr.drew.cell? ⟨b, off + k * 8 + 4, none⟩ = some (.int .i64 o.ev) :=
                ⟨Hop.out.c1, Hop.out.c6, Hop.out.c2, Hop.out.c3, Hop.out.c4⟩
              refine wp_region_df (b := ?bb) (fun w' => w'.cell? ⟨b, off + k * 8 + 1, none⟩ = some (.int .i64 o.by_) ∧ w'.cell? ⟨b, off + k * 8 + 6, none⟩ = some o.tv ∧ w'.cell? ⟨b, off + k * 8 + 2, none⟩ = some (.int .i64 o.bl) ∧ w'.cell? ⟨b, off + k * 8 + 3, none⟩ = some (.int .i64 o.ln) ∧ w'.cell? ⟨b, off + k * 8 + 4, none⟩ = some (.int .i64 o.ev)) 1000
                [0, 1, 2, 3, 4, 5, 6, 7, 8, 9, 10, 11, 12, 13, 14, 15, 16, 17, 18, 19, 20, 21, 22, 23, 24, 25] [26] (by kernel_rfl) (by kernel_rfl) (fun _ _ d _ _ h => by cases d <;> exact h) hfacts ?reads ?acts
              case reads =>
                refine readsTo_step (a' := ?_) rfl rfl (y_move (v := .pointer (some ⟨g, 0, none⟩)) rfl rfl) ?_ ?_
                rotate_left; (simp only [Act.put, List.setIfInBounds_toArray, List.set_cons_zero, List.set_cons_succ]; rfl)
                refine readsTo_step (a' := ?_) rfl rfl (y_move (v := .slice (some ⟨b, off, none⟩) l.length c) rfl rfl) ?_ ?_
                rotate_left; (simp only [Act.put, List.setIfInBounds_toArray, List.set_cons_zero, List.set_cons_succ]; rfl)
                refine readsTo_step (a' := ?_) rfl rfl (y_move (v := .int .i64 (k : Int)) rfl rfl) ?_ ?_
                rotate_left; (simp only [Act.put, List.setIfInBounds_toArray, List.set_cons_zero, List.set_cons_succ]; rfl)
                refine readsTo_step (a' := ?_) rfl rfl (y_index rfl rfl rfl Try.underlying22 Try.sizeOf32 hlt1 rfl) ?_ ?_
                rotate_left; (simp only [Act.put, List.setIfInBounds_toArray, List.set_cons_zero, List.set_cons_succ]; rfl)
                refine readsTo_step (a' := ?_) rfl rfl (y_field rfl rfl (field32_1 b (off + k * 8))) ?_ ?_
                rotate_left; (simp only [Act.put, List.setIfInBounds_toArray, List.set_cons_zero, List.set_cons_succ]; rfl)
                refine readsTo_step (a' := ?_) rfl rfl (y_load rfl rfl Try.isAgg3 fun _ h => h.1) ?_ ?_
                rotate_left; (simp only [Act.put, List.setIfInBounds_toArray, List.set_cons_zero, List.set_cons_succ]; rfl)
                refine readsTo_step (a' := ?_) rfl rfl (y_move (v := .slice (some ⟨b, off, none⟩) l.length c) rfl rfl) ?_ ?_
                rotate_left; (simp only [Act.put, List.setIfInBounds_toArray, List.set_cons_zero, List.set_cons_succ]; rfl)
                refine readsTo_step (a' := ?_) rfl rfl (y_move (v := .int .i64 (k : Int)) rfl rfl) ?_ ?_
                rotate_left; (simp only [Act.put, List.setIfInBounds_toArray, List.set_cons_zero, List.set_cons_succ]; rfl)
                refine readsTo_step (a' := ?_) rfl rfl (y_index rfl rfl rfl Try.underlying22 Try.sizeOf32 hlt1 rfl) ?_ ?_
                rotate_left; (simp only [Act.put, List.setIfInBounds_toArray, List.set_cons_zero, List.set_cons_succ]; rfl)
                refine readsTo_step (a' := ?_) rfl rfl (y_field rfl rfl (field32_6 b (off + k * 8))) ?_ ?_
                rotate_left; (simp only [Act.put, List.setIfInBounds_toArray, List.set_cons_zero, List.set_cons_succ]; rfl)
                refine readsTo_step (a' := ?_) rfl rfl (y_load rfl rfl Try.isAgg23 fun _ h => h.2.1) ?_ ?_
                rotate_left; (simp only [Act.put, List.setIfInBounds_toArray, List.set_cons_zero, List.set_cons_succ]; rfl)
                refine readsTo_step (a' := ?_) rfl rfl (y_move (v := .slice (some ⟨b, off, none⟩) l.length c) rfl rfl) ?_ ?_
                rotate_left; (simp only [Act.put, List.setIfInBounds_toArray, List.set_cons_zero, List.set_cons_succ]; rfl)
                refine readsTo_step (a' := ?_) rfl rfl (y_move (v := .int .i64 (k : Int)) rfl rfl) ?_ ?_
                rotate_left; (simp only [Act.put, List.setIfInBounds_toArray, List.set_cons_zero, List.set_cons_succ]; rfl)
                refine readsTo_step (a' := ?_) rfl rfl (y_index rfl rfl rfl Try.underlying22 Try.sizeOf32 hlt1 rfl) ?_ ?_
                rotate_left; (simp only [Act.put, List.setIfInBounds_toArray, List.set_cons_zero, List.set_cons_succ]; rfl)
                refine readsTo_step (a' := ?_) rfl rfl (y_field rfl rfl (field32_2 b (off + k * 8))) ?_ ?_
                rotate_left; (simp only [Act.put, List.setIfInBounds_toArray, List.set_cons_zero, List.set_cons_succ]; rfl)
                refine readsTo_step (a' := ?_) rfl rfl (y_load rfl rfl Try.isAgg3 fun _ h => h.2.2.1) ?_ ?_
                rotate_left; (simp only [Act.put, List.setIfInBounds_toArray, List.set_cons_zero, List.set_cons_succ]; rfl)
                refine readsTo_step (a' := ?_) rfl rfl (y_move (v := .slice (some ⟨b, off, none⟩) l.length c) rfl rfl) ?_ ?_
                rotate_left; (simp only [Act.put, List.setIfInBounds_toArray, List.set_cons_zero, List.set_cons_succ]; rfl)
                refine readsTo_step (a' := ?_) rfl rfl (y_move (v := .int .i64 (k : Int)) rfl rfl) ?_ ?_
                rotate_left; (simp only [Act.put, List.setIfInBounds_toArray, List.set_cons_zero, List.set_cons_succ]; rfl)
                refine readsTo_step (a' := ?_) rfl rfl (y_index rfl rfl rfl Try.underlying22 Try.sizeOf32 hlt1 rfl) ?_ ?_
                rotate_left; (simp only [Act.put, List.setIfInBounds_toArray, List.set_cons_zero, List.set_cons_succ]; rfl)
                refine readsTo_step (a' := ?_) rfl rfl (y_field rfl rfl (field32_3 b (off + k * 8))) ?_ ?_
                rotate_left; (simp only [Act.put, List.setIfInBounds_toArray, List.set_cons_zero, List.set_cons_succ]; rfl)
                refine readsTo_step (a' := ?_) rfl rfl (y_load rfl rfl Try.isAgg3 fun _ h => h.2.2.2.1) ?_ ?_
                rotate_left; (simp only [Act.put, List.setIfInBounds_toArray, List.set_cons_zero, List.set_cons_succ]; rfl)
                refine readsTo_step (a' := ?_) rfl rfl (y_move (v := .slice (some ⟨b, off, none⟩) l.length c) rfl rfl) ?_ ?_
                rotate_left; (simp only [Act.put, List.setIfInBounds_toArray, List.set_cons_zero, List.set_cons_succ]; rfl)
                refine readsTo_step (a' := ?_) rfl rfl (y_move (v := .int .i64 (k : Int)) rfl rfl) ?_ ?_
                rotate_left; (simp only [Act.put, List.setIfInBounds_toArray, List.set_cons_zero, List.set_cons_succ]; rfl)
                refine readsTo_step (a' := ?_) rfl rfl (y_index rfl rfl rfl Try.underlying22 Try.sizeOf32 hlt1 rfl) ?_ ?_
                rotate_left; (simp only [Act.put, List.setIfInBounds_toArray, List.set_cons_zero, List.set_cons_succ]; rfl)
                refine readsTo_step (a' := ?_) rfl rfl (y_field rfl rfl (field32_4 b (off + k * 8))) ?_ ?_
                rotate_left; (simp only [Act.put, List.setIfInBounds_toArray, List.set_cons_zero, List.set_cons_succ]; rfl)
                refine readsTo_step (a' := ?_) rfl rfl (y_load rfl rfl Try.isAgg3 fun _ h => h.2.2.2.2) ?_ ?_
                rotate_left; (simp only [Act.put, List.setIfInBounds_toArray, List.set_cons_zero, List.set_cons_succ]; rfl)
                exact readsTo_nil _

              case acts =>
                have hMd := hMr.new_ ((Upd.refl _ wr).drew)
                refine actsTo_cons rfl rfl fun K hK => a_call (args := #[.pointer (some ⟨g, 0, none⟩), .int .i64 o.by_, o.tv, .int .i64 o.bl, .int .i64 o.ln, .int .i64 o.ev]) rfl rfl (fun w => by kernel_rfl)
                  (send_any g F' _ [] 0 o.by_ o.tv o.to.length o.to ⟨o.bl, o.ln, o.by_, o.ev⟩ wr.drew rfl hMd.1 (by omega) (by exact Hop.out.to) (fun h0 => by
                    intro q off' c' hv
                    exact hMd.old HopW.out.to q off' c' hv (by omega)) Hfit2.out) ?_
                rintro e w5 ⟨rfl, F5, hp5, hu5, hF5⟩
                have hM5 := hMd.next hp5 hu5 hF5
                have hop5 := HopW.out.new_ hM5.2.1 hb
                refine ⟨_, rfl, hK _ _ (.inr ⟨hop5.c1, hop5.c6, hop5.c2, hop5.c3, hop5.c4⟩) (actsTo_nil ?_)⟩
                simp only [Act.put, List.setIfInBounds_toArray, List.set_cons_zero, List.set_cons_succ]
                clear hfacts hop5 hp5 hu5 hF5
                have hM6 : Made W w5 g F5 (playS (List.replicate n []) (l.take (k + 1))) [] 0 := by
                  rw [Hstep.out]
                  unfold stepS
                  rw [if_pos (by simpa using hkd)]
                  exact hM5
                clear hM5 hMd hMr
                go_wp2
                go_roundw
                case rel => exact ⟨k + 1, F5, by omega, by go_num, hM6⟩
                case measure => simp [intOf]; omega
            · have hkd' : (o.kind == 0) = false := by simpa using hkd
              clear hkd
              go_wp2
              go_roundw
              case rel =>
                refine ⟨k + 1, F', by omega, by go_num, ?_⟩
                rw [Hstep.out]
                unfold stepS
                rw [if_neg (by simpa using hkd')]
                exact hMr
              case measure => simp [intOf]; omega
          · have hk' : k = l.length := by omega
            subst hk'
            clear hlt1
            rw [List.take_of_length_le (Nat.le_refl _)] at hMr
            obtain ⟨s1, hs1⟩ : ∃ s1, s1 = playS (List.replicate n []) l := ⟨_, rfl⟩
            have hs1n : s1.length = n := by rw [hs1, length_playS]; simp
            have hfit1 : ∀ x ∈ s1, x.length ≤ 20000 := fun x hx => by
              have h1 := Hfitk.out l.length (Nat.le_refl _) x (by rw [List.take_of_length_le (Nat.le_refl _), ← hs1]; exact hx)
              rw [List.take_of_length_le (Nat.le_refl _)] at h1
              have := Hl20k.out
              omega
            rw [← hs1] at hMr
            clear hs1
            go_wp2
            obtain ⟨lens, hlens⟩ : ∃ lens : List Int, lens = s1.map (fun l => (l.length : Int)) := ⟨_, rfl⟩
            have hlenl : lens.length = n := by rw [hlens]; simp [hs1n]
            have hlg : ∀ a, a < n → lens.getD a 0 = ((s1.getD a []).length : Int) := fun a ha => by
              rw [hlens]; simp [List.getD, show a < s1.length by omega]
            have Hlens := hide (And.intro hlenl hlg)
            have Hs1n := hide hs1n
            have Hfit1 := hide hfit1
            clear hlens hlenl hlg hs1n hfit1
            have hWr := hMr.2.1.size
            go_loopw [14, 15] (fun v i wr => ∃ (a : Nat) (vv : Value), a ≤ n ∧ i = .int .i64 a ∧ v = vv ∧ Own wr W.heap.size 3 1 vv a (encI (lens.take a)) ∧ Made W wr g F' s1 [] 0 ∧ ∀ q, ownB vv = some q → ¬ F' q) (fun _ i _ => n - (intOf i).toNat)
            case atStart => exact ⟨0, _, by omega, rfl, rfl, Own.nil_ _ _ _ _, hMr, fun q hq => by cases hq⟩
            case round =>
              clear hMr hWr
              obtain ⟨a, vv, ha, rfl, rfl, hown, hMr, hne⟩ := hrel
              by_cases hlt2 : a < n
              · have hagt : isAg s1 (a : Int) = true := by simp [isAg, Hs1n.out]; omega
                have Hagt := hide hagt
                clear hagt
                go_wp2_with fail
                refine (mails_any g F' s1 [] 0 a _ hMr.1 (fun x hx => Nat.le_trans (Hfit1.out x hx) (by omega))).mono ?_
                rintro e w4 ⟨v4, rfl, hv4, hn4⟩
                rw [if_pos Hagt.out, Int.toNat_natCast] at hv4
                obtain ⟨A4, c4, rfl⟩ := hv4.row.form
                have hlv : ((s1.getD a []).length : Int) = lens.getD a 0 := (Hlens.out.2 a hlt2).symm
                have hlb : ((s1.getD a []).length : Int) ≤ 20000 := by
                  have hm : s1.getD a [] ∈ s1 ∨ s1.getD a [] = [] := by
                    simp only [List.getD]
                    cases hs : s1[a]? with
                    | none => exact .inr rfl
                    | some x => exact .inl (List.mem_of_getElem? hs)
                  rcases hm with hm | hm
                  · have := Hfit1.out _ hm; omega
                  · rw [hm]; simp
                obtain ⟨x, hx⟩ : ∃ x, x = (s1.getD a []).length := ⟨_, rfl⟩
                rw [← hx] at hlv hlb hv4 ⊢
                have Hlv := hide hlv
                have hM4 := hMr.new_ hn4
                have hown4 := hown.new_ hn4
                have hM4' := hM4.new_ ((Upd.refl (fun _ => False) w4).alloc (.cells #[.int .i64 (x : Int)] 3))
                have hown4' := hown4.new_ ((Upd.refl (fun _ => False) w4).alloc (.cells #[.int .i64 (x : Int)] 3))
                have hrow4 : RowAt (w4.alloc (.cells #[.int .i64 (x : Int)] 3)) 1 (.slice (some ⟨w4.heap.size, 0, none⟩) 1 1) 1 (encI [(x : Int)]) := RowAt.fresh w4 _ (encI [(x : Int)]) 1 1 rfl (by omega) (by unfold maxLen; omega)
                have hbase : W.heap.size ≤ (w4.alloc (.cells #[.int .i64 (x : Int)] 3)).heap.size := hM4'.2.1.size
                clear hx hlv hM4 hown4 hv4 hown hMr
                go_wp2_with (at_builtin; refine wpList_append_row _ rfl (.tmp 101) (.tmp 106) el3 rfl W.heap.size u14 a (encI (lens.take a)) rfl hown4' (.slice (some ⟨w4.heap.size, 0, none⟩) 1 1) 1 (encI [(x : Int)]) rfl hrow4 (encI_one _) (by omega) (by unfold maxLen; omega) hbase ?_; intro v5 w5 hown5 hg5 hat5)
                have hM5 := hM4'.grown hg5 (fun q hq => ⟨hne q hq, (hown4'.lt q hq).1⟩)
                have hne5 : ∀ q, ownB v5 = some q → ¬ F' q := fun q hq hF => by
                  rcases hat5 with h | h
                  · rw [h] at hq
                    exact hne q hq hF
                  · rw [h] at hq
                    injection hq with hq
                    have := hM4'.1.2 q hF
                    omega
                have hown6 : Own w5 W.heap.size 3 1 v5 (a + 1) (encI (lens.take (a + 1))) := by
                  have hal : a < lens.length := by rw [Hlens.out.1]; exact hlt2
                  have h1 : lens.take (a + 1) = lens.take a ++ [(x : Int)] := by
                    rw [List.take_succ_eq_append_getElem hal, Hlv.out]
                    simp [List.getD, hal]
                  rw [h1]
                  simpa [encI] using hown5
                clear hown5 hg5 hat5 hM4' hown4' hrow4
                go_roundw
                case rel => exact ⟨a + 1, _, by omega, by go_num, rfl, hown6, hM5, hne5⟩
                case measure => simp [intOf]; omega
              · have ha' : n = a := by omega
                subst ha'
                clear hlt2
                have hlenl := Hlens.out.1
                rw [List.take_of_length_le (by omega)] at hown
                have Hown := hide hown
                clear hown hlenl
                go_wp2_with fail
                refine (send_any g F' s1 [] 0 by_ _ tos.length tos ⟨3, 9, by_, event⟩ wr rfl hMr.1 (by omega) (Ht.out.new_ hMr.2.1) (fun h0 q off c hv => hMr.old Ht.out q off c hv (by omega)) (fun x hx => by have := Hfit1.out x hx; omega)).mono ?_
                rintro e w6 ⟨rfl, F6, hp6, hu6, hF6⟩
                have hM6 := hMr.next hp6 hu6 hF6
                have Hown6 := hide (Hown.out.upd hu6 hne)
                have hne6 : ∀ q, ownB u14 = some q → ¬ F6 q := fun q hq hF => by
                  rcases hF6 q hF with h | h
                  · exact hne q hq h
                  · have := (Hown.out.lt q hq).2; omega
                have hget := fun a => get_sendS s1 by_ tos ⟨3, 9, by_, event⟩ a
                have hlen2 := length_sendS s1 by_ tos ⟨3, 9, by_, event⟩
                have hfit2 : ∀ x ∈ sendS s1 by_ tos ⟨3, 9, by_, event⟩, x.length ≤ 30000 := fun x hx => by
                  obtain ⟨l0, h0, h1⟩ := mem_sendS hx
                  have := Hfit1.out l0 h0
                  omega
                obtain ⟨s2, hs2⟩ : ∃ s2, s2 = sendS s1 by_ tos ⟨3, 9, by_, event⟩ := ⟨_, rfl⟩
                obtain ⟨f, hf⟩ : ∃ f, f = sendE s1 by_ tos := ⟨_, rfl⟩
                rw [← hs2] at hM6 hget hlen2 hfit2
                rw [← hf] at hget ⊢
                have Hget := hide hget
                have Hlen2 := hide hlen2
                have Hfit2 := hide hfit2
                clear hget hlen2 hfit2 hs2 hf hp6 hu6 hF6 hne hMr
                have hM6' : Made W w6 g F6 (emp s2 0 0) [] 0 := by rw [emp_zero]; exact hM6
                clear hM6
                go_wp2
                go_loopw [17] (fun i wr => ∃ (a : Nat) (F7 : Nat → Prop), a ≤ n ∧ i = .int .i64 a ∧ Made W wr g F7 (emp s2 a 0) [] 0 ∧ Own wr W.heap.size 3 1 u14 n (encI lens) ∧ ∀ q, ownB u14 = some q → ¬ F7 q) (fun i _ => n - (intOf i).toNat)
                case atStart => exact ⟨0, F6, by omega, rfl, hM6', Hown6.out, hne6⟩
                case round =>
                  clear hM6' Hown6 hne6
                  obtain ⟨a, F7, ha, rfl, hM7, hown7, hne7⟩ := hrel
                  by_cases hlt3 : a < n
                  · go_upto_block 6 with fail
                    go_cut [18] (fun s w => s = .int .i64 (nu f a tos) ∧ w = wr)
                    case first =>
                      go_wp2
                      go_loop [18, 19] (fun s i => ∃ j : Nat, j ≤ tos.length ∧ i = .int .i64 j ∧ s = .int .i64 (nu f a (tos.take j))) (fun _ i => tos.length - (intOf i).toNat)
                      case atStart => exact ⟨0, by omega, rfl, by rw [List.take_zero, nu_nil]⟩
                      case round =>
                        obtain ⟨j, hj, rfl, rfl⟩ := hrel
                        have Hr7 := hide (And.intro hM7 (And.intro hown7 hne7))
                        clear hM7 hown7 hne7
                        by_cases hgo : j < tos.length ∧ f = 0
                        · obtain ⟨hgo1, hgo2⟩ := hgo
                          subst hgo2
                          obtain ⟨bt, offt, rfl, hct, hmt, hbt, hcellt⟩ := rowI (Ht.out.new_ Hr7.out.1.2.1) hgo1
                          obtain ⟨y, hy⟩ : ∃ y, y = tos.getD j 0 := ⟨_, rfl⟩
                          obtain ⟨z, hz⟩ : ∃ z, z = nu 0 a (tos.take j) := ⟨_, rfl⟩
                          rw [← hy] at hcellt
                          rw [← hz]
                          have Hy := hide hy
                          have Hz := hide hz
                          clear hmt hy hz
                          by_cases hya : (y == (a : Int)) = true
                          · go_wp2
                            go_round
                            case rel =>
                              refine ⟨j + 1, by omega, by go_num, ?_⟩
                              rw [nu_hit rfl a tos hgo1 (by rw [← Hy.out]; simpa using hya)]
                            case measure => simp [intOf]; omega
                          · have hya' : (y == (a : Int)) = false := by simpa using hya
                            clear hya
                            go_wp2
                            go_round
                            case rel =>
                              refine ⟨j + 1, by omega, by go_num, ?_⟩
                              rw [nu_miss a tos hgo1 (by rw [← Hy.out]; simpa using hya'), ← Hz.out]
                            case measure => simp [intOf]; omega
                        · have hnu : nu f a (tos.take j) = nu f a tos := by
                            by_cases h0 : f = 0
                            · rw [List.take_of_length_le (by omega)]
                            · rw [nu_no h0, nu_no h0]
                          rw [hnu]
                          obtain ⟨ν, hν⟩ : ∃ ν, ν = nu f a tos := ⟨_, rfl⟩
                          rw [← hν]
                          have Hν := hide hν
                          clear hnu hν
                          by_cases h1 : j < tos.length
                          · have h2 : (f == 0) = false := by
                              have : f ≠ 0 := fun h => hgo ⟨h1, h⟩
                              simpa using this
                            clear hgo
                            go_wp2
                            go_meet
                            case rel => exact ⟨by rw [Hν.out], rfl⟩
                          · clear hgo
                            go_wp2
                            go_meet
                            case rel => exact ⟨by rw [Hν.out], rfl⟩

                    case rest =>
                      obtain ⟨rfl, rfl⟩ := hcut
                      have hagt : isAg (emp s2 a 0) (a : Int) = true := by simp [isAg, length_emp, Hlen2.out, Hs1n.out]; omega
                      have hga : (emp s2 a 0).getD a [] = s2.getD a [] := by rw [emp_get]; simp
                      have Hagt := hide hagt
                      have Hga := hide hga
                      obtain ⟨ν, hν⟩ : ∃ ν, ν = nu f a tos := ⟨_, rfl⟩
                      rw [← hν]
                      have Hν := hide hν
                      clear hagt hga hν
                      go_wp2_with fail
                      refine (mails_any g F7 (emp s2 a 0) [] 0 a _ hM7.1 (fun x hx => Nat.le_trans (fit_emp Hfit2.out a 0 x hx) (by omega))).mono ?_
                      rintro e w8 ⟨v8, rfl, hv8, hn8⟩
                      rw [if_pos Hagt.out, Int.toNat_natCast, Hga.out] at hv8
                      obtain ⟨A8, c8, rfl⟩ := hv8.row.form
                      obtain ⟨L, hL⟩ : ∃ L, L = s2.getD a [] := ⟨_, rfl⟩
                      rw [← hL] at hv8 ⊢
                      have hM8 := hM7.new_ hn8
                      have hown8 := hown7.new_ hn8
                      have hne8 : ∀ q, ownB (.slice A8 L.length c8) = some q → ¬ F7 q := fun q hq hF => by
                        have h1 := (hv8.lt q hq).1
                        have h2 := hM7.1.2 q hF
                        omega
                      have hLb : (L.length : Int) ≤ 30000 := by
                        have hm : s2.getD a [] ∈ s2 ∨ s2.getD a [] = [] := by
                          simp only [List.getD]
                          cases hs : s2[a]? with
                          | none => exact .inr rfl
                          | some x => exact .inl (List.mem_of_getElem? hs)
                        rw [hL]
                        rcases hm with hm | hm
                        · have := Hfit2.out _ hm; omega
                        · rw [hm]; simp
                      have hLeq := Hget.out a
                      rw [← hL] at hLeq
                      have Hv8 := hide (And.intro hv8 hne8)
                      have Hown8 := hide (And.intro hown8 hne7)
                      have HL := hide hL
                      have HLeq := hide hLeq
                      have HM8 := hide hM8
                      clear hv8 hne8 hown8 hne7 hL hLeq hM8 hM7 hown7 hn8
                      go_upto_region 27 with fail
                      go_cut [18, 20, 173] (fun s18 s20 s w => s18 = .int .i64 ν ∧ s20 = .slice A8 L.length c8 ∧ s = .bool false ∧ w = w8)
                      case first =>
                        have hrowW := Hown8.out.1.row
                        obtain ⟨Aw, cw, rfl⟩ := hrowW.form
                        obtain ⟨bw, offw, rfl, hcw, hmw, hbw, hcellw⟩ := rowI hrowW hlt3
                        have hrow8 := Hv8.out.1.row
                        have hpn := Hlens.out.2 a hlt3
                        obtain ⟨P0, hP0⟩ : ∃ P0, P0 = s1.getD a [] := ⟨_, rfl⟩
                        have hLeq := HLeq.out
                        rw [← hP0] at hpn hLeq
                        rw [hpn] at hcellw
                        have hnu := Hν.out
                        by_cases hin : f = 0 ∧ (a : Int) ∈ tos
                        · have hν1 : ν = 1 := by rw [hnu]; unfold nu; rw [if_pos hin]
                          rw [if_pos hin] at hLeq
                          have hLl : L.length = P0.length + 1 := by rw [hLeq]; simp
                          have hLp : L[P0.length]? = some ⟨3, 9, by_, event⟩ := by rw [hLeq]; simp
                          obtain ⟨b8, off8, c8', hv8', hc8, hm8, hb8, hx8⟩ : ∃ b8 off8 c8', Value.slice A8 L.length c8 = .slice (some ⟨b8, off8, none⟩) L.length c8' ∧ L.length ≤ c8' ∧ c8' ≤ maxLen ∧ b8 < w8.heap.size ∧ ∀ j u, (encL L)[j]? = some u → w8.cell? ⟨b8, off8 + j, none⟩ = some u := by
                            rcases hrow8.2 with ⟨h0, _⟩ | h
                            · omega
                            · exact h
                          injection hv8' with hA _ hc'
                          subst hA hc'
                          obtain ⟨_, _, k2, k3⟩ := cellsM (w := w8) hx8 hLp
                          have hx8l : (P0.length : Int) < (L.length : Int) := by omega
                          subst hν1
                          rw [hLl] at hx8l ⊢
                          have hPb : (P0.length : Int) ≤ 30000 := by omega
                          have HLl := hide hLl
                          clear hLeq hnu hrow8 hx8 hLp hpn hin hLl hm8 hc8 hmw hcw hrowW hP0 hLb
                          go_wp2
                          go_meet
                          case rel => exact ⟨rfl, by rw [HLl.out], rfl, rfl⟩
                        · have hν0 : ν = 0 := by rw [hnu]; unfold nu; rw [if_neg hin]
                          rw [if_neg hin, List.append_nil] at hLeq
                          subst hν0
                          have hLl : L.length = P0.length := by rw [hLeq]
                          rw [hLl]
                          have hPb : (P0.length : Int) ≤ 30000 := by omega
                          have HLl := hide hLl
                          clear hLeq hnu hrow8 hpn hin hLl hmw hcw hrowW hP0 hLb
                          go_wp2
                          go_meet
                          case rel => exact ⟨rfl, by rw [HLl.out], rfl, rfl⟩
                      case rest =>
                        obtain ⟨rfl, rfl, rfl, rfl⟩ := hcut
                        go_wp2_with fail
                        go_loopw [21] (fun s wr => ∃ (i : Nat) (F9 : Nat → Prop), i ≤ L.length ∧ s = .int .i64 i ∧ Made W wr g F9 (emp s2 a i) [] 0 ∧ Own wr 0 37 4 (.slice A8 L.length c8) L.length (encL L) ∧ (∀ q, ownB (.slice A8 L.length c8) = some q → ¬ F9 q) ∧ Own wr W.heap.size 3 1 u14 n (encI lens) ∧ ∀ q, ownB u14 = some q → ¬ F9 q) (fun s _ => L.length - (intOf s).toNat)
                        case atStart => exact ⟨0, F7, by omega, rfl, HM8.out, Hv8.out.1.more (Nat.zero_le _), Hv8.out.2, Hown8.out.1, Hown8.out.2⟩
                        case round =>
                          clear HM8 Hv8 Hown8
                          obtain ⟨i, F9, hi, rfl, hM9, hv9, hnv9, hown9, hnw9⟩ := hrel
                          have hae : a < (emp s2 a i).length := by rw [length_emp, Hlen2.out, Hs1n.out]; exact hlt3
                          by_cases hlt5 : i < L.length
                          · obtain ⟨mi, hmi⟩ : ∃ mi, L[i]? = some mi := ⟨_, List.getElem?_eq_getElem hlt5⟩
                            have hge : (emp s2 a i).getD a [] = mi :: L.drop (i + 1) := by
                              rw [emp_get, if_neg (by omega), if_pos rfl, ← HL.out, List.drop_eq_getElem_cons hlt5]
                              rw [List.getElem?_eq_getElem hlt5] at hmi
                              injection hmi with hmi
                              rw [hmi]
                            have Hge := hide hge
                            have Hmi := hide hmi
                            have H9 := hide (And.intro hM9 (And.intro hv9 (And.intro hnv9 (And.intro hown9 hnw9))))
                            clear hge hmi hM9 hv9 hnv9 hown9 hnw9
                            go_wp2_with fail
                            refine (take_yes g F9 (emp s2 a i) [] 0 a mi (L.drop (i + 1)) _ H9.out.1.1 (fun x hx => Nat.le_trans (fit_emp Hfit2.out a i x hx) (by omega)) hae Hge.out).mono ?_
                            rintro e w10 ⟨rfl, F10, hp10, hu10, hF10⟩
                            obtain ⟨hM9, hv9, hnv9, hown9, hnw9⟩ := H9.out
                            rw [take_emp] at hp10
                            have hM10 := hM9.next hp10 hu10 hF10
                            have hv10 := hv9.upd hu10 hnv9
                            have hown10 := hown9.upd hu10 hnw9
                            have hnv10 : ∀ q, ownB (.slice A8 L.length c8) = some q → ¬ F10 q := fun q hq hF => by
                              rcases hF10 q hF with h | h
                              · exact hnv9 q hq h
                              · have := (hv9.lt q hq).2; omega
                            have hnw10 : ∀ q, ownB u14 = some q → ¬ F10 q := fun q hq hF => by
                              rcases hF10 q hF with h | h
                              · exact hnw9 q hq h
                              · have := (hown9.lt q hq).2; omega
                            have H10 := hide (And.intro hM10 (And.intro hv10 (And.intro hnv10 (And.intro hown10 hnw10))))
                            rw [show aggM mi = .agg #[.int .i64 mi.bl, .int .i64 mi.ln, .int .i64 mi.by_, .int .i64 mi.ev] from rfl]
                            clear hp10 hu10 hF10 hM10 hv10 hown10 hnv10 hnw10 H9 hM9 hv9 hnv9 hown9 hnw9
                            go_wp2
                            obtain ⟨w11, hw11⟩ : ∃ w11, w11 = w10.alloc (.cells #[.int .i64 mi.bl, .int .i64 mi.ln, .int .i64 mi.by_, .int .i64 mi.ev] 37) := ⟨_, rfl⟩
                            have hb11 : Blk w11 w10.heap.size 37 (encM mi) := by rw [hw11]; exact Blk.new w10 _ (encM mi)
                            have hn11 : New w10 w11 := by rw [hw11]; exact (Upd.refl _ _).alloc _
                            rw [← hw11]
                            clear hw11
                            obtain ⟨q22, hq22⟩ : ∃ q22, q22 = w10.heap.size := ⟨_, rfl⟩
                            rw [← hq22] at hb11 ⊢
                            clear hq22
                            have hrow11 := (H10.out.2.1.new_ hn11).row
                            obtain ⟨b8, off8, c8', hv8', hc8, hm8, hb8, hx8⟩ : ∃ b8 off8 c8', Value.slice A8 L.length c8 = .slice (some ⟨b8, off8, none⟩) L.length c8' ∧ L.length ≤ c8' ∧ c8' ≤ maxLen ∧ b8 < w11.heap.size ∧ ∀ j u, (encL L)[j]? = some u → w11.cell? ⟨b8, off8 + j, none⟩ = some u := by
                              rcases hrow11.2 with ⟨h0, _⟩ | h
                              · omega
                              · exact h
                            injection hv8' with hA _ hc'
                            subst hA hc'
                            have hk4 := cellsM (w := w11) hx8 Hmi.out
                            have hfacts : (w11.drew.cell? ⟨q22, 0, none⟩ = some (.int .i64 mi.bl) ∧ w11.drew.cell? ⟨q22, 0 + 1, none⟩ = some (.int .i64 mi.ln) ∧ w11.drew.cell? ⟨q22, 0 + 2, none⟩ = some (.int .i64 mi.by_) ∧ w11.drew.cell? ⟨q22, 0 + 3, none⟩ = some (.int .i64 mi.ev)) ∧
                                (w11.drew.cell? ⟨b8, off8 + i * 4, none⟩ = some (.int .i64 mi.bl) ∧ w11.drew.cell? ⟨b8, off8 + i * 4 + 1, none⟩ = some (.int .i64 mi.ln) ∧ w11.drew.cell? ⟨b8, off8 + i * 4 + 2, none⟩ = some (.int .i64 mi.by_) ∧ w11.drew.cell? ⟨b8, off8 + i * 4 + 3, none⟩ = some (.int .i64 mi.ev)) :=
                              ⟨⟨hb11.cell 0, hb11.cell 1, hb11.cell 2, hb11.cell 3⟩, hk4⟩
                            clear hk4 hx8 hm8 hc8 hrow11
                            refine wp_region_df (b := ?bb2) (fun w' => (w'.cell? ⟨q22, 0, none⟩ = some (.int .i64 mi.bl) ∧ w'.cell? ⟨q22, 0 + 1, none⟩ = some (.int .i64 mi.ln) ∧ w'.cell? ⟨q22, 0 + 2, none⟩ = some (.int .i64 mi.by_) ∧ w'.cell? ⟨q22, 0 + 3, none⟩ = some (.int .i64 mi.ev)) ∧
                                (w'.cell? ⟨b8, off8 + i * 4, none⟩ = some (.int .i64 mi.bl) ∧ w'.cell? ⟨b8, off8 + i * 4 + 1, none⟩ = some (.int .i64 mi.ln) ∧ w'.cell? ⟨b8, off8 + i * 4 + 2, none⟩ = some (.int .i64 mi.by_) ∧ w'.cell? ⟨b8, off8 + i * 4 + 3, none⟩ = some (.int .i64 mi.ev))) 1000
                              [0, 1, 2, 3, 4, 5, 6, 7, 8, 9] [] (by kernel_rfl) (by kernel_rfl) (fun _ _ d _ _ h => by cases d <;> exact h) hfacts ?reads2 ?acts2
                            case reads2 =>
                                  refine readsTo_step (a' := ?_) rfl rfl (y_move (v := .bool true) rfl rfl) ?_ ?_
                                  rotate_left; (simp only [Act.put, List.setIfInBounds_toArray, List.set_cons_zero, List.set_cons_succ]; rfl)
                                  refine readsTo_step (a' := ?_) rfl rfl (y_run (v := .bool false) fun w => by kernel_rfl) ?_ ?_
                                  rotate_left; (simp only [Act.put, List.setIfInBounds_toArray, List.set_cons_zero, List.set_cons_succ]; rfl)
                                  refine readsTo_step (a' := ?_) rfl rfl (y_move (v := .bool false) rfl rfl) ?_ ?_
                                  rotate_left; (simp only [Act.put, List.setIfInBounds_toArray, List.set_cons_zero, List.set_cons_succ]; rfl)
                                  refine readsTo_stepG (a' := ?_) rfl rfl (y_load4 rfl rfl Try.isAgg37 Try.sizeOf37 fun _ h => h.1) ?_ ?_
                                  rotate_left; (simp only [Act.put, List.setIfInBounds_toArray, List.set_cons_zero, List.set_cons_succ]; rfl)
                                  refine readsTo_stepG (a' := ?_) rfl rfl (y_move (v := .slice (some ⟨b8, off8, none⟩) L.length c8) rfl rfl) ?_ ?_
                                  rotate_left; (simp only [Act.put, List.setIfInBounds_toArray, List.set_cons_zero, List.set_cons_succ]; rfl)
                                  refine readsTo_stepG (a' := ?_) rfl rfl (y_move (v := .int .i64 (i : Int)) rfl rfl) ?_ ?_
                                  rotate_left; (simp only [Act.put, List.setIfInBounds_toArray, List.set_cons_zero, List.set_cons_succ]; rfl)
                                  refine readsTo_stepG (a' := ?_) rfl rfl (y_index rfl rfl rfl Try.underlying34 Try.sizeOf37 hlt5 rfl) ?_ ?_
                                  rotate_left; (simp only [Act.put, List.setIfInBounds_toArray, List.set_cons_zero, List.set_cons_succ]; rfl)
                                  refine readsTo_stepG (a' := ?_) rfl rfl (y_load4 rfl rfl Try.isAgg37 Try.sizeOf37 fun _ h => h.2) ?_ ?_
                                  rotate_left; (simp only [Act.put, List.setIfInBounds_toArray, List.set_cons_zero, List.set_cons_succ]; rfl)
                                  refine readsTo_stepG (a' := ?_) rfl rfl (y_neqM (m := mi) rfl rfl rfl) ?_ ?_
                                  rotate_left; (simp only [Act.put, List.setIfInBounds_toArray, List.set_cons_zero, List.set_cons_succ]; rfl)
                                  refine readsTo_step (a' := ?_) rfl rfl (y_run (v := .bool false) fun w => by kernel_rfl) ?_ ?_
                                  rotate_left; (simp only [Act.put, List.setIfInBounds_toArray, List.set_cons_zero, List.set_cons_succ]; rfl)
                                  exact readsTo_nil _
                            case acts2 =>
                              refine actsTo_nil ?_
                              clear hfacts hb11
                              have hn12 : New w10 w11.drew := hn11.drew
                              obtain ⟨w12, hw12⟩ : ∃ w12, w12 = w11.drew := ⟨_, rfl⟩
                              rw [← hw12] at hn12 ⊢
                              clear hw12 hn11
                              go_wp2
                              go_roundw
                              case rel => exact ⟨i + 1, F10, by omega, by go_num, H10.out.1.new_ hn12, H10.out.2.1.new_ hn12, H10.out.2.2.1, H10.out.2.2.2.1.new_ hn12, H10.out.2.2.2.2⟩
                              case measure => simp [intOf]; omega
                          · have hiL : i = L.length := by omega
                            have hge : (emp s2 a i).getD a [] = [] := by
                              rw [emp_get, if_neg (by omega), if_pos rfl, ← HL.out, hiL, List.drop_length]
                            have hnx : emp s2 a i = emp s2 (a + 1) 0 := emp_next s2 a i (by rw [← HL.out]; omega)
                            have Hge := hide hge
                            have Hnx := hide hnx
                            have HiL := hide hiL
                            clear hge hnx hiL
                            go_wp2_with fail
                            refine (take_no g F9 (emp s2 a i) [] 0 a _ hM9.1 (.inr (by rw [Int.toNat_natCast]; exact Hge.out))).mono ?_
                            rintro e w10 ⟨rfl, hn10⟩
                            rw [show aggM ⟨0, 0, 0, 0⟩ = .agg #[.int .i64 0, .int .i64 0, .int .i64 0, .int .i64 0] from rfl]
                            have hM10 := (hM9.new_ hn10).new_ ((Upd.refl (fun _ => False) w10).alloc (.cells #[.int .i64 0, .int .i64 0, .int .i64 0, .int .i64 0] 37))
                            have hown10 := (hown9.new_ hn10).new_ ((Upd.refl (fun _ => False) w10).alloc (.cells #[.int .i64 0, .int .i64 0, .int .i64 0, .int .i64 0] 37))
                            rw [Hnx.out] at hM10
                            have H10 := hide (And.intro hM10 (And.intro hown10 hnw9))
                            clear hM10 hown10 hM9 hv9 hnv9 hown9 hnw9 hn10
                            go_wp2
                            go_roundw
                            case rel => exact ⟨a + 1, F9, by omega, by go_num, H10.out.1, H10.out.2.1, H10.out.2.2⟩
                            case measure => simp [intOf]; omega
                  · have ha' : a = s2.length := by rw [Hlen2.out, Hs1n.out]; omega
                    have hop : openB (emp s2 a 0) by_ = false := by rw [ha']; exact open_emp s2 _
                    have Hop := hide hop
                    clear hop ha' hown7 hne7
                    go_wp2_with fail
                    refine (first_any _).mono ?_
                    rintro e w8 ⟨rfl, hn8⟩
                    have hM8 := hM7.new_ hn8
                    clear hM7 hn8
                    go_wp2_with fail
                    refine (open_any g F7 (emp s2 a 0) [] 0 by_ _ hM8.1).mono ?_
                    rintro e w9 ⟨rfl, hn9⟩
                    rw [Hop.out]
                    go_wp2
                    go_ret
                    exact ⟨rfl, hM8.2.1.transNew hn9⟩
    · have hf' : fewB l = false := by simpa using hf
      go_wp2_with (go_at_call 9; refine (few_any _ l _ (hl.new_ hM.2.1)).mono ?_; rintro e w3 ⟨rfl, hn3⟩; rw [hf'])
      have hM3 := hM.new_ hn3
      refine (first_any _).mono ?_
      rintro e w4 ⟨rfl, hn4⟩
      go_wp2
      go_ret
      exact ⟨rfl, hM3.2.1.transNew hn4⟩
  · refine (new_no ag w1 (by omega)).mono ?_
    rintro e w2 ⟨rfl, rfl⟩
    go_wp2_with (go_at_call 7; refine (first_any _).mono ?_; rintro e w3 ⟨rfl, hn3⟩)
    go_ret
    exact ⟨rfl, hn1.transNew hn3⟩
end Go.Proofs.Ytcjmapljcnmfaaa
