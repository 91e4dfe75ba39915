/- PostDrops: the walk. -/
import Derived.Test.YtcjmapljcnmfaaaPostK
import Derived.Test.YtcjmapljcnmfaaaPostL
namespace Go.Proofs.Ytcjmapljcnmfaaa
open Go.RowKit Go.Deep
theorem openB_take_succ (s : Mails) (k : Nat) (h : k < s.length) (b : Int) : openB (s.take (k + 1)) b = (openB (s.take k) b || (s.getD k []).any fun m => m.by_ == b) := by
  unfold openB
  rw [List.take_succ_eq_append_getElem h]
  have e : s.getD k [] = s[k] := by simp [List.getD, h]
  rw [e, List.any_append]
  simp
theorem any_take_succ (l : List Ml) (k : Nat) (m : Ml) (h : l[k]? = some m) (b : Int) : (l.take (k + 1)).any (fun m => m.by_ == b) = ((l.take k).any (fun m => m.by_ == b) || m.by_ == b) := by
  have hk : k < l.length := (List.getElem?_eq_some_iff.1 h).1
  rw [List.take_succ_eq_append_getElem hk]
  have : l[k] = m := by rw [List.getElem?_eq_getElem hk] at h; injection h
  simp [this]
set_option maxHeartbeats 6400000 in
set_option maxRecDepth 100000 in
theorem drops_walk (ag : Int) (a : Int) (lv : Value) (l : List OpV) (W : World) (hl : OpsAt W lv l) (hok : ∀ o ∈ l, OpOk o) :
    Calls Try.prog 5 #[.int .i64 ag, lv, .int .i64 a] W fun e w' => e = .returned (.bool true) ∧ New W w' := by
  obtain ⟨A, c, rfl⟩ := hl.form
  have hmax : (l.length : Int) ≤ 9223372036854775807 := by
    rcases hl with ⟨rfl, _⟩ | ⟨_, _, c', _, hc, hm, _⟩
    · simp
    · unfold maxLen at hm; omega
  go_enter Try.func5, Try.ntmps5
  go_wp2_with (go_at_call 7; refine (first_any _).mono ?_; rintro e w1 ⟨rfl, hn1⟩)
  by_cases hag : 1 ≤ ag ∧ ag ≤ 64
  · obtain ⟨n, rfl⟩ := Int.eq_ofNat_of_zero_le (show 0 ≤ ag by omega)
    refine (new_yes n w1 (by omega) (by omega)).mono ?_
    rintro e w2 ⟨g, F, rfl, hp2, hF2, hn2⟩
    have hM : Made W w2 g F (List.replicate n []) [] 0 := ⟨hp2, hn1.transNew hn2, fun q hq => Nat.le_trans hn1.size (hF2 q hq)⟩
    clear hp2 hF2 hn2
    by_cases hf : fewB l = true
    · go_wp2_with (go_at_call 9; refine (few_any _ l _ (hl.new_ hM.2.1)).mono ?_; rintro e w3 ⟨rfl, hn3⟩; rw [hf])
      · have hM3 := hM.new_ hn3
        refine (first_any _).mono ?_
        rintro e w4 ⟨rfl, hn4⟩
        go_wp2
        go_ret
        exact ⟨rfl, hM3.2.1.transNew hn4⟩
      · have hM3 := hM.new_ hn3
        have hab : 0 ≤ a ∧ a < (n : Int) := by assumption
        obtain ⟨hl200, hl20k⟩ := few_to hf
        have hfitk := fit_playS hl20k (s := List.replicate n []) (fun x hx => (List.mem_replicate.1 hx).2)
        have Hfitk := hide hfitk
        have Hl20k := hide hl20k
        have Hok := hide hok
        have Hl := hide hl
        clear hfitk hl20k hf hM hok hl hn3 hn1
        go_loopw [9] (fun i wr => ∃ (k : Nat) (F' : Nat → Prop), k ≤ l.length ∧ i = .int .i64 k ∧ Made W wr g F' (playS (List.replicate n []) (l.take k)) [] 0) (fun i _ => l.length - (intOf i).toNat)
        case atStart => exact ⟨0, F, by omega, rfl, hM3⟩
        case round =>
          clear hM3
          obtain ⟨k, F', hk, rfl, hMr⟩ := hrel
          by_cases hlt1 : k < l.length
          · obtain ⟨b, off, rfl, hc, hm, hb, hopW⟩ := Hl.out.at_ hlt1
            have hop := hopW.new_ hMr.2.1 hb
            have hstep := playS_succ (List.replicate n []) l k hlt1
            have hmem := List.getElem_mem hlt1
            have hfk := Hfitk.out k hk
            obtain ⟨o, ho⟩ : ∃ o, o = l[k] := ⟨_, rfl⟩
            rw [← ho] at hop hopW hstep hmem
            have hwt := to_le (wt_le Hl20k.out hmem)
            have hwt2 := wt_le Hl20k.out hmem
            have hfm := fewN_mono l k
            have hf20 := Hl20k.out
            have hto1 : o.to.length ≤ 20000 := by omega
            have hfit2 : ∀ x ∈ playS (List.replicate n []) (l.take k), x.length + o.to.length ≤ 1000000 := fun x hx => by have := hfk x hx; omega
            have Hstep := hide hstep
            have Hfit2 := hide hfit2
            have Hop := hide hop
            have HopW := hide hopW
            have c0 := hop.c0
            clear hstep hfit2 hop hopW hmem hfk ho hwt hwt2 hfm hf20 hm
            by_cases hkd : (o.kind == 0) = true
            · go_wp2
              have hfacts : wr.drew.cell? ⟨b, off + k * 8 + 1, none⟩ = some (.int .i64 o.by_) ∧ wr.drew.cell? ⟨b, off + k * 8 + 6, none⟩ = some o.tv ∧ wr.drew.cell? ⟨b, off + k * 8 + 2, none⟩ = some (.int .i64 o.bl) ∧ wr.drew.cell? ⟨b, off + k * 8 + 3, none⟩ = some (.int .i64 o.ln) ∧ wr.drew.cell? ⟨b, off + k * 8 + 4, none⟩ = some (.int .i64 o.ev) :=
                ⟨Hop.out.c1, Hop.out.c6, Hop.out.c2, Hop.out.c3, Hop.out.c4⟩
              refine wp_region_df (b := ?bb) (fun w' => w'.cell? ⟨b, off + k * 8 + 1, none⟩ = some (.int .i64 o.by_) ∧ w'.cell? ⟨b, off + k * 8 + 6, none⟩ = some o.tv ∧ w'.cell? ⟨b, off + k * 8 + 2, none⟩ = some (.int .i64 o.bl) ∧ w'.cell? ⟨b, off + k * 8 + 3, none⟩ = some (.int .i64 o.ln) ∧ w'.cell? ⟨b, off + k * 8 + 4, none⟩ = some (.int .i64 o.ev)) 1000
                [0, 1, 2, 3, 4, 5, 6, 7, 8, 9, 10, 11, 12, 13, 14, 15, 16, 17, 18, 19, 20, 21, 22, 23, 24, 25] [26] (by kernel_rfl) (by kernel_rfl) (fun _ _ d _ _ h => by cases d <;> exact h) hfacts ?reads ?acts
              case reads =>
                refine readsTo_step (a' := ?_) rfl rfl (y_move (v := .pointer (some ⟨g, 0, none⟩)) rfl rfl) ?_ ?_
                rotate_left; (simp only [Act.put, List.setIfInBounds_toArray, List.set_cons_zero, List.set_cons_succ]; rfl)
                refine readsTo_step (a' := ?_) rfl rfl (y_move (v := .slice (some ⟨b, off, none⟩) l.length c) rfl rfl) ?_ ?_
                rotate_left; (simp only [Act.put, List.setIfInBounds_toArray, List.set_cons_zero, List.set_cons_succ]; rfl)
                refine readsTo_step (a' := ?_) rfl rfl (y_move (v := .int .i64 (k : Int)) rfl rfl) ?_ ?_
                rotate_left; (simp only [Act.put, List.setIfInBounds_toArray, List.set_cons_zero, List.set_cons_succ]; rfl)
                refine readsTo_step (a' := ?_) rfl rfl (y_index rfl rfl rfl Try.underlying22 Try.sizeOf32 hlt1 rfl) ?_ ?_
                rotate_left; (simp only [Act.put, List.setIfInBounds_toArray, List.set_cons_zero, List.set_cons_succ]; rfl)
                refine readsTo_step (a' := ?_) rfl rfl (y_field rfl rfl (field32_1 b (off + k * 8))) ?_ ?_
                rotate_left; (simp only [Act.put, List.setIfInBounds_toArray, List.set_cons_zero, List.set_cons_succ]; rfl)
                refine readsTo_step (a' := ?_) rfl rfl (y_load rfl rfl Try.isAgg3 fun _ h => h.1) ?_ ?_
                rotate_left; (simp only [Act.put, List.setIfInBounds_toArray, List.set_cons_zero, List.set_cons_succ]; rfl)
                refine readsTo_step (a' := ?_) rfl rfl (y_move (v := .slice (some ⟨b, off, none⟩) l.length c) rfl rfl) ?_ ?_
                rotate_left; (simp only [Act.put, List.setIfInBounds_toArray, List.set_cons_zero, List.set_cons_succ]; rfl)
                refine readsTo_step (a' := ?_) rfl rfl (y_move (v := .int .i64 (k : Int)) rfl rfl) ?_ ?_
                rotate_left; (simp only [Act.put, List.setIfInBounds_toArray, List.set_cons_zero, List.set_cons_succ]; rfl)
                refine readsTo_step (a' := ?_) rfl rfl (y_index rfl rfl rfl Try.underlying22 Try.sizeOf32 hlt1 rfl) ?_ ?_
                rotate_left; (simp only [Act.put, List.setIfInBounds_toArray, List.set_cons_zero, List.set_cons_succ]; rfl)
                refine readsTo_step (a' := ?_) rfl rfl (y_field rfl rfl (field32_6 b (off + k * 8))) ?_ ?_
                rotate_left; (simp only [Act.put, List.setIfInBounds_toArray, List.set_cons_zero, List.set_cons_succ]; rfl)
                refine readsTo_step (a' := ?_) rfl rfl (y_load rfl rfl Try.isAgg23 fun _ h => h.2.1) ?_ ?_
                rotate_left; (simp only [Act.put, List.setIfInBounds_toArray, List.set_cons_zero, List.set_cons_succ]; rfl)
                refine readsTo_step (a' := ?_) rfl rfl (y_move (v := .slice (some ⟨b, off, none⟩) l.length c) rfl rfl) ?_ ?_
                rotate_left; (simp only [Act.put, List.setIfInBounds_toArray, List.set_cons_zero, List.set_cons_succ]; rfl)
                refine readsTo_step (a' := ?_) rfl rfl (y_move (v := .int .i64 (k : Int)) rfl rfl) ?_ ?_
                rotate_left; (simp only [Act.put, List.setIfInBounds_toArray, List.set_cons_zero, List.set_cons_succ]; rfl)
                refine readsTo_step (a' := ?_) rfl rfl (y_index rfl rfl rfl Try.underlying22 Try.sizeOf32 hlt1 rfl) ?_ ?_
                rotate_left; (simp only [Act.put, List.setIfInBounds_toArray, List.set_cons_zero, List.set_cons_succ]; rfl)
                refine readsTo_step (a' := ?_) rfl rfl (y_field rfl rfl (field32_2 b (off + k * 8))) ?_ ?_
                rotate_left; (simp only [Act.put, List.setIfInBounds_toArray, List.set_cons_zero, List.set_cons_succ]; rfl)
                refine readsTo_step (a' := ?_) rfl rfl (y_load rfl rfl Try.isAgg3 fun _ h => h.2.2.1) ?_ ?_
                rotate_left; (simp only [Act.put, List.setIfInBounds_toArray, List.set_cons_zero, List.set_cons_succ]; rfl)
                refine readsTo_step (a' := ?_) rfl rfl (y_move (v := .slice (some ⟨b, off, none⟩) l.length c) rfl rfl) ?_ ?_
                rotate_left; (simp only [Act.put, List.setIfInBounds_toArray, List.set_cons_zero, List.set_cons_succ]; rfl)
                refine readsTo_step (a' := ?_) rfl rfl (y_move (v := .int .i64 (k : Int)) rfl rfl) ?_ ?_
                rotate_left; (simp only [Act.put, List.setIfInBounds_toArray, List.set_cons_zero, List.set_cons_succ]; rfl)
                refine readsTo_step (a' := ?_) rfl rfl (y_index rfl rfl rfl Try.underlying22 Try.sizeOf32 hlt1 rfl) ?_ ?_
                rotate_left; (simp only [Act.put, List.setIfInBounds_toArray, List.set_cons_zero, List.set_cons_succ]; rfl)
                refine readsTo_step (a' := ?_) rfl rfl (y_field rfl rfl (field32_3 b (off + k * 8))) ?_ ?_
                rotate_left; (simp only [Act.put, List.setIfInBounds_toArray, List.set_cons_zero, List.set_cons_succ]; rfl)
                refine readsTo_step (a' := ?_) rfl rfl (y_load rfl rfl Try.isAgg3 fun _ h => h.2.2.2.1) ?_ ?_
                rotate_left; (simp only [Act.put, List.setIfInBounds_toArray, List.set_cons_zero, List.set_cons_succ]; rfl)
                refine readsTo_step (a' := ?_) rfl rfl (y_move (v := .slice (some ⟨b, off, none⟩) l.length c) rfl rfl) ?_ ?_
                rotate_left; (simp only [Act.put, List.setIfInBounds_toArray, List.set_cons_zero, List.set_cons_succ]; rfl)
                refine readsTo_step (a' := ?_) rfl rfl (y_move (v := .int .i64 (k : Int)) rfl rfl) ?_ ?_
                rotate_left; (simp only [Act.put, List.setIfInBounds_toArray, List.set_cons_zero, List.set_cons_succ]; rfl)
                refine readsTo_step (a' := ?_) rfl rfl (y_index rfl rfl rfl Try.underlying22 Try.sizeOf32 hlt1 rfl) ?_ ?_
                rotate_left; (simp only [Act.put, List.setIfInBounds_toArray, List.set_cons_zero, List.set_cons_succ]; rfl)
                refine readsTo_step (a' := ?_) rfl rfl (y_field rfl rfl (field32_4 b (off + k * 8))) ?_ ?_
                rotate_left; (simp only [Act.put, List.setIfInBounds_toArray, List.set_cons_zero, List.set_cons_succ]; rfl)
                refine readsTo_step (a' := ?_) rfl rfl (y_load rfl rfl Try.isAgg3 fun _ h => h.2.2.2.2) ?_ ?_
                rotate_left; (simp only [Act.put, List.setIfInBounds_toArray, List.set_cons_zero, List.set_cons_succ]; rfl)
                exact readsTo_nil _

              case acts =>
                have hMd := hMr.new_ ((Upd.refl _ wr).drew)
                refine actsTo_cons rfl rfl fun K hK => a_call (args := #[.pointer (some ⟨g, 0, none⟩), .int .i64 o.by_, o.tv, .int .i64 o.bl, .int .i64 o.ln, .int .i64 o.ev]) rfl rfl (fun w => by kernel_rfl)
                  (send_any g F' _ [] 0 o.by_ o.tv o.to.length o.to ⟨o.bl, o.ln, o.by_, o.ev⟩ wr.drew rfl hMd.1 (by omega) (by exact Hop.out.to) (fun h0 => by
                    intro q off' c' hv
                    exact hMd.old HopW.out.to q off' c' hv (by omega)) Hfit2.out) ?_
                rintro e w5 ⟨rfl, F5, hp5, hu5, hF5⟩
                have hM5 := hMd.next hp5 hu5 hF5
                have hop5 := HopW.out.new_ hM5.2.1 hb
                refine ⟨_, rfl, hK _ _ (.inr ⟨hop5.c1, hop5.c6, hop5.c2, hop5.c3, hop5.c4⟩) (actsTo_nil ?_)⟩
                simp only [Act.put, List.setIfInBounds_toArray, List.set_cons_zero, List.set_cons_succ]
                clear hfacts hop5 hp5 hu5 hF5
                have hM6 : Made W w5 g F5 (playS (List.replicate n []) (l.take (k + 1))) [] 0 := by
                  rw [Hstep.out]
                  unfold stepS
                  rw [if_pos (by simpa using hkd)]
                  exact hM5
                clear hM5 hMd hMr
                go_wp2
                go_roundw
                case rel => exact ⟨k + 1, F5, by omega, by go_num, hM6⟩
                case measure => simp [intOf]; omega
            · have hkd' : (o.kind == 0) = false := by simpa using hkd
              clear hkd
              go_wp2
              go_roundw
              case rel =>
                refine ⟨k + 1, F', by omega, by go_num, ?_⟩
                rw [Hstep.out]
                unfold stepS
                rw [if_neg (by simpa using hkd')]
                exact hMr
              case measure => simp [intOf]; omega
          · have hk' : k = l.length := by omega
            subst hk'
            clear hlt1
            rw [List.take_of_length_le (Nat.le_refl _)] at hMr
            obtain ⟨s1, hs1⟩ : ∃ s1, s1 = playS (List.replicate n []) l := ⟨_, rfl⟩
            have hs1n : s1.length = n := by rw [hs1, length_playS]; simp
            have hfit1 : ∀ x ∈ s1, x.length ≤ 20000 := fun x hx => by
              have h1 := Hfitk.out l.length (Nat.le_refl _) x (by rw [List.take_of_length_le (Nat.le_refl _), ← hs1]; exact hx)
              rw [List.take_of_length_le (Nat.le_refl _)] at h1
              have := Hl20k.out
              omega
            rw [← hs1] at hMr
            clear hs1
            obtain ⟨ka, rfl⟩ := Int.eq_ofNat_of_zero_le hab.1
            obtain ⟨_, hkan⟩ := hab
            have hag1 : isAg s1 (ka : Int) = true := by simp [isAg, hs1n]; omega
            have hds : dropS s1 (ka : Int) = s1.set ka [] := by unfold dropS; rw [if_pos hag1, Int.toNat_natCast]
            obtain ⟨s2, hs2⟩ : ∃ s2, s2 = s1.set ka [] := ⟨_, rfl⟩
            have hs2n : s2.length = n := by rw [hs2, List.length_set]; exact hs1n
            have hs2a : s2.getD ka [] = [] := by rw [hs2]; simp only [List.getD, List.getElem?_set, if_true]; split <;> rfl
            have hag2 : isAg s2 (ka : Int) = true := by simp [isAg, hs2n]; omega
            have hfit2 : ∀ x ∈ s2, x.length ≤ 20000 := fun x hx => by
              rw [hs2] at hx
              rcases List.mem_or_eq_of_mem_set hx with h | h
              · exact hfit1 x h
              · rw [h]; simp
            rw [← hs2] at hds
            have Hds := hide hds
            have H2 := hide (And.intro hs2n (And.intro hs2a (And.intro hag2 hfit2)))
            clear hs2 hag1 hds hs2n hs2a hag2 hfit2 hfit1 hs1n
            go_wp2_with fail
            refine (drop_any g F' s1 [] 0 (ka : Int) _ hMr.1).mono ?_
            rintro e w5 ⟨rfl, hp5, hu5⟩
            rw [Hds.out] at hp5
            have hM5 := hMr.next hp5 hu5 (fun q hq => .inl hq)
            clear hMr hp5 hu5
            go_wp2_with fail
            refine (mails_any g F' s2 [] 0 ka _ hM5.1 (fun x hx => Nat.le_trans (H2.out.2.2.2 x hx) (by omega))).mono ?_
            rintro e w6 ⟨v6, rfl, hv6, hn6⟩
            rw [if_pos H2.out.2.2.1, Int.toNat_natCast, H2.out.2.1] at hv6
            obtain ⟨A6, c6, rfl⟩ := hv6.row.form
            have hM6 := hM5.new_ hn6
            clear hv6 hM5 hn6
            go_wp2
            go_loopw [10] (fun i wr => ∃ b : Nat, b ≤ n ∧ i = .int .i64 b ∧ Made W wr g F' s2 [] 0) (fun i _ => n - (intOf i).toNat)
            case atStart => exact ⟨0, by omega, rfl, hM6⟩
            case round =>
              clear hM6
              obtain ⟨b, hb, rfl, hM7⟩ := hrel
              by_cases hlt2 : b < n
              · go_wp2
                go_loopw [11, 12] (fun s i wr => ∃ j : Nat, j ≤ n ∧ i = .int .i64 j ∧ s = .bool (openB (s2.take j) (b : Int)) ∧ Made W wr g F' s2 [] 0) (fun _ i _ => n - (intOf i).toNat)
                case atStart => exact ⟨0, by omega, rfl, rfl, hM7⟩
                case round =>
                  clear hM7
                  obtain ⟨j, hj, rfl, rfl, hM8⟩ := hrel
                  by_cases hlt3 : j < n
                  · have hagj : isAg s2 (j : Int) = true := by simp [isAg, H2.out.1]; omega
                    have Hagj := hide hagj
                    have hos := openB_take_succ s2 j (by rw [H2.out.1]; exact hlt3) (b : Int)
                    have Hos := hide hos
                    obtain ⟨o0, ho0⟩ : ∃ o0, o0 = openB (s2.take j) (b : Int) := ⟨_, rfl⟩
                    rw [← ho0]
                    have Ho0 := hide ho0
                    clear hagj hos ho0
                    go_wp2_with fail
                    refine (mails_any g F' s2 [] 0 j _ hM8.1 (fun x hx => Nat.le_trans (H2.out.2.2.2 x hx) (by omega))).mono ?_
                    rintro e w9 ⟨v9, rfl, hv9, hn9⟩
                    rw [if_pos Hagj.out, Int.toNat_natCast] at hv9
                    have hM9 := hM8.new_ hn9
                    obtain ⟨A9, c9, rfl⟩ := hv9.row.form
                    obtain ⟨L, hL⟩ : ∃ L, L = s2.getD j [] := ⟨_, rfl⟩
                    rw [← hL] at hv9 ⊢
                    have HL := hide hL
                    have hrow9 := hv9.row
                    have hLb : (L.length : Int) ≤ 20000 := by
                      have hm : s2.getD j [] ∈ s2 ∨ s2.getD j [] = [] := by
                        simp only [List.getD]
                        cases hs : s2[j]? with
                        | none => exact .inr rfl
                        | some x => exact .inl (List.mem_of_getElem? hs)
                      rw [hL]
                      rcases hm with hm | hm
                      · have := H2.out.2.2.2 _ hm; omega
                      · rw [hm]; simp
                    have HM9 := hide hM9
                    have Hrow9 := hide hrow9
                    clear hL hv9 hn9 hM9 hM8 hrow9
                    go_wp2_with fail
                    go_loop [11, 14] (fun s i => ∃ k : Nat, k ≤ L.length ∧ i = .int .i64 k ∧ s = .bool (o0 || (L.take k).any (fun m => m.by_ == (b : Int)))) (fun _ i => L.length - (intOf i).toNat)
                    case atStart => exact ⟨0, by omega, rfl, by simp⟩
                    case round =>
                      obtain ⟨k, hk, rfl, rfl⟩ := hrel
                      by_cases hlt4 : k < L.length
                      · obtain ⟨m, hm⟩ : ∃ m, L[k]? = some m := ⟨_, List.getElem?_eq_getElem hlt4⟩
                        have hsucc := any_take_succ L k m hm (b : Int)
                        obtain ⟨o1, ho1⟩ : ∃ o1, o1 = (o0 || (L.take k).any (fun m => m.by_ == (b : Int))) := ⟨_, rfl⟩
                        have Hs := hide (And.intro hsucc ho1)
                        rw [← ho1]
                        obtain ⟨b9, off9, c9', hv9', hc9, hm9, hb9, hx9⟩ : ∃ b8 off8 c8', Value.slice A9 L.length c9 = .slice (some ⟨b8, off8, none⟩) L.length c8' ∧ L.length ≤ c8' ∧ c8' ≤ maxLen ∧ b8 < w9.heap.size ∧ ∀ j u, (encL L)[j]? = some u → w9.cell? ⟨b8, off8 + j, none⟩ = some u := by
                          rcases Hrow9.out.2 with ⟨h0, _⟩ | h
                          · omega
                          · exact h
                        injection hv9' with hA _ hc'
                        subst hA hc'
                        obtain ⟨_, _, k2, _⟩ := cellsM (w := w9) hx9 hm
                        clear hsucc ho1 hx9 hm hm9
                        cases o1 with
                        | true =>
                          go_wp2
                          go_round
                          case rel => exact ⟨k + 1, by omega, by go_num, by rw [Hs.out.1, ← Bool.or_assoc, ← Hs.out.2]; simp⟩
                          case measure => simp [intOf]; omega
                        | false =>
                          go_wp2
                          go_round
                          case rel => exact ⟨k + 1, by omega, by go_num, by rw [Hs.out.1, ← Bool.or_assoc, ← Hs.out.2]; simp⟩
                          case measure => simp [intOf]; omega
                      · have hkl : k = L.length := by omega
                        subst hkl
                        obtain ⟨o1, ho1⟩ : ∃ o1, o1 = (o0 || (L.take L.length).any (fun m => m.by_ == (b : Int))) := ⟨_, rfl⟩
                        have Hs := hide ho1
                        rw [← ho1]
                        clear ho1
                        go_wp2
                        go_roundw
                        case rel =>
                          refine ⟨j + 1, by omega, by go_num, ?_, HM9.out⟩
                          rw [Hos.out, Hs.out, List.take_of_length_le (Nat.le_refl _), Ho0.out, HL.out]
                        case measure => simp [intOf]; omega
                  · have hjn : j = s2.length := by rw [H2.out.1]; omega
                    subst hjn
                    rw [List.take_of_length_le (Nat.le_refl _)]
                    clear hlt3
                    obtain ⟨o2, ho2⟩ : ∃ o2, o2 = openB s2 (b : Int) := ⟨_, rfl⟩
                    rw [← ho2]
                    have Ho2 := hide ho2
                    have hs2n := H2.out.1
                    clear ho2
                    go_wp2_with fail
                    refine (open_any g F' s2 [] 0 b _ hM8.1).mono ?_
                    rintro e w10 ⟨rfl, hn10⟩
                    rw [← Ho2.out]
                    have hM10 := hM8.new_ hn10
                    clear hM8 hn10
                    go_wp2
                    go_roundw
                    case rel => exact ⟨b + 1, by omega, by go_num, hM10⟩
                    case measure => simp [intOf]; omega
              · have hbn : b = n := by omega
                subst hbn
                clear hlt2
                go_wp2_with fail
                refine (take_no g F' s2 [] 0 ka _ hM7.1 (.inr (by rw [Int.toNat_natCast]; exact H2.out.2.1))).mono ?_
                rintro e w8 ⟨rfl, hn8⟩
                rw [show aggM ⟨0, 0, 0, 0⟩ = .agg #[.int .i64 0, .int .i64 0, .int .i64 0, .int .i64 0] from rfl]
                have hM8 := (hM7.new_ hn8).new_ ((Upd.refl (fun _ => False) w8).alloc (.cells #[.int .i64 0, .int .i64 0, .int .i64 0, .int .i64 0] 37))
                clear hM7 hn8
                go_wp2_with fail
                refine (first_any _).mono ?_
                rintro e w9 ⟨rfl, hn9⟩
                go_wp2
                go_ret
                exact ⟨rfl, hM8.2.1.transNew hn9⟩
      · have hM3 := hM.new_ hn3
        refine (first_any _).mono ?_
        rintro e w4 ⟨rfl, hn4⟩
        go_wp2
        go_ret
        exact ⟨rfl, hM3.2.1.transNew hn4⟩
    · have hf' : fewB l = false := by simpa using hf
      go_wp2_with (go_at_call 9; refine (few_any _ l _ (hl.new_ hM.2.1)).mono ?_; rintro e w3 ⟨rfl, hn3⟩; rw [hf'])
      have hM3 := hM.new_ hn3
      refine (first_any _).mono ?_
      rintro e w4 ⟨rfl, hn4⟩
      go_wp2
      go_ret
      exact ⟨rfl, hM3.2.1.transNew hn4⟩
  · refine (new_no ag w1 (by omega)).mono ?_
    rintro e w2 ⟨rfl, rfl⟩
    go_wp2_with (go_at_call 7; refine (first_any _).mono ?_; rintro e w3 ⟨rfl, hn3⟩)
    go_ret
    exact ⟨rfl, hn1.transNew hn3⟩
end Go.Proofs.Ytcjmapljcnmfaaa
