/- PostTimes: the walk. -/
import Derived.Test.YtcjmapljcnmfaaaPostT
import Derived.Test.YtcjmapljcnmfaaaPostK
import Derived.Test.YtcjmapljcnmfaaaPostI
namespace Go.Proofs.Ytcjmapljcnmfaaa
open Go.RowKit Go.Deep
/-- A slice of texts. -/
def TextsAt (w : World) (v : Value) (l : List (List Int)) : Prop :=
  (l = [] ∧ ∃ A c, v = .slice A 0 c) ∨
    ∃ b off c, v = .slice (some ⟨b, off, none⟩) l.length c ∧ l.length ≤ c ∧ c ≤ maxLen ∧ b < w.heap.size ∧ ∀ j t, l[j]? = some t → ∃ tv, w.cell? ⟨b, off + j, none⟩ = some tv ∧ RowAt w 1 tv t.length (encU t)
theorem TextsAt.form {w : World} {v : Value} {l : List (List Int)} (h : TextsAt w v l) : ∃ A c, v = .slice A l.length c := by
  rcases h with ⟨rfl, A, c, rfl⟩ | ⟨b, off, c, rfl, _⟩
  · exact ⟨A, c, rfl⟩
  · exact ⟨_, c, rfl⟩
theorem TextsAt.new_ {w w' : World} {v : Value} {l : List (List Int)} (h : TextsAt w v l) (hu : New w w') : TextsAt w' v l := by
  rcases h with h | ⟨b, off, c, hv, hc, hm, hb, hx⟩
  · exact .inl h
  · refine .inr ⟨b, off, c, hv, hc, hm, Nat.lt_of_lt_of_le hb hu.size, fun j t hj => ?_⟩
    obtain ⟨tv, h1, h2⟩ := hx j t hj
    exact ⟨tv, (hu.cellN (p := ⟨b, off + j, none⟩) hb).trans h1, h2.new_ hu⟩
theorem TextsAt.at_ {w : World} {A : Option Addr} {c : Nat} {l : List (List Int)} (h : TextsAt w (.slice A l.length c) l) {k : Nat} (hk : k < l.length) :
    ∃ b off At ct, A = some ⟨b, off, none⟩ ∧ l.length ≤ c ∧ c ≤ maxLen ∧ b < w.heap.size ∧ w.cell? ⟨b, off + k, none⟩ = some (.slice At (l.getD k []).length ct) ∧ RowAt w 1 (.slice At (l.getD k []).length ct) (l.getD k []).length (encU (l.getD k [])) := by
  rcases h with ⟨rfl, _⟩ | ⟨b, off, c', hv, hc, hm, hb, hx⟩
  · simp at hk
  · injection hv with hA _ hc'
    subst hA hc'
    obtain ⟨tv, h1, h2⟩ := hx k l[k] (List.getElem?_eq_getElem hk)
    have hd : l.getD k [] = l[k] := by simp [List.getD, hk]
    rw [hd]
    obtain ⟨At, ct, rfl⟩ := h2.form
    exact ⟨b, off, At, ct, rfl, hc, hm, hb, h1, h2⟩
/-- What the law counts of the texts. -/
def sumU (l : List (List Int)) : Nat := (l.map fun t => min t.length 20001).sum
theorem sumU_succ (l : List (List Int)) {k : Nat} (h : k < l.length) : sumU (l.take (k + 1)) = sumU (l.take k) + min (l.getD k []).length 20001 := by
  unfold sumU
  rw [List.take_succ_eq_append_getElem h, List.map_append, List.sum_append]
  simp [List.getD, h]
theorem sumU_le (l : List (List Int)) (k : Nat) : sumU (l.take k) ≤ 20001 * k := by
  induction l generalizing k with
  | nil => simp [sumU]
  | cons t l ih =>
    cases k with
    | zero => simp [sumU]
    | succ k =>
      have := ih k
      simp only [sumU, List.take_succ_cons, List.map_cons, List.sum_cons] at this ⊢
      omega
theorem le_sumU {l : List (List Int)} {t : List Int} (h : t ∈ l) : min t.length 20001 ≤ sumU l := by
  induction l with
  | nil => cases h
  | cons x l ih =>
    simp only [sumU, List.map_cons, List.sum_cons] at ih ⊢
    rcases List.mem_cons.1 h with rfl | h
    · omega
    · have := ih h; omega
def repF (l : List (List Int)) (j : Nat) : List Int × Int := (l.getD j [], (j : Int))
def reps (l : List (List Int)) (k n : Nat) : List (List Int × Int) := (List.range' k n).map (repF l)
theorem reps_snoc (l : List (List Int)) (k : Nat) : reps l 0 (k + 1) = reps l 0 k ++ [(l.getD k [], (k : Int))] := by
  unfold reps
  rw [List.range'_concat]
  simp [repF]
theorem reps_cons (l : List (List Int)) (k n : Nat) : reps l k (n + 1) = (l.getD k [], (k : Int)) :: reps l (k + 1) n := by
  unfold reps
  rw [List.range'_succ]
  rfl
theorem reps_len (l : List (List Int)) (k n : Nat) : (reps l k n).length = n := by simp [reps]
theorem units_same (v1 v2 : Value) (a : List Int) (w : World) (h1 : RowAt w 1 v1 a.length (encU a)) (h2 : RowAt w 1 v2 a.length (encU a)) :
    Calls Try.prog 18 #[v1, v2] w fun e w' => e = .returned (.bool true) ∧ ∃ m, w' = w.drewN m :=
  (units_any v1 v2 a a w h1 h2).mono fun e w' ⟨he, hm⟩ => ⟨by rw [he]; simp, hm⟩
theorem tick_low {now n : Int} (h : n < 1) (h1 : now ≤ 9007199254740991) : tickN now n = now := by unfold tickN; omega
theorem tick_mid {now n : Int} (h : 1 ≤ n) (h1 : now + n ≤ 9007199254740991) : tickN now n = now + n := by unfold tickN; omega
theorem tick_top {now n : Int} (h : 1 ≤ n) (h1 : 9007199254740991 < now + n) : tickN now n = 9007199254740991 := by unfold tickN; omega
set_option maxHeartbeats 6400000 in
set_option maxRecDepth 100000 in
theorem times_walk (tv sv : Value) (ticks : List Int) (says : List (List Int)) (W : World) (ht : RowAt W 1 tv ticks.length (encI ticks)) (hwf : ∀ z ∈ ticks, wfI z) (hs : TextsAt W sv says) :
    Calls Try.prog 4 #[tv, sv] W fun e w' => e = .returned (.bool true) ∧ New W w' := by
  obtain ⟨At, ct, rfl⟩ := ht.form
  obtain ⟨As, cs, rfl⟩ := hs.form
  have hmaxs : (says.length : Int) ≤ 9223372036854775807 := by
    rcases hs with ⟨rfl, _⟩ | ⟨_, _, c', _, hc, hm, _⟩
    · simp
    · unfold maxLen at hm; omega
  have hmaxt : (ticks.length : Int) ≤ 9223372036854775807 := by
    rcases ht.2 with ⟨h0, _⟩ | ⟨_, _, c', _, hc, hm, _⟩
    · omega
    · unfold maxLen at hm; omega
  have Ht := hide ht
  have Hwf := hide hwf
  have Hs := hide hs
  clear ht hwf hs
  go_enter Try.func4, Try.ntmps4
  go_wp2_with (go_at_call 7; refine (first_any _).mono ?_; rintro e w1 ⟨rfl, hn1⟩)
  refine (new_yes 1 w1 (by omega) (by omega)).mono ?_
  rintro e w2 ⟨g, F, rfl, hp2, hF2, hn2⟩
  have hM : Made W w2 g F [[]] [] 0 := ⟨hp2, hn1.transNew hn2, fun q hq => Nat.le_trans hn1.size (hF2 q hq)⟩
  clear hp2 hF2 hn2 hn1
  go_wp2_with fail
  go_loop [7, 8] (fun s i => ∃ k : Nat, k ≤ says.length ∧ k ≤ 200 ∧ i = .int .i64 k ∧ s = .int .i64 (sumU (says.take k) : Nat)) (fun _ i => 200 - (intOf i).toNat)
  case atStart => exact ⟨0, by omega, by omega, rfl, by simp [sumU]⟩
  case round =>
    obtain ⟨k, hk, hk2, rfl, rfl⟩ := hrel
    have hle := sumU_le says k
    obtain ⟨q, hq⟩ : ∃ q, q = sumU (says.take k) := ⟨_, rfl⟩
    rw [← hq] at hle ⊢
    have hqb : (q : Int) ≤ 20001 * 200 := by omega
    have Hq := hide hq
    clear hq hle
    by_cases hlt : k < says.length ∧ k < 200
    · obtain ⟨hlt1, hlt2⟩ := hlt
      obtain ⟨b, off, Ak, ck, rfl, hc, hm, hb, hcell, hrow⟩ := (Hs.out.new_ hM.2.1).at_ hlt1
      have hsucc := sumU_succ says hlt1
      obtain ⟨nk, hnk⟩ : ∃ nk, nk = (says.getD k []).length := ⟨_, rfl⟩
      rw [← hnk] at hcell hsucc
      have Hrest := hide (And.intro hrow (And.intro hsucc hnk))
      clear hrow hsucc hnk hm
      go_wp2
      go_round
      case rel =>
        refine ⟨k + 1, by omega, by omega, by go_num, ?_⟩
        rw [Hrest.out.2.1, ← Hq.out]
        congr 1
        split <;> omega
      case measure => simp [intOf]; omega
    · have hcase : (says.length ≤ 200 ∧ k = says.length) ∨ (200 < says.length ∧ k = 200) := by omega
      clear hlt
      rcases hcase with ⟨h200, rfl⟩ | ⟨h200, rfl⟩
      · by_cases htk : ticks.length ≤ 200
        · by_cases hq20 : q ≤ 20000
          · go_wp2_with fail
            have hbig : ∀ t ∈ says, t.length ≤ 20000 := fun t ht => by
              have h1 := le_sumU ht
              have h2 := Hq.out
              rw [List.take_of_length_le (Nat.le_refl _)] at h2
              omega
            have Hbig := hide hbig
            clear hbig Hq hqb hq20 hk hk2
            go_loopw [9] (fun i wr => ∃ (k : Nat) (now : Int), k ≤ ticks.length ∧ i = .int .i64 k ∧ 0 ≤ now ∧ now ≤ 9007199254740991 ∧ Made W wr g F [[]] [] now) (fun i _ => ticks.length - (intOf i).toNat)
            case atStart => exact ⟨0, 0, by omega, rfl, by omega, by omega, hM⟩
            case round =>
              clear hM
              obtain ⟨k, now, hk, rfl, hnow0, hnow1, hMr⟩ := hrel
              by_cases hlt : k < ticks.length
              · obtain ⟨b, off, rfl, hc, hm, hb, hcellW⟩ := rowI Ht.out hlt
                have hn := Hwf.out (ticks.getD k 0) (by simp [List.getD, hlt])
                obtain ⟨n, hnn⟩ : ∃ n, n = ticks.getD k 0 := ⟨_, rfl⟩
                rw [← hnn] at hcellW hn
                unfold wfI at hn
                obtain ⟨hn1, hn2⟩ := hn
                have Hnn := hide hnn
                have HW := hide hcellW
                have hcell := (hMr.2.1.cellN (p := ⟨b, off + k, none⟩) hb).trans hcellW
                clear hnn hcellW hm
                go_wp2_with fail
                refine (now_any g F [[]] [] now wr hMr.1).mono ?_
                rintro e w4 ⟨rfl, rfl⟩
                go_wp2_with fail
                refine (tick_any g F [[]] [] now n wr hMr.1 hnow0 hnow1 ⟨hn1, hn2⟩).mono ?_
                rintro e w4 ⟨rfl, hp4, hu4⟩
                have hM4 := hMr.next hp4 hu4 (fun _ h => .inl h)
                have hcell4 := (hM4.2.1.cellN (p := ⟨b, off + k, none⟩) hb).trans HW.out
                clear hp4 hu4 hcell
                by_cases hlow : n < 1
                · have ht := tick_low hlow hnow1
                  rw [ht] at hM4 ⊢
                  have hself : (now != now) = false := by simp
                  clear ht hMr
                  go_wp2_with fail
                  refine (now_any g F [[]] [] now w4 hM4.1).mono ?_
                  rintro e w5 ⟨rfl, rfl⟩
                  go_wp2
                  go_roundw
                  case rel => exact ⟨k + 1, _, by omega, by go_num, by omega, by omega, hM4⟩
                  case measure => simp [intOf]; omega
                · by_cases hmid : now + n ≤ 9007199254740991
                  · have ht := tick_mid (by omega) hmid
                    rw [ht] at hM4 ⊢
                    have hself : (now + n != now + n) = false := by simp
                    have hself2 : (now + n - now != n) = false := by simp; omega
                    clear ht hMr
                    go_wp2_with fail
                    refine (now_any g F [[]] [] (now + n) w4 hM4.1).mono ?_
                    rintro e w5 ⟨rfl, rfl⟩
                    go_wp2
                    all_goals
                      go_roundw
                      case rel => exact ⟨k + 1, _, by omega, by go_num, by omega, by omega, hM4⟩
                      case measure => simp [intOf]; omega
                  · have ht := tick_top (now := now) (n := n) (by omega) (by omega)
                    rw [ht] at hM4 ⊢
                    clear ht hMr
                    go_wp2_with fail
                    refine (now_any g F [[]] [] 9007199254740991 w4 hM4.1).mono ?_
                    rintro e w5 ⟨rfl, rfl⟩
                    go_wp2
                    all_goals
                      go_roundw
                      case rel => exact ⟨k + 1, _, by omega, by go_num, by omega, by omega, hM4⟩
                      case measure => simp [intOf]; omega
              · go_wp2_with fail
                clear hlt hk
                have hMs : Made W wr g F [[]] (reps says 0 0) now := hMr
                clear hMr
                go_loopw [12] (fun i wr => ∃ (k : Nat) (F' : Nat → Prop), k ≤ says.length ∧ i = .int .i64 k ∧ Made W wr g F' [[]] (reps says 0 k) now) (fun i _ => says.length - (intOf i).toNat)
                case atStart => exact ⟨0, F, by omega, rfl, hMs⟩
                case round =>
                  clear hMs
                  obtain ⟨k, F', hk, rfl, hMr⟩ := hrel
                  by_cases hlt : k < says.length
                  · obtain ⟨b, off, Ak, ck, rfl, hc, hm, hb, hcellW, hrowW⟩ := Hs.out.at_ hlt
                    have hcell := (hMr.2.1.cellN (p := ⟨b, off + k, none⟩) hb).trans hcellW
                    have hrow := hrowW.new_ hMr.2.1
                    have hbt : (says.getD k []).length ≤ 20000 := Hbig.out _ (by simp [List.getD, hlt])
                    have hstep := reps_snoc says k
                    have hrl := reps_len says 0 k
                    obtain ⟨t, ht⟩ : ∃ t, t = says.getD k [] := ⟨_, rfl⟩
                    rw [← ht] at hrow hbt hstep hcell
                    have Hx := hide (And.intro hrow (And.intro hbt (And.intro hstep hrl)))
                    clear hm hcellW hrowW hrow hbt hstep hrl ht
                    go_wp2_with fail
                    refine (say_any g F' [[]] (reps says 0 k) now _ t (k : Int) wr hMr.1 Hx.out.1 (by have := Hx.out.2.1; omega) (by rw [Hx.out.2.2.2]; omega)).mono ?_
                    rintro e w5 ⟨rfl, F5, hp5, hu5, hF5⟩
                    have hM5 := hMr.next hp5 hu5 hF5
                    rw [← Hx.out.2.2.1] at hM5
                    clear hp5 hu5 hF5 hMr
                    go_wp2
                    go_roundw
                    case rel => exact ⟨k + 1, F5, by omega, by go_num, hM5⟩
                    case measure => simp [intOf]; omega
                  · obtain rfl : k = says.length := by omega
                    go_wp2_with fail
                    have hMs : Made W wr g F' [[]] (reps says 0 (says.length - 0)) now := hMr
                    clear hMr hlt hk
                    go_loopw [13] (fun i wr => ∃ (k : Nat) (F' : Nat → Prop), k ≤ says.length ∧ i = .int .i64 k ∧ Made W wr g F' [[]] (reps says k (says.length - k)) now) (fun i _ => says.length - (intOf i).toNat)
                    case atStart => exact ⟨0, F', by omega, rfl, hMs⟩
                    case round =>
                      clear hMs
                      obtain ⟨k, F7, hk, rfl, hMr⟩ := hrel
                      by_cases hlt : k < says.length
                      · obtain ⟨b, off, Ak, ck, rfl, hc, hm, hb, hcellW, hrowW⟩ := Hs.out.at_ hlt
                        have hbt : (says.getD k []).length ≤ 20000 := Hbig.out _ (by simp [List.getD, hlt])
                        have hsp : says.length - k = (says.length - (k + 1)) + 1 := by omega
                        rw [hsp, reps_cons] at hMr
                        have hrl := reps_len says (k + 1) (says.length - (k + 1))
                        have hself : ((k : Int) != (k : Int)) = false := by simp
                        have hk0 : (0 : Int) ≤ (k : Int) ∧ (k : Int) < (says.length : Int) := by omega
                        obtain ⟨hk0, hk1⟩ := hk0
                        obtain ⟨t, ht⟩ : ∃ t, t = says.getD k [] := ⟨_, rfl⟩
                        rw [← ht] at hrowW hbt hcellW hMr
                        have Hx := hide (And.intro hrowW (And.intro hbt (And.intro hrl hcellW)))
                        clear hm hcellW hrowW hbt hrl hsp ht
                        go_wp2_with fail
                        refine (hear_yes g F7 [[]] _ now t (k : Int) wr hMr.1 (by have := Hx.out.2.1; omega) (by rw [Hx.out.2.2.1]; omega)).mono ?_
                        rintro e w5 ⟨Ah, ch, rfl, ho5, F5, hp5, hu5, hF5, hne5⟩
                        have hM5 := hMr.next hp5 hu5 hF5
                        clear hp5 hu5 hF5 hMr hne5
                        go_wp2_with fail
                        obtain ⟨w6, hw6⟩ : ∃ w6, w6 = w5.alloc (.cells #[.slice Ah t.length ch, .int .i64 (k : Int)] 47) := ⟨_, rfl⟩
                        have hn6 : New w5 w6 := by rw [hw6]; exact (Upd.refl _ _).alloc _
                        have hb6 : Blk w6 w5.heap.size 47 [.slice Ah t.length ch, .int .i64 (k : Int)] := by rw [hw6]; exact Blk.new w5 _ _
                        rw [← hw6]
                        clear hw6
                        have hM6 := hM5.new_ hn6
                        have hcell6 := (hM6.2.1.cellN (p := ⟨b, off + k, none⟩) hb).trans Hx.out.2.2.2
                        have hrow6 := Hx.out.1.new_ hM6.2.1
                        have hrowh := (ho5.row).new_ hn6
                        obtain ⟨q5, hq5⟩ : ∃ q, q = w5.heap.size := ⟨_, rfl⟩
                        rw [← hq5] at hb6 ⊢
                        have d0 : w6.cell? ⟨q5, 0, none⟩ = some (.slice Ah t.length ch) := hb6.cell 0
                        have d1 : w6.cell? ⟨q5, 1, none⟩ = some (.int .i64 (k : Int)) := hb6.cell 1
                        have Hr := hide (And.intro hrow6 hrowh)
                        clear hrow6 hrowh hq5 hb6 ho5 hM5
                        go_quiet ((go_at_call 18; exact Calls.quiet_of (units_same _ _ t _ (Hr.out.2.new_ ((Upd.refl _ _).drewN _)) (Hr.out.1.new_ ((Upd.refl _ _).drewN _)))))
                        go_wp2
                        go_roundw
                        case rel => exact ⟨k + 1, F5, by omega, by go_num, hM6.new_ ((Upd.refl _ _).drewN _)⟩
                        case measure => simp [intOf]; omega
                      · obtain rfl : k = says.length := by omega
                        rw [Nat.sub_self] at hMr
                        clear hk
                        go_wp2_with fail
                        refine (hear_no g F7 [[]] now wr hMr.1).mono ?_
                        rintro e w5 ⟨rfl, hn5⟩
                        have hM5 := hMr.new_ hn5
                        clear hMr
                        go_wp2_with (go_at_call 7; refine (first_any _).mono ?_; rintro e w6 ⟨rfl, hn6⟩)
                        go_ret
                        exact ⟨rfl, (hM5.2.1.alloc _).transNew hn6⟩
          · go_wp2_with (go_at_call 7; refine (first_any _).mono ?_; rintro e w3 ⟨rfl, hn3⟩)
            go_ret
            exact ⟨rfl, hM.2.1.transNew hn3⟩
        · go_wp2_with (go_at_call 7; refine (first_any _).mono ?_; rintro e w3 ⟨rfl, hn3⟩)
          go_ret
          exact ⟨rfl, hM.2.1.transNew hn3⟩
      · by_cases htk : ticks.length ≤ 200
        · go_wp2_with (go_at_call 7; refine (first_any _).mono ?_; rintro e w3 ⟨rfl, hn3⟩)
          go_ret
          exact ⟨rfl, hM.2.1.transNew hn3⟩
        · go_wp2_with (go_at_call 7; refine (first_any _).mono ?_; rintro e w3 ⟨rfl, hn3⟩)
          go_ret
          exact ⟨rfl, hM.2.1.transNew hn3⟩
end Go.Proofs.Ytcjmapljcnmfaaa
