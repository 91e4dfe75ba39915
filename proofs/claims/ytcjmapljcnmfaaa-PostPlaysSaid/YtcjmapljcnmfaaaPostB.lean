/- How a Post lies in memory; New, Mails, Open, Take, Send. -/
import Derived.Test.YtcjmapljcnmfaaaPostA
import Derived.Deep.OwnRows
import Derived.RegionTactic
import Derived.Test.YtcjmapljcnmfaaaReg
import Derived.OwnWalk
namespace Go.Proofs.Ytcjmapljcnmfaaa
open Go.RowKit

def encU (t : List Int) : List Value := t.map (Value.int .u16)
/-- The reports lie so. -/
def SaidAt (w : World) (F : Nat → Prop) (sv : Value) (rs : List (List Int × Int)) : Prop :=
  ∃ xs : List Value, Own w 0 47 2 sv rs.length xs ∧ (∀ k, ownB sv = some k → F k) ∧
    ∀ j t e, rs[j]? = some (t, e) → ∃ tv, xs[2 * j]? = some tv ∧ xs[2 * j + 1]? = some (.int .i64 e) ∧ Own w 0 71 1 tv t.length (encU t) ∧
      ∀ k, ownB tv = some k → F k

structure PostIn (w : World) (g : Nat) (F : Nat → Prop) (s : Mails) (rs : List (List Int × Int)) (now : Int) (gm cap : Nat) (iv rest : List Value) (sv : Value) : Prop where
  blk : Blk w g 64 [.slice (some ⟨gm, 0, none⟩) s.length cap, sv, .int .i64 now]
  mb : Blk w gm 34 (iv ++ rest)
  len : iv.length = s.length
  caps : s.length ≤ cap
  capm : cap ≤ maxLen
  rows : ∀ (j : Nat) (l : List Ml), s[j]? = some l → ∃ v, iv[j]? = some v ∧ Own w 0 37 4 v l.length (encL l)
  apart : ∀ (j k : Nat) (v u : Value) (b : Nat), iv[j]? = some v → iv[k]? = some u → ownB v = some b → ownB u = some b → j = k
  own : ∀ v ∈ iv, ∀ b, ownB v = some b → F b
  said : SaidAt w F sv rs
  fg : F g
  fm : F gm
/-- At block g there is a Post: its blocks are in F. -/
def PostAt (w : World) (g : Nat) (F : Nat → Prop) (s : Mails) (rs : List (List Int × Int)) (now : Int) : Prop :=
  (∃ gm cap iv rest sv, PostIn w g F s rs now gm cap iv rest sv) ∧ ∀ k, F k → k < w.heap.size

theorem SaidAt.keep {w w' : World} {F G : Nat → Prop} {sv : Value} {rs : List (List Int × Int)} (h : SaidAt w F sv rs) (hu : Upd G w w') (hd : ∀ k, F k → ¬ G k) : SaidAt w' F sv rs := by
  obtain ⟨xs, ho, hF, hx⟩ := h
  refine ⟨xs, ho.upd hu fun k hk => hd k (hF k hk), hF, fun j t e hj => ?_⟩
  obtain ⟨tv, h1, h2, h3, h4⟩ := hx j t e hj
  exact ⟨tv, h1, h2, h3.upd hu fun k hk => hd k (h4 k hk), h4⟩
theorem SaidAt.mono {w : World} {F G : Nat → Prop} {sv : Value} {rs : List (List Int × Int)} (h : SaidAt w F sv rs) (hd : ∀ k, F k → G k) : SaidAt w G sv rs := by
  obtain ⟨xs, ho, hF, hx⟩ := h
  refine ⟨xs, ho, fun k hk => hd k (hF k hk), fun j t e hj => ?_⟩
  obtain ⟨tv, h1, h2, h3, h4⟩ := hx j t e hj
  exact ⟨tv, h1, h2, h3, fun k hk => hd k (h4 k hk)⟩
theorem PostIn.keep {w w' : World} {F G : Nat → Prop} {g : Nat} {s : Mails} {rs : List (List Int × Int)} {now : Int} {gm cap : Nat} {iv rest : List Value} {sv : Value}
    (h : PostIn w g F s rs now gm cap iv rest sv) (hu : Upd G w w') (hd : ∀ k, F k → ¬ G k) : PostIn w' g F s rs now gm cap iv rest sv :=
  { blk := h.blk.upd hu (hd _ h.fg), mb := h.mb.upd hu (hd _ h.fm), len := h.len, caps := h.caps, capm := h.capm,
    rows := fun j l hj => by
      obtain ⟨v, h1, h2⟩ := h.rows j l hj
      exact ⟨v, h1, h2.upd hu fun k hk => hd k (h.own v (List.mem_of_getElem? h1) k hk)⟩
    apart := h.apart, own := h.own, said := h.said.keep hu hd, fg := h.fg, fm := h.fm }
/-- A list of mails is put in a place: its row is the old one's block, or a new one; w0 is the world before an append to the old row. -/
theorem PostIn.setRow {w0 w : World} {F F' : Nat → Prop} {g : Nat} {s : Mails} {rs : List (List Int × Int)} {now : Int} {gm cap : Nat} {iv rest : List Value} {sv vk : Value}
    (h : PostIn w0 g F s rs now gm cap iv rest sv) {k : Nat} (hk : k < s.length) (hvk : iv[k]? = some vk) (hu0 : Upd (fun b => ownB vk = some b) w0 w) {v : Value} {l : List Ml} (hown : Own w 0 37 4 v l.length (encL l)) (hF : ∀ b, F b → F' b) (hF' : ∀ b, ownB v = some b → F' b)
    (hap : ∀ b, ownB v = some b → ∀ j u, j ≠ k → iv[j]? = some u → ownB u ≠ some b) : PostIn (w.setCell ⟨gm, k, none⟩ v) g F' (s.set k l) rs now gm cap (iv.set k v) rest sv := by
  have hu := Upd.cellAt w ⟨gm, k, none⟩ v
  have hkiv : k < iv.length := by rw [h.len]; exact hk
  have hvkown : ∃ l0, Own w0 0 37 4 vk l0 (encL (s[k]'hk)) := by
    obtain ⟨u, h1, h2⟩ := h.rows k _ (List.getElem?_eq_getElem hk)
    rw [h1] at hvk
    injection hvk with hvk
    subst hvk
    exact ⟨_, h2⟩
  obtain ⟨_, hvo⟩ := hvkown
  have hblk : Blk w g 64 [.slice (some ⟨gm, 0, none⟩) s.length cap, sv, .int .i64 now] := h.blk.upd hu0 fun hb => hvo.ne_blk h.blk (by decide) _ hb rfl
  have hmb : Blk w gm 34 (iv ++ rest) := h.mb.upd hu0 fun hb => hvo.ne_blk h.mb (by decide) _ hb rfl
  refine { blk := ?_, mb := ?_, len := by simp [h.len], caps := by simpa using h.caps, capm := h.capm, rows := ?_, apart := ?_, own := ?_, said := ?_, fg := hF _ h.fg, fm := hF _ h.fm }
  · rw [List.length_set]
    exact hblk.far (p := ⟨gm, k, none⟩) (hblk.ne_ hmb (by decide)) v
  · have := hmb.set_ k v
    rwa [List.set_append_left _ _ hkiv] at this
  · intro j m hj
    by_cases e : j = k
    · subst e
      rw [List.getElem?_set_self hk] at hj
      injection hj with hj
      subst hj
      exact ⟨v, by rw [List.getElem?_set_self hkiv], hown.upd hu fun b hb => hown.ne_blk hmb (by decide) b hb⟩
    · rw [List.getElem?_set_ne (Ne.symm e)] at hj
      obtain ⟨u, h1, h2⟩ := h.rows j m hj
      have h3 := h2.upd hu0 fun b hb hb' => e (h.apart j k u vk b h1 hvk hb hb')
      exact ⟨u, by rw [List.getElem?_set_ne (Ne.symm e)]; exact h1, h3.upd hu fun b hb => h3.ne_blk hmb (by decide) b hb⟩
  · intro i j u u' b hi hj hb hb'
    by_cases ei : i = k <;> by_cases ej : j = k
    · omega
    · subst ei
      rw [List.getElem?_set_self hkiv] at hi
      injection hi with hi
      subst hi
      rw [List.getElem?_set_ne (Ne.symm ej)] at hj
      exact absurd hb' (hap b hb j u' ej hj)
    · subst ej
      rw [List.getElem?_set_self hkiv] at hj
      injection hj with hj
      subst hj
      rw [List.getElem?_set_ne (Ne.symm ei)] at hi
      exact absurd hb (hap b hb' i u ei hi)
    · rw [List.getElem?_set_ne (Ne.symm ei)] at hi
      rw [List.getElem?_set_ne (Ne.symm ej)] at hj
      exact h.apart i j u u' b hi hj hb hb'
  · intro u hu' b hb
    rcases List.mem_or_eq_of_mem_set hu' with h1 | rfl
    · exact hF b (h.own u h1 b hb)
    · exact hF' b hb
  · obtain ⟨xs, ho, hFs, hx⟩ := h.said
    have ho1 := ho.upd hu0 fun b hb hb' => ho.ne_own hvo (by decide) b hb hb'
    refine ⟨xs, ho1.upd hu fun b hb => ho1.ne_blk hmb (by decide) b hb, fun b hb => hF b (hFs b hb), fun j t e hj => ?_⟩
    obtain ⟨tv, h1, h2, h3, h4⟩ := hx j t e hj
    have h5 := h3.upd hu0 fun b hb hb' => h3.ne_own hvo (by decide) b hb hb'
    exact ⟨tv, h1, h2, h5.upd hu fun b hb => h5.ne_blk hmb (by decide) b hb, fun b hb => hF b (h4 b hb)⟩
theorem PostAt.keep {w w' : World} {F G : Nat → Prop} {g : Nat} {s : Mails} {rs : List (List Int × Int)} {now : Int} (h : PostAt w g F s rs now) (hu : Upd G w w') (hd : ∀ k, F k → ¬ G k) : PostAt w' g F s rs now := by
  obtain ⟨⟨gm, cap, iv, rest, sv, hp⟩, hlt⟩ := h
  exact ⟨⟨gm, cap, iv, rest, sv, hp.keep hu hd⟩, fun k hk => Nat.lt_of_lt_of_le (hlt k hk) hu.size⟩
theorem PostAt.keepN {w w' : World} {F : Nat → Prop} {g : Nat} {s : Mails} {rs : List (List Int × Int)} {now : Int} (h : PostAt w g F s rs now) (hu : New w w') : PostAt w' g F s rs now :=
  h.keep hu fun _ _ hf => hf

theorem new_no (n : Int) (w : World) (h : n < 1 ∨ 64 < n) :
    Calls Try.prog 8 #[.int .i64 n] w fun e w' => e = .returned (.tuple #[.pointer none, .int .i64 1]) ∧ w = w' := by
  by_cases h1 : n < 1
  · go_enter Try.func8, Try.ntmps8
    go_wp2
    go_ret2
    exact ⟨rfl, rfl⟩
  · have h2 : 64 < n := by omega
    go_enter Try.func8, Try.ntmps8
    go_wp2
    go_ret2
    exact ⟨rfl, rfl⟩

def IsNew (n : Nat) (w : World) (e : Ending) (w' : World) : Prop := ∃ g F, e = .returned (.tuple #[.pointer (some ⟨g, 0, none⟩), .int .i64 0]) ∧
      PostAt w' g F (List.replicate n []) [] 0 ∧ (∀ k, F k → w.heap.size ≤ k) ∧ New w w'
theorem info34 : (Try.prog.info? 34).map (fun i => (i.zero, i.size, i.bytes)) = some (some (.slice none 0 0), 1, 24) := by kernel_rfl
set_option maxHeartbeats 400000 in
theorem new_yes (n : Nat) (w : World) (h1 : 1 ≤ n) (h2 : n ≤ 64) :
    Calls Try.prog 8 #[.int .i64 (n : Int)] w (IsNew n w) := by
  have h1' : ¬ (n : Int) < 1 := by omega
  have h2' : ¬ (64 : Int) < n := by omega
  have hmk := fun W => run_make_row' (P := Try.prog) 61 34 (.slice none 0 0) 24 Try.underlying61 info34 rfl .i64 .i64 n (by omega) (by omega) W
  go_enter Try.func8, Try.ntmps8
  go_wp2
  go_ret2
  unfold IsNew
  refine ⟨w.heap.size + 1, fun k => k = w.heap.size ∨ k = w.heap.size + 1, rfl, ⟨⟨w.heap.size, n, List.replicate n (.slice none 0 0), [], .slice none 0 0, ?_⟩, ?_⟩, ?_, ?_⟩
  · have hcs : madeCells #[Value.slice none 0 0] n = (List.replicate n (Value.slice none 0 0)).toArray := by
      apply Array.ext'
      rw [toList_madeCells_one]
    have hnil : ∀ (j : Nat) v, (List.replicate n (Value.slice none 0 0))[j]? = some v → v = .slice none 0 0 := by
      intro j v hj
      exact (List.mem_replicate.1 (List.mem_of_getElem? hj)).2
    refine { blk := ?_, mb := ?_, len := by simp, caps := by simp, capm := by unfold maxLen; omega, rows := ?_, apart := ?_, own := ?_, said := ?_, fg := .inr rfl, fm := .inl rfl }
    · have := Blk.new (w.alloc (.cells (madeCells #[Value.slice none 0 0] n) 34)) 64 [.slice (some ⟨w.heap.size, 0, none⟩) n n, .slice none 0 0, .int .i64 0]
      simpa using this
    · rw [hcs, List.append_nil]
      exact (Blk.new w 34 _).alloc _
    · intro j l hj
      have hl : l = [] := (List.mem_replicate.1 (List.mem_of_getElem? hj)).2
      have hlt : j < n := by have := (List.getElem?_eq_some_iff.1 hj).1; simpa using this
      subst hl
      exact ⟨.slice none 0 0, by simp [hlt], Own.nil_ _ _ _ _⟩
    · intro j k v u b hj _ hv _
      rw [hnil j v hj] at hv
      cases hv
    · intro v hv b hb
      rw [(List.mem_replicate.1 hv).2] at hb
      cases hb
    · exact ⟨[], Own.nil_ _ _ _ _, (fun k hk => by cases hk), (fun j t e hj => by simp at hj)⟩
  · rintro k (rfl | rfl) <;> simp only [World.size_alloc] <;> omega
  · rintro k (rfl | rfl) <;> omega
  · exact ((Upd.refl _ _).alloc _).alloc _

/-! ### Mails, Open -/
theorem PostIn.at_ {w : World} {F : Nat → Prop} {g : Nat} {s : Mails} {rs : List (List Int × Int)} {now : Int} {gm cap : Nat} {iv rest : List Value} {sv : Value}
    (h : PostIn w g F s rs now gm cap iv rest sv) {j : Nat} {l : List Ml} (hj : s[j]? = some l) : ∃ v, iv[j]? = some v ∧ Own w 0 37 4 v l.length (encL l) ∧ w.cell? ⟨gm, j, none⟩ = some v := by
  obtain ⟨v, h1, h2⟩ := h.rows j l hj
  refine ⟨v, h1, h2, ?_⟩
  rw [h.mb.cell j, List.getElem?_append_left (List.getElem?_eq_some_iff.1 h1).1, h1]

/-- The bound that every list of mails keeps: appends and clones have room. -/
def Fit (s : Mails) : Prop := ∀ l ∈ s, l.length ≤ 1000000
theorem Fit.at_ {s : Mails} (h : Fit s) {j : Nat} {l : List Ml} (hj : s[j]? = some l) : l.length * 32 ≤ 140737488355328 := by
  have := h l (List.mem_of_getElem? hj)
  omega

def IsMails (s : Mails) (n : Int) (w : World) (e : Ending) (w' : World) : Prop := ∃ v, e = .returned v ∧
      (if isAg s n then Own w' w.heap.size 37 4 v (s.getD n.toNat []).length (encL (s.getD n.toNat [])) else v = .slice none 0 0) ∧ New w w'
set_option maxHeartbeats 400000 in
theorem mails_any (g : Nat) (F : Nat → Prop) (s : Mails) (rs : List (List Int × Int)) (now : Int) (n : Int) (w : World) (hp : PostAt w g F s rs now) (hfit : Fit s) :
    Calls Try.prog 11 #[.pointer (some ⟨g, 0, none⟩), .int .i64 n] w (IsMails s n w) := by
  obtain ⟨⟨gm, cap, iv, rest, sv, hin⟩, hlt⟩ := hp
  have h0 : w.cell? ⟨g, 0, none⟩ = some (.slice (some ⟨gm, 0, none⟩) s.length cap) := hin.blk.cell 0
  by_cases ha : isAg s n = true
  · have hag : (decide (0 ≤ n) && decide (n < (s.length : Int))) = true := by simpa [isAg] using ha
    have hb : 0 ≤ n ∧ n < (s.length : Int) := by simpa [isAg] using ha
    obtain ⟨k, rfl⟩ := Int.eq_ofNat_of_zero_le hb.1
    obtain ⟨hb0, hb1⟩ := hb
    have hk : k < s.length := by omega
    obtain ⟨v, hv, hown, hcell⟩ := hin.at_ (List.getElem?_eq_getElem hk)
    have hd : s.getD k [] = s[k] := by simp [List.getD, hk]
    have hcl := fun w' => cloneM v s[k].length (encL s[k]) w'
    have Hr := hide (And.intro hown.row (encL_one s[k]))
    have Hf := hide (hfit.at_ (List.getElem?_eq_getElem hk))
    have Hd := hide hd
    have Hag := hide hag
    have Ha := hide ha
    have Hcl := hide hcl
    clear hv hown hd hcl hag ha
    go_enter Try.func11, Try.ntmps11
    go_wp2_with (first
      | (go_at_call 24; refine (agent_any g k w _ _ _ h0).mono ?_; rintro e w' ⟨rfl, rfl⟩; rw [Hag.out])
      | (go_at_call 26; refine (Hcl.out w Hr.out.1 Hr.out.2 Hf.out).mono ?_; rintro e w' ⟨v', rfl, hown', hnew⟩))
    go_ret
    unfold IsMails
    refine ⟨v', rfl, ?_, hnew⟩
    rw [if_pos Ha.out, Int.toNat_natCast, Hd.out]
    exact hown'
  · have hag : (decide (0 ≤ n) && decide (n < (s.length : Int))) = false := by simpa [isAg] using ha
    have Hag := hide hag
    have Ha := hide ha
    clear hag ha
    go_enter Try.func11, Try.ntmps11
    go_wp2_with (go_at_call 24; refine (agent_any g n w _ _ _ h0).mono ?_; rintro e w' ⟨rfl, rfl⟩; rw [Hag.out])
    go_ret
    unfold IsMails
    refine ⟨_, rfl, ?_, Upd.refl _ _⟩
    rw [if_neg Ha.out]
    rfl

def IsOpen (s : Mails) (b : Int) (w : World) (e : Ending) (w' : World) : Prop := e = .returned (.bool (openB s b)) ∧ New w w'
set_option maxHeartbeats 800000 in
theorem open_any (g : Nat) (F : Nat → Prop) (s : Mails) (rs : List (List Int × Int)) (now : Int) (b : Int) (w : World) (hp : PostAt w g F s rs now) :
    Calls Try.prog 13 #[.pointer (some ⟨g, 0, none⟩), .int .i64 b] w (IsOpen s b w) := by
  obtain ⟨⟨gm, cap, iv, rest, sv, hin⟩, hlt⟩ := hp
  have h0 : (w.alloc (.cells #[.int .i64 b] 3)).cell? ⟨g, 0, none⟩ = some (.slice (some ⟨gm, 0, none⟩) s.length cap) := (hin.blk.alloc _).cell 0
  have hn0 : New w (w.alloc (.cells #[.int .i64 b] 3)) := (Upd.refl _ _).alloc _
  have hb0 : (w.alloc (.cells #[.int .i64 b] 3)).cell? ⟨w.heap.size, 0, none⟩ = some (.int .i64 b) := (Blk.new w 3 [.int .i64 b]).cell 0
  have hsz : w.heap.size < (w.alloc (.cells #[.int .i64 b] 3)).heap.size := by simp
  have hcm : (s.length : Int) ≤ 9223372036854775807 := by have := hin.caps; have := hin.capm; unfold maxLen at this; omega
  have hgm := hlt gm hin.fm
  go_enter Try.func13, Try.ntmps13
  go_wp2_with fail
  obtain ⟨w0, hw0⟩ : ∃ w0, w0 = w.alloc (.cells #[.int .i64 b] 3) := ⟨_, rfl⟩
  rw [← hw0] at h0 hn0 hb0 hsz ⊢
  clear hw0
  go_loopw [12] (fun i wr => ∃ k : Nat, k ≤ s.length ∧ i = .int .i64 k ∧ openB (s.take k) b = false ∧ New w0 wr) (fun i _ => s.length - (intOf i).toNat)
  case atStart => exact ⟨0, by omega, rfl, by simp [openB], Upd.refl _ _⟩
  case round =>
    obtain ⟨k, hk, rfl, hno, hnew⟩ := hrel
    have hbr : w.heap.size < wr.heap.size := Nat.lt_of_lt_of_le hsz hnew.size
    have hcr : wr.cell? ⟨w.heap.size, 0, none⟩ = some (.int .i64 b) := (hnew.cellN (p := ⟨w.heap.size, 0, none⟩) hsz).trans hb0
    have hnw := hn0.transNew hnew
    by_cases hlt : k < s.length
    · obtain ⟨v, hv, hown, hcell⟩ := hin.at_ (List.getElem?_eq_getElem hlt)
      have hrow := (hown.new_ hnw).row
      have hcell' : wr.cell? ⟨gm, k, none⟩ = some v := (hnw.cellN (p := ⟨gm, k, none⟩) hgm).trans hcell
      have Hno := hide hno
      have Hrow := hide hrow
      clear hno hrow hv hown hcell h0 hb0
      by_cases ht : (s[k].any fun m => m.by_ == b) = true
      · go_wp2_with (go_at_call 27; refine (containsFunc v s[k] w.heap.size b _ Hrow.out hbr hcr).mono ?_; rintro e w' ⟨rfl, hn1⟩; rw [ht])
        go_ret
        have hno := Hno.out
        refine ⟨?_, hnw.transNew hn1⟩
        have : openB s b = true := List.any_eq_true.2 ⟨s[k], List.getElem_mem _, ht⟩
        rw [this]
        rfl
      · have ht' : (s[k].any fun m => m.by_ == b) = false := by simpa using ht
        clear ht
        go_wp2_with (go_at_call 27; refine (containsFunc v s[k] w.heap.size b _ Hrow.out hbr hcr).mono ?_; rintro e w' ⟨rfl, hn1⟩; rw [ht'])
        go_roundw
        case rel =>
          refine ⟨k + 1, by omega, by go_num, ?_, hnew.transNew hn1⟩
          have hno := Hno.out
          unfold openB at hno ⊢
          rw [List.take_add_one, List.getElem?_eq_getElem hlt, List.any_append, hno]
          simpa using ht'
        case measure => simp [intOf]; omega
    · have hk' : k = s.length := by omega
      have Hno := hide hno
      clear hno
      subst hk'
      clear hlt
      go_wp2
      go_ret
      refine ⟨?_, hnw⟩
      have := Hno.out
      rw [List.take_of_length_le (Nat.le_refl _)] at this
      rw [this]
      rfl

end Go.Proofs.Ytcjmapljcnmfaaa
