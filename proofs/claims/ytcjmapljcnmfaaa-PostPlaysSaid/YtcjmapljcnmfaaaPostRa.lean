/- The document's Post in memory (package renref22): as package post's, at its own types; New, is, Drop. Printed by wip/mkR.py. -/
import Derived.Test.YtcjmapljcnmfaaaPostT
import Derived.Test.YtcjmapljcnmfaaaPostL
namespace Go.Proofs.Ytcjmapljcnmfaaa.R
open Go.RowKit Go.Deep

theorem el37 : ElemT Try.prog 87 79 (.agg #[.int .i64 0, .int .i64 0, .int .i64 0, .int .i64 0]) 4 32 := ⟨Try.underlying87, by kernel_rfl, rfl, by omega⟩
theorem agent_any (g : Nat) (n : Int) (w : World) (A : Option Addr) (len cap : Nat) (h0 : w.cell? ⟨g, 0, none⟩ = some (.slice A len cap)) :
    Calls Try.prog 47 #[.pointer (some ⟨g, 0, none⟩), .int .i64 n] w fun e w' => e = .returned (.bool (decide (0 ≤ n) && decide (n < len))) ∧ w = w' := by
  by_cases hn : 0 ≤ n
  · go_enter Try.func47, Try.ntmps47
    go_wp2
    go_ret
    exact ⟨by simp [hn], rfl⟩
  · have hn' : n < 0 := by omega
    go_enter Try.func47, Try.ntmps47
    go_wp2
    go_ret
    exact ⟨by simp; omega, rfl⟩
/-- The reports lie so. -/
def SaidAt (w : World) (F : Nat → Prop) (sv : Value) (rs : List (List Int × Int)) : Prop :=
  ∃ xs : List Value, Own w 0 84 2 sv rs.length xs ∧ (∀ k, ownB sv = some k → F k) ∧
    ∀ j t e, rs[j]? = some (t, e) → ∃ tv, xs[2 * j]? = some tv ∧ xs[2 * j + 1]? = some (.int .i64 e) ∧ Own w 0 71 1 tv t.length (encU t) ∧
      ∀ k, ownB tv = some k → F k
structure PostIn (w : World) (g : Nat) (F : Nat → Prop) (s : Mails) (rs : List (List Int × Int)) (now : Int) (gm cap : Nat) (iv rest : List Value) (sv : Value) : Prop where
  blk : Blk w g 75 [.slice (some ⟨gm, 0, none⟩) s.length cap, sv, .int .i64 now]
  mb : Blk w gm 87 (iv ++ rest)
  len : iv.length = s.length
  caps : s.length ≤ cap
  capm : cap ≤ maxLen
  rows : ∀ (j : Nat) (l : List Ml), s[j]? = some l → ∃ v, iv[j]? = some v ∧ Own w 0 79 4 v l.length (encL l)
  apart : ∀ (j k : Nat) (v u : Value) (b : Nat), iv[j]? = some v → iv[k]? = some u → ownB v = some b → ownB u = some b → j = k
  own : ∀ v ∈ iv, ∀ b, ownB v = some b → F b
  said : SaidAt w F sv rs
  fg : F g
  fm : F gm
/-- At block g there is a Post: its blocks are in F. -/
def PostAt (w : World) (g : Nat) (F : Nat → Prop) (s : Mails) (rs : List (List Int × Int)) (now : Int) : Prop :=
  (∃ gm cap iv rest sv, PostIn w g F s rs now gm cap iv rest sv) ∧ ∀ k, F k → k < w.heap.size
theorem SaidAt.keep {w w' : World} {F G : Nat → Prop} {sv : Value} {rs : List (List Int × Int)} (h : SaidAt w F sv rs) (hu : Upd G w w') (hd : ∀ k, F k → ¬ G k) : SaidAt w' F sv rs := by
  obtain ⟨xs, ho, hF, hx⟩ := h
  refine ⟨xs, ho.upd hu fun k hk => hd k (hF k hk), hF, fun j t e hj => ?_⟩
  obtain ⟨tv, h1, h2, h3, h4⟩ := hx j t e hj
  exact ⟨tv, h1, h2, h3.upd hu fun k hk => hd k (h4 k hk), h4⟩
theorem SaidAt.mono {w : World} {F G : Nat → Prop} {sv : Value} {rs : List (List Int × Int)} (h : SaidAt w F sv rs) (hd : ∀ k, F k → G k) : SaidAt w G sv rs := by
  obtain ⟨xs, ho, hF, hx⟩ := h
  refine ⟨xs, ho, fun k hk => hd k (hF k hk), fun j t e hj => ?_⟩
  obtain ⟨tv, h1, h2, h3, h4⟩ := hx j t e hj
  exact ⟨tv, h1, h2, h3, fun k hk => hd k (h4 k hk)⟩
theorem PostIn.keep {w w' : World} {F G : Nat → Prop} {g : Nat} {s : Mails} {rs : List (List Int × Int)} {now : Int} {gm cap : Nat} {iv rest : List Value} {sv : Value}
    (h : PostIn w g F s rs now gm cap iv rest sv) (hu : Upd G w w') (hd : ∀ k, F k → ¬ G k) : PostIn w' g F s rs now gm cap iv rest sv :=
  { blk := h.blk.upd hu (hd _ h.fg), mb := h.mb.upd hu (hd _ h.fm), len := h.len, caps := h.caps, capm := h.capm,
    rows := fun j l hj => by
      obtain ⟨v, h1, h2⟩ := h.rows j l hj
      exact ⟨v, h1, h2.upd hu fun k hk => hd k (h.own v (List.mem_of_getElem? h1) k hk)⟩
    apart := h.apart, own := h.own, said := h.said.keep hu hd, fg := h.fg, fm := h.fm }
/-- A list of mails is put in a place: its row is the old one's block, or a new one; w0 is the world before an append to the old row. -/
theorem PostIn.setRow {w0 w : World} {F F' : Nat → Prop} {g : Nat} {s : Mails} {rs : List (List Int × Int)} {now : Int} {gm cap : Nat} {iv rest : List Value} {sv vk : Value}
    (h : PostIn w0 g F s rs now gm cap iv rest sv) {k : Nat} (hk : k < s.length) (hvk : iv[k]? = some vk) (hu0 : Upd (fun b => ownB vk = some b) w0 w) {v : Value} {l : List Ml} (hown : Own w 0 79 4 v l.length (encL l)) (hF : ∀ b, F b → F' b) (hF' : ∀ b, ownB v = some b → F' b)
    (hap : ∀ b, ownB v = some b → ∀ j u, j ≠ k → iv[j]? = some u → ownB u ≠ some b) : PostIn (w.setCell ⟨gm, k, none⟩ v) g F' (s.set k l) rs now gm cap (iv.set k v) rest sv := by
  have hu := Upd.cellAt w ⟨gm, k, none⟩ v
  have hkiv : k < iv.length := by rw [h.len]; exact hk
  have hvkown : ∃ l0, Own w0 0 79 4 vk l0 (encL (s[k]'hk)) := by
    obtain ⟨u, h1, h2⟩ := h.rows k _ (List.getElem?_eq_getElem hk)
    rw [h1] at hvk
    injection hvk with hvk
    subst hvk
    exact ⟨_, h2⟩
  obtain ⟨_, hvo⟩ := hvkown
  have hblk : Blk w g 75 [.slice (some ⟨gm, 0, none⟩) s.length cap, sv, .int .i64 now] := h.blk.upd hu0 fun hb => hvo.ne_blk h.blk (by decide) _ hb rfl
  have hmb : Blk w gm 87 (iv ++ rest) := h.mb.upd hu0 fun hb => hvo.ne_blk h.mb (by decide) _ hb rfl
  refine { blk := ?_, mb := ?_, len := by simp [h.len], caps := by simpa using h.caps, capm := h.capm, rows := ?_, apart := ?_, own := ?_, said := ?_, fg := hF _ h.fg, fm := hF _ h.fm }
  · rw [List.length_set]
    exact hblk.far (p := ⟨gm, k, none⟩) (hblk.ne_ hmb (by decide)) v
  · have := hmb.set_ k v
    rwa [List.set_append_left _ _ hkiv] at this
  · intro j m hj
    by_cases e : j = k
    · subst e
      rw [List.getElem?_set_self hk] at hj
      injection hj with hj
      subst hj
      exact ⟨v, by rw [List.getElem?_set_self hkiv], hown.upd hu fun b hb => hown.ne_blk hmb (by decide) b hb⟩
    · rw [List.getElem?_set_ne (Ne.symm e)] at hj
      obtain ⟨u, h1, h2⟩ := h.rows j m hj
      have h3 := h2.upd hu0 fun b hb hb' => e (h.apart j k u vk b h1 hvk hb hb')
      exact ⟨u, by rw [List.getElem?_set_ne (Ne.symm e)]; exact h1, h3.upd hu fun b hb => h3.ne_blk hmb (by decide) b hb⟩
  · intro i j u u' b hi hj hb hb'
    by_cases ei : i = k <;> by_cases ej : j = k
    · omega
    · subst ei
      rw [List.getElem?_set_self hkiv] at hi
      injection hi with hi
      subst hi
      rw [List.getElem?_set_ne (Ne.symm ej)] at hj
      exact absurd hb' (hap b hb j u' ej hj)
    · subst ej
      rw [List.getElem?_set_self hkiv] at hj
      injection hj with hj
      subst hj
      rw [List.getElem?_set_ne (Ne.symm ei)] at hi
      exact absurd hb (hap b hb' i u ei hi)
    · rw [List.getElem?_set_ne (Ne.symm ei)] at hi
      rw [List.getElem?_set_ne (Ne.symm ej)] at hj
      exact h.apart i j u u' b hi hj hb hb'
  · intro u hu' b hb
    rcases List.mem_or_eq_of_mem_set hu' with h1 | rfl
    · exact hF b (h.own u h1 b hb)
    · exact hF' b hb
  · obtain ⟨xs, ho, hFs, hx⟩ := h.said
    have ho1 := ho.upd hu0 fun b hb hb' => ho.ne_own hvo (by decide) b hb hb'
    refine ⟨xs, ho1.upd hu fun b hb => ho1.ne_blk hmb (by decide) b hb, fun b hb => hF b (hFs b hb), fun j t e hj => ?_⟩
    obtain ⟨tv, h1, h2, h3, h4⟩ := hx j t e hj
    have h5 := h3.upd hu0 fun b hb hb' => h3.ne_own hvo (by decide) b hb hb'
    exact ⟨tv, h1, h2, h5.upd hu fun b hb => h5.ne_blk hmb (by decide) b hb, fun b hb => hF b (h4 b hb)⟩
theorem PostAt.keep {w w' : World} {F G : Nat → Prop} {g : Nat} {s : Mails} {rs : List (List Int × Int)} {now : Int} (h : PostAt w g F s rs now) (hu : Upd G w w') (hd : ∀ k, F k → ¬ G k) : PostAt w' g F s rs now := by
  obtain ⟨⟨gm, cap, iv, rest, sv, hp⟩, hlt⟩ := h
  exact ⟨⟨gm, cap, iv, rest, sv, hp.keep hu hd⟩, fun k hk => Nat.lt_of_lt_of_le (hlt k hk) hu.size⟩
theorem PostAt.keepN {w w' : World} {F : Nat → Prop} {g : Nat} {s : Mails} {rs : List (List Int × Int)} {now : Int} (h : PostAt w g F s rs now) (hu : New w w') : PostAt w' g F s rs now :=
  h.keep hu fun _ _ hf => hf
theorem new_no (n : Int) (w : World) (h : n < 1 ∨ 64 < n) :
    Calls Try.prog 20 #[.int .i64 n] w fun e w' => e = .returned (.tuple #[.pointer none, .int .i64 1]) ∧ w = w' := by
  by_cases h1 : n < 1
  · go_enter Try.func20, Try.ntmps20
    go_wp2
    go_ret2
    exact ⟨rfl, rfl⟩
  · have h2 : 64 < n := by omega
    go_enter Try.func20, Try.ntmps20
    go_wp2
    go_ret2
    exact ⟨rfl, rfl⟩
def IsNew (n : Nat) (w : World) (e : Ending) (w' : World) : Prop := ∃ g F, e = .returned (.tuple #[.pointer (some ⟨g, 0, none⟩), .int .i64 0]) ∧
      PostAt w' g F (List.replicate n []) [] 0 ∧ (∀ k, F k → w.heap.size ≤ k) ∧ New w w'
theorem info34 : (Try.prog.info? 87).map (fun i => (i.zero, i.size, i.bytes)) = some (some (.slice none 0 0), 1, 24) := by kernel_rfl
set_option maxHeartbeats 400000 in
theorem new_yes (n : Nat) (w : World) (h1 : 1 ≤ n) (h2 : n ≤ 64) :
    Calls Try.prog 20 #[.int .i64 (n : Int)] w (IsNew n w) := by
  have h1' : ¬ (n : Int) < 1 := by omega
  have h2' : ¬ (64 : Int) < n := by omega
  have hmk := fun W => run_make_row' (P := Try.prog) 72 87 (.slice none 0 0) 24 Try.underlying72 info34 rfl .i64 .i64 n (by omega) (by omega) W
  go_enter Try.func20, Try.ntmps20
  go_wp2
  go_ret2
  unfold IsNew
  refine ⟨w.heap.size + 1, fun k => k = w.heap.size ∨ k = w.heap.size + 1, rfl, ⟨⟨w.heap.size, n, List.replicate n (.slice none 0 0), [], .slice none 0 0, ?_⟩, ?_⟩, ?_, ?_⟩
  · have hcs : madeCells #[Value.slice none 0 0] n = (List.replicate n (Value.slice none 0 0)).toArray := by
      apply Array.ext'
      rw [toList_madeCells_one]
    have hnil : ∀ (j : Nat) v, (List.replicate n (Value.slice none 0 0))[j]? = some v → v = .slice none 0 0 := by
      intro j v hj
      exact (List.mem_replicate.1 (List.mem_of_getElem? hj)).2
    refine { blk := ?_, mb := ?_, len := by simp, caps := by simp, capm := by unfold maxLen; omega, rows := ?_, apart := ?_, own := ?_, said := ?_, fg := .inr rfl, fm := .inl rfl }
    · have := Blk.new (w.alloc (.cells (madeCells #[Value.slice none 0 0] n) 87)) 75 [.slice (some ⟨w.heap.size, 0, none⟩) n n, .slice none 0 0, .int .i64 0]
      simpa using this
    · rw [hcs, List.append_nil]
      exact (Blk.new w 87 _).alloc _
    · intro j l hj
      have hl : l = [] := (List.mem_replicate.1 (List.mem_of_getElem? hj)).2
      have hlt : j < n := by have := (List.getElem?_eq_some_iff.1 hj).1; simpa using this
      subst hl
      exact ⟨.slice none 0 0, by simp [hlt], Own.nil_ _ _ _ _⟩
    · intro j k v u b hj _ hv _
      rw [hnil j v hj] at hv
      cases hv
    · intro v hv b hb
      rw [(List.mem_replicate.1 hv).2] at hb
      cases hb
    · exact ⟨[], Own.nil_ _ _ _ _, (fun k hk => by cases hk), (fun j t e hj => by simp at hj)⟩
  · rintro k (rfl | rfl) <;> simp only [World.size_alloc] <;> omega
  · rintro k (rfl | rfl) <;> omega
  · exact ((Upd.refl _ _).alloc _).alloc _
/-! ### Mails, Open -/
theorem PostIn.at_ {w : World} {F : Nat → Prop} {g : Nat} {s : Mails} {rs : List (List Int × Int)} {now : Int} {gm cap : Nat} {iv rest : List Value} {sv : Value}
    (h : PostIn w g F s rs now gm cap iv rest sv) {j : Nat} {l : List Ml} (hj : s[j]? = some l) : ∃ v, iv[j]? = some v ∧ Own w 0 79 4 v l.length (encL l) ∧ w.cell? ⟨gm, j, none⟩ = some v := by
  obtain ⟨v, h1, h2⟩ := h.rows j l hj
  refine ⟨v, h1, h2, ?_⟩
  rw [h.mb.cell j, List.getElem?_append_left (List.getElem?_eq_some_iff.1 h1).1, h1]
/-! ### Take -/
theorem field64_0 (g : Nat) (w : World) : (Instr.fieldAt 75 (.pointer (some ⟨g, 0, none⟩)) 0).run Try.prog w = .ok (.pointer (some ⟨g, 0, none⟩)) w := by kernel_rfl
theorem field64_1 (g : Nat) (w : World) : (Instr.fieldAt 75 (.pointer (some ⟨g, 0, none⟩)) 1).run Try.prog w = .ok (.pointer (some ⟨g, 1, none⟩)) w := by kernel_rfl
def IsTake (g : Nat) (F : Nat → Prop) (s : Mails) (rs : List (List Int × Int)) (now : Int) (k : Nat) (m : Ml) (w : World) (e : Ending) (w' : World) : Prop :=
  e = .returned (.tuple #[aggM m, .bool true]) ∧ ∃ F', PostAt w' g F' (takeS s k) rs now ∧ Upd F w w' ∧ ∀ b, F' b → F b ∨ w.heap.size ≤ b
theorem field64_2 (g : Nat) (w : World) : (Instr.fieldAt 75 (.pointer (some ⟨g, 0, none⟩)) 2).run Try.prog w = .ok (.pointer (some ⟨g, 2, none⟩)) w := by kernel_rfl
theorem PostIn.setNow {w : World} {F : Nat → Prop} {g : Nat} {s : Mails} {rs : List (List Int × Int)} {now : Int} {gm cap : Nat} {iv rest : List Value} {sv : Value} (h : PostIn w g F s rs now gm cap iv rest sv) (x : Int) :
    PostIn (w.setCell ⟨g, 2, none⟩ (.int .i64 x)) g F s rs x gm cap iv rest sv := by
  have hu := Upd.cellAt w ⟨g, 2, none⟩ (.int .i64 x)
  refine { blk := ?_, mb := ?_, len := h.len, caps := h.caps, capm := h.capm, rows := ?_, apart := h.apart, own := h.own, said := ?_, fg := h.fg, fm := h.fm }
  · exact h.blk.set_ 2 (.int .i64 x)
  · exact h.mb.upd hu fun hb => h.blk.ne_ h.mb (by decide) hb.symm
  · intro j l hj
    obtain ⟨v, h1, h2⟩ := h.rows j l hj
    exact ⟨v, h1, h2.upd hu fun b hb => h2.ne_blk h.blk (by decide) b hb⟩
  · obtain ⟨xs, ho, hFs, hx⟩ := h.said
    refine ⟨xs, ho.upd hu fun b hb => ho.ne_blk h.blk (by decide) b hb, hFs, fun j t e hj => ?_⟩
    obtain ⟨tv, h1, h2, h3, h4⟩ := hx j t e hj
    exact ⟨tv, h1, h2, h3.upd hu fun b hb => h3.ne_blk h.blk (by decide) b hb, h4⟩
def IsDrop (g : Nat) (F : Nat → Prop) (s : Mails) (rs : List (List Int × Int)) (now n : Int) (w : World) (e : Ending) (w' : World) : Prop :=
  e = .returned (.tuple #[]) ∧ PostAt w' g F (dropS s n) rs now ∧ Upd F w w'
theorem drop_any (g : Nat) (F : Nat → Prop) (s : Mails) (rs : List (List Int × Int)) (now : Int) (n : Int) (w : World) (hp : PostAt w g F s rs now) :
    Calls Try.prog 37 #[.pointer (some ⟨g, 0, none⟩), .int .i64 n] w (IsDrop g F s rs now n w) := by
  obtain ⟨⟨gm, cap, iv, rest, sv, hin⟩, hlt⟩ := hp
  have h0 : w.cell? ⟨g, 0, none⟩ = some (.slice (some ⟨gm, 0, none⟩) s.length cap) := hin.blk.cell 0
  by_cases ha : isAg s n = true
  · have hag : (decide (0 ≤ n) && decide (n < (s.length : Int))) = true := by simpa [isAg] using ha
    have hb : 0 ≤ n ∧ n < (s.length : Int) := by simpa [isAg] using ha
    have hd : dropS s n = s.set n.toNat [] := by unfold dropS; rw [if_pos ha]
    obtain ⟨k, rfl⟩ := Int.eq_ofNat_of_zero_le hb.1
    obtain ⟨hb0, hb1'⟩ := hb
    have hk : k < s.length := by omega
    rw [Int.toNat_natCast] at hd
    obtain ⟨v, hv, hown, hcell⟩ := hin.at_ (List.getElem?_eq_getElem hk)
    have hf : w.frozen? ⟨gm, k, none⟩ = false := hin.mb.frozen k
    have hset : PostIn (w.setCell ⟨gm, k, none⟩ (.slice none 0 0)) g F (s.set k []) rs now gm cap (iv.set k (.slice none 0 0)) rest sv :=
      hin.setRow hk hv (Upd.refl _ w) (v := .slice none 0 0) (l := []) (Own.nil_ _ _ _ _) (fun _ h => h) (fun b h => by cases h) (fun b h => by cases h)
    have hu : Upd F w (w.setCell ⟨gm, k, none⟩ (.slice none 0 0)) := (Upd.refl F w).setCell (p := ⟨gm, k, none⟩) (.inl hin.fm) _
    have hlt1 : ∀ q, F q → q < (w.setCell ⟨gm, k, none⟩ (.slice none 0 0)).heap.size := fun q hq => Nat.lt_of_lt_of_le (hlt q hq) hu.size
    have Hag := hide hag
    have Hset := hide (And.intro hset (And.intro hu (And.intro hlt1 hd)))
    have hcm : (s.length : Int) ≤ 9223372036854775807 := by have := hin.caps; have := hin.capm; unfold maxLen at this; omega
    have Hin := hide (And.intro hin hlt)
    clear hv hown hag ha hset hu hlt1 hd hin hlt
    go_enter Try.func37, Try.ntmps37
    go_wp2_with (go_at_call 47; refine (agent_any g k _ _ _ _ h0).mono ?_; rintro e w' ⟨rfl, rfl⟩; rw [Hag.out])
    refine bodyPost_ret (v := .tuple #[]) (by simp [results, Try.results37, go_sem]) rfl ⟨rfl, ?_, Hset.out.2.1⟩
    rw [Hset.out.2.2.2]
    exact ⟨⟨gm, cap, _, rest, sv, Hset.out.1⟩, Hset.out.2.2.1⟩
  · have hag : (decide (0 ≤ n) && decide (n < (s.length : Int))) = false := by simpa [isAg] using ha
    have hd : dropS s n = s := by unfold dropS; rw [if_neg ha]
    have Hag := hide hag
    have Hd := hide hd
    clear hag ha hd
    go_enter Try.func37, Try.ntmps37
    go_wp2_with (go_at_call 47; refine (agent_any g n _ _ _ _ h0).mono ?_; rintro e w' ⟨rfl, rfl⟩; rw [Hag.out])
    refine bodyPost_ret (v := .tuple #[]) (by simp [results, Try.results37, go_sem]) rfl ⟨rfl, ?_, Upd.refl _ _⟩
    rw [Hd.out]
    exact ⟨⟨gm, cap, iv, rest, sv, hin⟩, hlt⟩
theorem elR : ElemT Try.prog 73 84 (.agg #[.slice none 0 0, .int .i64 0]) 2 32 := ⟨Try.underlying73, by kernel_rfl, rfl, by omega⟩
theorem fieldR_0 (g : Nat) (w : World) : (Instr.fieldAt 84 (.pointer (some ⟨g, 0, none⟩)) 0).run Try.prog w = .ok (.pointer (some ⟨g, 0, none⟩)) w := by kernel_rfl
theorem fieldR_1 (g : Nat) (w : World) : (Instr.fieldAt 84 (.pointer (some ⟨g, 0, none⟩)) 1).run Try.prog w = .ok (.pointer (some ⟨g, 1, none⟩)) w := by kernel_rfl
/-- The reports are put anew: their row is the old one, or a new one; w0 is the world before an append to the old row. -/
theorem PostIn.setSaid {w0 w : World} {F F' : Nat → Prop} {g : Nat} {s : Mails} {rs rs' : List (List Int × Int)} {now : Int} {gm cap : Nat} {iv rest : List Value} {sv sv' : Value}
    (h : PostIn w0 g F s rs now gm cap iv rest sv) (hu0 : Upd (fun b => ownB sv = some b) w0 w) (hs : SaidAt w F' sv' rs') (hF : ∀ b, F b → F' b) :
    PostIn (w.setCell ⟨g, 1, none⟩ sv') g F' s rs' now gm cap iv rest sv' := by
  have hu := Upd.cellAt w ⟨g, 1, none⟩ sv'
  obtain ⟨xs0, ho0, _, _⟩ := h.said
  have hblk : Blk w g 75 [.slice (some ⟨gm, 0, none⟩) s.length cap, sv, .int .i64 now] := h.blk.upd hu0 fun hb => ho0.ne_blk h.blk (by decide) _ hb rfl
  have hmb : Blk w gm 87 (iv ++ rest) := h.mb.upd hu0 fun hb => ho0.ne_blk h.mb (by decide) _ hb rfl
  refine { blk := hblk.set_ 1 sv', mb := ?_, len := h.len, caps := h.caps, capm := h.capm, rows := ?_, apart := h.apart, own := fun v hv b hb => hF b (h.own v hv b hb), said := ?_, fg := hF _ h.fg, fm := hF _ h.fm }
  · exact hmb.upd hu fun hb => hblk.ne_ hmb (by decide) hb.symm
  · intro j l hj
    obtain ⟨v, h1, h2⟩ := h.rows j l hj
    have h3 := h2.upd hu0 fun b hb hb' => h2.ne_own ho0 (by decide) b hb hb'
    exact ⟨v, h1, h3.upd hu fun b hb => h3.ne_blk hblk (by decide) b hb⟩
  · obtain ⟨xs, ho, hFs, hx⟩ := hs
    refine ⟨xs, ho.upd hu fun b hb => ho.ne_blk hblk (by decide) b hb, hFs, fun j t e hj => ?_⟩
    obtain ⟨tv, h1, h2, h3, h4⟩ := hx j t e hj
    exact ⟨tv, h1, h2, h3.upd hu fun b hb => h3.ne_blk hblk (by decide) b hb, h4⟩
def IsSay (g : Nat) (F : Nat → Prop) (s : Mails) (rs : List (List Int × Int)) (now : Int) (t : List Int) (n : Int) (w : World) (e : Ending) (w' : World) : Prop :=
  e = .returned (.tuple #[]) ∧ ∃ F', PostAt w' g F' s (rs ++ [(t, n)]) now ∧ Upd F w w' ∧ ∀ b, F' b → F b ∨ w.heap.size ≤ b
end Go.Proofs.Ytcjmapljcnmfaaa.R
