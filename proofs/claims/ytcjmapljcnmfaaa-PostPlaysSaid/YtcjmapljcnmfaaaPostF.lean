/- Tick; the chapter's examples (first). -/
import Derived.Test.YtcjmapljcnmfaaaPostE
namespace Go.Proofs.Ytcjmapljcnmfaaa
open Go.RowKit

def tickN (now n : Int) : Int := now + min (max n 0) (9007199254740991 - now)
def IsTick (g : Nat) (F : Nat → Prop) (s : Mails) (rs : List (List Int × Int)) (now n : Int) (w : World) (e : Ending) (w' : World) : Prop :=
  e = .returned (.int .i64 (tickN now n)) ∧ PostAt w' g F s rs (tickN now n) ∧ Upd F w w'
theorem field64_2 (g : Nat) (w : World) : (Instr.fieldAt 64 (.pointer (some ⟨g, 0, none⟩)) 2).run Try.prog w = .ok (.pointer (some ⟨g, 2, none⟩)) w := by kernel_rfl
theorem PostIn.setNow {w : World} {F : Nat → Prop} {g : Nat} {s : Mails} {rs : List (List Int × Int)} {now : Int} {gm cap : Nat} {iv rest : List Value} {sv : Value} (h : PostIn w g F s rs now gm cap iv rest sv) (x : Int) :
    PostIn (w.setCell ⟨g, 2, none⟩ (.int .i64 x)) g F s rs x gm cap iv rest sv := by
  have hu := Upd.cellAt w ⟨g, 2, none⟩ (.int .i64 x)
  refine { blk := ?_, mb := ?_, len := h.len, caps := h.caps, capm := h.capm, rows := ?_, apart := h.apart, own := h.own, said := ?_, fg := h.fg, fm := h.fm }
  · exact h.blk.set_ 2 (.int .i64 x)
  · exact h.mb.upd hu fun hb => h.blk.ne_ h.mb (by decide) hb.symm
  · intro j l hj
    obtain ⟨v, h1, h2⟩ := h.rows j l hj
    exact ⟨v, h1, h2.upd hu fun b hb => h2.ne_blk h.blk (by decide) b hb⟩
  · obtain ⟨xs, ho, hFs, hx⟩ := h.said
    refine ⟨xs, ho.upd hu fun b hb => ho.ne_blk h.blk (by decide) b hb, hFs, fun j t e hj => ?_⟩
    obtain ⟨tv, h1, h2, h3, h4⟩ := hx j t e hj
    exact ⟨tv, h1, h2, h3.upd hu fun b hb => h3.ne_blk h.blk (by decide) b hb, h4⟩
theorem tick_any (g : Nat) (F : Nat → Prop) (s : Mails) (rs : List (List Int × Int)) (now n : Int) (w : World) (hp : PostAt w g F s rs now) (h0 : 0 ≤ now) (h1 : now ≤ 9007199254740991) (hn : -9223372036854775808 ≤ n ∧ n ≤ 9223372036854775807) :
    Calls Try.prog 15 #[.pointer (some ⟨g, 0, none⟩), .int .i64 n] w (IsTick g F s rs now n w) := by
  obtain ⟨⟨gm, cap, iv, rest, sv, hin⟩, hlt⟩ := hp
  have hc : w.cell? ⟨g, 2, none⟩ = some (.int .i64 now) := hin.blk.cell 2
  have hf : w.frozen? ⟨g, 2, none⟩ = false := hin.blk.frozen 2
  have hv1 : Value.int .i64 (if (0 : Int) > n then 0 else n) = .int .i64 (max n 0) := by congr 1; split <;> omega
  have hv2 : Value.int .i64 (if 9007199254740991 - now < max n 0 then 9007199254740991 - now else max n 0) = .int .i64 (min (max n 0) (9007199254740991 - now)) := by congr 1; split <;> omega
  have ht : 0 ≤ tickN now n ∧ tickN now n ≤ 9007199254740991 := by unfold tickN; omega
  go_enter Try.func15, Try.ntmps15
  go_wp2
  have hfacts : w.drew.cell? ⟨g, 2, none⟩ = some (.int .i64 now) := hc
  refine wp_region_df (b := ?bb) (fun w' => w'.cell? ⟨g, 2, none⟩ = some (.int .i64 now)) 15 [0, 1, 2, 3, 4, 5, 6, 7, 8, 9, 10, 11, 12] [13, 14, 15] (by kernel_rfl) (by kernel_rfl) (fun _ _ d _ _ h => by cases d <;> exact h) hfacts ?reads ?acts
  case reads =>
    refine readsTo_step (a' := ?_) rfl rfl (y_move (v := .pointer (some ⟨g, 0, none⟩)) rfl rfl) ?_ ?_
    rotate_left; (simp only [Act.put, List.setIfInBounds_toArray, List.set_cons_zero, List.set_cons_succ]; rfl)
    refine readsTo_step (a' := ?_) rfl rfl (y_nil rfl rfl) ?_ ?_
    rotate_left; (simp only [Act.put, List.setIfInBounds_toArray, List.set_cons_zero, List.set_cons_succ]; rfl)
    refine readsTo_step (a' := ?_) rfl rfl (y_field rfl rfl (field64_2 g)) ?_ ?_
    rotate_left; (simp only [Act.put, List.setIfInBounds_toArray, List.set_cons_zero, List.set_cons_succ]; rfl)
    refine readsTo_step (a' := ?_) rfl rfl (y_load rfl rfl Try.isAgg3 fun _ h => h) ?_ ?_
    rotate_left; (simp only [Act.put, List.setIfInBounds_toArray, List.set_cons_zero, List.set_cons_succ]; rfl)
    refine readsTo_step (a' := ?_) rfl rfl (y_move (v := .int .i64 n) rfl rfl) ?_ ?_
    rotate_left; (simp only [Act.put, List.setIfInBounds_toArray, List.set_cons_zero, List.set_cons_succ]; rfl)
    refine readsTo_step (a' := ?_) rfl rfl (y_max (v := .int .i64 (max n 0)) rfl rfl rfl hv1) ?_ ?_
    rotate_left; (simp only [Act.put, List.setIfInBounds_toArray, List.set_cons_zero, List.set_cons_succ]; rfl)
    refine readsTo_step (a' := ?_) rfl rfl (y_move (v := .pointer (some ⟨g, 0, none⟩)) rfl rfl) ?_ ?_
    rotate_left; (simp only [Act.put, List.setIfInBounds_toArray, List.set_cons_zero, List.set_cons_succ]; rfl)
    refine readsTo_step (a' := ?_) rfl rfl (y_nil rfl rfl) ?_ ?_
    rotate_left; (simp only [Act.put, List.setIfInBounds_toArray, List.set_cons_zero, List.set_cons_succ]; rfl)
    refine readsTo_step (a' := ?_) rfl rfl (y_field rfl rfl (field64_2 g)) ?_ ?_
    rotate_left; (simp only [Act.put, List.setIfInBounds_toArray, List.set_cons_zero, List.set_cons_succ]; rfl)
    refine readsTo_step (a' := ?_) rfl rfl (y_load rfl rfl Try.isAgg3 fun _ h => h) ?_ ?_
    rotate_left; (simp only [Act.put, List.setIfInBounds_toArray, List.set_cons_zero, List.set_cons_succ]; rfl)
    refine readsTo_step (a' := ?_) rfl rfl (y_bin (v := .int .i64 (9007199254740991 - now)) rfl rfl rfl (r_sub rfl (by omega))) ?_ ?_
    rotate_left; (simp only [Act.put, List.setIfInBounds_toArray, List.set_cons_zero, List.set_cons_succ]; rfl)
    refine readsTo_step (a' := ?_) rfl rfl (y_min (v := .int .i64 (min (max n 0) (9007199254740991 - now))) rfl rfl rfl hv2) ?_ ?_
    rotate_left; (simp only [Act.put, List.setIfInBounds_toArray, List.set_cons_zero, List.set_cons_succ]; rfl)
    refine readsTo_step (a' := ?_) rfl rfl (y_bin (v := .int .i64 (tickN now n)) rfl rfl rfl (r_add rfl (by omega))) ?_ ?_
    rotate_left; (simp only [Act.put, List.setIfInBounds_toArray, List.set_cons_zero, List.set_cons_succ]; rfl)
    exact readsTo_nil _
  case acts =>
    refine actsTo_cons rfl rfl fun K hK => a_read (y_nil rfl rfl) (hK _ _ (.inr hfacts) ?_)
    refine actsTo_cons rfl rfl fun K hK => a_read (y_field rfl rfl (field64_2 g)) (hK _ _ (.inr hfacts) ?_)
    refine actsTo_cons rfl rfl fun K hK => a_store (v := .int .i64 (tickN now n)) rfl rfl rfl Try.sizeOf3 rfl rfl hfacts hf (hK _ _ (.inl rfl) ?_)
    refine actsTo_nil ?_
    simp only [Act.put, List.setIfInBounds_toArray, List.set_cons_zero, List.set_cons_succ]
    have hin1 := (hin.keep (G := fun _ => False) ((Upd.refl _ w).drew) (fun _ _ hf => hf)).setNow (tickN now n)
    have hu1 : Upd F w (w.drew.setCell ⟨g, 2, none⟩ (.int .i64 (tickN now n))) := ((Upd.refl F w).drew).setCell (p := ⟨g, 2, none⟩) (.inl hin.fg) _
    obtain ⟨w1, hw1⟩ : ∃ w1, w1 = w.drew.setCell ⟨g, 2, none⟩ (.int .i64 (tickN now n)) := ⟨_, rfl⟩
    rw [← hw1] at hin1 hu1 ⊢
    clear hw1 hfacts hc hf hv1 hv2
    have hc1 : w1.cell? ⟨g, 2, none⟩ = some (.int .i64 (tickN now n)) := hin1.blk.cell 2
    go_wp2
    go_ret
    exact ⟨rfl, ⟨⟨gm, cap, iv, rest, sv, hin1⟩, fun k hk => Nat.lt_of_lt_of_le (hlt k hk) hu1.size⟩, hu1⟩
end Go.Proofs.Ytcjmapljcnmfaaa
