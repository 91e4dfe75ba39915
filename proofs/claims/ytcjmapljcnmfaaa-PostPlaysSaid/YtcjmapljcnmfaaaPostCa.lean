/- Said: the reports, copied. -/
import Derived.Test.YtcjmapljcnmfaaaPostT
namespace Go.Proofs.Ytcjmapljcnmfaaa
open Go.RowKit Go.Deep
set_option linter.unusedVariables false
def IsSaid (rs : List (List Int × Int)) (w : World) (e : Ending) (w' : World) : Prop :=
  ∃ v, e = .returned v ∧ (∃ xs : List Value, Own w' w.heap.size 47 2 v rs.length xs ∧
    ∀ (j : Nat) (t : List Int) (n : Int), rs[j]? = some (t, n) → ∃ tv, xs[2 * j]? = some tv ∧ xs[2 * j + 1]? = some (.int .i64 n) ∧ Own w' w.heap.size 71 1 tv t.length (encU t)) ∧ New w w'
set_option maxHeartbeats 3200000 in
theorem said_any (g : Nat) (F : Nat → Prop) (s : Mails) (rs : List (List Int × Int)) (now : Int) (w : World) (hp : PostAt w g F s rs now) (hrs : rs.length ≤ 1000000) (hts : ∀ r ∈ rs, r.1.length ≤ 1000000) :
    Calls Try.prog 31 #[.pointer (some ⟨g, 0, none⟩)] w (IsSaid rs w) := by
  obtain ⟨⟨gm, cap, iv, rest, sv, hin⟩, hlt⟩ := hp
  obtain ⟨xs, ho, hFs, hx⟩ := hin.said
  have hrow := ho.row
  obtain ⟨As, cs, rfl⟩ := hrow.form
  have h1 : w.cell? ⟨g, 1, none⟩ = some (.slice As rs.length cs) := hin.blk.cell 1
  have hrsi : (rs.length : Int) ≤ 1000000 := by omega
  have Hs := hide (And.intro hrow (And.intro hx hts))
  clear hin hlt ho hFs hx hrow hts
  go_enter Try.func31, Try.ntmps31
  go_wp2
  go_loopw [3, 11] (fun o i wr => ∃ (k : Nat) (ys : List Value), k ≤ rs.length ∧ i = .int .i64 k ∧ Own wr w.heap.size 47 2 o k ys ∧
    (∀ (j : Nat) (t : List Int) (n : Int), j < k → rs[j]? = some (t, n) → ∃ tv, ys[2 * j]? = some tv ∧ ys[2 * j + 1]? = some (.int .i64 n) ∧ Own wr w.heap.size 71 1 tv t.length (encU t)) ∧ New w wr) (fun _ i _ => rs.length - (intOf i).toNat)
  case atStart => exact ⟨0, [], by omega, rfl, Own.nil_ _ _ _ _, by omega, Upd.refl _ _⟩
  case round =>
    obtain ⟨k, ys, hk, rfl, hoo, hyy, hnw⟩ := hrel
    by_cases hlt : k < rs.length
    · obtain ⟨⟨t, n⟩, htn⟩ : ∃ p, rs[k]? = some p := ⟨_, List.getElem?_eq_getElem hlt⟩
      obtain ⟨hrow, hx, hts⟩ := Hs.out
      obtain ⟨tv, hx0, hx1, hot, _⟩ := hx k t n htn
      have htl : t.length ≤ 1000000 := hts _ (List.mem_of_getElem? htn)
      obtain ⟨b, off, c, hv, hcc, hmx, hbk, hxs⟩ : ∃ b off c, Value.slice As rs.length cs = .slice (some ⟨b, off, none⟩) rs.length c ∧ rs.length ≤ c ∧ c ≤ maxLen ∧ b < w.heap.size ∧ ∀ j u, xs[j]? = some u → w.cell? ⟨b, off + j, none⟩ = some u := by
        rcases hrow.2 with ⟨h0, _⟩ | h
        · omega
        · exact h
      injection hv with hA _ hc'
      subst hA hc'
      obtain ⟨At, ct, rfl⟩ := hot.row.form
      have c0 : wr.cell? ⟨b, off + k * 2, none⟩ = some (.slice At t.length ct) := (hnw.cellN (p := ⟨b, off + k * 2, none⟩) hbk).trans (by rw [Nat.mul_comm]; exact hxs _ _ hx0)
      have c1 : wr.cell? ⟨b, off + k * 2 + 1, none⟩ = some (.int .i64 n) := (hnw.cellN (p := ⟨b, off + k * 2 + 1, none⟩) hbk).trans (by rw [Nat.mul_comm]; exact hxs _ _ hx1)
      have hrt := (hot.new_ hnw).row
      obtain ⟨Ao, co, rfl⟩ := hoo.row.form
      have hki : (k : Int) < (rs.length : Int) := by omega
      have hk0 : (0 : Int) ≤ (k : Int) := by omega
      have Hk := hide (And.intro htn (And.intro hoo (And.intro hyy (And.intro hnw (And.intro hrt htl)))))
      clear hrow hx hts hx0 hx1 hot hxs hmx htn hoo hyy hnw hrt htl hcc
      go_wp2_with (first
        | (go_at_call 29
           refine (copied_any _ t n _ (Hk.out.2.2.2.2.1.new_ ((Upd.refl _ wr).alloc _)) Hk.out.2.2.2.2.2).mono ?_
           rintro x w1 ⟨A1, c1', rfl, ho1, hn1⟩
           have hn2 : New wr w1 := ((Upd.refl _ wr).alloc _).transNew hn1
           have hna : New w1 (w1.alloc (.cells #[.slice A1 t.length c1', .int .i64 n] 47)) := (Upd.refl _ w1).alloc _
           have hrm : RowAt (w1.alloc (.cells #[.slice A1 t.length c1', .int .i64 n] 47)) 2 (.slice (some ⟨w1.heap.size, 0, none⟩) 1 1) 1 [.slice A1 t.length c1', .int .i64 n] := RowAt.fresh w1 _ [.slice A1 t.length c1', .int .i64 n] 1 1 rfl (by omega) (by unfold maxLen; omega)
           have hone : ∀ u ∈ [Value.slice A1 t.length c1', Value.int .i64 n], u.oneCell' = true := by intro u hu; simp at hu; rcases hu with rfl | rfl <;> rfl
           have hob := (Hk.out.2.1.new_ hn2).new_ hna
           have hbs : w.heap.size ≤ (w1.alloc (.cells #[.slice A1 t.length c1', .int .i64 n] 47)).heap.size := Nat.le_trans (Nat.le_trans Hk.out.2.2.2.1.size hn2.size) hna.size
           have Hb := hide (And.intro hn2 (And.intro hna (And.intro hrm (And.intro hone (And.intro hob (And.intro hbs ho1))))))
           clear hn2 hna hrm hone hob hbs ho1 hn1)
        | (at_builtin
           refine wpList_append_row _ rfl (.tmp 15) (.tmp 18) elR rfl w.heap.size (.slice Ao k co) k ys rfl Hb.out.2.2.2.2.1 _ 1 [.slice A1 t.length c1', .int .i64 n] rfl Hb.out.2.2.1 Hb.out.2.2.2.1 (by omega) (by unfold maxLen; omega) Hb.out.2.2.2.2.2.1 ?_
           intro v2 w2 hown2 hg2 hat2
           obtain ⟨A2, c2, rfl⟩ := hown2.row.form
           have H2 := hide (And.intro hown2 hg2)
           clear hown2 hg2 hat2))
      go_roundw
      case rel =>
        obtain ⟨htn, hoo, hyy, hnw, hrt, htl⟩ := Hk.out
        obtain ⟨hn2, hna, hrm, hone, hob, hbs, ho1⟩ := Hb.out
        obtain ⟨hown2, hg2⟩ := H2.out
        have hnb := hn2.transNew hna
        have hyl : ys.length = k * 2 := hoo.len
        have hsz : w.heap.size ≤ wr.heap.size := hnw.size
        have hu2 : Upd (fun q => ownB (.slice Ao k co) = some q) wr w2 := (hnb.ofNew _).grown hg2 (fun q hq => .inl hq)
        have hub : Upd (fun q => ownB (.slice Ao k co) = some q) w1 w2 := (hna.ofNew _).grown hg2 (fun q hq => .inl hq)
        refine ⟨k + 1, _, by omega, by go_num, hown2, fun j t' n' hj hjt => ?_, (hnw.transNew hnb).grown hg2 (fun q hq => .inr (hoo.lt q hq).1)⟩
        rcases Nat.lt_or_ge j k with h | h
        · obtain ⟨tv', k0, k1, k2⟩ := hyy j t' n' h hjt
          exact ⟨tv', by rw [List.getElem?_append_left (by omega)]; exact k0, by rw [List.getElem?_append_left (by omega)]; exact k1, k2.upd hu2 fun q hq hq' => k2.ne_own hoo (by decide) q hq hq'⟩
        · obtain rfl : j = k := by omega
          rw [htn] at hjt
          injection hjt with hjt
          injection hjt with e1 e2
          subst e1 e2
          refine ⟨_, by rw [List.getElem?_append_right (by omega), show 2 * j - ys.length = 0 by omega]; rfl, by rw [List.getElem?_append_right (by omega), show 2 * j + 1 - ys.length = 1 by omega]; rfl, ?_⟩
          have ho1' := (ho1.more (base' := w.heap.size) (by simp only [World.size_alloc]; omega))
          exact ho1'.upd hub fun q hq hq' => ho1'.ne_own (hoo.new_ hn2) (by decide) q hq hq'
      case measure => simp [intOf]; omega
    · have hk' : k = rs.length := by omega
      subst hk'
      clear hlt
      have Hk := hide (And.intro hoo (And.intro hyy hnw))
      obtain ⟨Ao, co, rfl⟩ := hoo.row.form
      clear hoo hyy hnw
      go_wp2
      go_ret
      obtain ⟨hoo, hyy, hnw⟩ := Hk.out
      exact ⟨_, rfl, ⟨ys, hoo, fun j t n hj => hyy j t n (List.getElem?_eq_some_iff.1 hj).1 hj⟩, hnw⟩
end Go.Proofs.Ytcjmapljcnmfaaa
