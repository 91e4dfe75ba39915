/- Lists of numbers held against one another, copied; a mail for the document; the document's Tick, Mails. Printed by wip/mkRb.py. -/
import Derived.Test.YtcjmapljcnmfaaaPostRa
namespace Go.Proofs.Ytcjmapljcnmfaaa.R
open Go.RowKit Go.Deep
set_option linter.unusedVariables false
def IsTick (g : Nat) (F : Nat → Prop) (s : Mails) (rs : List (List Int × Int)) (now n : Int) (w : World) (e : Ending) (w' : World) : Prop :=
  e = .returned (.int .i64 (tickN now n)) ∧ PostAt w' g F s rs (tickN now n) ∧ Upd F w w'
theorem tick_any (g : Nat) (F : Nat → Prop) (s : Mails) (rs : List (List Int × Int)) (now n : Int) (w : World) (hp : PostAt w g F s rs now) (h0 : 0 ≤ now) (h1 : now ≤ 9007199254740991) (hn : -9223372036854775808 ≤ n ∧ n ≤ 9223372036854775807) :
    Calls Try.prog 41 #[.pointer (some ⟨g, 0, none⟩), .int .i64 n] w (IsTick g F s rs now n w) := by
  have hp0 := hp
  obtain ⟨⟨gm, cap, iv, rest, sv, hin⟩, hlt⟩ := hp
  have hc : w.cell? ⟨g, 2, none⟩ = some (.int .i64 now) := hin.blk.cell 2
  have hf : w.frozen? ⟨g, 2, none⟩ = false := hin.blk.frozen 2
  have Hp := hide hp0
  have hin1 := hin.setNow (tickN now n)
  have hu1 : Upd F w (w.setCell ⟨g, 2, none⟩ (.int .i64 (tickN now n))) := (Upd.refl F w).setCell (p := ⟨g, 2, none⟩) (.inl hin.fg) _
  have Hin := hide (And.intro hin1 (And.intro hlt hu1))
  clear hp0 hin hlt hin1 hu1
  by_cases hn1 : 1 ≤ n
  · by_cases h2 : 9007199254740991 - now < n
    · have ht : tickN now n = 9007199254740991 := by unfold tickN; omega
      rw [ht] at Hin
      go_enter Try.func41, Try.ntmps41
      go_wp2
      go_ret
      refine ⟨by rw [ht]; rfl, by rw [ht]; exact ⟨⟨gm, cap, iv, rest, sv, Hin.out.1⟩, fun k hk => Nat.lt_of_lt_of_le (Hin.out.2.1 k hk) Hin.out.2.2.size⟩, Hin.out.2.2⟩
    · have ht : tickN now n = now + n := by unfold tickN; omega
      rw [ht] at Hin
      go_enter Try.func41, Try.ntmps41
      go_wp2
      go_ret
      refine ⟨by rw [ht]; rfl, by rw [ht]; exact ⟨⟨gm, cap, iv, rest, sv, Hin.out.1⟩, fun k hk => Nat.lt_of_lt_of_le (Hin.out.2.1 k hk) Hin.out.2.2.size⟩, Hin.out.2.2⟩
  · have ht : tickN now n = now := by unfold tickN; omega
    go_enter Try.func41, Try.ntmps41
    go_wp2
    go_ret
    exact ⟨by rw [ht]; rfl, by rw [ht]; exact Hp.out, Upd.refl _ _⟩
def IsMails (s : Mails) (n : Int) (w : World) (e : Ending) (w' : World) : Prop := ∃ v, e = .returned v ∧
      (if isAg s n then Own w' w.heap.size 79 4 v (s.getD n.toNat []).length (encL (s.getD n.toNat [])) else v = .slice none 0 0) ∧ New w w'
set_option maxHeartbeats 800000 in
theorem mails_any (g : Nat) (F : Nat → Prop) (s : Mails) (rs : List (List Int × Int)) (now : Int) (n : Int) (w : World) (hp : PostAt w g F s rs now) (hfit : Fit s) :
    Calls Try.prog 42 #[.pointer (some ⟨g, 0, none⟩), .int .i64 n] w (IsMails s n w) := by
  obtain ⟨⟨gm, cap, iv, rest, sv, hin⟩, hlt⟩ := hp
  have h0 : w.cell? ⟨g, 0, none⟩ = some (.slice (some ⟨gm, 0, none⟩) s.length cap) := hin.blk.cell 0
  by_cases ha : isAg s n = true
  · have hag : (decide (0 ≤ n) && decide (n < (s.length : Int))) = true := by simpa [isAg] using ha
    have hb : 0 ≤ n ∧ n < (s.length : Int) := by simpa [isAg] using ha
    obtain ⟨k, rfl⟩ := Int.eq_ofNat_of_zero_le hb.1
    obtain ⟨hb0, hb1⟩ := hb
    have hk : k < s.length := by omega
    obtain ⟨v, hv, hown, hcell⟩ := hin.at_ (List.getElem?_eq_getElem hk)
    have hd : s.getD k [] = s[k] := by simp [List.getD, hk]
    have hn0 : New w (w.alloc (.cells #[] 79)) := (Upd.refl _ _).alloc _
    have hr1 := (hown.new_ hn0).row
    have ho : Own (w.alloc (.cells #[] 79)) w.heap.size 79 4 (.slice (some ⟨w.heap.size, 0, none⟩) 0 0) 0 [] := .inr ⟨rfl, rfl, _, rfl⟩
    have hfb := hfit.at_ (List.getElem?_eq_getElem hk)
    have hml : s[k].length ≤ maxLen := by unfold maxLen; omega
    have hc0 : (w.alloc (.cells #[] 79)).cell? ⟨g, 0, none⟩ = some (.slice (some ⟨gm, 0, none⟩) s.length cap) := (hin.blk.alloc _).cell 0
    have hc1 : (w.alloc (.cells #[] 79)).cell? ⟨gm, k, none⟩ = some v := (hn0.cellN (p := ⟨gm, k, none⟩) (hlt gm hin.fm)).trans hcell
    obtain ⟨A, c, rfl⟩ := hown.row.form
    have Hr := hide (And.intro hr1 (encL_one s[k]))
    have Ho := hide ho
    have Hf := hide (And.intro hfb hml)
    have Hd := hide hd
    have Hag := hide hag
    have Ha := hide ha
    have hwa : ∃ wa, wa = w.alloc (.cells #[] 79) := ⟨_, rfl⟩
    clear hv hown hd hr1 ho hag ha hfb hml
    go_enter Try.func42, Try.ntmps42
    go_wp2_with (first
      | (go_at_call 47; refine (agent_any g k w _ _ _ h0).mono ?_; rintro e w' ⟨rfl, rfl⟩; rw [Hag.out])
      | (at_builtin; refine wpList_append_row _ rfl (.tmp 9) (.tmp 16) el37 rfl w.heap.size (.slice (some ⟨w.heap.size, 0, none⟩) 0 0) 0 [] rfl Ho.out _ s[k].length (encL s[k]) rfl Hr.out.1 Hr.out.2 (by rw [Nat.zero_add]; exact Hf.out.1) (by rw [Nat.zero_add]; exact Hf.out.2) (by simp) ?_; intro v' w' hown' hg' hat'))
    go_ret
    unfold IsMails
    refine ⟨v', rfl, ?_, (hn0.grown hg' (fun k hk => by simp [ownB] at hk))⟩
    rw [if_pos Ha.out, Int.toNat_natCast, Hd.out]
    simpa using hown'
  · have hag : (decide (0 ≤ n) && decide (n < (s.length : Int))) = false := by simpa [isAg] using ha
    have Hag := hide hag
    have Ha := hide ha
    clear hag ha
    go_enter Try.func42, Try.ntmps42
    go_wp2_with (go_at_call 47; refine (agent_any g n w _ _ _ h0).mono ?_; rintro e w' ⟨rfl, rfl⟩; rw [Hag.out])
    go_ret
    unfold IsMails
    refine ⟨_, rfl, ?_, Upd.refl _ _⟩
    rw [if_neg Ha.out]
    rfl
end Go.Proofs.Ytcjmapljcnmfaaa.R
