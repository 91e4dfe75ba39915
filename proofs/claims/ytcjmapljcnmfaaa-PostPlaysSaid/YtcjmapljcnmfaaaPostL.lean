/- Drop: what lies for an agent falls away. -/
import Derived.Test.YtcjmapljcnmfaaaPostG
namespace Go.Proofs.Ytcjmapljcnmfaaa
open Go.RowKit
def dropS (s : Mails) (n : Int) : Mails := if isAg s n then s.set n.toNat [] else s
def IsDrop (g : Nat) (F : Nat → Prop) (s : Mails) (rs : List (List Int × Int)) (now n : Int) (w : World) (e : Ending) (w' : World) : Prop :=
  e = .returned (.tuple #[]) ∧ PostAt w' g F (dropS s n) rs now ∧ Upd F w w'
theorem drop_any (g : Nat) (F : Nat → Prop) (s : Mails) (rs : List (List Int × Int)) (now : Int) (n : Int) (w : World) (hp : PostAt w g F s rs now) :
    Calls Try.prog 19 #[.pointer (some ⟨g, 0, none⟩), .int .i64 n] w (IsDrop g F s rs now n w) := by
  obtain ⟨⟨gm, cap, iv, rest, sv, hin⟩, hlt⟩ := hp
  have h0 : w.cell? ⟨g, 0, none⟩ = some (.slice (some ⟨gm, 0, none⟩) s.length cap) := hin.blk.cell 0
  by_cases ha : isAg s n = true
  · have hag : (decide (0 ≤ n) && decide (n < (s.length : Int))) = true := by simpa [isAg] using ha
    have hb : 0 ≤ n ∧ n < (s.length : Int) := by simpa [isAg] using ha
    have hd : dropS s n = s.set n.toNat [] := by unfold dropS; rw [if_pos ha]
    obtain ⟨k, rfl⟩ := Int.eq_ofNat_of_zero_le hb.1
    obtain ⟨hb0, hb1'⟩ := hb
    have hk : k < s.length := by omega
    rw [Int.toNat_natCast] at hd
    obtain ⟨v, hv, hown, hcell⟩ := hin.at_ (List.getElem?_eq_getElem hk)
    have hf : w.frozen? ⟨gm, k, none⟩ = false := hin.mb.frozen k
    have hset : PostIn (w.setCell ⟨gm, k, none⟩ (.slice none 0 0)) g F (s.set k []) rs now gm cap (iv.set k (.slice none 0 0)) rest sv :=
      hin.setRow hk hv (Upd.refl _ w) (v := .slice none 0 0) (l := []) (Own.nil_ _ _ _ _) (fun _ h => h) (fun b h => by cases h) (fun b h => by cases h)
    have hu : Upd F w (w.setCell ⟨gm, k, none⟩ (.slice none 0 0)) := (Upd.refl F w).setCell (p := ⟨gm, k, none⟩) (.inl hin.fm) _
    have hlt1 : ∀ q, F q → q < (w.setCell ⟨gm, k, none⟩ (.slice none 0 0)).heap.size := fun q hq => Nat.lt_of_lt_of_le (hlt q hq) hu.size
    have Hag := hide hag
    have Hset := hide (And.intro hset (And.intro hu (And.intro hlt1 hd)))
    have hcm : (s.length : Int) ≤ 9223372036854775807 := by have := hin.caps; have := hin.capm; unfold maxLen at this; omega
    have Hin := hide (And.intro hin hlt)
    clear hv hown hag ha hset hu hlt1 hd hin hlt
    go_enter Try.func19, Try.ntmps19
    go_wp2_with (go_at_call 24; refine (agent_any g k _ _ _ _ h0).mono ?_; rintro e w' ⟨rfl, rfl⟩; rw [Hag.out])
    refine bodyPost_ret (v := .tuple #[]) (by simp [results, Try.results19, go_sem]) rfl ⟨rfl, ?_, Hset.out.2.1⟩
    rw [Hset.out.2.2.2]
    exact ⟨⟨gm, cap, _, rest, sv, Hset.out.1⟩, Hset.out.2.2.1⟩
  · have hag : (decide (0 ≤ n) && decide (n < (s.length : Int))) = false := by simpa [isAg] using ha
    have hd : dropS s n = s := by unfold dropS; rw [if_neg ha]
    have Hag := hide hag
    have Hd := hide hd
    clear hag ha hd
    go_enter Try.func19, Try.ntmps19
    go_wp2_with (go_at_call 24; refine (agent_any g n _ _ _ _ h0).mono ?_; rintro e w' ⟨rfl, rfl⟩; rw [Hag.out])
    refine bodyPost_ret (v := .tuple #[]) (by simp [results, Try.results19, go_sem]) rfl ⟨rfl, ?_, Upd.refl _ _⟩
    rw [Hd.out]
    exact ⟨⟨gm, cap, iv, rest, sv, hin⟩, hlt⟩
end Go.Proofs.Ytcjmapljcnmfaaa
