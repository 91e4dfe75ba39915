/- low. -/
import Derived.Test.YtfhflpchfgkgcaaBigM
import Derived.Test.YtfhflpchfgkgcaaBigLow
import Derived.Laws.CopyOwn
namespace Go.Proofs.Ytfhflpchfgkgcaa
open Go.RowKit
set_option linter.unusedSimpArgs false
set_option linter.unusedVariables false
structure LowAt (w wr : World) (g k n : Nat) (m ls : List Nat) : Prop where
  own : Own wr g 50 1 (.slice (some ⟨g, 0, none⟩) 8 8) 8 (encW ls)
  limbs : Limbs ls
  len : ls.length = 8
  worth : val (ls.take k) = val (m.take k) % 2 ^ n
  tail : ∀ j, k ≤ j → ls.getD j 0 = m.getD j 0
  new : New w wr
theorem LowAt.keep {w wr : World} {g k n : Nat} {m ls : List Nat} (h : LowAt w wr g k n m ls) (hx : val (m.take (k + 1)) % 2 ^ n = val (m.take k) % 2 ^ n + 4294967296 ^ k * m.getD k 0) : LowAt w wr g (k + 1) n m ls :=
  ⟨h.own, h.limbs, h.len, by rw [val_take, h.worth, h.tail k (Nat.le_refl _), hx], fun j hj => h.tail j (by omega), h.new⟩
theorem LowAt.put {w wr wr' : World} {g k n x : Nat} {m ls : List Nat} (h : LowAt w wr g k n m ls) (hk : k < 8) (hx : x < 4294967296) (ho : Own wr' g 50 1 (.slice (some ⟨g, 0, none⟩) 8 8) 8 (encW (ls.set k x))) (hn : New w wr')
    (hv : val (m.take (k + 1)) % 2 ^ n = val (m.take k) % 2 ^ n + 4294967296 ^ k * x) : LowAt w wr' g (k + 1) n m (ls.set k x) := by
  refine ⟨ho, h.limbs.set _ hx, by simp [h.len], ?_, fun j hj => ?_, hn⟩
  · rw [val_take, hv, ← h.worth]
    congr 1
    · congr 1
      exact List.take_set_of_le (Nat.le_refl _)
    · congr 1
      simp [List.getD, show k < ls.length by rw [h.len]; exact hk]
  · rw [← h.tail j (by omega)]
    simp [List.getD, List.getElem?_set, show k ≠ j by omega]
def zs8 : List Nat := List.replicate 8 0
set_option maxHeartbeats 3200000 in
theorem low_any (A1 : Option Addr) (n1 c1 n : Nat) (m : List Nat) (w : World) (h1 : RowAt w 1 (.slice A1 n1 c1) n1 (encW m)) (hm : Limbs m) (hs1 : n1 ≤ 8) (hn : n ≤ 256) :
    Calls Try.prog 65 #[.slice A1 n1 c1, .int .i64 (n : Int)] w (IsRow (val m % 2 ^ n) 8 w) := by
  have hl1 : m.length = n1 := by simpa [encW] using h1.1
  have hcs : madeCells #[Value.int .u32 0] 8 = (encW zs8).toArray := by
    apply Array.ext'
    rw [toList_madeCells_one, encW_rep]; rfl
  have hmk0 : ∀ W : World, (Instr.makeSlice 22 (.int .i64 8) (.int .i64 8)).run Try.prog W = .ok (.slice (some ⟨W.heap.size, 0, none⟩) 8 8) (W.alloc (.cells (encW zs8).toArray 50)) := fun W => by
    have := run_make_row' (P := Try.prog) 22 50 (.int .u32 0) 4 Try.underlying22 infoW rfl .i64 .i64 8 (by omega) (by omega) W
    rw [hcs] at this
    exact this
  clear hcs
  go_enter Try.func65, Try.ntmps65
  go_upto_region 2 with (fail)
  obtain ⟨w1, hw1⟩ : ∃ w1, w1 = w.alloc (.cells (encW zs8).toArray 50) := ⟨_, rfl⟩
  have hn1 : New w w1 := by rw [hw1]; exact (Upd.refl _ _).alloc _
  have hblk : w1.heap[w.heap.size]? = some (.cells (encW zs8).toArray 50 (0, 0)) := by rw [hw1]; exact heap_alloc_new w _
  have hr1 := h1.new_ hn1
  rw [← hw1]
  obtain ⟨g, hg⟩ : ∃ g, g = w.heap.size := ⟨_, rfl⟩
  rw [← hg] at hblk ⊢
  have hsrc : 0 < (encW m).length → (some ⟨g, 0, none⟩ : Option Addr) = some ⟨g, 0, none⟩ ∧ ∃ ad, A1 = some ad ∧ ∀ j v, (encW m)[j]? = some v → w1.cell? (ad.add j) = some v := by
    intro hp
    refine ⟨rfl, ?_⟩
    rcases hr1.2 with ⟨h0, _⟩ | ⟨b, off, c, hv, _, _, _, hx⟩
    · rw [length_encW] at hp; omega
    · injection hv with hA _ _
      refine ⟨_, hA, fun j v hj => ?_⟩
      have hadd : (⟨b, off, none⟩ : Addr).add j = ⟨b, off + j, none⟩ := by unfold Addr.add; split <;> simp_all
      rw [hadd]
      exact hx j v hj
  have hbel := hn1.below
  have hlen : (encW m).length = Nat.min n1 8 := by rw [length_encW, hl1]; exact (Nat.min_eq_left hs1).symm
  have hfit : 0 + (encW m).length ≤ (encW zs8).length := by rw [length_encW, length_encW, show zs8.length = 8 from rfl]; omega
  have hszW : (Try.prog.info? 50).map (·.size) = some 1 := by kernel_rfl
  have hgB : w.heap.size ≤ g := Nat.le_of_eq hg.symm
  have H := hide (And.intro hblk (And.intro hsrc (And.intro hbel (And.intro hlen (And.intro hfit (And.intro hszW (And.intro hgB hl1)))))))
  clear hmk0 hw1 hblk hr1 hsrc hbel hlen hfit hszW hg h1 hn1 hl1
  go_wp2_with (with_reducible refine wpList_copy_splice rfl (.tmp 8) (.tmp 9) 22 22 rfl 50 Try.underlying22 H.out.2.2.2.2.2.1 (some ⟨g, 0, none⟩) A1 8 8 n1 c1 rfl rfl g 0 (encW zs8) 50 H.out.1 (encW m) H.out.2.2.2.1 H.out.2.1 H.out.2.2.2.2.1 (encW_one m) w.heap.size w H.out.2.2.1 H.out.2.2.2.2.2.2.1 ?_; intro w2 hw2 hb2)
  have hnw : New w w2 := Upd.ofBelow hb2
  have hgs : splice (encW zs8) 0 (encW m) = encW (m ++ List.replicate (8 - n1) 0) := by
    have h1 : (encW zs8).drop (0 + (encW m).length) = encW (List.replicate (8 - n1) 0) := by
      rw [length_encW, H.out.2.2.2.2.2.2.2, Nat.zero_add]
      show (encW (List.replicate 8 0)).drop n1 = _
      rw [← encW_rep, ← encW_rep, List.drop_replicate]
    simp only [splice, List.take_zero, List.nil_append, h1, encW_app]
  have hown : Own w2 g 50 1 (.slice (some ⟨g, 0, none⟩) 8 8) 8 (encW (m ++ List.replicate (8 - n1) 0)) := by
    have h2 := hw2.out
    rw [hgs] at h2
    have hl8 : (m ++ List.replicate (8 - n1) 0).length = 8 := by have := H.out.2.2.2.2.2.2.2; simp; omega
    exact .inl ⟨by rw [length_encW, hl8], .inr ⟨g, 8, (encW (m ++ List.replicate (8 - n1) 0)).toArray, rfl, Nat.le_refl _, h2, Nat.le_refl _, by unfold maxLen; omega, by rw [List.size_toArray, length_encW, hl8], by
      show (encW (m ++ List.replicate (8 - n1) 0)).take (8 * 1) = _
      exact List.take_of_length_le (by rw [length_encW, hl8]; exact Nat.le_refl _)⟩⟩
  have hlow : LowAt w w2 g 0 n m (m ++ List.replicate (8 - n1) 0) := by
    refine ⟨hown, hm.app (Limbs.rep _), by have := H.out.2.2.2.2.2.2.2; simp; omega, by simp [val], fun j _ => ?_, hnw⟩
    rcases Nat.lt_or_ge j m.length with h | h
    · simp [List.getD, List.getElem?_append_left h]
    · rw [getD_past h]
      simp only [List.getD, List.getElem?_append_right h, List.getElem?_replicate]
      split <;> rfl
  have HB := hide (And.intro hm hgB)
  clear hw2 hb2 hnw hgs hown hm hgB
  go_wp2
  go_loopw [13] (fun i wr => ∃ (k : Nat) (ls : List Nat), k ≤ 8 ∧ i = .int .i64 k ∧ LowAt w wr g k n m ls) (fun i _ => 8 - (intOf i).toNat)
  case atStart => exact ⟨0, _, by omega, rfl, hlow⟩
  case round =>
    clear hlow
    obtain ⟨k, ls, hk, rfl, hL⟩ := hrel
    by_cases hlt : k < 8
    · obtain ⟨g', hg', -, -, -, hglt, hcell, hfz, hset⟩ := hL.own.place (j := k) hlt
      injection hg' with hg'
      injection hg' with hg' _ _
      subst hg'
      rw [encW_get _ _ (by rw [hL.len]; omega), hL.tail k (Nat.le_refl _)] at hcell
      obtain ⟨x, hx⟩ : ∃ x, x = m.getD k 0 := ⟨_, rfl⟩
      rw [← hx] at hcell
      have hxb : x < 4294967296 := by rw [hx]; exact HB.out.1.at _
      have Hs := hide (And.intro hset (And.intro hx hL))
      clear hset hx hL
      by_cases hc1 : n ≤ 32 * k
      · go_wp2
        go_roundw
        case rel =>
          obtain ⟨hset, hx, hL⟩ := Hs.out
          have ho2 := hset (.int .u32 ((0 : Nat) : Int))
          rw [← encW_set] at ho2
          exact ⟨k + 1, ls.set k 0, by omega, by go_num, hL.put hlt (by omega) ho2 (New.setAt hL.new HB.out.2 _ _) (by rw [low_none hc1, Nat.mul_zero, Nat.add_zero])⟩
        case measure => simp [intOf] <;> omega
      · by_cases hc2 : n < 32 * k + 32
        · go_wp2_with fail
          go_region
          have hand : bits .and .u32 (x : Int) (((2 : Int) ^ (n - 32 * k) - 1) % 4294967296) = ((x % 2 ^ (n - 32 * k) : Nat) : Int) := by
            have h1 : 2 ^ (n - 32 * k) < 2 ^ 32 := Nat.pow_lt_pow_right (by omega) (by omega)
            have h0 : 0 < 2 ^ (n - 32 * k) := Nat.two_pow_pos _
            have h2 : (2 : Int) ^ (n - 32 * k) = ((2 ^ (n - 32 * k) : Nat) : Int) := by simp
            have h3 : ((2 : Int) ^ (n - 32 * k) - 1) % 4294967296 = ((2 ^ (n - 32 * k) - 1 : Nat) : Int) := by
              rw [h2]
              generalize 2 ^ (n - 32 * k) = p at h1 h0
              omega
            rw [h3]
            refine (u32_and_nat _ _ hxb (by omega)).trans ?_
            rw [Nat.and_two_pow_sub_one_eq_mod]
          rw [hand]
          obtain ⟨hset, hx, hL⟩ := Hs.out
          have ho2 := hset (.int .u32 ((x % 2 ^ (n - 32 * k) : Nat) : Int))
          rw [← encW_set] at ho2
          have hmx : x % 2 ^ (n - 32 * k) ≤ x := Nat.mod_le _ _
          have hL2 := hL.put hlt (x := x % 2 ^ (n - 32 * k)) (by omega) (ho2.upd (Upd.refl (fun _ => False) _).drew (fun _ _ hf => hf)) (New.setAt hL.new HB.out.2 k (.int .u32 ((x % 2 ^ (n - 32 * k) : Nat) : Int))).drew (by rw [low_some HB.out.1 (by omega), ← hx])
          have HL2 := hide hL2
          clear hand hset hx hL ho2 hL2 hcell hfz
          go_wp2
          go_roundw
          case rel => exact ⟨k + 1, _, by omega, by go_num, HL2.out⟩
          case measure => simp [intOf] <;> omega
        · go_wp2
          go_roundw
          case rel =>
            obtain ⟨hset, hx, hL⟩ := Hs.out
            exact ⟨k + 1, ls, by omega, by go_num, hL.keep (by rw [low_some HB.out.1 (by omega), low_all HB.out.1 (by omega)])⟩
          case measure => simp [intOf] <;> omega
    · obtain rfl : k = 8 := by omega
      have HL := hide hL
      clear hL
      go_wp2
      go_ret
      have hL := HL.out
      refine ⟨_, _, _, ls, rfl, hL.own.more HB.out.2, hL.limbs, ?_, rfl, hL.new⟩
      have h1 := hL.worth
      rw [List.take_of_length_le (by rw [hL.len]; omega), List.take_of_length_le (by rw [H.out.2.2.2.2.2.2.2]; exact hs1)] at h1
      exact h1
end Go.Proofs.Ytfhflpchfgkgcaa
