/- less, double. -/
import Derived.Test.YtfhflpchfgkgcaaBigF
namespace Go.Proofs.Ytfhflpchfgkgcaa
open Go.RowKit
theorem sub32_zero (x b : Nat) (w : World) (hx : x < 4294967296) (hb : b ≤ 1) :
    Calls Try.prog 78 #[.int .u32 (x : Int), .int .u32 0, .int .u32 (b : Int)] w fun e w' => e = .returned (.tuple #[.int .u32 (subD x 0 b : Nat), .int .u32 (brw x 0 b : Nat)]) ∧ w = w' :=
  sub32_any x 0 b w hx (by omega) hb
set_option maxHeartbeats 1600000 in
theorem less_any (A1 A2 : Option Addr) (n1 n2 c1 c2 : Nat) (a b : List Nat) (w : World) (h1 : RowAt w 1 (.slice A1 n1 c1) n1 (encW a)) (h2 : RowAt w 1 (.slice A2 n2 c2) n2 (encW b)) (ha : Limbs a) (hb : Limbs b) (hs1 : n1 ≤ 100000) (hs2 : n2 ≤ n1) (hle : val b ≤ val a) :
    Calls Try.prog 66 #[.slice A1 n1 c1, .slice A2 n2 c2] w (IsRow (val a - val b) n1 w) := by
  have hl1 : a.length = n1 := by simpa [encW] using h1.1
  have hl2 : b.length = n2 := by simpa [encW] using h2.1
  have Hx := hide (And.intro hl1 (And.intro hl2 (And.intro ha (And.intro hb (And.intro h1 (And.intro h2 hle))))))
  clear hl1 hl2 ha hb h1 h2 hle
  go_enter Try.func66, Try.ntmps66
  go_wp2
  go_loopw [5, 6, 14] (fun l c i wr => ∃ (k cc : Nat) (ds : List Nat), k ≤ n1 ∧ i = .int .i64 k ∧ c = .int .u32 (cc : Int) ∧ cc ≤ 1 ∧ Hid (Limbs ds ∧ ds.length = k ∧ val ds + val (b.take k) = val (a.take k) + 4294967296 ^ k * cc) ∧ Own wr w.heap.size 50 1 l k (encW ds) ∧ New w wr) (fun _ _ i _ => n1 - (intOf i).toNat)
  case atStart => exact ⟨0, 0, [], by omega, rfl, rfl, by omega, ⟨Limbs.nil, rfl, by simp [val]⟩, Own.nil_ _ _ _ _, Upd.refl _ _⟩
  case round =>
    obtain ⟨k, cc, ds, hk, rfl, rfl, hcc, hd, hown, hnew⟩ := hrel
    have Hd := hide (show Limbs ds ∧ ds.length = k ∧ val ds + val (b.take k) = val (a.take k) + 4294967296 ^ k * cc from hd)
    clear hd
    obtain ⟨x, hx⟩ : ∃ x, x = a.getD k 0 := ⟨_, rfl⟩
    obtain ⟨y, hy⟩ : ∃ y, y = b.getD k 0 := ⟨_, rfl⟩
    have Hxy := hide (And.intro hx hy)
    clear hx hy
    by_cases hlt : k < n1
    · have hxb : x < 4294967296 := by rw [Hxy.out.1]; exact Hx.out.2.2.1.at _
      have hyb : y < 4294967296 := by rw [Hxy.out.2]; exact Hx.out.2.2.2.1.at _
      have hst := less_step (a := a) (b := b) (d := subD x y cc) (c' := brw x y cc) Hd.out.1 Hd.out.2.1 (subD_lt x y cc) (by rw [← Hxy.out.1, ← Hxy.out.2]; have := subD_eq hxb hyb hcc; omega) Hd.out.2.2
      obtain ⟨b1, o1, rfl, hb1c, hb1m, hb1l, hcl1⟩ := rowW (Hx.out.2.2.2.2.1.new_ hnew) hlt
      rw [← Hxy.out.1] at hcl1
      clear hb1m
      by_cases hk2 : k < n2
      · obtain ⟨b2, o2, rfl, hb2c, hb2m, hb2l, hcl2⟩ := rowW (Hx.out.2.2.2.2.2.1.new_ hnew) hk2
        rw [← Hxy.out.2] at hcl2
        have P := push_limb hown hnew (subD x y cc)
        have Hv := hide (And.intro hst P)
        have hbl := brw_le x y cc
        clear hst P hown hnew hb2m
        go_wp2_with (first
          | (go_at_call 78; refine (sub32_any x y cc _ hxb hyb hcc).mono ?_; rintro e w' ⟨rfl, rfl⟩)
          | (at_builtin; refine wpList_append_row _ rfl (.tmp 34) (.tmp 36) elW rfl w.heap.size u5 k (encW ds) rfl Hv.out.2.1 (.slice (some ⟨wr.heap.size, 0, none⟩) 1 1) 1 (encW [subD x y cc]) rfl Hv.out.2.2.1 (encW_one _) (by omega) (by unfold maxLen; omega) Hv.out.2.2.2.1 ?_; intro v2 w2 hown2 hg2 _))
        have hn2 := push_new Hv.out.2.2.2.2 Hv.out.2.1 hg2
        rw [← encW_app] at hown2
        go_roundw
        case rel => exact ⟨k + 1, brw x y cc, ds ++ [subD x y cc], by omega, by go_num, rfl, hbl, ⟨Hv.out.1.1, by simp [Hd.out.2.1], Hv.out.1.2⟩, hown2, hn2⟩
        case measure => simp [intOf]; omega
      · have hy0 : y = 0 := by rw [Hxy.out.2]; exact getD_past (by rw [Hx.out.2.1]; omega)
        rw [hy0] at hst
        have P := push_limb hown hnew (subD x 0 cc)
        have Hv := hide (And.intro hst P)
        have hbl := brw_le x 0 cc
        clear hst P hown hnew hy0
        go_wp2_with (first
          | (go_at_call 78; refine (sub32_zero x cc _ hxb hcc).mono ?_; rintro e w' ⟨rfl, rfl⟩)
          | (at_builtin; refine wpList_append_row _ rfl (.tmp 34) (.tmp 36) elW rfl w.heap.size u5 k (encW ds) rfl Hv.out.2.1 (.slice (some ⟨wr.heap.size, 0, none⟩) 1 1) 1 (encW [subD x 0 cc]) rfl Hv.out.2.2.1 (encW_one _) (by omega) (by unfold maxLen; omega) Hv.out.2.2.2.1 ?_; intro v2 w2 hown2 hg2 _))
        have hn2 := push_new Hv.out.2.2.2.2 Hv.out.2.1 hg2
        rw [← encW_app] at hown2
        go_roundw
        case rel => exact ⟨k + 1, brw x 0 cc, ds ++ [subD x 0 cc], by omega, by go_num, rfl, hbl, ⟨Hv.out.1.1, by simp [Hd.out.2.1], Hv.out.1.2⟩, hown2, hn2⟩
        case measure => simp [intOf]; omega
    · obtain rfl : k = n1 := by omega
      have Hf := hide (And.intro hown hnew)
      clear hown hnew
      go_wp2
      obtain ⟨hown, hnew⟩ := Hf.out
      obtain ⟨A, c, rfl⟩ := hown.row.form
      go_ret
      refine ⟨A, k, c, ds, rfl, hown, Hd.out.1, ?_, rfl, hnew⟩
      exact less_end (c := cc) Hd.out.1 (by rw [Hd.out.2.1, Hx.out.1]) Hx.out.2.2.2.2.2.2 (by rw [Hx.out.1, Hx.out.2.1]; exact hs2) (by rw [Hx.out.1]; exact Hd.out.2.2)
/-- The first k of a row of one's own. -/
theorem Own.cut {w : World} {base : Nat} {t : TypeId} {A : Option Addr} {n c : Nat} {xs : List Value} (h : Own w base t 1 (.slice A n c) n xs) {k : Nat} (hk : k ≤ n) : Own w base t 1 (.slice A k c) k (xs.take k) := by
  have hl := h.len
  rcases h with ⟨h1, h2⟩ | ⟨rfl, rfl, A', hA⟩
  · rcases h2 with ⟨hv, hx⟩ | ⟨g, cap, cur, hv, hb, hg, hn, hm, hs, ht⟩
    · injection hv with hA hn hc
      subst hA hn hc
      obtain rfl : k = 0 := by omega
      exact .inl ⟨by simp, .inl ⟨rfl, by simp⟩⟩
    · injection hv with hA _ hc
      subst hA hc
      refine .inl ⟨by rw [List.length_take]; omega, .inr ⟨g, c, cur, rfl, hb, hg, by omega, hm, hs, ?_⟩⟩
      have ht' : cur.toList.take n = xs := by simpa using ht
      show cur.toList.take (k * 1) = xs.take k
      rw [Nat.mul_one, ← ht', List.take_take, Nat.min_eq_left hk]
  · injection hA with hA _ hc
    subst hA hc
    obtain rfl : k = 0 := by omega
    exact .inr ⟨rfl, by simp, _, rfl⟩
def IsCanon (V : Nat) (w : World) (e : Ending) (w' : World) : Prop := ∃ A n c, e = .returned (.slice A n c) ∧ n = (canon V).length ∧ Own w' w.heap.size 50 1 (.slice A n c) n (encW (canon V)) ∧ New w w'
theorem Own.trim {w : World} {base : Nat} {A : Option Addr} {n c : Nat} {m : List Nat} (h : Own w base 50 1 (.slice A n c) n (encW m)) (hl : Limbs m) : Own w base 50 1 (.slice A (canon (val m)).length c) (canon (val m)).length (encW (canon (val m))) := by
  have hn : m.length = n := by have := h.len; simpa [encW] using this
  have := h.cut (k := (canon (val m)).length) (by rw [← hn]; exact canon_len_le (val_lt hl))
  rwa [← encW_take, take_canon hl] at this
set_option maxHeartbeats 1600000 in
theorem double_any (A1 : Option Addr) (n1 c1 bit : Nat) (a : List Nat) (w : World) (h1 : RowAt w 1 (.slice A1 n1 c1) n1 (encW a)) (ha : Limbs a) (hs1 : n1 ≤ 100000) (hbit : bit ≤ 1) :
    Calls Try.prog 80 #[.slice A1 n1 c1, .int .u32 (bit : Int)] w (IsCanon (2 * val a + bit) w) := by
  have hl1 : a.length = n1 := by simpa [encW] using h1.1
  have Hx := hide (And.intro hl1 (And.intro ha h1))
  clear hl1 ha h1
  go_enter Try.func80, Try.ntmps80
  go_wp2
  go_loopw [1, 5, 10] (fun c l i wr => ∃ (k cc : Nat) (ds : List Nat), k ≤ n1 ∧ i = .int .i64 k ∧ c = .int .u32 (cc : Int) ∧ cc ≤ 1 ∧ Hid (Limbs ds ∧ ds.length = k ∧ val ds + 4294967296 ^ k * cc = 2 * val (a.take k) + bit) ∧ Own wr w.heap.size 50 1 l k (encW ds) ∧ New w wr) (fun _ _ i _ => n1 - (intOf i).toNat)
  case atStart => exact ⟨0, bit, [], by omega, rfl, rfl, hbit, ⟨Limbs.nil, rfl, by simp [val]⟩, Own.nil_ _ _ _ _, Upd.refl _ _⟩
  case round =>
    obtain ⟨k, cc, ds, hk, rfl, rfl, hcc, hd, hown, hnew⟩ := hrel
    have Hd := hide (show Limbs ds ∧ ds.length = k ∧ val ds + 4294967296 ^ k * cc = 2 * val (a.take k) + bit from hd)
    clear hd
    by_cases hlt : k < n1
    · obtain ⟨x, hx⟩ : ∃ x, x = a.getD k 0 := ⟨_, rfl⟩
      have hxb : x < 4294967296 := by rw [hx]; exact Hx.out.2.1.at _
      have hst := double_step Hx.out.2.1 Hd.out.1 Hd.out.2.1 hcc Hd.out.2.2
      obtain ⟨b1, o1, rfl, hb1c, hb1m, hb1l, hcl1⟩ := rowW (Hx.out.2.2.new_ hnew) hlt
      rw [← hx] at hcl1 hst
      have hor : Value.int .u32 (bits .or .u32 ((x : Int) * 2 % 4294967296) (cc : Int)) = .int .u32 ((2 * x % 4294967296 + cc : Nat) : Int) := by
        have h1 : (x : Int) * 2 % 4294967296 = ((2 * x % 4294967296 : Nat) : Int) := by omega
        rw [h1, u32_or_nat _ _ (by omega) (by omega), or_bit _ _ (by omega) hcc]
      have hdv : Value.int .u32 ((x : Int) / 2147483648) = .int .u32 ((x / 2147483648 : Nat) : Int) := by congr 1
      have P := push_limb hown hnew (2 * x % 4294967296 + cc)
      have hcb := hst.2.1
      have Hv := hide (And.intro hor (And.intro hst (And.intro hdv P)))
      clear hor hst hx P hdv hown hnew hb1m
      go_wp2_with (at_builtin; rw [Hv.out.1]; refine wpList_append_row _ rfl (.tmp 14) (.tmp 19) elW rfl w.heap.size u5 k (encW ds) rfl Hv.out.2.2.2.1 (.slice (some ⟨wr.heap.size, 0, none⟩) 1 1) 1 (encW [2 * x % 4294967296 + cc]) rfl Hv.out.2.2.2.2.1 (encW_one _) (by omega) (by unfold maxLen; omega) Hv.out.2.2.2.2.2.1 ?_; intro v2 w2 hown2 hg2 _)
      have hn2 := push_new Hv.out.2.2.2.2.2.2 Hv.out.2.2.2.1 hg2
      rw [← encW_app] at hown2
      go_roundw
      case rel => exact ⟨k + 1, x / 2147483648, ds ++ [2 * x % 4294967296 + cc], by omega, by go_num, Hv.out.2.2.1, hcb, ⟨Hv.out.2.1.1, by simp [Hd.out.2.1], Hv.out.2.1.2.2⟩, hown2, hn2⟩
      case measure => simp [intOf]; omega
    · obtain rfl : k = n1 := by omega
      have hfin : val (ds ++ [cc]) = 2 * val a + bit := by
        have h := Hd.out.2.2
        rw [List.take_of_length_le (by rw [Hx.out.1]; exact Nat.le_refl _)] at h
        rw [val_snoc, Hd.out.2.1]
        exact h
      have P := push_limb hown hnew cc
      have Hv := hide (And.intro hfin P)
      clear hfin P hown hnew
      go_wp2_with (first
        | (at_builtin; refine wpList_append_row _ rfl (.tmp 24) (.tmp 26) elW rfl w.heap.size u5 k (encW ds) rfl Hv.out.2.1 (.slice (some ⟨wr.heap.size, 0, none⟩) 1 1) 1 (encW [cc]) rfl Hv.out.2.2.1 (encW_one _) (by omega) (by unfold maxLen; omega) Hv.out.2.2.2.1 ?_; intro v2 w2 hown2 hg2 _)
        | fail)
      have hn2 := push_new Hv.out.2.2.2.2 Hv.out.2.1 hg2
      rw [← encW_app] at hown2
      obtain ⟨A, c, rfl⟩ := hown2.row.form
      go_wp2_with fail
      have hlm : Limbs (ds ++ [cc]) := Hd.out.1.app (Limbs.cons (by omega) Limbs.nil)
      refine (trim_any A (k + 1) c (ds ++ [cc]) _ hown2.row hlm).mono ?_
      rintro e w3 ⟨rfl, rfl⟩
      go_wp2
      go_ret
      have ho := hown2.trim hlm
      rw [Hv.out.1] at ho ⊢
      exact ⟨A, _, c, rfl, rfl, ho, hn2⟩
end Go.Proofs.Ytfhflpchfgkgcaa
