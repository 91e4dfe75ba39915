/- math/bits.Sub32; plus, less, double. -/
import Derived.Test.YtfhflpchfgkgcaaBigE
import Derived.Laws.BitsAll
import Derived.Laws.DeepBits32
namespace Go.Proofs.Ytfhflpchfgkgcaa
open Go.RowKit
theorem sub32_any (x y b : Nat) (w : World) (hx : x < 4294967296) (hy : y < 4294967296) (hb : b ≤ 1) :
    Calls Try.prog 78 #[.int .u32 (x : Int), .int .u32 (y : Int), .int .u32 (b : Int)] w fun e w' => e = .returned (.tuple #[.int .u32 (subD x y b : Nat), .int .u32 (brw x y b : Nat)]) ∧ w = w' := by
  have h1 : ((x : Int) - (y : Int) - (b : Int)) % 4294967296 = ((subD x y b : Nat) : Int) := by unfold subD; omega
  have hm : IntKind.u32.max = ((4294967295 : Nat) : Int) := rfl
  have hd := subD_lt x y b
  have hxo : x ^^^ y < 4294967296 := Nat.xor_lt_two_pow (n := 32) hx hy
  have hn1 : 4294967295 ^^^ x < 4294967296 := Nat.xor_lt_two_pow (n := 32) (by omega) hx
  have hn2 : 4294967295 ^^^ (x ^^^ y) < 4294967296 := Nat.xor_lt_two_pow (n := 32) (by omega) hxo
  have ha1 : (4294967295 ^^^ x) &&& y < 4294967296 := Nat.and_lt_two_pow (n := 32) _ hy
  have ha2 : (4294967295 ^^^ (x ^^^ y)) &&& subD x y b < 4294967296 := Nat.and_lt_two_pow (n := 32) _ hd
  have h2 : bits .or .u32 (bits .and .u32 (bits .xor .u32 IntKind.u32.max (x : Int)) (y : Int)) (bits .and .u32 (bits .xor .u32 IntKind.u32.max (bits .xor .u32 (x : Int) (y : Int))) (((x : Int) - (y : Int) - (b : Int)) % 4294967296)) / 2147483648 = ((brw x y b : Nat) : Int) := by
    rw [h1, hm, u32_xor_nat _ _ (by omega) hx, u32_and_nat _ _ hn1 hy, u32_xor_nat _ _ hx hy, u32_xor_nat _ _ (by omega) hxo, u32_and_nat _ _ hn2 hd, u32_or_nat _ _ ha1 ha2]
    have := sub32_borrow hx hy hb hd (subD_eq hx hy hb)
    unfold brw
    rw [← this]
    omega
  have H := hide (And.intro h1 h2)
  clear h1 h2 hm hd hxo hn1 hn2 ha1 ha2
  go_enter Try.func78, Try.ntmps78
  go_wp2
  go_ret2
  refine ⟨?_, rfl⟩
  show Ending.returned (.tuple #[.int .u32 (((x : Int) - (y : Int) - (b : Int)) % 4294967296), .int .u32 (bits .or .u32 (bits .and .u32 (bits .xor .u32 IntKind.u32.max (x : Int)) (y : Int)) (bits .and .u32 (bits .xor .u32 IntKind.u32.max (bits .xor .u32 (x : Int) (y : Int))) (((x : Int) - (y : Int) - (b : Int)) % 4294967296)) / 2147483648)]) = _
  rw [H.out.2, H.out.1]
/-! ### A row of limbs of one's own that grows -/
theorem push_limb {w wr : World} {v : Value} {k : Nat} {ds : List Nat} (hown : Own wr w.heap.size 50 1 v k (encW ds)) (hn : New w wr) (x : Nat) :
    Own (wr.alloc (.cells #[.int .u32 (x : Int)] 50)) w.heap.size 50 1 v k (encW ds) ∧ RowAt (wr.alloc (.cells #[.int .u32 (x : Int)] 50)) 1 (.slice (some ⟨wr.heap.size, 0, none⟩) 1 1) 1 (encW [x]) ∧
      w.heap.size ≤ (wr.alloc (.cells #[.int .u32 (x : Int)] 50)).heap.size ∧ New w (wr.alloc (.cells #[.int .u32 (x : Int)] 50)) :=
  ⟨hown.new_ ((Upd.refl _ _).alloc _), RowAt.fresh wr _ (encW [x]) 1 1 rfl (by omega) (by unfold maxLen; omega), (hn.alloc _).size, hn.alloc _⟩
theorem push_new {w wb w' : World} {v : Value} {k : Nat} {xs : List Value} (hn : New w wb) (hown : Own wb w.heap.size 50 1 v k xs) (hg : wb.grownBy w' (ownB v)) : New w w' :=
  hn.grown hg fun j hj => .inr (hown.lt j hj).1
def IsRow (V : Nat) (N : Nat) (w : World) (e : Ending) (w' : World) : Prop :=
  ∃ A n c m, e = .returned (.slice A n c) ∧ Own w' w.heap.size 50 1 (.slice A n c) n (encW m) ∧ Limbs m ∧ val m = V ∧ n = N ∧ New w w'
theorem getD_past {m : List Nat} {k : Nat} (h : m.length ≤ k) : m.getD k 0 = 0 := by simp [List.getD, h]
set_option maxHeartbeats 1600000 in
theorem plus_any (A1 A2 : Option Addr) (n1 n2 c1 c2 : Nat) (a b : List Nat) (w : World) (h1 : RowAt w 1 (.slice A1 n1 c1) n1 (encW a)) (h2 : RowAt w 1 (.slice A2 n2 c2) n2 (encW b)) (ha : Limbs a) (hb : Limbs b) (hs1 : n1 ≤ 100000) (hs2 : n2 ≤ 100000) :
    Calls Try.prog 73 #[.slice A1 n1 c1, .slice A2 n2 c2] w (IsRow (val a + val b) (max n1 n2 + 1) w) := by
  have hl1 : a.length = n1 := by simpa [encW] using h1.1
  have hl2 : b.length = n2 := by simpa [encW] using h2.1
  obtain ⟨N, hN⟩ : ∃ N, N = max n1 n2 := ⟨_, rfl⟩
  have hN1 : n1 ≤ N := by omega
  have hN2 : n2 ≤ N := by omega
  have hN3 : N ≤ 100000 := by omega
  have Hx := hide (And.intro hl1 (And.intro hl2 (And.intro ha (And.intro hb (And.intro h1 (And.intro h2 hN))))))
  clear hl1 hl2 ha hb h1 h2 hN
  go_enter Try.func73, Try.ntmps73
  go_wp2
  all_goals
    have hNN := Hx.out.2.2.2.2.2.2
    first
      | (have hA : N ≤ n2 := by omega)
      | (have hA : N ≤ n1 := by omega)
    clear hNN
    go_loopw [5, 6, 13] (fun l c i wr => ∃ (k cc : Nat) (ds : List Nat), k ≤ N ∧ i = .int .i64 k ∧ c = .int .u64 (cc : Int) ∧ cc ≤ 1 ∧ Hid (Limbs ds ∧ ds.length = k ∧ val ds + 4294967296 ^ k * cc = val (a.take k) + val (b.take k)) ∧ Own wr w.heap.size 50 1 l k (encW ds) ∧ New w wr) (fun _ _ i _ => N - (intOf i).toNat)
    case atStart => exact ⟨0, 0, [], by omega, rfl, rfl, by omega, ⟨Limbs.nil, rfl, by simp [val]⟩, Own.nil_ _ _ _ _, Upd.refl _ _⟩
    case round =>
      obtain ⟨k, cc, ds, hk, rfl, rfl, hcc, hd, hown, hnew⟩ := hrel
      have Hd := hide (show Limbs ds ∧ ds.length = k ∧ val ds + 4294967296 ^ k * cc = val (a.take k) + val (b.take k) from hd)
      clear hd
      obtain ⟨x, hx⟩ : ∃ x, x = a.getD k 0 := ⟨_, rfl⟩
      obtain ⟨y, hy⟩ : ∃ y, y = b.getD k 0 := ⟨_, rfl⟩
      have Hxy := hide (And.intro hx hy)
      clear hx hy
      by_cases hlt : k < N
      · have hcase : (k < n1 ∧ k < n2) ∨ (k < n1 ∧ n2 ≤ k) ∨ (n1 ≤ k ∧ k < n2) := by omega
        rcases hcase with ⟨hk1, hk2⟩ | ⟨hk1, hk2⟩ | ⟨hk1, hk2⟩
        · obtain ⟨b1, o1, rfl, hb1c, hb1m, hb1l, hcl1⟩ := rowW (Hx.out.2.2.2.2.1.new_ hnew) hk1
          rw [← Hxy.out.1] at hcl1
          obtain ⟨b2, o2, rfl, hb2c, hb2m, hb2l, hcl2⟩ := rowW (Hx.out.2.2.2.2.2.1.new_ hnew) hk2
          rw [← Hxy.out.2] at hcl2
          have hxb : x < 4294967296 := by rw [Hxy.out.1]; exact Hx.out.2.2.1.at _
          have hyb : y < 4294967296 := by rw [Hxy.out.2]; exact Hx.out.2.2.2.1.at _
          clear hb1m hb2m
          obtain ⟨s, hs⟩ : ∃ s, s = cc + x + y := ⟨_, rfl⟩
          have hst := plus_step Hx.out.2.2.1 Hx.out.2.2.2.1 Hd.out.1 Hd.out.2.1 hcc Hd.out.2.2
          rw [← Hxy.out.1, ← Hxy.out.2, ← hs] at hst
          have hv : Value.int .u32 (((cc : Int) + (x : Int) + (y : Int)) % 4294967296) = .int .u32 ((s % 4294967296 : Nat) : Int) := by congr 1; rw [hs]; omega
          have hq : Value.int .u64 (((cc : Int) + (x : Int) + (y : Int)) / 4294967296) = .int .u64 ((s / 4294967296 : Nat) : Int) := by congr 1; rw [hs]; omega
          have P := push_limb hown hnew (s % 4294967296)
          have Hv := hide (And.intro hv (And.intro hq (And.intro hst P)))
          clear hv hq hst hs P hown hnew
          go_wp2_with (at_builtin; rw [Hv.out.1]; refine wpList_append_row _ rfl (.tmp 38) (.tmp 41) elW rfl w.heap.size u5 k (encW ds) rfl Hv.out.2.2.2.1 (.slice (some ⟨wr.heap.size, 0, none⟩) 1 1) 1 (encW [s % 4294967296]) rfl Hv.out.2.2.2.2.1 (encW_one _) (by omega) (by unfold maxLen; omega) Hv.out.2.2.2.2.2.1 ?_; intro v2 w2 hown2 hg2 _)
          all_goals
            have hn2 := push_new Hv.out.2.2.2.2.2.2 Hv.out.2.2.2.1 hg2
            rw [← encW_app] at hown2
            go_roundw
            case rel => exact ⟨k + 1, s / 4294967296, ds ++ [s % 4294967296], by omega, by go_num, Hv.out.2.1, Hv.out.2.2.1.2.1, ⟨Hv.out.2.2.1.1, by simp [Hd.out.2.1], Hv.out.2.2.1.2.2⟩, hown2, hn2⟩
            case measure => simp [intOf]; omega
        · obtain ⟨b1, o1, rfl, hb1c, hb1m, hb1l, hcl1⟩ := rowW (Hx.out.2.2.2.2.1.new_ hnew) hk1
          rw [← Hxy.out.1] at hcl1
          have hy0 : y = 0 := by rw [Hxy.out.2]; exact getD_past (by rw [Hx.out.2.1]; omega)
          have Hy0 := hide hy0
          clear hy0
          have hxb : x < 4294967296 := by rw [Hxy.out.1]; exact Hx.out.2.2.1.at _
          have hyb : y < 4294967296 := by rw [Hxy.out.2]; exact Hx.out.2.2.2.1.at _
          clear hb1m
          obtain ⟨s, hs⟩ : ∃ s, s = cc + x + y := ⟨_, rfl⟩
          have hst := plus_step Hx.out.2.2.1 Hx.out.2.2.2.1 Hd.out.1 Hd.out.2.1 hcc Hd.out.2.2
          rw [← Hxy.out.1, ← Hxy.out.2, ← hs] at hst
          have hv : Value.int .u32 (((cc : Int) + (x : Int)) % 4294967296) = .int .u32 ((s % 4294967296 : Nat) : Int) := by congr 1; rw [hs]; have h0 := Hy0.out; omega
          have hq : Value.int .u64 (((cc : Int) + (x : Int)) / 4294967296) = .int .u64 ((s / 4294967296 : Nat) : Int) := by congr 1; rw [hs]; have h0 := Hy0.out; omega
          have P := push_limb hown hnew (s % 4294967296)
          have Hv := hide (And.intro hv (And.intro hq (And.intro hst P)))
          clear hv hq hst hs P hown hnew
          go_wp2_with (at_builtin; rw [Hv.out.1]; refine wpList_append_row _ rfl (.tmp 38) (.tmp 41) elW rfl w.heap.size u5 k (encW ds) rfl Hv.out.2.2.2.1 (.slice (some ⟨wr.heap.size, 0, none⟩) 1 1) 1 (encW [s % 4294967296]) rfl Hv.out.2.2.2.2.1 (encW_one _) (by omega) (by unfold maxLen; omega) Hv.out.2.2.2.2.2.1 ?_; intro v2 w2 hown2 hg2 _)
          all_goals
            have hn2 := push_new Hv.out.2.2.2.2.2.2 Hv.out.2.2.2.1 hg2
            rw [← encW_app] at hown2
            go_roundw
            case rel => exact ⟨k + 1, s / 4294967296, ds ++ [s % 4294967296], by omega, by go_num, Hv.out.2.1, Hv.out.2.2.1.2.1, ⟨Hv.out.2.2.1.1, by simp [Hd.out.2.1], Hv.out.2.2.1.2.2⟩, hown2, hn2⟩
            case measure => simp [intOf]; omega
        · obtain ⟨b2, o2, rfl, hb2c, hb2m, hb2l, hcl2⟩ := rowW (Hx.out.2.2.2.2.2.1.new_ hnew) hk2
          rw [← Hxy.out.2] at hcl2
          have hx0 : x = 0 := by rw [Hxy.out.1]; exact getD_past (by rw [Hx.out.1]; omega)
          have Hx0 := hide hx0
          clear hx0
          have hxb : x < 4294967296 := by rw [Hxy.out.1]; exact Hx.out.2.2.1.at _
          have hyb : y < 4294967296 := by rw [Hxy.out.2]; exact Hx.out.2.2.2.1.at _
          clear hb2m
          obtain ⟨s, hs⟩ : ∃ s, s = cc + x + y := ⟨_, rfl⟩
          have hst := plus_step Hx.out.2.2.1 Hx.out.2.2.2.1 Hd.out.1 Hd.out.2.1 hcc Hd.out.2.2
          rw [← Hxy.out.1, ← Hxy.out.2, ← hs] at hst
          have hv : Value.int .u32 (((cc : Int) + (y : Int)) % 4294967296) = .int .u32 ((s % 4294967296 : Nat) : Int) := by congr 1; rw [hs]; have h0 := Hx0.out; omega
          have hq : Value.int .u64 (((cc : Int) + (y : Int)) / 4294967296) = .int .u64 ((s / 4294967296 : Nat) : Int) := by congr 1; rw [hs]; have h0 := Hx0.out; omega
          have P := push_limb hown hnew (s % 4294967296)
          have Hv := hide (And.intro hv (And.intro hq (And.intro hst P)))
          clear hv hq hst hs P hown hnew
          go_wp2_with (at_builtin; rw [Hv.out.1]; refine wpList_append_row _ rfl (.tmp 38) (.tmp 41) elW rfl w.heap.size u5 k (encW ds) rfl Hv.out.2.2.2.1 (.slice (some ⟨wr.heap.size, 0, none⟩) 1 1) 1 (encW [s % 4294967296]) rfl Hv.out.2.2.2.2.1 (encW_one _) (by omega) (by unfold maxLen; omega) Hv.out.2.2.2.2.2.1 ?_; intro v2 w2 hown2 hg2 _)
          all_goals
            have hn2 := push_new Hv.out.2.2.2.2.2.2 Hv.out.2.2.2.1 hg2
            rw [← encW_app] at hown2
            go_roundw
            case rel => exact ⟨k + 1, s / 4294967296, ds ++ [s % 4294967296], by omega, by go_num, Hv.out.2.1, Hv.out.2.2.1.2.1, ⟨Hv.out.2.2.1.1, by simp [Hd.out.2.1], Hv.out.2.2.1.2.2⟩, hown2, hn2⟩
            case measure => simp [intOf]; omega
      · obtain rfl : k = N := by omega
        have hfin : val ds + 4294967296 ^ k * cc = val a + val b := by
          have h := Hd.out.2.2
          rw [List.take_of_length_le (by rw [Hx.out.1]; exact hN1), List.take_of_length_le (by rw [Hx.out.2.1]; exact hN2)] at h
          exact h
        have P := push_limb hown hnew cc
        have Hv := hide (And.intro hfin P)
        clear hfin P hown hnew
        go_wp2_with (at_builtin; refine wpList_append_row _ rfl (.tmp 46) (.tmp 49) elW rfl w.heap.size u5 k (encW ds) rfl Hv.out.2.1 (.slice (some ⟨wr.heap.size, 0, none⟩) 1 1) 1 (encW [cc]) rfl Hv.out.2.2.1 (encW_one _) (by omega) (by unfold maxLen; omega) Hv.out.2.2.2.1 ?_; intro v2 w2 hown2 hg2 _)
        have hn2 := push_new Hv.out.2.2.2.2 Hv.out.2.1 hg2
        rw [← encW_app] at hown2
        obtain ⟨A, c, rfl⟩ := hown2.row.form
        go_ret
        refine ⟨A, k + 1, c, ds ++ [cc], rfl, hown2, Hd.out.1.app (Limbs.cons (by omega) Limbs.nil), ?_, ?_, hn2⟩
        · rw [val_snoc, Hd.out.2.1]; exact Hv.out.1
        · have := Hx.out.2.2.2.2.2.2; omega
end Go.Proofs.Ytfhflpchfgkgcaa
