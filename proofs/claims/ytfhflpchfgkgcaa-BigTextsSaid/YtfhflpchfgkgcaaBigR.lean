/- Reverse; Text. -/
import Derived.Test.YtfhflpchfgkgcaaBigQ
import Derived.Test.YtfhflpchfgkgcaaBigDec
import Derived.Deep.LoopGhost
import Derived.Laws.BytesArg
namespace Go.Proofs.Ytfhflpchfgkgcaa
open Go.RowKit
def encB (xs : List Int) : List Value := xs.map (Value.int .u8)
theorem length_encB (m : List Int) : (encB m).length = m.length := by simp [encB]
theorem encB_one (m : List Int) : ∀ u ∈ encB m, u.oneCell' = true := by
  intro u hu
  obtain ⟨x, _, rfl⟩ := List.mem_map.1 hu
  rfl
theorem encB_app (a b : List Int) : encB (a ++ b) = encB a ++ encB b := by simp [encB]
theorem encB_set (a : List Int) (k : Nat) (x : Int) : encB (a.set k x) = (encB a).set k (.int .u8 x) := by simp [encB]
theorem encB_get (a : List Int) (k : Nat) (h : k < a.length) : (encB a)[k]? = some (.int .u8 (a.getD k 0)) := by simp [encB, List.getD, h]
theorem elB : ElemT Try.prog 57 5 (.int .u8 0) 1 1 := ⟨Try.underlying57, by kernel_rfl, rfl, by omega⟩
/-- A list whose first i and last i are exchanged. -/
def turned (l : List Int) (i : Nat) : List Int := (List.range l.length).map fun t => if t < i ∨ l.length - 1 - t < i then l.getD (l.length - 1 - t) 0 else l.getD t 0
theorem length_turned (l : List Int) (i : Nat) : (turned l i).length = l.length := by simp [turned]
theorem get_turned (l : List Int) (i t : Nat) (h : t < l.length) : (turned l i).getD t 0 = if t < i ∨ l.length - 1 - t < i then l.getD (l.length - 1 - t) 0 else l.getD t 0 := by
  simp [turned, List.getD, h]
theorem ext_getD {a b : List Int} (hl : a.length = b.length) (h : ∀ t, t < a.length → a.getD t 0 = b.getD t 0) : a = b := by
  refine List.ext_getElem hl fun t h1 h2 => ?_
  have := h t h1
  simpa [List.getD, h1, h2] using this
theorem getD_set (l : List Int) (k t : Nat) (x : Int) (h : k < l.length) : (l.set k x).getD t 0 = if t = k then x else l.getD t 0 := by
  by_cases e : t = k
  · subst e; simp [List.getD, h]
  · rw [if_neg e]; simp [List.getD, Ne.symm e]
theorem turned_zero (l : List Int) : turned l 0 = l := by
  refine ext_getD (length_turned l 0) fun t ht => ?_
  rw [length_turned] at ht
  rw [get_turned l 0 t ht, if_neg (by omega)]
theorem turned_succ (l : List Int) (i : Nat) (h : i + i + 1 < l.length) : ((turned l i).set i ((turned l i).getD (l.length - 1 - i) 0)).set (l.length - 1 - i) ((turned l i).getD i 0) = turned l (i + 1) := by
  refine ext_getD (by simp [length_turned]) fun t ht => ?_
  have ht' : t < l.length := by simpa [length_turned] using ht
  rw [getD_set _ _ _ _ (by simp [length_turned]; omega), getD_set _ _ _ _ (by rw [length_turned]; omega), get_turned l i _ (by omega), get_turned l i _ (by omega), get_turned l i _ ht', get_turned l (i + 1) _ ht']
  have e1 : l.length - 1 - (l.length - 1 - i) = i := by omega
  rw [e1]
  by_cases h1 : t = l.length - 1 - i
  · subst h1
    rw [e1, if_pos rfl, if_neg (by omega), if_pos (by omega)]
  · rw [if_neg h1]
    by_cases h2 : t = i
    · subst h2
      rw [if_pos rfl, if_neg (by omega), if_pos (by omega)]
    · rw [if_neg h2]
      by_cases h3 : t < i ∨ l.length - 1 - t < i
      · rw [if_pos h3, if_pos (by omega)]
      · rw [if_neg h3, if_neg (by omega)]
theorem turned_end (l : List Int) (i : Nat) (h : l.length ≤ i + i + 1) : turned l i = l.reverse := by
  refine ext_getD (by simp [length_turned]) fun t ht => ?_
  rw [length_turned] at ht
  have hr : l.reverse.getD t 0 = l.getD (l.length - 1 - t) 0 := by
    rw [List.getD, List.getD, List.getElem?_reverse ht]
  rw [get_turned l i t ht, hr]
  by_cases h3 : t < i ∨ l.length - 1 - t < i
  · rw [if_pos h3]
  · rw [if_neg h3, show l.length - 1 - t = t by omega]
def IsRev (W : World) (base : Nat) (A : Option Addr) (n c : Nat) (l : List Int) (e : Ending) (w' : World) : Prop := e = .returned (.tuple #[]) ∧ Own w' base 5 1 (.slice A n c) n (encB l.reverse) ∧ Upd (fun q => ownB (.slice A n c) = some q) W w'
set_option maxHeartbeats 3200000 in
theorem reverse_any (base : Nat) (A : Option Addr) (n c : Nat) (l : List Int) (w : World) (ho : Own w base 5 1 (.slice A n c) n (encB l)) (hs : n ≤ 100000) :
    Calls Try.prog 60 #[.slice A n c] w (IsRev w base A n c l) := by
  have hl : l.length = n := by have := ho.len; simpa [encB] using this
  have Hl := hide hl
  have ho' : Own w base 5 1 (.slice A n c) n (encB (turned l 0)) := by rw [turned_zero]; exact ho
  clear hl ho
  go_enter Try.func60, Try.ntmps60
  go_wp2
  go_loopw [2, 3] (fun i j wr => ∃ k : Nat, i = .int .i64 k ∧ j = .int .i64 ((n : Int) - 1 - (k : Int)) ∧ k ≤ n ∧ Own wr base 5 1 (.slice A n c) n (encB (turned l k)) ∧ Upd (fun q => ownB (.slice A n c) = some q) w wr) (fun i _ _ => n - (intOf i).toNat)
  case atStart => exact ⟨0, rfl, by simp, by omega, ho', Upd.refl _ _⟩
  case round =>
    clear ho'
    obtain ⟨k, rfl, rfl, hk, ho, hu⟩ := hrel
    by_cases hlt : k + k + 1 < n
    · obtain ⟨g, rfl, hnc, hcm, hbg, hgl, hcell, hfz, hset⟩ := ho.place (j := k) (by omega)
      obtain ⟨g', hg', -, -, -, -, hcell2, hfz2, -⟩ := ho.place (j := n - 1 - k) (by omega)
      injection hg' with hg'
      injection hg' with hg' _ _
      subst hg'
      have hlt' : (turned l k).length = n := by rw [length_turned, Hl.out]
      rw [encB_get _ _ (by omega)] at hcell hcell2
      obtain ⟨x, hx⟩ : ∃ x, x = (turned l k).getD k 0 := ⟨_, rfl⟩
      obtain ⟨y, hy⟩ : ∃ y, y = (turned l k).getD (n - 1 - k) 0 := ⟨_, rfl⟩
      rw [← hx] at hcell
      rw [← hy] at hcell2
      have hb1 : (0 : Int) ≤ (k : Int) ∧ (k : Int) < (n : Int) ∧ (0 : Int) ≤ (n : Int) - 1 - (k : Int) ∧ (n : Int) - 1 - (k : Int) < (n : Int) := by omega
      obtain ⟨hb1, hb2, hb3, hb4⟩ := hb1
      have hne : k ≠ n - 1 - k := by omega
      have Hs := hide (And.intro hset (And.intro hx (And.intro hy (And.intro hu ho))))
      clear hset hx hy hu ho hcm hlt'
      go_wp2_with fail
      go_region
      obtain ⟨hset, hx, hy, hu, ho⟩ := Hs.out
      have ho1 := hset (.int .u8 y)
      rw [← encB_set] at ho1
      obtain ⟨g', hg', -, -, -, -, -, -, hset2⟩ := ho1.place (j := n - 1 - k) (by omega)
      injection hg' with hg'
      injection hg' with hg' _ _
      subst hg'
      have ho2 := hset2 (.int .u8 x)
      have hts := turned_succ l k (by rw [Hl.out]; exact hlt)
      rw [Hl.out, ← hx, ← hy] at hts
      rw [← encB_set, hts] at ho2
      have hF : ownB (.slice (some ⟨g, 0, none⟩) n c) = some g := by
        obtain ⟨c', rfl⟩ : ∃ c', c = c' + 1 := ⟨c - 1, by omega⟩
        rfl
      have ho3 := ho2.upd (Upd.refl (fun _ => False) _).drew (fun _ _ hf => hf)
      have hu3 := ((hu.setCell (p := ⟨g, k, none⟩) (.inl hF) (.int .u8 y)).setCell (p := ⟨g, n - 1 - k, none⟩) (.inl hF) (.int .u8 x)).drew
      have H3 := hide (And.intro ho3 hu3)
      clear hset hx hy hu ho ho1 hset2 ho2 hts ho3 hu3 hcell hcell2 hfz hfz2 hF
      go_wp2
      go_roundw
      case rel => exact ⟨k + 1, by go_num, by congr 1; omega, by omega, H3.out.1, H3.out.2⟩
      case measure => simp [intOf] <;> omega
    · have hge : (n : Int) - 1 - (k : Int) ≤ (k : Int) := by omega
      have H3 := hide (And.intro ho hu)
      clear ho hu
      go_wp2
      refine bodyPost_ret (v := .tuple #[]) (by simp [results, Try.results60, go_sem]) rfl ⟨rfl, ?_, H3.out.2⟩
      have h := H3.out.1
      rwa [turned_end l k (by rw [Hl.out]; omega)] at h
end Go.Proofs.Ytfhflpchfgkgcaa
