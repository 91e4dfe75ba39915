/- Package num's Parse, at every text of at most 200 bytes; what the listed variables give. -/
import Derived.Test.YtldakajmhfdfgaaDoorNumMath13
import Derived.Lib.LaidU8
namespace Go.Proofs.YtldakajmhfdfgaaDoor
open Go.RowKit
set_option linter.unusedSimpArgs false
set_option linter.unusedVariables false
def LaidOk (w : World) : Prop := Lib.TabIs Tryd.prog w "internal/strconv.uint64pow10" .u64 Lib.pow10Tab ∧ (∃ tp p, w.var? Tryd.prog "strconv.ErrSyntax" = some #[.iface tp p]) ∧ (∃ tp p, w.var? Tryd.prog "strconv.ErrRange" = some #[.iface tp p])
theorem sentinel_of {l : List (String × DataW Unit)} {w : World} (h : laidMet Tryd.prog l w) {n nm : String} {d : DataW Unit} {g : Nat} (hg : Tryd.prog.globalNamed n = some g) (hty : (Tryd.prog.globals[g]?).map (·.type) = some 48) (hm : (n, DataW.iface nm d) ∈ l) : ∃ tp p, w.var? Tryd.prog n = some #[.iface tp p] := by
  obtain ⟨g', t, cs, fuel, p, hg', ht, hvar, hd⟩ := Lib.laidMet.reads h hm
  obtain rfl := Option.some.inj (hg.symm.trans hg')
  obtain rfl := Option.some.inj (hty.symm.trans ht)
  obtain ⟨_, u, v, hc, _, _⟩ := iface_of_trod Tryd.underlying48 hd
  refine ⟨u, v, ?_⟩
  rw [hvar]
  cases cs with
  | mk l => simp only at hc; rw [hc]
theorem laidOk_of {l : List (String × DataW Unit)} {w : World} (h : laidMetH Tryd.prog l w) (hp : (l.all fun x => x.2.handleName?.isNone) = true)
    (hl : l.filter (fun x => x.1 == "internal/strconv.uint64pow10") = [("internal/strconv.uint64pow10", Lib.tabData .u64 Lib.pow10Tab)]) {n1 n2 : String} {d1 d2 : DataW Unit} (h1 : ("strconv.ErrSyntax", DataW.iface n1 d1) ∈ l) (h2 : ("strconv.ErrRange", DataW.iface n2 d2) ∈ l) : LaidOk w := by
  have hm : laidMet Tryd.prog l w := by rw [← Go.MakeChecks.laidMetH_plain _ _ _ hp]; exact h
  exact ⟨tab_of_laid h hl, sentinel_of hm (g := 0) (by kernel_rfl) (by kernel_rfl) h1, sentinel_of hm (g := 1) (by kernel_rfl) (by kernel_rfl) h2⟩
theorem itoa_at {w0 w : World} (ht : Lib.TabIs Tryd.prog w0 "internal/strconv.uint64pow10" .u64 Lib.pow10Tab) (hw : New w0 w) {n : Int} (h0 : -9223372036854775808 ≤ n) (h1 : n ≤ 9223372036854775807) : Calls Tryd.prog 58 #[.int .i64 n] w (IsRet (.string (itoaS n)) w) := by
  refine (Any.strconv_Itoa Tryd.laysM171 n h0 h1 w (Joins.tab_stays (g := 2) (by kernel_rfl) ht hw.below (Nat.le_refl _))).mono ?_
  rintro e w'' ⟨rfl, k, os, rfl⟩
  exact ⟨rfl, Upd.ofBelow (Lib.below_grow _ _ (Nat.le_refl _) k os)⟩
theorem atoi_bd {l : List UInt8} {v : Int} (h : Lib.atoiAll l = .ok v) : -9223372036854775808 ≤ v ∧ v ≤ 9223372036854775807 := by
  unfold Lib.atoiAll at h
  split at h
  · cases h
  · simp only at h
    split at h
    · cases h
    · cases h
    · split at h
      · cases h
      · split at h
        · cases h
        · rename_i h1 h2
          injection h with h
          subst h
          split <;> omega
theorem parseAll_c {w0 w : World} (H : LaidOk w0) (s : ByteArray) (hs : (s.size : Int) ≤ 200) (hN : New w0 w) : Calls Tryd.prog 16 #[.string s] w (IsRet (.tuple #[nv (rParseM s).1, .bool (rParseM s).2]) w) := by
  obtain ⟨ht, ⟨ts, ps, hsv⟩, ⟨tr, pr, hrv⟩⟩ := H
  cases h : Lib.atoiAll s.data.toList with
  | ok v =>
    have hb := atoi_bd h
    have h3 := parse2_c s w v (fun _ _ _ w' hn => atoi_ok s v (by omega) h w') fun w' hn => itoa_at ht (hN.transNew hn) hb.1 hb.2
    rw [readers_ok h] at h3
    exact h3
  | range =>
    have h3 := parse3_c s w fun _ _ _ w' hn => by
      refine (Any.strconv_Atoi_range_var Tryd.laysC172 s (by omega) h tr pr w' (Joins.var_stays (g := 1) (by kernel_rfl) hrv (hN.transNew hn).below (Nat.le_refl _))).mono ?_
      rintro e w'' ⟨N, rfl, -, -, hb⟩
      exact ⟨_, N, rfl, Upd.ofBelow hb⟩
    rw [readers_err (fun n hn => by rw [h] at hn; cases hn)] at h3
    exact h3
  | _ =>
    have h3 := parse3_c s w fun _ _ _ w' hn => by
      refine (Any.strconv_Atoi_syntax_var Tryd.laysC172 s (by omega) h ts ps w' (Joins.var_stays (g := 0) (by kernel_rfl) hsv (hN.transNew hn).below (Nat.le_refl _))).mono ?_
      rintro e w'' ⟨N, rfl, -, -, hb⟩
      exact ⟨_, N, rfl, Upd.ofBelow hb⟩
    rw [readers_err (fun n hn => by rw [h] at hn; cases hn)] at h3
    exact h3
theorem is_same (a : Nm) (x : Bool) : (eqN a a && x == x) = true := by simp [eqN]
end Go.Proofs.YtldakajmhfdfgaaDoor
