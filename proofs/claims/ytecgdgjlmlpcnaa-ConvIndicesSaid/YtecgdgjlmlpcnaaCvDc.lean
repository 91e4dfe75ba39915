/- The reference's Dec: a number in decimal digits. -/
import Derived.Test.YtecgdgjlmlpcnaaBigMath
import Derived.Test.YtecgdgjlmlpcnaaCvSeat
import Derived.Test.YtecgdgjlmlpcnaaReg3
import Derived.Great.BuildSlice
import Derived.Laws.BytesArg
namespace Go.Proofs.Ytecgdgjlmlpcnaa
open Go.RowKit
set_option linter.unusedSimpArgs false
set_option linter.unusedVariables false
def IsText (xs : List Int) (w : World) (e : Ending) (w' : World) : Prop := e = .returned (.string (strOfNums xs)) ∧ New w w'
theorem strOf_app (a b : List Int) : strOfNums a ++ strOfNums b = strOfNums (a ++ b) := by
  apply ByteArray.ext
  simp [strOfNums]
theorem textI_small {n : Int} (h0 : 0 ≤ n) (h : n < 10) : textI n = [48 + n] := by
  unfold textI
  by_cases hz : n = 0
  · subst hz; rfl
  · rw [if_neg hz, if_neg (by omega), digs_one (by omega) (by omega)]
    simp [letter]; omega
theorem textI_big {n : Int} (h : 10 ≤ n) : textI n = textI (n.tdiv 10) ++ [48 + n.tmod 10] := by
  have hd : n.tdiv 10 = n / 10 := Int.tdiv_eq_ediv_of_nonneg (by omega)
  have hm : n.tmod 10 = n % 10 := Int.tmod_eq_emod_of_nonneg (by omega)
  rw [hd, hm]
  unfold textI
  rw [if_neg (by omega), if_neg (by omega), if_neg (by omega), if_neg (by omega), digs_pos (n := n.natAbs) (by omega), show (n / 10).natAbs = n.natAbs / 10 by omega]
  simp [letter]; omega
theorem td_neg (m : Nat) : (-(m : Int)).tdiv 10 = -((m / 10 : Nat) : Int) := by rw [Int.neg_tdiv]; rfl
theorem tm_neg (m : Nat) : (-(m : Int)).tmod 10 = -((m % 10 : Nat) : Int) := by rw [Int.neg_tmod]; rfl
theorem textI_neg1 {n : Int} (h0 : n < 0) (h : n.tdiv 10 = 0) : textI n = [45] ++ [48 - n.tmod 10] := by
  obtain ⟨m, rfl⟩ : ∃ m : Nat, n = -(m : Int) := ⟨n.natAbs, by omega⟩
  rw [td_neg] at h
  unfold textI
  rw [if_neg (by omega), if_pos h0, digs_one (by omega) (by omega), tm_neg]
  simp [letter]; omega
theorem textI_neg2 {n : Int} (h0 : n < 0) (h : n.tdiv 10 ≠ 0) : textI n = [45] ++ textI (-(n.tdiv 10)) ++ [48 - n.tmod 10] := by
  obtain ⟨m, rfl⟩ : ∃ m : Nat, n = -(m : Int) := ⟨n.natAbs, by omega⟩
  rw [td_neg] at h ⊢
  rw [tm_neg, Int.neg_neg]
  unfold textI
  rw [if_neg (by omega), if_pos h0, if_neg (by omega), if_neg (by omega), digs_pos (n := (-(m : Int)).natAbs) (by omega), show (-(m : Int)).natAbs = m by omega, show (((m / 10 : Nat) : Int)).natAbs = m / 10 by omega]
  simp [letter]
theorem tmod_nn {n : Int} (h : 0 ≤ n) : 0 ≤ n.tmod 10 ∧ n.tmod 10 < 10 := by rw [Int.tmod_eq_emod_of_nonneg h]; omega
theorem tmod_np {n : Int} (h : n ≤ 0) : -10 < n.tmod 10 ∧ n.tmod 10 ≤ 0 := by
  obtain ⟨m, rfl⟩ : ∃ m : Nat, n = -(m : Int) := ⟨n.natAbs, by omega⟩
  rw [tm_neg]; omega
theorem tdiv_nn {n : Int} (h : 0 ≤ n) : n.tdiv 10 = n / 10 := Int.tdiv_eq_ediv_of_nonneg h
theorem r_quo {t : TypeId} {x y r : Int} (h : x.tdiv y = r) (hy : y ≠ 0) (hr : -9223372036854775808 ≤ r ∧ r ≤ 9223372036854775807) : ∀ w, (binOp .quo t (.int .i64 x) (.int .i64 y)).run Try.prog w = .ok (.int .i64 r) w := by
  intro w; simp [binOp, Op.intDiv, h, hy, IntWalk.i64_in r hr]
theorem r_rem {t : TypeId} {x y r : Int} (h : x.tmod y = r) (hy : y ≠ 0) (hr : -9223372036854775808 ≤ r ∧ r ≤ 9223372036854775807) : ∀ w, (binOp .rem t (.int .i64 x) (.int .i64 y)).run Try.prog w = .ok (.int .i64 r) w := by
  intro w; simp [binOp, Op.intDiv, h, hy, IntWalk.i64_in r hr]
section
variable {P : Program} {ops : Array Oper} {Q : Exit → Act → World → Prop} {S : World → Prop} {o : Oper} {a : Act}
theorem y_conv {s d : TypeId} {x : Operand} {u v : Value} (ho : o.op = .convert s d x) (hx : a.eval x = u) {w : World} (h : (convert s d u).run P w = .ok v w) : (execOp a.eval o).run P w = .ok (.value v) w := by
  simp [execOp, ho, hx, h]
theorem y_adds {t t' : TypeId} {x y : Operand} {s s' : ByteArray} (ho : o.op = .binOp .add t x y t') (hx : a.eval x = .string s) (hy : a.eval y = .string s') (hl : s.size + s'.size ≤ 9223372036854775807) {w : World} : (execOp a.eval o).run P w = .ok (.value (.string (s ++ s'))) w := by
  simp [execOp, ho, hx, hy, binOp, eqGuard, Op.stringOp]; omega
theorem y_build {t e : TypeId} {parts : Array (Nat × Operand)} {len : Nat} {vs : List Value} {w : World} (ho : o.op = .buildSlice t len parts) (h : (Instr.buildSlice t len (parts.map fun (i, x) => (i, a.eval x))).run P w = .ok (.slice (some ⟨w.heap.size, 0, none⟩) len len) (w.alloc (.cells vs.toArray e))) :
    (execOp a.eval o).run P w = .ok (.value (.slice (some ⟨w.heap.size, 0, none⟩) len len)) (w.alloc (.cells vs.toArray e)) := by
  simp [execOp, ho, h]
theorem y_negi {t : TypeId} {x : Operand} {m : Int} (ho : o.op = .unOp .neg t x) (hx : a.eval x = .int .i64 m) (hr : -9223372036854775808 ≤ -m ∧ -m ≤ 9223372036854775807) {w : World} : (execOp a.eval o).run P w = .ok (.value (.int .i64 (-m))) w := by
  simp [execOp, ho, hx, Op.unary, Op.intArith, IntWalk.i64_in (-m) hr]
theorem step_new {T : Nat → Value → World → Prop} {F : Array Bool} {a0 : Act} {w0 : World} {i : Nat} {o : Oper} (hi : ops.toList[i]? = some o) (hg : o.guard = none)
    (h : ∀ a w, New w0 w → Known ops F T a0 i a w → ∃ v ob, (execOp a.eval o).run P w = .ok (.value v) (w.alloc ob) ∧ T i v (w.alloc ob)) : StepOk P ops Q F T a0 w0 i := by
  refine ⟨o, hi, fun a w hw hk => ?_⟩
  obtain ⟨v, ob, hrun, hT⟩ := h a w hw hk
  have hi' : ops[i]? = some o := by rw [← Array.getElem?_toList]; exact hi
  have hwt : Region.wanted o (yielded ops a.tmps) = true := by simp [Region.wanted, hg]
  unfold wpOp
  simp only [hi', hwt, if_true, Oper.wp, hrun, Oper.upon]
  exact .inl ⟨_, rfl, (Upd.refl _ _).alloc _, hT⟩
end
theorem run_build1 (v : Int) (w : World) : (Instr.buildSlice 64 1 #[(0, .int .u8 v)]).run Try.prog w = .ok (.slice (some ⟨w.heap.size, 0, none⟩) 1 1) (w.alloc (.cells #[.int .u8 v] 5)) :=
  run_buildSlice w 64 5 1 _ _ _ (.int .u8 0) Try.underlying64 rfl (by kernel_rfl) (by decide +kernel) (by decide +kernel) (by kernel_rfl)
theorem run_str1 (v : Int) (q : Nat) (w : World) (h : Blk w q 5 [.int .u8 v]) : (convert 64 9 (.slice (some ⟨q, 0, none⟩) 1 1)).run Try.prog w = .ok (.string (strOfNums [v])) w :=
  run_convert_bytes_arg w 64 5 Try.underlying64 Try.underlying5 q 0 1 1 [v] rfl (fun i hi => by
    obtain rfl : i = 0 := by omega
    exact h.cell 0) 9 Try.underlying9
theorem run_byte (v : Int) (h : 0 ≤ v ∧ v < 256) (w : World) : (convert 3 5 (.int .i64 v)).run Try.prog w = .ok (.int .u8 v) w := by
  rw [run_convert_int (src := 3) (dst := 5) (k := .i64) (n := v) (hs := by rw [Try.underlying3]; rfl) (hd := by rw [Try.underlying5]; kernel_rfl)]
  have e : Try.prog.intKind 5 = .u8 := by kernel_rfl
  rw [e, IntWalk.u8_in v (by omega)]
theorem textI_len {n : Int} (h1 : -9223372036854775808 ≤ n) (h2 : n ≤ 9223372036854775807) : (strOfNums (textI n)).size ≤ 100 := by
  rw [strOfNums_size]
  have h := digs_len (n := n.natAbs) (k := 19) (by omega)
  unfold textI
  split
  · simp
  · split <;> simp <;> omega
def IsByte (v : Value) (c : Int) (w : World) : Prop := ∃ q, v = .slice (some ⟨q, 0, none⟩) 1 1 ∧ Blk w q 5 [.int .u8 c]
theorem IsByte.new_ {v : Value} {c : Int} {w w' : World} (h : IsByte v c w) (hn : New w w') : IsByte v c w' := by
  obtain ⟨q, he, hb⟩ := h; exact ⟨q, he, hb.new_ hn⟩
def TDec (vs : List Value) (k : Nat) (c : Int) (i : Nat) (v : Value) (w : World) : Prop := if i = k then IsByte v c w else v = vs.getD i undef
theorem TDec.new_ {vs : List Value} {k : Nat} {c : Int} (i : Nat) (v : Value) (w w' : World) (hn : New w w') (h : TDec vs k c i v w) : TDec vs k c i v w' := by
  unfold TDec at *
  split
  · rename_i hik; rw [if_pos hik] at h; exact h.new_ hn
  · rename_i hik; rw [if_neg hik] at h; exact h
theorem TDec.eq {vs : List Value} {k : Nat} {c : Int} {i : Nat} {v : Value} {w : World} (h : TDec vs k c i v w) (hik : (i == k) = false) : v = vs.getD i undef := by
  unfold TDec at h
  rw [if_neg (by simpa using hik)] at h
  exact h
theorem TDec.byte {vs : List Value} {k : Nat} {c : Int} {v : Value} {w : World} (h : TDec vs k c k v w) : IsByte v c w := by
  unfold TDec at h
  rw [if_pos rfl] at h
  exact h
theorem TDec.mk {vs : List Value} {k : Nat} {c : Int} {i : Nat} {w : World} (hik : (i == k) = false) : TDec vs k c i (vs.getD i undef) w := by
  unfold TDec
  rw [if_neg (by simpa using hik)]
set_option maxHeartbeats 1600000 in
set_option maxRecDepth 100000 in
theorem dec_step (n : Int) (w : World) (h1 : -9223372036854775808 ≤ n) (h2 : n ≤ 9223372036854775807)
    (ih : ∀ (k : Int) (w : World), k.natAbs < n.natAbs → -9223372036854775808 ≤ k → k ≤ 9223372036854775807 → Calls Try.prog 16 #[.int .i64 k] w (IsText (textI k) w)) :
    Calls Try.prog 16 #[.int .i64 n] w (IsText (textI n) w) := by
  have IH := hide ih
  clear ih
  have HT := hide (textI_len h1 h2)
  by_cases hneg : n < 0
  · by_cases hs : n.tdiv 10 = 0
    · rw [textI_neg1 hneg hs]
      have hm := tmod_np (n := n) (by omega)
      have hq := hide hs
      have hq0 : (n.tdiv 10 == 0) = true := by simpa using hs
      have hw1 : wrap64 (48 - n.tmod 10) = 48 - n.tmod 10 := by unfold wrap64; omega
      have hw2 : (48 - n.tmod 10) % 256 = 48 - n.tmod 10 := by omega
      have hconv := run_str1 (48 - n.tmod 10) w.heap.size (w.alloc (.cells #[.int .u8 (48 - n.tmod 10)] 5)) (Blk.new w _ [_])
      have hsz : (strOfNums [48 - n.tmod 10]).size = 1 := rfl
      have hadd := hide (strOf_app [45] [48 - n.tmod 10])
      clear hm hs HT
      go_enter Try.func16, Try.ntmps16
      go_wp2
      go_ret
      exact ⟨congrArg (fun s => Ending.returned (.string s)) hadd.out, (Upd.refl _ _).alloc _⟩
    · have ht := hide (textI_neg2 hneg hs)
      have hm := tmod_np (n := n) (by omega)
      obtain ⟨d, hde⟩ : ∃ d, d = n.tdiv 10 := ⟨_, rfl⟩
      have hq0 : (n.tdiv 10 == 0) = false := by simpa using hs
      have hd1 : (-d).natAbs < n.natAbs ∧ -9223372036854775808 ≤ -d ∧ -d ≤ 9223372036854775807 ∧ -9223372036854775808 ≤ d ∧ d ≤ 9223372036854775807 := by
        obtain ⟨m, rfl⟩ : ∃ m : Nat, n = -(m : Int) := ⟨n.natAbs, by omega⟩
        rw [td_neg] at hde
        omega
      have Hd := hide hde
      have hlen := hide (textI_len hd1.2.1 hd1.2.2.1)
      clear hde hs
      go_enter Try.func16, Try.ntmps16
      go_wp2_with fail
      refine wp_region_inv [true, true, true, true, true, true, true, true, true, true, true, true, false] [] [(12, true)] 44
        (TDec [.int .i64 n, .int .i64 d, .int .i64 (-d), .string (strOfNums (textI (-d))), .string (strOfNums ([45] ++ textI (-d))), .int .i64 n, .int .i64 (n.tmod 10), .int .i64 (48 - n.tmod 10), .int .u8 (48 - n.tmod 10), undef, .string (strOfNums [48 - n.tmod 10]), .string (strOfNums (textI n))] 9 (48 - n.tmod 10))
        (by kernel_rfl) (by kernel_rfl) rfl (fun _ _ d _ _ h => by cases d <;> exact h) TDec.new_ ?_ (fun i h => by simp at h) ?_
      · intro i hF _
        match i with
        | 0 => exact step_take rfl rfl fun ac w hw hk => ⟨_, y_move (S := fun _ => True) rfl ((hk.fix 0 (by kernel_rfl)).trans rfl) w trivial, .mk rfl⟩
        | 1 => exact step_take rfl rfl fun ac w hw hk => ⟨_, y_bin (S := fun _ => True) rfl ((hk.dep 0 15 (by kernel_rfl) (by kernel_rfl)).eq rfl) rfl (r_quo Hd.out.symm (by omega) (by omega)) w trivial, .mk rfl⟩
        | 2 => exact step_take rfl rfl fun ac w hw hk => ⟨_, y_negi rfl ((hk.dep 1 16 (by kernel_rfl) (by kernel_rfl)).eq rfl) (by omega), .mk rfl⟩
        | 3 =>
          refine step_call rfl rfl rfl fun ac w hw hk => ?_
          have h1 := (hk.dep 2 17 (by kernel_rfl) (by kernel_rfl)).eq rfl
          refine ⟨#[.int .i64 (-d)], _, ?_, fun w => by kernel_rfl, IH.out (-d) w hd1.1 hd1.2.1 hd1.2.2.1, ?_⟩
          · show [ac.eval (.tmp 17)] = _; rw [h1]; rfl
          · rintro e w' ⟨rfl, hn⟩; exact ⟨_, rfl, hn, .mk rfl⟩
        | 4 =>
          refine step_take rfl rfl fun ac w hw hk => ?_
          have h1 : ac.eval (.tmp 18) = .string (strOfNums (textI (-d))) := (hk.dep 3 18 (by kernel_rfl) (by kernel_rfl)).eq rfl
          refine ⟨.string (strOfNums ([45] ++ textI (-d))), ?_, .mk rfl⟩
          rw [← strOf_app]
          exact y_adds rfl rfl h1 (by have := hlen.out; have : (strOfNums [45]).size = 1 := rfl; omega)
        | 5 => exact step_take rfl rfl fun ac w hw hk => ⟨_, y_move (S := fun _ => True) rfl ((hk.fix 0 (by kernel_rfl)).trans rfl) w trivial, .mk rfl⟩
        | 6 => exact step_take rfl rfl fun ac w hw hk => ⟨_, y_bin (S := fun _ => True) rfl ((hk.dep 5 20 (by kernel_rfl) (by kernel_rfl)).eq rfl) rfl (r_rem rfl (by omega) (by omega)) w trivial, .mk rfl⟩
        | 7 => exact step_take rfl rfl fun ac w hw hk => ⟨_, y_bin (S := fun _ => True) rfl rfl ((hk.dep 6 21 (by kernel_rfl) (by kernel_rfl)).eq rfl) (r_sub rfl (by omega)) w trivial, .mk rfl⟩
        | 8 => exact step_take rfl rfl fun ac w hw hk => ⟨_, y_conv rfl ((hk.dep 7 22 (by kernel_rfl) (by kernel_rfl)).eq rfl) (run_byte _ (by omega) w), .mk rfl⟩
        | 9 =>
          refine step_new rfl rfl fun ac w hw hk => ?_
          have h1 : ac.eval (.tmp 23) = .int .u8 (48 - n.tmod 10) := (hk.dep 8 23 (by kernel_rfl) (by kernel_rfl)).eq rfl
          refine ⟨_, _, y_build (vs := [.int .u8 (48 - n.tmod 10)]) rfl ?_, ⟨_, rfl, Blk.new w _ _⟩⟩
          simp only [List.map_toArray, List.map_cons, List.map_nil, h1]
          exact run_build1 _ w
        | 10 =>
          refine step_take rfl rfl fun ac w hw hk => ?_
          obtain ⟨q, h1, hb⟩ := (hk.dep 9 24 (by kernel_rfl) (by kernel_rfl)).byte
          exact ⟨_, y_conv rfl h1 (run_str1 _ q w hb), .mk rfl⟩
        | 11 =>
          refine step_take rfl rfl fun ac w hw hk => ?_
          have h1 : ac.eval (.tmp 19) = .string (strOfNums ([45] ++ textI (-d))) := (hk.dep 4 19 (by kernel_rfl) (by kernel_rfl)).eq rfl
          have h2 : ac.eval (.tmp 25) = .string (strOfNums [48 - n.tmod 10]) := (hk.dep 10 25 (by kernel_rfl) (by kernel_rfl)).eq rfl
          have h3 : strOfNums (textI n) = strOfNums ([45] ++ textI (-d)) ++ strOfNums [48 - n.tmod 10] := by rw [strOf_app, Hd.out, ← ht.out]
          refine ⟨.string (strOfNums (textI n)), ?_, .mk rfl⟩
          rw [h3]
          exact y_adds rfl h1 h2 (by have := hlen.out; have : (strOfNums [48 - n.tmod 10]).size = 1 := rfl; simp only [strOfNums_size] at *; simp; omega)
        | 12 => cases hF
        | _ + 13 => cases hF
      · intro vals w1 hn hTl
        have hv0 : vals 0 = .int .i64 n := (hTl 0 rfl).eq rfl
        have hv1 : vals 1 = .int .i64 d := (hTl 1 rfl).eq rfl
        have hv2 : vals 2 = .int .i64 (-d) := (hTl 2 rfl).eq rfl
        have hv3 : vals 3 = .string (strOfNums (textI (-d))) := (hTl 3 rfl).eq rfl
        have hv4 : vals 4 = .string (strOfNums ([45] ++ textI (-d))) := (hTl 4 rfl).eq rfl
        have hv5 : vals 5 = .int .i64 n := (hTl 5 rfl).eq rfl
        have hv6 : vals 6 = .int .i64 (n.tmod 10) := (hTl 6 rfl).eq rfl
        have hv7 : vals 7 = .int .i64 (48 - n.tmod 10) := (hTl 7 rfl).eq rfl
        have hv8 : vals 8 = .int .u8 (48 - n.tmod 10) := (hTl 8 rfl).eq rfl
        obtain ⟨q, hv9, -⟩ := (hTl 9 rfl).byte
        have hv10 : vals 10 = .string (strOfNums [48 - n.tmod 10]) := (hTl 10 rfl).eq rfl
        have hv11 : vals 11 = .string (strOfNums (textI n)) := (hTl 11 rfl).eq rfl
        clear hTl
        simp only [putL, Act.put, List.setIfInBounds_toArray, List.set_cons_zero, List.set_cons_succ, hv0, hv1, hv2, hv3, hv4, hv5, hv6, hv7, hv8, hv9, hv10, hv11]
        clear hv0 hv1 hv2 hv3 hv4 hv5 hv6 hv7 hv8 hv9 hv10 hv11 hm hd1
        refine st_take (a' := ?_) rfl rfl (y_assign (v := .string (strOfNums (textI n))) rfl rfl) ?_ ?_
        rotate_left; (simp only [Act.put, List.setIfInBounds_toArray, List.set_cons_zero, List.set_cons_succ]; rfl)
        refine st_nil ?_
        go_wp2
        go_ret
        exact ⟨rfl, hn⟩
  · by_cases hs : n < 10
    · rw [textI_small (by omega) hs]
      have hconv := run_str1 (48 + n) w.heap.size (w.alloc (.cells #[.int .u8 (48 + n)] 5)) (Blk.new w _ [_])
      have hl : 0 ≤ n := by omega
      clear HT
      go_enter Try.func16, Try.ntmps16
      go_wp2
      go_ret
      exact ⟨rfl, (Upd.refl _ _).alloc _⟩
    · have ht := hide (textI_big (n := n) (by omega))
      have hm := tmod_nn (n := n) (by omega)
      have hd := tdiv_nn (n := n) (by omega)
      obtain ⟨d, hde⟩ : ∃ d, d = n.tdiv 10 := ⟨_, rfl⟩
      rw [← hde] at hd
      have Hd := hide hde
      have hd1 : d.natAbs < n.natAbs ∧ -9223372036854775808 ≤ d ∧ d ≤ 9223372036854775807 := by omega
      have hlen := hide (textI_len hd1.2.1 hd1.2.2)
      have hl : 10 ≤ n := by omega
      clear hd hde
      go_enter Try.func16, Try.ntmps16
      go_wp2_with fail
      refine wp_region_inv [true, true, true, true, true, true, true, true, true, true, false] [] [(10, true)] 44
        (TDec [.int .i64 n, .int .i64 d, .string (strOfNums (textI d)), .int .i64 n, .int .i64 (n.tmod 10), .int .i64 (48 + n.tmod 10), .int .u8 (48 + n.tmod 10), undef, .string (strOfNums [48 + n.tmod 10]), .string (strOfNums (textI n))] 7 (48 + n.tmod 10))
        (by kernel_rfl) (by kernel_rfl) rfl (fun _ _ d _ _ h => by cases d <;> exact h) TDec.new_ ?_ (fun i h => by simp at h) ?_
      · intro i hF _
        match i with
        | 0 => exact step_take rfl rfl fun ac w hw hk => ⟨_, y_move (S := fun _ => True) rfl ((hk.fix 0 (by kernel_rfl)).trans rfl) w trivial, .mk rfl⟩
        | 1 => exact step_take rfl rfl fun ac w hw hk => ⟨_, y_bin (S := fun _ => True) rfl ((hk.dep 0 34 (by kernel_rfl) (by kernel_rfl)).eq rfl) rfl (r_quo Hd.out.symm (by omega) (by omega)) w trivial, .mk rfl⟩
        | 2 =>
          refine step_call rfl rfl rfl fun ac w hw hk => ?_
          have h1 := (hk.dep 1 35 (by kernel_rfl) (by kernel_rfl)).eq rfl
          refine ⟨#[.int .i64 d], _, ?_, fun w => by kernel_rfl, IH.out d w hd1.1 hd1.2.1 hd1.2.2, ?_⟩
          · show [ac.eval (.tmp 35)] = _; rw [h1]; rfl
          · rintro e w' ⟨rfl, hn⟩; exact ⟨_, rfl, hn, .mk rfl⟩
        | 3 => exact step_take rfl rfl fun ac w hw hk => ⟨_, y_move (S := fun _ => True) rfl ((hk.fix 0 (by kernel_rfl)).trans rfl) w trivial, .mk rfl⟩
        | 4 => exact step_take rfl rfl fun ac w hw hk => ⟨_, y_bin (S := fun _ => True) rfl ((hk.dep 3 37 (by kernel_rfl) (by kernel_rfl)).eq rfl) rfl (r_rem rfl (by omega) (by omega)) w trivial, .mk rfl⟩
        | 5 => exact step_take rfl rfl fun ac w hw hk => ⟨_, y_bin (S := fun _ => True) rfl rfl ((hk.dep 4 38 (by kernel_rfl) (by kernel_rfl)).eq rfl) (r_add rfl (by omega)) w trivial, .mk rfl⟩
        | 6 => exact step_take rfl rfl fun ac w hw hk => ⟨_, y_conv rfl ((hk.dep 5 39 (by kernel_rfl) (by kernel_rfl)).eq rfl) (run_byte _ (by omega) w), .mk rfl⟩
        | 7 =>
          refine step_new rfl rfl fun ac w hw hk => ?_
          have h1 : ac.eval (.tmp 40) = .int .u8 (48 + n.tmod 10) := (hk.dep 6 40 (by kernel_rfl) (by kernel_rfl)).eq rfl
          refine ⟨_, _, y_build (vs := [.int .u8 (48 + n.tmod 10)]) rfl ?_, ⟨_, rfl, Blk.new w _ _⟩⟩
          simp only [List.map_toArray, List.map_cons, List.map_nil, h1]
          exact run_build1 _ w
        | 8 =>
          refine step_take rfl rfl fun ac w hw hk => ?_
          obtain ⟨q, h1, hb⟩ := (hk.dep 7 41 (by kernel_rfl) (by kernel_rfl)).byte
          exact ⟨_, y_conv rfl h1 (run_str1 _ q w hb), .mk rfl⟩
        | 9 =>
          refine step_take rfl rfl fun ac w hw hk => ?_
          have h1 : ac.eval (.tmp 36) = .string (strOfNums (textI d)) := (hk.dep 2 36 (by kernel_rfl) (by kernel_rfl)).eq rfl
          have h2 : ac.eval (.tmp 42) = .string (strOfNums [48 + n.tmod 10]) := (hk.dep 8 42 (by kernel_rfl) (by kernel_rfl)).eq rfl
          have h3 : strOfNums (textI n) = strOfNums (textI d) ++ strOfNums [48 + n.tmod 10] := by rw [strOf_app, Hd.out, ← ht.out]
          refine ⟨.string (strOfNums (textI n)), ?_, .mk rfl⟩
          rw [h3]
          exact y_adds rfl h1 h2 (by have := hlen.out; have : (strOfNums [48 + n.tmod 10]).size = 1 := rfl; omega)
        | 10 => cases hF
        | _ + 11 => cases hF
      · intro vals w1 hn hTl
        have hv0 : vals 0 = .int .i64 n := (hTl 0 rfl).eq rfl
        have hv1 : vals 1 = .int .i64 d := (hTl 1 rfl).eq rfl
        have hv2 : vals 2 = .string (strOfNums (textI d)) := (hTl 2 rfl).eq rfl
        have hv3 : vals 3 = .int .i64 n := (hTl 3 rfl).eq rfl
        have hv4 : vals 4 = .int .i64 (n.tmod 10) := (hTl 4 rfl).eq rfl
        have hv5 : vals 5 = .int .i64 (48 + n.tmod 10) := (hTl 5 rfl).eq rfl
        have hv6 : vals 6 = .int .u8 (48 + n.tmod 10) := (hTl 6 rfl).eq rfl
        obtain ⟨q, hv7, -⟩ := (hTl 7 rfl).byte
        have hv8 : vals 8 = .string (strOfNums [48 + n.tmod 10]) := (hTl 8 rfl).eq rfl
        have hv9 : vals 9 = .string (strOfNums (textI n)) := (hTl 9 rfl).eq rfl
        clear hTl
        simp only [putL, Act.put, List.setIfInBounds_toArray, List.set_cons_zero, List.set_cons_succ, hv0, hv1, hv2, hv3, hv4, hv5, hv6, hv7, hv8, hv9]
        clear hv0 hv1 hv2 hv3 hv4 hv5 hv6 hv7 hv8 hv9 hm hd1 hl
        refine st_take (a' := ?_) rfl rfl (y_assign (v := .string (strOfNums (textI n))) rfl rfl) ?_ ?_
        rotate_left; (simp only [Act.put, List.setIfInBounds_toArray, List.set_cons_zero, List.set_cons_succ]; rfl)
        refine st_nil ?_
        go_wp2
        go_ret
        exact ⟨rfl, hn⟩
theorem dec_any (n : Int) (w : World) (h1 : -9223372036854775808 ≤ n) (h2 : n ≤ 9223372036854775807) : Calls Try.prog 16 #[.int .i64 n] w (IsText (textI n) w) := by
  obtain ⟨m, hm⟩ : ∃ m, m = n.natAbs := ⟨_, rfl⟩
  induction m using Nat.strongRecOn generalizing n w with
  | ind m ih => exact dec_step n w h1 h2 fun k w' hk g1 g2 => ih k.natAbs (by omega) k w' g1 g2 rfl
end Go.Proofs.Ytecgdgjlmlpcnaa
