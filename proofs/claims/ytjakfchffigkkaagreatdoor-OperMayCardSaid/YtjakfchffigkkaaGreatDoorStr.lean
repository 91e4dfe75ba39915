import Derived.Test.YtjakfchffigkkaaGreatDoorArith
import Derived.Laws.BytesArg
namespace Go.Proofs.YtjakfchffigkkaaGreatDoor
open Go.RowKit
set_option linter.unusedVariables false
set_option linter.unusedSimpArgs false
def bAt (s : ByteArray) (i : Nat) : Nat := (s.data.toList.getD i 0).toNat
theorem bAt_lt (s : ByteArray) (i : Nat) : bAt s i < 256 := (s.data.toList.getD i 0).toNat_lt
def strN (xs : List Nat) : ByteArray := ⟨(xs.map UInt8.ofNat).toArray⟩
theorem strN_size (xs : List Nat) : (strN xs).size = xs.length := by simp [strN, ByteArray.size]
theorem strN_app (xs ys : List Nat) : strN xs ++ strN ys = strN (xs ++ ys) := by
  apply ByteArray.ext
  simp [strN]
theorem strN_nums (xs : List Nat) : strOfNums (xs.map fun x : Nat => (x : Int)) = strN xs := by
  unfold strOfNums strN
  congr 1
  rw [List.map_map]
  congr 1
theorem s_len (s : ByteArray) : s.data.toList.length = s.size := Array.length_toList
section
variable {P : Program} {o : Oper} {a : Act} {w : World}
theorem v_idxN {t : TypeId} {x y : Operand} {s : ByteArray} {k : IntKind} {i : Int} (ho : o.op = .index t x y) (hx : a.eval x = .string s) (hy : a.eval y = .int k i) (hu : P.underlying t = some .string) (hb : 0 ≤ i ∧ i < s.size) :
    (execOp a.eval o).run P w = .ok (.value (.int .u8 ((bAt s i.toNat : Nat) : Int))) w := by
  have h := run_index_string w t s k i hu
  rw [dif_pos hb] at h
  have e : bAt s i.toNat = (s[i.toNat]'(by omega)).toNat := by
    have e2 := s_len s
    have hl : i.toNat < s.data.toList.length := by omega
    unfold bAt
    rw [List.getD_eq_getElem?_getD, List.getElem?_eq_getElem hl]; rfl
  rw [e]
  simp [execOp, ho, hx, hy, h]
theorem v_lenS {x : Operand} {ty : TypeId} {s : ByteArray} (ho : o.op = .call { callee := .builtin .len, args := #[x], argTypes := #[ty] }) (hx : a.eval x = .string s) (hu : P.underlying ty = some .string) : (execOp a.eval o).run P w = .ok (.value (.int .i64 (s.size : Int))) w := by
  have h := run_len_string w ty o.type s hu
  simp [execOp, ho, resolve, invoke, builtin, hx, h, goInt]
theorem v_tailS {t : TypeId} {x y : Operand} {k : IntKind} {l : Int} {s : ByteArray} (ho : o.op = .slice t x (some y) none none) (hx : a.eval x = .string s) (hy : a.eval y = .int k l) (hu : P.underlying t = some .string) (hl : 0 ≤ l ∧ l ≤ s.size) :
    (execOp a.eval o).run P w = .ok (.value (.string (s.extract l.toNat s.size))) w := by
  have h := run_slice_string_l (P := P) w t s hu k l hl.1 hl.2
  have h2 := run_sliceAt_string (P := P) w t (.string s) (some (.int k l)) none none hu
  simp [execOp, ho, hx, hy, h2, h]
theorem ext_size (s : ByteArray) (l : Nat) (h : l ≤ s.size) : (s.extract l s.size).size = s.size - l := by simp
theorem v_strB {src e dst : TypeId} {x : Operand} {A : Option Addr} {xs : List Nat} {c : Nat} (ho : o.op = .convert src dst x) (hx : a.eval x = sv A xs c) (hr : SRow w .u8 A xs c) (hs : P.underlying src = some (.slice e)) (he : P.underlying e = some (.int .u8)) (hd : P.underlying dst = some .string) :
    (execOp a.eval o).run P w = .ok (.value (.string (strN xs))) w := by
  have h : (convert src dst (sv A xs c)).run P w = .ok (.string (strN xs)) w := by
    cases A with
    | none =>
      have h0 : xs = [] := by
        rcases hr.2 with ⟨h0, _⟩ | ⟨b, off, c', hv, _⟩
        · exact List.eq_nil_of_length_eq_zero h0
        · cases hv
      subst h0
      exact run_convert_bytes_nil w src e hs he 0 c dst hd
    | some ad =>
      rcases hr.2 with ⟨h0, _⟩ | ⟨b, off, c', hv, hc, hm, hb, hxx⟩
      · have h1 := List.eq_nil_of_length_eq_zero h0
        subst h1
        obtain ⟨b, off, m⟩ := ad
        have hl : (loadCells ⟨b, off, m⟩ 0).run P w = .ok #[] w := by simp [loadCells, loadCellsFrom]
        show (convert src dst (.slice (some ⟨b, off, m⟩) 0 c)).run P w = _
        rw [run_convert_bytes_string w src dst e _ 0 c hs he hd, run_bytesToString w _ 0 c [] hl]
        rfl
      · injection hv with hA _ _
        injection hA with hA
        subst hA
        have := run_convert_bytes_arg w src e hs he b off xs.length c (xs.map fun x : Nat => (x : Int)) (by simp) (fun i hi => by
          have h2 := hxx i _ (enc_get .u8 xs i hi)
          rw [h2]
          simp [List.getD, hi]) dst hd
        rw [strN_nums] at this
        exact this
  simp [execOp, ho, hx, h]
end
theorem str_self (s : ByteArray) : strEq s s = true := by simp [strEq]
theorem strEq_iff {a b : ByteArray} : strEq a b = true ↔ a = b := by
  unfold strEq
  rw [beq_iff_eq, ByteArray.toList_eq, ByteArray.toList_eq]
  constructor
  · intro h
    apply ByteArray.ext
    exact Array.toList_inj.1 h
  · rintro rfl; rfl
theorem strN_nil {xs : List Nat} : strEq (strN xs) ⟨#[]⟩ = decide (xs = []) := by
  by_cases h : xs = []
  · subst h; rw [decide_eq_true rfl]; exact str_self _
  · rw [decide_eq_false h]
    cases hb : strEq (strN xs) ⟨#[]⟩ with
    | false => rfl
    | true =>
      have h1 := congrArg ByteArray.size (strEq_iff.1 hb)
      rw [strN_size] at h1
      exact absurd (List.eq_nil_of_length_eq_zero h1) h
theorem str_size0 {s : ByteArray} : strEq s ⟨#[]⟩ = decide (s.size = 0) := by
  cases hb : strEq s ⟨#[]⟩ with
  | true => rw [strEq_iff.1 hb]; rfl
  | false =>
    refine (decide_eq_false fun h => ?_).symm
    have : s = ⟨#[]⟩ := by
      apply ByteArray.ext
      have h2 := s_len s
      rw [h] at h2
      exact Array.toList_inj.1 (List.eq_nil_of_length_eq_zero h2)
    rw [this, str_self] at hb
    cases hb
end Go.Proofs.YtjakfchffigkkaaGreatDoor
