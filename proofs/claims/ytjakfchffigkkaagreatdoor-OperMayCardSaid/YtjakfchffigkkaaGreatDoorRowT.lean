/- Slices of strings: reading, building. -/
import Derived.Test.YtjakfchffigkkaaGreatDoorRow
import Derived.Test.YtjakfchffigkkaaGreatDoorCvSeat
import Derived.Test.YtjakfchffigkkaaGreatDoorStr
namespace Go.Proofs.YtjakfchffigkkaaGreatDoor
open Go.RowKit
set_option linter.unusedVariables false
set_option linter.unusedSimpArgs false
abbrev svT (A : Option Addr) (xs : List ByteArray) (c : Nat) : Value := .slice A xs.length c
def encT (xs : List ByteArray) : List Value := xs.map .string
def TRow (w : World) (A : Option Addr) (xs : List ByteArray) (c : Nat) : Prop := RowAt w 1 (svT A xs c) xs.length (encT xs)
theorem elT : ElemT Tryz.prog 58 9 (.string ⟨#[]⟩) 1 16 := ⟨Tryz.underlying58, by kernel_rfl, rfl, by omega⟩
theorem encT_get (xs : List ByteArray) (i : Nat) (h : i < xs.length) : (encT xs)[i]? = some (.string (xs.getD i ⟨#[]⟩)) := by simp [encT, List.getD, h]
section
variable {w w' : World} {A : Option Addr} {xs : List ByteArray} {c : Nat}
theorem TRow.new_ (h : TRow w A xs c) (hn : New w w') : TRow w' A xs c := RowAt.new_ h hn
theorem TRow.at (h : TRow w A xs c) {i : Nat} (hi : i < xs.length) : ∃ b o, A = some ⟨b, o, none⟩ ∧ SElem w b (o + i) (.string (xs.getD i ⟨#[]⟩)) := by
  rcases h.2 with ⟨h0, _⟩ | ⟨b, o, c', hv, hc, hm, hb, hx⟩
  · omega
  · injection hv with hA _ _
    exact ⟨b, o, hA, hx i _ (encT_get xs i hi), hb⟩
theorem TRow.max (h : TRow w A xs c) : (xs.length : Int) ≤ 9223372036854775807 := by
  rcases h.2 with ⟨h0, _⟩ | ⟨_, _, c', _, hc, hm, _⟩
  · omega
  · unfold maxLen at hm; omega
theorem tfresh (w : World) (e : TypeId) (ys : List ByteArray) (hm : ys.length ≤ maxLen) : TRow (w.alloc (.cells (encT ys).toArray e)) (some ⟨w.heap.size, 0, none⟩) ys ys.length :=
  (Own.row (base := w.heap.size) (e := e) (.inl ⟨by simp [encT], .inr ⟨w.heap.size, _, _, rfl, Nat.le_refl _, heap_alloc_new w _, Nat.le_refl _, hm, by simp [encT], by rw [Nat.mul_one]; exact List.take_of_length_le (by simp [encT])⟩⟩))
end
section
variable {P : Program} {o : Oper} {a : Act} {w : World} {t e : TypeId} {z : Value} {by_ : Nat} {A : Option Addr} {xs : List ByteArray} {c : Nat} {T : Value → World → Prop}
theorem v_lenT {x : Operand} (ho : o.op = .call { callee := .builtin .len, args := #[x], argTypes := #[t] }) (hE : ElemT P t e z 1 by_) (hx : a.eval x = svT A xs c) : (execOp a.eval o).run P w = .ok (.value (.int .i64 (xs.length : Int))) w := by
  have h : (Builtin.len_ #[t] o.type #[.slice A xs.length c]).run P w = .ok (goInt xs.length) w := by simp [Builtin.len_, run_underlying hE.1]
  simp [execOp, ho, resolve, invoke, builtin, hx, h, goInt]
theorem x_eaddrT {x y : Operand} {k' : IntKind} {i : Int} (ho : o.op = .indexAddr t x y) (hE : ElemT P t e z 1 by_) (hx : a.eval x = svT A xs c) (hy : a.eval y = .int k' i) (hr : TRow w A xs c) (hi : 0 ≤ i ∧ i < xs.length)
    (h : ∀ b o', SElem w b o' (.string (xs.getD i.toNat ⟨#[]⟩)) → T (.pointer (some ⟨b, o', none⟩)) w) : ∃ v, (execOp a.eval o).run P w = .ok (.value v) w ∧ T v w := by
  obtain ⟨ht, hinfo, _, _⟩ := hE
  obtain ⟨it, hit, _, hsize, _⟩ := info_parts hinfo
  obtain ⟨b, o', rfl, he⟩ := hr.at (i := i.toNat) (by omega)
  refine ⟨_, ?_, h b (o' + i.toNat) he⟩
  have hadd : (⟨b, o', none⟩ : Addr).add i.toNat = ⟨b, o' + i.toNat, none⟩ := by unfold Addr.add; split <;> simp_all
  simp [execOp, ho, hx, hy, Instr.indexAt, run_underlying ht, asIntOf, sizeOf, typeInfo, hit, hsize, hi, hadd]
theorem x_bsliceT {parts : Array (Nat × Operand)} {n : Nat} {ps : List (Nat × Value)} (ys : List ByteArray) (ho : o.op = .buildSlice t n parts) (hp : (parts.map fun (i, x) => (i, a.eval x)) = ps.toArray) (hE : ElemT P t e z 1 by_) (hn : n = ys.length) (hn0 : 0 < n) (hsm : n ≤ 1000000)
    (hf : Instr.fill (fun i => some (i * 1, 1)) ((Array.range (n * 1)).map (z.cells[· % z.cells.size]!)) ps = some (encT ys).toArray)
    (h : ∀ A' c' w', TRow w' A' ys c' → T (svT A' ys c') w') : ∃ v w', (execOp a.eval o).run P w = .ok (.value v) w' ∧ New w w' ∧ T v w' := by
  obtain ⟨ht, hinfo, _, _⟩ := hE
  obtain ⟨it, hit, hz, hsize, _⟩ := info_parts hinfo
  refine ⟨svT (some ⟨w.heap.size, 0, none⟩) ys ys.length, w.alloc (.cells (encT ys).toArray e), ?_, (Upd.refl _ _).alloc _, h _ _ _ (tfresh w e ys (by unfold maxLen; omega))⟩
  have h := run_buildSlice (P := P) w t e n ps.toArray (encT ys).toArray it z ht hit hz (by rw [hsize]; omega) (by rw [hsize]; omega) (by rw [hsize]; exact hf)
  simp only [execOp, ho, hp, Sem.run_bind, h, Result.andThen_ok]
  rw [hn]
  rfl
end
end Go.Proofs.YtjakfchffigkkaaGreatDoor
