/- Guarded reads in a drawn region; a struct of four cells loaded; mails held against one another. -/
import Derived.Test.YtcjmapljcnmfaaaPostJ
import Derived.Laws.StructEq
namespace Go.Proofs.Ytcjmapljcnmfaaa
open Go.RowKit
section
variable {P : Program} {ops : Array Oper} {S : World → Prop}
theorem readsTo_stepG {i : Nat} {r : List Nat} {a a' b : Act} {o : Oper} {v : Value} (hi : ops.toList[i]? = some o) (hw : Region.wanted o (yielded ops a.tmps) = true)
    (hy : ∀ w, S w → (execOp a.eval o).run P w = .ok (.value v) w) (ha : a.put o.dst v = a') (h : readsTo P ops S r a' b) : readsTo P ops S (i :: r) a b :=
  ⟨o, v, by rw [← Array.getElem?_toList]; exact hi, .inl ⟨hw, hy⟩, by rw [ha]; exact h⟩
theorem y_load4 {a : Act} {o : Oper} {t : TypeId} {x : Operand} {b off : Nat} {v0 v1 v2 v3 : Value} (ho : o.op = .load t x) (hx : a.eval x = .pointer (some ⟨b, off, none⟩)) (ht : ∀ w, (isAgg t).run P w = .ok true w) (hs : ∀ w, (sizeOf t).run P w = .ok 4 w)
    (hc : ∀ w, S w → w.cell? ⟨b, off, none⟩ = some v0 ∧ w.cell? ⟨b, off + 1, none⟩ = some v1 ∧ w.cell? ⟨b, off + 2, none⟩ = some v2 ∧ w.cell? ⟨b, off + 3, none⟩ = some v3) :
    ∀ w, S w → (execOp a.eval o).run P w = .ok (.value (.agg #[v0, v1, v2, v3])) w := by
  intro w hS
  obtain ⟨h0, h1, h2, h3⟩ := hc w hS
  have hadd : ∀ q, q ≠ 0 → (⟨b, off, none⟩ : Addr).add q = ⟨b, off + q, none⟩ := by intro q hq; simp [Addr.add, hq]
  have hadd0 : (⟨b, off, none⟩ : Addr).add 0 = ⟨b, off, none⟩ := by simp [Addr.add]
  simp [execOp, ho, hx, Instr.loadAt, Instr.sureAddr, loadVar, ht, hs, loadCells, loadCellsFrom, load, Sem.run, hadd, hadd0, h0, h1, h2, h3]
end
theorem neqM (m : Ml) (w : World) : (binOp .neq 37 (aggM m) (aggM m)).run Try.prog w = .ok (.bool false) w := by
  have u3 := Try.underlying3
  have a3 := Try.isAgg3
  have z3 := Try.sizeOf3
  have hS : Try.prog.underlying 37 = some (.struct (Try.prog.fieldsOf 37)) := by kernel_rfl
  have hp : Try.prog.stoodInHeld 37 = false := by kernel_rfl
  simp only [aggM]
  rw [run_neq_struct, show (10000 : Nat) = 9999 + 1 from rfl, run_equalIn_agg w 9999 37 _ _ hS hp]
  simp only [Program.fieldsOf, Try.underlying37]
  go_simp
theorem y_neqM {S : World → Prop} {a : Act} {o : Oper} {x y : Operand} {m : Ml} (ho : o.op = .binOp .neq 37 x y 37) (hx : a.eval x = aggM m) (hy : a.eval y = aggM m) :
    ∀ w, S w → (execOp a.eval o).run Try.prog w = .ok (.value (.bool false)) w := by
  intro w _
  have hg := run_eqGuard_agg (P := Try.prog) (w := w) .neq 37 x y #[.int .i64 m.bl, .int .i64 m.ln, .int .i64 m.by_, .int .i64 m.ev] #[.int .i64 m.bl, .int .i64 m.ln, .int .i64 m.by_, .int .i64 m.ev] (by kernel_rfl)
  have hn := neqM m w
  simp only [aggM] at hn hx hy
  simp [execOp, ho, hx, hy, hg, hn]
end Go.Proofs.Ytcjmapljcnmfaaa
