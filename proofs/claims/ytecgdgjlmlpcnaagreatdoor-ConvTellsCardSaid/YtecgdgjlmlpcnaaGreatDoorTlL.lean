/- From the form's reading of a value of chapter 9 (a number, a row of units) to the walks' words. -/
import Derived.Test.YtecgdgjlmlpcnaaGreatDoorTlf
import Derived.Test.YtecgdgjlmlpcnaaGreatDoorTlLf
import Derived.Lib.SmallJoins
namespace Go.Proofs.YtecgdgjlmlpcnaaGreatDoor
open Go.ChangeShapes Go.WideShapes Go.ChangeAt Go.RowKit Go.Deep
section
variable {H : Type} {enc : TypeId × Value → H} {w : World} {base : Nat} {spare : Nat → Bool} {held : Bool}
theorem array7 {α : Type} {cs : Array α} (h : cs.size = 7) : ∃ c0 c1 c2 c3 c4 c5 c6, cs = #[c0, c1, c2, c3, c4, c5, c6] := by
  obtain ⟨l⟩ := cs
  match l, h with
  | [c0, c1, c2, c3, c4, c5, c6], _ => exact ⟨c0, c1, c2, c3, c4, c5, c6, rfl⟩
theorem srow_of {k : IntKind} {hi : Int} (hb : ∀ z, (Lit.int k z).wf = true → 0 ≤ z ∧ z ≤ hi) {t e : TypeId} {fuel : Nat} {v : Value} {x : DataW H × List MemPlace} (ht : Tryz.prog.underlying t = some (.slice e)) (he : Tryz.prog.underlying e = some (.int k)) (hc : Tryz.prog.cellsOf e = 1)
    (h : DataW.trod enc Tryz.prog w base spare held fuel t [v] = some x) : ∃ A xs c, v = sv A xs c ∧ SRow w k A xs c ∧ ∀ y ∈ xs, (y : Int) ≤ hi := by
  obtain ⟨zs, hr, hwf⟩ := rowAt_ints ht he hc h
  obtain ⟨A, c, rfl⟩ := hr.form
  have he : zs.map (Value.int k) = Go.Proofs.YtecgdgjlmlpcnaaGreatDoor.enc k (zs.map Int.toNat) := by
    simp only [Go.Proofs.YtecgdgjlmlpcnaaGreatDoor.enc, List.map_map]
    refine List.map_congr_left fun z hz => ?_
    have := hb z (hwf z hz)
    show Value.int k z = .int k ((z.toNat : Nat) : Int)
    rw [Int.toNat_of_nonneg this.1]
  refine ⟨A, zs.map Int.toNat, c, ?_, ?_, ?_⟩
  · show Value.slice A zs.length c = Value.slice A (zs.map Int.toNat).length c
    rw [List.length_map]
  · rw [he] at hr
    show RowAt w 1 (.slice A (zs.map Int.toNat).length c) (zs.map Int.toNat).length _
    rw [List.length_map]; exact hr
  · intro x hx
    obtain ⟨z, hz, rfl⟩ := List.mem_map.1 hx
    have := hb z (hwf z hz)
    omega
set_option maxRecDepth 100000 in
theorem num_of {n : Nat} {c1 c2 : Value} {y : DataW H × List MemPlace} (h : DataW.trod enc Tryz.prog w base spare held n 23 [c1, c2] = some y) : ∃ k m : Int, c1 = iv k ∧ c2 = iv m ∧ (Lit.int .i64 k).wf = true ∧ (Lit.int .i64 m).wf = true := by
  obtain ⟨xs, n', _, _, hl, hlen, hf⟩ := DataW.trod_struct Tryz.underlying23 h
  match xs, hlen with
  | [y0, y1], _ =>
    have k1 : Tryz.prog.cellsOf 3 = 1 := by kernel_rfl
    have f0 := hf 0 _ rfl
    have f1 := hf 1 _ rfl
    simp [k1] at f0 f1
    obtain ⟨k, rfl, w0⟩ := cell_int Tryz.underlying3 f0
    obtain ⟨m, rfl, w1⟩ := cell_int Tryz.underlying3 f1
    exact ⟨k, m, rfl, rfl, w0, w1⟩
set_option maxRecDepth 100000 in
theorem vl_of {r : Reach} {b0 : Nat} {v : Value} {d : DataW H} {p : List MemPlace} (hv : Value.okWide Tryz.prog w r b0 29 v) (h : DataW.Trod enc Tryz.prog w base spare held 29 v d p) :
    ∃ (x : Vl) (A : Option Addr) (c : Nat) (B : Option Addr) (e : Nat), v = vv x A c B e ∧ SRow w .u32 A x.mag c ∧ SRow w .u16 B x.s e ∧ Limbs x.mag ∧ U16s x.s ∧ (-9223372036854775808 ≤ x.nn ∧ x.nn ≤ 9223372036854775807 ∧ -9223372036854775808 ≤ x.ref ∧ x.ref ≤ 9223372036854775807) := by
  obtain ⟨cs, rfl, hsz⟩ := okWide_struct Tryz.underlying29 hv
  have k7 : Tryz.prog.cellsOf 29 = 7 := by kernel_rfl
  obtain ⟨c0, c1, c2, c3, c4, c5, c6, rfl⟩ := array7 (hsz.trans k7)
  obtain ⟨fuel, hf⟩ := h
  obtain ⟨xs, n, _, _, hl, hlen, hfs⟩ := DataW.trod_struct Tryz.underlying29 hf
  match xs, hlen with
  | [y0, y1, y2, y3, y4], _ =>
    have k1 : Tryz.prog.cellsOf 3 = 1 := by kernel_rfl
    have k2 : Tryz.prog.cellsOf 23 = 2 := by kernel_rfl
    have k3 : Tryz.prog.cellsOf 26 = 2 := by kernel_rfl
    have k4 : Tryz.prog.cellsOf 27 = 1 := by kernel_rfl
    have k5 : Tryz.prog.cellsOf 4 = 1 := by kernel_rfl
    have k6 : Tryz.prog.cellsOf 24 = 1 := by kernel_rfl
    have f0 := hfs 0 _ rfl
    have f1 := hfs 1 _ rfl
    have f2 := hfs 2 _ rfl
    have f3 := hfs 3 _ rfl
    have f4 := hfs 4 _ rfl
    simp [Value.cells, k1, k2, k3, k4] at f0 f1 f2 f3 f4
    obtain ⟨z0, rfl, w0⟩ := cell_int Tryz.underlying3 f0
    obtain ⟨z1, z2, rfl, rfl, w1, w2⟩ := num_of f1
    obtain ⟨ys, n', _, _, hl2, hlen2, hf2⟩ := DataW.trod_struct Tryz.underlying26 f2
    match ys, hlen2 with
    | [u0, u1], _ =>
      have g0 := hf2 0 _ rfl
      have g1 := hf2 1 _ rfl
      simp [k5, k6] at g0 g1
      obtain ⟨b, hb, _⟩ := DataW.trod_bool Tryz.underlying4 g0
      obtain rfl : c3 = .bool b := by simpa using hb
      obtain ⟨A, ms, c, rfl, hr, hm⟩ := srow_of (k := .u32) (hi := 4294967295) (fun z h => bounds_u32 h) Tryz.underlying24 Tryz.underlying59 (by kernel_rfl) g1
      obtain ⟨B, us, e, rfl, hr2, hm2⟩ := srow_of (k := .u16) (hi := 65535) (fun z h => bounds_u16 h) Tryz.underlying27 Tryz.underlying79 (by kernel_rfl) f3
      obtain ⟨z6, rfl, w6⟩ := cell_int Tryz.underlying3 f4
      have q1 := bounds_i64 w2
      have q2 := bounds_i64 w6
      exact ⟨⟨z0, z1, z2, b, ms, us, z6⟩, A, c, B, e, rfl, hr, hr2, fun x hx => by have := hm x hx; omega, fun x hx => by have := hm2 x hx; omega, q1.1, q1.2, q2.1, q2.2⟩
set_option maxRecDepth 100000 in
theorem nm_of {r : Reach} {b0 : Nat} {v : Value} {d : DataW H} {p : List MemPlace} (hv : Value.okWide Tryz.prog w r b0 23 v) (h : DataW.Trod enc Tryz.prog w base spare held 23 v d p) : ∃ a : Nm, v = nv a ∧ (Lit.int .i64 a.k).wf = true ∧ (Lit.int .i64 a.n).wf = true := by
  obtain ⟨cs, rfl, hsz⟩ := okWide_struct Tryz.underlying23 hv
  have k2 : Tryz.prog.cellsOf 23 = 2 := by kernel_rfl
  obtain ⟨c0, c1, rfl⟩ := Joins.array2 (hsz.trans k2)
  obtain ⟨fuel, hf⟩ := h
  obtain ⟨k, m, rfl, rfl, w0, w1⟩ := num_of hf
  exact ⟨⟨k, m⟩, rfl, w0, w1⟩
set_option maxRecDepth 100000 in
theorem units_of {r : Reach} {b0 : Nat} {v : Value} {d : DataW H} {p : List MemPlace} (hv : Value.okWide Tryz.prog w r b0 27 v) (h : DataW.Trod enc Tryz.prog w base spare held 27 v d p) : ∃ A us c, v = sv A us c ∧ SRow w .u16 A us c ∧ U16s us := by
  obtain ⟨a, l, c0, rfl⟩ := okWide_slice Tryz.underlying27 hv
  obtain ⟨fuel, hf⟩ := h
  obtain ⟨A, us, c, hv, hr, hm⟩ := srow_of (k := .u16) (hi := 65535) (fun z h => bounds_u16 h) Tryz.underlying27 Tryz.underlying79 (by kernel_rfl) hf
  exact ⟨A, us, c, hv, hr, fun x hx => by have := hm x hx; omega⟩
end
end Go.Proofs.YtecgdgjlmlpcnaaGreatDoor
