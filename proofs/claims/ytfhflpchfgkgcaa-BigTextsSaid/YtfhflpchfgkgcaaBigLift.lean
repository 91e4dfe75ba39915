/- From the form's reading of a number to BigAt. -/
import Derived.Test.YtfhflpchfgkgcaaBigB
import Derived.Test.YtfhflpchfgkgcaaLiftA
import Derived.Lib.SmallJoins
namespace Go.Proofs.Ytfhflpchfgkgcaa
open Go.ChangeShapes Go.WideShapes Go.ChangeAt Go.RowKit Go.Deep
section
variable {H : Type} {enc : TypeId × Value → H} {w : World} {base : Nat} {spare : Nat → Bool} {held : Bool}
theorem bigAt_of {r : Reach} {b0 : Nat} {v : Value} {d : DataW H} {p : List MemPlace} (hv : Value.okWide Try.prog w r b0 24 v) (h : DataW.Trod enc Try.prog w base spare held 24 v d p) : ∃ z, BigAt w v z := by
  obtain ⟨v0, v1, y0, y1, n, rfl, -, -, h0, h1⟩ := Joins.open_agg2 Try.underlying24 (by kernel_rfl) (by kernel_rfl) hv h
  obtain ⟨b, hb, _⟩ := DataW.trod_bool Try.underlying4 h0
  simp at hb
  subst hb
  obtain ⟨zs, hr, hwf⟩ := rowAt_ints Try.underlying22 Try.underlying50 (by kernel_rfl) h1
  have hb32 : ∀ z ∈ zs, 0 ≤ z ∧ z < 4294967296 := fun z hz => by
    have := bounds_u32 (hwf z hz)
    omega
  have he : zs.map (Value.int .u32) = encW (zs.map Int.toNat) := by
    simp only [encW, List.map_map]
    refine List.map_congr_left fun z hz => ?_
    have := hb32 z hz
    show Value.int .u32 z = .int .u32 ((z.toNat : Nat) : Int)
    rw [Int.toNat_of_nonneg this.1]
  refine ⟨_, b, v1, zs.map Int.toNat, rfl, ?_, ?_, rfl⟩
  · rw [he] at hr
    simpa using hr
  · intro x hx
    obtain ⟨z, hz, rfl⟩ := List.mem_map.1 hx
    have := hb32 z hz
    omega
end
end Go.Proofs.Ytfhflpchfgkgcaa
