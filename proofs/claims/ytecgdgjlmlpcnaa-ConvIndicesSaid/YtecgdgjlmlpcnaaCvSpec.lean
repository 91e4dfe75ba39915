/- Values of chapter 9, as plain Lean: what may be one, whether two are alike. -/
import Derived.Test.YtecgdgjlmlpcnaaCvSeat
import Derived.Test.YtecgdgjlmlpcnaaNmPlain
import Derived.Test.YtecgdgjlmlpcnaaBigMath
namespace Go.Proofs.Ytecgdgjlmlpcnaa
open Go.RowKit
abbrev nv (a : Nm) : Value := .agg #[.int .i64 a.k, .int .i64 a.n]
theorem bsm : (∀ a : Bool, (a && true) = a) ∧ (∀ a : Bool, (true && a) = a) ∧ (∀ a : Bool, (a && false) = false) ∧ (∀ a : Bool, (false && a) = false) ∧ (∀ a : Bool, (a || true) = true) ∧ (∀ a : Bool, (true || a) = true) ∧ (∀ a : Bool, (a || false) = a) ∧ (∀ a : Bool, (false || a) = a) ∧ (!true) = false ∧ (!false) = true ∧
    (∀ (α : Type) (a b : α), (if True then a else b) = a) ∧ (∀ (α : Type) (a b : α), (if False then a else b) = b) ∧ (false = true) = False ∧ decide True = true ∧ decide False = false ∧ ([] : List Nat).length = 0 := by
  refine ⟨?_, ?_, ?_, ?_, ?_, ?_, ?_, ?_, ?_, ?_, ?_, ?_, ?_, ?_, ?_, ?_⟩ <;> simp
structure Vl where
  k : Int
  nk : Int
  nn : Int
  neg : Bool
  mag : List Nat
  s : List Nat
  ref : Int
abbrev vv (v : Vl) (A : Option Addr) (c : Nat) (B : Option Addr) (d : Nat) : Value := .agg #[iv v.k, iv v.nk, iv v.nn, .bool v.neg, sv A v.mag c, sv B v.s d, iv v.ref]
abbrev Vl.num (v : Vl) : Nm := ⟨v.nk, v.nn⟩
def Vl.z : Vl := ⟨0, 0, 0, false, [], [], 0⟩
def zeroV (v : Vl) : Bool := decide (v.nk = 0) && decide (v.nn = 0) && !v.neg && decide ((v.mag.length : Int) = 0) && decide ((v.s.length : Int) = 0) && decide (v.ref = 0)
def mayV (v : Vl) : Bool :=
  if decide (v.k = 0) || decide (v.k = 1) then zeroV v
  else if decide (v.k = 2) then zeroV { v with ref := 0 } && (decide (v.ref = 0) || decide (v.ref = 1))
  else if decide (v.k = 3) then zeroV { v with nk := 0, nn := 0 } && nmayB v.num
  else if decide (v.k = 4) then zeroV { v with neg := false, mag := [] } && mayB v.neg v.mag
  else if decide (v.k = 5) then zeroV { v with s := [] } && decide ((v.s.length : Int) ≤ 4096)
  else if decide (v.k = 6) then zeroV { v with ref := 0 } && !decide (v.ref < 0)
  else false
def cleanV (v : Vl) : Vl := if mayV v then v else Vl.z
end Go.Proofs.Ytecgdgjlmlpcnaa
