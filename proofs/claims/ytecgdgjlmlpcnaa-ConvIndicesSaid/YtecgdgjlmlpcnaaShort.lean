/- Steps of the printed walks, in short. -/
import Derived.Test.YtecgdgjlmlpcnaaRegS
import Derived.Test.YtecgdgjlmlpcnaaRow
import Derived.Test.YtecgdgjlmlpcnaaLoop
namespace Go.Proofs.Ytecgdgjlmlpcnaa
open Go.RowKit
theorem pn {a a' : Act} {d j : Nat} {v x : Value} (h : a' = a.put (some d) v) (hx : a.eval (.tmp j) = x) (hd : d ≠ j) : a'.eval (.tmp j) = x := by rw [h, put_ne _ _ _ _ hd]; exact hx
theorem hB {v : Value} {t b : Bool} (h : v = .bool t) (ht : t = b) : v = .bool b := h.trans (congrArg Value.bool ht)
theorem aft {ops : Array Oper} {F : Array Bool} {news : List Nat} {T : Nat → Value → World → Prop} {a0 a : Act} {w w0 w1 : World} {N : Nat} {Fr : Nat → Prop} (h : After ops F news T a0 a w) (hs : a0.tmps.size = N) (hd : a0.defers = []) (hN : Upd Fr w0 w1) (hn : New w1 w) : a.tmps.size = N ∧ a.defers = [] ∧ Upd Fr w0 w := ⟨h.size.trans hs, h.defers.trans hd, hN.transNew hn⟩
end Go.Proofs.Ytecgdgjlmlpcnaa
