import Derived.Test.YtjakfchffigkkaaGreatDoorShort
namespace Go.Proofs.YtjakfchffigkkaaGreatDoor
open Go.RowKit
set_option linter.unusedVariables false
theorem After.G {ops : Array Oper} {F : Array Bool} {news : List Nat} {Ts : List (Value → World → Prop)} {a0 a : Act} {w : World} (ha : After ops F news (TL Ts) a0 a w) (k d : Nat) (h1 : F.getD k false = true := by rfl) (h2 : (ops[k]?).bind (·.dst) = some d := by kernel_rfl) : TL Ts k (a.eval (.tmp d)) w := ha.got k d h1 h2
theorem SRow.fr {w w' : World} {k : IntKind} {A : Option Addr} {xs : List Nat} {c q : Nat} {T : TypeId} {cs : List Value} (h : SRow w k A xs c) (hb : Blk w q T cs) (hu : Upd (fun b => b = q) w w') (hn : cs.all (notK k) = true := by first | rfl | decide | simp [notK]) : SRow w' k A xs c := h.far hb hu hn
theorem SOwn.fr {w w' : World} {b : Nat} {e : TypeId} {k : IntKind} {A : Option Addr} {xs : List Nat} {c q : Nat} {T : TypeId} {cs : List Value} (h : SOwn w b e k A xs c) (hb : Blk w q T cs) (hu : Upd (fun b => b = q) w w') (hne : e ≠ T := by first | rfl | decide | simp [notK]) : SOwn w' b e k A xs c := h.far hb hu hne
abbrev z7 : List Value := [iv 0, iv 0, iv 0, .bool false, sv none [] 0, sv none [] 0, iv 0]
end Go.Proofs.YtjakfchffigkkaaGreatDoor
