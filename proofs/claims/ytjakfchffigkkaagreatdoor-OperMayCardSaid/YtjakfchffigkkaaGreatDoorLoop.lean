import Derived.Test.YtjakfchffigkkaaGreatDoorSym
import Derived.LoopN
import Derived.Tactics
namespace Go.Proofs.YtjakfchffigkkaaGreatDoor
open Go.RowKit
theorem then_n {I : Act → World → Prop} {Q : Exit → Act → World → Prop} {a : Act} {w : World} (h : I a w) : Exit.then I Q .normal a w := h
theorem rounds_go {P : Program} {c : Code} {Q : Exit → Act → World → Prop} {n : Nat} {a : Act} {w : World} (h : c.wp P (Exit.then (Code.rounds P c Q n) Q) a w) : Code.rounds P c Q (n + 1) a w := h
theorem rounds_of {P : Program} {ι : Type} {c : Code} {Q : Exit → Act → World → Prop} (I : ι → Act → World → Prop) (m : ι → Nat)
    (round : ∀ x a w, I x a w → c.wp P (Exit.then (fun a' w' => ∃ y, I y a' w' ∧ m y < m x) Q) a w) : ∀ n x a w, m x ≤ n → I x a w → Code.rounds P c Q (n + 1) a w
  | 0, x, a, w, hm, hI => wp_mono (round x a w hI) fun e a' w' h => by
    cases e with
    | normal => obtain ⟨y, -, hy⟩ := h; omega
    | _ => exact h
  | n + 1, x, a, w, hm, hI => wp_mono (round x a w hI) fun e a' w' h => by
    cases e with
    | normal => obtain ⟨y, hy, hlt⟩ := h; exact rounds_of I m round n y a' w' (by omega) hy
    | _ => exact h
theorem wp_loopX {P : Program} {ι : Type} {c : Code} {Q : Exit → Act → World → Prop} {a : Act} {w : World} (I : ι → Act → World → Prop) (m : ι → Nat) (h0 : ∃ x, I x a w)
    (round : ∀ x a w, I x a w → c.wp P (Exit.then (fun a' w' => ∃ y, I y a' w' ∧ m y < m x) Q) a w) : (Code.loop c).wp P Q a w := by
  obtain ⟨x, hx⟩ := h0
  exact wp_loop_rounds _ (rounds_of I m round _ x a w (Nat.le_refl _) hx)
end Go.Proofs.YtjakfchffigkkaaGreatDoor
