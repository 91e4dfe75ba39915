/-
  DERIVED. GIVEN WITH THE SEED: THE CARDS: each row of YtecgdgjlmlpcnaaDoorRows.lean that lists a variable, with what it lists TIED to the program's text (the seventh form; the later family's looks); each row that meets fmt, with fmt's text TOLD by the authors' own Lean function (tested against real Go, not proved from fmt's source: count such statements apart). THE CARD IS WHAT COUNTS. Prove the row's statement (the work); the ties are given (YtecgdgjlmlpcnaaDoorTie.lean); close each card by the builder's one call (the guide's Derived/Test/ToyasCard.lean, 'card_holds'). Laid BY PROGRAM, IN A SANDBOX (cutbox-door.mjs). By AI agents, Wed Nov 11 2026. No macro, syntax, notation, axiom, sorry.
-/
import Derived.Test.YtecgdgjlmlpcnaaDoorRows
import GoSem.ClaimSeven
namespace Go.Proofs.YtecgdgjlmlpcnaaDoor
namespace Rows

/-- THE TIED CARD OF 'renlaw10.ConvTurns'. -/
def convTurnsCard : Claim7 := { stood := { row := convTurnsRow, standIns := [], harness := (true, "477e32acb39754db911e6aabc40b1f60c143551a174bd298cad93d987887c2b1"), looks := false }, kinds := [], alts := [], laidByText := true, laidKinds := [.data, .data, .data], laidTests := true, laidLooks := .later }
def ConvTurnsCardSaid : Prop := Claim7.holds Tryd.pinned (.plain (OpenSpec.ofChange convTurnsSpec)) convTurnsCard

/-- THE TIED CARD OF 'renlaw10.ConvOrder'. -/
def convOrderCard : Claim7 := { stood := { row := convOrderRow, standIns := [], harness := (true, "477e32acb39754db911e6aabc40b1f60c143551a174bd298cad93d987887c2b1"), looks := false }, kinds := [], alts := [], laidByText := true, laidKinds := [.data, .data, .data], laidTests := true, laidLooks := .later }
def ConvOrderCardSaid : Prop := Claim7.holds Tryd.pinned (.plain (OpenSpec.ofChange convOrderSpec)) convOrderCard

/-- THE TIED CARD OF 'renlaw10.ConvMay'. -/
def convMayCard : Claim7 := { stood := { row := convMayRow, standIns := [], harness := (true, "477e32acb39754db911e6aabc40b1f60c143551a174bd298cad93d987887c2b1"), looks := false }, kinds := [], alts := [], laidByText := true, laidKinds := [.data, .data, .data], laidTests := true, laidLooks := .later }
def ConvMayCardSaid : Prop := Claim7.holds Tryd.pinned (.plain (OpenSpec.ofChange convMaySpec)) convMayCard

/-- THE SECOND FORM's CARD OF 'renlaw10.ConvTurns'. -/
def convTurnsUptoCard : Claim7 := { stood := { row := convTurnsUptoRow, standIns := [], harness := (true, "477e32acb39754db911e6aabc40b1f60c143551a174bd298cad93d987887c2b1"), looks := false }, kinds := [], alts := [], laidByText := true, laidKinds := [.data, .data, .data], laidTests := true, laidLooks := .later }
def ConvTurnsUptoCardSaid : Prop := Claim7.holds Tryd.pinned (.plain (OpenSpec.upto convTurnsSpec)) convTurnsUptoCard

/-- THE SECOND FORM's CARD OF 'renlaw10.ConvOrder'. -/
def convOrderUptoCard : Claim7 := { stood := { row := convOrderUptoRow, standIns := [], harness := (true, "477e32acb39754db911e6aabc40b1f60c143551a174bd298cad93d987887c2b1"), looks := false }, kinds := [], alts := [], laidByText := true, laidKinds := [.data, .data, .data], laidTests := true, laidLooks := .later }
def ConvOrderUptoCardSaid : Prop := Claim7.holds Tryd.pinned (.plain (OpenSpec.upto convOrderSpec)) convOrderUptoCard

/-- THE SECOND FORM's CARD OF 'renlaw10.ConvMay'. -/
def convMayUptoCard : Claim7 := { stood := { row := convMayUptoRow, standIns := [], harness := (true, "477e32acb39754db911e6aabc40b1f60c143551a174bd298cad93d987887c2b1"), looks := false }, kinds := [], alts := [], laidByText := true, laidKinds := [.data, .data, .data], laidTests := true, laidLooks := .later }
def ConvMayUptoCardSaid : Prop := Claim7.holds Tryd.pinned (.plain (OpenSpec.upto convMaySpec)) convMayUptoCard
end Rows
end Go.Proofs.YtecgdgjlmlpcnaaDoor
