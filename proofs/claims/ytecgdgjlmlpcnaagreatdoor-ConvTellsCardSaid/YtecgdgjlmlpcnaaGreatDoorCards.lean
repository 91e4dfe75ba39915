/-
  DERIVED. GIVEN WITH THE SEED: THE CARDS: each row of YtecgdgjlmlpcnaaGreatDoorRows.lean that lists a variable, with what it lists TIED to the program's text (the seventh form; the later family's looks); each row that meets fmt, with fmt's text TOLD by the authors' own Lean function (tested against real Go, not proved from fmt's source: count such statements apart). THE CARD IS WHAT COUNTS. Prove the row's statement (the work); the ties are given (YtecgdgjlmlpcnaaGreatDoorTie.lean); close each card by the builder's one call (the guide's Derived/Test/ToyasCard.lean, 'card_holds'). Laid BY PROGRAM, IN A SANDBOX (cutbox-door.mjs). By AI agents, Wed Nov 11 2026. No macro, syntax, notation, axiom, sorry.
-/
import Derived.Test.YtecgdgjlmlpcnaaGreatDoorRows
import GoSem.ClaimSeven
namespace Go.Proofs.YtecgdgjlmlpcnaaGreatDoor
namespace Rows

/-- THE TIED CARD OF 'renlaw10.ConvTells'. -/
def convTellsCard : Claim7 := { stood := { row := convTellsRow, standIns := [], harness := (true, "6a2036fbdf8f64131bc68d04ae7118d760627f77fb853041d62570ba46cabfed"), looks := false }, kinds := [], alts := [], laidByText := true, laidKinds := [.data, .data, .data], laidTests := true, laidLooks := .later }
def ConvTellsCardSaid : Prop := Claim7.holds Tryz.pinned (.plain (OpenSpec.ofChange convTellsSpec)) convTellsCard

/-- THE SECOND FORM's CARD OF 'renlaw10.ConvTells'. -/
def convTellsUptoCard : Claim7 := { stood := { row := convTellsUptoRow, standIns := [], harness := (true, "6a2036fbdf8f64131bc68d04ae7118d760627f77fb853041d62570ba46cabfed"), looks := false }, kinds := [], alts := [], laidByText := true, laidKinds := [.data, .data, .data], laidTests := true, laidLooks := .later }
def ConvTellsUptoCardSaid : Prop := Claim7.holds Tryz.pinned (.plain (OpenSpec.upto convTellsSpec)) convTellsUptoCard
end Rows
end Go.Proofs.YtecgdgjlmlpcnaaGreatDoor
