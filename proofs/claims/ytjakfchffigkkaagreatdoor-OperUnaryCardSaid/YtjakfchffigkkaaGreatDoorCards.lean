/-
  DERIVED. GIVEN WITH THE SEED: THE CARDS: each row of YtjakfchffigkkaaGreatDoorRows.lean that lists a variable, with what it lists TIED to the program's text (the seventh form; the later family's looks); each row that meets fmt, with fmt's text TOLD by the authors' own Lean function (tested against real Go, not proved from fmt's source: count such statements apart). THE CARD IS WHAT COUNTS. Prove the row's statement (the work); the ties are given (YtjakfchffigkkaaGreatDoorTie.lean); close each card by the builder's one call (the guide's Derived/Test/ToyasCard.lean, 'card_holds'). Laid BY PROGRAM, IN A SANDBOX (cutbox-door.mjs). By AI agents, Wed Nov 11 2026. No macro, syntax, notation, axiom, sorry.
-/
import Derived.Test.YtjakfchffigkkaaGreatDoorRows
import GoSem.ClaimSeven
namespace Go.Proofs.YtjakfchffigkkaaGreatDoor
namespace Rows

/-- THE TIED CARD OF 'renlaw11.OperMay'. -/
def operMayCard : Claim7 := { stood := { row := operMayRow, standIns := [], harness := (true, "0e1c82c5d170c3b1f648bace1b7c6b3622de7aaa267c0cd99f8baa8c0737a1f3"), looks := false }, kinds := [], alts := [], laidByText := true, laidKinds := [.data, .data, .data], laidTests := true, laidLooks := .later }
def OperMayCardSaid : Prop := Claim7.holds Tryz.pinned (.plain (OpenSpec.ofChange operMaySpec)) operMayCard

/-- THE TIED CARD OF 'renlaw11.OperTexts'. -/
def operTextsCard : Claim7 := { stood := { row := operTextsRow, standIns := [], harness := (true, "0e1c82c5d170c3b1f648bace1b7c6b3622de7aaa267c0cd99f8baa8c0737a1f3"), looks := false }, kinds := [], alts := [], laidByText := true, laidKinds := [.data, .data, .data], laidTests := true, laidLooks := .later }
def OperTextsCardSaid : Prop := Claim7.holds Tryz.pinned (.plain (OpenSpec.ofChange operTextsSpec)) operTextsCard

/-- THE TIED CARD OF 'renlaw11.OperLess'. -/
def operLessCard : Claim7 := { stood := { row := operLessRow, standIns := [], harness := (true, "0e1c82c5d170c3b1f648bace1b7c6b3622de7aaa267c0cd99f8baa8c0737a1f3"), looks := false }, kinds := [], alts := [], laidByText := true, laidKinds := [.data, .data, .data], laidTests := true, laidLooks := .later }
def OperLessCardSaid : Prop := Claim7.holds Tryz.pinned (.plain (OpenSpec.ofChange operLessSpec)) operLessCard

/-- THE TIED CARD OF 'renlaw11.OperBits'. -/
def operBitsCard : Claim7 := { stood := { row := operBitsRow, standIns := [], harness := (true, "0e1c82c5d170c3b1f648bace1b7c6b3622de7aaa267c0cd99f8baa8c0737a1f3"), looks := false }, kinds := [], alts := [], laidByText := true, laidKinds := [.data, .data, .data], laidTests := true, laidLooks := .later }
def OperBitsCardSaid : Prop := Claim7.holds Tryz.pinned (.plain (OpenSpec.ofChange operBitsSpec)) operBitsCard

/-- THE TIED CARD OF 'renlaw11.OperUnary'. -/
def operUnaryCard : Claim7 := { stood := { row := operUnaryRow, standIns := [], harness := (true, "0e1c82c5d170c3b1f648bace1b7c6b3622de7aaa267c0cd99f8baa8c0737a1f3"), looks := false }, kinds := [], alts := [], laidByText := true, laidKinds := [.data, .data, .data], laidTests := true, laidLooks := .later }
def OperUnaryCardSaid : Prop := Claim7.holds Tryz.pinned (.plain (OpenSpec.ofChange operUnarySpec)) operUnaryCard

/-- THE TIED CARD OF 'renlaw11.OperSums'. -/
def operSumsCard : Claim7 := { stood := { row := operSumsRow, standIns := [], harness := (true, "0e1c82c5d170c3b1f648bace1b7c6b3622de7aaa267c0cd99f8baa8c0737a1f3"), looks := false }, kinds := [], alts := [], laidByText := true, laidKinds := [.data, .data, .data], laidTests := true, laidLooks := .later }
def OperSumsCardSaid : Prop := Claim7.holds Tryz.pinned (.plain (OpenSpec.ofChange operSumsSpec)) operSumsCard

/-- THE TIED CARD OF 'renlaw11.OperSteps'. -/
def operStepsCard : Claim7 := { stood := { row := operStepsRow, standIns := [], harness := (true, "0e1c82c5d170c3b1f648bace1b7c6b3622de7aaa267c0cd99f8baa8c0737a1f3"), looks := false }, kinds := [], alts := [], laidByText := true, laidKinds := [.data, .data, .data], laidTests := true, laidLooks := .later }
def OperStepsCardSaid : Prop := Claim7.holds Tryz.pinned (.plain (OpenSpec.ofChange operStepsSpec)) operStepsCard

/-- THE SECOND FORM's CARD OF 'renlaw11.OperMay'. -/
def operMayUptoCard : Claim7 := { stood := { row := operMayUptoRow, standIns := [], harness := (true, "0e1c82c5d170c3b1f648bace1b7c6b3622de7aaa267c0cd99f8baa8c0737a1f3"), looks := false }, kinds := [], alts := [], laidByText := true, laidKinds := [.data, .data, .data], laidTests := true, laidLooks := .later }
def OperMayUptoCardSaid : Prop := Claim7.holds Tryz.pinned (.plain (OpenSpec.upto operMaySpec)) operMayUptoCard

/-- THE SECOND FORM's CARD OF 'renlaw11.OperTexts'. -/
def operTextsUptoCard : Claim7 := { stood := { row := operTextsUptoRow, standIns := [], harness := (true, "0e1c82c5d170c3b1f648bace1b7c6b3622de7aaa267c0cd99f8baa8c0737a1f3"), looks := false }, kinds := [], alts := [], laidByText := true, laidKinds := [.data, .data, .data], laidTests := true, laidLooks := .later }
def OperTextsUptoCardSaid : Prop := Claim7.holds Tryz.pinned (.plain (OpenSpec.upto operTextsSpec)) operTextsUptoCard

/-- THE SECOND FORM's CARD OF 'renlaw11.OperLess'. -/
def operLessUptoCard : Claim7 := { stood := { row := operLessUptoRow, standIns := [], harness := (true, "0e1c82c5d170c3b1f648bace1b7c6b3622de7aaa267c0cd99f8baa8c0737a1f3"), looks := false }, kinds := [], alts := [], laidByText := true, laidKinds := [.data, .data, .data], laidTests := true, laidLooks := .later }
def OperLessUptoCardSaid : Prop := Claim7.holds Tryz.pinned (.plain (OpenSpec.upto operLessSpec)) operLessUptoCard

/-- THE SECOND FORM's CARD OF 'renlaw11.OperBits'. -/
def operBitsUptoCard : Claim7 := { stood := { row := operBitsUptoRow, standIns := [], harness := (true, "0e1c82c5d170c3b1f648bace1b7c6b3622de7aaa267c0cd99f8baa8c0737a1f3"), looks := false }, kinds := [], alts := [], laidByText := true, laidKinds := [.data, .data, .data], laidTests := true, laidLooks := .later }
def OperBitsUptoCardSaid : Prop := Claim7.holds Tryz.pinned (.plain (OpenSpec.upto operBitsSpec)) operBitsUptoCard

/-- THE SECOND FORM's CARD OF 'renlaw11.OperUnary'. -/
def operUnaryUptoCard : Claim7 := { stood := { row := operUnaryUptoRow, standIns := [], harness := (true, "0e1c82c5d170c3b1f648bace1b7c6b3622de7aaa267c0cd99f8baa8c0737a1f3"), looks := false }, kinds := [], alts := [], laidByText := true, laidKinds := [.data, .data, .data], laidTests := true, laidLooks := .later }
def OperUnaryUptoCardSaid : Prop := Claim7.holds Tryz.pinned (.plain (OpenSpec.upto operUnarySpec)) operUnaryUptoCard

/-- THE SECOND FORM's CARD OF 'renlaw11.OperSums'. -/
def operSumsUptoCard : Claim7 := { stood := { row := operSumsUptoRow, standIns := [], harness := (true, "0e1c82c5d170c3b1f648bace1b7c6b3622de7aaa267c0cd99f8baa8c0737a1f3"), looks := false }, kinds := [], alts := [], laidByText := true, laidKinds := [.data, .data, .data], laidTests := true, laidLooks := .later }
def OperSumsUptoCardSaid : Prop := Claim7.holds Tryz.pinned (.plain (OpenSpec.upto operSumsSpec)) operSumsUptoCard

/-- THE SECOND FORM's CARD OF 'renlaw11.OperSteps'. -/
def operStepsUptoCard : Claim7 := { stood := { row := operStepsUptoRow, standIns := [], harness := (true, "0e1c82c5d170c3b1f648bace1b7c6b3622de7aaa267c0cd99f8baa8c0737a1f3"), looks := false }, kinds := [], alts := [], laidByText := true, laidKinds := [.data, .data, .data], laidTests := true, laidLooks := .later }
def OperStepsUptoCardSaid : Prop := Claim7.holds Tryz.pinned (.plain (OpenSpec.upto operStepsSpec)) operStepsUptoCard
end Rows
end Go.Proofs.YtjakfchffigkkaaGreatDoor
