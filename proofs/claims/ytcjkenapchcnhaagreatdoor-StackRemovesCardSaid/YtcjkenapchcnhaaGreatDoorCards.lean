/-
  DERIVED. GIVEN WITH THE SEED: THE CARDS: each row of YtcjkenapchcnhaaGreatDoorRows.lean that lists a variable, with what it lists TIED to the program's text (the seventh form; the later family's looks); each row that meets fmt, with fmt's text TOLD by the authors' own Lean function (tested against real Go, not proved from fmt's source: count such statements apart). THE CARD IS WHAT COUNTS. Prove the row's statement (the work); the ties are given (YtcjkenapchcnhaaGreatDoorTie.lean); close each card by the builder's one call (the guide's Derived/Test/ToyasCard.lean, 'card_holds'). Laid BY PROGRAM, IN A SANDBOX (cutbox-door.mjs). By AI agents, Wed Nov 11 2026. No macro, syntax, notation, axiom, sorry.
-/
import Derived.Test.YtcjkenapchcnhaaGreatDoorRows
import GoSem.ClaimSeven
namespace Go.Proofs.YtcjkenapchcnhaaGreatDoor
namespace Rows

/-- THE TIED CARD OF 'klippelaw28.StackRemoves'. -/
def stackRemovesCard : Claim7 := { stood := { row := stackRemovesRow, standIns := [], harness := (true, "4ff107a353006abd50e15faee6fab76018bbf1d8c685abab9ead72e6bd950c11"), looks := true }, kinds := [], alts := [], laidByText := true, laidKinds := [.data, .data, .data, .sentinel, .sentinel], laidTests := true, laidLooks := .later }
def StackRemovesCardSaid : Prop := Claim7.holds Tryz.pinned (.plain (OpenSpec.ofChange stackRemovesSpec)) stackRemovesCard

/-- THE TIED CARD OF 'klippelaw28.StackReturns'. -/
def stackReturnsCard : Claim7 := { stood := { row := stackReturnsRow, standIns := [], harness := (true, "4ff107a353006abd50e15faee6fab76018bbf1d8c685abab9ead72e6bd950c11"), looks := true }, kinds := [], alts := [], laidByText := true, laidKinds := [.data, .data, .data, .sentinel, .sentinel], laidTests := true, laidLooks := .later }
def StackReturnsCardSaid : Prop := Claim7.holds Tryz.pinned (.plain (OpenSpec.ofChange stackReturnsSpec)) stackReturnsCard

/-- THE SECOND FORM's CARD OF 'klippelaw28.StackRemoves'. -/
def stackRemovesUptoCard : Claim7 := { stood := { row := stackRemovesUptoRow, standIns := [], harness := (true, "4ff107a353006abd50e15faee6fab76018bbf1d8c685abab9ead72e6bd950c11"), looks := true }, kinds := [], alts := [], laidByText := true, laidKinds := [.data, .data, .data, .sentinel, .sentinel], laidTests := true, laidLooks := .later }
def StackRemovesUptoCardSaid : Prop := Claim7.holds Tryz.pinned (.plain (OpenSpec.upto stackRemovesSpec)) stackRemovesUptoCard

/-- THE SECOND FORM's CARD OF 'klippelaw28.StackReturns'. -/
def stackReturnsUptoCard : Claim7 := { stood := { row := stackReturnsUptoRow, standIns := [], harness := (true, "4ff107a353006abd50e15faee6fab76018bbf1d8c685abab9ead72e6bd950c11"), looks := true }, kinds := [], alts := [], laidByText := true, laidKinds := [.data, .data, .data, .sentinel, .sentinel], laidTests := true, laidLooks := .later }
def StackReturnsUptoCardSaid : Prop := Claim7.holds Tryz.pinned (.plain (OpenSpec.upto stackReturnsSpec)) stackReturnsUptoCard
end Rows
end Go.Proofs.YtcjkenapchcnhaaGreatDoor
